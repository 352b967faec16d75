/- An evaluator of Go functions on plain data, its soundness, and plain laws on what the functions compute, part 3 (conditions: as each lemma tells). -/
import Derived.Test.YtdgeblmmmffgfaaGreatDoorB
import Derived.LoopN
import Derived.ChangeArms
import Derived.ChangeStays
import Derived.ChangeSame
import Derived.WideShapes
import Derived.RowKit
import Derived.Handed
import Derived.JoinedOf
import Derived.Lib.Split
import Derived.Lib.Join
import Derived.Lib.ItoaNum
import Derived.Lib.IndexMore
import Derived.Lib.Bytealg
import Derived.Lib.Atoi
import Derived.Shelf.Sort.Plain
import Derived.Shelf.Slices.In.SortNone2
import Derived.Shelf.LaysM
import Derived.Shelf.Strings.Split
import Derived.Shelf.Strings.OnBuilder
import Derived.Shelf.Strconv.Itoa3
import Derived.LaidLaws
import Derived.LaidHandle
import Derived.Lib.LaidTab
import Derived.Shelf.Strings.Cut
import Derived.Shelf.Strings.Search3
import Derived.Shelf.Small.Strs
import Derived.Lib.AtoiBound
import Derived.IntWalk
set_option linter.unusedSimpArgs false
set_option linter.unusedVariables false
namespace KF
open Go
open List renaming length → ja, getElem?_eq_getElem → je, append → jf, mem_append → jl, mem_cons → jp, mem_cons_of_mem → jr, length_cons → jv, set → j4, length_nil → j6, length_set → j7, mem_singleton → qb, length_append → qc, getElem?_append_left → qe, getElem?_append_right → qf, getD_eq_getElem?_getD → qg, getElem_mem → qj, getElem_of_mem → qk, mem_map → ql, getElem?_set_self → qm, length_drop → qn, length_take → qo, mem_cons_self → qq
open Option renaming bind_some → jb, bind → jy, map_some → qa, bind_eq_some_iff → qd
open Option.some renaming injEq → jc
open Bool renaming and_eq_true → jd, not_true → jg, true_and → jk, false_eq_true → jq, not_eq_true → j8, eq_iff_iff → qp
open Prod.mk renaming injEq → jh
open Nat renaming ble_eq_true_of_le → ji, mul_le_mul_right → jm, le_refl → jo, zero_add → js, add_assoc → jt, eq_of_beq_eq_true → ju, ble → jw, le_trans → j9, lt_of_lt_of_le → qi
open Int renaming toNat_natCast → jn, toNat → jx
open Go.IntKind renaming wrap → jz
open Sum renaming elim → j5, elim_inl → qh
open Result renaming andThen_ok → qr
open Sem renaming run_bind → qs
theorem I1 {p q : Nat → Bool} {i : Nat} (hpq : ∀ j, q j = true → p j = true) (hp : p i = true) (hq : q i = false) : ∀ n, i < n → (List.range n).countP q < (List.range n).countP p := by
 have hle : ∀ n, (List.range n).countP q ≤ (List.range n).countP p := fun n => List.countP_mono_left fun j _ h => hpq j h
 intro n
 induction n with
 | zero => intro h; omega
 | succ n ih =>
  intro h
  rw [List.range_succ, List.countP_append, List.countP_append]
  by_cases he : i = n
  ·subst he
   have := hle i
   simp [hp, hq]
   omega
  ·have := ih (by omega)
   have h2 : [n].countP q ≤ [n].countP p := List.countP_mono_left fun j _ h => hpq j h
   omega
section
variable {P : Program} {n0 : Nat} {A : Fx} {O0 : Nat → Prop} {w0 : World} {G : Rd} {ops : Array Oper} {s0 : AS} {E : Nat → Ef} {F : Nat → FP} {anc : Nat → List Nat} {H : List Nat} {Q : Exit → Act → World → Prop}
def An (listed : Array Bool) (j : Nat) : Bool := listed.getD j false
def CO (ops : Array Oper) (L : Nat → Bool) : Prop := ∀ j o, ops[j]? = some o → L j = true → ∀ e, e ∈ o.after.toList → Region.binds .any e = true → L e.on = true
theorem SA (hPM : ∀ m o, ops[m]? = some o → PM G H ops s0 E F anc m o) {L : Nat → Bool} (hc : CO ops L) : ∀ (b m : Nat), m < b → m < ops.size → L m = true → ∀ x, x ∈ anc m → L x = true
 | 0, _, h, _, _, _, _ => by omega
 | b + 1, m, hb, hm, hL, x, hx => by
  have hom : ops[m]? = some ops[m] := Array.getElem?_eq_getElem hm
  obtain ⟨e, he, hbn, hxe⟩ := (hPM m _ hom).up x hx
  have h1 := hc m _ hom hL e he hbn
  have h2 := (hPM m _ hom).back e he hbn
  rcases hxe with rfl | hxe
  ·exact h1
  ·exact SA hPM hc b e.on (by omega) (by omega) h1 x hxe
theorem PD {listed : Array Bool} {i : Nat} : i ∈ Region.ready .any ops listed ↔ i < ops.size ∧ listed.getD i true = false ∧ ∃ o, ops[i]? = some o ∧ ∀ e, e ∈ o.after.toList → Region.binds .any e = true → listed.getD e.on false = true := by
 unfold Region.ready
 rw [List.mem_filter, List.mem_range]
 constructor
 ·rintro ⟨h1, h2⟩
  have hom : ops[i]? = some ops[i] := Array.getElem?_eq_getElem h1
  rw [hom] at h2
  simp only [qa, Option.getD_some, jd, Bool.not_eq_true'] at h2
  refine ⟨h1, h2.1, _, hom, fun e he hb => ?_⟩
  have h3 := h2.2
  rw [Array.all_eq_true'] at h3
  have := h3 e (Array.mem_toList_iff.1 he)
  rw [hb] at this
  simpa using this
 ·rintro ⟨h1, h2, o, ho, h3⟩
  refine ⟨h1, ?_⟩
  rw [ho]
  simp only [qa, Option.getD_some, jd, Bool.not_eq_true']
  refine ⟨h2, ?_⟩
  rw [Array.all_eq_true']
  intro e he
  cases hb : Region.binds .any e with
  | false => rfl
  | true => simpa using h3 e (Array.mem_toList_iff.2 he) hb
theorem LI (hPM : ∀ m o, ops[m]? = some o → PM G H ops s0 E F anc m o) {listed : Array Bool} (hsz : listed.size = ops.size) (hr : Region.ready .any ops listed = []) : ∀ (b j : Nat), j < b → j < ops.size → An listed j = true
 | 0, _, h, _ => by omega
 | b + 1, j, hb, hj => by
  by_cases h : An listed j = true
  ·exact h
  ·exfalso
   have hom : ops[j]? = some ops[j] := Array.getElem?_eq_getElem hj
   have : j ∈ Region.ready .any ops listed := by
    refine PD.2 ⟨hj, ?_, _, hom, fun e he hbn => ?_⟩
    ·unfold An at h
     simp only [j8] at h
     have hjl : j < listed.size := by omega
     simp [Array.getD, hjl] at h ⊢
     exact h
    ·have := (hPM j _ hom).back e he hbn
     exact LI hPM hsz hr b e.on (by omega) (by omega)
   rw [hr] at this
   simp at this
theorem LO {op : Op} (h : Nv op = true) : Ot op = false := by
 cases op <;> first | rfl | simp [Nv] at h
theorem YM {op : Op} (h : Ve op = true) : Ot op = false := by
 cases op <;> first | rfl | simp [Ve] at h
theorem CR.of_stL (hPM : ∀ m o, ops[m]? = some o → PM G H ops s0 E F anc m o) {L : Nat → Bool} (hc : CO ops L) {i : Nat} {o : Oper} (hi : ops[i]? = some o) (hLi : L i = false)
 (hready : ∀ e, e ∈ o.after.toList → Region.binds .any e = true → L e.on = true) :
 CR (Yc ops E (fun _ => true) s0 i) (Yc ops E L s0 ops.size) o ∧ (∀ t, t ∈ (F i).rt → Za (Yc ops E L s0 ops.size).tm t = Za (Yc ops E (fun _ => true) s0 i).tm t) ∧
  (∀ m, m < ops.size → i < m → L m = true → Yv (F m) (F i)) := by
 have hin : i < ops.size := (Array.getElem?_eq_some_iff.1 hi).1
 have hF : ∀ m o, ops[m]? = some o → (F m).wt = o.dst ∧ (F m).wi = (E m).2.map (·.1) ∧ (F m).mi = (E m).1.ids ++ Gm (E m).2 := fun m o ho => ⟨(hPM m o ho).fp.wt, (hPM m o ho).fp.wi, (hPM m o ho).fp.mi⟩
 have hgt : ∀ m, m < ops.size → i < m → L m = true → Yv (F m) (F i) := by
  intro m hm him hL
  have hom : ops[m]? = some ops[m] := Array.getElem?_eq_getElem hm
  rcases (hPM m _ hom).ind i him with h | h
  ·have := SA hPM hc (m + 1) m (by omega) hm hL i h
   rw [hLi] at this; simp at this
  ·exact (DP h).symm
 have hd : ∀ m, m < ops.size → L m ≠ Nat.blt m i → Yv (F m) (F i) := by
  intro m hm hne
  rcases Nat.lt_trichotomy m i with h | h | h
  ·have hb : Nat.blt m i = true := by rw [Nat.blt_eq]; exact h
   have hL : L m = false := by
    rw [hb] at hne
    simpa using hne
   rcases (hPM i _ hi).ind m h with h' | h'
   ·exfalso
    obtain ⟨e, he, hbn, hxe⟩ := (hPM i _ hi).up m h'
    have h1 := hready e he hbn
    rcases hxe with rfl | hxe
    ·rw [hL] at h1; simp at h1
    ·have h2 := (hPM i _ hi).back e he hbn
     have := SA hPM hc (e.on + 1) e.on (by omega) (by omega) h1 m hxe
     rw [hL] at this; simp at this
   ·exact DP h'
  ·subst h
   exfalso
   apply hne
   rw [hLi]
   have : Nat.blt m m = false := by rw [← j8, Nat.blt_eq]; omega
   exact this.symm
  ·have hb : Nat.blt m i = false := by
    rw [← j8, Nat.blt_eq]; omega
   have hL : L m = true := by
    rw [hb] at hne
    simpa using hne
   exact hgt m hm h hL
 obtain ⟨a1, a2, a3⟩ := FM (ops := ops) (s0 := s0) (f := F i) hF hd ops.size (jo _)
 have hst : Yc ops E (fun j => Nat.blt j i) s0 ops.size = Yc ops E (fun _ => true) s0 i := by
  rw [TH (i := i) ops.size (by omega) fun j h1 h2 => by
   show Nat.blt j i = false
   rw [← j8, Nat.blt_eq]; omega]
  exact Aq i fun j hj => ⟨rfl, by rw [Nat.blt_eq]; exact hj⟩
 rw [hst] at a1 a2 a3
 have fp := (hPM i _ hi).fp
 refine ⟨⟨fun x hx => FK hx fun t ht => a1 t (fp.rt t ht), fun hmv hsp x hx d hd' id hm => a2 id ((fp.ri hmv x hx d hd' id (.inl hm)).resolve_right fun h => by rw [hsp] at h; simp at h),
  fun hsp x hx d hd' id hm => ?_, fun id hid => a3 id (by rw [fp.wt]; exact hid),
  fun hcl hsp x hx bid p hev ρ d hb id hm => a2 id ((fp.ri (LO hcl) x hx _ hev id (.inr ⟨hcl, by simp only [Xx, hb]; exact Ey.1 hm⟩)).resolve_right fun h => by rw [hsp] at h; simp at h)⟩, a1, hgt⟩
 rcases fp.ri (YM hsp) x hx d hd' id (.inl hm) with h | h
 ·rw [a2 id h]
 ·have hh : ∀ j o, ops[j]? = some o → JC H (Yc ops E (fun _ => true) s0 j) (E j) := fun j o ho => (hPM j o ho).hard
  rw [SH ops.size (jo _) (fun j o _ ho => hh j o ho) id h.2, SH i (Nat.le_of_lt hin) (fun j o _ ho => hh j o ho) id h.2]
theorem QG {s : AS} {dst : Option Tmp} {e : Ef} (hd : ∀ t, dst = some t → t < s.n) {Out : Type} {k : AS → Option Out} : Rg s dst e.1 e.2 k = k (putE s dst e) := by
 cases dst with
 | none => rfl
 | some t =>
  have : Nat.blt t s.n = true := by rw [Nat.blt_eq]; exact hd t rfl
  simp only [Rg, this, cond_true, putE]
  rfl
theorem J2 (hG : Zj P A.I G) (hfz : G.fz = true → ∀ b, ¬ A.A b) (hPM : ∀ m o, ops[m]? = some o → PM G H ops s0 E F anc m o)
 (hQ : ∀ σ φ a w, Qa n0 A O0 w0 (Yc ops E (fun _ => true) s0 ops.size) σ φ a w → Q .normal a w) :
 ∀ (fuel : Nat) (listed : Array Bool) (σ : Nat → Value) (φ : Nat → List Nat) (a : Act) (w : World), listed.size = ops.size → (List.range ops.size).countP (fun j => !listed.getD j true) ≤ fuel →
  CO ops (An listed) → Qa n0 A O0 w0 (Yc ops E (An listed) s0 ops.size) σ φ a w → wpAny P .any ops Q fuel listed a w := by
 intro fuel
 have fin' : ∀ (listed : Array Bool) (σ : Nat → Value) (φ : Nat → List Nat) (a : Act) (w : World), listed.size = ops.size → Region.ready .any ops listed = [] →
  Qa n0 A O0 w0 (Yc ops E (An listed) s0 ops.size) σ φ a w → Q .normal a w := by
  intro listed σ φ a w hsz hr h
  refine hQ σ φ a w ?_
  rw [← Aq (L := An listed) ops.size fun j hj => ⟨rfl, LI hPM hsz hr (j + 1) j (by omega) hj⟩]
  exact h
 induction fuel with
 | zero =>
  intro listed σ φ a w hsz hcnt hc h
  have hr : Region.ready .any ops listed = [] := by
   rw [List.eq_nil_iff_forall_not_mem]
   intro i hi
   obtain ⟨h1, h2, _⟩ := PD.1 hi
   have : 0 < (List.range ops.size).countP (fun j => !listed.getD j true) := List.countP_pos_iff.2 ⟨i, List.mem_range.2 h1, by rw [h2]; rfl⟩
   omega
  exact ⟨hr, fin' listed σ φ a w hsz hr h⟩
 | succ fuel ih =>
  intro listed σ φ a w hsz hcnt hc h
  refine ⟨fun hr => fin' listed σ φ a w hsz hr h, fun i hi => ?_⟩
  obtain ⟨hin, hun, o, ho, hed⟩ := PD.1 hi
  have hil : i < listed.size := by omega
  have hLi : An listed i = false := by
   unfold An
   simp [Array.getD, hil] at hun ⊢
   exact hun
  obtain ⟨hag, htm, hgt⟩ := CR.of_stL hPM hc ho hLi hed
  have pm := hPM i o ho
  have hF : ∀ m o, ops[m]? = some o → (F m).wt = o.dst ∧ (F m).wi = (E m).2.map (·.1) ∧ (F m).mi = (E m).1.ids ++ Gm (E m).2 := fun m o ho => ⟨(hPM m o ho).fp.wt, (hPM m o ho).fp.wi, (hPM m o ho).fp.mi⟩
  have hadd := NT (s0 := s0) (L := An listed) ho hF hLi hgt ops.size hin (jo _)
  have hset : ∀ j, An (listed.setIfInBounds i true) j = (An listed j || Nat.beq j i) := by
   intro j
   unfold An
   by_cases hji : j = i
   ·subst hji
    simp [Array.getD, hil]
   ·have hb : Nat.beq j i = false := by rw [← j8]; intro e; exact hji (ju e)
    rw [hb, Bool.or_false]
    simp only [Array.getD_eq_getD_getElem?]
    rw [Array.getElem?_setIfInBounds_ne (fun e => hji e.symm)]
  have next : ∀ σ φ a w, Qa n0 A O0 w0 (putE (Yc ops E (An listed) s0 ops.size) o.dst (E i)) σ φ a w → wpAny P .any ops Q fuel (listed.setIfInBounds i true) a w := by
   intro σ φ a w h
   have h2 := h.eqv hadd
   have h3 : Yc ops E (fun j => An listed j || Nat.beq j i) s0 ops.size = Yc ops E (An (listed.setIfInBounds i true)) s0 ops.size := Aq ops.size fun j _ => ⟨rfl, (hset j).symm⟩
   rw [h3] at h2
   refine ih (listed.setIfInBounds i true) σ φ a w (by simpa using hsz) ?_ ?_ h2
   ·have hlt := I1 (p := fun j => !listed.getD j true) (q := fun j => !(listed.setIfInBounds i true).getD j true) (i := i) ?_ (by simp only [hun, Bool.not_false]) ?_ ops.size hin
    ·omega
    ·intro j hj
     by_cases hji : j = i
     ·subst hji; simp [hun]
     ·simp only [Array.getD_eq_getD_getElem?] at hj ⊢
      rw [Array.getElem?_setIfInBounds_ne (fun e => hji e.symm)] at hj
      exact hj
    ·simp [Array.getD, hil]
   ·intro j oj hoj hL e he hbn
    rw [hset] at hL ⊢
    cases hLj : An listed j with
    | true => rw [hc j oj hoj hLj e he hbn]; rfl
    | false =>
     rw [hLj, Bool.false_or] at hL
     have := ju hL
     subst this
     rw [ho] at hoj
     simp only [jc] at hoj
     subst hoj
     have := hed e he hbn
     unfold An
     rw [this]; rfl
  have hdn : ∀ t, o.dst = some t → t < (Yc ops E (An listed) s0 ops.size).n := fun t ht => by rw [SJ]; exact pm.dst t ht
  have run : QF G (Yc ops E (fun _ => true) s0 i) o (E i) → o.wp P a w (wpAny P .any ops Q fuel (listed.setIfInBounds i true)) Q := by
   intro hE
   have hE' := hE.congr hag
   have : Yd G (Yc ops E (An listed) s0 ops.size) o some = some (putE (Yc ops E (An listed) s0 ops.size) o.dst (E i)) := by
    unfold Yd
    rw [hE']
    exact QG hdn
   refine Oper.wp_mono ?_ (KX hG hfz h this)
   rintro a w ⟨s2, σ', φ', h1, h2⟩
   simp only [jc] at h1
   subst h1
   exact next σ' φ' a w h2
  have skp : E i = (.und, []) → wpAny P .any ops Q fuel (listed.setIfInBounds i true) (a.put o.dst undef) w := by
   intro hE
   have := KT (dst := o.dst) (k := some) (out := putE (Yc ops E (An listed) s0 ops.size) o.dst (.und, [])) h (QG (e := (.und, [])) hdn)
   obtain ⟨s2, σ', φ', h1, h2⟩ := this
   simp only [jc] at h1
   subst h1
   rw [← hE] at h2
   exact next σ' φ' _ w h2
  have hst := pm.step
  unfold wpOp
  rw [ho]
  simp only []
  unfold LA at hst
  cases hg : o.guard with
  | none =>
   rw [hg] at hst
   rw [if_pos (by simp [Region.wanted, hg])]
   exact .inl (run hst)
  | some g =>
   obtain ⟨j, want⟩ := g
   rw [hg] at hst
   obtain ⟨t, ht, hst⟩ := hst
   have htr : t ∈ (F i).rt := pm.fp.rg j want t hg ht
   have hlook := htm t htr
   rcases hst with ⟨β, hd, hst⟩ | ⟨hd, hst⟩
   ·rw [hd] at hlook
    have hy := CE h ht hlook
    have hwd : Region.wanted o (yielded ops a.tmps) = (some β == some want) := by simp [Region.wanted, hg, hy]
    rw [hwd]
    by_cases hβ : β = want
    ·subst hβ
     rw [if_pos (by simp)]
     rw [if_pos rfl] at hst
     exact .inl (run hst)
    ·rw [if_neg (by simpa using hβ)]
     rw [if_neg hβ] at hst
     exact skp hst
   ·rw [hd] at hlook
    have hy := KG h ht hlook
    have hwd : Region.wanted o (yielded ops a.tmps) = false := by simp [Region.wanted, hg, hy]
    rw [hwd, if_neg (by simp)]
    exact skp hst
end
structure Hg (s s' : AS) : Prop extends Eqv s s' where
 nw : ∀ id, s'.newOk id = s.newOk id
theorem Hg.refl (s : AS) : Hg s s := ⟨Eqv.refl s, fun _ => rfl⟩
theorem Hg.agr {s s' : AS} (h : Hg s s') (o : Oper) : CR s s' o :=
 ⟨fun _ hx => FK hx fun t _ => h.tm t, fun _ _ _ _ _ _ id _ => h.hp id, fun _ _ _ _ _ id _ => by rw [h.hp id], fun id _ => h.nw id, fun _ _ _ _ _ _ _ _ _ _ id _ => h.hp id⟩
theorem Hg.symm {s s' : AS} (h : Hg s s') : Hg s' s := ⟨h.toEqv.symm, fun id => (h.nw id).symm⟩
theorem Hg.trans {s1 s2 s3 : AS} (h : Hg s1 s2) (h' : Hg s2 s3) : Hg s1 s3 := ⟨h.toEqv.trans h'.toEqv, fun id => (h'.nw id).trans (h.nw id)⟩
theorem Hg.putE {s s' : AS} (h : Hg s s') (dst : Option Tmp) (e : Ef) : Hg (KF.putE s dst e) (KF.putE s' dst e) := by
 refine ⟨⟨h.n, fun t => ?_, fun id => ?_⟩, fun id => ?_⟩
 ·rw [Nq, Nq, h.tm t]
 ·rw [Ln, Ln, h.hp id]
 ·have e0 := h.nw id
  unfold AS.newOk at e0 ⊢
  simp only [AS.ment, KF.putE, List.any_append] at e0 ⊢
  revert e0
  generalize ((match dst with | some t => [(t, e.1)] | none => []).any fun x => x.2.ment id) = b1
  generalize (e.2.any fun x => (x.2.map (Ea.ment id)).getD false) = b2
  generalize (s.tm.any fun x => x.2.ment id) = c1
  generalize (s.hp.any fun x => (x.2.map (Ea.ment id)).getD false) = c2
  generalize (s'.tm.any fun x => x.2.ment id) = d1
  generalize (s'.hp.any fun x => (x.2.map (Ea.ment id)).getD false) = d2
  generalize Nat.blt id 500000 = z
  cases b1 <;> cases b2 <;> cases c1 <;> cases c2 <;> cases d1 <;> cases d2 <;> cases z <;> simp
theorem Hg.refine {s : AS} {t : Nat} {β : Bool} (hd : Za s.tm t = some (.t .b β)) : Hg s ⟨s.n, (t, .t .b β) :: s.tm, s.hp⟩ := by
 refine ⟨⟨rfl, fun t' => ?_, fun _ => rfl⟩, fun id => ?_⟩
 ·rw [Mc]
  split
  ·rename_i e; subst e; exact hd.symm
  ·rfl
 ·simp [AS.newOk, AS.ment, D.ment]
theorem KO {s s' : AS} (h : ∀ j, s'.heap j = s.heap j) (d : D) : Xx s d = Xx s' d := by
 cases d with
 | ptr id p => simp only [Xx, h id]
 | _ => rfl
def C4 (s : AS) (u : List (Nat × Option Ea)) : Prop := u = [] ∨ ∃ id b tl, u = (id, some b) :: tl ∧ (s.heap id).map Ea.kind = some b.kind
theorem XL {s : AS} {dst : Option Tmp} {τ : Ty} {id i : Nat} {e : Ty} {xs : List (T e)} {k : Nat} {ef : Ef} (hs : (s.heap id).map Ea.kind = some (none, some (e, ja xs)))
 (h : Bn s dst τ id i e xs k (fun d u => some (d, u)) = some ef) : C4 s ef.2 := by
 unfold Bn at h
 split at h
 ·cases hb : Nat.beq i k with
  | false => rw [hb] at h; simp at h
  | true =>
   rw [hb] at h
   simp only [cond_true, qd] at h
   obtain ⟨x, hx, h⟩ := h
   simp only [Ca, jc] at h
   obtain ⟨_, rfl⟩ := h
   exact .inr ⟨id, _, _, rfl, hs⟩
 ·simp at h
theorem NV {α : Type} {c : Bool} {a b : Option α} {x : α} (h : (bif c then a else b) = some x) : a = some x ∨ b = some x := by cases c <;> simp_all
theorem U6 {G : Rd} {s : AS} {o : Oper} {ef : Ef} (hk : SE o.op = true) (h : Eb G s o (fun d u => some (d, u)) = some ef) : C4 s ef.2 := by
 cases ho : o.op with
 | load t x =>
  simp only [Eb, ho] at h
  split at h
  ·split at h
   ·split at h
    ·split at h
     ·simp only [jc] at h; rw [← h]; exact .inl rfl
     ·simp at h
    ·simp at h
   ·simp at h
  ·split at h
   ·simp only [jc] at h; rw [← h]; exact .inl rfl
   ·simp at h
  ·rename_i τ id i path _ _
   cases hml : ZV G o.dst with
   | true =>
    rw [hml] at h
    simp only [cond_true] at h
    split at h
    ·rename_i hb hz; exact XL (by rw [hb]; rfl) h
    ·rename_i hb hz; exact XL (by rw [hb]; rfl) h
    ·simp at h
   | false =>
    rw [hml] at h
    simp only [cond_false] at h
    split at h
    ·rename_i e dp xs hb
     simp only [qd] at h
     obtain ⟨x, hx, h⟩ := h
     split at h
     ·split at h
      ·rcases NV h with h | h
       ·simp only [jc] at h; rw [← h]; exact .inl rfl
       ·split at h
        ·simp only [Ca, jc] at h
         obtain ⟨_, rfl⟩ := h
         exact .inr ⟨id, _, _, rfl, by rw [hb]; rfl⟩
        ·simp at h
      ·simp at h
     ·simp at h
    ·simp at h
  ·simp at h
 | store t x v =>
  simp only [Eb, ho] at h
  split at h
  ·rename_i τ id path dv _ _ _
   split at h
   ·rename_i ρ d hb
    split at h
    ·split at h
     ·simp only [Ca, jc] at h
      obtain ⟨_, rfl⟩ := h
      exact .inr ⟨id, _, _, rfl, by rw [hb]; rfl⟩
     ·simp at h
    ·simp at h
   ·simp at h
  ·rename_i τ id i path dv _ _ _
   split at h
   ·rename_i e dp xs hb
    split at h
    ·split at h
     ·cases hc : (dp || e.flat) with
      | true =>
       rw [hc] at h
       simp only [cond_true] at h
       split at h
       ·simp only [Ca, qd] at h
        obtain ⟨_, x, hx, h⟩ := h
        split at h
        ·simp only [jc] at h; rw [← h]
         exact .inr ⟨id, _, _, rfl, by rw [hb]; simp [Ea.kind]⟩
        ·simp at h
       ·simp at h
      | false =>
       rw [hc] at h
       simp only [cond_false] at h
       split at h
       ·simp only [qd] at h
        obtain ⟨x, hx, h⟩ := h
        split at h
        ·simp only [jc] at h; rw [← h]
         exact .inr ⟨id, _, _, rfl, by rw [hb]; simp [Ea.kind]⟩
        ·simp at h
       ·simp at h
     ·simp at h
    ·simp at h
   ·rename_i e xs i0 x path0 τ0 d0 hb
    split at h
    ·split at h
     ·split at h
      ·simp only [Ca] at h
       obtain ⟨_, _, h⟩ := h
       split at h
       ·simp only [jc] at h; rw [← h]
        exact .inr ⟨id, _, _, rfl, by rw [hb]; simp [Ea.kind]⟩
       ·simp at h
      ·simp at h
     ·simp at h
    ·simp at h
   ·simp at h
  ·simp at h
 | _ => rw [ho] at hk; simp [SE] at hk
theorem HK {G : Rd} {s : AS} {o : Oper} {ef : Ef} {H : List Nat} (h : QF G s o ef) (hb : UI H o.op ef.2 = true) : JC H s ef := by
 intro id hid hm
 unfold UI at hb
 split at hb
 ·simp at hid
 ·cases hk : SE o.op with
  | false =>
   rw [hk] at hb
   simp only [cond_false, Bool.not_eq_true'] at hb
   exact absurd hm (Xr hb id hid)
  | true =>
   rw [hk] at hb
   simp only [cond_true, Bool.not_eq_true'] at hb
   have hkp := U6 hk (h _ fun d u => some (d, u))
   rcases hkp with h0 | ⟨id0, b, tl, h0, h1⟩
   ·rw [h0] at hm; simp at hm
   ·rw [h0] at hm hb ⊢
    rcases jp.1 hm with e | hm
    ·subst e
     simp only [Mc, if_true, Option.join_some, qa]
     exact h1.symm
    ·exact absurd hm (Xr hb id hid)
theorem FJ {H : List Nat} {x : Nat} : ∀ {l : List Nat}, x ∈ l → x ∈ KD H l ∨ x ∈ H
 | y :: l, h => by
  simp only [KD]
  rcases jp.1 h with e | h
  ·subst e
   cases hm : Xu H x with
   | true => exact .inr (EB.1 hm)
   | false => exact .inl (by simp)
  ·refine (FJ h).imp (fun h => ?_) id
   cases Xu H y with
   | true => exact h
   | false => exact jr _ h
theorem RL {s : AS} {c : Bool} : ∀ {l : List Operand} {x : Operand} {d : D} {id : Nat}, x ∈ l → s.ev x = some d → (d.ment id = true ∨ (c = true ∧ id ∈ Xx s d)) → id ∈ Az s c l
 | [], _, _, _, h, _, _ => by simp at h
 | y :: l, x, d, id, h, hd, hm => by
  rcases jp.1 h with e | h
  ·subst e
   simp only [Az, hd]
   refine List.mem_append_left _ (jl.2 ?_)
   refine hm.imp Ey.1 ?_
   rintro ⟨rfl, h⟩
   exact h
  ·have ih := RL h hd hm
   simp only [Az]
   split
   ·exact List.mem_append_right _ ih
   ·exact ih
section
variable {P : Program} {n0 : Nat} {A : Fx} {O0 : Nat → Prop} {w0 : World} {G : Rd} {ops : Array Oper} {s0 : AS} {E : Nat → Ef} {F : Nat → FP} {anc : Nat → List Nat} {H : List Nat} {Q : Exit → Act → World → Prop}
variable {Out : Type} {k : AS → Option Out} {out : Out}
theorem PM.congr {E' : Nat → Ef} {F' : Nat → FP} {anc' : Nat → List Nat} {m : Nat} {o : Oper} (h : PM G H ops s0 E F anc m o) (hE : ∀ j, j ≤ m → E j = E' j ∧ F j = F' j ∧ anc j = anc' j) : PM G H ops s0 E' F' anc' m o := by
 have hst : Yc ops E (fun _ => true) s0 m = Yc ops E' (fun _ => true) s0 m := Aq m fun j hj => ⟨(hE j (by omega)).1, rfl⟩
 obtain ⟨e1, e2, e3⟩ := hE m (jo _)
 refine ⟨by rw [← hst, ← e1]; exact h.step, by rw [← hst, ← e1, ← e2]; exact h.fp, h.dst, h.back, ?_, ?_, by rw [← hst, ← e1]; exact h.hard⟩
 ·intro x hx
  rw [← e3] at hx
  obtain ⟨e, he, hb, hxe⟩ := h.up x hx
  refine ⟨e, he, hb, hxe.imp id fun hxe => ?_⟩
  rw [← (hE e.on (Nat.le_of_lt (h.back e he hb))).2.2]
  exact hxe
 ·intro j hj
  rw [← e3, ← e2, ← (hE j (by omega)).2.1]
  exact h.ind j hj
theorem KI : ∀ {r l : List Nat} {x : Nat}, x ∈ JI r l → x ∈ r ∨ x ∈ l
 | [], _, _, h => .inr h
 | y :: r, l, x, h => by
  simp only [JI] at h
  rcases KI h with h | h
  ·exact .inl (jr _ h)
  ·cases hm : Xu l y with
   | true => rw [hm] at h; exact .inr h
   | false =>
    rw [hm] at h
    rcases jp.1 h with h | h
    ·exact .inl (by rw [h]; simp)
    ·exact .inr h
theorem MC {prev : List (Nat × (List Nat × FP))} : ∀ {es : List Edge} {l : List Nat} {x : Nat}, x ∈ ME prev es l → x ∈ l ∨ ∃ e, e ∈ es ∧ Region.binds .any e = true ∧ (x = e.on ∨ ∃ p, Za prev e.on = some p ∧ x ∈ p.1)
 | [], l, x, h => .inl h
 | e :: es, l, x, h => by
  simp only [ME] at h
  cases hb : Region.binds .any e with
  | false =>
   rw [hb] at h
   rcases MC h with h | ⟨e', he', hb', hx⟩
   ·exact .inl h
   ·exact .inr ⟨e', jr _ he', hb', hx⟩
  | true =>
   rw [hb] at h
   rcases MC h with h | ⟨e', he', hb', hx⟩
   ·rcases KI h with h | h
    ·refine .inr ⟨e, by simp, hb, ?_⟩
     rcases jp.1 h with h | h
     ·exact .inl h
     ·split at h
      ·rename_i a f hp; exact .inr ⟨_, hp, h⟩
      ·simp at h
    ·exact .inl h
   ·exact .inr ⟨e', jr _ he', hb', hx⟩
theorem QT : ∀ (l : List Oper) (i : Nat) (prev : List (Nat × (List Nat × FP))) (s : AS) (E : Nat → Ef) (F : Nat → FP) (anc : Nat → List Nat), ops.toList.drop i = l → Cu G H ops l i prev s k = some out →
 Hg (Yc ops E (fun _ => true) s0 i) s → (∀ j, j < i → Za prev j = some (anc j, F j)) → (∀ m o, m < i → ops[m]? = some o → PM G H ops s0 E F anc m o) →
 ∃ E F anc, (∀ m o, ops[m]? = some o → PM G H ops s0 E F anc m o) ∧ ∃ sf, k sf = some out ∧ Eqv (Yc ops E (fun _ => true) s0 ops.size) sf
 | [], i, prev, s, E, F, anc, hl, he, hs, hprev, hPM => by
  have hi : ops.size ≤ i := by
   have := congrArg ja hl
   simp at this
   omega
  have hst : Yc ops E (fun _ => true) s0 i = Yc ops E (fun _ => true) s0 ops.size := by
   clear hs he hl hprev hPM
   induction i with
   | zero =>
    have : ops.size = 0 := by omega
    rw [this]
   | succ i ih =>
    by_cases h : ops.size = i + 1
    ·rw [h]
    ·rw [← ih (by omega)]
     have : ops[i]? = none := Array.getElem?_eq_none (by omega)
     simp only [Yc, this]
  refine ⟨E, F, anc, fun m o ho => hPM m o ?_ ho, s, he, by rw [← hst]; exact hs.toEqv⟩
  have := (Array.getElem?_eq_some_iff.1 ho).1
  omega
 | o :: l, i, prev, s, E, F, anc, hl, he, hs, hprev, hPM => by
  have hi : i < ops.size := by
   have := congrArg ja hl
   simp at this
   omega
  have hoi : ops[i]? = some o := by
   have h1 := congrArg (·[0]?) hl
   simpa using h1
  have hl' : ops.toList.drop (i + 1) = l := by
   have h1 := congrArg (List.drop 1) hl
   simpa [List.drop_drop, Nat.add_comm] using h1
  have next : ∀ (an : List Nat) (f : FP) (e : Ef) (sx : AS), an = ME prev o.after.toList [] → (∀ e, e ∈ o.after.toList → Region.binds .any e = true → e.on < i) → Vw an f prev = true → Hg s sx →
   LA G ops (Yc ops E (fun _ => true) s0 i) o e → B1 H ops (Yc ops E (fun _ => true) s0 i) o e f → JC H (Yc ops E (fun _ => true) s0 i) e → Rg sx o.dst e.1 e.2 (fun s' => Cu G H ops l (i + 1) ((i, (an, f)) :: prev) s' k) = some out →
   ∃ E F anc, (∀ m o, ops[m]? = some o → PM G H ops s0 E F anc m o) ∧ ∃ sf, k sf = some out ∧ Eqv (Yc ops E (fun _ => true) s0 ops.size) sf := by
   intro an f e sx han hback hok hsx hstep hfp hhard hfin
   have hdst : ∀ t, o.dst = some t → t < sx.n := by
    intro t ht
    unfold Rg at hfin
    rw [ht] at hfin
    simp only at hfin
    cases hb : Nat.blt t sx.n with
    | true => rwa [Nat.blt_eq] at hb
    | false => rw [hb] at hfin; simp at hfin
   rw [QG hdst] at hfin
   have hn : sx.n = s0.n := by rw [hsx.n, hs.n, SJ]
   have hEi : ∀ j, j < i → E j = (fun j => if j = i then e else E j) j ∧ F j = (fun j => if j = i then f else F j) j ∧ anc j = (fun j => if j = i then an else anc j) j := by
    intro j hj
    have : j ≠ i := by omega
    simp [this]
   have hst : Yc ops E (fun _ => true) s0 i = Yc ops (fun j => if j = i then e else E j) (fun _ => true) s0 i := Aq i fun j hj => ⟨(hEi j hj).1, rfl⟩
   refine QT l (i + 1) _ _ (fun j => if j = i then e else E j) (fun j => if j = i then f else F j) (fun j => if j = i then an else anc j) hl' hfin ?_ ?_ ?_
   ·have : Yc ops (fun j => if j = i then e else E j) (fun _ => true) s0 (i + 1) = putE (Yc ops E (fun _ => true) s0 i) o.dst e := by
     rw [hst]
     simp only [Yc, hoi, cond_true, if_true]
    rw [this]
    exact (hs.trans hsx).putE _ _
   ·intro j hj
    rw [Mc]
    by_cases hji : i = j
    ·subst hji; simp
    ·have hne : j ≠ i := fun e => hji e.symm
     rw [if_neg hji, hprev j (by omega)]
     simp [hne]
   ·intro m om hm hom
    by_cases hmi : m = i
    ·subst hmi
     rw [hoi] at hom
     simp only [jc] at hom
     subst hom
     refine ⟨?_, ?_, fun t ht => by rw [← hn]; exact hdst t ht, hback, ?_, ?_, by rw [← hst]; simpa using hhard⟩
     ·rw [← hst]; simpa using hstep
     ·rw [← hst]; simpa using hfp
     ·intro x hx
      simp only [if_true] at hx
      rw [han] at hx
      rcases MC hx with hx | ⟨e', he', hb', hx⟩
      ·simp at hx
      ·have hlt := hback e' he' hb'
       refine ⟨e', he', hb', hx.imp id ?_⟩
       rintro ⟨p, hp, hxp⟩
       rw [hprev _ hlt] at hp
       simp only [jc] at hp
       subst hp
       have : e'.on ≠ m := by omega
       simpa [this] using hxp
     ·intro j hj
      have hok' := hok
      unfold Vw at hok'
      rw [List.all_eq_true] at hok'
      have hmem := Yo (hprev j hj)
      have h1 := hok' _ hmem
      simp only [Bool.or_eq_true] at h1
      have hjm : j ≠ m := by omega
      simp only [if_true, hjm, if_false]
      exact h1.imp EB.1 id
    ·exact (hPM m om (by omega) hom).congr fun j hj => hEi j (by omega)
  have hfpOk : ∀ (g : List Nat) (e : Ef), (∀ j want t, o.guard = some (j, want) → (ops[j]?).bind (·.dst) = some t → t ∈ g) → B1 H ops (Yc ops E (fun _ => true) s0 i) o e (GK H s o g e.1 e.2) := by
   intro g e hg
   refine ⟨rfl, rfl, rfl, fun t ht => List.mem_append_right _ ht, fun j want t hgu ht => List.mem_append_left _ (hg j want t hgu ht), fun hmv x hx d hd id hm => ?_⟩
   have hmem : id ∈ Az s (Nv o.op) (Hc o.op) := by
    refine RL hx ?_ (hm.imp (fun h => h) fun h => ⟨h.1, (KO (fun j => hs.hp j) d) ▸ h.2⟩)
    rw [← hd]
    exact FK hx fun t _ => hs.tm t
   show id ∈ (bif Ot o.op then [] else bif Ve o.op then _ else _) ∨ _
   rw [hmv]
   cases hsp : Ve o.op with
   | false => exact .inl hmem
   | true => exact (FJ hmem).imp (fun h => h) fun h => ⟨rfl, h⟩
  simp only [Cu] at he
  cases hbk : LV i o.after.toList with
  | false => rw [hbk] at he; simp at he
  | true =>
   rw [hbk] at he
   simp only [cond_true] at he
   have hback : ∀ e, e ∈ o.after.toList → Region.binds .any e = true → e.on < i := by
    intro e hem hbe
    unfold LV at hbk
    rw [List.all_eq_true] at hbk
    have := hbk e hem
    rw [hbe] at this
    simp only [jg, Bool.false_or] at this
    rwa [Nat.blt_eq] at this
   have hEff : ∀ (sx : AS) (K : D → List (Nat × Option Ea) → Option Out), Hg s sx → Eb G sx o K = some out → ∃ e : Ef, K e.1 e.2 = some out ∧ QF G (Yc ops E (fun _ => true) s0 i) o e := by
    intro sx K hsx hK
    obtain ⟨d, u, h1, h2⟩ := G1 hK
    refine ⟨(d, u), h1, ?_⟩
    have : QF G sx o (d, u) := h2
    exact this.congr ((hs.trans hsx).symm.agr o)
   cases hg : o.guard with
   | none =>
    rw [hg] at he
    simp only at he
    obtain ⟨e, h1, h2⟩ := hEff s _ (Hg.refl s) he
    simp only [Ca, jd] at h1
    exact next _ _ e s rfl hback h1.1.1 (Hg.refl s) (by unfold LA; rw [hg]; exact h2) (hfpOk [] e (by intro j want t hgu; rw [hg] at hgu; simp at hgu)) (HK h2 h1.1.2) h1.2
   | some g =>
    obtain ⟨j, want⟩ := g
    rw [hg] at he
    simp only at he
    split at he
    ·rename_i t ht
     have hgt : ∀ j' want' t', o.guard = some (j', want') → (ops[j']?).bind (·.dst) = some t' → t' ∈ [t] := by
      intro j' want' t' hgu ht'
      rw [hg] at hgu
      simp only [jc, jh] at hgu
      obtain ⟨rfl, rfl⟩ := hgu
      rw [ht] at ht'
      simp only [jc] at ht'
      rw [ht']; simp
     split at he
     ·rename_i β hd
      have hdst : Za (Yc ops E (fun _ => true) s0 i).tm t = some (.t .b β) := by rw [← hs.tm]; exact hd
      have goal1 : ∀ e : Ef, (if β = want then QF G (Yc ops E (fun _ => true) s0 i) o e else e = (.und, [])) → LA G ops (Yc ops E (fun _ => true) s0 i) o e := by
       intro e h
       unfold LA
       rw [hg]
       exact ⟨t, ht, .inl ⟨β, hdst, h⟩⟩
      cases hβ : (show Bool from β) with
      | true =>
       have hβ' : β = true := hβ
       subst hβ'
       simp only [cond_true] at he
       cases want with
       | true =>
        simp only [cond_true] at he
        obtain ⟨e, h1, h2⟩ := hEff _ _ (Hg.refine hd) he
        simp only [Ca, jd] at h1
        exact next _ _ e _ rfl hback h1.1.1 (Hg.refine hd) (goal1 e (by rw [if_pos rfl]; exact h2)) (hfpOk [t] e hgt) (HK h2 h1.1.2) h1.2
       | false =>
        simp only [cond_false, Ca] at he
        exact next _ _ (.und, []) _ rfl hback he.1 (Hg.refine hd) (goal1 _ (by rw [if_neg (by simp)])) (hfpOk [t] (.und, []) hgt) (by intro id _ hm; simp at hm) he.2
      | false =>
       have hβ' : β = false := hβ
       subst hβ'
       simp only [cond_false] at he
       cases want with
       | true =>
        simp only [cond_true, Ca] at he
        exact next _ _ (.und, []) _ rfl hback he.1 (Hg.refine hd) (goal1 _ (by rw [if_neg (by simp)])) (hfpOk [t] (.und, []) hgt) (by intro id _ hm; simp at hm) he.2
       | false =>
        simp only [cond_false] at he
        obtain ⟨e, h1, h2⟩ := hEff _ _ (Hg.refine hd) he
        simp only [Ca, jd] at h1
        exact next _ _ e _ rfl hback h1.1.1 (Hg.refine hd) (goal1 e (by rw [if_pos rfl]; exact h2)) (hfpOk [t] e hgt) (HK h2 h1.1.2) h1.2
     ·rename_i hd
      simp only [Ca] at he
      refine next _ _ (.und, []) s rfl hback he.1 (Hg.refl s) ?_ (hfpOk [t] (.und, []) hgt) (by intro id _ hm; simp at hm) he.2
      unfold LA
      rw [hg]
      exact ⟨t, ht, .inr ⟨by rw [← hs.tm]; exact hd, rfl⟩⟩
     ·simp at he
    ·simp at he
theorem ZS {n j : Nat} : An (Array.replicate n false) j = false := by
 unfold An
 rw [Array.getD_eq_getD_getElem?, Array.getElem?_replicate]
 split <;> rfl
theorem XZ (hG : Zj P A.I G) (hfz : G.fz = true → ∀ b, ¬ A.A b) (hm : P.follows .mixedOrders = true) {id : Nat} {H : List Nat} {draw : Bool} {s : AS} {σ : Nat → Value} {φ : Nat → List Nat} {a : Act} {w : World} (h : Qa n0 A O0 w0 s σ φ a w)
 (he : (bif draw then Cu G H ops ops.toList 0 [] s k else Kv G id ops ops.toList 0 s k) = some out) (hQ : ∀ a w, Ld n0 A O0 w0 k out a w → Q .normal a w) : (Code.region id ops draw).wp P Q a w := by
 cases draw with
 | false =>
  simp only [cond_false] at he
  refine wp_region ?_
  have := ER (P := P) (Q := Q) hG hfz (fun s σ φ a w h1 h2 => hQ a w ⟨s, σ, φ, h1, h2⟩) ops.toList 0 s σ φ a w (by simp) he h
  simpa using this
 | true =>
  simp only [cond_true] at he
  obtain ⟨E, F, anc, hPM, sf, h1, h2⟩ := QT (s0 := s) ops.toList 0 [] s (fun _ => (.und, [])) (fun _ => ⟨[], [], none, [], []⟩) (fun _ => []) (by simp) he (Hg.refl s) (by intro j hj; omega) (by intro m o hm; omega)
  refine wp_region_any hm ?_
  refine J2 hG hfz hPM (fun σ φ a w hc => hQ a w ⟨sf, σ, φ, h1, hc.eqv h2⟩) ops.size (Array.replicate ops.size false) σ φ a _ (by simp) ?_ ?_ ?_
  ·have := List.countP_le_length (p := fun j => !(Array.replicate ops.size false).getD j true) (l := List.range ops.size)
   simpa using this
  ·intro j o ho hL
   rw [ZS] at hL
   simp at hL
  ·have : Yc ops E (An (Array.replicate ops.size false)) s ops.size = s := by
    rw [TH (i := 0) ops.size (Nat.zero_le _) fun j _ _ => ZS]
    rfl
   rw [this]
   exact h.drew
end
theorem FY {s : AS} : ∀ {td : TD} {d : D} {x : T td.ty} {m : Vg}, Bd s td d = some (x, m) → (Rm td x).isAgg = d.isAgg := by
 intro td
 cases td with
 | data τ =>
  intro d x m h
  simp only [Bd] at h
  split at h
  ·rename_i y hy
   simp only [jc, jh] at h
   obtain ⟨rfl, _⟩ := h
   have hs := (Mf (w := default) (σ := fun _ => undef) (O := fun _ => False) (hp := fun _ => none) hy).1
   rw [hs.isAgg]
   cases τ <;> rfl
  ·simp at h
 | own id e dp =>
  intro d x m h
  cases d <;> simp [Bd] at h <;> rfl
 | ptr id p =>
  intro d x m h
  cases d <;> simp [Bd] at h <;> rfl
 | hol id e p τ td =>
  intro d x m h
  cases d <;> simp [Bd] at h <;> rfl
 | arr id e =>
  intro d x m h
  cases d <;> first | rfl | (simp [Bd] at h; done)
 | mov id e =>
  intro d x m h
  cases d <;> simp [Bd] at h <;> rfl
 | mpo id k v =>
  intro d x m h
  cases d <;> simp [Bd] at h <;> rfl
 | pr a b =>
  intro d x m h
  simp only [Bd] at h
  cases d with
  | t τ v => cases τ <;> simp [D.fst] at h <;> rfl
  | pr u v => rfl
  | _ => simp [D.fst] at h
 | un =>
  intro d x m h
  simp only [Bd] at h
  split at h
  ·rename_i y hy
   have hs := (Mf (w := default) (σ := fun _ => undef) (O := fun _ => False) (hp := fun _ => none) hy).1
   rw [hs.isAgg]
   rfl
  ·simp at h
def WB (m m' : Vg) : Prop := ∀ p, p ∈ m → p ∈ m'
section
variable {w : World} {s : AS} {σ σ' : Nat → Value} {O O' : Nat → Prop} {hp' : Nat → Option Ea} {m : Vg}
structure D9 (s : AS) (σ σ' : Nat → Value) (hp' : Nat → Option Ea) (m : Vg) : Prop where
 isS : ∀ j i, (j, some i) ∈ m → σ' j = σ i
 isN : ∀ j, (j, none) ∈ m → σ' j = .slice none 0 0
 isB : ∀ j i ρ d, (j, some i) ∈ m → hp' j = some (.box ρ d) → ∃ d', s.heap i = some (.box ρ d')
 isR : ∀ j i Ga r, (j, some i) ∈ m → hp' j = some Ga → Ga.rowN = some r → ∃ blk', s.heap i = some blk' ∧ blk'.rowN = some r
theorem OE (hT : D9 s σ σ' hp' m) (hO : ∀ b, b < w.heap.size → ¬ O b → ¬ O' b) : ∀ {td : TD} {d : D} {x : T td.ty} {m0 : Vg} {cs : List Value}, Bd s td d = some (x, m0) → WB m0 m → Ra w O s.heap σ d cs →
 Ra w O' hp' σ' (Rm td x) cs := by
 intro td
 induction td with
 | data τ =>
  intro d x m0 cs h hm hr
  simp only [Bd] at h
  split at h
  ·rename_i y hy
   simp only [jc, jh] at h
   obtain ⟨rfl, _⟩ := h
   exact Ma.stable (fun _ _ _ => rfl) hO ((Mf hy).2 _ hr)
  ·simp at h
 | own id' e dp =>
  intro d x m0 cs h hm hr
  cases d with
  | own id =>
   simp only [Bd] at h
   split at h
   ·rename_i e' dp' xs hb
    split at h
    ·rename_i q hq
     subst q
     simp only [Ca] at h
     obtain ⟨_, h⟩ := h
     simp only [jc, jh] at h
     obtain ⟨rfl, rfl⟩ := h
     obtain ⟨v, hcs, h1, hv⟩ := hr
     refine ⟨v, hcs, h1, fun _ _ _ _ => ?_⟩
     rw [hT.isS id' id (hm _ (by simp))]
     exact hv _ _ hb rfl
    ·simp at h
   ·simp at h
  | nil =>
   simp only [Bd, jc, jh] at h
   obtain ⟨rfl, rfl⟩ := h
   simp only [Ra] at hr
   exact ⟨_, hr, rfl, fun _ _ _ _ => (hT.isN id' (hm _ (by simp))).symm⟩
  | _ => simp [Bd] at h
 | mpo id' k v =>
  intro d x m0 cs h hm hr
  cases d with
  | mpo id =>
   simp only [Bd] at h
   split at h
   ·rename_i k' v' xs hb
    split at h
    ·rename_i q1 q2 hq1 hq2
     subst q1
     subst q2
     simp only [jc, jh] at h
     obtain ⟨rfl, rfl⟩ := h
     obtain ⟨u, hcs, h1, hv⟩ := hr
     refine ⟨u, hcs, h1, fun _ _ _ _ => ?_⟩
     rw [hT.isS id' id (hm _ (by simp))]
     exact hv _ _ _ hb
    ·simp at h
   ·simp at h
  | _ => simp [Bd] at h
 | hol id' e p τ td _ =>
  intro d x m0 cs h hm hr
  cases d with
  | own id =>
   simp only [Bd] at h
   split at h
   ·rename_i e' xs i x1 p' τ' d' hb
    split at h
    ·simp only [Ca] at h
     obtain ⟨_, h⟩ := h
     split at h
     ·rename_i y m1 h1
      simp only [Ca] at h
      obtain ⟨_, h⟩ := h
      simp only [jc, jh] at h
      obtain ⟨rfl, rfl⟩ := h
      obtain ⟨v, hcs, h1, hv⟩ := hr
      refine ⟨v, hcs, h1, fun _ _ _ _ => ?_⟩
      rw [hT.isS id' id (hm _ (by simp))]
      exact hv _ _ hb rfl
     ·simp at h
    ·simp at h
   ·simp at h
  | _ => simp [Bd] at h
 | arr id' e =>
  intro d x m0 cs h hm hr
  cases d with
  | eptr id i q =>
   cases i with
   | succ i => simp [Bd] at h
   | zero =>
    cases q with
    | cons _ _ => simp [Bd] at h
    | nil =>
     simp only [Bd] at h
     split at h
     ·rename_i e' xs hb
      split at h
      ·rename_i q hq
       subst q
       simp only [jc, jh] at h
       obtain ⟨rfl, rfl⟩ := h
       obtain ⟨v, hcs, h1, hv⟩ := hr
       refine ⟨v, hcs, h1, fun blk' e2 n2 hb' hr' => ?_⟩
       obtain ⟨blk0, hb0, hr0⟩ := hT.isR id' id blk' _ (hm _ (by simp)) hb' hr'
       rw [hT.isS id' id (hm _ (by simp))]
       exact hv _ _ _ hb0 hr0
      ·simp at h
     ·simp at h
  | _ => simp [Bd] at h
 | mov id' e =>
  intro d x m0 cs h hm hr
  cases d with
  | own id =>
   simp only [Bd] at h
   split at h
   ·rename_i e' xs hb
    split at h
    ·rename_i q hq
     subst q
     simp only [jc, jh] at h
     obtain ⟨rfl, rfl⟩ := h
     obtain ⟨v, hcs, h1, hv⟩ := hr
     refine ⟨v, hcs, h1, fun _ _ _ _ => ?_⟩
     rw [hT.isS id' id (hm _ (by simp))]
     exact hv _ _ hb rfl
    ·simp at h
   ·rename_i e' xs k hb
    split at h
    ·rename_i q hq
     subst q
     simp only [jc, jh] at h
     obtain ⟨rfl, rfl⟩ := h
     obtain ⟨v, hcs, h1, hv⟩ := hr
     refine ⟨v, hcs, h1, fun _ _ _ _ => ?_⟩
     rw [hT.isS id' id (hm _ (by simp))]
     exact hv _ _ hb rfl
    ·simp at h
   ·simp at h
  | _ => simp [Bd] at h
 | ptr id' p =>
  intro d x m0 cs h hm hr
  cases d with
  | ptr id q =>
   simp only [Bd, Ca] at h
   obtain ⟨hpq, h⟩ := h
   simp only [jc, jh] at h
   obtain ⟨_, rfl⟩ := h
   have hpq' : p = q := by simpa using hpq
   subst hpq'
   obtain ⟨v, hcs, h1, hv⟩ := hr
   refine ⟨v, hcs, h1, fun ρ d hb => ?_⟩
   obtain ⟨d', hd'⟩ := hT.isB id' id ρ d (hm _ (by simp)) hb
   rw [hT.isS id' id (hm _ (by simp))]
   exact hv ρ d' hd'
  | _ => simp [Bd] at h
 | pr a b iha ihb =>
  intro d x m0 cs h hm hr
  simp only [Bd] at h
  split at h
  ·rename_i d1 d2 h1 h2
   split at h
   ·rename_i u l v l' h3 h4
    simp only [jc, jh] at h
    obtain ⟨rfl, rfl⟩ := h
    have key : ∃ c1 c2, cs = c1 ++ c2 ∧ Ra w O s.heap σ d1 c1 ∧ Ra w O s.heap σ d2 c2 := by
     cases d with
     | t τ v =>
      cases τ with
      | p t1 t2 =>
       simp only [D.fst, D.snd, jc] at h1 h2
       subst h1; subst h2
       exact hr
      | _ => simp [D.fst] at h1
     | pr d1' d2' =>
      simp only [D.fst, D.snd, jc] at h1 h2
      subst h1; subst h2
      exact hr
     | _ => simp [D.fst] at h1
    obtain ⟨c1, c2, hc, r1, r2⟩ := key
    exact ⟨c1, c2, hc, iha h3 (fun p hp => hm p (List.mem_append_left _ hp)) r1, ihb h4 (fun p hp => hm p (List.mem_append_right _ hp)) r2⟩
   ·simp at h
  ·simp at h
 | un =>
  intro d x m0 cs h hm hr
  simp only [Bd] at h
  split at h
  ·rename_i y hy
   exact (Mf hy).2 _ hr
  ·simp at h
theorem N1 (hT : D9 s σ σ' hp' m) (hO : ∀ b, b < w.heap.size → ¬ O b → ¬ O' b) {td : TD} {d : D} {x : T td.ty} {m0 : Vg} {v : Value} (h : Bd s td d = some (x, m0)) (hm : WB m0 m) (hr : Jc w O s.heap σ d v) :
 Jc w O' hp' σ' (Rm td x) v := by
 have hne : Kd w O s.heap σ d v := by
  cases d with
  | und => cases td <;> simp [Bd, Eh, D.fst] at h
  | anyv => cases td <;> simp [Bd, Eh, D.fst] at h
  | tup ds => cases td <;> simp [Bd, Eh, D.fst] at h
  | _ => exact hr
 refine Sp ?_
 unfold Kd at hne ⊢
 rw [FY h]
 split
 ·rename_i ha
  rw [if_pos ha] at hne
  obtain ⟨cs, h1, h2⟩ := hne
  exact ⟨cs, h1, OE hT hO h hm h2⟩
 ·rename_i ha
  rw [if_neg ha] at hne
  exact OE hT hO h hm hne
def FN (s : AS) (m : Vg) (j : Nat) (Ga : Ea) : Prop :=
 ((j, none) ∈ m ∧ ∃ e dp, Ga = .row e dp ([] : List (T e))) ∨
 ∃ i, (j, some i) ∈ m ∧ ((∃ e dp dp' xs, Ga = .row e dp xs ∧ s.heap i = some (.row e dp' xs) ∧ (dp' = dp ∨ e.flat = true)) ∨
  (∃ ρ d td x m0, Ga = .box ρ (Rm td x) ∧ s.heap i = some (.box ρ d) ∧ Bd s td d = some (x, m0) ∧ WB m0 m ∧ Va ρ (Rm td x)) ∨
  (∃ e xs k x p τ d td y m0, Ga = .hol e xs k x p τ (Rm td y) ∧ s.heap i = some (.hol e xs k x p τ d) ∧ Bd s td d = some (y, m0) ∧ WB m0 m ∧ Va τ (Rm td y)) ∨
  (∃ e xs k, Ga = .mov e xs k ∧ (s.heap i = some (.mov e xs k) ∨ (s.heap i = some (.row e true xs) ∧ k = 0))) ∨
  ∃ k v xs, Ga = .mp k v xs ∧ s.heap i = some (.mp k v xs))
theorem GG : ∀ {td : TD} {d : D} {x : T td.ty} {m0 : Vg}, Bd s td d = some (x, m0) → WB m0 m → ∀ p, p ∈ Oq td x → ∃ Ga, p.2 = some Ga ∧ FN s m p.1 Ga := by
 intro td
 induction td with
 | own id' e dp =>
  intro d x m0 h hm p hp
  simp only [Oq, qb] at hp
  subst hp
  cases d with
  | own id =>
   simp only [Bd] at h
   split at h
   ·rename_i e' dp' xs hb
    split at h
    ·rename_i q hq
     subst q
     simp only [Ca] at h
     obtain ⟨hc, h⟩ := h
     simp only [jc, jh] at h
     obtain ⟨rfl, rfl⟩ := h
     refine ⟨_, rfl, .inr ⟨id, hm _ (by simp), .inl ⟨_, dp, dp', _, rfl, hb, ?_⟩⟩⟩
     simpa using hc
    ·simp at h
   ·simp at h
  | nil =>
   simp only [Bd, jc, jh] at h
   obtain ⟨rfl, rfl⟩ := h
   exact ⟨_, rfl, .inl ⟨hm _ (by simp), e, dp, rfl⟩⟩
  | _ => simp [Bd] at h
 | hol id' e pth τ td ih =>
  intro d x m0 h hm p hp
  cases d with
  | own id =>
   simp only [Bd] at h
   split at h
   ·rename_i e' xs i x1 p' τ' d' hb
    split at h
    ·rename_i q1 q2 hq1 hq2
     subst q1
     obtain rfl := Qd hq2
     simp only [Ca] at h
     obtain ⟨hpp, h⟩ := h
     have hpp : pth = p' := by simpa using hpp
     subst hpp
     split at h
     ·rename_i y m1 h1
      simp only [Ca] at h
      obtain ⟨hsh, h⟩ := h
      simp only [jc, jh] at h
      obtain ⟨rfl, rfl⟩ := h
      simp only [Oq] at hp
      rcases jp.1 hp with rfl | hp
      ·exact ⟨_, rfl, .inr ⟨id, hm _ (by simp), .inr (.inr (.inl ⟨_, _, i, _, _, _, d', td, y, m1, by simp only [jn], hb, h1, fun p hp => hm p (jr _ hp), Ti hsh⟩))⟩⟩
      ·exact ih h1 (fun p hp => hm p (jr _ hp)) p hp
     ·simp at h
    ·simp at h
   ·simp at h
  | _ => simp [Bd] at h
 | pr a b iha ihb =>
  intro d x m0 h hm p hp
  simp only [Bd] at h
  split at h
  ·split at h
   ·rename_i u l v l' h3 h4
    simp only [jc, jh] at h
    obtain ⟨rfl, rfl⟩ := h
    simp only [Oq] at hp
    rcases jl.1 hp with hp | hp
    ·exact iha h3 (fun p hp => hm p (List.mem_append_left _ hp)) p hp
    ·exact ihb h4 (fun p hp => hm p (List.mem_append_right _ hp)) p hp
   ·simp at h
  ·simp at h
 | arr id' e =>
  intro d x m0 h hm p hp
  simp only [Oq, qb] at hp
  subst hp
  cases d with
  | eptr id i q =>
   cases i with
   | succ i => simp [Bd] at h
   | zero =>
    cases q with
    | cons _ _ => simp [Bd] at h
    | nil =>
     simp only [Bd] at h
     split at h
     ·rename_i e' xs hb
      split at h
      ·rename_i q hq
       subst q
       simp only [jc, jh] at h
       obtain ⟨rfl, rfl⟩ := h
       exact ⟨_, rfl, .inr ⟨id, hm _ (by simp), .inl ⟨_, true, true, _, rfl, hb, .inl rfl⟩⟩⟩
      ·simp at h
     ·simp at h
  | _ => simp [Bd] at h
 | mpo id' k v =>
  intro d x m0 h hm p hp
  simp only [Oq, qb] at hp
  subst hp
  cases d with
  | mpo id =>
   simp only [Bd] at h
   split at h
   ·rename_i k' v' xs hb
    split at h
    ·rename_i q1 q2 hq1 hq2
     subst q1
     subst q2
     simp only [jc, jh] at h
     obtain ⟨rfl, rfl⟩ := h
     exact ⟨_, rfl, .inr ⟨id, hm _ (by simp), .inr (.inr (.inr (.inr ⟨_, _, _, rfl, hb⟩)))⟩⟩
    ·simp at h
   ·simp at h
  | _ => simp [Bd] at h
 | mov id' e =>
  intro d x m0 h hm p hp
  simp only [Oq, qb] at hp
  subst hp
  cases d with
  | own id =>
   simp only [Bd] at h
   split at h
   ·rename_i e' xs hb
    split at h
    ·rename_i q hq
     subst q
     simp only [jc, jh] at h
     obtain ⟨rfl, rfl⟩ := h
     exact ⟨_, rfl, .inr ⟨id, hm _ (by simp), .inr (.inr (.inr (.inl ⟨_, _, 0, rfl, .inr ⟨hb, rfl⟩⟩)))⟩⟩
    ·simp at h
   ·rename_i e' xs k hb
    split at h
    ·rename_i q hq
     subst q
     simp only [jc, jh] at h
     obtain ⟨rfl, rfl⟩ := h
     exact ⟨_, rfl, .inr ⟨id, hm _ (by simp), .inr (.inr (.inr (.inl ⟨_, _, k, by simp only [jn], .inl hb⟩)))⟩⟩
    ·simp at h
   ·simp at h
  | _ => simp [Bd] at h
 | _ => intro d x m0 h hm p hp; simp [Oq] at hp
theorem KR : ∀ {l : List (Tmp × TD)} {x : T (Kr.tyT l)} {m0 : Vg}, VV s l = some (x, m0) → WB m0 m →
 (∀ t d', Za (BJ l x) t = some d' → ∃ td d y m1, Za s.tm t = some d ∧ Bd s td d = some (y, m1) ∧ WB m1 m ∧ d' = Rm td y) ∧ (∀ p, p ∈ JJ l x → ∃ Ga, p.2 = some Ga ∧ FN s m p.1 Ga)
 | [], x, m0, h, hm => ⟨by simp [BJ, Za], by simp [JJ]⟩
 | (t0, td) :: r, x, m0, h, hm => by
  simp only [VV] at h
  split at h
  ·rename_i d hd
   split at h
   ·rename_i y m1 z m2 h1 h2
    simp only [jc, jh] at h
    obtain ⟨rfl, rfl⟩ := h
    have hm1 : WB m1 m := fun p hp => hm p (List.mem_append_left _ hp)
    obtain ⟨i1, i2⟩ := KR h2 (fun p hp => hm p (List.mem_append_right _ hp))
    refine ⟨fun t d' ht => ?_, fun p hp => ?_⟩
    ·simp only [BJ] at ht
     rw [Mc] at ht
     split at ht
     ·rename_i e
      subst e
      simp only [jc] at ht
      exact ⟨td, d, y, m1, hd, h1, hm1, ht.symm⟩
     ·exact i1 t d' ht
    ·simp only [JJ] at hp
     rcases jl.1 hp with hp | hp
     ·exact GG h1 hm1 p hp
     ·exact i2 p hp
   ·simp at h
  ·simp at h
theorem JR : ∀ {l : List (Nat × Ty × TD)} {x : T (Kr.tyB l)} {m0 m' : Vg}, TO s l m0 = some (x, m') → WB m' m →
 WB m0 m ∧ ∀ p, p ∈ AJ l x → ∃ Ga, p.2 = some Ga ∧ FN s m p.1 Ga
 | [], x, m0, m', h, hm => by
  simp only [TO, jc, jh] at h
  obtain ⟨_, rfl⟩ := h
  exact ⟨hm, by simp [AJ]⟩
 | (id', ρ, td) :: r, x, m0, m', h, hm => by
  simp only [TO] at h
  split at h
  ·rename_i id hid
   split at h
   ·rename_i ρ' d hb
    split at h
    ·rename_i q hq
     obtain rfl := q.down
     split at h
     ·rename_i y m1 h1
      simp only [Ca] at h
      obtain ⟨hsh, h⟩ := h
      split at h
      ·rename_i z m2 h2
       simp only [jc, jh] at h
       obtain ⟨rfl, rfl⟩ := h
       obtain ⟨i1, i2⟩ := JR h2 hm
       have hm0 : WB m0 m := fun p hp => i1 p (List.mem_append_left _ hp)
       have hm1 : WB m1 m := fun p hp => i1 p (List.mem_append_right _ hp)
       refine ⟨hm0, fun p hp => ?_⟩
       simp only [AJ] at hp
       rcases jp.1 hp with rfl | hp
       ·exact ⟨_, rfl, .inr ⟨id, hm0 _ (Yo hid), .inr (.inl ⟨_, d, td, y, m1, rfl, hb, h1, hm1, Ti hsh⟩)⟩⟩
       ·rcases jl.1 hp with hp | hp
        ·exact GG h1 hm1 p hp
        ·exact i2 p hp
      ·simp at h
     ·simp at h
    ·simp at h
   ·simp at h
  ·simp at h
end
theorem MB : ∀ {m : Vg}, Sx m = true → ∀ j i, (j, some i) ∈ m → (j < 500000 ∧ i < 500000) ∨ j = i
 | [], _, _, _, h => by simp at h
 | (j0, some i0) :: r, hp, j, i, h => by
  simp only [Sx, jd, Bool.or_eq_true] at hp
  rcases jp.1 h with e | h
  ·simp only [jh, jc] at e
   obtain ⟨rfl, rfl⟩ := e
   rcases hp.1 with h1 | h1
   ·rw [Nat.blt_eq, Nat.blt_eq] at h1; exact .inl h1
   ·exact .inr (ju h1)
  ·exact MB hp.2 j i h
 | (j0, none) :: r, hp, j, i, h => by
  simp only [Sx, jd] at hp
  rcases jp.1 h with e | h
  ·simp at e
  ·exact MB hp.2 j i h
theorem LB : ∀ {m : Vg}, Sx m = true → ∀ j, (j, none) ∈ m → j < 500000
 | [], _, _, h => by simp at h
 | (j0, some i0) :: r, hp, j, h => by
  simp only [Sx, jd] at hp
  rcases jp.1 h with e | h
  ·simp at e
  ·exact LB hp.2 j h
 | (j0, none) :: r, hp, j, h => by
  simp only [Sx, jd] at hp
  rcases jp.1 h with e | h
  ·simp only [jh, and_true] at e
   subst e
   have := hp.1
   rwa [Nat.blt_eq] at this
  ·exact LB hp.2 j h
theorem FT {m : Vg} (h : (m.all fun x => m.all fun y => Xw x y) = true) {x y : Nat × Option Nat} (hx : x ∈ m) (hy : y ∈ m) : Xw x y = true :=
 List.all_eq_true.1 (List.all_eq_true.1 h x hx) y hy
theorem K2 {m : Vg} (h : (m.all fun x => m.all fun y => Xw x y) = true) {j : Nat} {a c : Option Nat} (hx : (j, a) ∈ m) (hy : (j, c) ∈ m) : a = c := by
 have := FT h hx hy
 unfold Xw at this
 cases a with
 | none => cases c with
  | none => rfl
  | some c => simp at this
 | some a => cases c with
  | none => simp at this
  | some c => simpa [Nat.beq_eq] using this
theorem L2 {m : Vg} (h : (m.all fun x => m.all fun y => Xw x y) = true) {j j' i : Nat} (hx : (j, some i) ∈ m) (hy : (j', some i) ∈ m) : j = j' := by
 have := FT h hx hy
 unfold Xw at this
 simpa using this
theorem IL {α : Type} {j : Nat} {a : α} : ∀ {m : List (Nat × α)}, (j, a) ∈ m → ∃ c, Za m j = some c ∧ (j, c) ∈ m
 | [], h => by simp at h
 | (j0, a0) :: r, h => by
  rw [Mc]
  by_cases hj : j0 = j
  ·subst hj; exact ⟨a0, by simp, by simp⟩
  ·rw [if_neg hj]
   rcases jp.1 h with e | h
   ·simp only [jh] at e
    exact absurd e.1.symm hj
   ·obtain ⟨c, h1, h2⟩ := IL h
    exact ⟨c, h1, jr _ h2⟩
theorem Zo {m : Vg} (h : (m.all fun x => m.all fun y => Xw x y) = true) {j : Nat} {a : Option Nat} (hx : (j, a) ∈ m) : Za m j = some a := by
 obtain ⟨c, h1, h2⟩ := IL hx
 rw [h1, K2 h hx h2]
section
variable {n0 : Nat} {A : Fx} {O0 : Nat → Prop} {w0 w : World} {s : AS} {σ : Nat → Value} {φ : Nat → List Nat} {a : Act}
theorem RE (h : Qa n0 A O0 w0 s σ φ a w) {p : Kr} {x : p.X} (he : ext p s = some x) : ∃ σ' φ', Qa n0 A O0 w0 (Hy p x s.n) σ' φ' a w := by
 unfold ext at he
 split at he
 ·rename_i x1 m1 h1
  split at he
  ·rename_i x2 m h2
   simp only [Ca] at he
   obtain ⟨hmo, he⟩ := he
   simp only [jc] at he
   subst he
   simp only [S4, jd] at hmo
   obtain ⟨hn1, hpo⟩ := hmo
   obtain ⟨hm1, hB⟩ := JR h2 (fun p hp => hp)
   obtain ⟨hT1, hT2⟩ := KR h1 hm1
   let σ' : Nat → Value := fun j => match Za m j with
    | some (some i) => σ i
    | some none => .slice none 0 0
    | none => σ j
   let φ' : Nat → List Nat := fun j => match Za m j with
    | some (some i) => φ i
    | _ => []
   have hσs : ∀ j i, (j, some i) ∈ m → σ' j = σ i ∧ φ' j = φ i := fun j i hj => by
    have := Zo hn1 hj
    simp only [σ', φ', this, and_self]
   have hσn : ∀ j, (j, none) ∈ m → σ' j = .slice none 0 0 ∧ φ' j = [] := fun j hj => by
    have := Zo hn1 hj
    simp only [σ', φ', this, and_self]
   have hent : ∀ j Ga, (Hy p (x1, x2) s.n).heap j = some Ga → FN s m j Ga := by
    intro j Ga hj
    have hmem := AS.heap_mem hj
    simp only [Hy] at hmem
    rcases jl.1 hmem with hmem | hmem
    ·obtain ⟨blk', e, hE⟩ := hT2 _ hmem
     simp only [jc] at e
     subst e
     exact hE
    ·obtain ⟨blk', e, hE⟩ := hB _ hmem
     simp only [jc] at e
     subst e
     exact hE
   have hlive : ∀ j Ga, (Hy p (x1, x2) s.n).heap j = some Ga → φ' j = [] ∨ ∃ i blk0, (j, some i) ∈ m ∧ s.heap i = some blk0 ∧ φ' j = φ i := by
    intro j Ga hj
    rcases hent j Ga hj with ⟨hn, _⟩ | ⟨i, hi, ⟨e, dp, dp', xs, _, hb, _⟩ | ⟨ρ, d, td, y, m0, _, hb, _⟩ | ⟨e, xs, k, x, p, τ, d, td, y, m0, _, hb, _⟩ | ⟨e, xs, k, _, hb | ⟨hb, _⟩⟩ | ⟨_, _, _, _, hb⟩⟩
    ·exact .inl (hσn j hn).2
    ·exact .inr ⟨i, _, hi, hb, (hσs j i hi).2⟩
    ·exact .inr ⟨i, _, hi, hb, (hσs j i hi).2⟩
    ·exact .inr ⟨i, _, hi, hb, (hσs j i hi).2⟩
    ·exact .inr ⟨i, _, hi, hb, (hσs j i hi).2⟩
    ·exact .inr ⟨i, _, hi, hb, (hσs j i hi).2⟩
    ·exact .inr ⟨i, _, hi, hb, (hσs j i hi).2⟩
   have hOO : ∀ b, b < w.heap.size → ¬ OO O0 s φ b → ¬ OO O0 (Hy p (x1, x2) s.n) φ' b := by
    rintro b _ hno (ho | ⟨j, Ga, hj, hm⟩)
    ·exact hno (.inl ho)
    ·rcases hlive j Ga hj with hφ | ⟨i, blk0, _, hb, hφ⟩
     ·rw [hφ] at hm; simp at hm
     ·rw [hφ] at hm; exact hno (.inr ⟨i, blk0, hb, hm⟩)
   have hTOk : D9 s σ σ' (Hy p (x1, x2) s.n).heap m := by
    refine ⟨fun j i hj => (hσs j i hj).1, fun j hj => (hσn j hj).1, fun j i ρ d hj hb => ?_, fun j i Ga r hj hb hr => ?_⟩
    rcases hent j _ hb with ⟨hn, e, dp, hh⟩ | ⟨i', hi', ⟨e, dp, dp', xs, hh, _⟩ | ⟨ρ', d', td, y, m0, hh, hb', _⟩ | ⟨e, xs, k, x, p, τ, d', td, y, m0, hh, _⟩ | ⟨e, xs, k, hh, _⟩ | ⟨_, _, _, hh, _⟩⟩
    ·simp at hh
    ·simp at hh
    ·simp only [Ea.box.injEq] at hh
     have e1 := Zo hn1 hj
     have e2 := Zo hn1 hi'
     rw [e1] at e2
     simp only [jc] at e2
     subst e2
     exact ⟨d', by rw [hb', hh.1]⟩
    ·simp at hh
    ·simp at hh
    ·simp at hh
    ·have e1 := Zo hn1 hj
     rcases hent j _ hb with ⟨hn, _⟩ | ⟨i', hi', hx⟩
     ·have e2 := Zo hn1 hn
      rw [e1] at e2
      simp at e2
     ·have e2 := Zo hn1 hi'
      rw [e1] at e2
      simp only [jc] at e2
      subst e2
      rcases hx with ⟨e, dp, dp', xs, rfl, hb', _⟩ | ⟨ρ', d', td, y, m0, rfl, _⟩ | ⟨e, xs, k, x, p, τ, d', td, y, m0, rfl, hb', _⟩ | ⟨e, xs, k, rfl, hb' | ⟨hb', _⟩⟩ | ⟨_, _, _, rfl, _⟩
      ·exact ⟨_, hb', hr⟩
      ·simp [Ea.rowN] at hr
      ·exact ⟨_, hb', hr⟩
      ·exact ⟨_, hb', hr⟩
      ·exact ⟨_, hb', hr⟩
      ·simp [Ea.rowN] at hr
   refine ⟨σ', φ', h.sz, h.df, ?_, ?_, ?_, ?_, ?_, h.o0, h.fr, ?_, h.iv0, h.ivw⟩
   ·intro t d' hd
    obtain ⟨td, d, y, m0, g1, g2, g3, g4⟩ := hT1 t d' hd
    obtain ⟨v, hv, hr⟩ := h.tm t d g1
    rw [g4]
    exact ⟨v, hv, N1 hTOk hOO g2 g3 hr⟩
   ·intro j Ga hj
    rcases hent j Ga hj with ⟨hn, e, dp, rfl⟩ | ⟨i, hi, ⟨e, dp, dp', xs, rfl, hb, hd⟩ | ⟨ρ, d, td, y, m0, rfl, hb, hex, hsub, hsh⟩ | ⟨e, xs, k, x, p, τ, d, td, y, m0, rfl, hb, hex, hsub, hsh⟩ | ⟨e, xs, k, rfl, hb⟩ | ⟨kk, vv, xs, rfl, hb⟩⟩
    ·rw [Bi, (hσn j hn).1, (hσn j hn).2]
     exact ⟨by simp, .inl ⟨rfl, rfl, rfl⟩⟩
    ·rw [Bi, (hσs j i hi).1, (hσs j i hi).2]
     have hrow := Bi.1 (h.hp i _ hb)
     have hst : ∀ dq, Ig w (OO O0 s φ) dq e xs (σ i) (φ i) → Ig w (OO O0 (Hy p (x1, x2) s.n) φ') dq e xs (σ i) (φ i) := by
      rintro dq ⟨hm, g | ⟨bl, off, cap, cur, et, Fs, g1, hh, g2, g3, g4, hF, hel⟩⟩
      ·exact ⟨hm, .inl g⟩
      ·exact ⟨hm, .inr ⟨bl, off, cap, cur, et, Fs, g1, hh, g2, g3, g4, hF, hel.stable (fun _ _ _ => rfl) hOO (fun _ _ => rfl)⟩⟩
     rcases hd with rfl | hf
     ·exact hst _ hrow
     ·have hup := hrow.up
      rw [hf, Bool.or_true] at hup
      cases dp with
      | true => exact hst _ hup
      | false =>
       cases dp' with
       | false => exact hst _ hrow
       | true =>
        have hown := XE (h.hp i _ hb) (.inl rfl)
        exact hst _ (Bi.1 (TK (O := OO O0 s φ) (hp := s.heap) hown hf))
    ·rw [(hσs j i hi).2]
     obtain ⟨_, b, cur, et, g1, hh, hF, hr, hsz⟩ := h.hp i _ hb
     exact ⟨hsh, b, cur, et, by rw [(hσs j i hi).1]; exact g1, hh, hF, OE hTOk hOO hex hsub hr, hsz⟩
    ·rw [(hσs j i hi).2]
     obtain ⟨_, g1, g2, g3, bl, off, cap, cur, et, g4, g5, g6, g7, hr, hw⟩ := h.hp i _ hb
     refine ⟨hsh, g1, g2, g3, bl, off, cap, cur, et, by rw [(hσs j i hi).1]; exact g4, g5, g6, g7, OE hTOk hOO hex hsub hr, fun w' c' h1 h2 h3 y Fy x' h4 h5 => ?_⟩
     rw [(hσs j i hi).1]
     exact hw w' c' h1 h2 h3 y Fy x' h4 h5
    ·rw [(hσs j i hi).2]
     have hm0 : Xb w (OO O0 s φ) s.heap σ i (.mov e xs k) (φ i) := by
      rcases hb with hb | ⟨hb, rfl⟩
      ·exact h.hp i _ hb
      ·exact FQ (h.hp i _ hb)
     obtain ⟨hlen, ⟨g1, g2, g3⟩ | ⟨bl, off, cap, cur, et, Fs, g1, g⟩⟩ := hm0
     ·exact ⟨hlen, .inl ⟨by rw [(hσs j i hi).1]; exact g1, g2, g3⟩⟩
     ·exact ⟨hlen, .inr ⟨bl, off, cap, cur, et, Fs, by rw [(hσs j i hi).1]; exact g1, g⟩⟩
    ·rw [(hσs j i hi).2]
     obtain ⟨r, es, clk, g1, g2, g3, g4, g5⟩ := h.hp i _ hb
     exact ⟨r, es, clk, by rw [(hσs j i hi).1]; exact g1, g2, g3, SF (fun _ _ _ => rfl) hOO ⟨g4, g5⟩⟩
   ·intro j Ga hj
    rcases hlive j Ga hj with hφ | ⟨i, blk0, _, hb, hφ⟩
    ·rw [hφ]; exact List.nodup_nil
    ·rw [hφ]; exact h.nodup i blk0 hb
   ·intro j j' Ga blk' hne hj hj' b hb hb'
    rcases hlive j Ga hj with hφ | ⟨i, blk0, hi, hbi, hφ⟩
    ·rw [hφ] at hb; simp at hb
    ·rcases hlive j' blk' hj' with hφ' | ⟨i', blk0', hi', hbi', hφ'⟩
     ·rw [hφ'] at hb'; simp at hb'
     ·rw [hφ] at hb
      rw [hφ'] at hb'
      by_cases hii : i = i'
      ·subst hii
       exact hne (L2 hn1 hi hi')
      ·exact h.disj i i' blk0 blk0' hii hbi hbi' b hb hb'
   ·intro j Ga hj b hb
    rcases hlive j Ga hj with hφ | ⟨i, blk0, _, hbi, hφ⟩
    ·rw [hφ] at hb; simp at hb
    ·rw [hφ] at hb; exact h.fresh i blk0 hbi b hb
   ·intro j v hv
    have hlow := A.low j v hv
    show σ' j = v
    simp only [σ']
    split
    ·rename_i i hg
     rcases MB hpo j i (Yo hg) with ⟨hj, _⟩ | rfl
     ·omega
     ·exact h.pin _ v hv
    ·rename_i hg
     have := LB hpo j (Yo hg)
     omega
    ·exact h.pin j v hv
  ·simp at he
 ·simp at he
end
def O9 : Ex → Exit
 | .normal => .normal
 | .exit id => .exit id
 | .ret => .ret
def Bx {X R : Type} (step : X → Option (X ⊕ R)) : Nat → X → R → Prop
 | 0, _, _ => False
 | n + 1, x, r => step x = some (.inr r) ∨ ∃ x', step x = some (.inl x') ∧ Bx step n x' r
def Xd : Code → List Code
 | .seq a b => Xd a ++ Xd b
 | .cond _ a b => Xd a ++ Xd b
 | .block _ c => Xd c
 | .loop c => c :: Xd c
 | _ => []
def Db (G : Rd) (L : List (Nat × Sa)) (b : Code) : Prop :=
 ∀ r ls, Fh b = some r → Za L r = some ls → ∀ x y, ls.F x = some y → ∃ m, Bx (Jz G L ls b) m x y
section
variable {P : Program} {n0 : Nat} {A : Fx} {O0 : Nat → Prop} {w0 : World} {G : Rd} {L : List (Nat × Sa)}
theorem AY (hG : Zj P A.I G) (hfz : G.fz = true → ∀ b, ¬ A.A b) (hm : P.follows .mixedOrders = true) : ∀ (c : Code), (∀ b, b ∈ Xd c → Db G L b) → ∀ {Out : Type} {k : Ex → AS → Option Out} {out : Out} {s : AS} {σ : Nat → Value} {φ : Nat → List Nat} {a : Act} {w : World} {Q : Exit → Act → World → Prop},
 Bp G L c s k = some out → Qa n0 A O0 w0 s σ φ a w → (∀ e s σ φ a w, k e s = some out → Qa n0 A O0 w0 s σ φ a w → Q (O9 e) a w) → c.wp P Q a w := by
 intro c
 induction c with
 | skip =>
  intro _ Out k out s σ φ a w Q he h hQ
  simp only [Bp] at he
  exact wp_skip (hQ .normal s σ φ a w he h)
 | region id ops draw =>
  intro _ Out k out s σ φ a w Q he h hQ
  simp only [Bp] at he
  split at he
  ·rename_i s1 h1
   obtain ⟨φ1, hc⟩ := Tx hfz h h1
   refine XZ (k := fun s' => match Nz G.fz G.att (1000 * id + 999) s' with
    | some s' => k .normal s'
    | none => none) hG hfz hm hc he fun a w ⟨s', σ', φ', h2, h3⟩ => ?_
   simp only at h2
   split at h2
   ·rename_i s2 h4
    obtain ⟨φ2, hc2⟩ := Tx hfz h3 h4
    exact hQ .normal _ σ' φ2 a w h2 hc2
   ·simp at h2
  ·simp at he
 | seq x y ihx ihy =>
  intro hL Out k out s σ φ a w Q he h hQ
  simp only [Bp] at he
  refine wp_seq (ihx (fun b hb => hL b (by simp [Xd, hb])) he h fun e s' σ' φ' a' w' hk h' => ?_)
  cases e with
  | normal => exact ihy (fun b hb => hL b (by simp [Xd, hb])) hk h' hQ
  | exit j => exact hQ (.exit j) s' σ' φ' a' w' hk h'
  | ret => exact hQ .ret s' σ' φ' a' w' hk h'
 | cond x y z ihy ihz =>
  intro hL Out k out s σ φ a w Q he h hQ
  cases x with
  | tmp t =>
   simp only [Bp] at he
   split at he
   ·rename_i β hd
    have hs := h.same hd
    obtain ⟨v, hv, hr⟩ := h.tm t _ hd
    rw [Cg] at hr
    subst hr
    have hev : a.eval (.tmp t) = .bool β := by
     simp only [Act.eval]
     rw [Array.getD_eq_getD_getElem?, hv]
     rfl
    refine wp_cond_split hev (fun hb => ?_) (fun hb => ?_)
    ·subst hb
     simp only [cond_true] at he
     exact ihy (fun b hb => hL b (by simp [Xd, hb])) he hs hQ
    ·subst hb
     simp only [cond_false] at he
     exact ihz (fun b hb => hL b (by simp [Xd, hb])) he hs hQ
   ·simp at he
  | const cv =>
   cases cv with
   | bool β =>
    simp only [Bp] at he
    refine wp_cond_split (show a.eval (.const (.bool β)) = .bool β from rfl) (fun hb => ?_) (fun hb => ?_)
    ·subst hb
     simp only [cond_true] at he
     exact ihy (fun b hb => hL b (by simp [Xd, hb])) he h hQ
    ·subst hb
     simp only [cond_false] at he
     exact ihz (fun b hb => hL b (by simp [Xd, hb])) he h hQ
   | _ => simp [Bp] at he
  | _ => simp [Bp] at he
 | block id c ih =>
  intro hL Out k out s σ φ a w Q he h hQ
  simp only [Bp] at he
  refine wp_block (ih (fun b hb => hL b (by simpa [Xd] using hb)) he h fun e s' σ' φ' a' w' hk h' => ?_)
  cases e with
  | normal => exact hQ .normal s' σ' φ' a' w' hk h'
  | exit j =>
   simp only [O9, Exit.inBlock]
   cases hb : Nat.beq j id with
   | true =>
    rw [if_pos (ju hb)]
    simp only [hb, cond_true] at hk
    exact hQ .normal s' σ' φ' a' w' hk h'
   | false =>
    rw [if_neg (fun e => by rw [e, Nat.beq_refl] at hb; simp at hb)]
    simp only [hb, cond_false] at hk
    exact hQ (.exit j) s' σ' φ' a' w' hk h'
  | ret => exact hQ .ret s' σ' φ' a' w' hk h'
 | exit id =>
  intro _ Out k out s σ φ a w Q he h hQ
  simp only [Bp] at he
  exact wp_exit (hQ (.exit id) s σ φ a w he h)
 | ret =>
  intro _ Out k out s σ φ a w Q he h hQ
  simp only [Bp] at he
  exact wp_ret (hQ .ret s σ φ a w he h)
 | loop c ih =>
  intro hL Out k out s σ φ a w Q he h hQ
  simp only [Bp] at he
  split at he
  ·rename_i r hr
   split at he
   ·rename_i ls hls
    split at he
    ·rename_i x hx
     simp only [Ca] at he
     obtain ⟨hn, he⟩ := he
     have hn := ju hn
     rw [qd] at he
     obtain ⟨y, hy, he⟩ := he
     obtain ⟨m, hit⟩ := hL c (by simp [Xd]) r ls hr hls x y hy
     obtain ⟨σ1, φ1, h1⟩ := RE h hx
     rw [hn] at h1 he
     refine wp_loop_rounds m ?_
     have key : ∀ (m : Nat) (x : ls.inT.X) (σ : Nat → Value) (φ : Nat → List Nat) (a : Act) (w : World), Bx (Jz G L ls c) m x y → Qa n0 A O0 w0 (Hy ls.inT x ls.n) σ φ a w → Code.rounds P c Q m a w := by
      intro m
      induction m with
      | zero => intro x σ φ a w hit _; exact hit.elim
      | succ m ihm =>
       intro x σ φ a w hit h
       rw [rounds_succ]
       have body : ∀ z, Jz G L ls c x = some z → (z = .inr y ∨ ∃ x', z = .inl x' ∧ Bx (Jz G L ls c) m x' y) → c.wp P (Exit.then (Code.rounds P c Q m) Q) a w := by
        intro z hz hzy
        unfold Jz at hz
        refine ih (fun b hb => hL b (by simp [Xd, hb])) hz h fun e s' σ' φ' a' w' hk h' => ?_
        simp only [Ca] at hk
        obtain ⟨hn', hk⟩ := hk
        have hn' := ju hn'
        cases e with
        | normal =>
         simp only at hk
         split at hk
         ·rename_i x' hx'
          simp only [jc] at hk
          obtain ⟨σ2, φ2, h2⟩ := RE h' hx'
          rw [hn'] at h2
          rcases hzy with hzy | ⟨x'', hzy, hit'⟩
          ·rw [hzy] at hk; simp at hk
          ·rw [hzy] at hk
           simp only [Sum.inl.injEq] at hk
           subst hk
           exact ihm x' σ2 φ2 a' w' hit' h2
         ·simp at hk
        | exit j =>
         simp only [Ca] at hk
         obtain ⟨hj, hk⟩ := hk
         have hj := ju hj
         split at hk
         ·rename_i y' hy'
          simp only [jc] at hk
          obtain ⟨σ2, φ2, h2⟩ := RE h' hy'
          rw [hn'] at h2
          rcases hzy with hzy | ⟨x'', hzy, _⟩
          ·rw [hzy] at hk
           simp only [Sum.inr.injEq] at hk
           subst hk
           simp only [qh] at he
           show Q (.exit j) a' w'
           rw [hj]
           exact hQ (.exit ls.exitId) _ σ2 φ2 a' w' he h2
          ·rw [hzy] at hk; simp at hk
         ·simp at hk
        | ret =>
         simp only at hk
         split at hk
         ·rename_i y' hy'
          simp only [jc] at hk
          obtain ⟨σ2, φ2, h2⟩ := RE h' hy'
          rw [hn'] at h2
          rcases hzy with hzy | ⟨x'', hzy, _⟩
          ·rw [hzy] at hk
           simp only [Sum.inr.injEq] at hk
           subst hk
           simp only [Sum.elim_inr] at he
           exact hQ .ret _ σ2 φ2 a' w' he h2
          ·rw [hzy] at hk; simp at hk
         ·simp at hk
       rcases hit with hit | ⟨x', hit, hit'⟩
       ·exact body _ hit (.inl rfl)
       ·exact body _ hit (.inr ⟨x', rfl, hit'⟩)
     exact key m x σ1 φ1 a w hit h1
    ·simp at he
   ·simp at he
  ·simp at he
 | _ => intros; rename_i he _ _; simp [Bp] at he
end
theorem Ec.mono {w : World} {O O' : Nat → Prop} (hO : ∀ b, O' b → O b) : ∀ {rt : Ty} {r : T rt} {fr : List Bool} {vs : List Value} {F : List Nat}, Ec w O rt r fr vs F → Ec w O' rt r fr vs F
 | .u, _, [], [], _, h => h
 | .p x y, r, f :: fr, v :: vs, F, h => by
  obtain ⟨cs, F1, F2, hv, hF, h1, h2⟩ := h
  refine ⟨cs, F1, F2, hv, hF, ?_, Ec.mono hO h2⟩
  cases f with
  | true => exact h1
  | false =>
   simp only [jq, if_false] at h1 ⊢
   exact ⟨h1.1.weaken hO, h1.2⟩
 | .u, _, _ :: _, _, _, h => by simp [Ec] at h
 | .u, _, [], _ :: _, _, h => by simp [Ec] at h
 | .p _ _, _, [], _, _, h => by simp [Ec] at h
 | .p _ _, _, _ :: _, [], _, h => by simp [Ec] at h
 | .i _, _, fr, vs, _, h => by simp [Ec] at h
 | .b, _, fr, vs, _, h => by simp [Ec] at h
 | .o, _, fr, vs, _, h => by simp [Ec] at h
 | .mp _ _, _, fr, vs, _, h => by simp [Ec] at h
 | .s, _, fr, vs, _, h => by simp [Ec] at h
 | .sl _, _, fr, vs, _, h => by simp [Ec] at h
section
variable {P : Program} {n0 : Nat} {A : Fx} {O0 : Nat → Prop} {w0 w : World} {s : AS} {σ : Nat → Value} {φ : Nat → List Nat} {a : Act} {G : Rd} {L : List (Nat × Sa)}
def RU (w : World) (O : Nat → Prop) (hp : Nat → Option Ea) (σ : Nat → Value) : D → List Value → Prop
 | .pr a b, v :: vs => Jc w O hp σ a v ∧ RU w O hp σ b vs
 | .un, [] => True
 | _, _ => False
def QD (tmps : Array Value) : ResultVar → Sem Value
 | .tmp t => pure (tmps.getD t undef)
 | .cell a t => do loadVar t (← asAddr (tmps.getD a undef))
theorem OB (hG : EnvTy P G) (h : Qa n0 A O0 w0 s σ φ a w) : ∀ {rs : List ResultVar} {d : D}, Jw G s rs = some d → ∃ vs, (rs.mapM (QD a.tmps)).run P w = .ok vs w ∧ RU w (OO O0 s φ) s.heap σ d vs
 | [], d, he => by
  simp only [Jw, jc] at he
  subst he
  exact ⟨[], by simp, trivial⟩
 | .tmp t :: r, d, he => by
  simp only [Jw] at he
  split at he
  ·rename_i d1 d2 h1 h2
   simp only [jc] at he
   subst he
   obtain ⟨vs, hvs, hr⟩ := OB hG h h2
   obtain ⟨v, hv, hru⟩ := h.tm t d1 h1
   have hg : a.tmps.getD t undef = v := by rw [Array.getD_eq_getD_getElem?, hv]; rfl
   refine ⟨v :: vs, ?_, hru, hr⟩
   rw [List.mapM_cons]
   simp only [QD, qs, Sem.run_pure, qr, hvs, hg]
  ·simp at he
 | .cell t ty :: r, d, he => by
  simp only [Jw] at he
  split at he
  ·rename_i id d2 h1 h2
   split at he
   ·rename_i ρ d1 τ hb hty
    split at he
    ·rename_i q hq
     obtain rfl := q.down
     simp only [jc] at he
     subst he
     obtain ⟨vs, hvs, hr⟩ := OB hG h h2
     obtain ⟨v, hv, hru⟩ := h.tm t _ h1
     have hg : a.tmps.getD t undef = v := by rw [Array.getD_eq_getD_getElem?, hv]; rfl
     rw [Up] at hru
     obtain ⟨b, hσ, hv'⟩ := hru.2 _ _ hb
     obtain ⟨hs, b', cur, et, hσ', hh, hF, hrep, hsz⟩ := h.hp id _ hb
     rw [hσ] at hσ'
     simp at hσ'
     subst hσ'
     have hl := Cm (P := P) (hG.ty _ _ hty) (off := 0) hh (by omega)
     have hseg : Wc cur 0 ρ.size = cur.toList := by rw [← hsz]; exact H7 cur
     rw [hseg] at hl
     refine ⟨Vc ρ cur.toList :: vs, ?_, Gl hs hrep, hr⟩
     rw [List.mapM_cons]
     have hoff : Ya ρ [] = 0 := rfl
     rw [hoff] at hv'
     subst hv'
     simp only [QD, qs, Sem.run_pure, qr, hvs, hg, asAddr, hl]
    ·simp at he
   ·simp at he
  ·simp at he
theorem VK (h : Qa n0 A O0 w0 s σ φ a w) : ∀ {rt : Ty} {fr : List Bool} {d : D} {r : T rt} {l : List Nat} {vs : List Value}, Ke s rt fr d = some (r, l) → RU w (OO O0 s φ) s.heap σ d vs →
 Ec w (OO O0 s φ) rt r fr vs (Da φ l) ∧ ∀ j, j ∈ l → ∃ b, s.heap j = some b
 | .u, [], .un, r, l, vs, he, hr => by
  simp only [Ke, jc, jh] at he
  obtain ⟨_, rfl⟩ := he
  cases vs with
  | nil => exact ⟨by simp [Ec, Da], by simp⟩
  | cons v vs => simp [RU] at hr
 | .p x y, f :: fr, .pr d1 d2, r, l, vs, he, hr => by
  cases vs with
  | nil => simp [RU] at hr
  | cons v vs =>
   simp only [Ke] at he
   split at he
   ·rename_i u l1 z l2 h1 h2
    simp only [jc, jh] at he
    obtain ⟨rfl, rfl⟩ := he
    obtain ⟨g1, g2⟩ := VK h h2 hr.2
    cases f with
    | true =>
     simp only [cond_true] at h1
     obtain ⟨hrep, hv⟩ := Nd (Jh h1) hr.1
     obtain ⟨ho, hl⟩ := Xj h h1 hrep
     refine ⟨⟨_, Da φ l1, Da φ l2, hv, Sd, ?_, g1⟩, ?_⟩
     ·simpa using ho
     ·intro j hj
      rcases jl.1 hj with hj | hj
      ·exact hl j hj
      ·exact g2 j hj
    | false =>
     simp only [cond_false] at h1
     split at h1
     ·rename_i u' hu
      simp only [jc, jh] at h1
      obtain ⟨rfl, rfl⟩ := h1
      obtain ⟨hs, hvw⟩ := Mf (w := w) (O := OO O0 s φ) (hp := s.heap) (σ := σ) hu
      obtain ⟨hrep, hv⟩ := Nd hs hr.1
      refine ⟨⟨_, [], Da φ l2, hv, by simp [Da], ?_, g1⟩, by simpa using g2⟩
      simpa using hvw _ hrep
     ·simp at h1
   ·simp at he
 | .u, _ :: _, d, _, _, _, he, _ => by cases d <;> simp [Ke] at he
 | .u, [], .und, _, _, _, he, _ => by simp [Ke] at he
 | .u, [], .anyv, _, _, _, he, _ => by simp [Ke] at he
 | .u, [], .mpo _, _, _, _, he, _ => by simp [Ke] at he
 | .u, [], .t _ _, _, _, _, he, _ => by simp [Ke] at he
 | .u, [], .nil, _, _, _, he, _ => by simp [Ke] at he
 | .u, [], .own _, _, _, _, he, _ => by simp [Ke] at he
 | .u, [], .ptr _ _, _, _, _, he, _ => by simp [Ke] at he
 | .u, [], .eptr _ _ _, _, _, _, he, _ => by simp [Ke] at he
 | .u, [], .rp _ _, _, _, _, he, _ => by simp [Ke] at he
 | .u, [], .pr _ _, _, _, _, he, _ => by simp [Ke] at he
 | .u, [], .tup _, _, _, _, he, _ => by simp [Ke] at he
 | .p _ _, [], d, _, _, _, he, _ => by cases d <;> simp [Ke] at he
 | .p _ _, _ :: _, .und, _, _, _, he, _ => by simp [Ke] at he
 | .p _ _, _ :: _, .anyv, _, _, _, he, _ => by simp [Ke] at he
 | .p _ _, _ :: _, .mpo _, _, _, _, he, _ => by simp [Ke] at he
 | .p _ _, _ :: _, .t _ _, _, _, _, he, _ => by simp [Ke] at he
 | .p _ _, _ :: _, .nil, _, _, _, he, _ => by simp [Ke] at he
 | .p _ _, _ :: _, .own _, _, _, _, he, _ => by simp [Ke] at he
 | .p _ _, _ :: _, .ptr _ _, _, _, _, he, _ => by simp [Ke] at he
 | .p _ _, _ :: _, .eptr _ _ _, _, _, _, he, _ => by simp [Ke] at he
 | .p _ _, _ :: _, .rp _ _, _, _, _, he, _ => by simp [Ke] at he
 | .p _ _, _ :: _, .un, _, _, _, he, _ => by simp [Ke] at he
 | .p _ _, _ :: _, .tup _, _, _, _, he, _ => by simp [Ke] at he
 | .i _, fr, d, _, _, _, he, _ => by cases fr <;> cases d <;> simp [Ke] at he
 | .b, fr, d, _, _, _, he, _ => by cases fr <;> cases d <;> simp [Ke] at he
 | .o, fr, d, _, _, _, he, _ => by cases fr <;> cases d <;> simp [Ke] at he
 | .mp _ _, fr, d, _, _, _, he, _ => by cases fr <;> cases d <;> simp [Ke] at he
 | .s, fr, d, _, _, _, he, _ => by cases fr <;> cases d <;> simp [Ke] at he
 | .sl _, fr, d, _, _, _, he, _ => by cases fr <;> cases d <;> simp [Ke] at he
theorem HG {fn : Func} {vs : List Value} (h : (fn.results.toList.mapM (QD a.tmps)).run P w = .ok vs w) : (results fn a.tmps).run P w = .ok (Jy vs) w := by
 unfold results
 rw [Array.mapM_eq_mapM_toList]
 simp only [map_eq_pure_bind, bind_assoc, pure_bind, qs, Sem.run_pure]
 show (Sem.run P (List.mapM (QD a.tmps) fn.results.toList) w).andThen (fun vs w' => Result.ok (if h : vs.toArray.size = 1 then vs.toArray[0] else Value.tuple vs.toArray) w') = _
 rw [h]
 simp only [qr]
 congr 1
 cases vs with
 | nil => rfl
 | cons v vs => cases vs <;> rfl
end
def Ty.npar : Ty → Nat
 | .p _ y => y.npar + 1
 | _ => 0
theorem BE {w : World} {O : Nat → Prop} : ∀ {pt : Ty} {x : T pt} {args : List Value}, Me w O pt x args → args.length = pt.npar
 | .u, _, [], _ => rfl
 | .p x y, v, a :: r, h => by simp [Ty.npar, BE h.2]
 | .u, _, _ :: _, h => by simp [Me] at h
 | .p _ _, _, [], h => by simp [Me] at h
 | .i _, _, l, h => by simp [Me] at h
 | .b, _, l, h => by simp [Me] at h
 | .o, _, l, h => by simp [Me] at h
 | .mp _ _, _, l, h => by simp [Me] at h
 | .s, _, l, h => by simp [Me] at h
 | .sl _, _, l, h => by simp [Me] at h
theorem FH {w : World} {O : Nat → Prop} {hp : Nat → Option Ea} {σ : Nat → Value} : ∀ {pt : Ty} {x : T pt} {args : List Value} {n t : Nat} {d : D}, Me w O pt x args → Za (Rs pt x n) t = some d →
 ∃ j v, t = n + j ∧ args[j]? = some v ∧ Jc w O hp σ d v
 | .p x y, v, a :: r, n, t, d, h, hd => by
  simp only [Rs] at hd
  rw [Mc] at hd
  split at hd
  ·rename_i e
   simp only [jc] at hd
   subst hd
   obtain ⟨⟨cs, ha, hv⟩, _⟩ := h
   refine ⟨0, a, by omega, rfl, ?_⟩
   rw [ha]
   exact Gl (τ := x) (by simp [Va]) hv
  ·obtain ⟨j, v', h1, h2, h3⟩ := FH (hp := hp) (σ := σ) h.2 hd
   exact ⟨j + 1, v', by omega, by simpa using h2, h3⟩
 | .p _ _, _, [], _, _, _, h, _ => by simp [Me] at h
 | .u, _, _, _, _, _, _, hd => by simp [Rs, Za] at hd
 | .i _, _, _, _, _, _, h, _ => by simp [Me] at h
 | .b, _, _, _, _, _, h, _ => by simp [Me] at h
 | .o, _, _, _, _, _, h, _ => by simp [Me] at h
 | .mp _ _, _, _, _, _, _, h, _ => by simp [Me] at h
 | .s, _, _, _, _, _, h, _ => by simp [Me] at h
 | .sl _, _, _, _, _, _, h, _ => by simp [Me] at h
section
variable {P : Program} {G : Rd} {L : List (Nat × Sa)}
variable {I : Yf}
def A2 (I : Yf) : Fx := ⟨fun _ => False, fun _ => none, fun _ _ h => by simp at h, I, fun _ h => h.elim⟩
theorem T2 (hG : Zj P I G) (hm : P.follows .mixedOrders = true) {f : FuncId} {fn : Func} {c : Code} (hf : P.funcs[f]? = some fn) (hb : fn.body = some c) (hname : (fn.name == "runtime.NumGoroutine") = false)
 (hL : ∀ b, b ∈ Xd c → Db G L b) {pt rt : Ty} {fr : List Bool} {F : T pt → Option (T rt)} (hn : pt.npar ≤ fn.ntmps) (hF : ∀ x r, F x = some r → BY G L fn pt rt fr x = some r) : Bk P I f (.pu pt rt fr F) := by
 refine ⟨⟨fn, hf, hname, by rw [hb]; rfl⟩, ?_⟩
 intro O w x r args hx hargs hO hI hB
 have he := hF x r hx
 unfold BY at he
 rw [hb] at he
 simp only at he
 refine calls_of_wp hf hb ?_
 have hlen := BE hargs
 have hc : Qa w.heap.size (A2 I) O w ⟨fn.ntmps, Rs pt x 0, []⟩ (fun _ => undef) (fun _ => []) { tmps := args.toArray ++ Array.replicate (fn.ntmps - args.toArray.size) undef, defers := [] } w := by
  have hh : ∀ id, AS.heap ⟨fn.ntmps, Rs pt x 0, []⟩ id = none := fun id => rfl
  refine ⟨?_, rfl, ?_, ?_, ?_, ?_, ?_, hO, ⟨rfl, rfl, rfl, jo _, fun _ _ _ => rfl⟩, ?_, hB, hI⟩
  ·simp; omega
  ·intro t d hd
   have hOO : OO O ⟨fn.ntmps, Rs pt x 0, []⟩ (fun _ => []) = O := by
    funext b
    simp [OO, hh]
   rw [hOO]
   obtain ⟨j, v, h1, h2, h3⟩ := FH hargs hd
   refine ⟨v, ?_, h3⟩
   have hj : j < args.length := (List.getElem?_eq_some_iff.1 h2).1
   have : t = j := by omega
   subst this
   rw [Array.getElem?_append_left (by simpa using hj)]
   simpa using h2
  ·intro id Ga hb; rw [hh] at hb; simp at hb
  ·intro id Ga hb; rw [hh] at hb; simp at hb
  ·intro id id' Ga blk' _ hb; rw [hh] at hb; simp at hb
  ·intro id Ga hb; rw [hh] at hb; simp at hb
  ·intro id v hv; simp [A2] at hv
 refine AY (A := A2 I) hG (fun _ _ h => h) hm c hL he hc ?_
 intro e s σ φ a w' hk h
 have Rg : (match Jw G s fn.results.toList with
  | some d => match Ke s rt fr d with
   | some (r, l) => bif Pe l then some r else none
   | none => none
  | none => none) = some r → a.defers = [] ∧ ∃ v, (results fn a.tmps).run P w' = .ok v w' ∧ Bq (fun v w' => ∃ vs Fr, v = Jy vs ∧ At w w' (fun _ => False) ∧ Ec w' (fun b => O b ∨ b ∈ Fr) rt r fr vs Fr ∧ Fr.Nodup ∧ ∀ b ∈ Fr, w.heap.size ≤ b) (.returned v) w' := by
  intro hk
  split at hk
  ·rename_i d hd
   split at hk
   ·rename_i r' l hr
    simp only [Ca] at hk
    obtain ⟨hnd, hk⟩ := hk
    simp only [jc] at hk
    subst hk
    have hnd := Sg hnd
    obtain ⟨vs, hvs, hru⟩ := OB hG.toEnvTy h hd
    obtain ⟨hR, hlive⟩ := VK h hr hru
    refine ⟨h.df, _, HG hvs, vs, Da φ l, rfl, ⟨h.fr.size, fun b hb _ => h.fr.block b hb (fun h => h), h.fr.os, h.fr.tape, h.fr.output⟩, hR.mono ?_, Ue h hnd hlive, ?_⟩
    ·rintro b (hb | hb)
     ·exact .inl hb
     ·obtain ⟨j, hj, hm'⟩ := Ab.1 hb
      obtain ⟨Ga, hbj⟩ := hlive j hj
      exact .inr ⟨j, Ga, hbj, hm'⟩
    ·intro b hb
     obtain ⟨j, hj, hm'⟩ := Ab.1 hb
     obtain ⟨Ga, hbj⟩ := hlive j hj
     exact (h.fresh j Ga hbj b hm').resolve_right (fun h => h)
   ·simp at hk
  ·simp at hk
 cases e with
 | normal => exact Rg hk
 | ret => exact Rg hk
 | exit j => simp at hk
end
def TN (G : Rd) (L : List (Nat × Sa)) (fn : Func) (τ pt rt : Ty) (fr : List Bool) (x0 : T τ) (x : T pt) : Option (T τ × T rt) :=
 match fn.body with
 | some c => match Gd τ x0 500000 with
  | (d0, rows, _) => Bp G L c ⟨fn.ntmps, (0, d0) :: Rs pt x 1, rows⟩ fun e s => match e with
   | .exit _ => none
   | _ => match Nb s d0 τ, Jw G s fn.results.toList with
    | some (x', l0), some d => match Ke s rt fr d with
     | some (r, l) => bif Pe (l0 ++ l) then some (x', r) else none
     | none => none
    | _, _ => none
 | none => none
theorem NC {φ : Nat → List Nat} : ∀ {L : List Nat}, (Da φ L).Nodup → ∀ {i j b : Nat}, i ∈ L → j ∈ L → i ≠ j → b ∈ φ i → b ∉ φ j
 | [], _, _, _, _, h, _, _, _ => by simp at h
 | x :: L, hn, i, j, b, hi, hj, hne, hb => by
  intro hb'
  have hx : Da φ (x :: L) = φ x ++ Da φ L := by simp [Da]
  rw [hx, List.nodup_append] at hn
  rcases jp.1 hi with e1 | q1
  ·rcases jp.1 hj with e2 | q2
   ·exact hne (e1.trans e2.symm)
   ·exact hn.2.2 b (e1 ▸ hb) b (Ab.2 ⟨j, q2, hb'⟩) rfl
  ·rcases jp.1 hj with e2 | q2
   ·exact hn.2.2 b (e2 ▸ hb') b (Ab.2 ⟨i, q1, hb⟩) rfl
   ·exact NC hn.2.1 q1 q2 hne hb hb'
section
variable {P : Program} {G : Rd} {L : List (Nat × Sa)} {I : Yf}
theorem S2 (hG : Zj P I G) (hfz : G.fz = false) (hm : P.follows .mixedOrders = true) {f : FuncId} {fn : Func} {c : Code} (hf : P.funcs[f]? = some fn) (hb : fn.body = some c) (hname : (fn.name == "runtime.NumGoroutine") = false)
 (hL : ∀ b, b ∈ Xd c → Db G L b) {τ pt rt : Ty} {fr : List Bool} {F : T τ → T pt → Option (T τ × T rt)} (hn : pt.npar + 1 ≤ fn.ntmps) (hF : ∀ x0 x r, F x0 x = some r → TN G L fn τ pt rt fr x0 x = some r) :
 Bk P I f (.io τ pt rt fr F) := by
 refine ⟨⟨fn, hf, hname, by rw [hb]; rfl⟩, ?_⟩
 intro O w x0 x r cs0 F0 args hx hown hF0 hargs hO hI hB hFB
 have he := hF x0 x r hx
 unfold TN at he
 rw [hb] at he
 simp only at he
 rcases hop : Gd τ x0 500000 with ⟨d0, rows, m⟩
 rw [hop] at he
 simp only at he
 obtain ⟨_, hids, hsh, ψ, ν, hbl, hrows, hrep⟩ := It hop hown
 refine calls_of_wp hf hb ?_
 have hlen := BE hargs
 have hmem : ∀ id Ga, AS.heap ⟨fn.ntmps, (0, d0) :: Rs pt x 1, rows⟩ id = some Ga → id ∈ rows.map (·.1) ∧ ∃ e xs, Ga = .row e true xs ∧ Rb w (.sl e) xs [ν id] (ψ id) := by
  intro id Ga hb
  have hm := AS.heap_mem hb
  obtain ⟨e, xs, h1, h2⟩ := hrows _ hm
  simp only [jc] at h1
  exact ⟨List.mem_map_of_mem (f := (·.1)) hm, e, xs, h1, h2⟩
 have hF0' : (Da ψ (rows.map (·.1))).Nodup := by rw [hbl]; exact hF0
 let A : Fx := ⟨(· ∈ F0), fun id => if id ∈ rows.map (·.1) then some (ν id) else none, fun id v h => by
  split at h
  ·rename_i hi
   obtain ⟨p, hp, rfl⟩ := ql.1 hi
   exact (hids p hp).1
  ·simp at h, I, hFB⟩
 have hOO : OO (fun b => O b ∨ b ∈ F0) ⟨fn.ntmps, (0, d0) :: Rs pt x 1, rows⟩ ψ = (fun b => O b ∨ b ∈ F0) := by
  funext b
  refine propext ⟨fun h => ?_, .inl⟩
  rcases h with h | ⟨id, Ga, hb, hm⟩
  ·exact h
  ·refine .inr ?_
   rw [← hbl]
   exact Ab.2 ⟨id, (hmem id Ga hb).1, hm⟩
 have hc : Qa w.heap.size A (fun b => O b ∨ b ∈ F0) w ⟨fn.ntmps, (0, d0) :: Rs pt x 1, rows⟩ ν ψ { tmps := (Vc τ cs0 :: args).toArray ++ Array.replicate (fn.ntmps - (Vc τ cs0 :: args).toArray.size) undef, defers := [] } w := by
  refine ⟨?_, rfl, ?_, ?_, ?_, ?_, ?_, ?_, ⟨rfl, rfl, rfl, jo _, fun _ _ _ => rfl⟩, ?_, hB, hI⟩
  ·simp; omega
  ·intro t d hd
   rw [hOO]
   rw [Mc] at hd
   split at hd
   ·rename_i e
    subst e
    simp only [jc] at hd
    subst hd
    exact ⟨Vc τ cs0, by rw [Array.getElem?_append_left (by simp)]; simp, Gl hsh (hrep w _ _ _ fun _ _ => rfl)⟩
   ·obtain ⟨j, v, h1, h2, h3⟩ := FH hargs hd
    refine ⟨v, ?_, h3⟩
    have hj : j < args.length := (List.getElem?_eq_some_iff.1 h2).1
    have : t = j + 1 := by omega
    subst this
    rw [Array.getElem?_append_left (by simpa using hj)]
    simpa using h2
  ·intro id Ga hb
   obtain ⟨_, e, xs, rfl, h2⟩ := hmem id Ga hb
   exact h2
  ·intro id Ga hb
   have hi := (hmem id Ga hb).1
   have : (ψ id).Sublist (Da ψ (rows.map (·.1))) := by
    unfold Da
    exact List.sublist_flatten_of_mem (List.mem_map_of_mem hi)
   exact this.nodup hF0'
  ·intro id id' Ga blk' hne hb hb' b hm
   exact NC hF0' (hmem id Ga hb).1 (hmem id' blk' hb').1 hne hm
  ·intro id Ga hb b hm
   refine .inr ?_
   show b ∈ F0
   rw [← hbl]
   exact Ab.2 ⟨id, (hmem id Ga hb).1, hm⟩
  ·rintro b (hb | hb)
   ·exact hO b hb
   ·exact hown.lt b hb
  ·intro id v hv
   simp only [A] at hv
   split at hv
   ·simpa using hv
   ·simp at hv
 refine AY (A := A) hG (fun h => by rw [hfz] at h; simp at h) hm c hL he hc ?_
 intro e s σ φ a w' hk h
 have Rg : (match Nb s d0 τ, Jw G s fn.results.toList with
  | some (x', l0), some d => match Ke s rt fr d with
   | some (r, l) => bif Pe (l0 ++ l) then some (x', r) else none
   | none => none
  | _, _ => none) = some r → a.defers = [] ∧ ∃ v, (results fn a.tmps).run P w' = .ok v w' ∧ Bq (fun v w' => ∃ vs F1 Fr, v = Jy vs ∧ At w w' (· ∈ F0) ∧ Rb w' τ r.1 cs0 F1 ∧ (∀ b ∈ F1, w.heap.size ≤ b ∨ b ∈ F0) ∧
  Ec w' (fun b => O b ∨ b ∈ F0 ∨ b ∈ F1 ∨ b ∈ Fr) rt r.2 fr vs Fr ∧ (F1 ++ Fr).Nodup ∧ ∀ b ∈ Fr, w.heap.size ≤ b ∨ b ∈ F0) (.returned v) w' := by
  intro hk
  split at hk
  ·rename_i x' l0 d hx' hd
   split at hk
   ·rename_i r' l hr
    simp only [Ca] at hk
    obtain ⟨hnd, hk⟩ := hk
    simp only [jc] at hk
    subst hk
    have hnd := Sg hnd
    have hr0 : Ra w' (OO (fun b => O b ∨ b ∈ F0) s φ) s.heap σ d0 cs0 := by
     refine hrep w' _ _ _ fun p hp => h.pin p.1 (ν p.1) ?_
     show (if p.1 ∈ rows.map (·.1) then some (ν p.1) else none) = _
     rw [if_pos (List.mem_map_of_mem (f := (·.1)) hp)]
    obtain ⟨ho', hlive0⟩ := Xj h hx' hr0
    obtain ⟨vs, hvs, hru⟩ := OB hG.toEnvTy h hd
    obtain ⟨hR, hlive⟩ := VK h hr hru
    have hall : ∀ j, j ∈ l0 ++ l → ∃ b, s.heap j = some b := by
     intro j hj
     rcases jl.1 hj with hj | hj
     ·exact hlive0 j hj
     ·exact hlive j hj
    have hfr : ∀ b, b ∈ Da φ (l0 ++ l) → w.heap.size ≤ b ∨ b ∈ F0 := by
     intro b hb
     obtain ⟨j, hj, hm'⟩ := Ab.1 hb
     obtain ⟨Ga, hbj⟩ := hall j hj
     exact h.fresh j Ga hbj b hm'
    have hinOO : ∀ b, b ∈ Da φ (l0 ++ l) → OO (fun b => O b ∨ b ∈ F0) s φ b := by
     intro b hb
     obtain ⟨j, hj, hm'⟩ := Ab.1 hb
     obtain ⟨Ga, hbj⟩ := hall j hj
     exact .inr ⟨j, Ga, hbj, hm'⟩
    rw [Sd] at hfr hinOO
    refine ⟨h.df, _, HG hvs, vs, Da φ l0, Da φ l, rfl, ⟨h.fr.size, fun b hb hno => h.fr.block b hb hno, h.fr.os, h.fr.tape, h.fr.output⟩, ho', fun b hb => hfr b (List.mem_append_left _ hb), hR.mono ?_, ?_, fun b hb => hfr b (List.mem_append_right _ hb)⟩
    ·rintro b (hb | hb | hb | hb)
     ·exact .inl (.inl hb)
     ·exact .inl (.inr hb)
     ·exact hinOO b (List.mem_append_left _ hb)
     ·exact hinOO b (List.mem_append_right _ hb)
    ·rw [← Sd]
     exact Ue h hnd hall
   ·simp at hk
  ·simp at hk
 cases e with
 | normal => exact Rg hk
 | ret => exact Rg hk
 | exit j => simp at hk
end
theorem Ak.lt {w : World} : ∀ {pt : Ty} {x : T pt} {args : List Value} {F : List Nat}, Ak w pt x args F → ∀ b, b ∈ F → b < w.heap.size
 | .u, _, [], F, h, b, hb => by simp only [Ak] at h; subst h; simp at hb
 | .p x y, v, a :: r, F, h, b, hb => by
  obtain ⟨cs, F1, F2, _, rfl, ho, h⟩ := h
  rcases jl.1 hb with hb | hb
  ·exact ho.lt b hb
  ·exact Ak.lt h b hb
 | .u, _, _ :: _, _, h, _, _ => by simp [Ak] at h
 | .p _ _, _, [], _, h, _, _ => by simp [Ak] at h
 | .i _, _, l, _, h, _, _ => by simp [Ak] at h
 | .b, _, l, _, h, _, _ => by simp [Ak] at h
 | .o, _, l, _, h, _, _ => by simp [Ak] at h
 | .mp _ _, _, l, _, h, _, _ => by simp [Ak] at h
 | .s, _, l, _, h, _, _ => by simp [Ak] at h
 | .sl _, _, l, _, h, _, _ => by simp [Ak] at h
section
variable {P : Program} {G : Rd} {L : List (Nat × Sa)} {I : Yf}
end
open Go Go.WideShapes
def YH : (τ : Ty) → T τ → Prop
 | .i k, n => k.has n
 | .b, _ => True
 | .o, _ => True
 | .mp _ _, _ => True
 | .s, x => ja x ≤ Ch
 | .sl e, xs => ja xs ≤ Ch ∧ ∀ i (h : i < ja xs), YH e (List.get xs ⟨i, h⟩)
 | .u, _ => True
 | .p x y, v => YH x v.1 ∧ YH y v.2
def Ty.pos : Ty → Bool
 | .sl e => e.pos && Nat.blt 0 e.size
 | .p x y => x.pos && y.pos
 | .o => false
 | .mp _ _ => false
 | _ => true
section
variable {H : Type} {enc : TypeId × Value → H} {P : Program} {w : World} {base : Nat} {spare : Nat → Bool} {held : Bool}
theorem Yk {τ : Ty} {t : TypeId} (h : Sc P τ t = true) : P.cellsOf t = τ.size := by
 obtain ⟨i, h1, h2, _⟩ := Tok.size h
 simp [Program.cellsOf, h1, h2]
theorem V6 {k : IntKind} {n : Int} (h : (Lit.int k n).wf = true) : k.has n := by
 simpa [Lit.wf, IntKind.has] using h
theorem I9 {a : Addr} {n : Nat} (h : n ≠ 0) : a.add n = ⟨a.block, a.off + n, none⟩ := by
 simp [Addr.add, h]
theorem SC {a : Addr} {n : Nat} {cs : List Value} (h : w.cells? base a n = some cs) (hn : 0 < n) :
 ∃ cur et fr, a = ⟨a.block, a.off, none⟩ ∧ w.heap[a.block]? = some (.cells cur et fr) ∧ a.off + n ≤ cur.size ∧ cs = Wc cur a.off n := by
 unfold World.cells? at h
 split at h
 ·have hlen : cs.length = n := by simpa using mapM_some_length h
  have hget : ∀ i, i < n → w.cell? (a.add i) = cs[i]? := fun i hi => mapM_some_get h i i (by simp [hi])
  have h0 := hget 0 hn
  have ha : a.add 0 = a := by simp [Addr.add]
  rw [ha] at h0
  have hc0 : cs[0]? = some (cs[0]'(by omega)) := je (by omega)
  rw [hc0] at h0
  unfold World.cell? at h0
  split at h0
  ·rename_i cur et fr hb
   have hsp : a.spot = none := by
    cases hs : a.spot with
    | none => rfl
    | some x => simp [hs] at h0
   have hcell : ∀ i, i < n → cur[a.off + i]? = cs[i]? := by
    intro i hi
    have := hget i hi
    by_cases hi0 : i = 0
    ·subst hi0
     rw [ha] at this
     unfold World.cell? at this
     rw [hb] at this
     simpa [hsp] using this
    ·rw [I9 hi0] at this
     unfold World.cell? at this
     simp only at this
     rw [hb] at this
     simpa using this
   refine ⟨cur, et, fr, by cases a; simp_all, hb, ?_, ?_⟩
   ·have h1 := hcell (n - 1) (by omega)
    rw [je (by omega)] at h1
    have := (Array.getElem?_eq_some_iff.1 h1).1
    omega
   ·apply List.ext_getElem?
    intro i
    by_cases hi : i < n
    ·rw [Od _ _ _ _ hi, hcell i hi]
    ·rw [List.getElem?_eq_none (by omega), List.getElem?_eq_none]
     simp [Wc]; omega
  ·simp at h0
 ·simp at h
theorem F5 {fs : List Field} {o : Nat} (h : De P .u fs o = true) : fs = [] := by
 cases fs <;> simp_all [De]
theorem XO {x y : Ty} {fs : List Field} {o : Nat} (h : De P (.p x y) fs o = true) : ∃ f r, fs = f :: r ∧ f.offset = o ∧ Sc P x f.type = true ∧ De P y r (o + x.size) = true := by
 cases fs with
 | nil => simp [De] at h
 | cons f r =>
  simp only [De, jd] at h
  exact ⟨f, r, rfl, ju h.1.1.1, h.1.2, h.2⟩
theorem ZN {x y : Ty} {t : TypeId} (h : Sc P (.p x y) t = true) : ∃ fs, P.underlying t = some (.struct fs) ∧ De P (.p x y) fs.toList 0 = true := by
 simp only [Sc, jd] at h
 obtain ⟨_, h⟩ := h
 split at h
 ·rename_i fs hfs
  refine ⟨fs, hfs, ?_⟩
  split at h
  ·rename_i f r hr
   rw [hr]
   simpa [De] using h
  ·simp at h
 ·simp at h
theorem AO {t : TypeId} (h : Sc P .u t = true) : ∃ fs, P.underlying t = some (.struct fs) ∧ fs.size = 0 := by
 simp only [Sc, jd] at h
 obtain ⟨_, h⟩ := h
 split at h
 ·rename_i fs hfs
  exact ⟨fs, hfs, ju h⟩
 ·simp at h
mutual
theorem ZD (hO : ∀ b, ¬ (fun _ : Nat => False) b) : ∀ (τ : Ty) (t : TypeId) (n : Nat) (cs : List Value) (x : DataW H × List MemPlace), Sc P τ t = true → τ.pos = true →
 DataW.trod enc P w base spare held n t cs = some x → ∃ y : T τ, Ma w (fun _ => False) τ y cs ∧ YH τ y
 | .i k, t, n, cs, x, ht, _, h => by
  obtain ⟨m, h1, _, h2⟩ := DataW.trod_int (Tok.i ht) h
  exact ⟨m, h1, V6 h2⟩
 | .b, t, n, cs, x, ht, _, h => by
  obtain ⟨m, h1, _⟩ := DataW.trod_bool (Tok.b ht) h
  exact ⟨m, h1, trivial⟩
 | .o, t, n, cs, x, ht, hp, h => by simp [Ty.pos] at hp
 | .mp _ _, t, n, cs, x, ht, hp, h => by simp [Ty.pos] at hp
 | .s, t, n, cs, x, ht, _, h => by
  obtain ⟨m, h1, _, h2⟩ := DataW.trod_string (Tok.s ht) h
  refine ⟨m.data.toList, ?_, ?_⟩
  ·show cs = [.string ⟨List.toArray m.data.toList⟩]
   rw [h1]
  ·show m.data.toList.length ≤ Ch
   have : m.size = m.data.toList.length := Array.length_toList.symm
   unfold maxLen at h2
   unfold Ch
   omega
 | .sl e, t, n, cs, x, ht, hp, h => by
  obtain ⟨et, hu, he⟩ := Tok.sl ht
  simp only [Ty.pos, jd] at hp
  have hpos : 0 < e.size := by simpa using hp.2
  rcases DataW.trod_slice hu h with ⟨h1, _⟩ | ⟨a, len, cap, elems, rest, m, _, h1, _, _, h2, h3, h4, h5, _, _⟩
  ·exact ⟨([] : List (T e)), ⟨none, 0, h1, jo _, Nat.zero_le _, .inl rfl⟩, ⟨Nat.zero_le _, fun i hi => absurd hi (Nat.not_lt_zero i)⟩⟩
  ·rw [Yk he] at h5
   have hone : ∀ i, i < len → ∃ y : T e, ∃ cs', w.cells? base (a.add (i * e.size)) e.size = some cs' ∧ Ma w (fun _ => False) e y cs' ∧ YH e y := by
    intro i hi
    have := h5 i hi
    rw [je (by omega), qd] at this
    obtain ⟨cs', hc, hy⟩ := this
    obtain ⟨y, hv, hr⟩ := ZD hO e et m cs' _ he hp.1 hy
    exact ⟨y, cs', hc, hv, hr⟩
   let ys : List (T e) := List.ofFn fun i : Fin len => Classical.choose (hone i.1 i.2)
   have hlen : ys.length = len := by simp [ys]
   have hy : ∀ i (h : i < ys.length), ∃ cs', w.cells? base (a.add (i * e.size)) e.size = some cs' ∧ Ma w (fun _ => False) e (ys.get ⟨i, h⟩) cs' ∧ YH e (ys.get ⟨i, h⟩) := by
    intro i hi
    have := Classical.choose_spec (hone i (by omega))
    simpa [ys] using this
   have hmax : len ≤ Ch := by unfold maxLen at h3; unfold Ch; omega
   refine ⟨ys, ⟨some a, cap, by rw [h1, hlen], by rw [hlen]; exact h2, by rw [hlen]; exact hmax, ?_⟩, by rw [hlen]; exact hmax, fun i hi => (hy i hi).choose_spec.2.2⟩
   by_cases hl0 : len = 0
   ·left
    exact List.eq_nil_of_length_eq_zero (by omega)
   ·right
    obtain ⟨cs0, hc0, _⟩ := hy 0 (by omega)
    have ha0 : a.add (0 * e.size) = a := by simp [Addr.add]
    rw [ha0] at hc0
    obtain ⟨cur, et', fr, ha, hb, _, _⟩ := SC hc0 hpos
    have hadd : ∀ i, (a.add (i * e.size)).block = a.block ∧ (a.add (i * e.size)).off = a.off + i * e.size := by
     intro i
     unfold Addr.add
     split
     ·rename_i hz; simp [hz]
     ·exact ⟨rfl, rfl⟩
    refine ⟨a.block, a.off, cur, et', fr, by rw [← ha], fun h => h, hb, ?_, ?_⟩
    ·obtain ⟨cs1, hc1, _⟩ := hy (len - 1) (by omega)
     obtain ⟨cur1, et1, fr1, _, hb1, hs1, _⟩ := SC hc1 hpos
     rw [(hadd _).1, hb] at hb1
     simp only [jc, Obj.cells.injEq] at hb1
     rw [(hadd _).2, ← hb1.1] at hs1
     have : len * e.size = (len - 1) * e.size + e.size := by
      rw [← Nat.succ_mul]; congr 1; omega
     show a.off + ys.length * e.size ≤ cur.size
     rw [hlen]
     omega
    ·intro i hi
     obtain ⟨cs1, hc1, hv, _⟩ := hy i hi
     obtain ⟨cur1, et1, fr1, _, hb1, _, hs1⟩ := SC hc1 hpos
     rw [(hadd _).1, hb] at hb1
     simp only [jc, Obj.cells.injEq] at hb1
     rw [(hadd _).2, ← hb1.1] at hs1
     rw [← hs1]
     exact hv
 | .u, t, n, cs, x, ht, _, h => by
  obtain ⟨fs, hu, hz⟩ := AO ht
  obtain ⟨xs, m, _, _, hl, _⟩ := DataW.trod_struct hu h
  rw [Yk ht] at hl
  exact ⟨(), List.eq_nil_of_length_eq_zero hl, trivial⟩
 | .p a c2, t, n, cs, x, ht, hp, h => by
  obtain ⟨fs, hu, hf⟩ := ZN ht
  obtain ⟨xs, m, _, _, hl, _, hget⟩ := DataW.trod_struct hu h
  rw [Yk ht] at hl
  have := UF hO (.p a c2) fs.toList 0 m cs hf hp (by simpa using hl) (by
   intro i f hi
   have := hget i f (by simpa using hi)
   have hlt : i < xs.length := by
    have : i < fs.toList.length := (List.getElem?_eq_some_iff.1 hi).1
    simp at this; omega
   exact ⟨_, this.trans (je hlt)⟩)
  simpa using this
termination_by τ => (sizeOf τ, 1)
theorem UF (hO : ∀ b, ¬ (fun _ : Nat => False) b) : ∀ (τ : Ty) (fs : List Field) (o m : Nat) (cs : List Value), De P τ fs o = true → τ.pos = true → cs.length = o + τ.size →
 (∀ (i : Nat) (f : Field), fs[i]? = some f → ∃ x, DataW.trod enc P w base spare held m f.type ((cs.drop f.offset).take (P.cellsOf f.type)) = some x) →
 ∃ y : T τ, Ma w (fun _ => False) τ y (cs.drop o) ∧ YH τ y
 | .p a c2, fs, o, m, cs, hf, hp, hl, hx => by
  obtain ⟨f, r, rfl, ho, ht, hr⟩ := XO hf
  simp only [Ty.pos, jd] at hp
  simp only [Ty.size] at hl
  obtain ⟨z, hz⟩ := hx 0 f rfl
  rw [Yk ht, ho] at hz
  obtain ⟨y1, hv1, hr1⟩ := ZD hO a f.type m _ z ht hp.1 hz
  obtain ⟨y2, hv2, hr2⟩ := UF hO c2 r (o + a.size) m cs hr hp.2 (by omega) (fun i f' hi => hx (i + 1) f' (by simpa using hi))
  refine ⟨(y1, y2), ⟨(cs.drop o).take a.size, cs.drop (o + a.size), ?_, hv1, hv2⟩, hr1, hr2⟩
  rw [← List.drop_drop, List.take_append_drop]
 | .u, fs, o, m, cs, _, _, hl, _ => ⟨(), by simp only [Ma, Ty.size] at hl ⊢; exact List.drop_of_length_le (by omega), trivial⟩
 | .i _, fs, o, m, cs, hf, _, _, _ => by simp [De] at hf
 | .b, fs, o, m, cs, hf, _, _, _ => by simp [De] at hf
 | .o, fs, o, m, cs, hf, _, _, _ => by simp [De] at hf
 | .mp _ _, fs, o, m, cs, hf, _, _, _ => by simp [De] at hf
 | .s, fs, o, m, cs, hf, _, _, _ => by simp [De] at hf
 | .sl _, fs, o, m, cs, hf, _, _, _ => by simp [De] at hf
termination_by τ => (sizeOf τ, 0)
end
end
open Go Go.WideShapes Go.ChangeShapes
def Kh (P : Program) : Ty → List TypeId → Bool
 | .p x y, t :: ts => Sc P x t && x.pos && Kh P y ts
 | .u, [] => true
 | _, _ => false
section
variable {H : Type} {enc : TypeId × Value → H} {P : Program} {w : World} {base : Nat} {spare : Nat → Bool} {held : Bool}
theorem MX {τ : Ty} {t : TypeId} {v : Value} {r : Reach} {b0 : Nat} (ht : Sc P τ t = true) (h : Value.okWide P w r b0 t v) : v = Vc τ v.cells.toList := by
 have key : ∀ {τ : Ty}, τ.isAgg = false → v.cells = #[v] → v = Vc τ v.cells.toList := by
  intro τ h1 h2
  rw [h2]; simp [Vc, h1]
 cases τ with
 | i k =>
  obtain ⟨n, rfl⟩ := okWide_int (Tok.i ht) h
  exact key rfl rfl
 | b =>
  obtain ⟨n, rfl⟩ := okWide_bool (Tok.b ht) h
  exact key rfl rfl
 | o =>
  refine key rfl ?_
  obtain ⟨et, hu⟩ := Tok.o ht
  unfold Value.okWide at h
  rw [hu] at h
  cases v with
  | agg cs => simp [Cell.okWide, Cell.ok, hu] at h
  | _ => rfl
 | mp _ _ =>
  refine key rfl ?_
  obtain ⟨kt, et, hu, _⟩ := Tok.mp ht
  unfold Value.okWide at h
  rw [hu] at h
  cases v with
  | agg cs => simp [Cell.okWide, Cell.ok, hu] at h
  | _ => rfl
 | s =>
  refine key rfl ?_
  have hu := Tok.s ht
  unfold Value.okWide at h
  rw [hu] at h
  cases v with
  | agg cs => simp [Cell.okWide, Cell.ok, hu] at h
  | _ => rfl
 | sl e =>
  refine key rfl ?_
  obtain ⟨et, hu, _⟩ := Tok.sl ht
  unfold Value.okWide at h
  rw [hu] at h
  cases v with
  | agg cs => simp [Cell.okWide, Cell.ok, hu] at h
  | _ => rfl
 | u =>
  obtain ⟨fs, hu, _⟩ := AO ht
  obtain ⟨cs, rfl, _⟩ := okWide_struct hu h
  simp [Vc, Ty.isAgg, Value.cells]
 | p x y =>
  obtain ⟨fs, hu, _⟩ := ZN ht
  obtain ⟨cs, rfl, _⟩ := okWide_struct hu h
  simp [Vc, Ty.isAgg, Value.cells]
theorem YD : ∀ {pt : Ty} {ts : List TypeId} {vs : List Value} {ds : List (DataW H)} {ps : List MemPlace}, Kh P pt ts = true → DataW.TrodAll enc P w 0 spare held ts vs ds ps →
 (∀ (j : Nat) t v, ts[j]? = some t → vs[j]? = some v → Value.okWide P w .any base t v) → ∃ x : T pt, Me w (fun _ => False) pt x vs ∧ YH pt x
 | .p x y, t :: ts, v :: vs, d :: ds, ps, hp, h, hv => by
  simp only [Kh, jd] at hp
  obtain ⟨p, q, ⟨n, h1⟩, h2, _⟩ := h
  obtain ⟨a, ha, hra⟩ := ZD (fun _ h => h) x t n _ _ hp.1.1 hp.1.2 h1
  obtain ⟨b, hb, hrb⟩ := YD hp.2 h2 fun j t' v' h1 h2 => hv (j + 1) t' v' (by simpa using h1) (by simpa using h2)
  exact ⟨(a, b), ⟨⟨_, MX hp.1.1 (hv 0 t v rfl rfl), ha⟩, hb⟩, hra, hrb⟩
 | .u, [], [], [], _, _, _, _ => ⟨(), trivial, trivial⟩
 | .p _ _, [], _, _, _, hp, _, _ => by simp [Kh] at hp
 | .u, _ :: _, _, _, _, hp, _, _ => by simp [Kh] at hp
 | .i _, _, _, _, _, hp, _, _ => by simp [Kh] at hp
 | .b, _, _, _, _, hp, _, _ => by simp [Kh] at hp
 | .o, _, _, _, _, hp, _, _ => by simp [Kh] at hp
 | .mp _ _, _, _, _, _, hp, _, _ => by simp [Kh] at hp
 | .s, _, _, _, _, hp, _, _ => by simp [Kh] at hp
 | .sl _, _, _, _, _, hp, _, _ => by simp [Kh] at hp
 | .p _ _, _ :: _, [], _, _, _, h, _ => by simp [DataW.TrodAll] at h
 | .p _ _, _ :: _, _ :: _, [], _, _, h, _ => by simp [DataW.TrodAll] at h
 | .u, [], _ :: _, _, _, _, h, _ => by simp [DataW.TrodAll] at h
 | .u, [], [], _ :: _, _, _, h, _ => by simp [DataW.TrodAll] at h
def DE (P : Program) (t : TypeId) : Prop := ∃ τ : Ty, Sc P τ t = true ∧ τ.pos = true
theorem YO : ∀ {τ : Ty} {fs : List Field} {o : Nat}, De P τ fs o = true → τ.pos = true →
 (∀ f ∈ fs, DE P f.type) ∧ τ.size = (fs.map fun f => P.cellsOf f.type).sum ∧ ∀ (j : Nat) f, fs[j]? = some f → f.offset = o + ((fs.take j).map fun f => P.cellsOf f.type).sum
 | .u, fs, o, h, _ => by
  rw [F5 h]
  simp [Ty.size]
 | .p x y, fs, o, h, hp => by
  obtain ⟨f, r, rfl, ho, ht, hr⟩ := XO h
  simp only [Ty.pos, jd] at hp
  obtain ⟨h1, h2, h3⟩ := YO hr hp.2
  refine ⟨?_, ?_, ?_⟩
  ·intro g hg
   rcases jp.1 hg with rfl | hg
   ·exact ⟨x, ht, hp.1⟩
   ·exact h1 g hg
  ·simp [Ty.size, Yk ht, h2]
  ·intro j g hj
   cases j with
   | zero => simp at hj; subst hj; simp [ho]
   | succ j =>
    have := h3 j g (by simpa using hj)
    simp [this, Yk ht, jt]
 | .i _, fs, o, h, _ => by simp [De] at h
 | .b, fs, o, h, _ => by simp [De] at h
 | .o, fs, o, h, _ => by simp [De] at h
 | .mp _ _, fs, o, h, _ => by simp [De] at h
 | .s, fs, o, h, _ => by simp [De] at h
 | .sl _, fs, o, h, _ => by simp [De] at h
theorem Yw {t : TypeId} {u : TypeDesc} (h : DE P t) (hu : P.underlying t = some u) : (∃ k, u = .int k) ∨ u = .bool ∨ u = .string ∨ (∃ e, u = .slice e ∧ DE P e ∧ 0 < P.cellsOf e) ∨ ∃ fs, u = .struct fs := by
 obtain ⟨τ, ht, hp⟩ := h
 cases τ with
 | i k => rw [Tok.i ht] at hu; exact .inl ⟨k, (Option.some.inj hu).symm⟩
 | b => rw [Tok.b ht] at hu; exact .inr (.inl (Option.some.inj hu).symm)
 | o => simp [Ty.pos] at hp
 | mp _ _ => simp [Ty.pos] at hp
 | s => rw [Tok.s ht] at hu; exact .inr (.inr (.inl (Option.some.inj hu).symm))
 | sl e =>
  obtain ⟨et, h1, h2⟩ := Tok.sl ht
  rw [h1] at hu
  simp only [Ty.pos, jd] at hp
  exact .inr (.inr (.inr (.inl ⟨et, (Option.some.inj hu).symm, ⟨e, h2, hp.1⟩, by rw [Yk h2]; simpa using hp.2⟩)))
 | u => obtain ⟨fs, h1, _⟩ := AO ht; rw [h1] at hu; exact .inr (.inr (.inr (.inr ⟨fs, (Option.some.inj hu).symm⟩)))
 | p x y => obtain ⟨fs, h1, _⟩ := ZN ht; rw [h1] at hu; exact .inr (.inr (.inr (.inr ⟨fs, (Option.some.inj hu).symm⟩)))
theorem EW : Kids P (DE P) := by
 refine ⟨?_, ?_, ?_, ?_, ?_⟩
 ·intro t e ht hu
  rcases Yw ht hu with ⟨k, h⟩ | h | h | ⟨e', h, _⟩ | ⟨fs, h⟩ <;> simp at h
 ·intro t e ht hu
  rcases Yw ht hu with ⟨k, h⟩ | h | h | ⟨e', h, h2, _⟩ | ⟨fs, h⟩ <;> simp at h
  rw [h]; exact h2
 ·intro t e n ht hu
  rcases Yw ht hu with ⟨k, h⟩ | h | h | ⟨e', h, _⟩ | ⟨fs, h⟩ <;> simp at h
 ·intro t fs ht hu
  obtain ⟨τ, ht, hp⟩ := ht
  cases τ with
  | i k => rw [Tok.i ht] at hu; simp at hu
  | b => rw [Tok.b ht] at hu; simp at hu
  | o => simp [Ty.pos] at hp
  | mp _ _ => simp [Ty.pos] at hp
  | s => rw [Tok.s ht] at hu; simp at hu
  | sl e => obtain ⟨et, h1, _⟩ := Tok.sl ht; rw [h1] at hu; simp at hu
  | u =>
   obtain ⟨fs', h1, h2⟩ := AO ht
   rw [h1] at hu
   simp only [jc, TypeDesc.struct.injEq] at hu
   subst hu
   have : fs'.toList = [] := by simpa using h2
   rw [Yk ht, this]
   simp [Ty.size]
  | p x y =>
   obtain ⟨fs', h1, h2⟩ := ZN ht
   rw [h1] at hu
   simp only [jc, TypeDesc.struct.injEq] at hu
   subst hu
   obtain ⟨a, b, c⟩ := YO h2 hp
   exact ⟨a, by rw [Yk ht, b], fun j f hj => by simpa using c j f hj⟩
 ·intro t k e ht hu
  rcases Yw ht hu with ⟨k, h⟩ | h | h | ⟨e', h, _⟩ | ⟨fs, h⟩ <;> simp at h
theorem FG : ∀ {pt : Ty} {ts : List TypeId}, Kh P pt ts = true → ∀ t ∈ ts, DE P t
 | .p x y, t :: ts, h, t', ht => by
  simp only [Kh, jd] at h
  rcases jp.1 ht with rfl | ht
  ·exact ⟨x, h.1.1, h.1.2⟩
  ·exact FG h.2 t' ht
 | .u, [], _, _, ht => by simp at ht
 | .p _ _, [], _, _, ht => by simp at ht
 | .u, _ :: _, h, _, _ => by simp [Kh] at h
 | .i _, _, h, _, _ => by simp [Kh] at h
 | .b, _, h, _, _ => by simp [Kh] at h
 | .o, _, h, _, _ => by simp [Kh] at h
 | .mp _ _, _, h, _, _ => by simp [Kh] at h
 | .s, _, h, _, _ => by simp [Kh] at h
 | .sl _, _, h, _, _ => by simp [Kh] at h
theorem ZB {w' : World} {sp' : Nat → Bool} : ∀ {ts : List TypeId} {vs : List Value} {ds : List (DataW H)} {ps : List MemPlace}, (∀ t ∈ ts, DE P t) →
 DataW.TrodAll enc P w 0 (fun _ => true) true ts vs ds ps → (∀ p ∈ ps, w.sameAt w' p) → (∀ p ∈ ps, sp' p.block = true) → DataW.TrodAll enc P w' 0 sp' true ts vs ds ps
 | [], [], [], _, _, h, _, _ => h
 | t :: ts, v :: vs, d :: ds, ps, hp, h, h1, h2 => by
  obtain ⟨p, q, ⟨n, ha⟩, hb, rfl⟩ := h
  refine ⟨p, q, ⟨n, DataW.trod_stays EW ?_ (fun h => by simp at h) (hp t (by simp)) ha (fun z hz => h1 z (List.mem_append_left _ hz)) (fun z hz => h2 z (List.mem_append_left _ hz))⟩,
   ZB (fun t ht => hp t (by simp [ht])) hb (fun z hz => h1 z (List.mem_append_right _ hz)) (fun z hz => h2 z (List.mem_append_right _ hz)), rfl⟩
  intro t e ht hu
  rcases Yw ht hu with ⟨k, h⟩ | h | h | ⟨e', h, _, h2⟩ | ⟨fs, h⟩ <;> simp at h
  rw [h]; exact h2
 | [], _ :: _, _, _, _, h, _, _ => by simp [DataW.TrodAll] at h
 | [], [], _ :: _, _, _, h, _, _ => by simp [DataW.TrodAll] at h
 | _ :: _, [], _, _, _, h, _, _ => by simp [DataW.TrodAll] at h
 | _ :: _, _ :: _, [], _, _, h, _, _ => by simp [DataW.TrodAll] at h
theorem JG : ∀ {ts : List TypeId} {vs : List Value} {ds : List (DataW H)} {ps : List MemPlace}, DataW.TrodAll enc P w base spare held ts vs ds ps → ds.length = ts.length
 | [], [], [], _, _ => rfl
 | _ :: _, _ :: _, _ :: _, _, h => by
  obtain ⟨_, _, _, h, _⟩ := h
  simp [JG h]
 | [], _ :: _, _, _, h => by simp [DataW.TrodAll] at h
 | [], [], _ :: _, _, h => by simp [DataW.TrodAll] at h
 | _ :: _, [], _, _, h => by simp [DataW.TrodAll] at h
 | _ :: _, _ :: _, [], _, h => by simp [DataW.TrodAll] at h
theorem At.but {w w' : World} (h : At w w' fun _ => False) (may : MemPlace → Prop) : w.keptBut w' may := by
 refine ⟨h.os, h.output, fun i hi => ?_⟩
 rw [h.block i hi (fun h => h)]
 cases w.heap[i]? with
 | none => rfl
 | some o =>
  cases o with
  | cells c t fr => exact ⟨rfl, rfl, rfl, fun _ _ => rfl⟩
  | map es clock => exact .inr ⟨rfl, rfl⟩
  | _ => rfl
end
noncomputable def Cb {X R : Type} (step : X → Option (X ⊕ R)) (x : X) : Option R :=
 open Classical in if h : ∃ m y, Bx step m x y then some h.choose_spec.choose else none
theorem Bx.det {X R : Type} {step : X → Option (X ⊕ R)} : ∀ {m n : Nat} {x : X} {y z : R}, Bx step m x y → Bx step n x z → y = z
 | 0, _, _, _, _, h, _ => h.elim
 | _ + 1, 0, _, _, _, _, h => h.elim
 | m + 1, n + 1, x, y, z, h, h' => by
  rcases h with h | ⟨x1, h, h1⟩ <;> rcases h' with h' | ⟨x2, h', h2⟩
  ·rw [h] at h'; simpa using h'
  ·rw [h] at h'; simp at h'
  ·rw [h] at h'; simp at h'
  ·rw [h] at h'
   simp only [jc, Sum.inl.injEq] at h'
   subst h'
   exact Bx.det h1 h2
theorem Ez {X R : Type} {step : X → Option (X ⊕ R)} {x : X} {y : R} : Cb step x = some y ↔ ∃ m, Bx step m x y := by
 unfold Cb
 constructor
 ·intro h
  split at h
  ·rename_i hh
   simp only [jc] at h
   exact ⟨_, h ▸ hh.choose_spec.choose_spec⟩
  ·simp at h
 ·rintro ⟨m, h⟩
  have hh : ∃ m y, Bx step m x y := ⟨m, y, h⟩
  rw [dif_pos hh]
  exact congrArg some (Bx.det hh.choose_spec.choose_spec h)
theorem GW {X R : Type} {step : X → Option (X ⊕ R)} (x : X) : Cb step x = (step x).bind (j5 (Cb step) some) := by
 apply Option.ext
 intro y
 rw [Ez]
 constructor
 ·rintro ⟨m, h⟩
  cases m with
  | zero => exact h.elim
  | succ m =>
   rcases h with h | ⟨x', h, h'⟩
   ·simp [h]
   ·simp [h, Ez.2 ⟨m, h'⟩]
 ·intro h
  rw [qd] at h
  obtain ⟨z, hz, h⟩ := h
  cases z with
  | inl x' =>
   obtain ⟨m, hm⟩ := Ez.1 h
   exact ⟨m + 1, .inr ⟨x', hz, hm⟩⟩
  | inr z =>
   simp only [Sum.elim_inr, jc] at h
   subst h
   exact ⟨1, .inl hz⟩
def lp (fn : Func) (i : Nat) : Code := (Xd (fn.body.getD .skip)).getD i .skip
theorem NZ {G : Rd} {L : List (Nat × Sa)} {fn : Func} {i r : Nat} {ls : Sa} {R : ls.inT.X → Option (ls.inT.X ⊕ (ls.outT.X ⊕ ls.retT.X))}
 (h1 : Fh (lp fn i) = some r) (h2 : (Za L r) = some ls) (h3 : ls.F = Cb R) (h4 : ∀ x, Jz G L ls (lp fn i) x = R x) : Db G L (lp fn i) := by
 intro r' ls' hr hl x y hy
 rw [h1] at hr
 simp only [jc] at hr
 subst hr
 rw [h2] at hl
 simp only [jc] at hl
 subst hl
 rw [h3] at hy
 obtain ⟨m, hm⟩ := Ez.1 hy
 have : Jz G L ls (lp fn i) = R := funext h4
 rw [this]
 exact ⟨m, hm⟩
theorem VL {G : Rd} {L : List (Nat × Sa)} {fn : Func} {k : Nat} (hk : Nat.beq (Xd (fn.body.getD .skip)).length k = true) (h : ∀ i, i < k → Db G L (lp fn i)) :
 ∀ b, b ∈ Xd (fn.body.getD .skip) → Db G L b := by
 intro b hb
 obtain ⟨i, hi, rfl⟩ := List.mem_iff_getElem.1 hb
 have := h i (by rw [← ju hk]; exact hi)
 unfold lp at this
 rwa [qg, je hi] at this
theorem Oa {p : Nat → Prop} : ∀ i, i < 0 → p i := fun i h => absurd h (Nat.not_lt_zero i)
theorem Na {p : Nat → Prop} {k : Nat} (h : p k) (hr : ∀ i, i < k → p i) : ∀ i, i < k + 1 → p i := by
 intro i hi
 rcases Nat.lt_or_eq_of_le (Nat.lt_succ_iff.1 hi) with hi | rfl
 ·exact hr i hi
 ·exact h
section
variable {P : Program}
theorem M1 {l : List (Nat × Ty)} {fs : List (Nat × La)} {m : List (Nat × Nat)} {z : Bool} {ar : List (Nat × Ty × Nat)} {mv ml : List Nat}
 (h : ((l.all fun x => Sc P x.2 x.1) && (ar.all fun x => AK P x.1 x.2.1 x.2.2)) = true) : EnvTy P ⟨l, fs, m, z, ar, mv, ml⟩ := by
 simp only [jd] at h
 exact ⟨fun t τ ht => List.all_eq_true.1 h.1 (t, τ) (Yo ht), fun t e n ht => List.all_eq_true.1 h.2 (t, e, n) (Yo ht)⟩
theorem VX {I : Yf} {l : List (Nat × Ty)} {m : List (Nat × Nat)} {z : Bool} {ar : List (Nat × Ty × Nat)} {mv ml : List Nat}
 (h : ((l.all fun x => Sc P x.2 x.1) && (ar.all fun x => AK P x.1 x.2.1 x.2.2)) = true) : Zj P I ⟨l, [], m, z, ar, mv, ml⟩ :=
 { toEnvTy := M1 h, fn := fun f sem h => by simp [Za] at h }
theorem Zj.cons {I : Yf} {l : List (Nat × Ty)} {fs : List (Nat × La)} {m : List (Nat × Nat)} {z : Bool} {ar : List (Nat × Ty × Nat)} {mv ml : List Nat} {f : Nat} {sem : La} (hs : Bk P I f sem)
 (h : Zj P I ⟨l, fs, m, z, ar, mv, ml⟩) : Zj P I ⟨l, (f, sem) :: fs, m, z, ar, mv, ml⟩ :=
 { toEnvTy := ⟨h.ty, h.ar⟩, fn := fun g s hg => by
    simp only [Mc] at hg
    split at hg
    ·rename_i e
     simp only [jc] at hg
     subst e; subst hg
     exact hs
    ·exact h.fn g s hg }
theorem JL {fn : Func} (h : fn.body.isSome = true) : fn.body = some (fn.body.getD .skip) := by
 cases hb : fn.body with
 | none => rw [hb] at h; simp at h
 | some c => rfl
variable {I : Yf} {G : Rd} {L : List (Nat × Sa)}
theorem DM (hG : Zj P I G) (hm : P.follows .mixedOrders = true) {f : FuncId} {fn : Func} {k : Nat} {pt rt : Ty} {fr : List Bool} {F : T pt → Option (T rt)} (hf : P.funcs[f]? = some fn)
 (hb : (fn.body.isSome && !(fn.name == "runtime.NumGoroutine") && jw pt.npar fn.ntmps && Nat.beq (Xd (fn.body.getD .skip)).length k) = true)
 (hL : ∀ i, i < k → Db G L (lp fn i)) (hF : ∀ x, BY G L fn pt rt fr x = F x) : Bk P I f (.pu pt rt fr F) := by
 simp only [jd, Bool.not_eq_true'] at hb
 exact T2 hG hm hf (JL hb.1.1.1) hb.1.1.2 (VL hb.2 hL) (Nat.le_of_ble_eq_true hb.1.2) fun x r h => (hF x).trans h
theorem ZZ (hG : Zj P I G) (hfz : G.fz = false) (hm : P.follows .mixedOrders = true) {f : FuncId} {fn : Func} {k : Nat} {τ pt rt : Ty} {fr : List Bool} {F : T τ → T pt → Option (T τ × T rt)} (hf : P.funcs[f]? = some fn)
 (hb : (fn.body.isSome && !(fn.name == "runtime.NumGoroutine") && jw (pt.npar + 1) fn.ntmps && Nat.beq (Xd (fn.body.getD .skip)).length k) = true)
 (hL : ∀ i, i < k → Db G L (lp fn i)) (hF : ∀ x0 x, TN G L fn τ pt rt fr x0 x = F x0 x) : Bk P I f (.io τ pt rt fr F) := by
 simp only [jd, Bool.not_eq_true'] at hb
 exact S2 hG hfz hm hf (JL hb.1.1.1) hb.1.1.2 (VL hb.2 hL) (Nat.le_of_ble_eq_true hb.1.2) fun x0 x r h => (hF x0 x).trans h
end
def hd (h : T .o) : Value := .slice h.1 h.2.1 h.2.2
section
variable {P : Program} {w w' : World}
end
open Classical in
def IQ (n : Nat) : Bool := jw n 1048576
noncomputable def PJ (x y : List UInt8) : Option (List (List UInt8) × Unit) :=
 bif IQ (ja x) && jw 1 (ja y) then some (Lib.split x y, ()) else none
noncomputable def VN (x : List (List UInt8)) (y : List UInt8) : Option (List UInt8 × Unit) :=
 bif jw (ja x) 1073741824 && jw (ja (Lib.join x y)) 1073741824 then some (Lib.join x y, ()) else none
noncomputable def UE (n : Int) : Option (List UInt8 × Unit) := bif decide (-9223372036854775808 ≤ n) && decide (n ≤ 9223372036854775807) then some (Lib.itoa n, ()) else none
noncomputable def OV (x y : List UInt8) : Option (List UInt8 × (List UInt8 × (Bool × Unit))) :=
 bif jw (ja x) 4294967280 then some ((Lib.cut x y).1, (Lib.cut x y).2.1, (Lib.cut x y).2.2, ()) else none
noncomputable def Mq (s : List UInt8) : Int × (Bool × Unit) :=
 bif Nat.blt (ja s) 1 || Nat.blt 10 (ja s) then ((0 : Int), false, ()) else match Lib.atoi s with
  | none => ((0 : Int), false, ())
  | some n => bif decide (n < -999999999) || decide (n > 999999999) || (Lib.itoa n != s) then ((0 : Int), false, ()) else (n, true, ())
noncomputable def OW (s : List UInt8) : Option (Int × (Bool × Unit)) := some (Mq s)
theorem I7 {cur : Array Value} {k : Nat} {v : Value} (h : Wc cur k 1 = [v]) : cur[k]? = some v := by
 have := congrArg (·[0]?) h
 simp only [Od cur k 1 0 (by omega)] at this
 simpa using this
theorem Y6 {cur : Array Value} {k : Nat} {v : Value} (h : cur[k]? = some v) : Wc cur k 1 = [v] := by
 apply List.ext_getElem?
 intro j
 by_cases hj : j = 0
 ·subst hj; rw [Od cur k 1 0 (by omega)]; simpa using h
 ·have hk : k < cur.size := (Array.getElem?_eq_some_iff.1 h).1
  have hl : (Wc cur k 1).length = 1 := Rc (by omega)
  rw [List.getElem?_eq_none (by omega), List.getElem?_eq_none (by simp; omega)]
theorem RA (w : World) (o : Obj) : (w.alloc o).heap = w.heap.push o := rfl
theorem AR {P : Program} {ρ : Go.Shelf.Ren} {f : FuncId} {I : Yf} (L : Go.Proofs.LaysM.n146 P ρ) (hf : ρ.f 146 = f)
 (hI : ∀ w, I.p w → ∃ m, w.cell? ⟨ρ.g 1, 0, none⟩ = some (.int .i64 m)) : Bk P I f (.pu (.p .s (.p .s .u)) (.p (.sl .s) .u) [true] (fun x => PJ x.1 x.2.1)) := by
 subst hf
 refine ⟨⟨_, L.f146, rfl, rfl⟩, ?_⟩
 intro O w x r args hF hA hO hi hb
 match args, hA with
 | [a, b], hA =>
  obtain ⟨⟨ca, rfl, hca⟩, ⟨cb, rfl, hcb⟩, _⟩ := hA
  have hca' : ca = [.string ⟨List.toArray x.1⟩] := hca
  have hcb' : cb = [.string ⟨List.toArray x.2.1⟩] := hcb
  subst hca'; subst hcb'
  simp only [PJ, IQ] at hF
  cases h1 : jw (ja x.1) 1048576 with
  | false => rw [h1] at hF; simp at hF
  | true =>
  cases h2 : jw 1 (ja x.2.1) with
  | false => rw [h1, h2] at hF; simp at hF
  | true =>
  rw [h1, h2] at hF
  simp only [Bool.and_true, cond_true, jc] at hF
  subst hF
  have h1' := Nat.le_of_ble_eq_true h1
  have h2' := Nat.le_of_ble_eq_true h2
  obtain ⟨m, hm⟩ := hI w hi
  have hs1 : (⟨List.toArray x.1⟩ : ByteArray).size = ja x.1 := by show (List.toArray x.1).size = _; simp
  have hs2 : (⟨List.toArray x.2.1⟩ : ByteArray).size = ja x.2.1 := by show (List.toArray x.2.1).size = _; simp
  have hd : (Lib.splitB ⟨List.toArray x.2.1⟩ 0 (Lib.countB ⟨List.toArray x.1⟩ ⟨List.toArray x.2.1⟩) ⟨List.toArray x.1⟩).map (fun z => z.data.toList) = Lib.split x.1 x.2.1 := by
   rw [Lib.splitB_data]; rfl
  have hlen := Lib.splitB_all ⟨List.toArray x.2.1⟩ (by omega) 0 _ ⟨List.toArray x.1⟩ rfl
  have hle := Lib.countB_le ⟨List.toArray x.2.1⟩ (by omega) _ ⟨List.toArray x.1⟩ (jo _)
  obtain ⟨zs, hz⟩ : ∃ zs, Lib.splitB ⟨List.toArray x.2.1⟩ 0 (Lib.countB ⟨List.toArray x.1⟩ ⟨List.toArray x.2.1⟩) ⟨List.toArray x.1⟩ = zs := ⟨_, rfl⟩
  rw [hz] at hlen hd
  obtain ⟨n, hcn⟩ : ∃ n, Lib.countB ⟨List.toArray x.1⟩ ⟨List.toArray x.2.1⟩ = n := ⟨_, rfl⟩
  rw [hcn] at hlen hle
  have hn : (Lib.split x.1 x.2.1).length = n + 1 := by rw [← hd, List.length_map, hlen]
  refine (Go.Proofs.Any.strings_Split { L with } L.i9 ⟨List.toArray x.1⟩ ⟨List.toArray x.2.1⟩ m w (by omega) hm (by omega)).mono ?_
  rintro e w' ⟨rfl, rfl⟩
  rw [hz]
  refine ⟨[.slice (some ⟨w.heap.size, 0, none⟩) (n + 1) (n + 1)], [w.heap.size], by rw [hcn]; rfl, ⟨?_, ?_, rfl, rfl, rfl⟩, ?_, by simp, by simp⟩
  ·rw [RA]; simp
  ·intro b hb _
   rw [RA]
   simp [Array.getElem?_push_lt hb, Array.getElem?_eq_getElem hb]
  ·refine ⟨[.slice (some ⟨w.heap.size, 0, none⟩) (n + 1) (n + 1)], [w.heap.size], [], rfl, rfl, ?_, rfl⟩
   show Rb _ (.sl .s) (Lib.split x.1 x.2.1) _ _
   refine ⟨by rw [hn]; unfold Ch; omega, .inr ⟨w.heap.size, 0, n + 1, (zs.map Value.string).toArray, ρ.t 9, List.replicate (n + 1) [], ?_, ?_, by omega, by unfold Ch; omega, ?_, ?_, ?_, ?_⟩⟩
   ·rw [hn]
   ·rw [RA]; simp
   ·simp [Ty.size, hlen]
   ·simp
   ·simp [hn]
   ·intro i hi
    have hi' : i < n + 1 := by omega
    have hiz : i < zs.length := by omega
    refine ⟨?_, by simp [qg, List.getElem?_replicate, hi']⟩
    show Wc _ (0 + i * 1) 1 = _
    apply Y6
    have : (Lib.split x.1 x.2.1)[i]'hi = (zs[i]).data.toList := by simp [← hd]
    show _ = some (Value.string ⟨List.toArray ((Lib.split x.1 x.2.1)[i]'hi)⟩)
    rw [this]
    simp [hiz]
theorem BW {P : Program} {ρ : Go.Shelf.Ren} {f : FuncId} {I : Yf} (L : Go.Proofs.Lays.n156 P ρ) (hf : ρ.f 156 = f) (X : Go.Proofs.Builder.Extra P ρ) : Bk P I f (.pu (.p (.sl .s) (.p .s .u)) (.p .s .u) [true] (fun x => VN x.1 x.2.1)) := by
 subst hf
 refine ⟨⟨_, L.f156, rfl, rfl⟩, ?_⟩
 intro O w x r args hF hA hO hi hb
 match args, hA with
 | [a, b], hA =>
  obtain ⟨⟨ca, rfl, hca⟩, ⟨cb, rfl, hcb⟩, _⟩ := hA
  have hcb' : cb = [.string ⟨List.toArray x.2.1⟩] := hcb
  subst hcb'
  obtain ⟨ad, cap, rfl, hcap, hmx, hrow⟩ := hca
  simp only [VN] at hF
  cases h0 : jw (ja x.1) 1073741824 with
  | false => rw [h0] at hF; simp at hF
  | true =>
  cases h1 : jw (ja (Lib.join x.1 x.2.1)) 1073741824 with
  | false => rw [h0, h1] at hF; simp at hF
  | true =>
  rw [h0, h1] at hF
  simp only [Bool.and_true, cond_true, jc] at hF
  subst hF
  have h1' := Nat.le_of_ble_eq_true h1
  have h0' := Nat.le_of_ble_eq_true h0
  have hfin : ∀ (e : Ending) (w' : World), e = .returned (.string ⟨(Lib.join x.1 x.2.1).toArray⟩) ∧ Go.RowKit.Below w.heap.size w w' → Bq (fun v w' => ∃ vs Fr, v = Jy vs ∧ At w w' (fun _ => False) ∧ Ec w' (fun b => O b ∨ b ∈ Fr) (.p .s .u) ((Lib.join x.1 x.2.1, ()) : List UInt8 × Unit) [true] vs Fr ∧ Fr.Nodup ∧ ∀ b ∈ Fr, w.heap.size ≤ b) e w' := by
   rintro e w' ⟨rfl, hB⟩
   exact ⟨[.string ⟨(Lib.join x.1 x.2.1).toArray⟩], [], rfl, ⟨hB.size, fun b hb _ => hB.block b hb, hB.os, hB.tape, hB.output⟩, ⟨_, [], [], rfl, rfl, ⟨rfl, rfl⟩, rfl⟩, by simp, by simp⟩
  have hmp : List.map (fun z : ByteArray => z.data.toList) (List.map (fun l : List UInt8 => (⟨l.toArray⟩ : ByteArray)) x.1) = x.1 := by simp [List.map_map, Function.comp_def]
  rcases hrow with hx0 | ⟨bl, off, cur, et, fr, rfl, hno, hh, hsz, hv⟩
  ·have h0' : x.1 = [] := hx0
   have e0 : Lib.join x.1 x.2.1 = [] := by rw [h0']; rfl
   have el : ja x.1 = 0 := by rw [h0']; rfl
   show Calls P (ρ.f 156) #[.slice ad (ja x.1) cap, .string ⟨List.toArray x.2.1⟩] w _
   rw [el]
   refine (Go.Proofs.Any.strings_Join_none L X ad cap ⟨List.toArray x.2.1⟩ w).mono ?_
   rintro e w' ⟨rfl, rfl⟩
   exact hfin _ _ ⟨by rw [e0], Go.RowKit.Below.refl _ _⟩
  ·have hbl : bl < w.heap.size := (Array.getElem?_eq_some_iff.1 hh).1
   have c := Go.Proofs.Any.strings_Join L X bl off cap (List.map (fun l : List UInt8 => (⟨l.toArray⟩ : ByteArray)) x.1) ⟨List.toArray x.2.1⟩ w ?_ hbl (by rw [List.length_map]; show ja x.1 ≤ _; omega) (by rw [List.length_map]; exact hcap) (by rw [hmp]; show (Lib.join x.1 (List.toArray x.2.1).toList).length ≤ _; rw [List.toList_toArray]; omega)
   ·rw [hmp, List.length_map] at c
    refine c.mono ?_
    rintro e w' ⟨rfl, hB⟩
    refine hfin _ _ ⟨?_, hB⟩
    show Ending.returned (Value.string ⟨(Lib.join x.1 (List.toArray x.2.1).toList).toArray⟩) = _
    rw [List.toList_toArray]
   ·intro j z hj
    obtain ⟨hj', rfl⟩ := List.getElem?_eq_some_iff.1 hj
    rw [List.length_map] at hj'
    have e : Wc cur (off + j * 1) 1 = [Value.string ⟨List.toArray (x.1[j]'hj')⟩] := hv j hj'
    rw [Nat.mul_one] at e
    unfold World.cell?
    simp only [hh]
    rw [I7 e]
    simp
theorem AW {P : Program} {ρ : Go.Shelf.Ren} {f : FuncId} {I : Yf} (L : Go.Proofs.LaysM.n171 P ρ) (hf : ρ.f 171 = f) (hI : ∀ w, I.p w → Lib.TabIs P w "internal/strconv.uint64pow10" .u64 Lib.pow10Tab) : Bk P I f (.pu (.p (.i .i64) .u) (.p .s .u) [true] (fun x => UE x.1)) := by
 subst hf
 refine ⟨⟨_, L.f171, rfl, rfl⟩, ?_⟩
 intro O w x r args hF hA hO hi hb
 match args, hA with
 | [a], hA =>
  obtain ⟨⟨ca, rfl, hca⟩, _⟩ := hA
  have hca' : ca = [.int .i64 x.1] := hca
  subst hca'
  simp only [UE] at hF
  by_cases h1 : -9223372036854775808 ≤ (x.1 : Int)
  case neg => rw [decide_eq_false h1] at hF; simp at hF
  by_cases h2 : (x.1 : Int) ≤ 9223372036854775807
  case neg => rw [decide_eq_false h2] at hF; simp at hF
  rw [decide_eq_true h1, decide_eq_true h2] at hF
  simp only [Bool.and_true, cond_true, jc] at hF
  subst hF
  refine (Go.Proofs.Any.strconv_Itoa L x.1 h1 h2 w (hI w hi)).mono ?_
  rintro e w' ⟨rfl, k, os, rfl⟩
  refine ⟨[.string ⟨(Lib.itoa x.1).toArray⟩], [], rfl, ⟨?_, ?_, rfl, rfl, rfl⟩, ⟨_, [], [], rfl, rfl, ⟨rfl, rfl⟩, rfl⟩, by simp, by simp⟩
  ·simp only [Go.Sort.grow, Array.size_append, World.drewN]
   omega
  ·intro b hb _
   simp only [Go.Sort.grow, World.drewN]
   rw [Array.getElem?_append_left hb]
open Go Go.WideShapes Go.ChangeShapes
theorem Gn {P : Program} {W : World} {x : String × DataW Unit} {rest : List (String × DataW Unit)} {ps : List MemPlace} (h : DataW.LaidVars P W (x :: rest) ps) : ∃ q, DataW.LaidVars P W rest q := by
 obtain ⟨g, t, cs, fuel, p, q, _, _, _, _, h, _⟩ := h
 exact ⟨q, h⟩
theorem EN {P : Program} {W : World} {name : String} {k : IntKind} {zs : List Int} {rest : List (String × DataW Unit)} {ps : List MemPlace} {g : Nat} {t e : TypeId} {n : Nat}
 (hg : P.globalNamed name = some g) (hty : (P.globals[g]?).map (·.type) = some t) (ht : P.underlying t = some (.array n e)) (he : P.underlying e = some (.int k)) (hce : P.cellsOf e = 1) (hct : P.cellsOf t = n)
 (h : DataW.LaidVars P W ((name, Lib.tabData k zs) :: rest) ps) : Lib.TabIs P W name k zs := by
 obtain ⟨g', t', cs, fuel, p, q, hg', ht', hvar, hd, _, _⟩ := h
 obtain rfl := Option.some.inj (hg.symm.trans hg')
 obtain rfl := Option.some.inj (hty.symm.trans ht')
 unfold Lib.TabIs
 rw [hvar, ← Lib.cells_of_tab ht he hce hct hd]
def R9 (g : Nat) : Yf := ⟨g + 1, fun w => ∃ m, w.cell? ⟨g, 0, none⟩ = some (.int .i64 m), fun w w' hb h => by
 obtain ⟨m, hm⟩ := h
 refine ⟨m, ?_⟩
 unfold World.cell? at hm ⊢
 rw [hb g (Nat.lt_succ_self g)]
 exact hm⟩
theorem GY {g : Nat} {w : World} (h : (R9 g).p w) : (R9 g).base ≤ w.heap.size := by
 obtain ⟨m, hm⟩ := h
 unfold World.cell? at hm
 have : g < w.heap.size := by
  apply Classical.byContradiction
  intro hn
  simp only [Array.getElem?_eq_none (show w.heap.size ≤ g by omega)] at hm
  simp at hm
 exact this
def YV (P : Program) (g a : Nat) (name : String) (k : IntKind) (zs : List Int) (ha : P.globalNamed name = some a) : Yf := ⟨max g a + 1, fun w => (∃ m, w.cell? ⟨g, 0, none⟩ = some (.int .i64 m)) ∧ Lib.TabIs P w name k zs, fun w w' hb h => by
 obtain ⟨⟨m, hm⟩, ht⟩ := h
 refine ⟨⟨m, ?_⟩, ?_⟩
 ·unfold World.cell? at hm ⊢
  rw [hb g (by omega)]
  exact hm
 ·unfold Lib.TabIs World.var? at ht ⊢
  rw [ha] at ht ⊢
  simp only [jb] at ht ⊢
  rw [hb a (by omega)]
  exact ht⟩
theorem IY {P : Program} {g a : Nat} {name : String} {k : IntKind} {zs : List Int} {ha : P.globalNamed name = some a} {w : World} (h : (YV P g a name k zs ha).p w) : (YV P g a name k zs ha).base ≤ w.heap.size := by
 obtain ⟨h1, ht⟩ := h
 have h1' : g + 1 ≤ w.heap.size := GY (g := g) h1
 have : a < w.heap.size := by
  apply Classical.byContradiction
  intro hn
  unfold Lib.TabIs World.var? at ht
  rw [ha] at ht
  simp only [jb, Array.getElem?_eq_none (show w.heap.size ≤ a by omega)] at ht
  simp at ht
 show max g a + 1 ≤ _
 omega
theorem Hx {P : Program} {l : List (String × DataW Unit)} {w : World} (h : (l.filter fun x => x.2.handleName?.isSome) = []) : laidMetH P l w = laidMet P l w := by
 unfold laidMetH
 rw [h]
section
variable {H : Type} {enc : TypeId × Value → H}
theorem CF {a : Assume} {C : Checked} {os : Os} {f : FuncId} {fn : Func} {s : ChangeSpec} {conds : List PathCond} {apart fresh handsOn again : Bool} {X : World → Array Value → Prop}
 (hX : ∀ (w w' : World) (args : Array Value), w.heap = w'.heap → X w args → X w' args)
 (own : ownKnob C.prog.godebug = none) (started : os.Started) (noInit : C.prog.inits.idxOf? f = none) (hfn : C.prog.funcs[f]? = some fn)
 (witness : ∃ (w : World) (tape : Tape) (i : Input), w.os = os ∧ (w.forCall tape i).Shaped C.prog ∧ i.vars = [] ∧ Input.okWide C.prog (w.forCall tape i) .any w.heap.size f i ∧
  ((s.pre enc C.prog fn conds apart (w.forCall tape i).memory i.args ∧ X (w.forCall tape i).memory i.args) ∧ sizedMet enc C.prog fn (OpenSpec.ofChange s) apart (w.forCall tape i).memory i.args) ∧ a.holds C.prog (lone (Frame.enter C.prog f i.args .normal) [] (w.forCall tape i)))
 (contract : ∀ (W : World) (base : Nat) (args : Array Value) (ds gs : List (DataW H)) (before : List MemPlace),
  (∀ (j : Nat) t v, fn.params[j]? = some t → args[j]? = some v → Value.okWide C.prog W .any base t v) →
  DataW.Whole enc C.prog fn.params.toList s.vars apart W args.toList ds gs before →
  conds.all (PathCond.test C.prog ⟨fn.params.toList, ds, s.plain.varTypes C.prog, gs⟩) = true →
  (DataW.weightsEach C.prog (fn.params.toList ++ s.plain.varTypes C.prog) (ds ++ gs)).all (· ≤ reachBytes) = true → W.ShapedOpen C.prog → X W args →
  a.holds C.prog (lone (Frame.enter C.prog f args .normal) [] W) →
  Calls C.prog f args W fun e W' => ∃ v, e = .returned v ∧ s.post enc C.prog fn apart fresh handsOn again W args v W') :
 ReturnsInHanded a C os f .any (fun w args => (s.pre enc C.prog fn conds apart w args ∧ X w args) ∧ sizedMet enc C.prog fn (OpenSpec.ofChange s) apart w args) (s.post enc C.prog fn apart fresh handsOn again) := by
 refine returnsInHanded_of_calls own started noInit witness ?_
 intro w tape i _ hsh _ hok hpre hholds
 obtain ⟨_, _, _, fn', hfn', _, _, _, _, hval⟩ := hok
 have e : fn' = fn := Option.some.inj (hfn'.symm.trans hfn)
 subst e
 obtain ⟨⟨⟨ds, gs, before, hw, hc⟩, hx⟩, hz⟩ := hpre
 have hw' := DataW.Whole.of_heap (w' := w.forCall tape i) (by rfl) hw
 refine (contract (w.forCall tape i) w.heap.size i.args ds gs before hval hw' hc (hz.weights hw) hsh (hX _ _ _ (by rfl) hx) hholds).mono fun e W' ⟨v, he, hp⟩ => ?_
 subst he
 exact ChangeSpec.post_blind hp
theorem MP {C : Checked} {os : Os} {f : FuncId} {fn : Func} {s : ChangeSpec} {apart fresh handsOn again : Bool} {pt : Ty} {fl : Bool} {F : T pt → Option (Bool × Unit)} {tb : TypeId} {I : Yf} {laid : List (String × DataW Unit)}
 (own : ownKnob C.prog.godebug = none) (started : os.Started) (noInit : C.prog.inits.idxOf? f = none) (hfn : C.prog.funcs[f]? = some fn)
 (witness : ∃ (w : World) (tape : Tape) (i : Input), w.os = os ∧ (w.forCall tape i).Shaped C.prog ∧ i.vars = [] ∧ Input.okWide C.prog (w.forCall tape i) .any w.heap.size f i ∧
  ((s.pre enc C.prog fn [] apart (w.forCall tape i).memory i.args ∧ laidMetH C.prog laid (w.forCall tape i).memory) ∧ sizedMet enc C.prog fn (OpenSpec.ofChange s) apart (w.forCall tape i).memory i.args) ∧ ({} : Assume).holds C.prog (lone (Frame.enter C.prog f i.args .normal) [] (w.forCall tape i)))
 (hvars : s.vars = []) (hs : ∀ ds : List (DataW H), ds.length = fn.params.toList.length → s.fn H ds = { results := [.lit (.bool true)], args := ds })
 (hp : Kh C.prog pt fn.params.toList = true) (hr : fn.resultTypes = #[tb]) (htb : C.prog.underlying tb = some .bool)
 (hsound : Bk C.prog I f (.pu pt (.p .b .u) [fl] F)) (hF : ∀ x, YH pt x → F x = some (true, ()))
 (hI : ∀ W : World, W.ShapedOpen C.prog → laidMetH C.prog laid W → I.p W ∧ I.base ≤ W.heap.size) (hnh : (laid.filter fun x => x.2.handleName?.isSome) = []) :
 ReturnsInHanded {} C os f .any (fun w args => (s.pre enc C.prog fn [] apart w args ∧ laidMetH C.prog laid w) ∧ sizedMet enc C.prog fn (OpenSpec.ofChange s) apart w args) (s.post enc C.prog fn apart fresh handsOn again) := by
 refine CF (X := fun w _ => laidMetH C.prog laid w) (fun _ _ _ hh h => by
  rw [Hx hnh] at h ⊢
  exact h.of_heap hh) own started noInit hfn witness ?_
 intro W b0 args ds gs before hval hW _ _ hsh hX _
 have hW0 := hW
 obtain ⟨p, q, hA, hV, hps, hfz, hnd⟩ := hW
 rw [hvars] at hV
 have hgs : gs = [] ∧ q = [] := by
  cases gs with
  | nil => exact ⟨rfl, hV⟩
  | cons _ _ => exact hV.elim
 obtain ⟨rfl, rfl⟩ := hgs
 simp only [List.append_nil] at hps
 subst hps
 obtain ⟨x, hx, hrx⟩ := YD (base := b0) hp hA fun j t v h1 h2 => hval j t v (by simpa using h1) (by simpa using h2)
 have hcall := hsound.2 (fun _ => False) W x (true, ()) args.toList (hF x hrx) hx (fun _ h => h.elim) (hI W hsh hX).1 (hI W hsh hX).2
 refine hcall.mono fun e W' hret => ?_
 cases e with
 | returned v =>
  obtain ⟨vs, Fr, hv, hk, hR, _, _⟩ := hret
  have hvt : v = .bool true := by
   cases vs with
   | nil => simp [Ec] at hR
   | cons a r =>
    obtain ⟨cs, F1, F2, ha, _, hown, hrest⟩ := hR
    cases r with
    | cons _ _ => simp [Ec] at hrest
    | nil =>
     have hcs : cs = [.bool true] := by
      cases fl with
      | true => exact hown.1
      | false => exact hown.1
     rw [hv, Jy, ha, hcs]
     rfl
  subst hvt
  refine ⟨_, rfl, ?_⟩
  have hsp := hs ds (JG hA)
  have hlt : ∀ z ∈ before, z.block < W.heap.size := hW0.lt
  have hsame : ∀ z ∈ before, W.sameAt W' z := by
   intro z hz
   have hb := hk.block z.block (hlt z hz) (fun h => h)
   cases z with
   | cell b off =>
    show W'.cell? _ = W.cell? _
    simp only [World.cell?]
    rw [show W'.heap[b]? = W.heap[b]? from hb]
   | map b => exact hb
  have hargs : ∀ sp : Nat → Bool, (∀ z ∈ before, sp z.block = true) → DataW.TrodAll enc C.prog W' 0 sp true fn.params.toList args.toList ds before :=
   fun sp h => ZB (FG hp) hA hsame h
  have hres : ∀ (b : Nat) (sp : Nat → Bool) (hd : Bool), DataW.TrodAll enc C.prog W' b sp hd fn.resultTypes.toList ((Value.bool true).resultList fn.resultTypes.size) [.lit (.bool true)] [] := by
   intro b sp hd
   rw [hr]
   exact trodAll_mk1 (Go.RowKit.shut_bool htb true)
  have hold : ∀ z ∈ before, (fun b => decide (b < W.heap.size)) z.block = true := fun z hz => by simpa using hlt z hz
  refine ⟨ds, [], before, [], before, [], hW0, ?_, ?_, ?_, hk.but _, fun _ => ⟨?_, ds.cons (.lit (.bool true)), [], before, ⟨before, [], ?_, ?_, by simp, ?_, ?_⟩, fun z hz _ => hz⟩⟩
  ·rw [List.append_nil, hsp]; exact hres _ _ _
  ·rw [List.append_nil, hsp]; exact hargs _ hold
  ·rw [List.append_nil, hsp, hvars]; rfl
  ·intro j t r hj hv
   rw [hr] at hj hv
   match j, hj, hv with
   | 0, hj, hv =>
    simp only [List.getElem?_toArray, List.getElem?_cons_zero, jc] at hj
    simp [Value.resultList] at hv
    subst hj; subst hv
    exact Go.RowKit.okWide_bool_mk htb true
  ·exact trodAll_append (hargs _ (fun _ _ => rfl)) (hres _ _ _)
  ·rw [hvars]; rfl
  ·intro b off hz
   have := hfz b off hz
   unfold World.frozen? at this ⊢
   rw [show W'.heap[b]? = W.heap[b]? from hk.block b (hlt _ hz) (fun h => h)]
   exact this
  ·exact hnd
 | _ => exact hret.elim
end
theorem SX (w : World) (n : Nat) : At w (w.drewN n) (fun _ => False) := ⟨jo _, fun _ _ _ => rfl, rfl, rfl, rfl⟩
theorem WC (l : List UInt8) : (⟨List.toArray l⟩ : ByteArray).data.toList = l := by simp
theorem QX {P : Program} {ρ : Go.Shelf.Ren} {f : FuncId} {I : Yf} (L : Go.Proofs.Lays.n145 P ρ) (hf : ρ.f 145 = f)
 (hI : ∀ w, I.p w → ∃ m, w.cell? ⟨ρ.g 1, 0, none⟩ = some (.int .i64 m)) : Bk P I f (.pu (.p .s (.p .s .u)) (.p .s (.p .s (.p .b .u))) [true, true, true] (fun x => OV x.1 x.2.1)) := by
 subst hf
 refine ⟨⟨_, L.f145, rfl, rfl⟩, ?_⟩
 intro O w x r args hF hA hO hi hb
 match args, hA with
 | [a, b], hA =>
  obtain ⟨⟨ca, rfl, hca⟩, ⟨cb, rfl, hcb⟩, _⟩ := hA
  have hca' : ca = [.string ⟨List.toArray x.1⟩] := hca
  have hcb' : cb = [.string ⟨List.toArray x.2.1⟩] := hcb
  subst hca'; subst hcb'
  simp only [OV] at hF
  cases h1 : jw (ja x.1) 4294967280 with
  | false => rw [h1] at hF; simp at hF
  | true =>
  rw [h1] at hF
  simp only [cond_true, jc] at hF
  subst hF
  have h1' := Nat.le_of_ble_eq_true h1
  obtain ⟨m, hm⟩ := hI w hi
  have hs1 : (⟨List.toArray x.1⟩ : ByteArray).size = ja x.1 := by show (List.toArray x.1).size = _; simp
  refine (Go.Proofs.Any.strings_Cut L ⟨List.toArray x.1⟩ ⟨List.toArray x.2.1⟩ m w (by omega) hm).mono ?_
  rintro e w' ⟨rfl, n, rfl⟩
  rw [WC, WC]
  refine ⟨[.string ⟨(Lib.cut x.1 x.2.1).1.toArray⟩, .string ⟨(Lib.cut x.1 x.2.1).2.1.toArray⟩, .bool (Lib.cut x.1 x.2.1).2.2], [], rfl, SX w n, ?_, by simp, by simp⟩
  exact ⟨_, [], [], rfl, rfl, ⟨rfl, rfl⟩, _, [], [], rfl, rfl, ⟨rfl, rfl⟩, _, [], [], rfl, rfl, ⟨rfl, rfl⟩, rfl⟩
theorem QW {P : Program} {f : FuncId} {I : Yf} (hE : Jv P f)
 (h : ∀ (s : List UInt8) (w : World), I.p w → I.base ≤ w.heap.size → Calls P f #[.string ⟨List.toArray s⟩] w fun e w' => e = .returned (.tuple #[.int .i64 (Mq s).1, .bool (Mq s).2.1]) ∧ Go.RowKit.Below w.heap.size w w') :
 Bk P I f (.pu (.p .s .u) (.p (.i .i64) (.p .b .u)) [true, true] (fun x => OW x.1)) := by
 refine ⟨hE, ?_⟩
 intro O w x r args hF hA hO hi hb
 match args, hA with
 | [a], hA =>
  obtain ⟨⟨ca, rfl, hca⟩, _⟩ := hA
  have hca' : ca = [.string ⟨List.toArray x.1⟩] := hca
  subst hca'
  simp only [OW, jc] at hF
  subst hF
  refine (h x.1 w hi hb).mono ?_
  rintro e w' ⟨rfl, hB⟩
  refine ⟨[.int .i64 (Mq x.1).1, .bool (Mq x.1).2.1], [], rfl, ⟨hB.size, fun b hb _ => hB.block b hb, hB.os, hB.tape, hB.output⟩, ?_, by simp, by simp⟩
  exact ⟨_, [], [], rfl, rfl, ⟨rfl, rfl⟩, _, [], [], rfl, rfl, ⟨rfl, rfl⟩, rfl⟩
theorem N9 {P : Program} {W : World} {name : String} {d : DataW Unit} {rest : List (String × DataW Unit)} {ps : List MemPlace} {g : Nat}
 (hg : P.globalNamed name = some g) (hk : (((P.globals[g]?).map (·.type)).bind P.underlying).any (fun d => match d with | .interface _ => true | _ => false) = true)
 (h : DataW.LaidVars P W ((name, d) :: rest) ps) : ∃ ev, W.cell? ⟨g, 0, none⟩ = some ev ∧ (ev = .nilIface ∨ ∃ te pe, ev = .iface te pe) := by
 obtain ⟨g', t, cs, fuel, p, q, hg', ht', hvar, hd, _, _⟩ := h
 obtain rfl := Option.some.inj (hg.symm.trans hg')
 rw [ht'] at hk
 obtain ⟨ms, ht⟩ : ∃ ms, P.underlying t = some (.interface ms) := by
  simp only [jb] at hk
  revert hk
  cases P.underlying t with
  | none => intro hk; exact absurd hk (by simp)
  | some x => cases x with
   | interface ms => intro _; exact ⟨ms, rfl⟩
   | _ => intro hk; exact absurd hk (by simp)
 have hc : W.cell? ⟨g, 0, none⟩ = cs[0]? := by
  unfold World.var? at hvar
  rw [hg] at hvar
  simp only [jb] at hvar
  unfold World.cell?
  cases hb : W.heap[g]? with
  | none => rw [hb] at hvar; cases hvar
  | some o =>
   rw [hb] at hvar
   cases o <;> simp at hvar
   rw [hvar]; rfl
 rw [hc]
 cases fuel with
 | zero => simp [DataW.trod] at hd
 | succ n =>
  obtain ⟨l⟩ := cs
  unfold DataW.trod at hd
  rw [ht] at hd
  match l, hd with
  | [], hd => simp at hd
  | [v], hd =>
   cases v with
   | nilIface => exact ⟨_, by simp, .inl rfl⟩
   | iface te pe => exact ⟨_, by simp, .inr ⟨te, pe, rfl⟩⟩
   | _ => simp at hd
  | _ :: _ :: _, hd => simp at hd
def T1 (P : Program) (g a : Nat) (name : String) (k : IntKind) (zs : List Int) (ha : P.globalNamed name = some a) (e : Nat) : Yf := ⟨max (max g a) e + 1, fun w => (YV P g a name k zs ha).p w ∧ ∃ ev, w.cell? ⟨e, 0, none⟩ = some ev ∧ (ev = .nilIface ∨ ∃ te pe, ev = .iface te pe), fun w w' hb h => by
 obtain ⟨h1, ev, h2, h3⟩ := h
 refine ⟨(YV P g a name k zs ha).st w w' (fun b hb' => hb b (qi hb' (show max g a + 1 ≤ max (max g a) e + 1 by omega))) h1, ev, ?_, h3⟩
 unfold World.cell? at h2 ⊢
 rw [hb e (by omega)]
 exact h2⟩
theorem HY {P : Program} {g a e : Nat} {name : String} {k : IntKind} {zs : List Int} {ha : P.globalNamed name = some a} {w : World} (h : (T1 P g a name k zs ha e).p w) : (T1 P g a name k zs ha e).base ≤ w.heap.size := by
 obtain ⟨h1, ev, h2, h3⟩ := h
 have h1' : max g a + 1 ≤ w.heap.size := IY h1
 have : e < w.heap.size := by
  apply Classical.byContradiction
  intro hn
  unfold World.cell? at h2
  simp only [Array.getElem?_eq_none (show w.heap.size ≤ e by omega)] at h2
  simp at h2
 show max (max g a) e + 1 ≤ _
 omega
theorem CW {w w' : World} (h : At w w' (fun _ => False)) : Go.RowKit.Below w.heap.size w w' := ⟨h.os, h.tape, h.output, h.size, fun b hb => h.block b hb (fun x => x)⟩
theorem ZM {P : Program} {I : Yf} {f : FuncId} {F : T (.p (.i .i64) .u) → Option (T (.p .s .u))} (h : Bk P I f (.pu (.p (.i .i64) .u) (.p .s .u) [true] F))
 {n : Int} {r : List UInt8} (hF : F (n, ()) = some (r, ())) (w : World) (hi : I.p w) (hb : I.base ≤ w.heap.size) :
 Calls P f #[.int .i64 n] w fun e w' => e = .returned (.string ⟨List.toArray r⟩) ∧ Go.RowKit.Below w.heap.size w w' := by
 refine (h.2 (fun _ => False) w (n, ()) (r, ()) [.int .i64 n] hF ⟨⟨[.int .i64 n], rfl, rfl⟩, trivial⟩ (fun _ hb => hb.elim) hi hb).mono ?_
 intro e w' hR
 cases e with
 | returned v =>
  obtain ⟨vs, Fr, rfl, hK, hR, _, _⟩ := hR
  refine ⟨?_, CW hK⟩
  match vs, hR with
  | [a], hR =>
   obtain ⟨cs, F1, F2, rfl, _, ho, _⟩ := hR
   have ho' : cs = [.string ⟨List.toArray r⟩] := ho.1
   subst ho'
   rfl
 | _ => exact hR.elim
theorem Mab {n : Int} (h1 : -999999999 ≤ n) (h2 : n ≤ 999999999) : UE n = some (Lib.itoa n, ()) := by
 unfold UE
 rw [show decide (-9223372036854775808 ≤ n) = true from decide_eq_true (by omega), show decide (n ≤ 9223372036854775807) = true from decide_eq_true (by omega)]
 rfl
def Nc {α S R : Type} (g : Nat → S → α → S ⊕ R) : Nat → S → List α → S ⊕ R
 | _, s, [] => .inl s
 | k, s, x :: xs => match g k s x with
  | .inl s' => Nc g (k + 1) s' xs
  | .inr r => .inr r
section
variable {X R : Type} {step : X → Option (X ⊕ R)}
theorem Ub {x : X} {z : Option (X ⊕ R)} (h : step x = z) : Cb step x = z.bind (j5 (Cb step) some) := by
 rw [GW, h]
theorem VQ {α S R' : Type} (xs : List α) (g : Nat → S → α → S ⊕ R') (I : Nat → S → X) (out : S → R) (ex : R' → R) (Yf : Nat → S → Prop)
 (h : ∀ k (hk : k < xs.length) s, Yf k s → step (I k s) = some (match g k s xs[k] with | .inl s' => .inl (I (k + 1) s') | .inr r => .inr (ex r)) ∧ ∀ s', g k s xs[k] = .inl s' → Yf (k + 1) s')
 (he : ∀ s, Yf xs.length s → step (I xs.length s) = some (.inr (out s))) (s0 : S) (h0 : Yf 0 s0) :
 Cb step (I 0 s0) = some (match Nc g 0 s0 xs with | .inl s => out s | .inr r => ex r) := by
 have key : ∀ (ys : List α) (k : Nat) (s : S), xs.drop k = ys → k ≤ xs.length → Yf k s → Cb step (I k s) = some (match Nc g k s ys with | .inl s => out s | .inr r => ex r) := by
  intro ys
  induction ys with
  | nil =>
   intro k s hd hle hi
   have : k = xs.length := by
    have := congrArg ja hd
    simp at this
    omega
   subst this
   rw [Ub (he s hi)]
   rfl
  | cons y ys ih =>
   intro k s hd hle hi
   have hk : k < xs.length := by
    have := congrArg ja hd
    simp at this
    omega
   have hy : xs[k] = y := by
    have := congrArg (·[0]?) hd
    simp [List.getElem?_drop, je hk] at this
    exact this
   obtain ⟨h1, h2⟩ := h k hk s hi
   rw [Ub h1]
   rw [hy] at h2 ⊢
   simp only [Nc]
   cases hg : g k s y with
   | inl s' =>
    simp only [jb, qh]
    refine ih (k + 1) s' ?_ hk (h2 s' hg)
    rw [← List.drop_drop, hd]
    rfl
   | inr r => rfl
 exact key xs 0 s0 rfl (Nat.zero_le _) h0
theorem UL (I : Nat → X) (n : Nat) (out : R) (h : ∀ k, k < n → step (I k) = some (.inl (I (k + 1)))) (he : step (I n) = some (.inr out)) : Cb step (I 0) = some out := by
 have key : ∀ m k, m + k = n → Cb step (I k) = some out := by
  intro m
  induction m with
  | zero =>
   intro k hk
   have : k = n := by omega
   subst this
   rw [Ub he]; rfl
  | succ m ih =>
   intro k hk
   rw [Ub (h k (by omega))]
   exact ih (k + 1) (by omega)
 exact key n 0 (by omega)
end
theorem Og {n : Int} (h1 : -9223372036854775808 ≤ n) (h2 : n ≤ 9223372036854775807) : jz .i64 n = n := IntWalk.i64_in n ⟨h1, h2⟩
theorem Pb {k : Nat} (h : k < 9223372036854775807) : jz .i64 ((k : Int) + 1) = ((k + 1 : Nat) : Int) := by
 rw [Og (by omega) (by omega)]; omega
theorem Kai {n : Int} (h1 : 0 ≤ n) (h2 : n ≤ 255) : jz .u8 n = n := IntWalk.u8_in n ⟨h1, h2⟩
section
variable {α : Type}
theorem I5 (xs : List α) (k : Nat) : Cc xs (k : Int) = xs[k]? := by simp [Cc]
theorem Ic {xs : List α} {k : Nat} (h : k < xs.length) : Cc xs (k : Int) = some xs[k] := by rw [I5, je h]
theorem Wi (n k : Nat) : Je n (k : Int) = decide (k < n) := by
 simp [Je]
theorem Ba {p : Prop} [Decidable p] (h : p) : decide p = true := decide_eq_true h
theorem Aa {p : Prop} [Decidable p] (h : ¬ p) : decide p = false := decide_eq_false h
end
theorem CA : Id = 1073741824 := rfl
def Ja : (τ : Ty) → T τ → Nat
 | .i _, _ => 0
 | .b, _ => 0
 | .o, _ => 0
 | .mp _ _, _ => 0
 | .s, x => ja x
 | .sl e, xs => ja xs + (List.map (Ja e) xs).sum
 | .u, _ => 0
 | .p a c, v => Ja a v.1 + Ja c v.2
def Ty.hasS : Ty → Bool
 | .s => true
 | .sl e => e.hasS
 | .p x y => x.hasS || y.hasS
 | _ => false
def Wa : Nat := 1048576
theorem Sq {α : Type} {f : α → Nat} {xs : List α} {k : Nat} (hk : k < xs.length) : f xs[k] ≤ (xs.map f).sum := by
 induction xs generalizing k with
 | nil => simp at hk
 | cons x xs ih =>
  cases k with
  | zero => simp
  | succ k =>
   have := ih (k := k) (by simpa using hk)
   simp only [List.getElem_cons_succ, List.map_cons, List.sum_cons]
   omega
theorem Qy : ∀ {τ : Ty} (_ : (τ.flat && !τ.hasS) = true) {x : T τ}, Ja τ x = 0
 | .i _, _, _ => rfl
 | .b, _, _ => rfl
 | .o, _, _ => rfl
 | .mp _ _, _, _ => rfl
 | .s, h, _ => by simp [Ty.hasS] at h
 | .sl _, h, _ => by simp [Ty.flat] at h
 | .u, _, _ => rfl
 | .p a c, h, x => by
  simp only [Ty.flat, Ty.hasS, jd, Bool.not_eq_true', Bool.or_eq_false_iff] at h
  simp only [Ja]
  rw [Qy (τ := a) (by simp [h.1.1, h.2.1]), Qy (τ := c) (by simp [h.1.2, h.2.2])]
theorem Mt {e : Ty} (h : (e.flat && !e.hasS) = true) (xs : List (T e)) : Ja (.sl e) xs = ja xs := by
 simp only [Ja]
 have : List.map (Ja e) xs = List.replicate xs.length 0 := by
  apply List.ext_getElem
  ·simp
  ·intro i h1 h2
   simp [Qy h]
 rw [this]
 simp
theorem Pg {α : Type} (b : Bool) (x y : α) : cond b (some x) (some y) = some (cond b x y) := by cases b <;> rfl
theorem Qg {α : Type} (b : Bool) (x y : α) : cond b (x, ()) (y, ()) = (cond b x y, ()) := by cases b <;> rfl
theorem Lc (b x y : Bool) : (cond b x y = true) ↔ ((b = true ∧ x = true) ∨ (¬ b = true ∧ y = true)) := by cases b <;> simp
theorem B5 {a b : Bool} (h : a = true ↔ b = true) : a = b := qp.2 h
theorem Tb {a b : Bool} (h : a = true ↔ b = true) : some (a, ()) = some (b, ()) := by rw [B5 h]
theorem TA (a b : Int) : ((a == b) = true) ↔ a = b := by simp
theorem UA (a b : Int) : ((a != b) = true) ↔ ¬ a = b := by simp
def Zd {α : Type} (p : Nat → α → Bool) : Nat → List α → Bool
 | _, [] => true
 | k, x :: xs => p k x && Zd p (k + 1) xs
theorem Sk {X R : Type} {step : X → Option (X ⊕ R)} {α : Type} (xs : List α) (p : Nat → α → Bool) (I : Int → X) (yes no : R)
 (h : ∀ k (hk : k < xs.length), step (I (k : Int)) = some (cond (p k xs[k]) (.inl (I (jz .i64 ((k : Int) + 1)))) (.inr no)))
 (he : step (I (xs.length : Int)) = some (.inr yes)) (hn : xs.length < 9223372036854775807) :
 Cb step (I 0) = some (cond (Zd p 0 xs) yes no) := by
 have key : ∀ (ys : List α) (k : Nat), xs.drop k = ys → k ≤ xs.length → Cb step (I (k : Int)) = some (cond (Zd p k ys) yes no) := by
  intro ys
  induction ys with
  | nil =>
   intro k hd hle
   have : k = xs.length := by
    have := congrArg ja hd
    simp at this
    omega
   subst this
   rw [Ub he]
   rfl
  | cons y ys ih =>
   intro k hd hle
   have hk : k < xs.length := by
    have := congrArg ja hd
    simp at this
    omega
   have hy : xs[k] = y := by
    have := congrArg (·[0]?) hd
    simp [List.getElem?_drop, je hk] at this
    exact this
   have hd' : xs.drop (k + 1) = ys := by rw [← List.drop_drop, hd]; rfl
   rw [Ub (h k hk), hy]
   simp only [Zd]
   cases hc : p k y with
   | true =>
    simp only [cond_true, jk, jb, qh]
    rw [← ih (k + 1) hd' hk, Pb (by omega)]
   | false => rfl
 have := key xs 0 rfl (Nat.zero_le _)
 simpa using this
theorem Rw {α : Type} {p : Nat → α → Bool} : ∀ {xs : List α} {k : Nat}, Zd p k xs = true ↔ ∀ j (hj : j < xs.length), p (k + j) xs[j] = true
 | [], _ => by simp [Zd]
 | x :: xs, k => by
  simp only [Zd, jd, Rw (xs := xs)]
  constructor
  ·rintro ⟨h1, h2⟩ j hj
   cases j with
   | zero => exact h1
   | succ j => simpa [jt, Nat.add_comm 1 j] using h2 j (by simpa using hj)
  ·intro h
   refine ⟨h 0 (by simp), fun j hj => ?_⟩
   have := h (j + 1) (by simpa using hj)
   rw [jt, Nat.add_comm 1 j]
   exact this
theorem NL {α β γ : Type} (b : Bool) (x : α) (y : β) (f : α → γ) (g : β → γ) : j5 f g (cond b (.inl x) (.inr y)) = cond b (f x) (g y) := by cases b <;> rfl
def Wg {α S : Type} (g : Nat → S → α → S) : Nat → S → List α → S
 | _, s, [] => s
 | k, s, x :: xs => Wg g (k + 1) (g k s x) xs
theorem TX {α : Type} {xs ys : List α} {y : α} {k : Nat} (hd : xs.drop k = y :: ys) : ∃ hk : k < xs.length, xs[k] = y ∧ xs.drop (k + 1) = ys := by
 have hk : k < xs.length := by
  have := congrArg ja hd
  simp at this
  omega
 refine ⟨hk, ?_, by rw [← List.drop_drop, hd]; rfl⟩
 have := congrArg (·[0]?) hd
 simp [List.getElem?_drop, je hk] at this
 exact this
theorem J1 {α : Type} {xs : List α} {k : Nat} (hd : xs.drop k = []) (hk : k ≤ xs.length) : k = xs.length := by
 have := congrArg ja hd
 simp at this
 omega
theorem Vu {X R : Type} {step : X → Option (X ⊕ R)} {α S : Type} (xs : List α) (g : Nat → S → α → S) (I : S → Int → X) (out : S → R) (Yf : Nat → S → Prop)
 (h : ∀ k (hk : k < xs.length) s, Yf k s → step (I s (k : Int)) = some (.inl (I (g k s xs[k]) (jz .i64 ((k : Int) + 1)))) ∧ Yf (k + 1) (g k s xs[k]))
 (he : ∀ s, Yf xs.length s → step (I s (xs.length : Int)) = some (.inr (out s))) (hn : xs.length < 9223372036854775807) (s0 : S) (h0 : Yf 0 s0) :
 Cb step (I s0 0) = some (out (Wg g 0 s0 xs)) ∧ Yf xs.length (Wg g 0 s0 xs) := by
 have key : ∀ (ys : List α) (k : Nat) (s : S), xs.drop k = ys → k ≤ xs.length → Yf k s → Cb step (I s (k : Int)) = some (out (Wg g k s ys)) ∧ Yf xs.length (Wg g k s ys) := by
  intro ys
  induction ys with
  | nil =>
   intro k s hd hle hi
   have := J1 hd hle
   subst this
   rw [Ub (he s hi)]
   exact ⟨rfl, hi⟩
  | cons y ys ih =>
   intro k s hd hle hi
   obtain ⟨hk, hy, hd'⟩ := TX hd
   obtain ⟨h1, h2⟩ := h k hk s hi
   rw [Ub h1, hy, Pb (by omega)]
   rw [hy] at h2
   exact ih (k + 1) _ hd' hk h2
 have := key xs 0 s0 rfl (Nat.zero_le _) h0
 simpa using this
theorem Rf {X R : Type} {step : X → Option (X ⊕ R)} {α S R' : Type} (xs : List α) (g : Nat → S → α → S ⊕ R') (I : S → Int → X) (out : S → R) (ex : R' → R) (Yf : Nat → S → Prop)
 (h : ∀ k (hk : k < xs.length) s, Yf k s → step (I s (k : Int)) = some (match g k s xs[k] with | .inl s' => .inl (I s' (jz .i64 ((k : Int) + 1))) | .inr r => .inr (ex r)) ∧ ∀ s', g k s xs[k] = .inl s' → Yf (k + 1) s')
 (he : ∀ s, Yf xs.length s → step (I s (xs.length : Int)) = some (.inr (out s))) (hn : xs.length < 9223372036854775807) (s0 : S) (h0 : Yf 0 s0) :
 Cb step (I s0 0) = some (match Nc g 0 s0 xs with | .inl s => out s | .inr r => ex r) := by
 have := VQ (step := step) xs g (fun k s => I s (k : Int)) out ex Yf (fun k hk s hi => by
  obtain ⟨h1, h2⟩ := h k hk s hi
  refine ⟨?_, h2⟩
  rw [h1, Pb (by omega)]) he s0 h0
 simpa using this
theorem PZ {X R X' R' : Type} {TB : X → Option (X ⊕ R)} {stepH : X' → Option (X' ⊕ R')} {α : Type} (c : α → Nat) (B : Nat) (IM : List α → Int → Int → X) (outM : List α → Int → R) (IH : List α → Int → Int → X') (outH : List α → Int → R')
 (h : ∀ (o : List α) (k i : Nat) (hi : i < o.length), k + c o[i] ≤ B → ∃ x' k', k ≤ k' ∧ k' ≤ k + c o[i] ∧
  TB (IM o (k : Int) (i : Int)) = some (.inl (IM (o.set i x') (k' : Int) (jz .i64 ((i : Int) + 1)))) ∧
  ∀ (o2 : List α) (hi2 : i < o2.length), o2[i] = x' → stepH (IH o2 (k : Int) (i : Int)) = some (.inl (IH o2 (k' : Int) (jz .i64 ((i : Int) + 1)))))
 (heM : ∀ (o : List α) (k : Nat), TB (IM o (k : Int) (o.length : Int)) = some (.inr (outM o (k : Int))))
 (heH : ∀ (o : List α) (k : Nat), stepH (IH o (k : Int) (o.length : Int)) = some (.inr (outH o (k : Int))))
 (xs : List α) (k : Nat) (hB : k + (xs.map c).sum ≤ B) (hn : xs.length < 9223372036854775807) :
 ∃ (o : List α) (k' : Nat), k ≤ k' ∧ k' ≤ k + (xs.map c).sum ∧ o.length = xs.length ∧ Cb TB (IM xs (k : Int) 0) = some (outM o (k' : Int)) ∧ Cb stepH (IH o (k : Int) 0) = some (outH o (k' : Int)) := by
 have key : ∀ (m i k : Nat) (o : List α), o.length = xs.length → m + i = xs.length → k + ((o.drop i).map c).sum ≤ B →
  ∃ (o' : List α) (k' : Nat), k ≤ k' ∧ k' ≤ k + ((o.drop i).map c).sum ∧ o'.length = xs.length ∧ o'.take i = o.take i ∧ Cb TB (IM o (k : Int) (i : Int)) = some (outM o' (k' : Int)) ∧ Cb stepH (IH o' (k : Int) (i : Int)) = some (outH o' (k' : Int)) := by
  intro m
  induction m with
  | zero =>
   intro i k o ho hm hk
   have : i = o.length := by omega
   subst this
   refine ⟨o, k, jo _, by omega, ho, rfl, ?_, ?_⟩
   ·rw [Ub (heM o k)]; rfl
   ·rw [Ub (heH o k)]; rfl
  | succ m ih =>
   intro i k o ho hm hk
   have hi : i < o.length := by omega
   have hdrop : o.drop i = o[i] :: o.drop (i + 1) := List.drop_eq_getElem_cons hi
   rw [hdrop, List.map_cons, List.sum_cons] at hk ⊢
   obtain ⟨x', k1, h1, h2, h3, h4⟩ := h o k i hi (by omega)
   have hd1 : (o.set i x').drop (i + 1) = o.drop (i + 1) := by
    rw [List.drop_set]
    simp
   obtain ⟨o', k', g1, g2, g3, g4, g5, g6⟩ := ih (i + 1) k1 (o.set i x') (by simpa using ho) (by omega) (by rw [hd1]; omega)
   rw [hd1] at g2
   have ht : o'.take i = o.take i := by
    have := congrArg (List.take i) g4
    rw [List.take_take, List.take_take, Nat.min_eq_left (by omega), List.take_set_of_le (jo _)] at this
    exact this
   have hx : o'[i]'(by omega) = x' := by
    have := congrArg (·[i]?) g4
    simp [je (show i < o'.length by omega), hi] at this
    exact this
   refine ⟨o', k', by omega, by omega, g3, ht, ?_, ?_⟩
   ·rw [Ub h3, Pb (by omega)]
    exact g5
   ·rw [Ub (h4 o' (by omega) hx), Pb (by omega)]
    exact g6
 obtain ⟨o, k', h1, h2, h3, _, h5, h6⟩ := key xs.length 0 k xs rfl rfl (by simpa using hB)
 exact ⟨o, k', h1, by simpa using h2, h3, by simpa using h5, by simpa using h6⟩
def Kc : Nat := 1099511627776
theorem Van (e : Ty) (xs : List (T e)) : (List.map (fun x => 8 + 8 * Ja e x) xs).sum = 8 * Ja (.sl e) xs := by
 simp only [Ja]
 induction xs with
 | nil => rfl
 | cons x xs ih =>
  simp only [List.map_cons, List.sum_cons, jv] at ih ⊢
  omega
theorem z3 : ((3 : Int) == 0) = false := rfl
theorem Ap {n lo hi : Nat} (h1 : lo ≤ hi) (h2 : hi ≤ n) : Ae n (lo : Int) (hi : Int) = true := by
 simp [Ae]; omega
def kf : (τ : Ty) → T τ → T τ → Prop
 | .sl _, _, _ => True
 | .p x y, a, c => kf x a.1 c.1 ∧ kf y a.2 c.2
 | .i _, a, c => a = c
 | .b, a, c => a = c
 | .o, a, c => a = c
 | .mp _ _, a, c => a = c
 | .s, a, c => a = c
 | .u, a, c => a = c
theorem Yl : ∀ (τ : Ty) (a : T τ), kf τ a a
 | .sl _, _ => trivial
 | .p x y, a => ⟨Yl x a.1, Yl y a.2⟩
 | .i _, _ => rfl
 | .b, _ => rfl
 | .o, _ => rfl
 | .mp _ _, _ => rfl
 | .s, _ => rfl
 | .u, _ => rfl
section
variable {α β : Type}
def P4 (f : α → α → Option (Bool × Unit)) (t0 t1 : List α) (t5 : Int) : Option (((List α × (List α × (Int × Unit))) × Unit) ⊕ ((Unit × Unit) ⊕ ((Bool × Unit) × Unit))) :=
 cond (decide (t5 < ((ja t0 : Nat) : Int))) (jy (Cc t0 t5) fun x7 => jy (Cc t1 t5) fun x8 => jy (f x7 x8) fun r9 => cond (!r9.1) (some (.inr (.inr ((false, ()), ()))))
  (some (.inl ((t0, t1, jz .i64 (t5 + 1), ()), ())))) (some (.inr (.inl ((), ()))))
noncomputable def K9 (f : α → α → Option (Bool × Unit)) (a0 a1 : List α) : Option (Bool × Unit) :=
 cond (((ja a0 : Nat) : Int) != ((ja a1 : Nat) : Int)) (some (false, ()))
  (jy (Cb (fun x : (List α × (List α × (Int × Unit))) × Unit => P4 f x.1.1 x.1.2.1 x.1.2.2.1) ((a0, a1, (0 : Int), ()), ())) (j5 (fun _ => some (true, ())) (fun z11 => some (z11.1.1, ()))))
theorem L9 (f : α → α → Option (Bool × Unit)) (a : List α) (hn : a.length ≤ Kc) (hf : ∀ k (h : k < a.length), f a[k] a[k] = some (true, ())) : K9 f a a = some (true, ()) := by
 have h40 : Kc = 1099511627776 := rfl
 have hl := UL (step := fun x : (List α × (List α × (Int × Unit))) × Unit => P4 f x.1.1 x.1.2.1 x.1.2.2.1) (fun k => ((a, a, (k : Int), ()), ())) (ja a) (.inl ((), ())) (by
  intro k hk
  simp only [P4]
  rw [Ba (show (k : Int) < (ja a : Int) by omega), Ic hk]
  simp only [cond_true, jb]
  rw [hf k hk]
  simp only [jb, jg, cond_false]
  rw [Pb (by omega)]) (by
  simp [P4])
 unfold K9
 rw [bne_self_eq_false']
 simp only [cond_false]
 erw [hl]
 rfl
theorem RO {e : Ty} {f : T e → T e → Option (Bool × Unit)} {F : List (T e) → List (T e) → Option (Bool × Unit)} (a : List (T e)) (hz : Ja (.sl e) a ≤ Kc) (hf : ∀ x, Ja e x ≤ Kc → f x x = some (true, ())) (h : F a a = K9 f a a) : F a a = some (true, ()) := by
 have hz' : ja a + (List.map (Ja e) a).sum ≤ Kc := hz
 rw [h]
 exact L9 f a (by omega) fun k hk => hf _ (by have := Sq (f := Ja e) hk; omega)
end
theorem Hz {e : Ty} {β β' : Type} {RM : List (T e) → Int → Int → Option (((List (T e) × (Int × (Int × Unit))) × Unit) ⊕ (((List (T e) × (Int × Unit)) × Unit) ⊕ β))}
 {RH : List (T e) → Int → Int → Option (((List (T e) × (Int × (Int × Unit))) × Unit) ⊕ (((Int × Unit) × Unit) ⊕ β'))} {M : List (T e) → Int → Option (List (T e) × (Int × Unit))} {Hd : List (T e) → Int → Option (Int × Unit)} {g : β → Option (List (T e) × (Int × Unit))} {g' : β' → Option (Int × Unit)}
 (hM : ∀ o k, M o k = jy (Cb (fun x => RM x.1.1 x.1.2.1 x.1.2.2.1) ((o, k, 0, ()), ())) (j5 (fun y => some (y.1.1, (y.1.2.1, ()))) g))
 (hH : ∀ o k, Hd o k = jy (Cb (fun x => RH x.1.1 x.1.2.1 x.1.2.2.1) ((o, k, 0, ()), ())) (j5 (fun y => some (y.1.1, ())) g'))
 (h : ∀ (o : List (T e)) (k i : Nat) (hi : i < o.length), k + (8 + 8 * Ja e o[i]) ≤ Kc → ∃ (x' : T e) (k' : Nat), k ≤ k' ∧ k' ≤ k + (8 + 8 * Ja e o[i]) ∧
  RM o (k : Int) (i : Int) = some (.inl ((o.set i x', (k' : Int), (jz .i64 ((i : Int) + 1)), ()), ())) ∧
  ∀ (o2 : List (T e)) (hi2 : i < o2.length), o2[i] = x' → RH o2 (k : Int) (i : Int) = some (.inl ((o2, (k' : Int), (jz .i64 ((i : Int) + 1)), ()), ())))
 (heM : ∀ (o : List (T e)) (k : Int), RM o k (o.length : Int) = some (.inr (.inl ((o, k, ()), ()))))
 (heH : ∀ (o : List (T e)) (k : Int), RH o k (o.length : Int) = some (.inr (.inl ((k, ()), ()))))
 (a : List (T e)) (k : Nat) (hk : k + 8 * Ja (.sl e) a ≤ Kc) :
 ∃ (a' : List (T e)) (k' : Nat), k ≤ k' ∧ k' ≤ k + 8 * Ja (.sl e) a ∧ M a (k : Int) = some (a', ((k' : Int), ())) ∧ Hd a' (k : Int) = some ((k' : Int), ()) ∧ kf (.sl e) a a' := by
 have h40 : Kc = 1099511627776 := rfl
 by_cases hlen : ja a < 9223372036854775807
 case neg => exfalso; have h1 : ja a ≤ Ja (.sl e) a := Nat.le_add_right _ _; omega
 have hsum : (List.map (fun x => 8 + 8 * Ja e x) a).sum = 8 * Ja (.sl e) a := Van _ _
 have hx := PZ (TB := fun x : ((List (T e) × (Int × (Int × Unit))) × Unit) => RM x.1.1 x.1.2.1 x.1.2.2.1) (stepH := fun x : ((List (T e) × (Int × (Int × Unit))) × Unit) => RH x.1.1 x.1.2.1 x.1.2.2.1) (fun x => 8 + 8 * Ja e x) Kc (fun o k i => ((o, k, i, ()), ())) (fun o k => .inl ((o, k, ()), ())) (fun o k i => ((o, k, i, ()), ())) (fun _ k => .inl ((k, ()), ())) h
  (fun o k => heM o _) (fun o k => heH o _) a k (by rw [hsum]; exact hk) hlen
 obtain ⟨o, k1, h1, h2, _, h4, h5⟩ := hx
 rw [hsum] at h2
 refine ⟨o, k1, h1, h2, ?_, ?_, trivial⟩
 ·rw [hM]
  erw [h4]
  rfl
 ·rw [hH]
  erw [h5]
  rfl
abbrev int : Ty := .i .i64
abbrev BK : Ty := .i .u8
abbrev Xg : Ty := (.p int (.p int .u))
abbrev Gc : Type := (Int × (Int × Unit))
abbrev Vv : Ty := (.p int (.p (.sl int) .u))
abbrev Af : Type := (Int × ((List Int) × Unit))
abbrev Qe : Ty := (.p int (.p int (.p .b .u)))
abbrev Lb : Type := (Int × (Int × (Bool × Unit)))
abbrev Ac : Ty := (.p int Xg)
abbrev Qb : Type := (Int × Gc)
abbrev Vd : Type := ((List (List Int)) × ((List Int) × Unit))
abbrev C9 : Type := ((List Int) × Gc)
abbrev Xa : Ty := (.p int Ac)
abbrev Ha : Type := (Int × Qb)
abbrev Yg : Type := (Bool × Qb)
abbrev Qf : Ty := (.p int (.p Vv .u))
abbrev Zv : Type := (Int × (Af × Unit))
abbrev Mg : Ty := (.p int (.p Xa .u))
abbrev Ib : Type := (Int × (Ha × Unit))
abbrev Qx : Type := (Int × (Int × (Int × (Int × Af))))
abbrev Ua : Ty := (.p int (.p (.sl (.sl Xa)) .u))
abbrev Ka : Type := (Int × ((List (List Ha)) × Unit))
abbrev Iai : Ty := (.p Qe (.p Qe .u))
abbrev Ck : Type := ((List Gc) × (Int × ((List Lb) × (Int × (Int × (Int × ((List Lb) × Unit)))))))
abbrev Jb : Ty := (.p Ua (.p (.sl (.sl Ac)) (.p int (.p (.sl Mg) (.p int (.p .b .u))))))
abbrev Bb : Type := (Ka × ((List (List Qb)) × (Int × ((List Ib) × (Int × (Bool × Unit))))))
abbrev Dd : Ty := (.p Jb (.p Ac (.p (.sl Qe) Xa)))
abbrev Pd : Type := (Bb × (Qb × ((List Lb) × Ha)))
abbrev Lf : Ty := (.p Dd (.p (.sl Qf) .u))
abbrev Zg : Type := (Pd × ((List Zv) × Unit))
abbrev ZH : Type := (Lb × (Qx × (Ck × (Pd × Gc))))
abbrev EE : Type := Lb
abbrev XJ : Type := Qb
def Ys : List UInt8 := [97, 32, 98, 32, 99, 32, 100, 32, 101, 32, 102, 32, 103, 32, 104, 32, 105, 32, 106, 32, 107, 32, 108, 32, 109, 32, 110, 32, 111, 32, 112, 32, 113, 32, 114, 32, 115, 32, 116, 32, 117, 32, 118, 32, 119, 32, 120, 32, 121, 32, 122, 32, 49, 32, 50, 32, 51, 32, 52, 32, 53, 32, 54, 32, 55, 32, 56, 32, 57, 32, 48, 32, 101, 110, 116, 101, 114, 32, 101, 115, 99, 32, 98, 97, 99, 107, 32, 116, 97, 98, 32, 115, 112, 97, 99, 101, 32, 109, 105, 110, 117, 115, 32, 101, 113, 117, 97, 108, 32, 108, 101, 102, 116, 32, 114, 105, 103, 104, 116, 32, 117, 112, 32, 100, 111, 119, 110, 32, 102, 49, 32, 102, 50, 32, 102, 51, 32, 102, 52, 32, 102, 53, 32, 102, 54, 32, 102, 55, 32, 102, 56, 32, 102, 57]
def Mx : List UInt8 := [67, 83, 65, 71]
def Nx : List UInt8 := [109, 97, 99, 114, 111]
def Tf : List UInt8 := [110, 111, 110, 101]
def Sf : List UInt8 := [112, 97, 115, 115]
def Ud : List UInt8 := [111, 110, 99, 101, 58]
def Ze : List UInt8 := [109, 97, 99, 114, 111, 58]
def Ye : List UInt8 := [99, 97, 112, 115]
def Xf : List UInt8 := [97, 32, 98, 32, 109, 111, 58, 49, 32, 83, 47, 99, 32, 50, 47, 100, 32, 111, 110, 99, 101, 58, 83, 32, 124, 32, 49, 32, 112, 97, 115, 115, 32, 112, 97, 115, 115, 32, 50, 32, 116, 103, 58, 50, 32, 99, 97, 112, 115, 32, 124, 32, 102, 49, 32, 116, 111, 58, 48, 32, 112, 97, 115, 115, 32, 112, 97, 115, 115, 32, 108, 101, 102, 116, 32, 116, 103, 58, 50]
noncomputable section
open Option renaming bind → ob
open Go.IntKind renaming wrap → wr
open Int renaming toNat → tn
open List renaming length → ln, append → ap, set → ls
open Sum renaming elim → se
open Nat renaming ble → bl
abbrev Ad : Type := Int × Unit
abbrev Uc : Type := Bool × Unit
abbrev Ah : Type := Unit × Unit
abbrev Vb : Type := List UInt8
abbrev Cx : Type := List Int
abbrev Jg : Type := List Lb
abbrev Wo : Type := Ka × Unit
abbrev Jf : Type := List Ha
abbrev Fg : Type := List Ib
abbrev MA : Type := List Gc
abbrev Jm : Type := List Zv
abbrev Bf : Type := List Qb
abbrev Au : Type := Unit × Ad
abbrev F4 : Type := Cx × Gc
abbrev DI : Type := Ad × Unit
abbrev Cf : Type := List Vb
abbrev IN : Type := Unit × Gc
abbrev Dk : Type := Bb × Unit
abbrev Vn : Type := Ka × Wo
abbrev Eg : Type := List Jf
abbrev G4 : Type := MA × Gc
abbrev JN : Type := Int × (Jg × Gc)
abbrev Nf : Type := List Bf
abbrev Cq : Type := Vb × Unit
abbrev KN : Type := Fg × Gc
abbrev EV : Type := Cx × Ad
abbrev LN : Type := Int × (Int × (Jf × Gc))
abbrev EI : Type := Unit × Ah
abbrev Kaf : Type := Unit × Au
abbrev Cs : Type := Uc × Unit
abbrev Bu : Type := Ah ⊕ Cs
abbrev NA : Type := Ha × Unit
abbrev MN : Type := Int × Uc
abbrev H4 : Type := DI ⊕ Ah
abbrev Ds : Type := Eg × Gc
abbrev Laf : Type := Jg × Unit
abbrev I4 : Type := Gc × Unit
abbrev J4 : Type := Qb × Unit
abbrev Rx : Type := Cf × Gc
abbrev FE : Type := Ah ⊕ DI
abbrev NN : Type := (Int × KN) × Unit
abbrev FI : Type := Jg × Ad
abbrev K4 : Type := Unit × F4
abbrev Sy : Type := Vb × Ad
abbrev ON : Type := Unit × Kaf
abbrev PN : Type := Jm × Gc
abbrev FV : Type := Bb × Dk
abbrev Uy : Type := DI ⊕ DI
abbrev L4 : Type := ((Cf × Unit) × Unit) ⊕ Ah
abbrev GE : Type := Bf × Gc
abbrev Vy : Type := Nf × Gc
abbrev QN : Type := (Vb × (Int × Rx)) × Unit
abbrev M4 : Type := (Fg × (Fg × Ad)) × Unit
abbrev N4 : Type := (Vb × (Unit × (Unit × (Jf × (Cf × (Int × (Int × Rx))))))) × Vn
abbrev RN : Type := F4 × Unit
abbrev HE : Type := KN × Unit
abbrev EX : Type := (Cq × Unit) ⊕ Ah
abbrev E9 : Type := (EV × Unit) ⊕ Ah
abbrev AI : Type := (Jg × Gc) × Unit
abbrev BI : Type := (Jf × Gc) × Unit
abbrev DO : Type := Cf × Ad
abbrev FX : Type := MN × Unit
abbrev F9 : Type := Unit × EI
abbrev GX : Type := (Cx × EV) × Unit
abbrev CI : Type := (Int × Sy) × Unit
abbrev OA : Pd := (((0, [], ()), [], 0, [], 0, false, ()), (0, 0, 0, ()), [], 0, 0, 0, 0, ())
abbrev KC : Bb := ((0, [], ()), [], 0, [], 0, false, ())
def Pc (a0 : Int) (a1 : Int) (a2 : Int) : Option Uc :=
 (cond (decide (a0 ≥ a1))
 (some ((decide (a0 ≤ a2)), ()))
 (some (false, ())))
def Io (t0 : Cx) (t1 : Cx) (t5 : Int) : Option (GX ⊕ Bu) :=
 (cond (decide (t5 < ((ln t0 : Nat) : Int)))
 (ob (Cc t0 t5) fun x5 =>
 (ob (Cc t1 t5) fun x6 =>
 (cond (x5 != x6)
 (some (.inr (.inr ((false, ()), ()))))
 (some (.inl ((t0, t1, (wr .i64 (t5 + 1)), ()), ()))))))
 (some (.inr (.inl ((), ())))))
def Mp := Cb fun x : GX => Io x.1.1 x.1.2.1 x.1.2.2.1
def Gw (a0 : Cx) (a1 : Cx) : Option Uc :=
 (cond (((ln a0 : Nat) : Int) != ((ln a1 : Nat) : Int))
 (some (false, ()))
 (ob (Mp ((a0, a1, 0, ()), ())) (se (fun y7 => (some (true, ()))) (fun z8 => (some (z8.1.1, ()))))))
def Ns (a0 : Af) (a1 : Af) : Option Uc :=
 (cond (a0.1 != a1.1)
 (some (false, ()))
 (ob (Gw a0.2.1 a1.2.1) fun r1 =>
 (cond (!r1.1)
 (some (false, ()))
 (some (true, ())))))
def Rr (a0 : Zv) (a1 : Zv) : Option Uc :=
 (cond (a0.1 != a1.1)
 (some (false, ()))
 (ob (Ns a0.2.1 a1.2.1) fun r1 =>
 (cond (!r1.1)
 (some (false, ()))
 (some (true, ())))))
def YG (t0 : Jm) (t1 : Jm) (t5 : Int) : Option (((Jm × (Jm × Ad)) × Unit) ⊕ Bu) :=
 (cond (decide (t5 < ((ln t0 : Nat) : Int)))
 (ob (Cc t0 t5) fun x7 =>
 (ob (Cc t1 t5) fun x8 =>
 (ob (Rr x7 x8) fun r9 =>
 (cond (!r9.1)
 (some (.inr (.inr ((false, ()), ()))))
 (some (.inl ((t0, t1, (wr .i64 (t5 + 1)), ()), ())))))))
 (some (.inr (.inl ((), ())))))
def Hv := Cb fun x : ((Jm × (Jm × Ad)) × Unit) => YG x.1.1 x.1.2.1 x.1.2.2.1
def Nu (a0 : Jm) (a1 : Jm) : Option Uc :=
 (cond (((ln a0 : Nat) : Int) != ((ln a1 : Nat) : Int))
 (some (false, ()))
 (ob (Hv ((a0, a1, 0, ()), ())) (se (fun y10 => (some (true, ()))) (fun z11 => (some (z11.1.1, ()))))))
def Pl (t0 : Cx) (t1 : Int) (t5 : Int) : Option (RN ⊕ E9) :=
 (cond (decide (t5 < ((ln t0 : Nat) : Int)))
 (cond (Je (ln t0) t5)
 (ob t0[(tn t5)]? fun x3 =>
 (some (.inl (((ls t0 (tn t5) t1), (wr .i64 (t1 + 1)), (wr .i64 (t5 + 1)), ()), ()))))
 none)
 (some (.inr (.inl ((t0, t1, ()), ())))))
def Tu := Cb fun x : RN => Pl x.1.1 x.1.2.1 x.1.2.2.1
def Kx (a0 : Cx) (a1 : Int) : Option EV :=
 (ob (Tu ((a0, a1, 0, ()), ())) (se (fun y4 => (some (y4.1.1, (y4.1.2.1, ())))) (fun z5 => none)))
def Qk (t0 : Jm) (t1 : Int) (t5 : Int) : Option ((PN × Unit) ⊕ (((Jm × Ad) × Unit) ⊕ Ah)) :=
 (cond (decide (t5 < ((ln t0 : Nat) : Int)))
 (cond (Je (ln t0) t5)
 (ob t0[(tn t5)]? fun x9 =>
 (cond (Je (ln (ls t0 (tn t5) (t1, x9.2))) t5)
 (ob (ls t0 (tn t5) (t1, x9.2))[(tn t5)]? fun x10 =>
 (cond (Je (ln (ls (ls t0 (tn t5) (t1, x9.2)) (tn t5) (x10.1, ((wr .i64 (t1 + 1)), x10.2.1.2), x10.2.2))) t5)
 (ob (ls (ls t0 (tn t5) (t1, x9.2)) (tn t5) (x10.1, ((wr .i64 (t1 + 1)), x10.2.1.2), x10.2.2))[(tn t5)]? fun x11 =>
 (ob (Kx x11.2.1.2.1 (wr .i64 ((wr .i64 (t1 + 1)) + 1))) fun r12 =>
 (some (.inl (((ls (ls (ls t0 (tn t5) (t1, x9.2)) (tn t5) (x10.1, ((wr .i64 (t1 + 1)), x10.2.1.2), x10.2.2)) (tn t5) (x11.1, (x11.2.1.1, r12.1, x11.2.1.2.2), x11.2.2)), r12.2.1, (wr .i64 (t5 + 1)), ()), ())))))
 none))
 none))
 none)
 (some (.inr (.inl ((t0, t1, ()), ())))))
def Wt := Cb fun x : (PN × Unit) => Qk x.1.1 x.1.2.1 x.1.2.2.1
def Sv (a0 : Jm) (a1 : Int) : Option (Jm × Ad) :=
 (ob (Wt ((a0, a1, 0, ()), ())) (se (fun y13 => (some (y13.1.1, (y13.1.2.1, ())))) (fun z14 => none)))
def Ol (t0 : Cx) (t1 : Int) (t5 : Int) : Option (RN ⊕ Uy) :=
 (cond (decide (t5 < ((ln t0 : Nat) : Int)))
 (ob (Cc t0 t5) fun x3 =>
 (cond (x3 != t1)
 (some (.inr (.inr (((-1), ()), ()))))
 (some (.inl ((t0, (wr .i64 (t1 + 1)), (wr .i64 (t5 + 1)), ()), ())))))
 (some (.inr (.inl ((t1, ()), ())))))
def Qu := Cb fun x : RN => Ol x.1.1 x.1.2.1 x.1.2.2.1
def Jx (a0 : Cx) (a1 : Int) : Option Ad :=
 (ob (Qu ((a0, a1, 0, ()), ())) (se (fun y4 => (some (y4.1.1, ()))) (fun z5 => (some (z5.1.1, ())))))
def Vf (a0 : Ha) : Option Uc :=
 (ob (Pc a0.2.1 1 56) fun r1 =>
 (ob (Pc a0.2.2.1 1 15) fun r2 =>
 (ob (Pc a0.2.2.2.1 1 3) fun r3 =>
 (cond (a0.1 == 0)
 (cond (a0.2.1 == 0)
 (cond (a0.2.2.1 == 0)
 (some ((a0.2.2.2.1 == 0), ()))
 (some (false, ())))
 (some (false, ())))
 (cond (a0.1 == 1)
 (cond (a0.2.1 == 0)
 (cond (a0.2.2.1 == 0)
 (some ((a0.2.2.2.1 == 0), ()))
 (some (false, ())))
 (some (false, ())))
 (cond (a0.1 == 10)
 (cond (a0.2.1 == 0)
 (cond (a0.2.2.1 == 0)
 (some ((a0.2.2.2.1 == 0), ()))
 (some (false, ())))
 (some (false, ())))
 (cond (a0.1 == 2)
 (cond (a0.2.2.2.1 == 0)
 (cond r1.1
 (cond r2.1
 (some (true, ()))
 (some ((a0.2.2.1 == 0), ())))
 (cond (a0.2.1 == 0)
 (cond r2.1
 (cond r2.1
 (some (true, ()))
 (some ((a0.2.2.1 == 0), ())))
 (some (false, ())))
 (some (false, ()))))
 (some (false, ())))
 (cond (a0.1 == 3)
 (cond r3.1
 (cond (a0.2.1 == 0)
 (some ((a0.2.2.1 == 0), ()))
 (some (false, ())))
 (some (false, ())))
 (cond (a0.1 == 4)
 (cond r3.1
 (cond (a0.2.1 == 0)
 (some ((a0.2.2.1 == 0), ()))
 (some (false, ())))
 (some (false, ())))
 (cond (a0.1 == 5)
 (ob (Pc a0.2.2.2.1 0 3) fun r4 =>
 (cond r4.1
 (cond (a0.2.1 == 0)
 (some ((a0.2.2.1 == 0), ()))
 (some (false, ())))
 (some (false, ()))))
 (cond (a0.1 == 9)
 (ob (Pc a0.2.2.2.1 0 3) fun r5 =>
 (cond r5.1
 (cond (a0.2.1 == 0)
 (some ((a0.2.2.1 == 0), ()))
 (some (false, ())))
 (some (false, ()))))
 (cond (a0.1 == 6)
 (cond r1.1
 (cond r2.1
 (some ((a0.2.2.2.1 == 0), ()))
 (some (false, ())))
 (some (false, ())))
 (cond (a0.1 == 7)
 (cond r1.1
 (cond r3.1
 (some ((a0.2.2.1 == 0), ()))
 (some (false, ())))
 (some (false, ())))
 (cond (a0.1 == 8)
 (cond r2.1
 (cond (a0.2.1 == 0)
 (some ((a0.2.2.2.1 == 0), ()))
 (some (false, ())))
 (some (false, ())))
 (some (false, ()))))))))))))))))
def Ir (t1 : Unit) (t3 : Int) (t4 : Int) (b1 : Ka) : Option ((IN × Wo) ⊕ ((Au × Wo) ⊕ Cs)) :=
 (ob (Cc b1.2.1 t3) fun x40 =>
 (cond (decide (t4 < ((ln x40 : Nat) : Int)))
 (ob (Cc b1.2.1 t3) fun x41 =>
 (ob (Cc x41 t4) fun x42 =>
 (ob (Vf x42) fun r43 =>
 (cond (!r43.1)
 (some (.inr (.inr ((false, ()), ()))))
 (cond (x42.1 == 1)
 (cond (t3 == 0)
 (some (.inr (.inr ((false, ()), ()))))
 (cond (x42.1 != 9)
 (cond (decide (x42.2.2.2.1 ≥ ((ln b1.2.1 : Nat) : Int)))
 (some (.inr (.inr ((false, ()), ()))))
 (some (.inl (((), t3, (wr .i64 (t4 + 1)), ()), (b1, ())))))
 (some (.inl (((), t3, (wr .i64 (t4 + 1)), ()), (b1, ()))))))
 (cond (x42.1 != 9)
 (cond (decide (x42.2.2.2.1 ≥ ((ln b1.2.1 : Nat) : Int)))
 (some (.inr (.inr ((false, ()), ()))))
 (some (.inl (((), t3, (wr .i64 (t4 + 1)), ()), (b1, ())))))
 (some (.inl (((), t3, (wr .i64 (t4 + 1)), ()), (b1, ()))))))))))
 (some (.inr (.inl (((), t3, ()), (b1, ())))))))
def Ri := Cb fun x : (IN × Wo) => Ir x.1.1 x.1.2.1 x.1.2.2.1 x.2.1
def Hr (t1 : Unit) (t3 : Int) (b1 : Ka) : Option ((Au × Wo) ⊕ ((Ah × Wo) ⊕ Cs)) :=
 (cond (decide (t3 < ((ln b1.2.1 : Nat) : Int)))
 (ob (Cc b1.2.1 t3) fun x31 =>
 (cond (((ln x31 : Nat) : Int) != b1.1)
 (some (.inr (.inr ((false, ()), ()))))
 (ob (Ri (((), t3, 0, ()), (b1, ()))) (se (fun y44 => (some (.inl (((), (wr .i64 (y44.1.2.1 + 1)), ()), (y44.2.1, ()))))) (fun z45 => (some (.inr (.inr ((z45.1.1, ()), ())))))))))
 (some (.inr (.inl (((), ()), (b1, ()))))))
def Qi := Cb fun x : (Au × Wo) => Hr x.1.1 x.1.2.1 x.2.1
def Hn (a0 : Ka) : Option Uc :=
 (ob (Qi (((), 0, ()), (a0, ()))) (se (fun y46 => (ob (Pc y46.2.1.1 1 32) fun r48 =>
 (cond r48.1
 (ob (Pc ((ln y46.2.1.2.1 : Nat) : Int) 1 4) fun r49 =>
 (some (r49.1, ())))
 (some (false, ()))))) (fun z47 => (some (z47.1.1, ())))))
def Kn (a0 : Int) : Option Uc :=
 (cond (decide (a0 ≥ 1))
 (some ((decide (a0 ≤ 56)), ()))
 (some (false, ())))
def Dl (a0 : Int) : Option Uc :=
 (cond (decide (a0 ≥ 1))
 (some ((decide (a0 ≤ 15)), ()))
 (some (false, ())))
def Wl (a0 : Int) : Option Uc :=
 (cond (decide (a0 ≥ 1))
 (some ((decide (a0 ≤ 3)), ()))
 (some (false, ())))
def Uf (a0 : Ha) : Option Uc :=
 (cond (a0.1 == 0)
 (cond (a0.2.1 == 0)
 (cond (a0.2.2.1 == 0)
 (some ((a0.2.2.2.1 == 0), ()))
 (some (false, ())))
 (some (false, ())))
 (cond (a0.1 == 1)
 (cond (a0.2.1 == 0)
 (cond (a0.2.2.1 == 0)
 (some ((a0.2.2.2.1 == 0), ()))
 (some (false, ())))
 (some (false, ())))
 (cond (a0.1 == 10)
 (cond (a0.2.1 == 0)
 (cond (a0.2.2.1 == 0)
 (some ((a0.2.2.2.1 == 0), ()))
 (some (false, ())))
 (some (false, ())))
 (cond (a0.1 == 2)
 (cond (a0.2.2.2.1 == 0)
 (cond (a0.2.1 == 0)
 (cond (a0.2.2.1 == 0)
 (cond (a0.2.1 != 0)
 (some (true, ()))
 (some ((a0.2.2.1 != 0), ())))
 (ob (Dl a0.2.2.1) fun r1 =>
 (cond r1.1
 (cond (a0.2.1 != 0)
 (some (true, ()))
 (some ((a0.2.2.1 != 0), ())))
 (some (false, ())))))
 (ob (Kn a0.2.1) fun r2 =>
 (cond r2.1
 (cond (a0.2.2.1 == 0)
 (cond (a0.2.1 != 0)
 (some (true, ()))
 (some ((a0.2.2.1 != 0), ())))
 (ob (Dl a0.2.2.1) fun r3 =>
 (cond r3.1
 (cond (a0.2.1 != 0)
 (some (true, ()))
 (some ((a0.2.2.1 != 0), ())))
 (some (false, ())))))
 (some (false, ())))))
 (some (false, ())))
 (cond (a0.1 == 3)
 (cond (a0.2.1 == 0)
 (cond (a0.2.2.1 == 0)
 (ob (Wl a0.2.2.2.1) fun r4 =>
 (some (r4.1, ())))
 (some (false, ())))
 (some (false, ())))
 (cond (a0.1 == 4)
 (cond (a0.2.1 == 0)
 (cond (a0.2.2.1 == 0)
 (ob (Wl a0.2.2.2.1) fun r5 =>
 (some (r5.1, ())))
 (some (false, ())))
 (some (false, ())))
 (cond (a0.1 == 5)
 (cond (a0.2.1 == 0)
 (cond (a0.2.2.1 == 0)
 (cond (decide (a0.2.2.2.1 ≥ 0))
 (some ((decide (a0.2.2.2.1 ≤ 3)), ()))
 (some (false, ())))
 (some (false, ())))
 (some (false, ())))
 (cond (a0.1 == 9)
 (cond (a0.2.1 == 0)
 (cond (a0.2.2.1 == 0)
 (cond (decide (a0.2.2.2.1 ≥ 0))
 (some ((decide (a0.2.2.2.1 ≤ 3)), ()))
 (some (false, ())))
 (some (false, ())))
 (some (false, ())))
 (cond (a0.1 == 6)
 (ob (Kn a0.2.1) fun r6 =>
 (cond r6.1
 (ob (Dl a0.2.2.1) fun r7 =>
 (cond r7.1
 (some ((a0.2.2.2.1 == 0), ()))
 (some (false, ()))))
 (some (false, ()))))
 (cond (a0.1 == 7)
 (ob (Kn a0.2.1) fun r8 =>
 (cond r8.1
 (cond (a0.2.2.1 == 0)
 (ob (Wl a0.2.2.2.1) fun r9 =>
 (some (r9.1, ())))
 (some (false, ())))
 (some (false, ()))))
 (cond (a0.1 == 8)
 (cond (a0.2.1 == 0)
 (ob (Dl a0.2.2.1) fun r10 =>
 (cond r10.1
 (some ((a0.2.2.2.1 == 0), ()))
 (some (false, ()))))
 (some (false, ())))
 (some (false, ())))))))))))))
def Ar (t1 : Unit) (t3 : Int) (t28 : Eg) (t29 : Int) (t30 : Int) (t40 : Jf) (t41 : Int) (t42 : Int) (b1 : Ka) : Option (((Unit × (Int × (Eg × LN))) × Wo) ⊕ (((Unit × Ds) × Wo) ⊕ Cs)) :=
 (cond (decide (t42 < t41))
 (ob (Cc t40 t42) fun x24 =>
 (ob (Uf x24) fun r25 =>
 (cond (!r25.1)
 (some (.inr (.inr ((false, ()), ()))))
 (cond (t3 == 0)
 (cond (x24.1 == 1)
 (some (.inr (.inr ((false, ()), ()))))
 (cond (x24.1 != 9)
 (cond (decide (x24.2.2.2.1 ≥ ((ln b1.2.1 : Nat) : Int)))
 (some (.inr (.inr ((false, ()), ()))))
 (some (.inl (((), t3, t28, t29, t30, t40, t41, (wr .i64 (t42 + 1)), ()), (b1, ())))))
 (some (.inl (((), t3, t28, t29, t30, t40, t41, (wr .i64 (t42 + 1)), ()), (b1, ()))))))
 (cond (x24.1 != 9)
 (cond (decide (x24.2.2.2.1 ≥ ((ln b1.2.1 : Nat) : Int)))
 (some (.inr (.inr ((false, ()), ()))))
 (some (.inl (((), t3, t28, t29, t30, t40, t41, (wr .i64 (t42 + 1)), ()), (b1, ())))))
 (some (.inl (((), t3, t28, t29, t30, t40, t41, (wr .i64 (t42 + 1)), ()), (b1, ())))))))))
 (some (.inr (.inl (((), t28, t29, t30, ()), (b1, ()))))))
def Hi := Cb fun x : ((Unit × (Int × (Eg × LN))) × Wo) => Ar x.1.1 x.1.2.1 x.1.2.2.1 x.1.2.2.2.1 x.1.2.2.2.2.1 x.1.2.2.2.2.2.1 x.1.2.2.2.2.2.2.1 x.1.2.2.2.2.2.2.2.1 x.2.1
def Zq (t1 : Unit) (t28 : Eg) (t29 : Int) (t30 : Int) (b1 : Ka) : Option (((Unit × Ds) × Wo) ⊕ Bu) :=
 (cond (decide (t30 < t29))
 (ob (Cc t28 t30) fun x19 =>
 (cond (((ln x19 : Nat) : Int) != b1.1)
 (some (.inr (.inr ((false, ()), ()))))
 (ob (Hi (((), t30, t28, t29, t30, x19, ((ln x19 : Nat) : Int), 0, ()), (b1, ()))) (se (fun y26 => (some (.inl (((), y26.1.2.1, y26.1.2.2.1, (wr .i64 (y26.1.2.2.2.1 + 1)), ()), (y26.2.1, ()))))) (fun z27 => (some (.inr (.inr ((z27.1.1, ()), ())))))))))
 (some (.inr (.inl ((), ())))))
def Gi := Cb fun x : ((Unit × Ds) × Wo) => Zq x.1.1 x.1.2.1 x.1.2.2.1 x.1.2.2.2.1 x.2.1
def Vj (a0 : Ka) : Option Uc :=
 (cond (decide (a0.1 < 1))
 (some (false, ()))
 (cond (decide (a0.1 > 32))
 (some (false, ()))
 (cond (decide (((ln a0.2.1 : Nat) : Int) < 1))
 (some (false, ()))
 (cond (decide (((ln a0.2.1 : Nat) : Int) > 4))
 (some (false, ()))
 (ob (Gi (((), a0.2.1, ((ln a0.2.1 : Nat) : Int), 0, ()), (a0, ()))) (se (fun y28 => (some (true, ()))) (fun z29 => (some (z29.1.1, ())))))))))
def Wj (a0 : Ha) (a1 : Ha) : Option Uc :=
 (cond (a0.1 != a1.1)
 (some (false, ()))
 (cond (a0.2.1 != a1.2.1)
 (some (false, ()))
 (cond (a0.2.2.1 != a1.2.2.1)
 (some (false, ()))
 (cond (a0.2.2.2.1 != a1.2.2.2.1)
 (some (false, ()))
 (some (true, ()))))))
def ID (t0 : Jf) (t1 : Jf) (t5 : Int) : Option (((Jf × (Jf × Ad)) × Unit) ⊕ Bu) :=
 (cond (decide (t5 < ((ln t0 : Nat) : Int)))
 (ob (Cc t0 t5) fun x7 =>
 (ob (Cc t1 t5) fun x8 =>
 (ob (Wj x7 x8) fun r9 =>
 (cond (!r9.1)
 (some (.inr (.inr ((false, ()), ()))))
 (some (.inl ((t0, t1, (wr .i64 (t5 + 1)), ()), ())))))))
 (some (.inr (.inl ((), ())))))
def Qt := Cb fun x : ((Jf × (Jf × Ad)) × Unit) => ID x.1.1 x.1.2.1 x.1.2.2.1
def Zl (a0 : Jf) (a1 : Jf) : Option Uc :=
 (cond (((ln a0 : Nat) : Int) != ((ln a1 : Nat) : Int))
 (some (false, ()))
 (ob (Qt ((a0, a1, 0, ()), ())) (se (fun y10 => (some (true, ()))) (fun z11 => (some (z11.1.1, ()))))))
def EC (t0 : Eg) (t1 : Eg) (t5 : Int) : Option (((Eg × (Eg × Ad)) × Unit) ⊕ Bu) :=
 (cond (decide (t5 < ((ln t0 : Nat) : Int)))
 (ob (Cc t0 t5) fun x7 =>
 (ob (Cc t1 t5) fun x8 =>
 (ob (Zl x7 x8) fun r9 =>
 (cond (!r9.1)
 (some (.inr (.inr ((false, ()), ()))))
 (some (.inl ((t0, t1, (wr .i64 (t5 + 1)), ()), ())))))))
 (some (.inr (.inl ((), ())))))
def Pr := Cb fun x : ((Eg × (Eg × Ad)) × Unit) => EC x.1.1 x.1.2.1 x.1.2.2.1
def Ho (a0 : Eg) (a1 : Eg) : Option Uc :=
 (cond (((ln a0 : Nat) : Int) != ((ln a1 : Nat) : Int))
 (some (false, ()))
 (ob (Pr ((a0, a1, 0, ()), ())) (se (fun y10 => (some (true, ()))) (fun z11 => (some (z11.1.1, ()))))))
def Ms (a0 : Ka) (a1 : Ka) : Option Uc :=
 (cond (a0.1 != a1.1)
 (some (false, ()))
 (ob (Ho a0.2.1 a1.2.1) fun r1 =>
 (cond (!r1.1)
 (some (false, ()))
 (some (true, ())))))
def Oh (t0 : Vb) (t1 : Int) (t5 : Cf) (t6 : Int) (t7 : Int) : Option (QN ⊕ L4) :=
 (cond (decide (t7 ≤ ((ln t0 : Nat) : Int)))
 (cond (t7 == ((ln t0 : Nat) : Int))
 (cond (Ae (ln t0) t6 t7)
 (cond (bl (ln t5 + ln ([(Ob t0 (tn t6) (tn t7))] : List Vb)) Id)
 (some (.inl ((t0, t1, (ap t5 ([(Ob t0 (tn t6) (tn t7))] : List Vb)), (wr .i64 (t7 + 1)), (wr .i64 (t7 + 1)), ()), ())))
 none)
 none)
 (ob (Cc t0 t7) fun c3 =>
 (cond (((UInt8.toNat c3 : Nat) : Int) == t1)
 (cond (Ae (ln t0) t6 t7)
 (cond (bl (ln t5 + ln ([(Ob t0 (tn t6) (tn t7))] : List Vb)) Id)
 (some (.inl ((t0, t1, (ap t5 ([(Ob t0 (tn t6) (tn t7))] : List Vb)), (wr .i64 (t7 + 1)), (wr .i64 (t7 + 1)), ()), ())))
 none)
 none)
 (some (.inl ((t0, t1, t5, t6, (wr .i64 (t7 + 1)), ()), ()))))))
 (some (.inr (.inl ((t5, ()), ())))))
def Te := Cb fun x : QN => Oh x.1.1 x.1.2.1 x.1.2.2.1 x.1.2.2.2.1 x.1.2.2.2.2.1
def Gf (a0 : Vb) (a1 : Int) : Option (Cf × Unit) :=
 (ob (Te ((a0, a1, [], 0, 0, ()), ())) (se (fun y4 => (some (y4.1.1, ()))) (fun z5 => none)))
def Ev : Option (Cf × Unit) :=
 (ob (Gf Ys 32) fun r1 =>
 (some (r1.1, ())))
def Ug (a0 : Int) : Option Cq :=
 (ob (Pc a0 1 56) fun r1 =>
 (cond (!r1.1)
 (some ([], ()))
 (ob Ev fun r2 =>
 (cond (Je (ln r2.1) (wr .i64 (a0 - 1)))
 (ob r2.1[(tn (wr .i64 (a0 - 1)))]? fun x3 =>
 (some (x3, ())))
 none))))
def No (t0 : Vb) (t3 : Int) : Option ((Sy × Unit) ⊕ FE) :=
 (cond (decide (t3 ≤ 56))
 (ob (Ug t3) fun r3 =>
 (cond (r3.1 == t0)
 (some (.inr (.inr ((t3, ()), ()))))
 (some (.inl ((t0, (wr .i64 (t3 + 1)), ()), ())))))
 (some (.inr (.inl ((), ())))))
def Nh := Cb fun x : (Sy × Unit) => No x.1.1 x.1.2.1
def Hl (a0 : Vb) : Option Ad :=
 (ob (Nh ((a0, 1, ()), ())) (se (fun y4 => (some (0, ()))) (fun z5 => (some (z5.1.1, ())))))
def Vk (t0 : Int) (t3 : Vb) (t4 : Int) : Option (CI ⊕ (((Int × Cq) × Unit) ⊕ Ah)) :=
 (cond (t4 != 0)
 (cond ((10 : Int) == 0)
 none
 (cond (decide ((Int.tmod t4 10) < 0))
 (cond (bl (ln (Zs ([(wr .u8 (wr .i64 (48 + (wr .i64 (0 - (Int.tmod t4 10))))))] : List Int)) + ln t3) Id)
 (cond ((10 : Int) == 0)
 none
 (some (.inl ((t0, (ap (Zs ([(wr .u8 (wr .i64 (48 + (wr .i64 (0 - (Int.tmod t4 10))))))] : List Int)) t3), (wr .i64 (Int.tdiv t4 10)), ()), ()))))
 none)
 (cond (bl (ln (Zs ([(wr .u8 (wr .i64 (48 + (Int.tmod t4 10))))] : List Int)) + ln t3) Id)
 (cond ((10 : Int) == 0)
 none
 (some (.inl ((t0, (ap (Zs ([(wr .u8 (wr .i64 (48 + (Int.tmod t4 10))))] : List Int)) t3), (wr .i64 (Int.tdiv t4 10)), ()), ()))))
 none)))
 (some (.inr (.inl ((t0, t3, ()), ())))))
def Se := Cb fun x : CI => Vk x.1.1 x.1.2.1 x.1.2.2.1
def Zc (a0 : Int) : Option Cq :=
 (cond (a0 == 0)
 (some (([48] : List UInt8), ()))
 (ob (Se ((a0, [], a0, ()), ())) (se (fun y1 => (cond (decide (y1.1.1 < 0))
 (cond (bl (ln ([45] : List UInt8) + ln y1.1.2.1) Id)
 (some ((ap ([45] : List UInt8) y1.1.2.1), ()))
 none)
 (some (y1.1.2.1, ())))) (fun z2 => none))))
def Di (t0 : Vb) (t4 : Vb) (t5 : Int) (t6 : Int) : Option (((Vb × (Vb × Gc)) × Unit) ⊕ (((Vb × Sy) × Unit) ⊕ FX)) :=
 (cond (decide (t6 < ((ln t4 : Nat) : Int)))
 (ob (Cc t4 t6) fun c34 =>
 (cond (decide (((UInt8.toNat c34 : Nat) : Int) < 48))
 (some (.inr (.inr ((0, false, ()), ()))))
 (ob (Cc t4 t6) fun c35 =>
 (cond (decide (((UInt8.toNat c35 : Nat) : Int) > 57))
 (some (.inr (.inr ((0, false, ()), ()))))
 (ob (Cc t4 t6) fun c36 =>
 (some (.inl ((t0, t4, (wr .i64 ((wr .i64 ((wr .i64 (10 * t5)) + (wr .i64 ((UInt8.toNat c36 : Nat) : Int)))) - 48)), (wr .i64 (t6 + 1)), ()), ()))))))))
 (some (.inr (.inl ((t0, t4, t5, ()), ())))))
def Be := Cb fun x : ((Vb × (Vb × Gc)) × Unit) => Di x.1.1 x.1.2.1 x.1.2.2.1 x.1.2.2.2.1
def Jn (a0 : Vb) : Option MN :=
 (cond (decide (((ln a0 : Nat) : Int) > 0))
 (ob (Cc a0 0) fun c1 =>
 (cond (((UInt8.toNat c1 : Nat) : Int) == 45)
 (cond (Ae (ln a0) 1 ((ln a0 : Nat) : Int))
 (cond (decide (((ln (Ob a0 (tn 1) (tn ((ln a0 : Nat) : Int))) : Nat) : Int) < 1))
 (some (0, false, ()))
 (cond (decide (((ln (Ob a0 (tn 1) (tn ((ln a0 : Nat) : Int))) : Nat) : Int) > 9))
 (some (0, false, ()))
 (ob (Be ((a0, (Ob a0 (tn 1) (tn ((ln a0 : Nat) : Int))), 0, 0, ()), ())) (se (fun y11 => (cond (decide (((ln y11.1.2.1 : Nat) : Int) < ((ln y11.1.1 : Nat) : Int)))
 (ob (Zc (wr .i64 (0 - y11.1.2.2.1))) fun r13 =>
 (cond (r13.1 != y11.1.1)
 (some (0, false, ()))
 (some ((wr .i64 (0 - y11.1.2.2.1)), true, ()))))
 (ob (Zc y11.1.2.2.1) fun r14 =>
 (cond (r14.1 != y11.1.1)
 (some (0, false, ()))
 (some (y11.1.2.2.1, true, ())))))) (fun z12 => (some z12.1))))))
 none)
 (cond (decide (((ln a0 : Nat) : Int) < 1))
 (some (0, false, ()))
 (cond (decide (((ln a0 : Nat) : Int) > 9))
 (some (0, false, ()))
 (ob (Be ((a0, a0, 0, 0, ()), ())) (se (fun y24 => (cond (decide (((ln y24.1.2.1 : Nat) : Int) < ((ln y24.1.1 : Nat) : Int)))
 (ob (Zc (wr .i64 (0 - y24.1.2.2.1))) fun r26 =>
 (cond (r26.1 != y24.1.1)
 (some (0, false, ()))
 (some ((wr .i64 (0 - y24.1.2.2.1)), true, ()))))
 (ob (Zc y24.1.2.2.1) fun r27 =>
 (cond (r27.1 != y24.1.1)
 (some (0, false, ()))
 (some (y24.1.2.2.1, true, ())))))) (fun z25 => (some z25.1))))))))
 (cond (decide (((ln a0 : Nat) : Int) < 1))
 (some (0, false, ()))
 (cond (decide (((ln a0 : Nat) : Int) > 9))
 (some (0, false, ()))
 (ob (Be ((a0, a0, 0, 0, ()), ())) (se (fun y37 => (cond (decide (((ln y37.1.2.1 : Nat) : Int) < ((ln y37.1.1 : Nat) : Int)))
 (ob (Zc (wr .i64 (0 - y37.1.2.2.1))) fun r39 =>
 (cond (r39.1 != y37.1.1)
 (some (0, false, ()))
 (some ((wr .i64 (0 - y37.1.2.2.1)), true, ()))))
 (ob (Zc y37.1.2.2.1) fun r40 =>
 (cond (r40.1 != y37.1.1)
 (some (0, false, ()))
 (some (y37.1.2.2.1, true, ())))))) (fun z38 => (some z38.1)))))))
def Oj (t0 : Int) (t3 : Vb) (t4 : Int) : Option (CI ⊕ EX) :=
 (cond (decide (t4 < 4))
 (ob (Pc t0 1 15) fun r3 =>
 (cond r3.1
 (cond (decide (0 ≤ t4))
 (cond ((Gu .i64 (Iy .i64 t0 t4) 1) == 1)
 (cond (Ae (ln Mx) t4 (wr .i64 (t4 + 1)))
 (cond (bl (ln t3 + ln (Ob Mx (tn t4) (tn (wr .i64 (t4 + 1))))) Id)
 (some (.inl ((t0, (ap t3 (Ob Mx (tn t4) (tn (wr .i64 (t4 + 1))))), (wr .i64 (t4 + 1)), ()), ())))
 none)
 none)
 (some (.inl ((t0, t3, (wr .i64 (t4 + 1)), ()), ()))))
 none)
 (some (.inr (.inl ((t3, ()), ()))))))
 (some (.inr (.inl ((t3, ()), ())))))
def Il := Cb fun x : CI => Oj x.1.1 x.1.2.1 x.1.2.2.1
def Lg (a0 : Int) : Option Cq :=
 (ob (Il ((a0, [], 0, ()), ())) (se (fun y4 => (some (y4.1.1, ()))) (fun z5 => none)))
def Wk (t0 : Vb) (t3 : Int) : Option ((Sy × Unit) ⊕ FE) :=
 (cond (decide (t3 ≤ 15))
 (ob (Lg t3) fun r3 =>
 (cond (r3.1 == t0)
 (some (.inr (.inr ((t3, ()), ()))))
 (some (.inl ((t0, (wr .i64 (t3 + 1)), ()), ())))))
 (some (.inr (.inl ((), ())))))
def Dg := Cb fun x : (Sy × Unit) => Wk x.1.1 x.1.2.1
def Xi (a0 : Vb) : Option Ad :=
 (ob (Dg ((a0, 1, ()), ())) (se (fun y4 => (some (0, ()))) (fun z5 => (some (z5.1.1, ())))))
def Lw (a0 : Int) (a1 : Vb) (a2 : Vb) : Option NA :=
 (ob (Jn a2) fun r1 =>
 (cond (a1 == ([109, 111] : List UInt8))
 (some ((3, 0, 0, r1.1, ()), ()))
 (cond (a1 == ([116, 103] : List UInt8))
 (some ((4, 0, 0, r1.1, ()), ()))
 (cond (a1 == ([116, 111] : List UInt8))
 (some ((5, 0, 0, r1.1, ()), ()))
 (cond (a1 == Nx)
 (some ((9, 0, 0, r1.1, ()), ()))
 (ob (Xi a2) fun r2 =>
 (some ((a0, 0, r2.1, 0, ()), ()))))))))
def Fd (a0 : Ha) : Option Cq :=
 (ob (Vf a0) fun r1 =>
 (cond (!r1.1)
 (some ([], ()))
 (cond (a0.1 == 0)
 (some (Tf, ()))
 (cond (a0.1 == 1)
 (some (Sf, ()))
 (cond (a0.1 == 3)
 (ob (Zc a0.2.2.2.1) fun r2 =>
 (cond (bl (ln ([109, 111, 58] : List UInt8) + ln r2.1) Id)
 (some ((ap ([109, 111, 58] : List UInt8) r2.1), ()))
 none))
 (cond (a0.1 == 4)
 (ob (Zc a0.2.2.2.1) fun r3 =>
 (cond (bl (ln ([116, 103, 58] : List UInt8) + ln r3.1) Id)
 (some ((ap ([116, 103, 58] : List UInt8) r3.1), ()))
 none))
 (cond (a0.1 == 5)
 (ob (Zc a0.2.2.2.1) fun r4 =>
 (cond (bl (ln ([116, 111, 58] : List UInt8) + ln r4.1) Id)
 (some ((ap ([116, 111, 58] : List UInt8) r4.1), ()))
 none))
 (cond (a0.1 == 6)
 (ob (Lg a0.2.2.1) fun r5 =>
 (cond (bl (ln r5.1 + ln ([47] : List UInt8)) Id)
 (ob (Ug a0.2.1) fun r6 =>
 (cond (bl (ln (ap r5.1 ([47] : List UInt8)) + ln r6.1) Id)
 (some ((ap (ap r5.1 ([47] : List UInt8)) r6.1), ()))
 none))
 none))
 (cond (a0.1 == 7)
 (ob (Zc a0.2.2.2.1) fun r7 =>
 (cond (bl (ln r7.1 + ln ([47] : List UInt8)) Id)
 (ob (Ug a0.2.1) fun r8 =>
 (cond (bl (ln (ap r7.1 ([47] : List UInt8)) + ln r8.1) Id)
 (some ((ap (ap r7.1 ([47] : List UInt8)) r8.1), ()))
 none))
 none))
 (cond (a0.1 == 8)
 (ob (Lg a0.2.2.1) fun r9 =>
 (cond (bl (ln Ud + ln r9.1) Id)
 (some ((ap Ud r9.1), ()))
 none))
 (cond (a0.1 == 9)
 (ob (Zc a0.2.2.2.1) fun r10 =>
 (cond (bl (ln Ze + ln r10.1) Id)
 (some ((ap Ze r10.1), ()))
 none))
 (cond (a0.1 == 10)
 (some (Ye, ()))
 (cond (a0.2.2.1 == 0)
 (ob (Ug a0.2.1) fun r11 =>
 (some (r11.1, ())))
 (ob (Lg a0.2.2.1) fun r12 =>
 (cond (bl (ln r12.1 + ln ([45] : List UInt8)) Id)
 (ob (Ug a0.2.1) fun r13 =>
 (cond (bl (ln (ap r12.1 ([45] : List UInt8)) + ln r13.1) Id)
 (some ((ap (ap r12.1 ([45] : List UInt8)) r13.1), ()))
 none))
 none)))))))))))))))
def Xm (a0 : Vb) : Option (Ha × Uc) :=
 (ob (Hl a0) fun r1 =>
 (ob (Gf a0 58) fun r2 =>
 (ob (Gf a0 47) fun r3 =>
 (ob (Gf a0 45) fun r4 =>
 (cond (a0 == Tf)
 (cond (a0 == [])
 (some ((0, 0, 0, 0, ()), false, ()))
 (ob (Fd (0, 0, 0, 0, ())) fun r5 =>
 (cond (r5.1 != a0)
 (some ((0, 0, 0, 0, ()), false, ()))
 (some ((0, 0, 0, 0, ()), true, ())))))
 (cond (a0 == Sf)
 (cond (a0 == [])
 (some ((0, 0, 0, 0, ()), false, ()))
 (ob (Fd (1, 0, 0, 0, ())) fun r6 =>
 (cond (r6.1 != a0)
 (some ((0, 0, 0, 0, ()), false, ()))
 (some ((1, 0, 0, 0, ()), true, ())))))
 (cond (a0 == Ye)
 (cond (a0 == [])
 (some ((0, 0, 0, 0, ()), false, ()))
 (ob (Fd (10, 0, 0, 0, ())) fun r7 =>
 (cond (r7.1 != a0)
 (some ((0, 0, 0, 0, ()), false, ()))
 (some ((10, 0, 0, 0, ()), true, ())))))
 (cond (((ln r2.1 : Nat) : Int) == 2)
 (cond (Je (ln r2.1) 0)
 (ob r2.1[(tn 0)]? fun x8 =>
 (cond (Je (ln r2.1) 1)
 (ob r2.1[(tn 1)]? fun x9 =>
 (ob (Lw 8 x8 x9) fun r10 =>
 (cond (a0 == [])
 (some ((0, 0, 0, 0, ()), false, ()))
 (ob (Fd r10.1) fun r11 =>
 (cond (r11.1 != a0)
 (some ((0, 0, 0, 0, ()), false, ()))
 (some (r10.1, true, ())))))))
 none))
 none)
 (cond (((ln r3.1 : Nat) : Int) == 2)
 (cond (Je (ln r3.1) 0)
 (ob r3.1[(tn 0)]? fun x12 =>
 (ob (Jn x12) fun r13 =>
 (cond (Je (ln r3.1) 1)
 (ob r3.1[(tn 1)]? fun x14 =>
 (ob (Hl x14) fun r15 =>
 (cond (Je (ln r3.1) 0)
 (ob r3.1[(tn 0)]? fun x16 =>
 (ob (Xi x16) fun r17 =>
 (cond r13.2.1
 (cond (Je (ln r3.1) 1)
 (ob r3.1[(tn 1)]? fun x18 =>
 (ob (Hl x18) fun r19 =>
 (cond (a0 == [])
 (some ((0, 0, 0, 0, ()), false, ()))
 (ob (Fd (7, r19.1, 0, r13.1, ())) fun r20 =>
 (cond (r20.1 != a0)
 (some ((0, 0, 0, 0, ()), false, ()))
 (some ((7, r19.1, 0, r13.1, ()), true, ())))))))
 none)
 (cond (a0 == [])
 (some ((0, 0, 0, 0, ()), false, ()))
 (ob (Fd (6, r15.1, r17.1, 0, ())) fun r21 =>
 (cond (r21.1 != a0)
 (some ((0, 0, 0, 0, ()), false, ()))
 (some ((6, r15.1, r17.1, 0, ()), true, ()))))))))
 none)))
 none)))
 none)
 (cond (((ln r4.1 : Nat) : Int) == 2)
 (cond (Je (ln r4.1) 1)
 (ob r4.1[(tn 1)]? fun x22 =>
 (ob (Hl x22) fun r23 =>
 (cond (Je (ln r4.1) 0)
 (ob r4.1[(tn 0)]? fun x24 =>
 (ob (Xi x24) fun r25 =>
 (cond (a0 == [])
 (some ((0, 0, 0, 0, ()), false, ()))
 (ob (Fd (2, r23.1, r25.1, 0, ())) fun r26 =>
 (cond (r26.1 != a0)
 (some ((0, 0, 0, 0, ()), false, ()))
 (some ((2, r23.1, r25.1, 0, ()), true, ())))))))
 none)))
 none)
 (cond (a0 == [])
 (some ((0, 0, 0, 0, ()), false, ()))
 (ob (Fd (2, r1.1, 0, 0, ())) fun r27 =>
 (cond (r27.1 != a0)
 (some ((0, 0, 0, 0, ()), false, ()))
 (some ((2, r1.1, 0, 0, ()), true, ())))))))))))))))
def Si (t2 : Unit) (t4 : Unit) (t5 : Jf) (t6 : Cf) (t7 : Int) (b2 : Ka) (b4 : Ka) : Option (((Unit × (Unit × (Jf × DO))) × Vn) ⊕ ((EI × Vn) ⊕ ((Unit × Uc) × Wo))) :=
 (cond (decide (t7 < ((ln t6 : Nat) : Int)))
 (cond (Je (ln t6) t7)
 (ob t6[(tn t7)]? fun x11 =>
 (cond (x11 == ([124] : List UInt8))
 (cond (bl (ln b4.2.1 + ln ([t5] : List Jf)) Id)
 (some (.inl (((), (), [], t6, (wr .i64 (t7 + 1)), ()), (b2, (((ln t5 : Nat) : Int), (ap b4.2.1 ([t5] : List Jf)), ()), ()))))
 none)
 (cond (Je (ln t6) t7)
 (ob t6[(tn t7)]? fun x12 =>
 (ob (Xm x12) fun r13 =>
 (cond (!r13.2.1)
 (some (.inr (.inr (((), false, ()), ((0, [], ()), ())))))
 (cond (bl (ln t5 + ln ([r13.1] : List Ha)) Id)
 (some (.inl (((), (), (ap t5 ([r13.1] : List Ha)), t6, (wr .i64 (t7 + 1)), ()), (b2, b4, ()))))
 none))))
 none)))
 none)
 (some (.inr (.inl (((), (), ()), (b2, b4, ()))))))
def Tj := Cb fun x : ((Unit × (Unit × (Jf × DO))) × Vn) => Si x.1.1 x.1.2.1 x.1.2.2.1 x.1.2.2.2.1 x.1.2.2.2.2.1 x.2.1 x.2.2.1
def Ym (a0 : Vb) : Option (Ka × Uc) :=
 (ob (Gf a0 32) fun r1 =>
 (cond (bl (ln r1.1 + ln ([([124] : List UInt8)] : List Vb)) Id)
 (ob (Tj (((), (), [], (ap r1.1 ([([124] : List UInt8)] : List Vb)), 0, ()), ((0, [], ()), (0, [], ()), ()))) (se (fun y14 => (ob (Hn y14.2.2.1) fun r16 =>
 (cond (!r16.1)
 (some ((0, [], ()), false, ()))
 (some (y14.2.2.1, true, ()))))) (fun z15 => (some (z15.2.1, z15.1.2.1, ())))))
 none))
def Qq (a0 : Ha) : Option Uc :=
 (ob (Vf a0) fun r1 =>
 (cond r1.1
 (cond (a0.1 == 6)
 (some (true, ()))
 (some ((a0.1 == 7), ())))
 (some (false, ()))))
def strings_Split (a b : List UInt8) : Option (List Vb × Unit) := PJ a b
def Wh (a0 : Int) : Option Cq :=
 (cond (decide (a0 < 1))
 (some ([], ()))
 (cond (decide (a0 > 56))
 (some ([], ()))
 (ob (strings_Split Ys ([32] : List UInt8)) fun r1 =>
 (cond (Je (ln r1.1) (wr .i64 (a0 - 1)))
 (ob r1.1[(tn (wr .i64 (a0 - 1)))]? fun x2 =>
 (some (x2, ())))
 none))))
def Ij (t2 : Unit) (t3 : Unit) (t10 : Eg) (t11 : Int) (t12 : Int) (b2 : Ka) (b3 : Ka) : Option (((Unit × (Unit × Ds)) × Vn) ⊕ ((EI × Vn) ⊕ Ah)) :=
 (cond (decide (t12 < t11))
 (ob (Cc t10 t12) fun x4 =>
 (cond (bl (ln ([] : List Ha) + ln x4) Id)
 (cond (bl (ln b3.2.1 + ln ([(ap [] x4)] : List Jf)) Id)
 (some (.inl (((), (), t10, t11, (wr .i64 (t12 + 1)), ()), (b2, (b3.1, (ap b3.2.1 ([(ap [] x4)] : List Jf)), ()), ()))))
 none)
 none))
 (some (.inr (.inl (((), (), ()), (b2, b3, ()))))))
def Bl := Cb fun x : ((Unit × (Unit × Ds)) × Vn) => Ij x.1.1 x.1.2.1 x.1.2.2.1 x.1.2.2.2.1 x.1.2.2.2.2.1 x.2.1 x.2.2.1
def Ik (a0 : Ka) : Option Wo :=
 (ob (Bl (((), (), a0.2.1, ((ln a0.2.1 : Nat) : Int), 0, ()), ((0, [], ()), (a0.1, [], ()), ()))) (se (fun y5 => (some (y5.2.2.1, ()))) (fun z6 => none)))
def Jj (t3 : Nf) (t6 : Nf) (t7 : Int) (t8 : Int) : Option (((Nf × Vy) × Unit) ⊕ (((Nf × Unit) × Unit) ⊕ Ah)) :=
 (cond (decide (t8 < t7))
 (ob (Cc t6 t8) fun x4 =>
 (cond (bl (ln ([] : List Qb) + ln x4) Id)
 (cond (bl (ln t3 + ln ([(ap [] x4)] : List Bf)) Id)
 (some (.inl (((ap t3 ([(ap [] x4)] : List Bf)), t6, t7, (wr .i64 (t8 + 1)), ()), ())))
 none)
 none))
 (some (.inr (.inl ((t3, ()), ())))))
def Cl := Cb fun x : ((Nf × Vy) × Unit) => Jj x.1.1 x.1.2.1 x.1.2.2.1 x.1.2.2.2.1
def Jk (a0 : Nf) : Option (Nf × Unit) :=
 (ob (Cl (([], a0, ((ln a0 : Nat) : Int), 0, ()), ())) (se (fun y5 => (some (y5.1.1, ()))) (fun z6 => none)))
def Dt (a0 : Int) (a1 : Int) : Option Ad :=
 (cond (decide (0 ≤ a1))
 (some ((Gu .i64 (Iy .i64 a0 a1) 1), ()))
 none)
def Ao (t3 : Int) (t6 : Fg) (t7 : Int) (t8 : Int) : Option (NN ⊕ Bu) :=
 (cond (decide (t8 < t7))
 (ob (Cc t6 t8) fun x7 =>
 (cond (decide (x7.1 < 0))
 (some (.inr (.inr ((false, ()), ()))))
 (cond (decide (x7.1 > 31))
 (some (.inr (.inr ((false, ()), ()))))
 (ob (Dt t3 x7.1) fun r8 =>
 (cond (r8.1 == 1)
 (some (.inr (.inr ((false, ()), ()))))
 (ob (Uf x7.2.1) fun r9 =>
 (cond (!r9.1)
 (some (.inr (.inr ((false, ()), ()))))
 (cond (x7.2.1.1 == 1)
 (some (.inr (.inr ((false, ()), ()))))
 (cond (x7.2.1.1 == 6)
 (some (.inr (.inr ((false, ()), ()))))
 (cond (x7.2.1.1 == 7)
 (some (.inr (.inr ((false, ()), ()))))
 (cond (decide (0 ≤ x7.1))
 (some (.inl (((En .i64 t3 (Mh .i64 1 x7.1)), t6, t7, (wr .i64 (t8 + 1)), ()), ())))
 none)))))))))))
 (some (.inr (.inl ((), ())))))
def Fp := Cb fun x : NN => Ao x.1.1 x.1.2.1 x.1.2.2.1 x.1.2.2.2.1
def Cw (a0 : Fg) : Option Uc :=
 (ob (Fp ((0, a0, ((ln a0 : Nat) : Int), 0, ()), ())) (se (fun y10 => (some (true, ()))) (fun z11 => (some (z11.1.1, ())))))
def Fo (t3 : Unit) (t7 : MA) (t8 : Int) (t9 : Int) (b3 : Gc) : Option (((Unit × G4) × I4) ⊕ FE) :=
 (cond (decide (t9 < t8))
 (ob (Cc t7 t9) fun x3 =>
 (cond (Xn Xg x3 b3)
 (some (.inr (.inr ((t9, ()), ()))))
 (some (.inl (((), t7, t8, (wr .i64 (t9 + 1)), ()), (b3, ()))))))
 (some (.inr (.inl ((), ())))))
def Jp := Cb fun x : ((Unit × G4) × I4) => Fo x.1.1 x.1.2.1 x.1.2.2.1 x.1.2.2.2.1 x.2.1
def Ew (a0 : MA) (a1 : Gc) : Option Ad :=
 (ob (Jp (((), a0, ((ln a0 : Nat) : Int), 0, ()), (a1, ()))) (se (fun y4 => (some ((-1), ()))) (fun z5 => (some (z5.1.1, ())))))
def Ej (t3 : MA) (t11 : Bf) (t12 : Int) (t13 : Int) : Option (((MA × GE) × Unit) ⊕ (((MA × Unit) × Unit) ⊕ Cs)) :=
 (cond (decide (t13 < t12))
 (ob (Cc t11 t13) fun x10 =>
 (ob (Ew t3 x10.2) fun r11 =>
 (ob (Uf (2, x10.2.1, x10.2.2.1, 0, ())) fun r12 =>
 (cond (!r12.1)
 (some (.inr (.inr ((false, ()), ()))))
 (cond (x10.1 == 0)
 (cond (decide (r11.1 ≥ 0))
 (some (.inr (.inr ((false, ()), ()))))
 (cond (x10.1 == 1)
 (cond (bl (ln t3 + ln ([x10.2] : List Gc)) Id)
 (some (.inl (((ap t3 ([x10.2] : List Gc)), t11, t12, (wr .i64 (t13 + 1)), ()), ())))
 none)
 (some (.inl ((t3, t11, t12, (wr .i64 (t13 + 1)), ()), ())))))
 (cond (x10.1 == 1)
 (cond (decide (r11.1 ≥ 0))
 (some (.inr (.inr ((false, ()), ()))))
 (cond (x10.1 == 1)
 (cond (bl (ln t3 + ln ([x10.2] : List Gc)) Id)
 (some (.inl (((ap t3 ([x10.2] : List Gc)), t11, t12, (wr .i64 (t13 + 1)), ()), ())))
 none)
 (some (.inl ((t3, t11, t12, (wr .i64 (t13 + 1)), ()), ())))))
 (cond (x10.1 == 2)
 (cond (decide (r11.1 < 0))
 (some (.inr (.inr ((false, ()), ()))))
 (cond (Ae (ln t3) 0 r11.1)
 (cond (Ae (ln t3) (wr .i64 (r11.1 + 1)) ((ln t3 : Nat) : Int))
 (cond (bl (ln (Ob t3 (tn 0) (tn r11.1)) + ln (Ob t3 (tn (wr .i64 (r11.1 + 1))) (tn ((ln t3 : Nat) : Int)))) Id)
 (some (.inl (((ap (Ob t3 (tn 0) (tn r11.1)) (Ob t3 (tn (wr .i64 (r11.1 + 1))) (tn ((ln t3 : Nat) : Int)))), t11, t12, (wr .i64 (t13 + 1)), ()), ())))
 none)
 none)
 none))
 (some (.inr (.inr ((false, ()), ())))))))))))
 (some (.inr (.inl ((t3, ()), ())))))
def Sn := Cb fun x : ((MA × GE) × Unit) => Ej x.1.1 x.1.2.1 x.1.2.2.1 x.1.2.2.2.1
def Ju (a0 : Bf) : Option Uc :=
 (cond (decide (((ln a0 : Nat) : Int) > 8))
 (some (false, ()))
 (ob (Sn (([], a0, ((ln a0 : Nat) : Int), 0, ()), ())) (se (fun y13 => (some ((((ln y13.1.1 : Nat) : Int) == 0), ()))) (fun z14 => (some (z14.1.1, ()))))))
def Ml (t1 : Unit) (t35 : Nf) (t36 : Int) (t37 : Int) (b1 : Bb) : Option (((Unit × Vy) × Dk) ⊕ ((Ah × Dk) ⊕ Cs)) :=
 (cond (decide (t37 < t36))
 (ob (Cc t35 t37) fun x7 =>
 (ob (Ju x7) fun r8 =>
 (cond (!r8.1)
 (some (.inr (.inr ((false, ()), ()))))
 (some (.inl (((), t35, t36, (wr .i64 (t37 + 1)), ()), (b1, ())))))))
 (some (.inr (.inl (((), ()), (b1, ()))))))
def Fi := Cb fun x : ((Unit × Vy) × Dk) => Ml x.1.1 x.1.2.1 x.1.2.2.1 x.1.2.2.2.1 x.2.1
def Ek (t1 : Unit) (t5 : Int) (t50 : Fg) (t51 : Int) (t52 : Int) (b1 : Bb) : Option (((Unit × (Int × KN)) × Dk) ⊕ ((Au × Dk) ⊕ Cs)) :=
 (cond (decide (t52 < t51))
 (ob (Cc t50 t52) fun x13 =>
 (cond (decide (x13.1 ≥ b1.1.1))
 (some (.inr (.inr ((false, ()), ()))))
 (cond (x13.2.1.1 != 9)
 (cond (decide (x13.2.1.2.2.2.1 ≥ t5))
 (some (.inr (.inr ((false, ()), ()))))
 (some (.inl (((), t5, t50, t51, (wr .i64 (t52 + 1)), ()), (b1, ())))))
 (some (.inl (((), t5, t50, t51, (wr .i64 (t52 + 1)), ()), (b1, ())))))))
 (some (.inr (.inl (((), t5, ()), (b1, ()))))))
def Th := Cb fun x : ((Unit × (Int × KN)) × Dk) => Ek x.1.1 x.1.2.1 x.1.2.2.1 x.1.2.2.2.1 x.1.2.2.2.2.1 x.2.1
def Xh (a0 : Bb) : Option Uc :=
 (ob (Vj a0.1) fun r1 =>
 (cond (!r1.1)
 (some (false, ()))
 (cond (decide (((ln a0.2.1 : Nat) : Int) > 4))
 (some (false, ()))
 (ob (Cw a0.2.2.2.1) fun r2 =>
 (cond (!r2.1)
 (some (false, ()))
 (cond (decide (a0.2.2.2.2.1 < 0))
 (some (false, ()))
 (cond (decide (a0.2.2.2.2.1 > 15))
 (some (false, ()))
 (ob (Fi (((), a0.2.1, ((ln a0.2.1 : Nat) : Int), 0, ()), (a0, ()))) (se (fun y9 => (ob (Th (((), ((ln y9.2.1.1.2.1 : Nat) : Int), y9.2.1.2.2.2.1, ((ln y9.2.1.2.2.2.1 : Nat) : Int), 0, ()), (y9.2.1, ()))) (se (fun y14 => (cond (decide (y14.2.1.2.2.1 ≥ 0))
 (cond ((2 : Int) == 0)
 none
 (cond ((Int.tmod y14.2.1.2.2.1 2) == 0)
 (cond (decide (0 ≤ y14.1.2.1))
 (some ((decide (y14.2.1.2.2.1 < (Mh .i64 1 y14.1.2.1))), ()))
 none)
 (some (false, ()))))
 (some (false, ())))) (fun z15 => (some (z15.1.1, ())))))) (fun z10 => (some (z10.1.1, ()))))))))))))
def Ui (a0 : Ka) (a1 : Nf) : Option (Bb × Uc) :=
 (ob (Ik a0) fun r1 =>
 (ob (Jk a1) fun r2 =>
 (ob (Xh (r1.1, r2.1, 0, [], 0, false, ())) fun r3 =>
 (cond (!r3.1)
 (some (KC, false, ()))
 (some ((r1.1, r2.1, 0, [], 0, false, ()), true, ()))))))
def Co (a0 : Bb) : Option Dk :=
 (ob (Ik a0.1) fun r1 =>
 (ob (Jk a0.2.1) fun r2 =>
 (cond (bl (ln ([] : List Ib) + ln a0.2.2.2.1) Id)
 (some ((r1.1, r2.1, a0.2.2.1, (ap [] a0.2.2.2.1), a0.2.2.2.2), ()))
 none)))
def Es (a0 : Qb) : Option Uc :=
 (cond (decide (a0.1 ≥ 1))
 (cond (decide (a0.1 ≤ 1000))
 (cond (decide (a0.2.1 ≥ 0))
 (cond (decide (a0.2.1 ≤ 1000))
 (cond (decide (a0.2.2.1 ≥ 0))
 (some ((decide (a0.2.2.1 ≤ 2)), ()))
 (some (false, ())))
 (some (false, ())))
 (some (false, ())))
 (some (false, ())))
 (some (false, ())))
def Nl (t3 : Int) (t6 : Fg) (t7 : Int) (t8 : Int) : Option (NN ⊕ H4) :=
 (cond (decide (t8 < t7))
 (ob (Cc t6 t8) fun x3 =>
 (cond (decide (0 ≤ x3.1))
 (some (.inl (((En .i64 t3 (Mh .i64 1 x3.1)), t6, t7, (wr .i64 (t8 + 1)), ()), ())))
 none))
 (some (.inr (.inl ((t3, ()), ())))))
def Qm := Cb fun x : NN => Nl x.1.1 x.1.2.1 x.1.2.2.1 x.1.2.2.2.1
def Is (a0 : Fg) : Option Ad :=
 (ob (Qm ((0, a0, ((ln a0 : Nat) : Int), 0, ()), ())) (se (fun y4 => (some (y4.1.1, ()))) (fun z5 => none)))
def Iu (a0 : Lb) : Option Uc :=
 (cond (decide (a0.1 ≥ 0))
 (cond (decide (a0.1 ≤ 1000000))
 (cond (decide (a0.2.1 ≥ 0))
 (some ((decide (a0.2.1 ≤ 31)), ()))
 (some (false, ())))
 (some (false, ())))
 (some (false, ())))
def Eo (t0 : Jg) (t1 : Int) (t11 : Jg) (t12 : Int) (t13 : Int) : Option (((Jg × JN) × Unit) ⊕ (DI ⊕ FX)) :=
 (cond (decide (t13 < t12))
 (ob (Cc t11 t13) fun x11 =>
 (ob (Iu x11) fun r12 =>
 (cond (!r12.1)
 (some (.inr (.inr ((0, false, ()), ()))))
 (cond (decide (t13 > 0))
 (ob (Cc t0 (wr .i64 (t13 - 1))) fun x13 =>
 (cond (decide (x13.1 > x11.1))
 (some (.inr (.inr ((0, false, ()), ()))))
 (ob (Dt t1 x11.2.1) fun r14 =>
 (cond (x11.2.2.1 == (r14.1 == 1))
 (some (.inr (.inr ((0, false, ()), ()))))
 (cond (decide (0 ≤ x11.2.1))
 (some (.inl ((t0, (CB .i64 t1 (Mh .i64 1 x11.2.1)), t11, t12, (wr .i64 (t13 + 1)), ()), ())))
 none)))))
 (ob (Dt t1 x11.2.1) fun r15 =>
 (cond (x11.2.2.1 == (r15.1 == 1))
 (some (.inr (.inr ((0, false, ()), ()))))
 (cond (decide (0 ≤ x11.2.1))
 (some (.inl ((t0, (CB .i64 t1 (Mh .i64 1 x11.2.1)), t11, t12, (wr .i64 (t13 + 1)), ()), ())))
 none)))))))
 (some (.inr (.inl ((t1, ()), ())))))
def Ip := Cb fun x : ((Jg × JN) × Unit) => Eo x.1.1 x.1.2.1 x.1.2.2.1 x.1.2.2.2.1 x.1.2.2.2.2.1
def Dw (a0 : Jg) (a1 : Int) : Option MN :=
 (cond (decide (((ln a0 : Nat) : Int) > 64))
 (some (0, false, ()))
 (ob (Ip ((a0, a1, a0, ((ln a0 : Nat) : Int), 0, ()), ())) (se (fun y16 => (some (y16.1.1, true, ()))) (fun z17 => (some z17.1)))))
def Kk (t0 : Jg) (t1 : Int) (t2 : Int) (t11 : Jg) (t12 : Int) (t13 : Int) : Option (((Jg × (Int × JN)) × Unit) ⊕ ((FI × Unit) ⊕ Cs)) :=
 (cond (decide (t13 < t12))
 (ob (Cc t11 t13) fun x3 =>
 (cond (decide (x3.2.1 ≥ t2))
 (some (.inr (.inr ((false, ()), ()))))
 (some (.inl ((t0, t1, t2, t11, t12, (wr .i64 (t13 + 1)), ()), ())))))
 (some (.inr (.inl ((t0, t1, ()), ())))))
def Xl := Cb fun x : ((Jg × (Int × JN)) × Unit) => Kk x.1.1 x.1.2.1 x.1.2.2.1 x.1.2.2.2.1 x.1.2.2.2.2.1 x.1.2.2.2.2.2.1
def Iq (a0 : Jg) (a1 : Int) (a2 : Int) : Option Uc :=
 (ob (Xl ((a0, a1, a2, a0, ((ln a0 : Nat) : Int), 0, ()), ())) (se (fun y4 => (ob (Dw y4.1.1 y4.1.2.1) fun r6 =>
 (some (r6.2.1, ())))) (fun z5 => (some (z5.1.1, ())))))
def Hq (a0 : Jg) (a1 : Int) : Option Uc :=
 (cond (((ln a0 : Nat) : Int) == 0)
 (some (true, ()))
 (ob (Cc a0 (wr .i64 (((ln a0 : Nat) : Int) - 1))) fun x1 =>
 (some ((decide (x1.1 ≤ a1)), ()))))
def Fq (a0 : Pd) : Option Uc :=
 (ob (Xh a0.1) fun r1 =>
 (cond (!r1.1)
 (some (false, ()))
 (ob (Es a0.2.1) fun r2 =>
 (cond (!r2.1)
 (some (false, ()))
 (cond (decide (a0.2.2.2.1 < 0))
 (some (false, ()))
 (cond (decide (a0.2.2.2.1 > 1000000))
 (some (false, ()))
 (cond (decide (a0.2.2.2.2.1 < 0))
 (some (false, ()))
 (cond (decide (a0.2.2.2.2.1 > a0.2.2.2.1))
 (some (false, ()))
 (ob (Is a0.1.2.2.2.1) fun r3 =>
 (ob (Iq a0.2.2.1 r3.1 a0.1.1.1) fun r4 =>
 (cond (!r4.1)
 (some (false, ()))
 (ob (Hq a0.2.2.1 a0.2.2.2.1) fun r5 =>
 (cond (!r5.1)
 (some (false, ()))
 (cond (decide (a0.2.2.2.2.2.1 ≥ 0))
 (cond (decide (a0.2.2.2.2.2.1 ≤ a0.1.1.1))
 (cond (decide (a0.2.2.2.2.2.2.1 ≥ 0))
 (some ((decide (a0.2.2.2.2.2.2.1 ≤ a0.2.2.2.1)), ()))
 (some (false, ())))
 (some (false, ())))
 (some (false, ()))))))))))))))))
def Bo (a0 : Bb) (a1 : Qb) : Option (Pd × Uc) :=
 (ob (Co a0) fun r1 =>
 (ob (Fq (r1.1, a1, [], 0, 0, 0, 0, ())) fun r2 =>
 (cond (!r2.1)
 (some (OA, false, ()))
 (some ((r1.1, a1, [], 0, 0, 0, 0, ()), true, ())))))
def Qs (a0 : Qb) (a1 : Qb) : Option Uc :=
 (cond (a0.1 != a1.1)
 (some (false, ()))
 (cond (a0.2.1 != a1.2.1)
 (some (false, ()))
 (cond (a0.2.2.1 != a1.2.2.1)
 (some (false, ()))
 (some (true, ())))))
def Ni (t0 : Jf) (t1 : Int) (t5 : Int) : Option (BI ⊕ (((Jf × Ad) × Unit) ⊕ Ah)) :=
 (cond (decide (t5 < ((ln t0 : Nat) : Int)))
 (cond (Je (ln t0) t5)
 (ob t0[(tn t5)]? fun x9 =>
 (cond (Je (ln (ls t0 (tn t5) (t1, x9.2))) t5)
 (ob (ls t0 (tn t5) (t1, x9.2))[(tn t5)]? fun x10 =>
 (cond (Je (ln (ls (ls t0 (tn t5) (t1, x9.2)) (tn t5) (x10.1, (wr .i64 (t1 + 1)), x10.2.2))) t5)
 (ob (ls (ls t0 (tn t5) (t1, x9.2)) (tn t5) (x10.1, (wr .i64 (t1 + 1)), x10.2.2))[(tn t5)]? fun x11 =>
 (cond (Je (ln (ls (ls (ls t0 (tn t5) (t1, x9.2)) (tn t5) (x10.1, (wr .i64 (t1 + 1)), x10.2.2)) (tn t5) (x11.1, x11.2.1, (wr .i64 ((wr .i64 (t1 + 1)) + 1)), x11.2.2.2))) t5)
 (ob (ls (ls (ls t0 (tn t5) (t1, x9.2)) (tn t5) (x10.1, (wr .i64 (t1 + 1)), x10.2.2)) (tn t5) (x11.1, x11.2.1, (wr .i64 ((wr .i64 (t1 + 1)) + 1)), x11.2.2.2))[(tn t5)]? fun x12 =>
 (some (.inl (((ls (ls (ls (ls t0 (tn t5) (t1, x9.2)) (tn t5) (x10.1, (wr .i64 (t1 + 1)), x10.2.2)) (tn t5) (x11.1, x11.2.1, (wr .i64 ((wr .i64 (t1 + 1)) + 1)), x11.2.2.2)) (tn t5) (x12.1, x12.2.1, x12.2.2.1, (wr .i64 ((wr .i64 ((wr .i64 (t1 + 1)) + 1)) + 1)), x12.2.2.2.2)), (wr .i64 ((wr .i64 ((wr .i64 ((wr .i64 (t1 + 1)) + 1)) + 1)) + 1)), (wr .i64 (t5 + 1)), ()), ()))))
 none))
 none))
 none))
 none)
 (some (.inr (.inl ((t0, t1, ()), ())))))
def Wq := Cb fun x : BI => Ni x.1.1 x.1.2.1 x.1.2.2.1
def Ft (a0 : Jf) (a1 : Int) : Option (Jf × Ad) :=
 (ob (Wq ((a0, a1, 0, ()), ())) (se (fun y13 => (some (y13.1.1, (y13.1.2.1, ())))) (fun z14 => none)))
def Vh (t0 : Eg) (t1 : Int) (t5 : Int) : Option ((Ds × Unit) ⊕ (((Eg × Ad) × Unit) ⊕ Ah)) :=
 (cond (decide (t5 < ((ln t0 : Nat) : Int)))
 (cond (Je (ln t0) t5)
 (ob t0[(tn t5)]? fun x5 =>
 (ob (Ft x5 t1) fun r6 =>
 (some (.inl (((ls t0 (tn t5) r6.1), r6.2.1, (wr .i64 (t5 + 1)), ()), ())))))
 none)
 (some (.inr (.inl ((t0, t1, ()), ())))))
def Qp := Cb fun x : (Ds × Unit) => Vh x.1.1 x.1.2.1 x.1.2.2.1
def Dr (a0 : Eg) (a1 : Int) : Option (Eg × Ad) :=
 (ob (Qp ((a0, a1, 0, ()), ())) (se (fun y7 => (some (y7.1.1, (y7.1.2.1, ())))) (fun z8 => none)))
def Mo (a0 : Ka) (a1 : Int) : Option (Ka × Ad) :=
 (ob (Dr a0.2.1 a1) fun r1 =>
 (some ((a0.1, r1.1, ()), (r1.2.1, ()))))
def So (t1 : Unit) (t2 : Unit) (t3 : Unit) (t4 : Int) (b1 : Ka) (b2 : Ka) (b3 : Ka) : Option ((ON × (Ka × Vn)) ⊕ ((EI × Vn) ⊕ Ah)) :=
 (cond (decide (t4 < ((ln b1.2.1 : Nat) : Int)))
 (ob (Cc b1.2.1 t4) fun x4 =>
 (cond (bl (ln ([] : List Ha) + ln x4) Id)
 (cond (bl (ln b3.2.1 + ln ([(ap [] x4)] : List Jf)) Id)
 (some (.inl (((), (), (), (wr .i64 (t4 + 1)), ()), (b1, b2, (b3.1, (ap b3.2.1 ([(ap [] x4)] : List Jf)), ()), ()))))
 none)
 none))
 (some (.inr (.inl (((), (), ()), (b2, b3, ()))))))
def Xp := Cb fun x : (ON × (Ka × Vn)) => So x.1.1 x.1.2.1 x.1.2.2.1 x.1.2.2.2.1 x.2.1 x.2.2.1 x.2.2.2.1
def Mw (a0 : Ka) : Option Wo :=
 (ob (Xp (((), (), (), 0, ()), (a0, (0, [], ()), (a0.1, [], ()), ()))) (se (fun y5 => (some (y5.2.2.1, ()))) (fun z6 => none)))
def Rn (t0 : Int) (t3 : Vb) (t12 : Cf) (t13 : Int) (t14 : Int) : Option (((Int × (Vb × Rx)) × Unit) ⊕ EX) :=
 (cond (decide (t14 < t13))
 (cond (Je (ln t12) t14)
 (ob t12[(tn t14)]? fun x5 =>
 (ob (Dt t0 t14) fun r6 =>
 (cond (r6.1 == 1)
 (cond (bl (ln t3 + ln x5) Id)
 (some (.inl ((t0, (ap t3 x5), t12, t13, (wr .i64 (t14 + 1)), ()), ())))
 none)
 (some (.inl ((t0, t3, t12, t13, (wr .i64 (t14 + 1)), ()), ()))))))
 none)
 (some (.inr (.inl ((t3, ()), ())))))
def Al := Cb fun x : ((Int × (Vb × Rx)) × Unit) => Rn x.1.1 x.1.2.1 x.1.2.2.1 x.1.2.2.2.1 x.1.2.2.2.2.1
def Kg (a0 : Int) : Option Cq :=
 (cond (decide (a0 < 1))
 (some ([], ()))
 (cond (decide (a0 > 15))
 (some ([], ()))
 (ob (Al ((a0, [], ([([67] : List UInt8), ([83] : List UInt8), ([65] : List UInt8), ([71] : List UInt8)] : List Vb), ((ln ([([67] : List UInt8), ([83] : List UInt8), ([65] : List UInt8), ([71] : List UInt8)] : List Vb) : Nat) : Int), 0, ()), ())) (se (fun y7 => (some (y7.1.1, ()))) (fun z8 => none)))))
def strings_Join (a : List Vb) (b : List UInt8) : Option (List UInt8 × Unit) := VN a b
def Dn (a0 : Cf) (a1 : Vb) : Option Cq :=
 (ob (strings_Join a0 a1) fun r1 =>
 (some (r1.1, ())))
def Oo (t0 : Fg) (t3 : Int) (t4 : Int) : Option (HE ⊕ Bu) :=
 (cond (decide (t4 < ((ln t0 : Nat) : Int)))
 (ob (Cc t0 t4) fun x15 =>
 (ob (Cc t0 t4) fun x16 =>
 (ob (Pc x16.1 0 31) fun r17 =>
 (cond (!r17.1)
 (some (.inr (.inr ((false, ()), ()))))
 (ob (Cc t0 t4) fun x18 =>
 (cond (decide (0 ≤ x18.1))
 (cond ((Gu .i64 (Iy .i64 t3 x18.1) 1) == 1)
 (some (.inr (.inr ((false, ()), ()))))
 (ob (Vf x15.2.1) fun r19 =>
 (cond (!r19.1)
 (some (.inr (.inr ((false, ()), ()))))
 (cond (x15.2.1.1 == 1)
 (some (.inr (.inr ((false, ()), ()))))
 (ob (Qq x15.2.1) fun r20 =>
 (cond r20.1
 (some (.inr (.inr ((false, ()), ()))))
 (ob (Cc t0 t4) fun x21 =>
 (cond (decide (0 ≤ x21.1))
 (some (.inl ((t0, (En .i64 t3 (Mh .i64 1 x21.1)), (wr .i64 (t4 + 1)), ()), ())))
 none))))))))
 none))))))
 (some (.inr (.inl ((), ())))))
def Wp := Cb fun x : HE => Oo x.1.1 x.1.2.1 x.1.2.2.1
def Kw (a0 : Fg) : Option Uc :=
 (ob (Wp ((a0, 0, 0, ()), ())) (se (fun y22 => (some (true, ()))) (fun z23 => (some (z23.1.1, ())))))
def To (t0 : Fg) (t3 : Unit) (t5 : Int) (b3 : Qb) : Option (((Fg × Au) × J4) ⊕ FE) :=
 (cond (decide (t5 < ((ln t0 : Nat) : Int)))
 (ob (Cc t0 t5) fun x5 =>
 (cond (x5.2.1.2.1 == b3.2.1)
 (ob (Cc t0 t5) fun x6 =>
 (cond (x6.2.1.2.2.1 == b3.2.2.1)
 (some (.inr (.inr ((t5, ()), ()))))
 (some (.inl ((t0, (), (wr .i64 (t5 + 1)), ()), (b3, ()))))))
 (some (.inl ((t0, (), (wr .i64 (t5 + 1)), ()), (b3, ()))))))
 (some (.inr (.inl ((), ())))))
def Yp := Cb fun x : ((Fg × Au) × J4) => To x.1.1 x.1.2.1 x.1.2.2.1 x.2.1
def Nw (a0 : Fg) (a1 : Qb) : Option Ad :=
 (ob (Yp ((a0, (), 0, ()), (a1, ()))) (se (fun y7 => (some ((-1), ()))) (fun z8 => (some (z8.1.1, ())))))
def Ws (a0 : Qb) : Option NA :=
 (some ((2, a0.2.1, a0.2.2.1, 0, ()), ()))
def Dm (a0 : Fg) (a1 : Int) : Option (Fg × Unit) :=
 (cond (Ae (ln a0) 0 a1)
 (cond (bl (ln ([] : List Ib) + ln (Ob a0 (tn 0) (tn a1))) Id)
 (cond (Ae (ln a0) (wr .i64 (a1 + 1)) ((ln a0 : Nat) : Int))
 (cond (bl (ln (ap [] (Ob a0 (tn 0) (tn a1))) + ln (Ob a0 (tn (wr .i64 (a1 + 1))) (tn ((ln a0 : Nat) : Int)))) Id)
 (some ((ap (ap [] (Ob a0 (tn 0) (tn a1))) (Ob a0 (tn (wr .i64 (a1 + 1))) (tn ((ln a0 : Nat) : Int)))), ()))
 none)
 none)
 none)
 none)
def Hj (t0 : Bf) (t3 : Fg) (t4 : Int) : Option (((Bf × (Fg × Ad)) × Unit) ⊕ (((Bf × (Fg × Unit)) × Unit) ⊕ Cs)) :=
 (cond (decide (t4 < ((ln t0 : Nat) : Int)))
 (ob (Cc t0 t4) fun x15 =>
 (ob (Nw t3 x15) fun r16 =>
 (ob (Pc x15.1 0 2) fun r17 =>
 (cond (!r17.1)
 (some (.inr (.inr ((false, ()), ()))))
 (ob (Ws x15) fun r18 =>
 (ob (Vf r18.1) fun r19 =>
 (cond (!r19.1)
 (some (.inr (.inr ((false, ()), ()))))
 (cond ((x15.1 == 2) != (decide (r16.1 ≥ 0)))
 (some (.inr (.inr ((false, ()), ()))))
 (cond (x15.1 == 1)
 (ob (Ws x15) fun r20 =>
 (cond (bl (ln t3 + ln ([(0, r20.1, ())] : List Ib)) Id)
 (some (.inl ((t0, (ap t3 ([(0, r20.1, ())] : List Ib)), (wr .i64 (t4 + 1)), ()), ())))
 none))
 (cond (x15.1 == 2)
 (ob (Dm t3 r16.1) fun r21 =>
 (some (.inl ((t0, r21.1, (wr .i64 (t4 + 1)), ()), ()))))
 (some (.inl ((t0, t3, (wr .i64 (t4 + 1)), ()), ())))))))))))))
 (some (.inr (.inl ((t0, t3, ()), ())))))
def Tn := Cb fun x : ((Bf × (Fg × Ad)) × Unit) => Hj x.1.1 x.1.2.1 x.1.2.2.1
def Cv (a0 : Bf) : Option Uc :=
 (ob (Tn ((a0, [], 0, ()), ())) (se (fun y22 => (cond (decide (((ln y22.1.1 : Nat) : Int) ≤ 8))
 (some ((((ln y22.1.2.1 : Nat) : Int) == 0), ()))
 (some (false, ())))) (fun z23 => (some (z23.1.1, ())))))
def Ql (t1 : Unit) (t3 : Int) (b1 : Bb) : Option ((Au × Dk) ⊕ ((Ah × Dk) ⊕ Cs)) :=
 (cond (decide (t3 < ((ln b1.2.1 : Nat) : Int)))
 (ob (Cc b1.2.1 t3) fun x7 =>
 (ob (Cv x7) fun r8 =>
 (cond (!r8.1)
 (some (.inr (.inr ((false, ()), ()))))
 (some (.inl (((), (wr .i64 (t3 + 1)), ()), (b1, ())))))))
 (some (.inr (.inl (((), ()), (b1, ()))))))
def Oi := Cb fun x : (Au × Dk) => Ql x.1.1 x.1.2.1 x.2.1
def Rl (t1 : Unit) (t4 : Int) (b1 : Bb) : Option ((Au × Dk) ⊕ ((Ah × Dk) ⊕ Cs)) :=
 (cond (decide (t4 < ((ln b1.2.2.2.1 : Nat) : Int)))
 (ob (Cc b1.2.2.2.1 t4) fun x17 =>
 (cond (decide (x17.1 ≥ b1.1.1))
 (some (.inr (.inr ((false, ()), ()))))
 (ob (Cc b1.2.2.2.1 t4) fun x18 =>
 (cond (x18.2.1.1 != 9)
 (ob (Cc b1.2.2.2.1 t4) fun x19 =>
 (cond (decide (x19.2.1.2.2.2.1 ≥ ((ln b1.1.2.1 : Nat) : Int)))
 (some (.inr (.inr ((false, ()), ()))))
 (some (.inl (((), (wr .i64 (t4 + 1)), ()), (b1, ()))))))
 (some (.inl (((), (wr .i64 (t4 + 1)), ()), (b1, ()))))))))
 (some (.inr (.inl (((), ()), (b1, ()))))))
def Pi := Cb fun x : (Au × Dk) => Rl x.1.1 x.1.2.1 x.2.1
def Yj (a0 : Bb) : Option Uc :=
 (ob (Hn a0.1) fun r1 =>
 (cond (!r1.1)
 (some (false, ()))
 (cond (decide (((ln a0.2.1 : Nat) : Int) > 4))
 (some (false, ()))
 (ob (Kw a0.2.2.2.1) fun r2 =>
 (cond (!r2.1)
 (some (false, ()))
 (ob (Oi (((), 0, ()), (a0, ()))) (se (fun y9 => (ob (Pi (((), 0, ()), (y9.2.1, ()))) (se (fun y20 => (cond (decide (0 ≤ ((ln y20.2.1.1.2.1 : Nat) : Int)))
 (ob (Pc y20.2.1.2.2.1 0 (wr .i64 ((Mh .i64 1 ((ln y20.2.1.1.2.1 : Nat) : Int)) - 1))) fun r22 =>
 (cond r22.1
 (cond ((2 : Int) == 0)
 none
 (cond ((Int.tmod y20.2.1.2.2.1 2) == 0)
 (ob (Pc y20.2.1.2.2.2.2.1 0 15) fun r23 =>
 (some (r23.1, ())))
 (some (false, ()))))
 (some (false, ()))))
 none)) (fun z21 => (some (z21.1.1, ())))))) (fun z10 => (some (z10.1.1, ()))))))))))
def Uo (t1 : Unit) (t2 : Unit) (t3 : Unit) (t4 : Int) (b1 : Bb) (b2 : Bb) (b3 : Bb) : Option ((ON × (Bb × FV)) ⊕ ((F9 × (Bb × FV)) ⊕ Ah)) :=
 (cond (decide (t4 < ((ln b1.2.1 : Nat) : Int)))
 (ob (Cc b1.2.1 t4) fun x4 =>
 (cond (bl (ln ([] : List Qb) + ln x4) Id)
 (cond (bl (ln b3.2.1 + ln ([(ap [] x4)] : List Bf)) Id)
 (some (.inl (((), (), (), (wr .i64 (t4 + 1)), ()), (b1, b2, (b3.1, (ap b3.2.1 ([(ap [] x4)] : List Bf)), b3.2.2), ()))))
 none)
 none))
 (some (.inr (.inl (((), (), (), ()), (b1, b2, b3, ()))))))
def Zp := Cb fun x : (ON × (Bb × FV)) => Uo x.1.1 x.1.2.1 x.1.2.2.1 x.1.2.2.2.1 x.2.1 x.2.2.1 x.2.2.2.1
def Zr (a0 : Bb) : Option Dk :=
 (ob (Mw a0.1) fun r1 =>
 (ob (Zp (((), (), (), 0, ()), (a0, KC, (r1.1, [], a0.2.2), ()))) (se (fun y5 => (cond (bl (ln ([] : List Ib) + ln y5.2.1.2.2.2.1) Id)
 (some ((y5.2.2.2.1.1, y5.2.2.2.1.2.1, y5.2.2.2.1.2.2.1, (ap [] y5.2.1.2.2.2.1), y5.2.2.2.1.2.2.2.2), ()))
 none)) (fun z6 => none))))
def Rq (a0 : Ka) (a1 : Nf) : Option (Bb × Uc) :=
 (ob (Yj (a0, a1, 0, [], 0, false, ())) fun r1 =>
 (cond (!r1.1)
 (some (KC, false, ()))
 (ob (Zr (a0, a1, 0, [], 0, false, ())) fun r2 =>
 (some (r2.1, true, ())))))
def Mi (t0 : Jf) (t1 : Int) (t5 : Int) : Option (BI ⊕ Uy) :=
 (cond (decide (t5 < ((ln t0 : Nat) : Int)))
 (ob (Cc t0 t5) fun x9 =>
 (cond (x9.1 != t1)
 (some (.inr (.inr (((-1), ()), ()))))
 (ob (Cc t0 t5) fun x10 =>
 (cond (x10.2.1 != (wr .i64 (t1 + 1)))
 (some (.inr (.inr (((-1), ()), ()))))
 (ob (Cc t0 t5) fun x11 =>
 (cond (x11.2.2.1 != (wr .i64 ((wr .i64 (t1 + 1)) + 1)))
 (some (.inr (.inr (((-1), ()), ()))))
 (ob (Cc t0 t5) fun x12 =>
 (cond (x12.2.2.2.1 != (wr .i64 ((wr .i64 ((wr .i64 (t1 + 1)) + 1)) + 1)))
 (some (.inr (.inr (((-1), ()), ()))))
 (some (.inl ((t0, (wr .i64 ((wr .i64 ((wr .i64 ((wr .i64 (t1 + 1)) + 1)) + 1)) + 1)), (wr .i64 (t5 + 1)), ()), ())))))))))))
 (some (.inr (.inl ((t1, ()), ())))))
def Vq := Cb fun x : BI => Mi x.1.1 x.1.2.1 x.1.2.2.1
def Et (a0 : Jf) (a1 : Int) : Option Ad :=
 (ob (Vq ((a0, a1, 0, ()), ())) (se (fun y13 => (some (y13.1.1, ()))) (fun z14 => (some (z14.1.1, ())))))
def Uh (t0 : Eg) (t1 : Int) (t5 : Int) : Option ((Ds × Unit) ⊕ Uy) :=
 (cond (decide (t5 < ((ln t0 : Nat) : Int)))
 (ob (Cc t0 t5) fun x5 =>
 (ob (Et x5 t1) fun r6 =>
 (cond (decide (r6.1 < 0))
 (some (.inr (.inr (((-1), ()), ()))))
 (some (.inl ((t0, r6.1, (wr .i64 (t5 + 1)), ()), ()))))))
 (some (.inr (.inl ((t1, ()), ())))))
def Pp := Cb fun x : (Ds × Unit) => Uh x.1.1 x.1.2.1 x.1.2.2.1
def Cr (a0 : Eg) (a1 : Int) : Option Ad :=
 (ob (Pp ((a0, a1, 0, ()), ())) (se (fun y7 => (some (y7.1.1, ()))) (fun z8 => (some (z8.1.1, ())))))
def Ko (a0 : Ka) (a1 : Int) : Option Ad :=
 (ob (Cr a0.2.1 a1) fun r1 =>
 (cond (decide (r1.1 < 0))
 (some ((-1), ()))
 (some (r1.1, ()))))
def Bv (a0 : Lb) : Option Uc :=
 (ob (Pc a0.1 0 1000000) fun r1 =>
 (cond r1.1
 (ob (Pc a0.2.1 0 31) fun r2 =>
 (some (r2.1, ())))
 (some (false, ()))))
def Pj (t0 : Jg) (t1 : Int) (t2 : Int) (t3 : Int) (t9 : Int) : Option (((Jg × Ha) × Unit) ⊕ ((Laf × Unit) ⊕ Cs)) :=
 (cond (decide (t9 < ((ln t0 : Nat) : Int)))
 (ob (Cc t0 t9) fun x17 =>
 (ob (Bv x17) fun r18 =>
 (cond (!r18.1)
 (some (.inr (.inr ((false, ()), ()))))
 (ob (Cc t0 t9) fun x19 =>
 (cond (decide (x19.2.1 ≥ t2))
 (some (.inr (.inr ((false, ()), ()))))
 (ob (Cc t0 t9) fun x20 =>
 (cond (decide (x20.1 < t3))
 (some (.inr (.inr ((false, ()), ()))))
 (ob (Cc t0 t9) fun x21 =>
 (ob (Cc t0 t9) fun x22 =>
 (cond (decide (0 ≤ x22.2.1))
 (cond (x21.2.2.1 == ((Gu .i64 (Iy .i64 t1 x22.2.1) 1) == 1))
 (some (.inr (.inr ((false, ()), ()))))
 (ob (Cc t0 t9) fun x23 =>
 (ob (Cc t0 t9) fun x24 =>
 (cond (decide (0 ≤ x24.2.1))
 (some (.inl ((t0, (CB .i64 t1 (Mh .i64 1 x24.2.1)), t2, x23.1, (wr .i64 (t9 + 1)), ()), ())))
 none))))
 none))))))))))
 (some (.inr (.inl ((t0, ()), ())))))
def Jl := Cb fun x : ((Jg × Ha) × Unit) => Pj x.1.1 x.1.2.1 x.1.2.2.1 x.1.2.2.2.1 x.1.2.2.2.2.1
def Ro (a0 : Jg) (a1 : Int) (a2 : Int) (a3 : Int) : Option Uc :=
 (ob (Jl ((a0, a1, a2, a3, 0, ()), ())) (se (fun y25 => (some ((decide (((ln y25.1.1 : Nat) : Int) ≤ 64)), ()))) (fun z26 => (some (z26.1.1, ())))))
def Us (a0 : Qb) : Option Uc :=
 (ob (Pc a0.1 1 1000) fun r1 =>
 (cond r1.1
 (ob (Pc a0.2.1 0 1000) fun r2 =>
 (cond r2.1
 (ob (Pc a0.2.2.1 0 2) fun r3 =>
 (some (r3.1, ())))
 (some (false, ()))))
 (some (false, ()))))
def Qz (a0 : Int) : Option Ad :=
 (ob (Pc a0 0 31) fun r1 =>
 (cond (!r1.1)
 (some (0, ()))
 (cond (decide (0 ≤ a0))
 (some ((Mh .i64 1 a0), ()))
 none)))
def Zm (t1 : Unit) (t3 : Int) (t4 : Int) (b1 : Bb) : Option ((IN × Dk) ⊕ H4) :=
 (cond (decide (t4 < ((ln b1.2.2.2.1 : Nat) : Int)))
 (ob (Cc b1.2.2.2.1 t4) fun x5 =>
 (ob (Qz x5.1) fun r6 =>
 (some (.inl (((), (En .i64 t3 r6.1), (wr .i64 (t4 + 1)), ()), (b1, ()))))))
 (some (.inr (.inl ((t3, ()), ())))))
def Un := Cb fun x : (IN × Dk) => Zm x.1.1 x.1.2.1 x.1.2.2.1 x.2.1
def Dv (a0 : Bb) : Option Ad :=
 (ob (Un (((), 0, 0, ()), (a0, ()))) (se (fun y7 => (some (y7.1.1, ()))) (fun z8 => none)))
def Pq (a0 : Pd) : Option Uc :=
 (ob (Yj a0.1) fun r1 =>
 (cond (!r1.1)
 (some (false, ()))
 (ob (Us a0.2.1) fun r2 =>
 (cond (!r2.1)
 (some (false, ()))
 (ob (Pc a0.2.2.2.1 0 1000000) fun r3 =>
 (cond (!r3.1)
 (some (false, ()))
 (ob (Pc a0.2.2.2.2.1 0 a0.2.2.2.1) fun r4 =>
 (cond (!r4.1)
 (some (false, ()))
 (ob (Dv a0.1) fun r5 =>
 (ob (Ro a0.2.2.1 r5.1 a0.1.1.1 0) fun r6 =>
 (cond (!r6.1)
 (some (false, ()))
 (cond (decide (((ln a0.2.2.1 : Nat) : Int) > 0))
 (ob (Cc a0.2.2.1 (wr .i64 (((ln a0.2.2.1 : Nat) : Int) - 1))) fun x7 =>
 (cond (decide (x7.1 > a0.2.2.2.1))
 (some (false, ()))
 (ob (Pc a0.2.2.2.2.2.1 0 a0.1.1.1) fun r8 =>
 (cond r8.1
 (ob (Pc a0.2.2.2.2.2.2.1 0 a0.2.2.2.1) fun r9 =>
 (some (r9.1, ())))
 (some (false, ()))))))
 (ob (Pc a0.2.2.2.2.2.1 0 a0.1.1.1) fun r10 =>
 (cond r10.1
 (ob (Pc a0.2.2.2.2.2.2.1 0 a0.2.2.2.1) fun r11 =>
 (some (r11.1, ())))
 (some (false, ()))))))))))))))))
def Po (a0 : Bb) (a1 : Qb) : Option (Pd × Uc) :=
 (ob (Pq (a0, a1, [], 0, 0, 0, 0, ())) fun r1 =>
 (cond (!r1.1)
 (some (OA, false, ()))
 (ob (Zr a0) fun r2 =>
 (some ((r2.1, a1, [], 0, 0, 0, 0, ()), true, ())))))
def Lp (a0 : Lb) (a1 : Lb) : Option Uc :=
 (cond (a0.1 != a1.1)
 (some (false, ()))
 (cond (a0.2.1 != a1.2.1)
 (some (false, ()))
 (cond (a0.2.2.1 != a1.2.2.1)
 (some (false, ()))
 (some (true, ())))))
def IF (t0 : Jg) (t1 : Jg) (t5 : Int) : Option (((Jg × FI) × Unit) ⊕ Bu) :=
 (cond (decide (t5 < ((ln t0 : Nat) : Int)))
 (ob (Cc t0 t5) fun x7 =>
 (ob (Cc t1 t5) fun x8 =>
 (ob (Lp x7 x8) fun r9 =>
 (cond (!r9.1)
 (some (.inr (.inr ((false, ()), ()))))
 (some (.inl ((t0, t1, (wr .i64 (t5 + 1)), ()), ())))))))
 (some (.inr (.inl ((), ())))))
def Lu := Cb fun x : ((Jg × FI) × Unit) => IF x.1.1 x.1.2.1 x.1.2.2.1
def Ks (a0 : Jg) (a1 : Jg) : Option Uc :=
 (cond (((ln a0 : Nat) : Int) != ((ln a1 : Nat) : Int))
 (some (false, ()))
 (ob (Lu ((a0, a1, 0, ()), ())) (se (fun y10 => (some (true, ()))) (fun z11 => (some (z11.1.1, ()))))))
def Mj (t0 : Jg) (t1 : Int) (t5 : Int) : Option (AI ⊕ ((FI × Unit) ⊕ Ah)) :=
 (cond (decide (t5 < ((ln t0 : Nat) : Int)))
 (cond (Je (ln t0) t5)
 (ob t0[(tn t5)]? fun x7 =>
 (cond (Je (ln (ls t0 (tn t5) (t1, x7.2))) t5)
 (ob (ls t0 (tn t5) (t1, x7.2))[(tn t5)]? fun x8 =>
 (cond ((3 : Int) == 0)
 none
 (cond (Je (ln (ls (ls t0 (tn t5) (t1, x7.2)) (tn t5) (x8.1, (wr .i64 (t1 + 1)), x8.2.2))) t5)
 (ob (ls (ls t0 (tn t5) (t1, x7.2)) (tn t5) (x8.1, (wr .i64 (t1 + 1)), x8.2.2))[(tn t5)]? fun x9 =>
 (some (.inl (((ls (ls (ls t0 (tn t5) (t1, x7.2)) (tn t5) (x8.1, (wr .i64 (t1 + 1)), x8.2.2)) (tn t5) (x9.1, x9.2.1, ((Int.tmod (wr .i64 ((wr .i64 (t1 + 1)) + 1)) 3) == 0), x9.2.2.2)), (wr .i64 ((wr .i64 ((wr .i64 (t1 + 1)) + 1)) + 1)), (wr .i64 (t5 + 1)), ()), ()))))
 none)))
 none))
 none)
 (some (.inr (.inl ((t0, t1, ()), ())))))
def Vr := Cb fun x : AI => Mj x.1.1 x.1.2.1 x.1.2.2.1
def Su (a0 : Jg) (a1 : Int) : Option FI :=
 (ob (Vr ((a0, a1, 0, ()), ())) (se (fun y10 => (some (y10.1.1, (y10.1.2.1, ())))) (fun z11 => none)))
def Kj (t0 : Jg) (t1 : Int) (t5 : Int) : Option (AI ⊕ Uy) :=
 (cond (decide (t5 < ((ln t0 : Nat) : Int)))
 (ob (Cc t0 t5) fun x7 =>
 (cond (x7.1 != t1)
 (some (.inr (.inr (((-1), ()), ()))))
 (ob (Cc t0 t5) fun x8 =>
 (cond (x8.2.1 != (wr .i64 (t1 + 1)))
 (some (.inr (.inr (((-1), ()), ()))))
 (ob (Cc t0 t5) fun x9 =>
 (cond ((3 : Int) == 0)
 none
 (cond (x9.2.2.1 != ((Int.tmod (wr .i64 ((wr .i64 (t1 + 1)) + 1)) 3) == 0))
 (some (.inr (.inr (((-1), ()), ()))))
 (some (.inl ((t0, (wr .i64 ((wr .i64 ((wr .i64 (t1 + 1)) + 1)) + 1)), (wr .i64 (t5 + 1)), ()), ()))))))))))
 (some (.inr (.inl ((t1, ()), ())))))
def Tr := Cb fun x : AI => Kj x.1.1 x.1.2.1 x.1.2.2.1
def Pu (a0 : Jg) (a1 : Int) : Option Ad :=
 (ob (Tr ((a0, a1, 0, ()), ())) (se (fun y10 => (some (y10.1.1, ()))) (fun z11 => (some (z11.1.1, ())))))
def strconv_Itoa (a : Int) : Option (List UInt8 × Unit) := UE a
def Bh (a0 : Int) : Option Cq :=
 (ob (strconv_Itoa a0) fun r1 =>
 (some (r1.1, ())))
def Sr (a0 : Qb) (a1 : Qb) : Option Uc :=
 (cond (a0.1 != a1.1)
 (some (false, ()))
 (cond (a0.2.1 != a1.2.1)
 (some (false, ()))
 (cond (a0.2.2.1 != a1.2.2.1)
 (some (false, ()))
 (some (true, ())))))
def ZG (t0 : Bf) (t1 : Bf) (t5 : Int) : Option (((Bf × (Bf × Ad)) × Unit) ⊕ Bu) :=
 (cond (decide (t5 < ((ln t0 : Nat) : Int)))
 (ob (Cc t0 t5) fun x7 =>
 (ob (Cc t1 t5) fun x8 =>
 (ob (Sr x7 x8) fun r9 =>
 (cond (!r9.1)
 (some (.inr (.inr ((false, ()), ()))))
 (some (.inl ((t0, t1, (wr .i64 (t5 + 1)), ()), ())))))))
 (some (.inr (.inl ((), ())))))
def Iv := Cb fun x : ((Bf × (Bf × Ad)) × Unit) => ZG x.1.1 x.1.2.1 x.1.2.2.1
def Np (a0 : Bf) (a1 : Bf) : Option Uc :=
 (cond (((ln a0 : Nat) : Int) != ((ln a1 : Nat) : Int))
 (some (false, ()))
 (ob (Iv ((a0, a1, 0, ()), ())) (se (fun y10 => (some (true, ()))) (fun z11 => (some (z11.1.1, ()))))))
def JF (t0 : Nf) (t1 : Nf) (t5 : Int) : Option (((Nf × (Nf × Ad)) × Unit) ⊕ Bu) :=
 (cond (decide (t5 < ((ln t0 : Nat) : Int)))
 (ob (Cc t0 t5) fun x7 =>
 (ob (Cc t1 t5) fun x8 =>
 (ob (Np x7 x8) fun r9 =>
 (cond (!r9.1)
 (some (.inr (.inr ((false, ()), ()))))
 (some (.inl ((t0, t1, (wr .i64 (t5 + 1)), ()), ())))))))
 (some (.inr (.inl ((), ())))))
def Ou := Cb fun x : ((Nf × (Nf × Ad)) × Unit) => JF x.1.1 x.1.2.1 x.1.2.2.1
def Ps (a0 : Nf) (a1 : Nf) : Option Uc :=
 (cond (((ln a0 : Nat) : Int) != ((ln a1 : Nat) : Int))
 (some (false, ()))
 (ob (Ou ((a0, a1, 0, ()), ())) (se (fun y10 => (some (true, ()))) (fun z11 => (some (z11.1.1, ()))))))
def Qr (a0 : Ib) (a1 : Ib) : Option Uc :=
 (cond (a0.1 != a1.1)
 (some (false, ()))
 (ob (Wj a0.2.1 a1.2.1) fun r1 =>
 (cond (!r1.1)
 (some (false, ()))
 (some (true, ())))))
def XG (t0 : Fg) (t1 : Fg) (t5 : Int) : Option (M4 ⊕ Bu) :=
 (cond (decide (t5 < ((ln t0 : Nat) : Int)))
 (ob (Cc t0 t5) fun x7 =>
 (ob (Cc t1 t5) fun x8 =>
 (ob (Qr x7 x8) fun r9 =>
 (cond (!r9.1)
 (some (.inr (.inr ((false, ()), ()))))
 (some (.inl ((t0, t1, (wr .i64 (t5 + 1)), ()), ())))))))
 (some (.inr (.inl ((), ())))))
def Gv := Cb fun x : M4 => XG x.1.1 x.1.2.1 x.1.2.2.1
def Mu (a0 : Fg) (a1 : Fg) : Option Uc :=
 (cond (((ln a0 : Nat) : Int) != ((ln a1 : Nat) : Int))
 (some (false, ()))
 (ob (Gv ((a0, a1, 0, ()), ())) (se (fun y10 => (some (true, ()))) (fun z11 => (some (z11.1.1, ()))))))
def Js (a0 : Bb) (a1 : Bb) : Option Uc :=
 (ob (Ms a0.1 a1.1) fun r1 =>
 (cond (!r1.1)
 (some (false, ()))
 (ob (Ps a0.2.1 a1.2.1) fun r2 =>
 (cond (!r2.1)
 (some (false, ()))
 (cond (a0.2.2.1 != a1.2.2.1)
 (some (false, ()))
 (ob (Mu a0.2.2.2.1 a1.2.2.2.1) fun r3 =>
 (cond (!r3.1)
 (some (false, ()))
 (cond (a0.2.2.2.2.1 != a1.2.2.2.2.1)
 (some (false, ()))
 (cond (a0.2.2.2.2.2.1 != a1.2.2.2.2.2.1)
 (some (false, ()))
 (some (true, ())))))))))))
def Jq (a0 : Pd) (a1 : Pd) : Option Uc :=
 (ob (Js a0.1 a1.1) fun r1 =>
 (cond (!r1.1)
 (some (false, ()))
 (ob (Qs a0.2.1 a1.2.1) fun r2 =>
 (cond (!r2.1)
 (some (false, ()))
 (ob (Ks a0.2.2.1 a1.2.2.1) fun r3 =>
 (cond (!r3.1)
 (some (false, ()))
 (cond (a0.2.2.2.1 != a1.2.2.2.1)
 (some (false, ()))
 (cond (a0.2.2.2.2.1 != a1.2.2.2.2.1)
 (some (false, ()))
 (cond (a0.2.2.2.2.2.1 != a1.2.2.2.2.2.1)
 (some (false, ()))
 (cond (a0.2.2.2.2.2.2.1 != a1.2.2.2.2.2.2.1)
 (some (false, ()))
 (some (true, ()))))))))))))
def Am (a0 : Zg) (a1 : Zg) : Option Uc :=
 (ob (Jq a0.1 a1.1) fun r1 =>
 (cond (!r1.1)
 (some (false, ()))
 (ob (Nu a0.2.1 a1.2.1) fun r2 =>
 (cond (!r2.1)
 (some (false, ()))
 (some (true, ()))))))
def Rk (t0 : Bf) (t1 : Int) (t5 : Int) : Option ((GE × Unit) ⊕ (((Bf × Ad) × Unit) ⊕ Ah)) :=
 (cond (decide (t5 < ((ln t0 : Nat) : Int)))
 (cond (Je (ln t0) t5)
 (ob t0[(tn t5)]? fun x7 =>
 (cond (Je (ln (ls t0 (tn t5) (t1, x7.2))) t5)
 (ob (ls t0 (tn t5) (t1, x7.2))[(tn t5)]? fun x8 =>
 (cond (Je (ln (ls (ls t0 (tn t5) (t1, x7.2)) (tn t5) (x8.1, (wr .i64 (t1 + 1)), x8.2.2))) t5)
 (ob (ls (ls t0 (tn t5) (t1, x7.2)) (tn t5) (x8.1, (wr .i64 (t1 + 1)), x8.2.2))[(tn t5)]? fun x9 =>
 (some (.inl (((ls (ls (ls t0 (tn t5) (t1, x7.2)) (tn t5) (x8.1, (wr .i64 (t1 + 1)), x8.2.2)) (tn t5) (x9.1, x9.2.1, (wr .i64 ((wr .i64 (t1 + 1)) + 1)), x9.2.2.2)), (wr .i64 ((wr .i64 ((wr .i64 (t1 + 1)) + 1)) + 1)), (wr .i64 (t5 + 1)), ()), ()))))
 none))
 none))
 none)
 (some (.inr (.inl ((t0, t1, ()), ())))))
def Xt := Cb fun x : (GE × Unit) => Rk x.1.1 x.1.2.1 x.1.2.2.1
def Tv (a0 : Bf) (a1 : Int) : Option (Bf × Ad) :=
 (ob (Xt ((a0, a1, 0, ()), ())) (se (fun y10 => (some (y10.1.1, (y10.1.2.1, ())))) (fun z11 => none)))
def Nj (t0 : Nf) (t1 : Int) (t5 : Int) : Option ((Vy × Unit) ⊕ (((Nf × Ad) × Unit) ⊕ Ah)) :=
 (cond (decide (t5 < ((ln t0 : Nat) : Int)))
 (cond (Je (ln t0) t5)
 (ob t0[(tn t5)]? fun x5 =>
 (ob (Tv x5 t1) fun r6 =>
 (some (.inl (((ls t0 (tn t5) r6.1), r6.2.1, (wr .i64 (t5 + 1)), ()), ())))))
 none)
 (some (.inr (.inl ((t0, t1, ()), ())))))
def Wr := Cb fun x : (Vy × Unit) => Nj x.1.1 x.1.2.1 x.1.2.2.1
def Uu (a0 : Nf) (a1 : Int) : Option (Nf × Ad) :=
 (ob (Wr ((a0, a1, 0, ()), ())) (se (fun y7 => (some (y7.1.1, (y7.1.2.1, ())))) (fun z8 => none)))
def Pk (t0 : Fg) (t1 : Int) (t5 : Int) : Option (HE ⊕ (((Fg × Ad) × Unit) ⊕ Ah)) :=
 (cond (decide (t5 < ((ln t0 : Nat) : Int)))
 (cond (Je (ln t0) t5)
 (ob t0[(tn t5)]? fun x11 =>
 (cond (Je (ln (ls t0 (tn t5) (t1, x11.2))) t5)
 (ob (ls t0 (tn t5) (t1, x11.2))[(tn t5)]? fun x12 =>
 (cond (Je (ln (ls (ls t0 (tn t5) (t1, x11.2)) (tn t5) (x12.1, ((wr .i64 (t1 + 1)), x12.2.1.2), x12.2.2))) t5)
 (ob (ls (ls t0 (tn t5) (t1, x11.2)) (tn t5) (x12.1, ((wr .i64 (t1 + 1)), x12.2.1.2), x12.2.2))[(tn t5)]? fun x13 =>
 (cond (Je (ln (ls (ls (ls t0 (tn t5) (t1, x11.2)) (tn t5) (x12.1, ((wr .i64 (t1 + 1)), x12.2.1.2), x12.2.2)) (tn t5) (x13.1, (x13.2.1.1, (wr .i64 ((wr .i64 (t1 + 1)) + 1)), x13.2.1.2.2), x13.2.2))) t5)
 (ob (ls (ls (ls t0 (tn t5) (t1, x11.2)) (tn t5) (x12.1, ((wr .i64 (t1 + 1)), x12.2.1.2), x12.2.2)) (tn t5) (x13.1, (x13.2.1.1, (wr .i64 ((wr .i64 (t1 + 1)) + 1)), x13.2.1.2.2), x13.2.2))[(tn t5)]? fun x14 =>
 (cond (Je (ln (ls (ls (ls (ls t0 (tn t5) (t1, x11.2)) (tn t5) (x12.1, ((wr .i64 (t1 + 1)), x12.2.1.2), x12.2.2)) (tn t5) (x13.1, (x13.2.1.1, (wr .i64 ((wr .i64 (t1 + 1)) + 1)), x13.2.1.2.2), x13.2.2)) (tn t5) (x14.1, (x14.2.1.1, x14.2.1.2.1, (wr .i64 ((wr .i64 ((wr .i64 (t1 + 1)) + 1)) + 1)), x14.2.1.2.2.2), x14.2.2))) t5)
 (ob (ls (ls (ls (ls t0 (tn t5) (t1, x11.2)) (tn t5) (x12.1, ((wr .i64 (t1 + 1)), x12.2.1.2), x12.2.2)) (tn t5) (x13.1, (x13.2.1.1, (wr .i64 ((wr .i64 (t1 + 1)) + 1)), x13.2.1.2.2), x13.2.2)) (tn t5) (x14.1, (x14.2.1.1, x14.2.1.2.1, (wr .i64 ((wr .i64 ((wr .i64 (t1 + 1)) + 1)) + 1)), x14.2.1.2.2.2), x14.2.2))[(tn t5)]? fun x15 =>
 (some (.inl (((ls (ls (ls (ls (ls t0 (tn t5) (t1, x11.2)) (tn t5) (x12.1, ((wr .i64 (t1 + 1)), x12.2.1.2), x12.2.2)) (tn t5) (x13.1, (x13.2.1.1, (wr .i64 ((wr .i64 (t1 + 1)) + 1)), x13.2.1.2.2), x13.2.2)) (tn t5) (x14.1, (x14.2.1.1, x14.2.1.2.1, (wr .i64 ((wr .i64 ((wr .i64 (t1 + 1)) + 1)) + 1)), x14.2.1.2.2.2), x14.2.2)) (tn t5) (x15.1, (x15.2.1.1, x15.2.1.2.1, x15.2.1.2.2.1, (wr .i64 ((wr .i64 ((wr .i64 ((wr .i64 (t1 + 1)) + 1)) + 1)) + 1)), x15.2.1.2.2.2.2), x15.2.2)), (wr .i64 ((wr .i64 ((wr .i64 ((wr .i64 ((wr .i64 (t1 + 1)) + 1)) + 1)) + 1)) + 1)), (wr .i64 (t5 + 1)), ()), ()))))
 none))
 none))
 none))
 none))
 none)
 (some (.inr (.inl ((t0, t1, ()), ())))))
def Vt := Cb fun x : HE => Pk x.1.1 x.1.2.1 x.1.2.2.1
def Rv (a0 : Fg) (a1 : Int) : Option (Fg × Ad) :=
 (ob (Vt ((a0, a1, 0, ()), ())) (se (fun y16 => (some (y16.1.1, (y16.1.2.1, ())))) (fun z17 => none)))
def Lo (a0 : Bb) (a1 : Int) : Option (Bb × Ad) :=
 (ob (Mo a0.1 a1) fun r1 =>
 (ob (Uu a0.2.1 r1.2.1) fun r2 =>
 (ob (Rv a0.2.2.2.1 r2.2.1) fun r3 =>
 (some (((a0.1.1, r1.1.2.1, ()), r2.1, a0.2.2.1, r3.1, a0.2.2.2.2), (r3.2.1, ()))))))
def Tm (a0 : Pd) (a1 : Int) : Option (Pd × Ad) :=
 (ob (Lo a0.1 a1) fun r1 =>
 (ob (Su a0.2.2.1 r1.2.1) fun r2 =>
 (some ((((a0.1.1.1, r1.1.1.2.1, ()), r1.1.2.1, a0.1.2.2.1, r1.1.2.2.2.1, a0.1.2.2.2.2), a0.2.1, r2.1, a0.2.2.2), (r2.2.1, ())))))
def Ok (t0 : Bf) (t1 : Int) (t5 : Int) : Option ((GE × Unit) ⊕ Uy) :=
 (cond (decide (t5 < ((ln t0 : Nat) : Int)))
 (ob (Cc t0 t5) fun x7 =>
 (cond (x7.1 != t1)
 (some (.inr (.inr (((-1), ()), ()))))
 (ob (Cc t0 t5) fun x8 =>
 (cond (x8.2.1 != (wr .i64 (t1 + 1)))
 (some (.inr (.inr (((-1), ()), ()))))
 (ob (Cc t0 t5) fun x9 =>
 (cond (x9.2.2.1 != (wr .i64 ((wr .i64 (t1 + 1)) + 1)))
 (some (.inr (.inr (((-1), ()), ()))))
 (some (.inl ((t0, (wr .i64 ((wr .i64 ((wr .i64 (t1 + 1)) + 1)) + 1)), (wr .i64 (t5 + 1)), ()), ())))))))))
 (some (.inr (.inl ((t1, ()), ())))))
def Ut := Cb fun x : (GE × Unit) => Ok x.1.1 x.1.2.1 x.1.2.2.1
def Qv (a0 : Bf) (a1 : Int) : Option Ad :=
 (ob (Ut ((a0, a1, 0, ()), ())) (se (fun y10 => (some (y10.1.1, ()))) (fun z11 => (some (z11.1.1, ())))))
def Lj (t0 : Nf) (t1 : Int) (t5 : Int) : Option ((Vy × Unit) ⊕ Uy) :=
 (cond (decide (t5 < ((ln t0 : Nat) : Int)))
 (ob (Cc t0 t5) fun x5 =>
 (ob (Qv x5 t1) fun r6 =>
 (cond (decide (r6.1 < 0))
 (some (.inr (.inr (((-1), ()), ()))))
 (some (.inl ((t0, r6.1, (wr .i64 (t5 + 1)), ()), ()))))))
 (some (.inr (.inl ((t1, ()), ())))))
def Ur := Cb fun x : (Vy × Unit) => Lj x.1.1 x.1.2.1 x.1.2.2.1
def Ru (a0 : Nf) (a1 : Int) : Option Ad :=
 (ob (Ur ((a0, a1, 0, ()), ())) (se (fun y7 => (some (y7.1.1, ()))) (fun z8 => (some (z8.1.1, ())))))
def Mk (t0 : Fg) (t1 : Int) (t5 : Int) : Option (HE ⊕ Uy) :=
 (cond (decide (t5 < ((ln t0 : Nat) : Int)))
 (ob (Cc t0 t5) fun x11 =>
 (cond (x11.1 != t1)
 (some (.inr (.inr (((-1), ()), ()))))
 (ob (Cc t0 t5) fun x12 =>
 (cond (x12.2.1.1 != (wr .i64 (t1 + 1)))
 (some (.inr (.inr (((-1), ()), ()))))
 (ob (Cc t0 t5) fun x13 =>
 (cond (x13.2.1.2.1 != (wr .i64 ((wr .i64 (t1 + 1)) + 1)))
 (some (.inr (.inr (((-1), ()), ()))))
 (ob (Cc t0 t5) fun x14 =>
 (cond (x14.2.1.2.2.1 != (wr .i64 ((wr .i64 ((wr .i64 (t1 + 1)) + 1)) + 1)))
 (some (.inr (.inr (((-1), ()), ()))))
 (ob (Cc t0 t5) fun x15 =>
 (cond (x15.2.1.2.2.2.1 != (wr .i64 ((wr .i64 ((wr .i64 ((wr .i64 (t1 + 1)) + 1)) + 1)) + 1)))
 (some (.inr (.inr (((-1), ()), ()))))
 (some (.inl ((t0, (wr .i64 ((wr .i64 ((wr .i64 ((wr .i64 ((wr .i64 (t1 + 1)) + 1)) + 1)) + 1)) + 1)), (wr .i64 (t5 + 1)), ()), ())))))))))))))
 (some (.inr (.inl ((t1, ()), ())))))
def Rt := Cb fun x : HE => Mk x.1.1 x.1.2.1 x.1.2.2.1
def Ov (a0 : Fg) (a1 : Int) : Option Ad :=
 (ob (Rt ((a0, a1, 0, ()), ())) (se (fun y16 => (some (y16.1.1, ()))) (fun z17 => (some (z17.1.1, ())))))
def Jo (a0 : Bb) (a1 : Int) : Option Ad :=
 (ob (Ko a0.1 a1) fun r1 =>
 (cond (decide (r1.1 < 0))
 (some ((-1), ()))
 (ob (Ru a0.2.1 r1.1) fun r2 =>
 (cond (decide (r2.1 < 0))
 (some ((-1), ()))
 (ob (Ov a0.2.2.2.1 r2.1) fun r3 =>
 (cond (decide (r3.1 < 0))
 (some ((-1), ()))
 (some (r3.1, ()))))))))
def Sm (a0 : Pd) (a1 : Int) : Option Ad :=
 (ob (Jo a0.1 a1) fun r1 =>
 (cond (decide (r1.1 < 0))
 (some ((-1), ()))
 (ob (Pu a0.2.2.1 r1.1) fun r2 =>
 (cond (decide (r2.1 < 0))
 (some ((-1), ()))
 (some (r2.1, ()))))))
def Qo : Option (Zg × Unit) :=
 (ob (Ym Xf) fun r1 =>
 (ob (Rq r1.1 []) fun r2 =>
 (ob (Po r2.1 (200, 0, 0, ())) fun r3 =>
 (some ((r3.1, [], ()), ())))))
def Hk (t0 : Vb) (t1 : Int) (t5 : Cf) (t6 : Int) (t7 : Int) : Option (QN ⊕ (((Vb × DO) × Unit) ⊕ Ah)) :=
 (cond (decide (t7 < ((ln t0 : Nat) : Int)))
 (ob (Cc t0 t7) fun c4 =>
 (cond (((UInt8.toNat c4 : Nat) : Int) == t1)
 (cond (Ae (ln t0) t6 t7)
 (cond (bl (ln t5 + ln ([(Ob t0 (tn t6) (tn t7))] : List Vb)) Id)
 (some (.inl ((t0, t1, (ap t5 ([(Ob t0 (tn t6) (tn t7))] : List Vb)), (wr .i64 (t7 + 1)), (wr .i64 (t7 + 1)), ()), ())))
 none)
 none)
 (some (.inl ((t0, t1, t5, t6, (wr .i64 (t7 + 1)), ()), ())))))
 (some (.inr (.inl ((t0, t5, t6, ()), ())))))
def Ag := Cb fun x : QN => Hk x.1.1 x.1.2.1 x.1.2.2.1 x.1.2.2.2.1 x.1.2.2.2.2.1
def Gq (a0 : Vb) (a1 : Int) : Option (Cf × Unit) :=
 (ob (Ag ((a0, a1, [], 0, 0, ()), ())) (se (fun y5 => (cond (Ae (ln y5.1.1) y5.1.2.2.1 ((ln y5.1.1 : Nat) : Int))
 (cond (bl (ln y5.1.2.1 + ln ([(Ob y5.1.1 (tn y5.1.2.2.1) (tn ((ln y5.1.1 : Nat) : Int)))] : List Vb)) Id)
 (some ((ap y5.1.2.1 ([(Ob y5.1.1 (tn y5.1.2.2.1) (tn ((ln y5.1.1 : Nat) : Int)))] : List Vb)), ()))
 none)
 none)) (fun z6 => none)))
def Gh (a0 : Int) : Option Cq :=
 (cond (a0 == 3)
 (some (([109, 111, 58] : List UInt8), ()))
 (cond (a0 == 4)
 (some (([116, 103, 58] : List UInt8), ()))
 (cond (a0 == 5)
 (some (([116, 111, 58] : List UInt8), ()))
 (cond (a0 == 9)
 (some (Ze, ()))
 (some ([], ()))))))
def Fm (a0 : Vb) (a1 : Vb) : Option Uc :=
 (cond (decide (((ln a0 : Nat) : Int) ≥ ((ln a1 : Nat) : Int)))
 (cond (Ae (ln a0) 0 ((ln a1 : Nat) : Int))
 (some (((Ob a0 (tn 0) (tn ((ln a1 : Nat) : Int))) == a1), ()))
 none)
 (some (false, ())))
def Em (a0 : Vb) (a1 : Vb) : Option (Vb × Uc) :=
 (ob (Fm a0 a1) fun r1 =>
 (cond (!r1.1)
 (some (a0, false, ()))
 (cond (Ae (ln a0) ((ln a1 : Nat) : Int) ((ln a0 : Nat) : Int))
 (some ((Ob a0 (tn ((ln a1 : Nat) : Int)) (tn ((ln a0 : Nat) : Int))), true, ()))
 none)))
def Ei (a0 : Vb) (a1 : Vb) : Option (Vb × Uc) :=
 (ob (Em a0 a1) fun r1 =>
 (some r1))
def Hs (a : List UInt8) : Option MN := OW a
def Gk (t0 : Vb) (t3 : Int) : Option ((Sy × Unit) ⊕ FE) :=
 (cond (decide (t3 ≤ 15))
 (ob (Kg t3) fun r3 =>
 (cond (r3.1 == t0)
 (some (.inr (.inr ((t3, ()), ()))))
 (some (.inl ((t0, (wr .i64 (t3 + 1)), ()), ())))))
 (some (.inr (.inl ((), ())))))
def Zf := Cb fun x : (Sy × Unit) => Gk x.1.1 x.1.2.1
def Vi (a0 : Vb) : Option Ad :=
 (ob (Zf ((a0, 1, ()), ())) (se (fun y4 => (some (0, ()))) (fun z5 => (some (z5.1.1, ())))))
def strings_Cut (a b : List UInt8) : Option (List UInt8 × (List UInt8 × Uc)) := OV a b
def Zn (t0 : Vb) (t5 : Cf) (t6 : Int) (t7 : Int) : Option (((Vb × Rx) × Unit) ⊕ FE) :=
 (cond (decide (t7 < t6))
 (cond (Je (ln t5) t7)
 (ob t5[(tn t7)]? fun x4 =>
 (cond (x4 == t0)
 (some (.inr (.inr (((wr .i64 (t7 + 1)), ()), ()))))
 (some (.inl ((t0, t5, t6, (wr .i64 (t7 + 1)), ()), ())))))
 none)
 (some (.inr (.inl ((), ())))))
def Lh := Cb fun x : ((Vb × Rx) × Unit) => Zn x.1.1 x.1.2.1 x.1.2.2.1 x.1.2.2.2.1
def Zk (a0 : Vb) : Option Ad :=
 (ob (strings_Split Ys ([32] : List UInt8)) fun r1 =>
 (ob (Lh ((a0, r1.1, ((ln r1.1 : Nat) : Int), 0, ()), ())) (se (fun y5 => (some (0, ()))) (fun z6 => (some (z6.1.1, ()))))))
def Ki (t0 : Vb) (t2 : Unit) (t29 : Cx) (t30 : Int) (t31 : Int) (b2 : Ha) : Option (((Vb × K4) × NA) ⊕ (((Vb × Ah) × NA) ⊕ (Ah × NA))) :=
 (cond (decide (t31 < t30))
 (cond (Je (ln t29) t31)
 (ob t29[(tn t31)]? fun x9 =>
 (ob (Gh x9) fun r10 =>
 (ob (Ei t0 r10.1) fun r11 =>
 (cond r11.2.1
 (ob (Hs r11.1) fun r12 =>
 (some (.inr (.inr (((), ()), ((x9, 0, 0, r12.1, ()), ()))))))
 (some (.inl ((t0, (), t29, t30, (wr .i64 (t31 + 1)), ()), (b2, ()))))))))
 none)
 (some (.inr (.inl ((t0, (), ()), (b2, ()))))))
def Sj := Cb fun x : ((Vb × K4) × NA) => Ki x.1.1 x.1.2.1 x.1.2.2.1 x.1.2.2.2.1 x.1.2.2.2.2.1 x.2.1
def Pm (a0 : Vb) : Option NA :=
 (cond (a0 == Tf)
 (some ((0, 0, 0, 0, ()), ()))
 (cond (a0 == Sf)
 (some ((1, 0, 0, 0, ()), ()))
 (cond (a0 == Ye)
 (some ((10, 0, 0, 0, ()), ()))
 (ob (Sj ((a0, (), ([3, 4, 5, 9] : List Int), ((ln ([3, 4, 5, 9] : List Int) : Nat) : Int), 0, ()), ((0, 0, 0, 0, ()), ()))) (se (fun y13 => (ob (Ei y13.1.1 Ud) fun r15 =>
 (cond r15.2.1
 (ob (Vi r15.1) fun r16 =>
 (some ((8, 0, r16.1, 0, ()), ())))
 (ob (strings_Cut y13.1.1 ([47] : List UInt8)) fun r17 =>
 (cond r17.2.2.1
 (ob (Hs r17.1) fun r18 =>
 (cond r18.2.1
 (ob (Zk r17.2.1) fun r19 =>
 (some ((7, r19.1, 0, r18.1, ()), ())))
 (ob (Vi r17.1) fun r20 =>
 (ob (Zk r17.2.1) fun r21 =>
 (some ((6, r21.1, r20.1, 0, ()), ()))))))
 (ob (strings_Cut y13.1.1 ([45] : List UInt8)) fun r22 =>
 (cond r22.2.2.1
 (ob (Vi r22.1) fun r23 =>
 (ob (Zk r22.2.1) fun r24 =>
 (some ((2, r24.1, r23.1, 0, ()), ()))))
 (ob (Zk y13.1.1) fun r25 =>
 (some ((2, r25.1, 0, 0, ()), ())))))))))) (fun z14 => (some (z14.2.1, ()))))))))
def Ci (a0 : Ha) : Option Cq :=
 (ob (Uf a0) fun r1 =>
 (cond (!r1.1)
 (some ([], ()))
 (cond (a0.1 == 0)
 (some (Tf, ()))
 (cond (a0.1 == 1)
 (some (Sf, ()))
 (cond (a0.1 == 10)
 (some (Ye, ()))
 (cond (a0.1 == 2)
 (cond (a0.2.2.1 != 0)
 (ob (Kg a0.2.2.1) fun r2 =>
 (cond (bl (ln r2.1 + ln ([45] : List UInt8)) Id)
 (ob (Wh a0.2.1) fun r3 =>
 (cond (bl (ln (ap r2.1 ([45] : List UInt8)) + ln r3.1) Id)
 (some ((ap (ap r2.1 ([45] : List UInt8)) r3.1), ()))
 none))
 none))
 (ob (Wh a0.2.1) fun r4 =>
 (some (r4.1, ()))))
 (cond (a0.1 == 6)
 (ob (Kg a0.2.2.1) fun r5 =>
 (cond (bl (ln r5.1 + ln ([47] : List UInt8)) Id)
 (ob (Wh a0.2.1) fun r6 =>
 (cond (bl (ln (ap r5.1 ([47] : List UInt8)) + ln r6.1) Id)
 (some ((ap (ap r5.1 ([47] : List UInt8)) r6.1), ()))
 none))
 none))
 (cond (a0.1 == 7)
 (ob (Bh a0.2.2.2.1) fun r7 =>
 (cond (bl (ln r7.1 + ln ([47] : List UInt8)) Id)
 (ob (Wh a0.2.1) fun r8 =>
 (cond (bl (ln (ap r7.1 ([47] : List UInt8)) + ln r8.1) Id)
 (some ((ap (ap r7.1 ([47] : List UInt8)) r8.1), ()))
 none))
 none))
 (cond (a0.1 == 8)
 (ob (Kg a0.2.2.1) fun r9 =>
 (cond (bl (ln Ud + ln r9.1) Id)
 (some ((ap Ud r9.1), ()))
 none))
 (ob (Gh a0.1) fun r10 =>
 (ob (Bh a0.2.2.2.1) fun r11 =>
 (cond (bl (ln r10.1 + ln r11.1) Id)
 (some ((ap r10.1 r11.1), ()))
 none))))))))))))
def Nm (a0 : Vb) : Option (Ha × Uc) :=
 (ob (Pm a0) fun r1 =>
 (ob (Uf r1.1) fun r2 =>
 (cond (!r2.1)
 (some ((0, 0, 0, 0, ()), false, ()))
 (ob (Ci r1.1) fun r3 =>
 (cond (r3.1 != a0)
 (some ((0, 0, 0, 0, ()), false, ()))
 (some (r1.1, true, ())))))))
def Sh (t3 : Cf) (t6 : Cf) (t13 : Eg) (t14 : Int) (t15 : Int) (t19 : Jf) (t20 : Int) (t21 : Int) : Option (((Cf × (Cf × (Eg × LN))) × Unit) ⊕ (((Cf × (Cf × Ds)) × Unit) ⊕ Ah)) :=
 (cond (decide (t21 < t20))
 (ob (Cc t19 t21) fun x39 =>
 (ob (Ci x39) fun r40 =>
 (cond (bl (ln t6 + ln ([r40.1] : List Vb)) Id)
 (some (.inl ((t3, (ap t6 ([r40.1] : List Vb)), t13, t14, t15, t19, t20, (wr .i64 (t21 + 1)), ()), ())))
 none)))
 (some (.inr (.inl ((t3, t6, t13, t14, t15, ()), ())))))
def Cj := Cb fun x : ((Cf × (Cf × (Eg × LN))) × Unit) => Sh x.1.1 x.1.2.1 x.1.2.2.1 x.1.2.2.2.1 x.1.2.2.2.2.1 x.1.2.2.2.2.2.1 x.1.2.2.2.2.2.2.1 x.1.2.2.2.2.2.2.2.1
def Rh (t3 : Cf) (t13 : Eg) (t14 : Int) (t15 : Int) : Option (((Cf × Ds) × Unit) ⊕ L4) :=
 (cond (decide (t15 < t14))
 (ob (Cc t13 t15) fun x34 =>
 (ob (Cj ((t3, [], t13, t14, t15, x34, ((ln x34 : Nat) : Int), 0, ()), ())) (se (fun y41 => (ob (Dn y41.1.2.1 ([32] : List UInt8)) fun r43 =>
 (cond (bl (ln y41.1.1 + ln ([r43.1] : List Vb)) Id)
 (some (.inl (((ap y41.1.1 ([r43.1] : List Vb)), y41.1.2.2.1, y41.1.2.2.2.1, (wr .i64 (y41.1.2.2.2.2.1 + 1)), ()), ())))
 none))) (fun z42 => (some (.inr (.inr ((), ()))))))))
 (some (.inr (.inl ((t3, ()), ())))))
def Bj := Cb fun x : ((Cf × Ds) × Unit) => Rh x.1.1 x.1.2.1 x.1.2.2.1 x.1.2.2.2.1
def Ll (a0 : Ka) : Option Cq :=
 (ob (Vj a0) fun r1 =>
 (cond (!r1.1)
 (some ([], ()))
 (ob (Bj (([], a0.2.1, ((ln a0.2.1 : Nat) : Int), 0, ()), ())) (se (fun y44 => (ob (Dn y44.1.1 ([32, 124, 32] : List UInt8)) fun r46 =>
 (some (r46.1, ())))) (fun z45 => none)))))
def Ji (t0 : Vb) (t2 : Unit) (t4 : Unit) (t7 : Jf) (t13 : Cf) (t14 : Int) (t15 : Int) (t20 : Cf) (t21 : Int) (t22 : Int) (b2 : Ka) (b4 : Ka) : Option (N4 ⊕ (((Vb × (Unit × (Unit × (Jf × Rx)))) × Vn) ⊕ ((Unit × Uc) × Wo))) :=
 (cond (decide (t22 < t21))
 (cond (Je (ln t20) t22)
 (ob t20[(tn t22)]? fun x40 =>
 (ob (Nm x40) fun r41 =>
 (cond (!r41.2.1)
 (some (.inr (.inr (((), false, ()), ((0, [], ()), ())))))
 (cond (decide (((ln t7 : Nat) : Int) ≥ 32))
 (some (.inr (.inr (((), false, ()), ((0, [], ()), ())))))
 (cond (decide (((ln b4.2.1 : Nat) : Int) ≥ 4))
 (some (.inr (.inr (((), false, ()), ((0, [], ()), ())))))
 (cond (bl (ln t7 + ln ([r41.1] : List Ha)) Id)
 (some (.inl ((t0, (), (), (ap t7 ([r41.1] : List Ha)), t13, t14, t15, t20, t21, (wr .i64 (t22 + 1)), ()), (b2, b4, ()))))
 none))))))
 none)
 (some (.inr (.inl ((t0, (), (), t7, t13, t14, t15, ()), (b2, b4, ()))))))
def Rj := Cb fun x : N4 => Ji x.1.1 x.1.2.1 x.1.2.2.1 x.1.2.2.2.1 x.1.2.2.2.2.1 x.1.2.2.2.2.2.1 x.1.2.2.2.2.2.2.1 x.1.2.2.2.2.2.2.2.1 x.1.2.2.2.2.2.2.2.2.1 x.1.2.2.2.2.2.2.2.2.2.1 x.2.1 x.2.2.1
def Ii (t0 : Vb) (t2 : Unit) (t4 : Unit) (t13 : Cf) (t14 : Int) (t15 : Int) (b2 : Ka) (b4 : Ka) : Option (((Vb × (Unit × (Unit × Rx))) × Vn) ⊕ (((Vb × EI) × Vn) ⊕ ((Unit × Uc) × Wo))) :=
 (cond (decide (t15 < t14))
 (cond (Je (ln t13) t15)
 (ob t13[(tn t15)]? fun x34 =>
 (ob (Gq x34 32) fun r35 =>
 (ob (Rj ((t0, (), (), [], t13, t14, t15, r35.1, ((ln r35.1 : Nat) : Int), 0, ()), (b2, b4, ()))) (se (fun y42 => (cond (bl (ln y42.2.2.1.2.1 + ln ([y42.1.2.2.2.1] : List Jf)) Id)
 (some (.inl ((y42.1.1, (), (), y42.1.2.2.2.2.1, y42.1.2.2.2.2.2.1, (wr .i64 (y42.1.2.2.2.2.2.2.1 + 1)), ()), (y42.2.1, (((ln y42.1.2.2.2.1 : Nat) : Int), (ap y42.2.2.1.2.1 ([y42.1.2.2.2.1] : List Jf)), ()), ()))))
 none)) (fun z43 => (some (.inr (.inr (((), z43.1.2.1, ()), (z43.2.1, ()))))))))))
 none)
 (some (.inr (.inl ((t0, (), (), ()), (b2, b4, ()))))))
def Qj := Cb fun x : ((Vb × (Unit × (Unit × Rx))) × Vn) => Ii x.1.1 x.1.2.1 x.1.2.2.1 x.1.2.2.2.1 x.1.2.2.2.2.1 x.1.2.2.2.2.2.1 x.2.1 x.2.2.1
def Om (a0 : Vb) : Option (Ka × Uc) :=
 (ob (strings_Split a0 ([32, 124, 32] : List UInt8)) fun r1 =>
 (ob (Qj ((a0, (), (), r1.1, ((ln r1.1 : Nat) : Int), 0, ()), ((0, [], ()), (0, [], ()), ()))) (se (fun y44 => (ob (Vj y44.2.2.1) fun r46 =>
 (cond (!r46.1)
 (some ((0, [], ()), false, ()))
 (ob (Ll y44.2.2.1) fun r47 =>
 (cond (r47.1 != y44.1.1)
 (some ((0, [], ()), false, ()))
 (some (y44.2.2.1, true, ()))))))) (fun z45 => (some (z45.2.1, z45.1.2.1, ()))))))
def AB (a0 : Ka) (a1 : Nf) (a2 : Qb) : Option (Zg × Uc) :=
 (ob (Ui a0 a1) fun r1 =>
 (cond (!r1.2.1)
 (some ((OA, [], ()), false, ()))
 (ob (Bo r1.1 a2) fun r2 =>
 (some ((r2.1, [], ()), r2.2.1, ())))))
def Fk : Option (Zg × Unit) :=
 (ob (Om Xf) fun r1 =>
 (ob (AB r1.1 [] (200, 0, 0, ())) fun r2 =>
 (some (r2.1, ()))))
def Um (a0 : Zg) (a1 : Int) : Option (Zg × Ad) :=
 (ob (Tm a0.1 a1) fun r1 =>
 (ob (Sv a0.2.1 r1.2.1) fun r2 =>
 (some (((((a0.1.1.1.1, r1.1.1.1.2.1, ()), r1.1.1.2.1, a0.1.1.2.2.1, r1.1.1.2.2.2.1, a0.1.1.2.2.2.2), a0.1.2.1, r1.1.2.2.1, a0.1.2.2.2), r2.1, ()), (r2.2.1, ())))))
def Nk (t0 : Jm) (t1 : Int) (t5 : Int) : Option ((PN × Unit) ⊕ Uy) :=
 (cond (decide (t5 < ((ln t0 : Nat) : Int)))
 (ob (Cc t0 t5) fun x9 =>
 (cond (x9.1 != t1)
 (some (.inr (.inr (((-1), ()), ()))))
 (ob (Cc t0 t5) fun x10 =>
 (cond (x10.2.1.1 != (wr .i64 (t1 + 1)))
 (some (.inr (.inr (((-1), ()), ()))))
 (ob (Cc t0 t5) fun x11 =>
 (ob (Jx x11.2.1.2.1 (wr .i64 ((wr .i64 (t1 + 1)) + 1))) fun r12 =>
 (cond (decide (r12.1 < 0))
 (some (.inr (.inr (((-1), ()), ()))))
 (some (.inl ((t0, r12.1, (wr .i64 (t5 + 1)), ()), ()))))))))))
 (some (.inr (.inl ((t1, ()), ())))))
def Tt := Cb fun x : (PN × Unit) => Nk x.1.1 x.1.2.1 x.1.2.2.1
def Pv (a0 : Jm) (a1 : Int) : Option Ad :=
 (ob (Tt ((a0, a1, 0, ()), ())) (se (fun y13 => (some (y13.1.1, ()))) (fun z14 => (some (z14.1.1, ())))))
def Fj (a0 : Zg) (a1 : Int) : Option Ad :=
 (ob (Sm a0.1 a1) fun r1 =>
 (cond (decide (r1.1 < 0))
 (some ((-1), ()))
 (ob (Pv a0.2.1 r1.1) fun r2 =>
 (cond (decide (r2.1 < 0))
 (some ((-1), ()))
 (some (r2.1, ()))))))
def Ih : Option Uc :=
 (ob Qo fun r1 =>
 (ob Fk fun r2 =>
 (ob (Am r2.1 r1.1) fun r3 =>
 (cond (!r3.1)
 (some (false, ()))
 (ob (Um r2.1 1) fun r4 =>
 (ob (Fj ((((r2.1.1.1.1.1, r4.1.1.1.1.2.1, ()), r4.1.1.1.2.1, r2.1.1.1.2.2.1, r4.1.1.1.2.2.2.1, r2.1.1.1.2.2.2.2), r2.1.1.2.1, r4.1.1.2.2.1, r2.1.1.2.2.2), r4.1.2.1, ()) 1) fun r5 =>
 (cond (decide (r5.1 < 0))
 (some (false, ()))
 (cond (r5.1 != r4.2.1)
 (some (false, ()))
 (ob Fk fun r6 =>
 (ob (Am r6.1 r1.1) fun r7 =>
 (cond (!r7.1)
 (some (false, ()))
 (ob (Fj ((((r2.1.1.1.1.1, r4.1.1.1.1.2.1, ()), r4.1.1.1.2.1, r2.1.1.1.2.2.1, r4.1.1.1.2.2.2.1, r2.1.1.1.2.2.2.2), r2.1.1.2.1, r4.1.1.2.2.1, r2.1.1.2.2.2), r4.1.2.1, ()) 1) fun r8 =>
 (cond (decide (r8.1 < 0))
 (some (false, ()))
 (cond (r8.1 != r4.2.1)
 (some (false, ()))
 (some (true, ()))))))))))))))))
end
theorem XX (a : (List Int)) (hz : Ja (.sl int) a ≤ Kc) : Gw a a = some (true, ()) := by
 have h40 : Kc = 1099511627776 := rfl
 have hz' : ja a + (List.map (Ja int) a).sum ≤ Kc := hz
 have hl := UL (step := fun x : (((List Int) × ((List Int) × (Int × Unit))) × Unit) => Io x.1.1 x.1.2.1 x.1.2.2.1) (fun k => ((a, a, (k : Int), ()), ())) (ja a) (.inl ((), ())) (by
  intro k hk
  simp only [Io]
  rw [Ba (show (k : Int) < (ja a : Int) by omega), Ic hk]
  simp only [cond_true, jb]
  rw [bne_self_eq_false']
  simp only [cond_false]
  rw [Pb (by omega)]) (by
  simp [Io])
 unfold Gw Mp
 rw [bne_self_eq_false']
 simp only [cond_false]
 erw [hl]
 rfl
theorem RQ (a : Af) (hz : Ja Vv a ≤ Kc) : Ns a a = some (true, ()) := by
 unfold Ns
 have hs : Ja Vv a = Ja (.sl int) a.2.1 := by simp only [Ja, Nat.add_zero, js, jt]
 simp only [bne_self_eq_false', cond_false, jg, jb, XX a.2.1 (by omega)]
theorem YX (a : Zv) (hz : Ja Qf a ≤ Kc) : Rr a a = some (true, ()) := by
 unfold Rr
 have hs : Ja Qf a = Ja Vv a.2.1 := by simp only [Ja, Nat.add_zero, js, jt]
 simp only [bne_self_eq_false', cond_false, jg, jb, RQ a.2.1 (by omega)]
theorem TV (a : (List Zv)) (hz : Ja (.sl Qf) a ≤ Kc) : Nu a a = some (true, ()) := RO (e := Qf) (f := Rr) (F := Nu) a hz YX rfl
theorem TF (a : Ha) (hz : Ja Xa a ≤ Kc) : Wj a a = some (true, ()) := by
 unfold Wj
 have hs : Ja Xa a = 0 := by simp only [Ja, Nat.add_zero, js, jt]
 simp only [bne_self_eq_false', cond_false, jg, jb]
theorem PO (a : (List Ha)) (hz : Ja (.sl Xa) a ≤ Kc) : Zl a a = some (true, ()) := RO (e := Xa) (f := Wj) (F := Zl) a hz TF rfl
theorem JM (a : (List (List Ha))) (hz : Ja (.sl (.sl Xa)) a ≤ Kc) : Ho a a = some (true, ()) := RO (e := (.sl Xa)) (f := Zl) (F := Ho) a hz PO rfl
theorem QQ (a : Ka) (hz : Ja Ua a ≤ Kc) : Ms a a = some (true, ()) := by
 unfold Ms
 have hs : Ja Ua a = Ja (.sl (.sl Xa)) a.2.1 := by simp only [Ja, Nat.add_zero, js, jt]
 simp only [bne_self_eq_false', cond_false, jg, jb, JM a.2.1 (by omega)]
theorem TQ (a : Qb) (hz : Ja Ac a ≤ Kc) : Qs a a = some (true, ()) := by
 unfold Qs
 have hs : Ja Ac a = 0 := by simp only [Ja, Nat.add_zero, js, jt]
 simp only [bne_self_eq_false', cond_false, jg, jb]
theorem RV (a : Lb) (hz : Ja Qe a ≤ Kc) : Lp a a = some (true, ()) := by
 unfold Lp
 have hs : Ja Qe a = 0 := by simp only [Ja, Nat.add_zero, js, jt]
 simp only [bne_self_eq_false', cond_false, jg, jb]
theorem PQ (a : (List Lb)) (hz : Ja (.sl Qe) a ≤ Kc) : Ks a a = some (true, ()) := RO (e := Qe) (f := Lp) (F := Ks) a hz RV rfl
theorem ZX (a : Qb) (hz : Ja Ac a ≤ Kc) : Sr a a = some (true, ()) := by
 unfold Sr
 have hs : Ja Ac a = 0 := by simp only [Ja, Nat.add_zero, js, jt]
 simp only [bne_self_eq_false', cond_false, jg, jb]
theorem UV (a : (List Qb)) (hz : Ja (.sl Ac) a ≤ Kc) : Np a a = some (true, ()) := RO (e := Ac) (f := Sr) (F := Np) a hz ZX rfl
theorem SQ (a : (List (List Qb))) (hz : Ja (.sl (.sl Ac)) a ≤ Kc) : Ps a a = some (true, ()) := RO (e := (.sl Ac)) (f := Np) (F := Ps) a hz UV rfl
theorem WX (a : Ib) (hz : Ja Mg a ≤ Kc) : Qr a a = some (true, ()) := by
 unfold Qr
 have hs : Ja Mg a = 0 := by simp only [Ja, Nat.add_zero, js, jt]
 simp only [bne_self_eq_false', cond_false, jg, jb, TF a.2.1 (by rw [Qy rfl]; exact Nat.zero_le _)]
theorem SV (a : (List Ib)) (hz : Ja (.sl Mg) a ≤ Kc) : Mu a a = some (true, ()) := RO (e := Mg) (f := Qr) (F := Mu) a hz WX rfl
theorem OQ (a : Bb) (hz : Ja Jb a ≤ Kc) : Js a a = some (true, ()) := by
 unfold Js
 have hs : Ja Jb a = Ja Ua a.1 + (Ja (.sl (.sl Ac)) a.2.1 + (Ja (.sl Mg) a.2.2.2.1)) := by simp only [Ja, Nat.add_zero, js, jt]
 simp only [bne_self_eq_false', cond_false, jg, jb, QQ a.1 (by omega), SQ a.2.1 (by omega), SV a.2.2.2.1 (by omega)]
theorem QO (a : Pd) (hz : Ja Dd a ≤ Kc) : Jq a a = some (true, ()) := by
 unfold Jq
 have hs : Ja Dd a = Ja Jb a.1 + (Ja (.sl Qe) a.2.2.1) := by simp only [Ja, Nat.add_zero, js, jt]
 simp only [bne_self_eq_false', cond_false, jg, jb, OQ a.1 (by omega), TQ a.2.1 (by rw [Qy rfl]; exact Nat.zero_le _), PQ a.2.2.1 (by omega)]
theorem SO (a : Zg) (hz : Ja Lf a ≤ Kc) : Am a a = some (true, ()) := by
 unfold Am
 have hs : Ja Lf a = Ja Dd a.1 + (Ja (.sl Qf) a.2.1) := by simp only [Ja, Nat.add_zero, js, jt]
 simp only [bne_self_eq_false', cond_false, jg, jb, QO a.1 (by omega), TV a.2.1 (by omega)]
theorem WQ (a : (List Int)) (k : Nat) (hk : k + 8 * Ja (.sl int) a ≤ Kc) : ∃ (a' : (List Int)) (k' : Nat), k ≤ k' ∧ k' ≤ k + 8 * Ja (.sl int) a ∧ Kx a (k : Int) = some (a', ((k' : Int), ())) ∧ Jx a' (k : Int) = some ((k' : Int), ()) ∧ kf (.sl int) a a' := Hz (e := int) (RM := Pl) (RH := Ol) (fun _ _ => rfl) (fun _ _ => rfl) (by
 have h40 : Kc = 1099511627776 := rfl
 intro o k i hi hB
 have hw : jz .i64 (((k : Nat) : Int) + 1) = (((k + 1) : Nat) : Int) := Pb (by omega)
 refine ⟨((k : Nat) : Int), k + 1, by omega, by omega, ?_, ?_⟩
 ·simp only [Pl]
  rw [Ba (show (i : Int) < (ja o : Int) by omega)]
  simp only [hw, cond_true, Wi, j7, Ba hi, jn, je hi, qm hi, jb, List.set_set, z3, cond_false]
 ·intro o2 hi2 h2
  simp only [Ol]
  rw [Ba (show (i : Int) < (ja o2 : Int) by omega), Ic hi2, h2]
  simp only [hw, cond_true, jb, bne_self_eq_false', cond_false, z3]) (by
 intro o k
 simp only [Pl]
 rw [Aa (by omega)]
 rfl) (by
 intro o k
 simp only [Ol]
 rw [Aa (by omega)]
 rfl) a k hk
theorem QP (a : (List Zv)) (k : Nat) (hk : k + 8 * Ja (.sl Qf) a ≤ Kc) : ∃ (a' : (List Zv)) (k' : Nat), k ≤ k' ∧ k' ≤ k + 8 * Ja (.sl Qf) a ∧ Sv a (k : Int) = some (a', ((k' : Int), ())) ∧ Pv a' (k : Int) = some ((k' : Int), ()) ∧ kf (.sl Qf) a a' := Hz (e := Qf) (RM := Qk) (RH := Nk) (fun _ _ => rfl) (fun _ _ => rfl) (by
 have h40 : Kc = 1099511627776 := rfl
 intro o k i hi hB
 have hs : Ja Qf o[i] = Ja (.sl int) o[i].2.1.2.1 := by simp only [Ja, Nat.add_zero, js, jt]
 have w0 : jz .i64 (((k : Nat) : Int) + 1) = (((k + 1) : Nat) : Int) := Pb (by omega)
 have w1 : jz .i64 ((((k + 1) : Nat) : Int) + 1) = ((((k + 1) + 1) : Nat) : Int) := Pb (by omega)
 obtain ⟨y0, k0, g0, i0, m0, n0, _⟩ := WQ o[i].2.1.2.1 ((k + 1) + 1) (by omega)
 have d0 : decide ((k0 : Int) < 0) = false := Aa (by omega)
 refine ⟨(((k : Nat) : Int), ((((k + 1) : Nat) : Int), y0, ()), ()), k0, by omega, by omega, ?_, ?_⟩
 ·simp only [Qk]
  rw [Ba (show (i : Int) < (ja o : Int) by omega)]
  simp only [w0, w1, m0, cond_true, Wi, j7, Ba hi, jn, je hi, qm hi, jb, List.set_set, z3, cond_false]
 ·intro o2 hi2 h2
  simp only [Nk]
  rw [Ba (show (i : Int) < (ja o2 : Int) by omega), Ic hi2, h2]
  simp only [w0, w1, n0, d0, cond_true, jb, bne_self_eq_false', cond_false, z3]) (by
 intro o k
 simp only [Qk]
 rw [Aa (by omega)]
 rfl) (by
 intro o k
 simp only [Nk]
 rw [Aa (by omega)]
 rfl) a k hk
theorem OK (a : (List Ha)) (k : Nat) (hk : k + 8 * Ja (.sl Xa) a ≤ Kc) : ∃ (a' : (List Ha)) (k' : Nat), k ≤ k' ∧ k' ≤ k + 8 * Ja (.sl Xa) a ∧ Ft a (k : Int) = some (a', ((k' : Int), ())) ∧ Et a' (k : Int) = some ((k' : Int), ()) ∧ kf (.sl Xa) a a' := Hz (e := Xa) (RM := Ni) (RH := Mi) (fun _ _ => rfl) (fun _ _ => rfl) (by
 have h40 : Kc = 1099511627776 := rfl
 intro o k i hi hB
 have hw : jz .i64 (((k : Nat) : Int) + 1) = (((k + 1) : Nat) : Int) ∧ jz .i64 ((((k + 1) : Nat) : Int) + 1) = (((k + 2) : Nat) : Int) ∧ jz .i64 ((((k + 2) : Nat) : Int) + 1) = (((k + 3) : Nat) : Int) ∧ jz .i64 ((((k + 3) : Nat) : Int) + 1) = (((k + 4) : Nat) : Int) := ⟨Pb (by omega), Pb (by omega), Pb (by omega), Pb (by omega)⟩
 obtain ⟨w0, w1, w2, w3⟩ := hw
 refine ⟨(((k : Nat) : Int), (((k + 1) : Nat) : Int), (((k + 2) : Nat) : Int), (((k + 3) : Nat) : Int), ()), k + 4, by omega, by omega, ?_, ?_⟩
 ·simp only [Ni]
  rw [Ba (show (i : Int) < (ja o : Int) by omega)]
  simp only [w0, w1, w2, w3, cond_true, Wi, j7, Ba hi, jn, je hi, qm hi, jb, List.set_set, z3, cond_false]
 ·intro o2 hi2 h2
  simp only [Mi]
  rw [Ba (show (i : Int) < (ja o2 : Int) by omega), Ic hi2, h2]
  simp only [w0, w1, w2, w3, cond_true, jb, bne_self_eq_false', cond_false, z3]) (by
 intro o k
 simp only [Ni]
 rw [Aa (by omega)]
 rfl) (by
 intro o k
 simp only [Mi]
 rw [Aa (by omega)]
 rfl) a k hk
theorem DJ (a : (List (List Ha))) (k : Nat) (hk : k + 8 * Ja (.sl (.sl Xa)) a ≤ Kc) : ∃ (a' : (List (List Ha))) (k' : Nat), k ≤ k' ∧ k' ≤ k + 8 * Ja (.sl (.sl Xa)) a ∧ Dr a (k : Int) = some (a', ((k' : Int), ())) ∧ Cr a' (k : Int) = some ((k' : Int), ()) ∧ kf (.sl (.sl Xa)) a a' := Hz (e := (.sl Xa)) (RM := Vh) (RH := Uh) (fun _ _ => rfl) (fun _ _ => rfl) (by
 have h40 : Kc = 1099511627776 := rfl
 intro o k i hi hB
 obtain ⟨y0, k0, g0, i0, m0, n0, _⟩ := OK o[i] k (by omega)
 have d0 : decide ((k0 : Int) < 0) = false := Aa (by omega)
 refine ⟨y0, k0, by omega, by omega, ?_, ?_⟩
 ·simp only [Vh]
  rw [Ba (show (i : Int) < (ja o : Int) by omega)]
  simp only [m0, cond_true, Wi, j7, Ba hi, jn, je hi, qm hi, jb, List.set_set, z3, cond_false]
 ·intro o2 hi2 h2
  simp only [Uh]
  rw [Ba (show (i : Int) < (ja o2 : Int) by omega), Ic hi2, h2]
  simp only [n0, d0, cond_true, jb, bne_self_eq_false', cond_false, z3]) (by
 intro o k
 simp only [Vh]
 rw [Aa (by omega)]
 rfl) (by
 intro o k
 simp only [Uh]
 rw [Aa (by omega)]
 rfl) a k hk
theorem VM (a : Ka) (k : Nat) (hk : k + 8 * Ja Ua a ≤ Kc) : ∃ (a' : Ka) (k' : Nat), k ≤ k' ∧ k' ≤ k + 8 * Ja Ua a ∧ Mo a (k : Int) = some (a', ((k' : Int), ())) ∧ Ko a' (k : Int) = some ((k' : Int), ()) ∧ kf Ua a a' := by
 have h40 : Kc = 1099511627776 := rfl
 have hs : Ja Ua a = Ja (.sl (.sl Xa)) a.2.1 := by simp only [Ja, Nat.add_zero, js, jt]
 obtain ⟨x0, k0, g0, i0, m0, n0, f0⟩ := DJ a.2.1 k (by omega)
 refine ⟨(a.1, x0, ()), k0, by omega, by omega, ?_, ?_, Yl _ _, f0, rfl⟩
 ·unfold Mo
  simp only [m0, jb]
 ·unfold Ko
  simp only [n0, jb]
  rw [Aa (by omega)]
  simp only [cond_false]
theorem UM (a : (List Lb)) (k : Nat) (hk : k + 8 * Ja (.sl Qe) a ≤ Kc) : ∃ (a' : (List Lb)) (k' : Nat), k ≤ k' ∧ k' ≤ k + 8 * Ja (.sl Qe) a ∧ Su a (k : Int) = some (a', ((k' : Int), ())) ∧ Pu a' (k : Int) = some ((k' : Int), ()) ∧ kf (.sl Qe) a a' := Hz (e := Qe) (RM := Mj) (RH := Kj) (fun _ _ => rfl) (fun _ _ => rfl) (by
 have h40 : Kc = 1099511627776 := rfl
 intro o k i hi hB
 have hw : jz .i64 (((k : Nat) : Int) + 1) = (((k + 1) : Nat) : Int) ∧ jz .i64 ((((k + 1) : Nat) : Int) + 1) = (((k + 2) : Nat) : Int) ∧ jz .i64 ((((k + 2) : Nat) : Int) + 1) = (((k + 3) : Nat) : Int) := ⟨Pb (by omega), Pb (by omega), Pb (by omega)⟩
 obtain ⟨w0, w1, w2⟩ := hw
 refine ⟨(((k : Nat) : Int), (((k + 1) : Nat) : Int), (Int.tmod (((k + 2) : Nat) : Int) 3 == 0), ()), k + 3, by omega, by omega, ?_, ?_⟩
 ·simp only [Mj]
  rw [Ba (show (i : Int) < (ja o : Int) by omega)]
  simp only [w0, w1, w2, cond_true, Wi, j7, Ba hi, jn, je hi, qm hi, jb, List.set_set, z3, cond_false]
 ·intro o2 hi2 h2
  simp only [Kj]
  rw [Ba (show (i : Int) < (ja o2 : Int) by omega), Ic hi2, h2]
  simp only [w0, w1, w2, cond_true, jb, bne_self_eq_false', cond_false, z3]) (by
 intro o k
 simp only [Mj]
 rw [Aa (by omega)]
 rfl) (by
 intro o k
 simp only [Kj]
 rw [Aa (by omega)]
 rfl) a k hk
theorem RP (a : (List Qb)) (k : Nat) (hk : k + 8 * Ja (.sl Ac) a ≤ Kc) : ∃ (a' : (List Qb)) (k' : Nat), k ≤ k' ∧ k' ≤ k + 8 * Ja (.sl Ac) a ∧ Tv a (k : Int) = some (a', ((k' : Int), ())) ∧ Qv a' (k : Int) = some ((k' : Int), ()) ∧ kf (.sl Ac) a a' := Hz (e := Ac) (RM := Rk) (RH := Ok) (fun _ _ => rfl) (fun _ _ => rfl) (by
 have h40 : Kc = 1099511627776 := rfl
 intro o k i hi hB
 have hw : jz .i64 (((k : Nat) : Int) + 1) = (((k + 1) : Nat) : Int) ∧ jz .i64 ((((k + 1) : Nat) : Int) + 1) = (((k + 2) : Nat) : Int) ∧ jz .i64 ((((k + 2) : Nat) : Int) + 1) = (((k + 3) : Nat) : Int) := ⟨Pb (by omega), Pb (by omega), Pb (by omega)⟩
 obtain ⟨w0, w1, w2⟩ := hw
 refine ⟨(((k : Nat) : Int), (((k + 1) : Nat) : Int), (((k + 2) : Nat) : Int), ()), k + 3, by omega, by omega, ?_, ?_⟩
 ·simp only [Rk]
  rw [Ba (show (i : Int) < (ja o : Int) by omega)]
  simp only [w0, w1, w2, cond_true, Wi, j7, Ba hi, jn, je hi, qm hi, jb, List.set_set, z3, cond_false]
 ·intro o2 hi2 h2
  simp only [Ok]
  rw [Ba (show (i : Int) < (ja o2 : Int) by omega), Ic hi2, h2]
  simp only [w0, w1, w2, cond_true, jb, bne_self_eq_false', cond_false, z3]) (by
 intro o k
 simp only [Rk]
 rw [Aa (by omega)]
 rfl) (by
 intro o k
 simp only [Ok]
 rw [Aa (by omega)]
 rfl) a k hk
theorem WM (a : (List (List Qb))) (k : Nat) (hk : k + 8 * Ja (.sl (.sl Ac)) a ≤ Kc) : ∃ (a' : (List (List Qb))) (k' : Nat), k ≤ k' ∧ k' ≤ k + 8 * Ja (.sl (.sl Ac)) a ∧ Uu a (k : Int) = some (a', ((k' : Int), ())) ∧ Ru a' (k : Int) = some ((k' : Int), ()) ∧ kf (.sl (.sl Ac)) a a' := Hz (e := (.sl Ac)) (RM := Nj) (RH := Lj) (fun _ _ => rfl) (fun _ _ => rfl) (by
 have h40 : Kc = 1099511627776 := rfl
 intro o k i hi hB
 obtain ⟨y0, k0, g0, i0, m0, n0, _⟩ := RP o[i] k (by omega)
 have d0 : decide ((k0 : Int) < 0) = false := Aa (by omega)
 refine ⟨y0, k0, by omega, by omega, ?_, ?_⟩
 ·simp only [Nj]
  rw [Ba (show (i : Int) < (ja o : Int) by omega)]
  simp only [m0, cond_true, Wi, j7, Ba hi, jn, je hi, qm hi, jb, List.set_set, z3, cond_false]
 ·intro o2 hi2 h2
  simp only [Lj]
  rw [Ba (show (i : Int) < (ja o2 : Int) by omega), Ic hi2, h2]
  simp only [n0, d0, cond_true, jb, bne_self_eq_false', cond_false, z3]) (by
 intro o k
 simp only [Nj]
 rw [Aa (by omega)]
 rfl) (by
 intro o k
 simp only [Lj]
 rw [Aa (by omega)]
 rfl) a k hk
theorem PP (a : (List Ib)) (k : Nat) (hk : k + 8 * Ja (.sl Mg) a ≤ Kc) : ∃ (a' : (List Ib)) (k' : Nat), k ≤ k' ∧ k' ≤ k + 8 * Ja (.sl Mg) a ∧ Rv a (k : Int) = some (a', ((k' : Int), ())) ∧ Ov a' (k : Int) = some ((k' : Int), ()) ∧ kf (.sl Mg) a a' := Hz (e := Mg) (RM := Pk) (RH := Mk) (fun _ _ => rfl) (fun _ _ => rfl) (by
 have h40 : Kc = 1099511627776 := rfl
 intro o k i hi hB
 have hw : jz .i64 (((k : Nat) : Int) + 1) = (((k + 1) : Nat) : Int) ∧ jz .i64 ((((k + 1) : Nat) : Int) + 1) = (((k + 2) : Nat) : Int) ∧ jz .i64 ((((k + 2) : Nat) : Int) + 1) = (((k + 3) : Nat) : Int) ∧ jz .i64 ((((k + 3) : Nat) : Int) + 1) = (((k + 4) : Nat) : Int) ∧ jz .i64 ((((k + 4) : Nat) : Int) + 1) = (((k + 5) : Nat) : Int) := ⟨Pb (by omega), Pb (by omega), Pb (by omega), Pb (by omega), Pb (by omega)⟩
 obtain ⟨w0, w1, w2, w3, w4⟩ := hw
 refine ⟨(((k : Nat) : Int), ((((k + 1) : Nat) : Int), (((k + 2) : Nat) : Int), (((k + 3) : Nat) : Int), (((k + 4) : Nat) : Int), ()), ()), k + 5, by omega, by omega, ?_, ?_⟩
 ·simp only [Pk]
  rw [Ba (show (i : Int) < (ja o : Int) by omega)]
  simp only [w0, w1, w2, w3, w4, cond_true, Wi, j7, Ba hi, jn, je hi, qm hi, jb, List.set_set, z3, cond_false]
 ·intro o2 hi2 h2
  simp only [Mk]
  rw [Ba (show (i : Int) < (ja o2 : Int) by omega), Ic hi2, h2]
  simp only [w0, w1, w2, w3, w4, cond_true, jb, bne_self_eq_false', cond_false, z3]) (by
 intro o k
 simp only [Pk]
 rw [Aa (by omega)]
 rfl) (by
 intro o k
 simp only [Mk]
 rw [Aa (by omega)]
 rfl) a k hk
theorem TM (a : Bb) (k : Nat) (hk : k + 8 * Ja Jb a ≤ Kc) : ∃ (a' : Bb) (k' : Nat), k ≤ k' ∧ k' ≤ k + 8 * Ja Jb a ∧ Lo a (k : Int) = some (a', ((k' : Int), ())) ∧ Jo a' (k : Int) = some ((k' : Int), ()) ∧ kf Jb a a' := by
 have h40 : Kc = 1099511627776 := rfl
 have hs : Ja Jb a = Ja Ua a.1 + (Ja (.sl (.sl Ac)) a.2.1 + (Ja (.sl Mg) a.2.2.2.1)) := by simp only [Ja, Nat.add_zero, js, jt]
 obtain ⟨x0, k0, g0, i0, m0, n0, f0⟩ := VM a.1 k (by omega)
 obtain ⟨x1, k1, g1, i1, m1, n1, f1⟩ := WM a.2.1 k0 (by omega)
 obtain ⟨x2, k2, g2, i2, m2, n2, f2⟩ := PP a.2.2.2.1 k1 (by omega)
 refine ⟨(x0, x1, a.2.2.1, x2, a.2.2.2.2.1, a.2.2.2.2.2.1, ()), k2, by omega, by omega, ?_, ?_, f0, f1, Yl _ _, f2, Yl _ _, Yl _ _, rfl⟩
 ·unfold Lo
  simp only [kf, true_and, and_true] at f0
  simp only [m0, m1, m2, jb]
  simp only [jc, Prod.ext_iff, f0, and_self]
 ·unfold Jo
  simp only [n0, jb]
  rw [Aa (by omega)]
  simp only [cond_false]
  simp only [n1, jb]
  rw [Aa (by omega)]
  simp only [cond_false]
  simp only [n2, jb]
  rw [Aa (by omega)]
  simp only [cond_false]
theorem PK (a : Pd) (k : Nat) (hk : k + 8 * Ja Dd a ≤ Kc) : ∃ (a' : Pd) (k' : Nat), k ≤ k' ∧ k' ≤ k + 8 * Ja Dd a ∧ Tm a (k : Int) = some (a', ((k' : Int), ())) ∧ Sm a' (k : Int) = some ((k' : Int), ()) ∧ kf Dd a a' := by
 have h40 : Kc = 1099511627776 := rfl
 have hs : Ja Dd a = Ja Jb a.1 + (Ja (.sl Qe) a.2.2.1) := by simp only [Ja, Nat.add_zero, js, jt]
 obtain ⟨x0, k0, g0, i0, m0, n0, f0⟩ := TM a.1 k (by omega)
 obtain ⟨x1, k1, g1, i1, m1, n1, f1⟩ := UM a.2.2.1 k0 (by omega)
 refine ⟨(x0, a.2.1, x1, a.2.2.2.1, a.2.2.2.2.1, a.2.2.2.2.2.1, a.2.2.2.2.2.2.1, ()), k1, by omega, by omega, ?_, ?_, f0, Yl _ _, f1, Yl _ _, Yl _ _, Yl _ _, Yl _ _, rfl⟩
 ·unfold Tm
  simp only [kf, true_and, and_true] at f0
  simp only [m0, m1, jb]
  simp only [jc, Prod.ext_iff, f0, and_self]
 ·unfold Sm
  simp only [n0, jb]
  rw [Aa (by omega)]
  simp only [cond_false]
  simp only [n1, jb]
  rw [Aa (by omega)]
  simp only [cond_false]
theorem QK (a : Zg) (k : Nat) (hk : k + 8 * Ja Lf a ≤ Kc) : ∃ (a' : Zg) (k' : Nat), k ≤ k' ∧ k' ≤ k + 8 * Ja Lf a ∧ Um a (k : Int) = some (a', ((k' : Int), ())) ∧ Fj a' (k : Int) = some ((k' : Int), ()) ∧ kf Lf a a' := by
 have h40 : Kc = 1099511627776 := rfl
 have hs : Ja Lf a = Ja Dd a.1 + (Ja (.sl Qf) a.2.1) := by simp only [Ja, Nat.add_zero, js, jt]
 obtain ⟨x0, k0, g0, i0, m0, n0, f0⟩ := PK a.1 k (by omega)
 obtain ⟨x1, k1, g1, i1, m1, n1, f1⟩ := QP a.2.1 k0 (by omega)
 refine ⟨(x0, x1, ()), k1, by omega, by omega, ?_, ?_, f0, f1, rfl⟩
 ·unfold Um
  simp only [kf, true_and, and_true] at f0
  simp only [m0, m1, jb]
  simp only [jc, Prod.ext_iff, f0, and_self]
 ·unfold Fj
  simp only [n0, jb]
  rw [Aa (by omega)]
  simp only [cond_false]
  simp only [n1, jb]
  rw [Aa (by omega)]
  simp only [cond_false]
end KF
