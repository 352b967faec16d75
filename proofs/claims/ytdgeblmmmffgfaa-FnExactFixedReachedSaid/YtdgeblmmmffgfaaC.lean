/- An evaluator of Go functions on plain data, its soundness, and plain laws on what the functions compute, part 3 (conditions: as each lemma tells). -/
import Derived.Test.YtdgeblmmmffgfaaB
import Derived.LoopN
import Derived.ChangeArms
import Derived.ChangeStays
import Derived.ChangeSame
import Derived.WideShapes
import Derived.RowKit
import Derived.Handed
import Derived.JoinedOf
import Derived.Lib.Split
import Derived.Lib.Join
import Derived.Lib.ItoaNum
import Derived.Lib.IndexMore
import Derived.Lib.Bytealg
import Derived.Lib.Atoi
import Derived.IntWalk
set_option linter.unusedSimpArgs false
set_option linter.unusedVariables false
namespace KF
open Go
open List renaming length → ja, getElem?_eq_getElem → je, append → jf, mem_append → jl, mem_cons → jp, mem_cons_of_mem → jr, length_cons → jw, set → j5, length_set → j7, mem_singleton → qb, length_append → qc, getElem?_append_left → qe, getElem?_append_right → qf, getD_eq_getElem?_getD → qg, getElem_mem → qk, getElem_of_mem → ql, mem_map → qm, getElem?_set_self → qn, length_drop → qo, mem_cons_self → qp
open Option renaming bind_some → jb, bind → jz, map_some → qa, bind_eq_some_iff → qd
open Option.some renaming injEq → jc
open Bool renaming and_eq_true → jd, not_true → jg, true_and → jk, false_eq_true → jq, not_eq_true → j8
open Prod.mk renaming injEq → jh
open Nat renaming ble_eq_true_of_le → ji, mul_le_mul_right → jm, le_refl → jo, zero_add → js, add_assoc → jt, eq_of_beq_eq_true → ju, ble → jx, le_trans → j9, lt_of_lt_of_le → qi, pow_le_pow_right → qj
open Int renaming toNat_natCast → jn, eq_ofNat_of_zero_le → jv, toNat → jy
open Go.IntKind renaming wrap → j4
open Sum renaming elim → j6, elim_inl → qh
open Result renaming andThen_ok → qq
open Sem renaming run_bind → qr
theorem AH {p q : Nat → Bool} {i : Nat} (hpq : ∀ j, q j = true → p j = true) (hp : p i = true) (hq : q i = false) : ∀ n, i < n → (List.range n).countP q < (List.range n).countP p := by
 have hle : ∀ n, (List.range n).countP q ≤ (List.range n).countP p := fun n => List.countP_mono_left fun j _ h => hpq j h
 intro n
 induction n with
 | zero => intro h; omega
 | succ n ih =>
  intro h
  rw [List.range_succ, List.countP_append, List.countP_append]
  by_cases he : i = n
  ·subst he
   have := hle i
   simp [hp, hq]
   omega
  ·have := ih (by omega)
   have h2 : [n].countP q ≤ [n].countP p := List.countP_mono_left fun j _ h => hpq j h
   omega
section
variable {P : Program} {n0 : Nat} {A : Fx} {O0 : Nat → Prop} {w0 : World} {G : Mc} {ops : Array Oper} {s0 : AS} {E : Nat → Ef} {F : Nat → FP} {anc : Nat → List Nat} {H : List Nat} {Q : Exit → Act → World → Prop}
def Xh (listed : Array Bool) (j : Nat) : Bool := listed.getD j false
def Gz (ops : Array Oper) (L : Nat → Bool) : Prop := ∀ j o, ops[j]? = some o → L j = true → ∀ e, e ∈ o.after.toList → Region.binds .any e = true → L e.on = true
theorem Pq (hPM : ∀ m o, ops[m]? = some o → PM G H ops s0 E F anc m o) {L : Nat → Bool} (hc : Gz ops L) : ∀ (b m : Nat), m < b → m < ops.size → L m = true → ∀ x, x ∈ anc m → L x = true
 | 0, _, h, _, _, _, _ => by omega
 | b + 1, m, hb, hm, hL, x, hx => by
  have hom : ops[m]? = some ops[m] := Array.getElem?_eq_getElem hm
  obtain ⟨e, he, hbn, hxe⟩ := (hPM m _ hom).up x hx
  have h1 := hc m _ hom hL e he hbn
  have h2 := (hPM m _ hom).back e he hbn
  rcases hxe with rfl | hxe
  ·exact h1
  ·exact Pq hPM hc b e.on (by omega) (by omega) h1 x hxe
theorem Ps {listed : Array Bool} {i : Nat} : i ∈ Region.ready .any ops listed ↔ i < ops.size ∧ listed.getD i true = false ∧ ∃ o, ops[i]? = some o ∧ ∀ e, e ∈ o.after.toList → Region.binds .any e = true → listed.getD e.on false = true := by
 unfold Region.ready
 rw [List.mem_filter, List.mem_range]
 constructor
 ·rintro ⟨h1, h2⟩
  have hom : ops[i]? = some ops[i] := Array.getElem?_eq_getElem h1
  rw [hom] at h2
  simp only [qa, Option.getD_some, jd, Bool.not_eq_true'] at h2
  refine ⟨h1, h2.1, _, hom, fun e he hb => ?_⟩
  have h3 := h2.2
  rw [Array.all_eq_true'] at h3
  have := h3 e (Array.mem_toList_iff.1 he)
  rw [hb] at this
  simpa using this
 ·rintro ⟨h1, h2, o, ho, h3⟩
  refine ⟨h1, ?_⟩
  rw [ho]
  simp only [qa, Option.getD_some, jd, Bool.not_eq_true']
  refine ⟨h2, ?_⟩
  rw [Array.all_eq_true']
  intro e he
  cases hb : Region.binds .any e with
  | false => rfl
  | true => simpa using h3 e (Array.mem_toList_iff.2 he) hb
theorem Jv (hPM : ∀ m o, ops[m]? = some o → PM G H ops s0 E F anc m o) {listed : Array Bool} (hsz : listed.size = ops.size) (hr : Region.ready .any ops listed = []) : ∀ (b j : Nat), j < b → j < ops.size → Xh listed j = true
 | 0, _, h, _ => by omega
 | b + 1, j, hb, hj => by
  by_cases h : Xh listed j = true
  ·exact h
  ·exfalso
   have hom : ops[j]? = some ops[j] := Array.getElem?_eq_getElem hj
   have : j ∈ Region.ready .any ops listed := by
    refine Ps.2 ⟨hj, ?_, _, hom, fun e he hbn => ?_⟩
    ·unfold Xh at h
     simp only [j8] at h
     have hjl : j < listed.size := by omega
     simp [Array.getD, hjl] at h ⊢
     exact h
    ·have := (hPM j _ hom).back e he hbn
     exact Jv hPM hsz hr b e.on (by omega) (by omega)
   rw [hr] at this
   simp at this
theorem Oz {op : Op} (h : Em op = true) : Dl op = false := by
 cases op <;> first | rfl | simp [Em] at h
theorem Ly {op : Op} (h : Id op = true) : Dl op = false := by
 cases op <;> first | rfl | simp [Id] at h
theorem JB.of_stL (hPM : ∀ m o, ops[m]? = some o → PM G H ops s0 E F anc m o) {L : Nat → Bool} (hc : Gz ops L) {i : Nat} {o : Oper} (hi : ops[i]? = some o) (hLi : L i = false)
 (hready : ∀ e, e ∈ o.after.toList → Region.binds .any e = true → L e.on = true) :
 JB (Ub ops E (fun _ => true) s0 i) (Ub ops E L s0 ops.size) o ∧ (∀ t, t ∈ (F i).rt → Na (Ub ops E L s0 ops.size).tm t = Na (Ub ops E (fun _ => true) s0 i).tm t) ∧
  (∀ m, m < ops.size → i < m → L m = true → Im (F m) (F i)) := by
 have hin : i < ops.size := (Array.getElem?_eq_some_iff.1 hi).1
 have hF : ∀ m o, ops[m]? = some o → (F m).wt = o.dst ∧ (F m).wi = (E m).2.map (·.1) ∧ (F m).mi = (E m).1.ids ++ Jh (E m).2 := fun m o ho => ⟨(hPM m o ho).fp.wt, (hPM m o ho).fp.wi, (hPM m o ho).fp.mi⟩
 have hgt : ∀ m, m < ops.size → i < m → L m = true → Im (F m) (F i) := by
  intro m hm him hL
  have hom : ops[m]? = some ops[m] := Array.getElem?_eq_getElem hm
  rcases (hPM m _ hom).ind i him with h | h
  ·have := Pq hPM hc (m + 1) m (by omega) hm hL i h
   rw [hLi] at this; simp at this
  ·exact (AA h).symm
 have hd : ∀ m, m < ops.size → L m ≠ Nat.blt m i → Im (F m) (F i) := by
  intro m hm hne
  rcases Nat.lt_trichotomy m i with h | h | h
  ·have hb : Nat.blt m i = true := by rw [Nat.blt_eq]; exact h
   have hL : L m = false := by
    rw [hb] at hne
    simpa using hne
   rcases (hPM i _ hi).ind m h with h' | h'
   ·exfalso
    obtain ⟨e, he, hbn, hxe⟩ := (hPM i _ hi).up m h'
    have h1 := hready e he hbn
    rcases hxe with rfl | hxe
    ·rw [hL] at h1; simp at h1
    ·have h2 := (hPM i _ hi).back e he hbn
     have := Pq hPM hc (e.on + 1) e.on (by omega) (by omega) h1 m hxe
     rw [hL] at this; simp at this
   ·exact AA h'
  ·subst h
   exfalso
   apply hne
   rw [hLi]
   have : Nat.blt m m = false := by rw [← j8, Nat.blt_eq]; omega
   exact this.symm
  ·have hb : Nat.blt m i = false := by
    rw [← j8, Nat.blt_eq]; omega
   have hL : L m = true := by
    rw [hb] at hne
    simpa using hne
   exact hgt m hm h hL
 obtain ⟨a1, a2, a3⟩ := Dy (ops := ops) (s0 := s0) (f := F i) hF hd ops.size (jo _)
 have hst : Ub ops E (fun j => Nat.blt j i) s0 ops.size = Ub ops E (fun _ => true) s0 i := by
  rw [Cv (i := i) ops.size (by omega) fun j h1 h2 => by
   show Nat.blt j i = false
   rw [← j8, Nat.blt_eq]; omega]
  exact Gj i fun j hj => ⟨rfl, by rw [Nat.blt_eq]; exact hj⟩
 rw [hst] at a1 a2 a3
 have fp := (hPM i _ hi).fp
 refine ⟨⟨fun x hx => Pw hx fun t ht => a1 t (fp.rt t ht), fun hmv hsp x hx d hd' id hm => a2 id ((fp.ri hmv x hx d hd' id (.inl hm)).resolve_right fun h => by rw [hsp] at h; simp at h),
  fun hsp x hx d hd' id hm => ?_, fun id hid => a3 id (by rw [fp.wt]; exact hid),
  fun hcl hsp x hx bid p hev ρ d hb id hm => a2 id ((fp.ri (Oz hcl) x hx _ hev id (.inr ⟨hcl, by simp only [Wn, hb]; exact Ao.1 hm⟩)).resolve_right fun h => by rw [hsp] at h; simp at h)⟩, a1, hgt⟩
 rcases fp.ri (Ly hsp) x hx d hd' id (.inl hm) with h | h
 ·rw [a2 id h]
 ·have hh : ∀ j o, ops[j]? = some o → Qr H (Ub ops E (fun _ => true) s0 j) (E j) := fun j o ho => (hPM j o ho).hard
  rw [Bv ops.size (jo _) (fun j o _ ho => hh j o ho) id h.2, Bv i (Nat.le_of_lt hin) (fun j o _ ho => hh j o ho) id h.2]
theorem Fu {s : AS} {dst : Option Tmp} {e : Ef} (hd : ∀ t, dst = some t → t < s.n) {Out : Type} {k : AS → Option Out} : Ke s dst e.1 e.2 k = k (putE s dst e) := by
 cases dst with
 | none => rfl
 | some t =>
  have : Nat.blt t s.n = true := by rw [Nat.blt_eq]; exact hd t rfl
  simp only [Ke, this, cond_true, putE]
  rfl
theorem VH (hG : Kg P A.I G) (hfz : G.fz = true → ∀ b, ¬ A.A b) (hPM : ∀ m o, ops[m]? = some o → PM G H ops s0 E F anc m o)
 (hQ : ∀ σ φ a w, Ja n0 A O0 w0 (Ub ops E (fun _ => true) s0 ops.size) σ φ a w → Q .normal a w) :
 ∀ (fuel : Nat) (listed : Array Bool) (σ : Nat → Value) (φ : Nat → List Nat) (a : Act) (w : World), listed.size = ops.size → (List.range ops.size).countP (fun j => !listed.getD j true) ≤ fuel →
  Gz ops (Xh listed) → Ja n0 A O0 w0 (Ub ops E (Xh listed) s0 ops.size) σ φ a w → wpAny P .any ops Q fuel listed a w := by
 intro fuel
 have fin' : ∀ (listed : Array Bool) (σ : Nat → Value) (φ : Nat → List Nat) (a : Act) (w : World), listed.size = ops.size → Region.ready .any ops listed = [] →
  Ja n0 A O0 w0 (Ub ops E (Xh listed) s0 ops.size) σ φ a w → Q .normal a w := by
  intro listed σ φ a w hsz hr h
  refine hQ σ φ a w ?_
  rw [← Gj (L := Xh listed) ops.size fun j hj => ⟨rfl, Jv hPM hsz hr (j + 1) j (by omega) hj⟩]
  exact h
 induction fuel with
 | zero =>
  intro listed σ φ a w hsz hcnt hc h
  have hr : Region.ready .any ops listed = [] := by
   rw [List.eq_nil_iff_forall_not_mem]
   intro i hi
   obtain ⟨h1, h2, _⟩ := Ps.1 hi
   have : 0 < (List.range ops.size).countP (fun j => !listed.getD j true) := List.countP_pos_iff.2 ⟨i, List.mem_range.2 h1, by rw [h2]; rfl⟩
   omega
  exact ⟨hr, fin' listed σ φ a w hsz hr h⟩
 | succ fuel ih =>
  intro listed σ φ a w hsz hcnt hc h
  refine ⟨fun hr => fin' listed σ φ a w hsz hr h, fun i hi => ?_⟩
  obtain ⟨hin, hun, o, ho, hed⟩ := Ps.1 hi
  have hil : i < listed.size := by omega
  have hLi : Xh listed i = false := by
   unfold Xh
   simp [Array.getD, hil] at hun ⊢
   exact hun
  obtain ⟨hag, htm, hgt⟩ := JB.of_stL hPM hc ho hLi hed
  have pm := hPM i o ho
  have hF : ∀ m o, ops[m]? = some o → (F m).wt = o.dst ∧ (F m).wi = (E m).2.map (·.1) ∧ (F m).mi = (E m).1.ids ++ Jh (E m).2 := fun m o ho => ⟨(hPM m o ho).fp.wt, (hPM m o ho).fp.wi, (hPM m o ho).fp.mi⟩
  have hadd := HC (s0 := s0) (L := Xh listed) ho hF hLi hgt ops.size hin (jo _)
  have hset : ∀ j, Xh (listed.setIfInBounds i true) j = (Xh listed j || Nat.beq j i) := by
   intro j
   unfold Xh
   by_cases hji : j = i
   ·subst hji
    simp [Array.getD, hil]
   ·have hb : Nat.beq j i = false := by rw [← j8]; intro e; exact hji (ju e)
    rw [hb, Bool.or_false]
    simp only [Array.getD_eq_getD_getElem?]
    rw [Array.getElem?_setIfInBounds_ne (fun e => hji e.symm)]
  have next : ∀ σ φ a w, Ja n0 A O0 w0 (putE (Ub ops E (Xh listed) s0 ops.size) o.dst (E i)) σ φ a w → wpAny P .any ops Q fuel (listed.setIfInBounds i true) a w := by
   intro σ φ a w h
   have h2 := h.eqv hadd
   have h3 : Ub ops E (fun j => Xh listed j || Nat.beq j i) s0 ops.size = Ub ops E (Xh (listed.setIfInBounds i true)) s0 ops.size := Gj ops.size fun j _ => ⟨rfl, (hset j).symm⟩
   rw [h3] at h2
   refine ih (listed.setIfInBounds i true) σ φ a w (by simpa using hsz) ?_ ?_ h2
   ·have hlt := AH (p := fun j => !listed.getD j true) (q := fun j => !(listed.setIfInBounds i true).getD j true) (i := i) ?_ (by simp only [hun, Bool.not_false]) ?_ ops.size hin
    ·omega
    ·intro j hj
     by_cases hji : j = i
     ·subst hji; simp [hun]
     ·simp only [Array.getD_eq_getD_getElem?] at hj ⊢
      rw [Array.getElem?_setIfInBounds_ne (fun e => hji e.symm)] at hj
      exact hj
    ·simp [Array.getD, hil]
   ·intro j oj hoj hL e he hbn
    rw [hset] at hL ⊢
    cases hLj : Xh listed j with
    | true => rw [hc j oj hoj hLj e he hbn]; rfl
    | false =>
     rw [hLj, Bool.false_or] at hL
     have := ju hL
     subst this
     rw [ho] at hoj
     simp only [jc] at hoj
     subst hoj
     have := hed e he hbn
     unfold Xh
     rw [this]; rfl
  have hdn : ∀ t, o.dst = some t → t < (Ub ops E (Xh listed) s0 ops.size).n := fun t ht => by rw [Hw]; exact pm.dst t ht
  have run : Nt G (Ub ops E (fun _ => true) s0 i) o (E i) → o.wp P a w (wpAny P .any ops Q fuel (listed.setIfInBounds i true)) Q := by
   intro hE
   have hE' := hE.congr hag
   have : Qc G (Ub ops E (Xh listed) s0 ops.size) o some = some (putE (Ub ops E (Xh listed) s0 ops.size) o.dst (E i)) := by
    unfold Qc
    rw [hE']
    exact Fu hdn
   refine Oper.wp_mono ?_ (YD hG hfz h this)
   rintro a w ⟨s2, σ', φ', h1, h2⟩
   simp only [jc] at h1
   subst h1
   exact next σ' φ' a w h2
  have skp : E i = (.und, []) → wpAny P .any ops Q fuel (listed.setIfInBounds i true) (a.put o.dst undef) w := by
   intro hE
   have := EC (dst := o.dst) (k := some) (out := putE (Ub ops E (Xh listed) s0 ops.size) o.dst (.und, [])) h (Fu (e := (.und, [])) hdn)
   obtain ⟨s2, σ', φ', h1, h2⟩ := this
   simp only [jc] at h1
   subst h1
   rw [← hE] at h2
   exact next σ' φ' _ w h2
  have hst := pm.step
  unfold wpOp
  rw [ho]
  simp only []
  unfold Kq at hst
  cases hg : o.guard with
  | none =>
   rw [hg] at hst
   rw [if_pos (by simp [Region.wanted, hg])]
   exact .inl (run hst)
  | some g =>
   obtain ⟨j, want⟩ := g
   rw [hg] at hst
   obtain ⟨t, ht, hst⟩ := hst
   have htr : t ∈ (F i).rt := pm.fp.rg j want t hg ht
   have hlook := htm t htr
   rcases hst with ⟨β, hd, hst⟩ | ⟨hd, hst⟩
   ·rw [hd] at hlook
    have hy := Ys h ht hlook
    have hwd : Region.wanted o (yielded ops a.tmps) = (some β == some want) := by simp [Region.wanted, hg, hy]
    rw [hwd]
    by_cases hβ : β = want
    ·subst hβ
     rw [if_pos (by simp)]
     rw [if_pos rfl] at hst
     exact .inl (run hst)
    ·rw [if_neg (by simpa using hβ)]
     rw [if_neg hβ] at hst
     exact skp hst
   ·rw [hd] at hlook
    have hy := Zt h ht hlook
    have hwd : Region.wanted o (yielded ops a.tmps) = false := by simp [Region.wanted, hg, hy]
    rw [hwd, if_neg (by simp)]
    exact skp hst
end
structure Ee (s s' : AS) : Prop extends Eqv s s' where
 nw : ∀ id, s'.newOk id = s.newOk id
theorem Ee.refl (s : AS) : Ee s s := ⟨Eqv.refl s, fun _ => rfl⟩
theorem Ee.agr {s s' : AS} (h : Ee s s') (o : Oper) : JB s s' o :=
 ⟨fun _ hx => Pw hx fun t _ => h.tm t, fun _ _ _ _ _ _ id _ => h.hp id, fun _ _ _ _ _ id _ => by rw [h.hp id], fun id _ => h.nw id, fun _ _ _ _ _ _ _ _ _ _ id _ => h.hp id⟩
theorem Ee.symm {s s' : AS} (h : Ee s s') : Ee s' s := ⟨h.toEqv.symm, fun id => (h.nw id).symm⟩
theorem Ee.trans {s1 s2 s3 : AS} (h : Ee s1 s2) (h' : Ee s2 s3) : Ee s1 s3 := ⟨h.toEqv.trans h'.toEqv, fun id => (h'.nw id).trans (h.nw id)⟩
theorem Ee.putE {s s' : AS} (h : Ee s s') (dst : Option Tmp) (e : Ef) : Ee (KF.putE s dst e) (KF.putE s' dst e) := by
 refine ⟨⟨h.n, fun t => ?_, fun id => ?_⟩, fun id => ?_⟩
 ·rw [Jj, Jj, h.tm t]
 ·rw [Gi, Gi, h.hp id]
 ·have e0 := h.nw id
  unfold AS.newOk at e0 ⊢
  simp only [AS.ment, KF.putE, List.any_append] at e0 ⊢
  revert e0
  generalize ((match dst with | some t => [(t, e.1)] | none => []).any fun x => x.2.ment id) = b1
  generalize (e.2.any fun x => (x.2.map (Ca.ment id)).getD false) = b2
  generalize (s.tm.any fun x => x.2.ment id) = c1
  generalize (s.hp.any fun x => (x.2.map (Ca.ment id)).getD false) = c2
  generalize (s'.tm.any fun x => x.2.ment id) = d1
  generalize (s'.hp.any fun x => (x.2.map (Ca.ment id)).getD false) = d2
  generalize Nat.blt id 500000 = z
  cases b1 <;> cases b2 <;> cases c1 <;> cases c2 <;> cases d1 <;> cases d2 <;> cases z <;> simp
theorem Ee.refine {s : AS} {t : Nat} {β : Bool} (hd : Na s.tm t = some (.t .b β)) : Ee s ⟨s.n, (t, .t .b β) :: s.tm, s.hp⟩ := by
 refine ⟨⟨rfl, fun t' => ?_, fun _ => rfl⟩, fun id => ?_⟩
 ·rw [Kb]
  split
  ·rename_i e; subst e; exact hd.symm
  ·rfl
 ·simp [AS.newOk, AS.ment, D.ment]
theorem Mz {s s' : AS} (h : ∀ j, s'.heap j = s.heap j) (d : D) : Wn s d = Wn s' d := by
 cases d with
 | ptr id p => simp only [Wn, h id]
 | _ => rfl
def KI (s : AS) (u : List (Nat × Option Ca)) : Prop := u = [] ∨ ∃ id b tl, u = (id, some b) :: tl ∧ (s.heap id).map Ca.kind = some b.kind
theorem Ux {s : AS} {dst : Option Tmp} {τ : Ty} {id i : Nat} {e : Ty} {xs : List (T e)} {k : Nat} {ef : Ef} (hs : (s.heap id).map Ca.kind = some (none, some (e, ja xs)))
 (h : Yh s dst τ id i e xs k (fun d u => some (d, u)) = some ef) : KI s ef.2 := by
 unfold Yh at h
 split at h
 ·cases hb : Nat.beq i k with
  | false => rw [hb] at h; simp at h
  | true =>
   rw [hb] at h
   simp only [cond_true, qd] at h
   obtain ⟨x, hx, h⟩ := h
   simp only [Aa, jc] at h
   obtain ⟨_, rfl⟩ := h
   exact .inr ⟨id, _, _, rfl, hs⟩
 ·simp at h
theorem YC {α : Type} {c : Bool} {a b : Option α} {x : α} (h : (bif c then a else b) = some x) : a = some x ∨ b = some x := by cases c <;> simp_all
theorem HJ {G : Mc} {s : AS} {o : Oper} {ef : Ef} (hk : It o.op = true) (h : Qa G s o (fun d u => some (d, u)) = some ef) : KI s ef.2 := by
 cases ho : o.op with
 | load t x =>
  simp only [Qa, ho] at h
  split at h
  ·split at h
   ·split at h
    ·split at h
     ·simp only [jc] at h; rw [← h]; exact .inl rfl
     ·simp at h
    ·simp at h
   ·simp at h
  ·split at h
   ·simp only [jc] at h; rw [← h]; exact .inl rfl
   ·simp at h
  ·rename_i τ id i path _ _
   cases hml : ED G o.dst with
   | true =>
    rw [hml] at h
    simp only [cond_true] at h
    split at h
    ·rename_i hb hz; exact Ux (by rw [hb]; rfl) h
    ·rename_i hb hz; exact Ux (by rw [hb]; rfl) h
    ·simp at h
   | false =>
    rw [hml] at h
    simp only [cond_false] at h
    split at h
    ·rename_i e dp xs hb
     simp only [qd] at h
     obtain ⟨x, hx, h⟩ := h
     split at h
     ·split at h
      ·rcases YC h with h | h
       ·simp only [jc] at h; rw [← h]; exact .inl rfl
       ·split at h
        ·simp only [Aa, jc] at h
         obtain ⟨_, rfl⟩ := h
         exact .inr ⟨id, _, _, rfl, by rw [hb]; rfl⟩
        ·simp at h
      ·simp at h
     ·simp at h
    ·simp at h
  ·simp at h
 | store t x v =>
  simp only [Qa, ho] at h
  split at h
  ·rename_i τ id path dv _ _ _
   split at h
   ·rename_i ρ d hb
    split at h
    ·split at h
     ·simp only [Aa, jc] at h
      obtain ⟨_, rfl⟩ := h
      exact .inr ⟨id, _, _, rfl, by rw [hb]; rfl⟩
     ·simp at h
    ·simp at h
   ·simp at h
  ·rename_i τ id i path dv _ _ _
   split at h
   ·rename_i e dp xs hb
    split at h
    ·split at h
     ·cases hc : (dp || e.flat) with
      | true =>
       rw [hc] at h
       simp only [cond_true] at h
       split at h
       ·simp only [Aa, qd] at h
        obtain ⟨_, x, hx, h⟩ := h
        split at h
        ·simp only [jc] at h; rw [← h]
         exact .inr ⟨id, _, _, rfl, by rw [hb]; simp [Ca.kind]⟩
        ·simp at h
       ·simp at h
      | false =>
       rw [hc] at h
       simp only [cond_false] at h
       split at h
       ·simp only [qd] at h
        obtain ⟨x, hx, h⟩ := h
        split at h
        ·simp only [jc] at h; rw [← h]
         exact .inr ⟨id, _, _, rfl, by rw [hb]; simp [Ca.kind]⟩
        ·simp at h
       ·simp at h
     ·simp at h
    ·simp at h
   ·rename_i e xs i0 x path0 τ0 d0 hb
    split at h
    ·split at h
     ·split at h
      ·simp only [Aa] at h
       obtain ⟨_, _, h⟩ := h
       split at h
       ·simp only [jc] at h; rw [← h]
        exact .inr ⟨id, _, _, rfl, by rw [hb]; simp [Ca.kind]⟩
       ·simp at h
      ·simp at h
     ·simp at h
    ·simp at h
   ·simp at h
  ·simp at h
 | _ => rw [ho] at hk; simp [It] at hk
theorem Rw {G : Mc} {s : AS} {o : Oper} {ef : Ef} {H : List Nat} (h : Nt G s o ef) (hb : Pv H o.op ef.2 = true) : Qr H s ef := by
 intro id hid hm
 unfold Pv at hb
 split at hb
 ·simp at hid
 ·cases hk : It o.op with
  | false =>
   rw [hk] at hb
   simp only [cond_false, Bool.not_eq_true'] at hb
   exact absurd hm (Ck hb id hid)
  | true =>
   rw [hk] at hb
   simp only [cond_true, Bool.not_eq_true'] at hb
   have hkp := HJ hk (h _ fun d u => some (d, u))
   rcases hkp with h0 | ⟨id0, b, tl, h0, h1⟩
   ·rw [h0] at hm; simp at hm
   ·rw [h0] at hm hb ⊢
    rcases jp.1 hm with e | hm
    ·subst e
     simp only [Kb, if_true, Option.join_some, qa]
     exact h1.symm
    ·exact absurd hm (Ck hb id hid)
theorem Zv {H : List Nat} {x : Nat} : ∀ {l : List Nat}, x ∈ l → x ∈ Ks H l ∨ x ∈ H
 | y :: l, h => by
  simp only [Ks]
  rcases jp.1 h with e | h
  ·subst e
   cases hm : Ul H x with
   | true => exact .inr (Vq.1 hm)
   | false => exact .inl (by simp)
  ·refine (Zv h).imp (fun h => ?_) id
   cases Ul H y with
   | true => exact h
   | false => exact jr _ h
theorem Rx {s : AS} {c : Bool} : ∀ {l : List Operand} {x : Operand} {d : D} {id : Nat}, x ∈ l → s.ev x = some d → (d.ment id = true ∨ (c = true ∧ id ∈ Wn s d)) → id ∈ To s c l
 | [], _, _, _, h, _, _ => by simp at h
 | y :: l, x, d, id, h, hd, hm => by
  rcases jp.1 h with e | h
  ·subst e
   simp only [To, hd]
   refine List.mem_append_left _ (jl.2 ?_)
   refine hm.imp Ao.1 ?_
   rintro ⟨rfl, h⟩
   exact h
  ·have ih := Rx h hd hm
   simp only [To]
   split
   ·exact List.mem_append_right _ ih
   ·exact ih
section
variable {P : Program} {n0 : Nat} {A : Fx} {O0 : Nat → Prop} {w0 : World} {G : Mc} {ops : Array Oper} {s0 : AS} {E : Nat → Ef} {F : Nat → FP} {anc : Nat → List Nat} {H : List Nat} {Q : Exit → Act → World → Prop}
variable {Out : Type} {k : AS → Option Out} {out : Out}
theorem PM.congr {E' : Nat → Ef} {F' : Nat → FP} {anc' : Nat → List Nat} {m : Nat} {o : Oper} (h : PM G H ops s0 E F anc m o) (hE : ∀ j, j ≤ m → E j = E' j ∧ F j = F' j ∧ anc j = anc' j) : PM G H ops s0 E' F' anc' m o := by
 have hst : Ub ops E (fun _ => true) s0 m = Ub ops E' (fun _ => true) s0 m := Gj m fun j hj => ⟨(hE j (by omega)).1, rfl⟩
 obtain ⟨e1, e2, e3⟩ := hE m (jo _)
 refine ⟨by rw [← hst, ← e1]; exact h.step, by rw [← hst, ← e1, ← e2]; exact h.fp, h.dst, h.back, ?_, ?_, by rw [← hst, ← e1]; exact h.hard⟩
 ·intro x hx
  rw [← e3] at hx
  obtain ⟨e, he, hb, hxe⟩ := h.up x hx
  refine ⟨e, he, hb, hxe.imp id fun hxe => ?_⟩
  rw [← (hE e.on (Nat.le_of_lt (h.back e he hb))).2.2]
  exact hxe
 ·intro j hj
  rw [← e3, ← e2, ← (hE j (by omega)).2.1]
  exact h.ind j hj
theorem Iv : ∀ {r l : List Nat} {x : Nat}, x ∈ Hv r l → x ∈ r ∨ x ∈ l
 | [], _, _, h => .inr h
 | y :: r, l, x, h => by
  simp only [Hv] at h
  rcases Iv h with h | h
  ·exact .inl (jr _ h)
  ·cases hm : Ul l y with
   | true => rw [hm] at h; exact .inr h
   | false =>
    rw [hm] at h
    rcases jp.1 h with h | h
    ·exact .inl (by rw [h]; simp)
    ·exact .inr h
theorem Ur {prev : List (Nat × (List Nat × FP))} : ∀ {es : List Edge} {l : List Nat} {x : Nat}, x ∈ Ft prev es l → x ∈ l ∨ ∃ e, e ∈ es ∧ Region.binds .any e = true ∧ (x = e.on ∨ ∃ p, Na prev e.on = some p ∧ x ∈ p.1)
 | [], l, x, h => .inl h
 | e :: es, l, x, h => by
  simp only [Ft] at h
  cases hb : Region.binds .any e with
  | false =>
   rw [hb] at h
   rcases Ur h with h | ⟨e', he', hb', hx⟩
   ·exact .inl h
   ·exact .inr ⟨e', jr _ he', hb', hx⟩
  | true =>
   rw [hb] at h
   rcases Ur h with h | ⟨e', he', hb', hx⟩
   ·rcases Iv h with h | h
    ·refine .inr ⟨e, by simp, hb, ?_⟩
     rcases jp.1 h with h | h
     ·exact .inl h
     ·split at h
      ·rename_i a f hp; exact .inr ⟨_, hp, h⟩
      ·simp at h
    ·exact .inl h
   ·exact .inr ⟨e', jr _ he', hb', hx⟩
theorem JC : ∀ (l : List Oper) (i : Nat) (prev : List (Nat × (List Nat × FP))) (s : AS) (E : Nat → Ef) (F : Nat → FP) (anc : Nat → List Nat), ops.toList.drop i = l → Ml G H ops l i prev s k = some out →
 Ee (Ub ops E (fun _ => true) s0 i) s → (∀ j, j < i → Na prev j = some (anc j, F j)) → (∀ m o, m < i → ops[m]? = some o → PM G H ops s0 E F anc m o) →
 ∃ E F anc, (∀ m o, ops[m]? = some o → PM G H ops s0 E F anc m o) ∧ ∃ sf, k sf = some out ∧ Eqv (Ub ops E (fun _ => true) s0 ops.size) sf
 | [], i, prev, s, E, F, anc, hl, he, hs, hprev, hPM => by
  have hi : ops.size ≤ i := by
   have := congrArg ja hl
   simp at this
   omega
  have hst : Ub ops E (fun _ => true) s0 i = Ub ops E (fun _ => true) s0 ops.size := by
   clear hs he hl hprev hPM
   induction i with
   | zero =>
    have : ops.size = 0 := by omega
    rw [this]
   | succ i ih =>
    by_cases h : ops.size = i + 1
    ·rw [h]
    ·rw [← ih (by omega)]
     have : ops[i]? = none := Array.getElem?_eq_none (by omega)
     simp only [Ub, this]
  refine ⟨E, F, anc, fun m o ho => hPM m o ?_ ho, s, he, by rw [← hst]; exact hs.toEqv⟩
  have := (Array.getElem?_eq_some_iff.1 ho).1
  omega
 | o :: l, i, prev, s, E, F, anc, hl, he, hs, hprev, hPM => by
  have hi : i < ops.size := by
   have := congrArg ja hl
   simp at this
   omega
  have hoi : ops[i]? = some o := by
   have h1 := congrArg (·[0]?) hl
   simpa using h1
  have hl' : ops.toList.drop (i + 1) = l := by
   have h1 := congrArg (List.drop 1) hl
   simpa [List.drop_drop, Nat.add_comm] using h1
  have next : ∀ (an : List Nat) (f : FP) (e : Ef) (sx : AS), an = Ft prev o.after.toList [] → (∀ e, e ∈ o.after.toList → Region.binds .any e = true → e.on < i) → Xm an f prev = true → Ee s sx →
   Kq G ops (Ub ops E (fun _ => true) s0 i) o e → TG H ops (Ub ops E (fun _ => true) s0 i) o e f → Qr H (Ub ops E (fun _ => true) s0 i) e → Ke sx o.dst e.1 e.2 (fun s' => Ml G H ops l (i + 1) ((i, (an, f)) :: prev) s' k) = some out →
   ∃ E F anc, (∀ m o, ops[m]? = some o → PM G H ops s0 E F anc m o) ∧ ∃ sf, k sf = some out ∧ Eqv (Ub ops E (fun _ => true) s0 ops.size) sf := by
   intro an f e sx han hback hok hsx hstep hfp hhard hfin
   have hdst : ∀ t, o.dst = some t → t < sx.n := by
    intro t ht
    unfold Ke at hfin
    rw [ht] at hfin
    simp only at hfin
    cases hb : Nat.blt t sx.n with
    | true => rwa [Nat.blt_eq] at hb
    | false => rw [hb] at hfin; simp at hfin
   rw [Fu hdst] at hfin
   have hn : sx.n = s0.n := by rw [hsx.n, hs.n, Hw]
   have hEi : ∀ j, j < i → E j = (fun j => if j = i then e else E j) j ∧ F j = (fun j => if j = i then f else F j) j ∧ anc j = (fun j => if j = i then an else anc j) j := by
    intro j hj
    have : j ≠ i := by omega
    simp [this]
   have hst : Ub ops E (fun _ => true) s0 i = Ub ops (fun j => if j = i then e else E j) (fun _ => true) s0 i := Gj i fun j hj => ⟨(hEi j hj).1, rfl⟩
   refine JC l (i + 1) _ _ (fun j => if j = i then e else E j) (fun j => if j = i then f else F j) (fun j => if j = i then an else anc j) hl' hfin ?_ ?_ ?_
   ·have : Ub ops (fun j => if j = i then e else E j) (fun _ => true) s0 (i + 1) = putE (Ub ops E (fun _ => true) s0 i) o.dst e := by
     rw [hst]
     simp only [Ub, hoi, cond_true, if_true]
    rw [this]
    exact (hs.trans hsx).putE _ _
   ·intro j hj
    rw [Kb]
    by_cases hji : i = j
    ·subst hji; simp
    ·have hne : j ≠ i := fun e => hji e.symm
     rw [if_neg hji, hprev j (by omega)]
     simp [hne]
   ·intro m om hm hom
    by_cases hmi : m = i
    ·subst hmi
     rw [hoi] at hom
     simp only [jc] at hom
     subst hom
     refine ⟨?_, ?_, fun t ht => by rw [← hn]; exact hdst t ht, hback, ?_, ?_, by rw [← hst]; simpa using hhard⟩
     ·rw [← hst]; simpa using hstep
     ·rw [← hst]; simpa using hfp
     ·intro x hx
      simp only [if_true] at hx
      rw [han] at hx
      rcases Ur hx with hx | ⟨e', he', hb', hx⟩
      ·simp at hx
      ·have hlt := hback e' he' hb'
       refine ⟨e', he', hb', hx.imp id ?_⟩
       rintro ⟨p, hp, hxp⟩
       rw [hprev _ hlt] at hp
       simp only [jc] at hp
       subst hp
       have : e'.on ≠ m := by omega
       simpa [this] using hxp
     ·intro j hj
      have hok' := hok
      unfold Xm at hok'
      rw [List.all_eq_true] at hok'
      have hmem := Si (hprev j hj)
      have h1 := hok' _ hmem
      simp only [Bool.or_eq_true] at h1
      have hjm : j ≠ m := by omega
      simp only [if_true, hjm, if_false]
      exact h1.imp Vq.1 id
    ·exact (hPM m om (by omega) hom).congr fun j hj => hEi j (by omega)
  have hfpOk : ∀ (g : List Nat) (e : Ef), (∀ j want t, o.guard = some (j, want) → (ops[j]?).bind (·.dst) = some t → t ∈ g) → TG H ops (Ub ops E (fun _ => true) s0 i) o e (Qw H s o g e.1 e.2) := by
   intro g e hg
   refine ⟨rfl, rfl, rfl, fun t ht => List.mem_append_right _ ht, fun j want t hgu ht => List.mem_append_left _ (hg j want t hgu ht), fun hmv x hx d hd id hm => ?_⟩
   have hmem : id ∈ To s (Em o.op) (Gb o.op) := by
    refine Rx hx ?_ (hm.imp (fun h => h) fun h => ⟨h.1, (Mz (fun j => hs.hp j) d) ▸ h.2⟩)
    rw [← hd]
    exact Pw hx fun t _ => hs.tm t
   show id ∈ (bif Dl o.op then [] else bif Id o.op then _ else _) ∨ _
   rw [hmv]
   cases hsp : Id o.op with
   | false => exact .inl hmem
   | true => exact (Zv hmem).imp (fun h => h) fun h => ⟨rfl, h⟩
  simp only [Ml] at he
  cases hbk : WC i o.after.toList with
  | false => rw [hbk] at he; simp at he
  | true =>
   rw [hbk] at he
   simp only [cond_true] at he
   have hback : ∀ e, e ∈ o.after.toList → Region.binds .any e = true → e.on < i := by
    intro e hem hbe
    unfold WC at hbk
    rw [List.all_eq_true] at hbk
    have := hbk e hem
    rw [hbe] at this
    simp only [jg, Bool.false_or] at this
    rwa [Nat.blt_eq] at this
   have hEff : ∀ (sx : AS) (K : D → List (Nat × Option Ca) → Option Out), Ee s sx → Qa G sx o K = some out → ∃ e : Ef, K e.1 e.2 = some out ∧ Nt G (Ub ops E (fun _ => true) s0 i) o e := by
    intro sx K hsx hK
    obtain ⟨d, u, h1, h2⟩ := YG hK
    refine ⟨(d, u), h1, ?_⟩
    have : Nt G sx o (d, u) := h2
    exact this.congr ((hs.trans hsx).symm.agr o)
   cases hg : o.guard with
   | none =>
    rw [hg] at he
    simp only at he
    obtain ⟨e, h1, h2⟩ := hEff s _ (Ee.refl s) he
    simp only [Aa, jd] at h1
    exact next _ _ e s rfl hback h1.1.1 (Ee.refl s) (by unfold Kq; rw [hg]; exact h2) (hfpOk [] e (by intro j want t hgu; rw [hg] at hgu; simp at hgu)) (Rw h2 h1.1.2) h1.2
   | some g =>
    obtain ⟨j, want⟩ := g
    rw [hg] at he
    simp only at he
    split at he
    ·rename_i t ht
     have hgt : ∀ j' want' t', o.guard = some (j', want') → (ops[j']?).bind (·.dst) = some t' → t' ∈ [t] := by
      intro j' want' t' hgu ht'
      rw [hg] at hgu
      simp only [jc, jh] at hgu
      obtain ⟨rfl, rfl⟩ := hgu
      rw [ht] at ht'
      simp only [jc] at ht'
      rw [ht']; simp
     split at he
     ·rename_i β hd
      have hdst : Na (Ub ops E (fun _ => true) s0 i).tm t = some (.t .b β) := by rw [← hs.tm]; exact hd
      have goal1 : ∀ e : Ef, (if β = want then Nt G (Ub ops E (fun _ => true) s0 i) o e else e = (.und, [])) → Kq G ops (Ub ops E (fun _ => true) s0 i) o e := by
       intro e h
       unfold Kq
       rw [hg]
       exact ⟨t, ht, .inl ⟨β, hdst, h⟩⟩
      cases hβ : (show Bool from β) with
      | true =>
       have hβ' : β = true := hβ
       subst hβ'
       simp only [cond_true] at he
       cases want with
       | true =>
        simp only [cond_true] at he
        obtain ⟨e, h1, h2⟩ := hEff _ _ (Ee.refine hd) he
        simp only [Aa, jd] at h1
        exact next _ _ e _ rfl hback h1.1.1 (Ee.refine hd) (goal1 e (by rw [if_pos rfl]; exact h2)) (hfpOk [t] e hgt) (Rw h2 h1.1.2) h1.2
       | false =>
        simp only [cond_false, Aa] at he
        exact next _ _ (.und, []) _ rfl hback he.1 (Ee.refine hd) (goal1 _ (by rw [if_neg (by simp)])) (hfpOk [t] (.und, []) hgt) (by intro id _ hm; simp at hm) he.2
      | false =>
       have hβ' : β = false := hβ
       subst hβ'
       simp only [cond_false] at he
       cases want with
       | true =>
        simp only [cond_true, Aa] at he
        exact next _ _ (.und, []) _ rfl hback he.1 (Ee.refine hd) (goal1 _ (by rw [if_neg (by simp)])) (hfpOk [t] (.und, []) hgt) (by intro id _ hm; simp at hm) he.2
       | false =>
        simp only [cond_false] at he
        obtain ⟨e, h1, h2⟩ := hEff _ _ (Ee.refine hd) he
        simp only [Aa, jd] at h1
        exact next _ _ e _ rfl hback h1.1.1 (Ee.refine hd) (goal1 e (by rw [if_pos rfl]; exact h2)) (hfpOk [t] e hgt) (Rw h2 h1.1.2) h1.2
     ·rename_i hd
      simp only [Aa] at he
      refine next _ _ (.und, []) s rfl hback he.1 (Ee.refl s) ?_ (hfpOk [t] (.und, []) hgt) (by intro id _ hm; simp at hm) he.2
      unfold Kq
      rw [hg]
      exact ⟨t, ht, .inr ⟨by rw [← hs.tm]; exact hd, rfl⟩⟩
     ·simp at he
    ·simp at he
theorem VB {n j : Nat} : Xh (Array.replicate n false) j = false := by
 unfold Xh
 rw [Array.getD_eq_getD_getElem?, Array.getElem?_replicate]
 split <;> rfl
theorem TF (hG : Kg P A.I G) (hfz : G.fz = true → ∀ b, ¬ A.A b) (hm : P.follows .mixedOrders = true) {id : Nat} {H : List Nat} {draw : Bool} {s : AS} {σ : Nat → Value} {φ : Nat → List Nat} {a : Act} {w : World} (h : Ja n0 A O0 w0 s σ φ a w)
 (he : (bif draw then Ml G H ops ops.toList 0 [] s k else Zl G id ops ops.toList 0 s k) = some out) (hQ : ∀ a w, Hc n0 A O0 w0 k out a w → Q .normal a w) : (Code.region id ops draw).wp P Q a w := by
 cases draw with
 | false =>
  simp only [cond_false] at he
  refine wp_region ?_
  have := LB (P := P) (Q := Q) hG hfz (fun s σ φ a w h1 h2 => hQ a w ⟨s, σ, φ, h1, h2⟩) ops.toList 0 s σ φ a w (by simp) he h
  simpa using this
 | true =>
  simp only [cond_true] at he
  obtain ⟨E, F, anc, hPM, sf, h1, h2⟩ := JC (s0 := s) ops.toList 0 [] s (fun _ => (.und, [])) (fun _ => ⟨[], [], none, [], []⟩) (fun _ => []) (by simp) he (Ee.refl s) (by intro j hj; omega) (by intro m o hm; omega)
  refine wp_region_any hm ?_
  refine VH hG hfz hPM (fun σ φ a w hc => hQ a w ⟨sf, σ, φ, h1, hc.eqv h2⟩) ops.size (Array.replicate ops.size false) σ φ a _ (by simp) ?_ ?_ ?_
  ·have := List.countP_le_length (p := fun j => !(Array.replicate ops.size false).getD j true) (l := List.range ops.size)
   simpa using this
  ·intro j o ho hL
   rw [VB] at hL
   simp at hL
  ·have : Ub ops E (Xh (Array.replicate ops.size false)) s ops.size = s := by
    rw [Cv (i := 0) ops.size (Nat.zero_le _) fun j _ _ => VB]
    rfl
   rw [this]
   exact h.drew
end
theorem NE {s : AS} : ∀ {td : TD} {d : D} {x : T td.ty} {m : Pe}, Zb s td d = some (x, m) → (Uh td x).isAgg = d.isAgg := by
 intro td
 cases td with
 | data τ =>
  intro d x m h
  simp only [Zb] at h
  split at h
  ·rename_i y hy
   simp only [jc, jh] at h
   obtain ⟨rfl, _⟩ := h
   have hs := (Nd (w := default) (σ := fun _ => undef) (O := fun _ => False) (hp := fun _ => none) hy).1
   rw [hs.isAgg]
   cases τ <;> rfl
  ·simp at h
 | own id e dp =>
  intro d x m h
  cases d <;> simp [Zb] at h <;> rfl
 | ptr id p =>
  intro d x m h
  cases d <;> simp [Zb] at h <;> rfl
 | hol id e p τ td =>
  intro d x m h
  cases d <;> simp [Zb] at h <;> rfl
 | arr id e =>
  intro d x m h
  cases d <;> first | rfl | (simp [Zb] at h; done)
 | mov id e =>
  intro d x m h
  cases d <;> simp [Zb] at h <;> rfl
 | mpo id k v =>
  intro d x m h
  cases d <;> simp [Zb] at h <;> rfl
 | pr a b =>
  intro d x m h
  simp only [Zb] at h
  cases d with
  | t τ v => cases τ <;> simp [D.fst] at h <;> rfl
  | pr u v => rfl
  | _ => simp [D.fst] at h
 | un =>
  intro d x m h
  simp only [Zb] at h
  split at h
  ·rename_i y hy
   have hs := (Nd (w := default) (σ := fun _ => undef) (O := fun _ => False) (hp := fun _ => none) hy).1
   rw [hs.isAgg]
   rfl
  ·simp at h
def Ir (m m' : Pe) : Prop := ∀ p, p ∈ m → p ∈ m'
section
variable {w : World} {s : AS} {σ σ' : Nat → Value} {O O' : Nat → Prop} {hp' : Nat → Option Ca} {m : Pe}
structure WK (s : AS) (σ σ' : Nat → Value) (hp' : Nat → Option Ca) (m : Pe) : Prop where
 isS : ∀ j i, (j, some i) ∈ m → σ' j = σ i
 isN : ∀ j, (j, none) ∈ m → σ' j = .slice none 0 0
 isB : ∀ j i ρ d, (j, some i) ∈ m → hp' j = some (.box ρ d) → ∃ d', s.heap i = some (.box ρ d')
 isR : ∀ j i Da r, (j, some i) ∈ m → hp' j = some Da → Da.rowN = some r → ∃ blk', s.heap i = some blk' ∧ blk'.rowN = some r
theorem Gt (hT : WK s σ σ' hp' m) (hO : ∀ b, b < w.heap.size → ¬ O b → ¬ O' b) : ∀ {td : TD} {d : D} {x : T td.ty} {m0 : Pe} {cs : List Value}, Zb s td d = some (x, m0) → Ir m0 m → Ka w O s.heap σ d cs →
 Ka w O' hp' σ' (Uh td x) cs := by
 intro td
 induction td with
 | data τ =>
  intro d x m0 cs h hm hr
  simp only [Zb] at h
  split at h
  ·rename_i y hy
   simp only [jc, jh] at h
   obtain ⟨rfl, _⟩ := h
   exact Ga.stable (fun _ _ _ => rfl) hO ((Nd hy).2 _ hr)
  ·simp at h
 | own id' e dp =>
  intro d x m0 cs h hm hr
  cases d with
  | own id =>
   simp only [Zb] at h
   split at h
   ·rename_i e' dp' xs hb
    split at h
    ·rename_i q hq
     subst q
     simp only [Aa] at h
     obtain ⟨_, h⟩ := h
     simp only [jc, jh] at h
     obtain ⟨rfl, rfl⟩ := h
     obtain ⟨v, hcs, h1, hv⟩ := hr
     refine ⟨v, hcs, h1, fun _ _ _ _ => ?_⟩
     rw [hT.isS id' id (hm _ (by simp))]
     exact hv _ _ hb rfl
    ·simp at h
   ·simp at h
  | nil =>
   simp only [Zb, jc, jh] at h
   obtain ⟨rfl, rfl⟩ := h
   simp only [Ka] at hr
   exact ⟨_, hr, rfl, fun _ _ _ _ => (hT.isN id' (hm _ (by simp))).symm⟩
  | _ => simp [Zb] at h
 | mpo id' k v =>
  intro d x m0 cs h hm hr
  cases d with
  | mpo id =>
   simp only [Zb] at h
   split at h
   ·rename_i k' v' xs hb
    split at h
    ·rename_i q1 q2 hq1 hq2
     subst q1
     subst q2
     simp only [jc, jh] at h
     obtain ⟨rfl, rfl⟩ := h
     obtain ⟨u, hcs, h1, hv⟩ := hr
     refine ⟨u, hcs, h1, fun _ _ _ _ => ?_⟩
     rw [hT.isS id' id (hm _ (by simp))]
     exact hv _ _ _ hb
    ·simp at h
   ·simp at h
  | _ => simp [Zb] at h
 | hol id' e p τ td _ =>
  intro d x m0 cs h hm hr
  cases d with
  | own id =>
   simp only [Zb] at h
   split at h
   ·rename_i e' xs i x1 p' τ' d' hb
    split at h
    ·simp only [Aa] at h
     obtain ⟨_, h⟩ := h
     split at h
     ·rename_i y m1 h1
      simp only [Aa] at h
      obtain ⟨_, h⟩ := h
      simp only [jc, jh] at h
      obtain ⟨rfl, rfl⟩ := h
      obtain ⟨v, hcs, h1, hv⟩ := hr
      refine ⟨v, hcs, h1, fun _ _ _ _ => ?_⟩
      rw [hT.isS id' id (hm _ (by simp))]
      exact hv _ _ hb rfl
     ·simp at h
    ·simp at h
   ·simp at h
  | _ => simp [Zb] at h
 | arr id' e =>
  intro d x m0 cs h hm hr
  cases d with
  | eptr id i q =>
   cases i with
   | succ i => simp [Zb] at h
   | zero =>
    cases q with
    | cons _ _ => simp [Zb] at h
    | nil =>
     simp only [Zb] at h
     split at h
     ·rename_i e' xs hb
      split at h
      ·rename_i q hq
       subst q
       simp only [jc, jh] at h
       obtain ⟨rfl, rfl⟩ := h
       obtain ⟨v, hcs, h1, hv⟩ := hr
       refine ⟨v, hcs, h1, fun blk' e2 n2 hb' hr' => ?_⟩
       obtain ⟨blk0, hb0, hr0⟩ := hT.isR id' id blk' _ (hm _ (by simp)) hb' hr'
       rw [hT.isS id' id (hm _ (by simp))]
       exact hv _ _ _ hb0 hr0
      ·simp at h
     ·simp at h
  | _ => simp [Zb] at h
 | mov id' e =>
  intro d x m0 cs h hm hr
  cases d with
  | own id =>
   simp only [Zb] at h
   split at h
   ·rename_i e' xs hb
    split at h
    ·rename_i q hq
     subst q
     simp only [jc, jh] at h
     obtain ⟨rfl, rfl⟩ := h
     obtain ⟨v, hcs, h1, hv⟩ := hr
     refine ⟨v, hcs, h1, fun _ _ _ _ => ?_⟩
     rw [hT.isS id' id (hm _ (by simp))]
     exact hv _ _ hb rfl
    ·simp at h
   ·rename_i e' xs k hb
    split at h
    ·rename_i q hq
     subst q
     simp only [jc, jh] at h
     obtain ⟨rfl, rfl⟩ := h
     obtain ⟨v, hcs, h1, hv⟩ := hr
     refine ⟨v, hcs, h1, fun _ _ _ _ => ?_⟩
     rw [hT.isS id' id (hm _ (by simp))]
     exact hv _ _ hb rfl
    ·simp at h
   ·simp at h
  | _ => simp [Zb] at h
 | ptr id' p =>
  intro d x m0 cs h hm hr
  cases d with
  | ptr id q =>
   simp only [Zb, Aa] at h
   obtain ⟨hpq, h⟩ := h
   simp only [jc, jh] at h
   obtain ⟨_, rfl⟩ := h
   have hpq' : p = q := by simpa using hpq
   subst hpq'
   obtain ⟨v, hcs, h1, hv⟩ := hr
   refine ⟨v, hcs, h1, fun ρ d hb => ?_⟩
   obtain ⟨d', hd'⟩ := hT.isB id' id ρ d (hm _ (by simp)) hb
   rw [hT.isS id' id (hm _ (by simp))]
   exact hv ρ d' hd'
  | _ => simp [Zb] at h
 | pr a b iha ihb =>
  intro d x m0 cs h hm hr
  simp only [Zb] at h
  split at h
  ·rename_i d1 d2 h1 h2
   split at h
   ·rename_i u l v l' h3 h4
    simp only [jc, jh] at h
    obtain ⟨rfl, rfl⟩ := h
    have key : ∃ c1 c2, cs = c1 ++ c2 ∧ Ka w O s.heap σ d1 c1 ∧ Ka w O s.heap σ d2 c2 := by
     cases d with
     | t τ v =>
      cases τ with
      | p t1 t2 =>
       simp only [D.fst, D.snd, jc] at h1 h2
       subst h1; subst h2
       exact hr
      | _ => simp [D.fst] at h1
     | pr d1' d2' =>
      simp only [D.fst, D.snd, jc] at h1 h2
      subst h1; subst h2
      exact hr
     | _ => simp [D.fst] at h1
    obtain ⟨c1, c2, hc, r1, r2⟩ := key
    exact ⟨c1, c2, hc, iha h3 (fun p hp => hm p (List.mem_append_left _ hp)) r1, ihb h4 (fun p hp => hm p (List.mem_append_right _ hp)) r2⟩
   ·simp at h
  ·simp at h
 | un =>
  intro d x m0 cs h hm hr
  simp only [Zb] at h
  split at h
  ·rename_i y hy
   exact (Nd hy).2 _ hr
  ·simp at h
theorem EH (hT : WK s σ σ' hp' m) (hO : ∀ b, b < w.heap.size → ¬ O b → ¬ O' b) {td : TD} {d : D} {x : T td.ty} {m0 : Pe} {v : Value} (h : Zb s td d = some (x, m0)) (hm : Ir m0 m) (hr : Jb w O s.heap σ d v) :
 Jb w O' hp' σ' (Uh td x) v := by
 have hne : Ec w O s.heap σ d v := by
  cases d with
  | und => cases td <;> simp [Zb, Se, D.fst] at h
  | anyv => cases td <;> simp [Zb, Se, D.fst] at h
  | tup ds => cases td <;> simp [Zb, Se, D.fst] at h
  | _ => exact hr
 refine Cj ?_
 unfold Ec at hne ⊢
 rw [NE h]
 split
 ·rename_i ha
  rw [if_pos ha] at hne
  obtain ⟨cs, h1, h2⟩ := hne
  exact ⟨cs, h1, Gt hT hO h hm h2⟩
 ·rename_i ha
  rw [if_neg ha] at hne
  exact Gt hT hO h hm hne
def Py (s : AS) (m : Pe) (j : Nat) (Da : Ca) : Prop :=
 ((j, none) ∈ m ∧ ∃ e dp, Da = .row e dp ([] : List (T e))) ∨
 ∃ i, (j, some i) ∈ m ∧ ((∃ e dp dp' xs, Da = .row e dp xs ∧ s.heap i = some (.row e dp' xs) ∧ (dp' = dp ∨ e.flat = true)) ∨
  (∃ ρ d td x m0, Da = .box ρ (Uh td x) ∧ s.heap i = some (.box ρ d) ∧ Zb s td d = some (x, m0) ∧ Ir m0 m ∧ La ρ (Uh td x)) ∨
  (∃ e xs k x p τ d td y m0, Da = .hol e xs k x p τ (Uh td y) ∧ s.heap i = some (.hol e xs k x p τ d) ∧ Zb s td d = some (y, m0) ∧ Ir m0 m ∧ La τ (Uh td y)) ∨
  (∃ e xs k, Da = .mov e xs k ∧ (s.heap i = some (.mov e xs k) ∨ (s.heap i = some (.row e true xs) ∧ k = 0))) ∨
  ∃ k v xs, Da = .mp k v xs ∧ s.heap i = some (.mp k v xs))
theorem Wt : ∀ {td : TD} {d : D} {x : T td.ty} {m0 : Pe}, Zb s td d = some (x, m0) → Ir m0 m → ∀ p, p ∈ Kj td x → ∃ Da, p.2 = some Da ∧ Py s m p.1 Da := by
 intro td
 induction td with
 | own id' e dp =>
  intro d x m0 h hm p hp
  simp only [Kj, qb] at hp
  subst hp
  cases d with
  | own id =>
   simp only [Zb] at h
   split at h
   ·rename_i e' dp' xs hb
    split at h
    ·rename_i q hq
     subst q
     simp only [Aa] at h
     obtain ⟨hc, h⟩ := h
     simp only [jc, jh] at h
     obtain ⟨rfl, rfl⟩ := h
     refine ⟨_, rfl, .inr ⟨id, hm _ (by simp), .inl ⟨_, dp, dp', _, rfl, hb, ?_⟩⟩⟩
     simpa using hc
    ·simp at h
   ·simp at h
  | nil =>
   simp only [Zb, jc, jh] at h
   obtain ⟨rfl, rfl⟩ := h
   exact ⟨_, rfl, .inl ⟨hm _ (by simp), e, dp, rfl⟩⟩
  | _ => simp [Zb] at h
 | hol id' e pth τ td ih =>
  intro d x m0 h hm p hp
  cases d with
  | own id =>
   simp only [Zb] at h
   split at h
   ·rename_i e' xs i x1 p' τ' d' hb
    split at h
    ·rename_i q1 q2 hq1 hq2
     subst q1
     obtain rfl := Lc hq2
     simp only [Aa] at h
     obtain ⟨hpp, h⟩ := h
     have hpp : pth = p' := by simpa using hpp
     subst hpp
     split at h
     ·rename_i y m1 h1
      simp only [Aa] at h
      obtain ⟨hsh, h⟩ := h
      simp only [jc, jh] at h
      obtain ⟨rfl, rfl⟩ := h
      simp only [Kj] at hp
      rcases jp.1 hp with rfl | hp
      ·exact ⟨_, rfl, .inr ⟨id, hm _ (by simp), .inr (.inr (.inl ⟨_, _, i, _, _, _, d', td, y, m1, by simp only [jn], hb, h1, fun p hp => hm p (jr _ hp), Tf hsh⟩))⟩⟩
      ·exact ih h1 (fun p hp => hm p (jr _ hp)) p hp
     ·simp at h
    ·simp at h
   ·simp at h
  | _ => simp [Zb] at h
 | pr a b iha ihb =>
  intro d x m0 h hm p hp
  simp only [Zb] at h
  split at h
  ·split at h
   ·rename_i u l v l' h3 h4
    simp only [jc, jh] at h
    obtain ⟨rfl, rfl⟩ := h
    simp only [Kj] at hp
    rcases jl.1 hp with hp | hp
    ·exact iha h3 (fun p hp => hm p (List.mem_append_left _ hp)) p hp
    ·exact ihb h4 (fun p hp => hm p (List.mem_append_right _ hp)) p hp
   ·simp at h
  ·simp at h
 | arr id' e =>
  intro d x m0 h hm p hp
  simp only [Kj, qb] at hp
  subst hp
  cases d with
  | eptr id i q =>
   cases i with
   | succ i => simp [Zb] at h
   | zero =>
    cases q with
    | cons _ _ => simp [Zb] at h
    | nil =>
     simp only [Zb] at h
     split at h
     ·rename_i e' xs hb
      split at h
      ·rename_i q hq
       subst q
       simp only [jc, jh] at h
       obtain ⟨rfl, rfl⟩ := h
       exact ⟨_, rfl, .inr ⟨id, hm _ (by simp), .inl ⟨_, true, true, _, rfl, hb, .inl rfl⟩⟩⟩
      ·simp at h
     ·simp at h
  | _ => simp [Zb] at h
 | mpo id' k v =>
  intro d x m0 h hm p hp
  simp only [Kj, qb] at hp
  subst hp
  cases d with
  | mpo id =>
   simp only [Zb] at h
   split at h
   ·rename_i k' v' xs hb
    split at h
    ·rename_i q1 q2 hq1 hq2
     subst q1
     subst q2
     simp only [jc, jh] at h
     obtain ⟨rfl, rfl⟩ := h
     exact ⟨_, rfl, .inr ⟨id, hm _ (by simp), .inr (.inr (.inr (.inr ⟨_, _, _, rfl, hb⟩)))⟩⟩
    ·simp at h
   ·simp at h
  | _ => simp [Zb] at h
 | mov id' e =>
  intro d x m0 h hm p hp
  simp only [Kj, qb] at hp
  subst hp
  cases d with
  | own id =>
   simp only [Zb] at h
   split at h
   ·rename_i e' xs hb
    split at h
    ·rename_i q hq
     subst q
     simp only [jc, jh] at h
     obtain ⟨rfl, rfl⟩ := h
     exact ⟨_, rfl, .inr ⟨id, hm _ (by simp), .inr (.inr (.inr (.inl ⟨_, _, 0, rfl, .inr ⟨hb, rfl⟩⟩)))⟩⟩
    ·simp at h
   ·rename_i e' xs k hb
    split at h
    ·rename_i q hq
     subst q
     simp only [jc, jh] at h
     obtain ⟨rfl, rfl⟩ := h
     exact ⟨_, rfl, .inr ⟨id, hm _ (by simp), .inr (.inr (.inr (.inl ⟨_, _, k, by simp only [jn], .inl hb⟩)))⟩⟩
    ·simp at h
   ·simp at h
  | _ => simp [Zb] at h
 | _ => intro d x m0 h hm p hp; simp [Kj] at hp
theorem PB : ∀ {l : List (Tmp × TD)} {x : T (Uj.tyT l)} {m0 : Pe}, AD s l = some (x, m0) → Ir m0 m →
 (∀ t d', Na (Vv l x) t = some d' → ∃ td d y m1, Na s.tm t = some d ∧ Zb s td d = some (y, m1) ∧ Ir m1 m ∧ d' = Uh td y) ∧ (∀ p, p ∈ Dw l x → ∃ Da, p.2 = some Da ∧ Py s m p.1 Da)
 | [], x, m0, h, hm => ⟨by simp [Vv, Na], by simp [Dw]⟩
 | (t0, td) :: r, x, m0, h, hm => by
  simp only [AD] at h
  split at h
  ·rename_i d hd
   split at h
   ·rename_i y m1 z m2 h1 h2
    simp only [jc, jh] at h
    obtain ⟨rfl, rfl⟩ := h
    have hm1 : Ir m1 m := fun p hp => hm p (List.mem_append_left _ hp)
    obtain ⟨i1, i2⟩ := PB h2 (fun p hp => hm p (List.mem_append_right _ hp))
    refine ⟨fun t d' ht => ?_, fun p hp => ?_⟩
    ·simp only [Vv] at ht
     rw [Kb] at ht
     split at ht
     ·rename_i e
      subst e
      simp only [jc] at ht
      exact ⟨td, d, y, m1, hd, h1, hm1, ht.symm⟩
     ·exact i1 t d' ht
    ·simp only [Dw] at hp
     rcases jl.1 hp with hp | hp
     ·exact Wt h1 hm1 p hp
     ·exact i2 p hp
   ·simp at h
  ·simp at h
theorem OB : ∀ {l : List (Nat × Ty × TD)} {x : T (Uj.tyB l)} {m0 m' : Pe}, Qz s l m0 = some (x, m') → Ir m' m →
 Ir m0 m ∧ ∀ p, p ∈ Uv l x → ∃ Da, p.2 = some Da ∧ Py s m p.1 Da
 | [], x, m0, m', h, hm => by
  simp only [Qz, jc, jh] at h
  obtain ⟨_, rfl⟩ := h
  exact ⟨hm, by simp [Uv]⟩
 | (id', ρ, td) :: r, x, m0, m', h, hm => by
  simp only [Qz] at h
  split at h
  ·rename_i id hid
   split at h
   ·rename_i ρ' d hb
    split at h
    ·rename_i q hq
     obtain rfl := q.down
     split at h
     ·rename_i y m1 h1
      simp only [Aa] at h
      obtain ⟨hsh, h⟩ := h
      split at h
      ·rename_i z m2 h2
       simp only [jc, jh] at h
       obtain ⟨rfl, rfl⟩ := h
       obtain ⟨i1, i2⟩ := OB h2 hm
       have hm0 : Ir m0 m := fun p hp => i1 p (List.mem_append_left _ hp)
       have hm1 : Ir m1 m := fun p hp => i1 p (List.mem_append_right _ hp)
       refine ⟨hm0, fun p hp => ?_⟩
       simp only [Uv] at hp
       rcases jp.1 hp with rfl | hp
       ·exact ⟨_, rfl, .inr ⟨id, hm0 _ (Si hid), .inr (.inl ⟨_, d, td, y, m1, rfl, hb, h1, hm1, Tf hsh⟩)⟩⟩
       ·rcases jl.1 hp with hp | hp
        ·exact Wt h1 hm1 p hp
        ·exact i2 p hp
      ·simp at h
     ·simp at h
    ·simp at h
   ·simp at h
  ·simp at h
end
theorem Zq : ∀ {m : Pe}, On m = true → ∀ j i, (j, some i) ∈ m → (j < 500000 ∧ i < 500000) ∨ j = i
 | [], _, _, _, h => by simp at h
 | (j0, some i0) :: r, hp, j, i, h => by
  simp only [On, jd, Bool.or_eq_true] at hp
  rcases jp.1 h with e | h
  ·simp only [jh, jc] at e
   obtain ⟨rfl, rfl⟩ := e
   rcases hp.1 with h1 | h1
   ·rw [Nat.blt_eq, Nat.blt_eq] at h1; exact .inl h1
   ·exact .inr (ju h1)
  ·exact Zq hp.2 j i h
 | (j0, none) :: r, hp, j, i, h => by
  simp only [On, jd] at hp
  rcases jp.1 h with e | h
  ·simp at e
  ·exact Zq hp.2 j i h
theorem Yq : ∀ {m : Pe}, On m = true → ∀ j, (j, none) ∈ m → j < 500000
 | [], _, _, h => by simp at h
 | (j0, some i0) :: r, hp, j, h => by
  simp only [On, jd] at hp
  rcases jp.1 h with e | h
  ·simp at e
  ·exact Yq hp.2 j h
 | (j0, none) :: r, hp, j, h => by
  simp only [On, jd] at hp
  rcases jp.1 h with e | h
  ·simp only [jh, and_true] at e
   subst e
   have := hp.1
   rwa [Nat.blt_eq] at this
  ·exact Yq hp.2 j h
theorem CC {m : Pe} (h : (m.all fun x => m.all fun y => Zm x y) = true) {x y : Nat × Option Nat} (hx : x ∈ m) (hy : y ∈ m) : Zm x y = true :=
 List.all_eq_true.1 (List.all_eq_true.1 h x hx) y hy
theorem WH {m : Pe} (h : (m.all fun x => m.all fun y => Zm x y) = true) {j : Nat} {a c : Option Nat} (hx : (j, a) ∈ m) (hy : (j, c) ∈ m) : a = c := by
 have := CC h hx hy
 unfold Zm at this
 cases a with
 | none => cases c with
  | none => rfl
  | some c => simp at this
 | some a => cases c with
  | none => simp at this
  | some c => simpa [Nat.beq_eq] using this
theorem XH {m : Pe} (h : (m.all fun x => m.all fun y => Zm x y) = true) {j j' i : Nat} (hx : (j, some i) ∈ m) (hy : (j', some i) ∈ m) : j = j' := by
 have := CC h hx hy
 unfold Zm at this
 simpa using this
theorem Lx {α : Type} {j : Nat} {a : α} : ∀ {m : List (Nat × α)}, (j, a) ∈ m → ∃ c, Na m j = some c ∧ (j, c) ∈ m
 | [], h => by simp at h
 | (j0, a0) :: r, h => by
  rw [Kb]
  by_cases hj : j0 = j
  ·subst hj; exact ⟨a0, by simp, by simp⟩
  ·rw [if_neg hj]
   rcases jp.1 h with e | h
   ·simp only [jh] at e
    exact absurd e.1.symm hj
   ·obtain ⟨c, h1, h2⟩ := Lx h
    exact ⟨c, h1, jr _ h2⟩
theorem Ti {m : Pe} (h : (m.all fun x => m.all fun y => Zm x y) = true) {j : Nat} {a : Option Nat} (hx : (j, a) ∈ m) : Na m j = some a := by
 obtain ⟨c, h1, h2⟩ := Lx hx
 rw [h1, WH h hx h2]
section
variable {n0 : Nat} {A : Fx} {O0 : Nat → Prop} {w0 w : World} {s : AS} {σ : Nat → Value} {φ : Nat → List Nat} {a : Act}
theorem Ht (h : Ja n0 A O0 w0 s σ φ a w) {p : Uj} {x : p.X} (he : ext p s = some x) : ∃ σ' φ', Ja n0 A O0 w0 (Co p x s.n) σ' φ' a w := by
 unfold ext at he
 split at he
 ·rename_i x1 m1 h1
  split at he
  ·rename_i x2 m h2
   simp only [Aa] at he
   obtain ⟨hmo, he⟩ := he
   simp only [jc] at he
   subst he
   simp only [RI, jd] at hmo
   obtain ⟨hn1, hpo⟩ := hmo
   obtain ⟨hm1, hB⟩ := OB h2 (fun p hp => hp)
   obtain ⟨hT1, hT2⟩ := PB h1 hm1
   let σ' : Nat → Value := fun j => match Na m j with
    | some (some i) => σ i
    | some none => .slice none 0 0
    | none => σ j
   let φ' : Nat → List Nat := fun j => match Na m j with
    | some (some i) => φ i
    | _ => []
   have hσs : ∀ j i, (j, some i) ∈ m → σ' j = σ i ∧ φ' j = φ i := fun j i hj => by
    have := Ti hn1 hj
    simp only [σ', φ', this, and_self]
   have hσn : ∀ j, (j, none) ∈ m → σ' j = .slice none 0 0 ∧ φ' j = [] := fun j hj => by
    have := Ti hn1 hj
    simp only [σ', φ', this, and_self]
   have hent : ∀ j Da, (Co p (x1, x2) s.n).heap j = some Da → Py s m j Da := by
    intro j Da hj
    have hmem := AS.heap_mem hj
    simp only [Co] at hmem
    rcases jl.1 hmem with hmem | hmem
    ·obtain ⟨blk', e, hE⟩ := hT2 _ hmem
     simp only [jc] at e
     subst e
     exact hE
    ·obtain ⟨blk', e, hE⟩ := hB _ hmem
     simp only [jc] at e
     subst e
     exact hE
   have hlive : ∀ j Da, (Co p (x1, x2) s.n).heap j = some Da → φ' j = [] ∨ ∃ i blk0, (j, some i) ∈ m ∧ s.heap i = some blk0 ∧ φ' j = φ i := by
    intro j Da hj
    rcases hent j Da hj with ⟨hn, _⟩ | ⟨i, hi, ⟨e, dp, dp', xs, _, hb, _⟩ | ⟨ρ, d, td, y, m0, _, hb, _⟩ | ⟨e, xs, k, x, p, τ, d, td, y, m0, _, hb, _⟩ | ⟨e, xs, k, _, hb | ⟨hb, _⟩⟩ | ⟨_, _, _, _, hb⟩⟩
    ·exact .inl (hσn j hn).2
    ·exact .inr ⟨i, _, hi, hb, (hσs j i hi).2⟩
    ·exact .inr ⟨i, _, hi, hb, (hσs j i hi).2⟩
    ·exact .inr ⟨i, _, hi, hb, (hσs j i hi).2⟩
    ·exact .inr ⟨i, _, hi, hb, (hσs j i hi).2⟩
    ·exact .inr ⟨i, _, hi, hb, (hσs j i hi).2⟩
    ·exact .inr ⟨i, _, hi, hb, (hσs j i hi).2⟩
   have hOO : ∀ b, b < w.heap.size → ¬ OO O0 s φ b → ¬ OO O0 (Co p (x1, x2) s.n) φ' b := by
    rintro b _ hno (ho | ⟨j, Da, hj, hm⟩)
    ·exact hno (.inl ho)
    ·rcases hlive j Da hj with hφ | ⟨i, blk0, _, hb, hφ⟩
     ·rw [hφ] at hm; simp at hm
     ·rw [hφ] at hm; exact hno (.inr ⟨i, blk0, hb, hm⟩)
   have hTOk : WK s σ σ' (Co p (x1, x2) s.n).heap m := by
    refine ⟨fun j i hj => (hσs j i hj).1, fun j hj => (hσn j hj).1, fun j i ρ d hj hb => ?_, fun j i Da r hj hb hr => ?_⟩
    rcases hent j _ hb with ⟨hn, e, dp, hh⟩ | ⟨i', hi', ⟨e, dp, dp', xs, hh, _⟩ | ⟨ρ', d', td, y, m0, hh, hb', _⟩ | ⟨e, xs, k, x, p, τ, d', td, y, m0, hh, _⟩ | ⟨e, xs, k, hh, _⟩ | ⟨_, _, _, hh, _⟩⟩
    ·simp at hh
    ·simp at hh
    ·simp only [Ca.box.injEq] at hh
     have e1 := Ti hn1 hj
     have e2 := Ti hn1 hi'
     rw [e1] at e2
     simp only [jc] at e2
     subst e2
     exact ⟨d', by rw [hb', hh.1]⟩
    ·simp at hh
    ·simp at hh
    ·simp at hh
    ·have e1 := Ti hn1 hj
     rcases hent j _ hb with ⟨hn, _⟩ | ⟨i', hi', hx⟩
     ·have e2 := Ti hn1 hn
      rw [e1] at e2
      simp at e2
     ·have e2 := Ti hn1 hi'
      rw [e1] at e2
      simp only [jc] at e2
      subst e2
      rcases hx with ⟨e, dp, dp', xs, rfl, hb', _⟩ | ⟨ρ', d', td, y, m0, rfl, _⟩ | ⟨e, xs, k, x, p, τ, d', td, y, m0, rfl, hb', _⟩ | ⟨e, xs, k, rfl, hb' | ⟨hb', _⟩⟩ | ⟨_, _, _, rfl, _⟩
      ·exact ⟨_, hb', hr⟩
      ·simp [Ca.rowN] at hr
      ·exact ⟨_, hb', hr⟩
      ·exact ⟨_, hb', hr⟩
      ·exact ⟨_, hb', hr⟩
      ·simp [Ca.rowN] at hr
   refine ⟨σ', φ', h.sz, h.df, ?_, ?_, ?_, ?_, ?_, h.o0, h.fr, ?_, h.iv0, h.ivw⟩
   ·intro t d' hd
    obtain ⟨td, d, y, m0, g1, g2, g3, g4⟩ := hT1 t d' hd
    obtain ⟨v, hv, hr⟩ := h.tm t d g1
    rw [g4]
    exact ⟨v, hv, EH hTOk hOO g2 g3 hr⟩
   ·intro j Da hj
    rcases hent j Da hj with ⟨hn, e, dp, rfl⟩ | ⟨i, hi, ⟨e, dp, dp', xs, rfl, hb, hd⟩ | ⟨ρ, d, td, y, m0, rfl, hb, hex, hsub, hsh⟩ | ⟨e, xs, k, x, p, τ, d, td, y, m0, rfl, hb, hex, hsub, hsh⟩ | ⟨e, xs, k, rfl, hb⟩ | ⟨kk, vv, xs, rfl, hb⟩⟩
    ·rw [Kf, (hσn j hn).1, (hσn j hn).2]
     exact ⟨by simp, .inl ⟨rfl, rfl, rfl⟩⟩
    ·rw [Kf, (hσs j i hi).1, (hσs j i hi).2]
     have hrow := Kf.1 (h.hp i _ hb)
     have hst : ∀ dq, Fe w (OO O0 s φ) dq e xs (σ i) (φ i) → Fe w (OO O0 (Co p (x1, x2) s.n) φ') dq e xs (σ i) (φ i) := by
      rintro dq ⟨hm, g | ⟨bl, off, cap, cur, et, Fs, g1, hh, g2, g3, g4, hF, hel⟩⟩
      ·exact ⟨hm, .inl g⟩
      ·exact ⟨hm, .inr ⟨bl, off, cap, cur, et, Fs, g1, hh, g2, g3, g4, hF, hel.stable (fun _ _ _ => rfl) hOO (fun _ _ => rfl)⟩⟩
     rcases hd with rfl | hf
     ·exact hst _ hrow
     ·have hup := hrow.up
      rw [hf, Bool.or_true] at hup
      cases dp with
      | true => exact hst _ hup
      | false =>
       cases dp' with
       | false => exact hst _ hrow
       | true =>
        have hown := Jt (h.hp i _ hb) (.inl rfl)
        exact hst _ (Kf.1 (Yw (O := OO O0 s φ) (hp := s.heap) hown hf))
    ·rw [(hσs j i hi).2]
     obtain ⟨_, b, cur, et, g1, hh, hF, hr, hsz⟩ := h.hp i _ hb
     exact ⟨hsh, b, cur, et, by rw [(hσs j i hi).1]; exact g1, hh, hF, Gt hTOk hOO hex hsub hr, hsz⟩
    ·rw [(hσs j i hi).2]
     obtain ⟨_, g1, g2, g3, bl, off, cap, cur, et, g4, g5, g6, g7, hr, hw⟩ := h.hp i _ hb
     refine ⟨hsh, g1, g2, g3, bl, off, cap, cur, et, by rw [(hσs j i hi).1]; exact g4, g5, g6, g7, Gt hTOk hOO hex hsub hr, fun w' c' h1 h2 h3 y Fy x' h4 h5 => ?_⟩
     rw [(hσs j i hi).1]
     exact hw w' c' h1 h2 h3 y Fy x' h4 h5
    ·rw [(hσs j i hi).2]
     have hm0 : Bb w (OO O0 s φ) s.heap σ i (.mov e xs k) (φ i) := by
      rcases hb with hb | ⟨hb, rfl⟩
      ·exact h.hp i _ hb
      ·exact PA (h.hp i _ hb)
     obtain ⟨hlen, ⟨g1, g2, g3⟩ | ⟨bl, off, cap, cur, et, Fs, g1, g⟩⟩ := hm0
     ·exact ⟨hlen, .inl ⟨by rw [(hσs j i hi).1]; exact g1, g2, g3⟩⟩
     ·exact ⟨hlen, .inr ⟨bl, off, cap, cur, et, Fs, by rw [(hσs j i hi).1]; exact g1, g⟩⟩
    ·rw [(hσs j i hi).2]
     obtain ⟨r, es, clk, g1, g2, g3, g4, g5⟩ := h.hp i _ hb
     exact ⟨r, es, clk, by rw [(hσs j i hi).1]; exact g1, g2, g3, Ot (fun _ _ _ => rfl) hOO ⟨g4, g5⟩⟩
   ·intro j Da hj
    rcases hlive j Da hj with hφ | ⟨i, blk0, _, hb, hφ⟩
    ·rw [hφ]; exact List.nodup_nil
    ·rw [hφ]; exact h.nodup i blk0 hb
   ·intro j j' Da blk' hne hj hj' b hb hb'
    rcases hlive j Da hj with hφ | ⟨i, blk0, hi, hbi, hφ⟩
    ·rw [hφ] at hb; simp at hb
    ·rcases hlive j' blk' hj' with hφ' | ⟨i', blk0', hi', hbi', hφ'⟩
     ·rw [hφ'] at hb'; simp at hb'
     ·rw [hφ] at hb
      rw [hφ'] at hb'
      by_cases hii : i = i'
      ·subst hii
       exact hne (XH hn1 hi hi')
      ·exact h.disj i i' blk0 blk0' hii hbi hbi' b hb hb'
   ·intro j Da hj b hb
    rcases hlive j Da hj with hφ | ⟨i, blk0, _, hbi, hφ⟩
    ·rw [hφ] at hb; simp at hb
    ·rw [hφ] at hb; exact h.fresh i blk0 hbi b hb
   ·intro j v hv
    have hlow := A.low j v hv
    show σ' j = v
    simp only [σ']
    split
    ·rename_i i hg
     rcases Zq hpo j i (Si hg) with ⟨hj, _⟩ | rfl
     ·omega
     ·exact h.pin _ v hv
    ·rename_i hg
     have := Yq hpo j (Si hg)
     omega
    ·exact h.pin j v hv
  ·simp at he
 ·simp at he
end
def FL : Ex → Exit
 | .normal => .normal
 | .exit id => .exit id
 | .ret => .ret
def Dn {X R : Type} (step : X → Option (X ⊕ R)) : Nat → X → R → Prop
 | 0, _, _ => False
 | n + 1, x, r => step x = some (.inr r) ∨ ∃ x', step x = some (.inl x') ∧ Dn step n x' r
def Pc : Code → List Code
 | .seq a b => Pc a ++ Pc b
 | .cond _ a b => Pc a ++ Pc b
 | .block _ c => Pc c
 | .loop c => c :: Pc c
 | _ => []
def Kc (G : Mc) (L : List (Nat × Ib)) (b : Code) : Prop :=
 ∀ r ls, Te b = some r → Na L r = some ls → ∀ x y, ls.F x = some y → ∃ m, Dn (Gp G L ls b) m x y
section
variable {P : Program} {n0 : Nat} {A : Fx} {O0 : Nat → Prop} {w0 : World} {G : Mc} {L : List (Nat × Ib)}
theorem HE (hG : Kg P A.I G) (hfz : G.fz = true → ∀ b, ¬ A.A b) (hm : P.follows .mixedOrders = true) : ∀ (c : Code), (∀ b, b ∈ Pc c → Kc G L b) → ∀ {Out : Type} {k : Ex → AS → Option Out} {out : Out} {s : AS} {σ : Nat → Value} {φ : Nat → List Nat} {a : Act} {w : World} {Q : Exit → Act → World → Prop},
 Vi G L c s k = some out → Ja n0 A O0 w0 s σ φ a w → (∀ e s σ φ a w, k e s = some out → Ja n0 A O0 w0 s σ φ a w → Q (FL e) a w) → c.wp P Q a w := by
 intro c
 induction c with
 | skip =>
  intro _ Out k out s σ φ a w Q he h hQ
  simp only [Vi] at he
  exact wp_skip (hQ .normal s σ φ a w he h)
 | region id ops draw =>
  intro _ Out k out s σ φ a w Q he h hQ
  simp only [Vi] at he
  split at he
  ·rename_i s1 h1
   obtain ⟨φ1, hc⟩ := Sn hfz h h1
   refine TF (k := fun s' => match Mp G.fz G.att (1000 * id + 999) s' with
    | some s' => k .normal s'
    | none => none) hG hfz hm hc he fun a w ⟨s', σ', φ', h2, h3⟩ => ?_
   simp only at h2
   split at h2
   ·rename_i s2 h4
    obtain ⟨φ2, hc2⟩ := Sn hfz h3 h4
    exact hQ .normal _ σ' φ2 a w h2 hc2
   ·simp at h2
  ·simp at he
 | seq x y ihx ihy =>
  intro hL Out k out s σ φ a w Q he h hQ
  simp only [Vi] at he
  refine wp_seq (ihx (fun b hb => hL b (by simp [Pc, hb])) he h fun e s' σ' φ' a' w' hk h' => ?_)
  cases e with
  | normal => exact ihy (fun b hb => hL b (by simp [Pc, hb])) hk h' hQ
  | exit j => exact hQ (.exit j) s' σ' φ' a' w' hk h'
  | ret => exact hQ .ret s' σ' φ' a' w' hk h'
 | cond x y z ihy ihz =>
  intro hL Out k out s σ φ a w Q he h hQ
  cases x with
  | tmp t =>
   simp only [Vi] at he
   split at he
   ·rename_i β hd
    have hs := h.same hd
    obtain ⟨v, hv, hr⟩ := h.tm t _ hd
    rw [Zd] at hr
    subst hr
    have hev : a.eval (.tmp t) = .bool β := by
     simp only [Act.eval]
     rw [Array.getD_eq_getD_getElem?, hv]
     rfl
    refine wp_cond_split hev (fun hb => ?_) (fun hb => ?_)
    ·subst hb
     simp only [cond_true] at he
     exact ihy (fun b hb => hL b (by simp [Pc, hb])) he hs hQ
    ·subst hb
     simp only [cond_false] at he
     exact ihz (fun b hb => hL b (by simp [Pc, hb])) he hs hQ
   ·simp at he
  | const cv =>
   cases cv with
   | bool β =>
    simp only [Vi] at he
    refine wp_cond_split (show a.eval (.const (.bool β)) = .bool β from rfl) (fun hb => ?_) (fun hb => ?_)
    ·subst hb
     simp only [cond_true] at he
     exact ihy (fun b hb => hL b (by simp [Pc, hb])) he h hQ
    ·subst hb
     simp only [cond_false] at he
     exact ihz (fun b hb => hL b (by simp [Pc, hb])) he h hQ
   | _ => simp [Vi] at he
  | _ => simp [Vi] at he
 | block id c ih =>
  intro hL Out k out s σ φ a w Q he h hQ
  simp only [Vi] at he
  refine wp_block (ih (fun b hb => hL b (by simpa [Pc] using hb)) he h fun e s' σ' φ' a' w' hk h' => ?_)
  cases e with
  | normal => exact hQ .normal s' σ' φ' a' w' hk h'
  | exit j =>
   simp only [FL, Exit.inBlock]
   cases hb : Nat.beq j id with
   | true =>
    rw [if_pos (ju hb)]
    simp only [hb, cond_true] at hk
    exact hQ .normal s' σ' φ' a' w' hk h'
   | false =>
    rw [if_neg (fun e => by rw [e, Nat.beq_refl] at hb; simp at hb)]
    simp only [hb, cond_false] at hk
    exact hQ (.exit j) s' σ' φ' a' w' hk h'
  | ret => exact hQ .ret s' σ' φ' a' w' hk h'
 | exit id =>
  intro _ Out k out s σ φ a w Q he h hQ
  simp only [Vi] at he
  exact wp_exit (hQ (.exit id) s σ φ a w he h)
 | ret =>
  intro _ Out k out s σ φ a w Q he h hQ
  simp only [Vi] at he
  exact wp_ret (hQ .ret s σ φ a w he h)
 | loop c ih =>
  intro hL Out k out s σ φ a w Q he h hQ
  simp only [Vi] at he
  split at he
  ·rename_i r hr
   split at he
   ·rename_i ls hls
    split at he
    ·rename_i x hx
     simp only [Aa] at he
     obtain ⟨hn, he⟩ := he
     have hn := ju hn
     rw [qd] at he
     obtain ⟨y, hy, he⟩ := he
     obtain ⟨m, hit⟩ := hL c (by simp [Pc]) r ls hr hls x y hy
     obtain ⟨σ1, φ1, h1⟩ := Ht h hx
     rw [hn] at h1 he
     refine wp_loop_rounds m ?_
     have key : ∀ (m : Nat) (x : ls.inT.X) (σ : Nat → Value) (φ : Nat → List Nat) (a : Act) (w : World), Dn (Gp G L ls c) m x y → Ja n0 A O0 w0 (Co ls.inT x ls.n) σ φ a w → Code.rounds P c Q m a w := by
      intro m
      induction m with
      | zero => intro x σ φ a w hit _; exact hit.elim
      | succ m ihm =>
       intro x σ φ a w hit h
       rw [rounds_succ]
       have body : ∀ z, Gp G L ls c x = some z → (z = .inr y ∨ ∃ x', z = .inl x' ∧ Dn (Gp G L ls c) m x' y) → c.wp P (Exit.then (Code.rounds P c Q m) Q) a w := by
        intro z hz hzy
        unfold Gp at hz
        refine ih (fun b hb => hL b (by simp [Pc, hb])) hz h fun e s' σ' φ' a' w' hk h' => ?_
        simp only [Aa] at hk
        obtain ⟨hn', hk⟩ := hk
        have hn' := ju hn'
        cases e with
        | normal =>
         simp only at hk
         split at hk
         ·rename_i x' hx'
          simp only [jc] at hk
          obtain ⟨σ2, φ2, h2⟩ := Ht h' hx'
          rw [hn'] at h2
          rcases hzy with hzy | ⟨x'', hzy, hit'⟩
          ·rw [hzy] at hk; simp at hk
          ·rw [hzy] at hk
           simp only [Sum.inl.injEq] at hk
           subst hk
           exact ihm x' σ2 φ2 a' w' hit' h2
         ·simp at hk
        | exit j =>
         simp only [Aa] at hk
         obtain ⟨hj, hk⟩ := hk
         have hj := ju hj
         split at hk
         ·rename_i y' hy'
          simp only [jc] at hk
          obtain ⟨σ2, φ2, h2⟩ := Ht h' hy'
          rw [hn'] at h2
          rcases hzy with hzy | ⟨x'', hzy, _⟩
          ·rw [hzy] at hk
           simp only [Sum.inr.injEq] at hk
           subst hk
           simp only [qh] at he
           show Q (.exit j) a' w'
           rw [hj]
           exact hQ (.exit ls.exitId) _ σ2 φ2 a' w' he h2
          ·rw [hzy] at hk; simp at hk
         ·simp at hk
        | ret =>
         simp only at hk
         split at hk
         ·rename_i y' hy'
          simp only [jc] at hk
          obtain ⟨σ2, φ2, h2⟩ := Ht h' hy'
          rw [hn'] at h2
          rcases hzy with hzy | ⟨x'', hzy, _⟩
          ·rw [hzy] at hk
           simp only [Sum.inr.injEq] at hk
           subst hk
           simp only [Sum.elim_inr] at he
           exact hQ .ret _ σ2 φ2 a' w' he h2
          ·rw [hzy] at hk; simp at hk
         ·simp at hk
       rcases hit with hit | ⟨x', hit, hit'⟩
       ·exact body _ hit (.inl rfl)
       ·exact body _ hit (.inr ⟨x', rfl, hit'⟩)
     exact key m x σ1 φ1 a w hit h1
    ·simp at he
   ·simp at he
  ·simp at he
 | _ => intros; rename_i he _ _; simp [Vi] at he
end
theorem Hb.mono {w : World} {O O' : Nat → Prop} (hO : ∀ b, O' b → O b) : ∀ {rt : Ty} {r : T rt} {fr : List Bool} {vs : List Value} {F : List Nat}, Hb w O rt r fr vs F → Hb w O' rt r fr vs F
 | .u, _, [], [], _, h => h
 | .p x y, r, f :: fr, v :: vs, F, h => by
  obtain ⟨cs, F1, F2, hv, hF, h1, h2⟩ := h
  refine ⟨cs, F1, F2, hv, hF, ?_, Hb.mono hO h2⟩
  cases f with
  | true => exact h1
  | false =>
   simp only [jq, if_false] at h1 ⊢
   exact ⟨h1.1.weaken hO, h1.2⟩
 | .u, _, _ :: _, _, _, h => by simp [Hb] at h
 | .u, _, [], _ :: _, _, h => by simp [Hb] at h
 | .p _ _, _, [], _, _, h => by simp [Hb] at h
 | .p _ _, _, _ :: _, [], _, h => by simp [Hb] at h
 | .i _, _, fr, vs, _, h => by simp [Hb] at h
 | .b, _, fr, vs, _, h => by simp [Hb] at h
 | .o, _, fr, vs, _, h => by simp [Hb] at h
 | .mp _ _, _, fr, vs, _, h => by simp [Hb] at h
 | .s, _, fr, vs, _, h => by simp [Hb] at h
 | .sl _, _, fr, vs, _, h => by simp [Hb] at h
section
variable {P : Program} {n0 : Nat} {A : Fx} {O0 : Nat → Prop} {w0 w : World} {s : AS} {σ : Nat → Value} {φ : Nat → List Nat} {a : Act} {G : Mc} {L : List (Nat × Ib)}
def RU (w : World) (O : Nat → Prop) (hp : Nat → Option Ca) (σ : Nat → Value) : D → List Value → Prop
 | .pr a b, v :: vs => Jb w O hp σ a v ∧ RU w O hp σ b vs
 | .un, [] => True
 | _, _ => False
def Qs (tmps : Array Value) : ResultVar → Sem Value
 | .tmp t => pure (tmps.getD t undef)
 | .cell a t => do loadVar t (← asAddr (tmps.getD a undef))
theorem Ar (hG : EnvTy P G) (h : Ja n0 A O0 w0 s σ φ a w) : ∀ {rs : List ResultVar} {d : D}, Pm G s rs = some d → ∃ vs, (rs.mapM (Qs a.tmps)).run P w = .ok vs w ∧ RU w (OO O0 s φ) s.heap σ d vs
 | [], d, he => by
  simp only [Pm, jc] at he
  subst he
  exact ⟨[], by simp, trivial⟩
 | .tmp t :: r, d, he => by
  simp only [Pm] at he
  split at he
  ·rename_i d1 d2 h1 h2
   simp only [jc] at he
   subst he
   obtain ⟨vs, hvs, hr⟩ := Ar hG h h2
   obtain ⟨v, hv, hru⟩ := h.tm t d1 h1
   have hg : a.tmps.getD t undef = v := by rw [Array.getD_eq_getD_getElem?, hv]; rfl
   refine ⟨v :: vs, ?_, hru, hr⟩
   rw [List.mapM_cons]
   simp only [Qs, qr, Sem.run_pure, qq, hvs, hg]
  ·simp at he
 | .cell t ty :: r, d, he => by
  simp only [Pm] at he
  split at he
  ·rename_i id d2 h1 h2
   split at he
   ·rename_i ρ d1 τ hb hty
    split at he
    ·rename_i q hq
     obtain rfl := q.down
     simp only [jc] at he
     subst he
     obtain ⟨vs, hvs, hr⟩ := Ar hG h h2
     obtain ⟨v, hv, hru⟩ := h.tm t _ h1
     have hg : a.tmps.getD t undef = v := by rw [Array.getD_eq_getD_getElem?, hv]; rfl
     rw [Ej] at hru
     obtain ⟨b, hσ, hv'⟩ := hru.2 _ _ hb
     obtain ⟨hs, b', cur, et, hσ', hh, hF, hrep, hsz⟩ := h.hp id _ hb
     rw [hσ] at hσ'
     simp at hσ'
     subst hσ'
     have hl := Ih (P := P) (hG.ty _ _ hty) (off := 0) hh (by omega)
     have hseg : Wb cur 0 ρ.size = cur.toList := by rw [← hsz]; exact RJ cur
     rw [hseg] at hl
     refine ⟨Rb ρ cur.toList :: vs, ?_, Xg hs hrep, hr⟩
     rw [List.mapM_cons]
     have hoff : Ma ρ [] = 0 := rfl
     rw [hoff] at hv'
     subst hv'
     simp only [Qs, qr, Sem.run_pure, qq, hvs, hg, asAddr, hl]
    ·simp at he
   ·simp at he
  ·simp at he
theorem Ax (h : Ja n0 A O0 w0 s σ φ a w) : ∀ {rt : Ty} {fr : List Bool} {d : D} {r : T rt} {l : List Nat} {vs : List Value}, Yc s rt fr d = some (r, l) → RU w (OO O0 s φ) s.heap σ d vs →
 Hb w (OO O0 s φ) rt r fr vs (Ba φ l) ∧ ∀ j, j ∈ l → ∃ b, s.heap j = some b
 | .u, [], .un, r, l, vs, he, hr => by
  simp only [Yc, jc, jh] at he
  obtain ⟨_, rfl⟩ := he
  cases vs with
  | nil => exact ⟨by simp [Hb, Ba], by simp⟩
  | cons v vs => simp [RU] at hr
 | .p x y, f :: fr, .pr d1 d2, r, l, vs, he, hr => by
  cases vs with
  | nil => simp [RU] at hr
  | cons v vs =>
   simp only [Yc] at he
   split at he
   ·rename_i u l1 z l2 h1 h2
    simp only [jc, jh] at he
    obtain ⟨rfl, rfl⟩ := he
    obtain ⟨g1, g2⟩ := Ax h h2 hr.2
    cases f with
    | true =>
     simp only [cond_true] at h1
     obtain ⟨hrep, hv⟩ := Jc (Ue h1) hr.1
     obtain ⟨ho, hl⟩ := Jg h h1 hrep
     refine ⟨⟨_, Ba φ l1, Ba φ l2, hv, Nc, ?_, g1⟩, ?_⟩
     ·simpa using ho
     ·intro j hj
      rcases jl.1 hj with hj | hj
      ·exact hl j hj
      ·exact g2 j hj
    | false =>
     simp only [cond_false] at h1
     split at h1
     ·rename_i u' hu
      simp only [jc, jh] at h1
      obtain ⟨rfl, rfl⟩ := h1
      obtain ⟨hs, hvw⟩ := Nd (w := w) (O := OO O0 s φ) (hp := s.heap) (σ := σ) hu
      obtain ⟨hrep, hv⟩ := Jc hs hr.1
      refine ⟨⟨_, [], Ba φ l2, hv, by simp [Ba], ?_, g1⟩, by simpa using g2⟩
      simpa using hvw _ hrep
     ·simp at h1
   ·simp at he
 | .u, _ :: _, d, _, _, _, he, _ => by cases d <;> simp [Yc] at he
 | .u, [], .und, _, _, _, he, _ => by simp [Yc] at he
 | .u, [], .anyv, _, _, _, he, _ => by simp [Yc] at he
 | .u, [], .mpo _, _, _, _, he, _ => by simp [Yc] at he
 | .u, [], .t _ _, _, _, _, he, _ => by simp [Yc] at he
 | .u, [], .nil, _, _, _, he, _ => by simp [Yc] at he
 | .u, [], .own _, _, _, _, he, _ => by simp [Yc] at he
 | .u, [], .ptr _ _, _, _, _, he, _ => by simp [Yc] at he
 | .u, [], .eptr _ _ _, _, _, _, he, _ => by simp [Yc] at he
 | .u, [], .rp _ _, _, _, _, he, _ => by simp [Yc] at he
 | .u, [], .pr _ _, _, _, _, he, _ => by simp [Yc] at he
 | .u, [], .tup _, _, _, _, he, _ => by simp [Yc] at he
 | .p _ _, [], d, _, _, _, he, _ => by cases d <;> simp [Yc] at he
 | .p _ _, _ :: _, .und, _, _, _, he, _ => by simp [Yc] at he
 | .p _ _, _ :: _, .anyv, _, _, _, he, _ => by simp [Yc] at he
 | .p _ _, _ :: _, .mpo _, _, _, _, he, _ => by simp [Yc] at he
 | .p _ _, _ :: _, .t _ _, _, _, _, he, _ => by simp [Yc] at he
 | .p _ _, _ :: _, .nil, _, _, _, he, _ => by simp [Yc] at he
 | .p _ _, _ :: _, .own _, _, _, _, he, _ => by simp [Yc] at he
 | .p _ _, _ :: _, .ptr _ _, _, _, _, he, _ => by simp [Yc] at he
 | .p _ _, _ :: _, .eptr _ _ _, _, _, _, he, _ => by simp [Yc] at he
 | .p _ _, _ :: _, .rp _ _, _, _, _, he, _ => by simp [Yc] at he
 | .p _ _, _ :: _, .un, _, _, _, he, _ => by simp [Yc] at he
 | .p _ _, _ :: _, .tup _, _, _, _, he, _ => by simp [Yc] at he
 | .i _, fr, d, _, _, _, he, _ => by cases fr <;> cases d <;> simp [Yc] at he
 | .b, fr, d, _, _, _, he, _ => by cases fr <;> cases d <;> simp [Yc] at he
 | .o, fr, d, _, _, _, he, _ => by cases fr <;> cases d <;> simp [Yc] at he
 | .mp _ _, fr, d, _, _, _, he, _ => by cases fr <;> cases d <;> simp [Yc] at he
 | .s, fr, d, _, _, _, he, _ => by cases fr <;> cases d <;> simp [Yc] at he
 | .sl _, fr, d, _, _, _, he, _ => by cases fr <;> cases d <;> simp [Yc] at he
theorem Xt {fn : Func} {vs : List Value} (h : (fn.results.toList.mapM (Qs a.tmps)).run P w = .ok vs w) : (results fn a.tmps).run P w = .ok (Rp vs) w := by
 unfold results
 rw [Array.mapM_eq_mapM_toList]
 simp only [map_eq_pure_bind, bind_assoc, pure_bind, qr, Sem.run_pure]
 show (Sem.run P (List.mapM (Qs a.tmps) fn.results.toList) w).andThen (fun vs w' => Result.ok (if h : vs.toArray.size = 1 then vs.toArray[0] else Value.tuple vs.toArray) w') = _
 rw [h]
 simp only [qq]
 congr 1
 cases vs with
 | nil => rfl
 | cons v vs => cases vs <;> rfl
end
def Ty.npar : Ty → Nat
 | .p _ y => y.npar + 1
 | _ => 0
theorem Xs {w : World} {O : Nat → Prop} : ∀ {pt : Ty} {x : T pt} {args : List Value}, Ad w O pt x args → args.length = pt.npar
 | .u, _, [], _ => rfl
 | .p x y, v, a :: r, h => by simp [Ty.npar, Xs h.2]
 | .u, _, _ :: _, h => by simp [Ad] at h
 | .p _ _, _, [], h => by simp [Ad] at h
 | .i _, _, l, h => by simp [Ad] at h
 | .b, _, l, h => by simp [Ad] at h
 | .o, _, l, h => by simp [Ad] at h
 | .mp _ _, _, l, h => by simp [Ad] at h
 | .s, _, l, h => by simp [Ad] at h
 | .sl _, _, l, h => by simp [Ad] at h
theorem Qu {w : World} {O : Nat → Prop} {hp : Nat → Option Ca} {σ : Nat → Value} : ∀ {pt : Ty} {x : T pt} {args : List Value} {n t : Nat} {d : D}, Ad w O pt x args → Na (Nk pt x n) t = some d →
 ∃ j v, t = n + j ∧ args[j]? = some v ∧ Jb w O hp σ d v
 | .p x y, v, a :: r, n, t, d, h, hd => by
  simp only [Nk] at hd
  rw [Kb] at hd
  split at hd
  ·rename_i e
   simp only [jc] at hd
   subst hd
   obtain ⟨⟨cs, ha, hv⟩, _⟩ := h
   refine ⟨0, a, by omega, rfl, ?_⟩
   rw [ha]
   exact Xg (τ := x) (by simp [La]) hv
  ·obtain ⟨j, v', h1, h2, h3⟩ := Qu (hp := hp) (σ := σ) h.2 hd
   exact ⟨j + 1, v', by omega, by simpa using h2, h3⟩
 | .p _ _, _, [], _, _, _, h, _ => by simp [Ad] at h
 | .u, _, _, _, _, _, _, hd => by simp [Nk, Na] at hd
 | .i _, _, _, _, _, _, h, _ => by simp [Ad] at h
 | .b, _, _, _, _, _, h, _ => by simp [Ad] at h
 | .o, _, _, _, _, _, h, _ => by simp [Ad] at h
 | .mp _ _, _, _, _, _, _, h, _ => by simp [Ad] at h
 | .s, _, _, _, _, _, h, _ => by simp [Ad] at h
 | .sl _, _, _, _, _, _, h, _ => by simp [Ad] at h
section
variable {P : Program} {G : Mc} {L : List (Nat × Ib)}
variable {I : Hr}
def MH (I : Hr) : Fx := ⟨fun _ => False, fun _ => none, fun _ _ h => by simp at h, I, fun _ h => h.elim⟩
theorem FI (hG : Kg P I G) (hm : P.follows .mixedOrders = true) {f : FuncId} {fn : Func} {c : Code} (hf : P.funcs[f]? = some fn) (hb : fn.body = some c) (hname : (fn.name == "runtime.NumGoroutine") = false)
 (hL : ∀ b, b ∈ Pc c → Kc G L b) {pt rt : Ty} {fr : List Bool} {F : T pt → Option (T rt)} (hn : pt.npar ≤ fn.ntmps) (hF : ∀ x r, F x = some r → IE G L fn pt rt fr x = some r) : Jm P I f (.pu pt rt fr F) := by
 refine ⟨⟨fn, hf, hname, by rw [hb]; rfl⟩, ?_⟩
 intro O w x r args hx hargs hO hI hB
 have he := hF x r hx
 unfold IE at he
 rw [hb] at he
 simp only at he
 refine calls_of_wp hf hb ?_
 have hlen := Xs hargs
 have hc : Ja w.heap.size (MH I) O w ⟨fn.ntmps, Nk pt x 0, []⟩ (fun _ => undef) (fun _ => []) { tmps := args.toArray ++ Array.replicate (fn.ntmps - args.toArray.size) undef, defers := [] } w := by
  have hh : ∀ id, AS.heap ⟨fn.ntmps, Nk pt x 0, []⟩ id = none := fun id => rfl
  refine ⟨?_, rfl, ?_, ?_, ?_, ?_, ?_, hO, ⟨rfl, rfl, rfl, jo _, fun _ _ _ => rfl⟩, ?_, hB, hI⟩
  ·simp; omega
  ·intro t d hd
   have hOO : OO O ⟨fn.ntmps, Nk pt x 0, []⟩ (fun _ => []) = O := by
    funext b
    simp [OO, hh]
   rw [hOO]
   obtain ⟨j, v, h1, h2, h3⟩ := Qu hargs hd
   refine ⟨v, ?_, h3⟩
   have hj : j < args.length := (List.getElem?_eq_some_iff.1 h2).1
   have : t = j := by omega
   subst this
   rw [Array.getElem?_append_left (by simpa using hj)]
   simpa using h2
  ·intro id Da hb; rw [hh] at hb; simp at hb
  ·intro id Da hb; rw [hh] at hb; simp at hb
  ·intro id id' Da blk' _ hb; rw [hh] at hb; simp at hb
  ·intro id Da hb; rw [hh] at hb; simp at hb
  ·intro id v hv; simp [MH] at hv
 refine HE (A := MH I) hG (fun _ _ h => h) hm c hL he hc ?_
 intro e s σ φ a w' hk h
 have Ke : (match Pm G s fn.results.toList with
  | some d => match Yc s rt fr d with
   | some (r, l) => bif Ed l then some r else none
   | none => none
  | none => none) = some r → a.defers = [] ∧ ∃ v, (results fn a.tmps).run P w' = .ok v w' ∧ Al (fun v w' => ∃ vs Fr, v = Rp vs ∧ En w w' (fun _ => False) ∧ Hb w' (fun b => O b ∨ b ∈ Fr) rt r fr vs Fr ∧ Fr.Nodup ∧ ∀ b ∈ Fr, w.heap.size ≤ b) (.returned v) w' := by
  intro hk
  split at hk
  ·rename_i d hd
   split at hk
   ·rename_i r' l hr
    simp only [Aa] at hk
    obtain ⟨hnd, hk⟩ := hk
    simp only [jc] at hk
    subst hk
    have hnd := Le hnd
    obtain ⟨vs, hvs, hru⟩ := Ar hG.toEnvTy h hd
    obtain ⟨hR, hlive⟩ := Ax h hr hru
    refine ⟨h.df, _, Xt hvs, vs, Ba φ l, rfl, ⟨h.fr.size, fun b hb _ => h.fr.block b hb (fun h => h), h.fr.os, h.fr.tape, h.fr.output⟩, hR.mono ?_, Fd h hnd hlive, ?_⟩
    ·rintro b (hb | hb)
     ·exact .inl hb
     ·obtain ⟨j, hj, hm'⟩ := Oa.1 hb
      obtain ⟨Da, hbj⟩ := hlive j hj
      exact .inr ⟨j, Da, hbj, hm'⟩
    ·intro b hb
     obtain ⟨j, hj, hm'⟩ := Oa.1 hb
     obtain ⟨Da, hbj⟩ := hlive j hj
     exact (h.fresh j Da hbj b hm').resolve_right (fun h => h)
   ·simp at hk
  ·simp at hk
 cases e with
 | normal => exact Ke hk
 | ret => exact Ke hk
 | exit j => simp at hk
end
def Az (G : Mc) (L : List (Nat × Ib)) (fn : Func) (τ pt rt : Ty) (fr : List Bool) (x0 : T τ) (x : T pt) : Option (T τ × T rt) :=
 match fn.body with
 | some c => match Cc τ x0 500000 with
  | (d0, rows, _) => Vi G L c ⟨fn.ntmps, (0, d0) :: Nk pt x 1, rows⟩ fun e s => match e with
   | .exit _ => none
   | _ => match Ya s d0 τ, Pm G s fn.results.toList with
    | some (x', l0), some d => match Yc s rt fr d with
     | some (r, l) => bif Ed (l0 ++ l) then some (x', r) else none
     | none => none
    | _, _ => none
 | none => none
theorem Wr {φ : Nat → List Nat} : ∀ {L : List Nat}, (Ba φ L).Nodup → ∀ {i j b : Nat}, i ∈ L → j ∈ L → i ≠ j → b ∈ φ i → b ∉ φ j
 | [], _, _, _, _, h, _, _, _ => by simp at h
 | x :: L, hn, i, j, b, hi, hj, hne, hb => by
  intro hb'
  have hx : Ba φ (x :: L) = φ x ++ Ba φ L := by simp [Ba]
  rw [hx, List.nodup_append] at hn
  rcases jp.1 hi with e1 | q1
  ·rcases jp.1 hj with e2 | q2
   ·exact hne (e1.trans e2.symm)
   ·exact hn.2.2 b (e1 ▸ hb) b (Oa.2 ⟨j, q2, hb'⟩) rfl
  ·rcases jp.1 hj with e2 | q2
   ·exact hn.2.2 b (e2 ▸ hb') b (Oa.2 ⟨i, q1, hb⟩) rfl
   ·exact Wr hn.2.1 q1 q2 hne hb hb'
section
variable {P : Program} {G : Mc} {L : List (Nat × Ib)} {I : Hr}
theorem EI (hG : Kg P I G) (hfz : G.fz = false) (hm : P.follows .mixedOrders = true) {f : FuncId} {fn : Func} {c : Code} (hf : P.funcs[f]? = some fn) (hb : fn.body = some c) (hname : (fn.name == "runtime.NumGoroutine") = false)
 (hL : ∀ b, b ∈ Pc c → Kc G L b) {τ pt rt : Ty} {fr : List Bool} {F : T τ → T pt → Option (T τ × T rt)} (hn : pt.npar + 1 ≤ fn.ntmps) (hF : ∀ x0 x r, F x0 x = some r → Az G L fn τ pt rt fr x0 x = some r) :
 Jm P I f (.io τ pt rt fr F) := by
 refine ⟨⟨fn, hf, hname, by rw [hb]; rfl⟩, ?_⟩
 intro O w x0 x r cs0 F0 args hx hown hF0 hargs hO hI hB hFB
 have he := hF x0 x r hx
 unfold Az at he
 rw [hb] at he
 simp only at he
 rcases hop : Cc τ x0 500000 with ⟨d0, rows, m⟩
 rw [hop] at he
 simp only at he
 obtain ⟨_, hids, hsh, ψ, ν, hbl, hrows, hrep⟩ := Wk hop hown
 refine calls_of_wp hf hb ?_
 have hlen := Xs hargs
 have hmem : ∀ id Da, AS.heap ⟨fn.ntmps, (0, d0) :: Nk pt x 1, rows⟩ id = some Da → id ∈ rows.map (·.1) ∧ ∃ e xs, Da = .row e true xs ∧ Ab w (.sl e) xs [ν id] (ψ id) := by
  intro id Da hb
  have hm := AS.heap_mem hb
  obtain ⟨e, xs, h1, h2⟩ := hrows _ hm
  simp only [jc] at h1
  exact ⟨List.mem_map_of_mem (f := (·.1)) hm, e, xs, h1, h2⟩
 have hF0' : (Ba ψ (rows.map (·.1))).Nodup := by rw [hbl]; exact hF0
 let A : Fx := ⟨(· ∈ F0), fun id => if id ∈ rows.map (·.1) then some (ν id) else none, fun id v h => by
  split at h
  ·rename_i hi
   obtain ⟨p, hp, rfl⟩ := qm.1 hi
   exact (hids p hp).1
  ·simp at h, I, hFB⟩
 have hOO : OO (fun b => O b ∨ b ∈ F0) ⟨fn.ntmps, (0, d0) :: Nk pt x 1, rows⟩ ψ = (fun b => O b ∨ b ∈ F0) := by
  funext b
  refine propext ⟨fun h => ?_, .inl⟩
  rcases h with h | ⟨id, Da, hb, hm⟩
  ·exact h
  ·refine .inr ?_
   rw [← hbl]
   exact Oa.2 ⟨id, (hmem id Da hb).1, hm⟩
 have hc : Ja w.heap.size A (fun b => O b ∨ b ∈ F0) w ⟨fn.ntmps, (0, d0) :: Nk pt x 1, rows⟩ ν ψ { tmps := (Rb τ cs0 :: args).toArray ++ Array.replicate (fn.ntmps - (Rb τ cs0 :: args).toArray.size) undef, defers := [] } w := by
  refine ⟨?_, rfl, ?_, ?_, ?_, ?_, ?_, ?_, ⟨rfl, rfl, rfl, jo _, fun _ _ _ => rfl⟩, ?_, hB, hI⟩
  ·simp; omega
  ·intro t d hd
   rw [hOO]
   rw [Kb] at hd
   split at hd
   ·rename_i e
    subst e
    simp only [jc] at hd
    subst hd
    exact ⟨Rb τ cs0, by rw [Array.getElem?_append_left (by simp)]; simp, Xg hsh (hrep w _ _ _ fun _ _ => rfl)⟩
   ·obtain ⟨j, v, h1, h2, h3⟩ := Qu hargs hd
    refine ⟨v, ?_, h3⟩
    have hj : j < args.length := (List.getElem?_eq_some_iff.1 h2).1
    have : t = j + 1 := by omega
    subst this
    rw [Array.getElem?_append_left (by simpa using hj)]
    simpa using h2
  ·intro id Da hb
   obtain ⟨_, e, xs, rfl, h2⟩ := hmem id Da hb
   exact h2
  ·intro id Da hb
   have hi := (hmem id Da hb).1
   have : (ψ id).Sublist (Ba ψ (rows.map (·.1))) := by
    unfold Ba
    exact List.sublist_flatten_of_mem (List.mem_map_of_mem hi)
   exact this.nodup hF0'
  ·intro id id' Da blk' hne hb hb' b hm
   exact Wr hF0' (hmem id Da hb).1 (hmem id' blk' hb').1 hne hm
  ·intro id Da hb b hm
   refine .inr ?_
   show b ∈ F0
   rw [← hbl]
   exact Oa.2 ⟨id, (hmem id Da hb).1, hm⟩
  ·rintro b (hb | hb)
   ·exact hO b hb
   ·exact hown.lt b hb
  ·intro id v hv
   simp only [A] at hv
   split at hv
   ·simpa using hv
   ·simp at hv
 refine HE (A := A) hG (fun h => by rw [hfz] at h; simp at h) hm c hL he hc ?_
 intro e s σ φ a w' hk h
 have Ke : (match Ya s d0 τ, Pm G s fn.results.toList with
  | some (x', l0), some d => match Yc s rt fr d with
   | some (r, l) => bif Ed (l0 ++ l) then some (x', r) else none
   | none => none
  | _, _ => none) = some r → a.defers = [] ∧ ∃ v, (results fn a.tmps).run P w' = .ok v w' ∧ Al (fun v w' => ∃ vs F1 Fr, v = Rp vs ∧ En w w' (· ∈ F0) ∧ Ab w' τ r.1 cs0 F1 ∧ (∀ b ∈ F1, w.heap.size ≤ b ∨ b ∈ F0) ∧
  Hb w' (fun b => O b ∨ b ∈ F0 ∨ b ∈ F1 ∨ b ∈ Fr) rt r.2 fr vs Fr ∧ (F1 ++ Fr).Nodup ∧ ∀ b ∈ Fr, w.heap.size ≤ b ∨ b ∈ F0) (.returned v) w' := by
  intro hk
  split at hk
  ·rename_i x' l0 d hx' hd
   split at hk
   ·rename_i r' l hr
    simp only [Aa] at hk
    obtain ⟨hnd, hk⟩ := hk
    simp only [jc] at hk
    subst hk
    have hnd := Le hnd
    have hr0 : Ka w' (OO (fun b => O b ∨ b ∈ F0) s φ) s.heap σ d0 cs0 := by
     refine hrep w' _ _ _ fun p hp => h.pin p.1 (ν p.1) ?_
     show (if p.1 ∈ rows.map (·.1) then some (ν p.1) else none) = _
     rw [if_pos (List.mem_map_of_mem (f := (·.1)) hp)]
    obtain ⟨ho', hlive0⟩ := Jg h hx' hr0
    obtain ⟨vs, hvs, hru⟩ := Ar hG.toEnvTy h hd
    obtain ⟨hR, hlive⟩ := Ax h hr hru
    have hall : ∀ j, j ∈ l0 ++ l → ∃ b, s.heap j = some b := by
     intro j hj
     rcases jl.1 hj with hj | hj
     ·exact hlive0 j hj
     ·exact hlive j hj
    have hfr : ∀ b, b ∈ Ba φ (l0 ++ l) → w.heap.size ≤ b ∨ b ∈ F0 := by
     intro b hb
     obtain ⟨j, hj, hm'⟩ := Oa.1 hb
     obtain ⟨Da, hbj⟩ := hall j hj
     exact h.fresh j Da hbj b hm'
    have hinOO : ∀ b, b ∈ Ba φ (l0 ++ l) → OO (fun b => O b ∨ b ∈ F0) s φ b := by
     intro b hb
     obtain ⟨j, hj, hm'⟩ := Oa.1 hb
     obtain ⟨Da, hbj⟩ := hall j hj
     exact .inr ⟨j, Da, hbj, hm'⟩
    rw [Nc] at hfr hinOO
    refine ⟨h.df, _, Xt hvs, vs, Ba φ l0, Ba φ l, rfl, ⟨h.fr.size, fun b hb hno => h.fr.block b hb hno, h.fr.os, h.fr.tape, h.fr.output⟩, ho', fun b hb => hfr b (List.mem_append_left _ hb), hR.mono ?_, ?_, fun b hb => hfr b (List.mem_append_right _ hb)⟩
    ·rintro b (hb | hb | hb | hb)
     ·exact .inl (.inl hb)
     ·exact .inl (.inr hb)
     ·exact hinOO b (List.mem_append_left _ hb)
     ·exact hinOO b (List.mem_append_right _ hb)
    ·rw [← Nc]
     exact Fd h hnd hall
   ·simp at hk
  ·simp at hk
 cases e with
 | normal => exact Ke hk
 | ret => exact Ke hk
 | exit j => simp at hk
end
theorem Mg.lt {w : World} : ∀ {pt : Ty} {x : T pt} {args : List Value} {F : List Nat}, Mg w pt x args F → ∀ b, b ∈ F → b < w.heap.size
 | .u, _, [], F, h, b, hb => by simp only [Mg] at h; subst h; simp at hb
 | .p x y, v, a :: r, F, h, b, hb => by
  obtain ⟨cs, F1, F2, _, rfl, ho, h⟩ := h
  rcases jl.1 hb with hb | hb
  ·exact ho.lt b hb
  ·exact Mg.lt h b hb
 | .u, _, _ :: _, _, h, _, _ => by simp [Mg] at h
 | .p _ _, _, [], _, h, _, _ => by simp [Mg] at h
 | .i _, _, l, _, h, _, _ => by simp [Mg] at h
 | .b, _, l, _, h, _, _ => by simp [Mg] at h
 | .o, _, l, _, h, _, _ => by simp [Mg] at h
 | .mp _ _, _, l, _, h, _, _ => by simp [Mg] at h
 | .s, _, l, _, h, _, _ => by simp [Mg] at h
 | .sl _, _, l, _, h, _, _ => by simp [Mg] at h
section
variable {P : Program} {G : Mc} {L : List (Nat × Ib)} {I : Hr}
end
open Go Go.WideShapes
def Tj : (τ : Ty) → T τ → Prop
 | .i k, n => k.has n
 | .b, _ => True
 | .o, _ => True
 | .mp _ _, _ => True
 | .s, x => ja x ≤ Gf
 | .sl e, xs => ja xs ≤ Gf ∧ ∀ i (h : i < ja xs), Tj e (List.get xs ⟨i, h⟩)
 | .u, _ => True
 | .p x y, v => Tj x v.1 ∧ Tj y v.2
def Ty.pos : Ty → Bool
 | .sl e => e.pos && Nat.blt 0 e.size
 | .p x y => x.pos && y.pos
 | .o => false
 | .mp _ _ => false
 | _ => true
section
variable {H : Type} {enc : TypeId × Value → H} {P : Program} {w : World} {base : Nat} {spare : Nat → Bool} {held : Bool}
theorem Ug {τ : Ty} {t : TypeId} (h : Ob P τ t = true) : P.cellsOf t = τ.size := by
 obtain ⟨i, h1, h2, _⟩ := Tok.size h
 simp [Program.cellsOf, h1, h2]
theorem IJ {k : IntKind} {n : Int} (h : (Lit.int k n).wf = true) : k.has n := by
 simpa [Lit.wf, IntKind.has] using h
theorem YK {a : Addr} {n : Nat} (h : n ≠ 0) : a.add n = ⟨a.block, a.off + n, none⟩ := by
 simp [Addr.add, h]
theorem Yr {a : Addr} {n : Nat} {cs : List Value} (h : w.cells? base a n = some cs) (hn : 0 < n) :
 ∃ cur et fr, a = ⟨a.block, a.off, none⟩ ∧ w.heap[a.block]? = some (.cells cur et fr) ∧ a.off + n ≤ cur.size ∧ cs = Wb cur a.off n := by
 unfold World.cells? at h
 split at h
 ·have hlen : cs.length = n := by simpa using mapM_some_length h
  have hget : ∀ i, i < n → w.cell? (a.add i) = cs[i]? := fun i hi => mapM_some_get h i i (by simp [hi])
  have h0 := hget 0 hn
  have ha : a.add 0 = a := by simp [Addr.add]
  rw [ha] at h0
  have hc0 : cs[0]? = some (cs[0]'(by omega)) := je (by omega)
  rw [hc0] at h0
  unfold World.cell? at h0
  split at h0
  ·rename_i cur et fr hb
   have hsp : a.spot = none := by
    cases hs : a.spot with
    | none => rfl
    | some x => simp [hs] at h0
   have hcell : ∀ i, i < n → cur[a.off + i]? = cs[i]? := by
    intro i hi
    have := hget i hi
    by_cases hi0 : i = 0
    ·subst hi0
     rw [ha] at this
     unfold World.cell? at this
     rw [hb] at this
     simpa [hsp] using this
    ·rw [YK hi0] at this
     unfold World.cell? at this
     simp only at this
     rw [hb] at this
     simpa using this
   refine ⟨cur, et, fr, by cases a; simp_all, hb, ?_, ?_⟩
   ·have h1 := hcell (n - 1) (by omega)
    rw [je (by omega)] at h1
    have := (Array.getElem?_eq_some_iff.1 h1).1
    omega
   ·apply List.ext_getElem?
    intro i
    by_cases hi : i < n
    ·rw [Rc _ _ _ _ hi, hcell i hi]
    ·rw [List.getElem?_eq_none (by omega), List.getElem?_eq_none]
     simp [Wb]; omega
  ·simp at h0
 ·simp at h
theorem AJ {fs : List Field} {o : Nat} (h : Tc P .u fs o = true) : fs = [] := by
 cases fs <;> simp_all [Tc]
theorem Uz {x y : Ty} {fs : List Field} {o : Nat} (h : Tc P (.p x y) fs o = true) : ∃ f r, fs = f :: r ∧ f.offset = o ∧ Ob P x f.type = true ∧ Tc P y r (o + x.size) = true := by
 cases fs with
 | nil => simp [Tc] at h
 | cons f r =>
  simp only [Tc, jd] at h
  exact ⟨f, r, rfl, ju h.1.1.1, h.1.2, h.2⟩
theorem Dz {x y : Ty} {t : TypeId} (h : Ob P (.p x y) t = true) : ∃ fs, P.underlying t = some (.struct fs) ∧ Tc P (.p x y) fs.toList 0 = true := by
 simp only [Ob, jd] at h
 obtain ⟨_, h⟩ := h
 split at h
 ·rename_i fs hfs
  refine ⟨fs, hfs, ?_⟩
  split at h
  ·rename_i f r hr
   rw [hr]
   simpa [Tc] using h
  ·simp at h
 ·simp at h
theorem Ez {t : TypeId} (h : Ob P .u t = true) : ∃ fs, P.underlying t = some (.struct fs) ∧ fs.size = 0 := by
 simp only [Ob, jd] at h
 obtain ⟨_, h⟩ := h
 split at h
 ·rename_i fs hfs
  exact ⟨fs, hfs, ju h⟩
 ·simp at h
mutual
theorem Ws (hO : ∀ b, ¬ (fun _ : Nat => False) b) : ∀ (τ : Ty) (t : TypeId) (n : Nat) (cs : List Value) (x : DataW H × List MemPlace), Ob P τ t = true → τ.pos = true →
 DataW.trod enc P w base spare held n t cs = some x → ∃ y : T τ, Ga w (fun _ => False) τ y cs ∧ Tj τ y
 | .i k, t, n, cs, x, ht, _, h => by
  obtain ⟨m, h1, _, h2⟩ := DataW.trod_int (Tok.i ht) h
  exact ⟨m, h1, IJ h2⟩
 | .b, t, n, cs, x, ht, _, h => by
  obtain ⟨m, h1, _⟩ := DataW.trod_bool (Tok.b ht) h
  exact ⟨m, h1, trivial⟩
 | .o, t, n, cs, x, ht, hp, h => by simp [Ty.pos] at hp
 | .mp _ _, t, n, cs, x, ht, hp, h => by simp [Ty.pos] at hp
 | .s, t, n, cs, x, ht, _, h => by
  obtain ⟨m, h1, _, h2⟩ := DataW.trod_string (Tok.s ht) h
  refine ⟨m.data.toList, ?_, ?_⟩
  ·show cs = [.string ⟨List.toArray m.data.toList⟩]
   rw [h1]
  ·show m.data.toList.length ≤ Gf
   have : m.size = m.data.toList.length := Array.length_toList.symm
   unfold maxLen at h2
   unfold Gf
   omega
 | .sl e, t, n, cs, x, ht, hp, h => by
  obtain ⟨et, hu, he⟩ := Tok.sl ht
  simp only [Ty.pos, jd] at hp
  have hpos : 0 < e.size := by simpa using hp.2
  rcases DataW.trod_slice hu h with ⟨h1, _⟩ | ⟨a, len, cap, elems, rest, m, _, h1, _, _, h2, h3, h4, h5, _, _⟩
  ·exact ⟨([] : List (T e)), ⟨none, 0, h1, jo _, Nat.zero_le _, .inl rfl⟩, ⟨Nat.zero_le _, fun i hi => absurd hi (Nat.not_lt_zero i)⟩⟩
  ·rw [Ug he] at h5
   have hone : ∀ i, i < len → ∃ y : T e, ∃ cs', w.cells? base (a.add (i * e.size)) e.size = some cs' ∧ Ga w (fun _ => False) e y cs' ∧ Tj e y := by
    intro i hi
    have := h5 i hi
    rw [je (by omega), qd] at this
    obtain ⟨cs', hc, hy⟩ := this
    obtain ⟨y, hv, hr⟩ := Ws hO e et m cs' _ he hp.1 hy
    exact ⟨y, cs', hc, hv, hr⟩
   let ys : List (T e) := List.ofFn fun i : Fin len => Classical.choose (hone i.1 i.2)
   have hlen : ys.length = len := by simp [ys]
   have hy : ∀ i (h : i < ys.length), ∃ cs', w.cells? base (a.add (i * e.size)) e.size = some cs' ∧ Ga w (fun _ => False) e (ys.get ⟨i, h⟩) cs' ∧ Tj e (ys.get ⟨i, h⟩) := by
    intro i hi
    have := Classical.choose_spec (hone i (by omega))
    simpa [ys] using this
   have hmax : len ≤ Gf := by unfold maxLen at h3; unfold Gf; omega
   refine ⟨ys, ⟨some a, cap, by rw [h1, hlen], by rw [hlen]; exact h2, by rw [hlen]; exact hmax, ?_⟩, by rw [hlen]; exact hmax, fun i hi => (hy i hi).choose_spec.2.2⟩
   by_cases hl0 : len = 0
   ·left
    exact List.eq_nil_of_length_eq_zero (by omega)
   ·right
    obtain ⟨cs0, hc0, _⟩ := hy 0 (by omega)
    have ha0 : a.add (0 * e.size) = a := by simp [Addr.add]
    rw [ha0] at hc0
    obtain ⟨cur, et', fr, ha, hb, _, _⟩ := Yr hc0 hpos
    have hadd : ∀ i, (a.add (i * e.size)).block = a.block ∧ (a.add (i * e.size)).off = a.off + i * e.size := by
     intro i
     unfold Addr.add
     split
     ·rename_i hz; simp [hz]
     ·exact ⟨rfl, rfl⟩
    refine ⟨a.block, a.off, cur, et', fr, by rw [← ha], fun h => h, hb, ?_, ?_⟩
    ·obtain ⟨cs1, hc1, _⟩ := hy (len - 1) (by omega)
     obtain ⟨cur1, et1, fr1, _, hb1, hs1, _⟩ := Yr hc1 hpos
     rw [(hadd _).1, hb] at hb1
     simp only [jc, Obj.cells.injEq] at hb1
     rw [(hadd _).2, ← hb1.1] at hs1
     have : len * e.size = (len - 1) * e.size + e.size := by
      rw [← Nat.succ_mul]; congr 1; omega
     show a.off + ys.length * e.size ≤ cur.size
     rw [hlen]
     omega
    ·intro i hi
     obtain ⟨cs1, hc1, hv, _⟩ := hy i hi
     obtain ⟨cur1, et1, fr1, _, hb1, _, hs1⟩ := Yr hc1 hpos
     rw [(hadd _).1, hb] at hb1
     simp only [jc, Obj.cells.injEq] at hb1
     rw [(hadd _).2, ← hb1.1] at hs1
     rw [← hs1]
     exact hv
 | .u, t, n, cs, x, ht, _, h => by
  obtain ⟨fs, hu, hz⟩ := Ez ht
  obtain ⟨xs, m, _, _, hl, _⟩ := DataW.trod_struct hu h
  rw [Ug ht] at hl
  exact ⟨(), List.eq_nil_of_length_eq_zero hl, trivial⟩
 | .p a c2, t, n, cs, x, ht, hp, h => by
  obtain ⟨fs, hu, hf⟩ := Dz ht
  obtain ⟨xs, m, _, _, hl, _, hget⟩ := DataW.trod_struct hu h
  rw [Ug ht] at hl
  have := Pt hO (.p a c2) fs.toList 0 m cs hf hp (by simpa using hl) (by
   intro i f hi
   have := hget i f (by simpa using hi)
   have hlt : i < xs.length := by
    have : i < fs.toList.length := (List.getElem?_eq_some_iff.1 hi).1
    simp at this; omega
   exact ⟨_, this.trans (je hlt)⟩)
  simpa using this
termination_by τ => (sizeOf τ, 1)
theorem Pt (hO : ∀ b, ¬ (fun _ : Nat => False) b) : ∀ (τ : Ty) (fs : List Field) (o m : Nat) (cs : List Value), Tc P τ fs o = true → τ.pos = true → cs.length = o + τ.size →
 (∀ (i : Nat) (f : Field), fs[i]? = some f → ∃ x, DataW.trod enc P w base spare held m f.type ((cs.drop f.offset).take (P.cellsOf f.type)) = some x) →
 ∃ y : T τ, Ga w (fun _ => False) τ y (cs.drop o) ∧ Tj τ y
 | .p a c2, fs, o, m, cs, hf, hp, hl, hx => by
  obtain ⟨f, r, rfl, ho, ht, hr⟩ := Uz hf
  simp only [Ty.pos, jd] at hp
  simp only [Ty.size] at hl
  obtain ⟨z, hz⟩ := hx 0 f rfl
  rw [Ug ht, ho] at hz
  obtain ⟨y1, hv1, hr1⟩ := Ws hO a f.type m _ z ht hp.1 hz
  obtain ⟨y2, hv2, hr2⟩ := Pt hO c2 r (o + a.size) m cs hr hp.2 (by omega) (fun i f' hi => hx (i + 1) f' (by simpa using hi))
  refine ⟨(y1, y2), ⟨(cs.drop o).take a.size, cs.drop (o + a.size), ?_, hv1, hv2⟩, hr1, hr2⟩
  rw [← List.drop_drop, List.take_append_drop]
 | .u, fs, o, m, cs, _, _, hl, _ => ⟨(), by simp only [Ga, Ty.size] at hl ⊢; exact List.drop_of_length_le (by omega), trivial⟩
 | .i _, fs, o, m, cs, hf, _, _, _ => by simp [Tc] at hf
 | .b, fs, o, m, cs, hf, _, _, _ => by simp [Tc] at hf
 | .o, fs, o, m, cs, hf, _, _, _ => by simp [Tc] at hf
 | .mp _ _, fs, o, m, cs, hf, _, _, _ => by simp [Tc] at hf
 | .s, fs, o, m, cs, hf, _, _, _ => by simp [Tc] at hf
 | .sl _, fs, o, m, cs, hf, _, _, _ => by simp [Tc] at hf
termination_by τ => (sizeOf τ, 0)
end
end
open Go Go.WideShapes Go.ChangeShapes
def Ve (P : Program) : Ty → List TypeId → Bool
 | .p x y, t :: ts => Ob P x t && x.pos && Ve P y ts
 | .u, [] => true
 | _, _ => false
section
variable {H : Type} {enc : TypeId × Value → H} {P : Program} {w : World} {base : Nat} {spare : Nat → Bool} {held : Bool}
theorem CE {τ : Ty} {t : TypeId} {v : Value} {r : Reach} {b0 : Nat} (ht : Ob P τ t = true) (h : Value.okWide P w r b0 t v) : v = Rb τ v.cells.toList := by
 have key : ∀ {τ : Ty}, τ.isAgg = false → v.cells = #[v] → v = Rb τ v.cells.toList := by
  intro τ h1 h2
  rw [h2]; simp [Rb, h1]
 cases τ with
 | i k =>
  obtain ⟨n, rfl⟩ := okWide_int (Tok.i ht) h
  exact key rfl rfl
 | b =>
  obtain ⟨n, rfl⟩ := okWide_bool (Tok.b ht) h
  exact key rfl rfl
 | o =>
  refine key rfl ?_
  obtain ⟨et, hu⟩ := Tok.o ht
  unfold Value.okWide at h
  rw [hu] at h
  cases v with
  | agg cs => simp [Cell.okWide, Cell.ok, hu] at h
  | _ => rfl
 | mp _ _ =>
  refine key rfl ?_
  obtain ⟨kt, et, hu, _⟩ := Tok.mp ht
  unfold Value.okWide at h
  rw [hu] at h
  cases v with
  | agg cs => simp [Cell.okWide, Cell.ok, hu] at h
  | _ => rfl
 | s =>
  refine key rfl ?_
  have hu := Tok.s ht
  unfold Value.okWide at h
  rw [hu] at h
  cases v with
  | agg cs => simp [Cell.okWide, Cell.ok, hu] at h
  | _ => rfl
 | sl e =>
  refine key rfl ?_
  obtain ⟨et, hu, _⟩ := Tok.sl ht
  unfold Value.okWide at h
  rw [hu] at h
  cases v with
  | agg cs => simp [Cell.okWide, Cell.ok, hu] at h
  | _ => rfl
 | u =>
  obtain ⟨fs, hu, _⟩ := Ez ht
  obtain ⟨cs, rfl, _⟩ := okWide_struct hu h
  simp [Rb, Ty.isAgg, Value.cells]
 | p x y =>
  obtain ⟨fs, hu, _⟩ := Dz ht
  obtain ⟨cs, rfl, _⟩ := okWide_struct hu h
  simp [Rb, Ty.isAgg, Value.cells]
theorem Vs : ∀ {pt : Ty} {ts : List TypeId} {vs : List Value} {ds : List (DataW H)} {ps : List MemPlace}, Ve P pt ts = true → DataW.TrodAll enc P w 0 spare held ts vs ds ps →
 (∀ (j : Nat) t v, ts[j]? = some t → vs[j]? = some v → Value.okWide P w .any base t v) → ∃ x : T pt, Ad w (fun _ => False) pt x vs ∧ Tj pt x
 | .p x y, t :: ts, v :: vs, d :: ds, ps, hp, h, hv => by
  simp only [Ve, jd] at hp
  obtain ⟨p, q, ⟨n, h1⟩, h2, _⟩ := h
  obtain ⟨a, ha, hra⟩ := Ws (fun _ h => h) x t n _ _ hp.1.1 hp.1.2 h1
  obtain ⟨b, hb, hrb⟩ := Vs hp.2 h2 fun j t' v' h1 h2 => hv (j + 1) t' v' (by simpa using h1) (by simpa using h2)
  exact ⟨(a, b), ⟨⟨_, CE hp.1.1 (hv 0 t v rfl rfl), ha⟩, hb⟩, hra, hrb⟩
 | .u, [], [], [], _, _, _, _ => ⟨(), trivial, trivial⟩
 | .p _ _, [], _, _, _, hp, _, _ => by simp [Ve] at hp
 | .u, _ :: _, _, _, _, hp, _, _ => by simp [Ve] at hp
 | .i _, _, _, _, _, hp, _, _ => by simp [Ve] at hp
 | .b, _, _, _, _, hp, _, _ => by simp [Ve] at hp
 | .o, _, _, _, _, hp, _, _ => by simp [Ve] at hp
 | .mp _ _, _, _, _, _, hp, _, _ => by simp [Ve] at hp
 | .s, _, _, _, _, hp, _, _ => by simp [Ve] at hp
 | .sl _, _, _, _, _, hp, _, _ => by simp [Ve] at hp
 | .p _ _, _ :: _, [], _, _, _, h, _ => by simp [DataW.TrodAll] at h
 | .p _ _, _ :: _, _ :: _, [], _, _, h, _ => by simp [DataW.TrodAll] at h
 | .u, [], _ :: _, _, _, _, h, _ => by simp [DataW.TrodAll] at h
 | .u, [], [], _ :: _, _, _, h, _ => by simp [DataW.TrodAll] at h
def Zs (P : Program) (t : TypeId) : Prop := ∃ τ : Ty, Ob P τ t = true ∧ τ.pos = true
theorem Vz : ∀ {τ : Ty} {fs : List Field} {o : Nat}, Tc P τ fs o = true → τ.pos = true →
 (∀ f ∈ fs, Zs P f.type) ∧ τ.size = (fs.map fun f => P.cellsOf f.type).sum ∧ ∀ (j : Nat) f, fs[j]? = some f → f.offset = o + ((fs.take j).map fun f => P.cellsOf f.type).sum
 | .u, fs, o, h, _ => by
  rw [AJ h]
  simp [Ty.size]
 | .p x y, fs, o, h, hp => by
  obtain ⟨f, r, rfl, ho, ht, hr⟩ := Uz h
  simp only [Ty.pos, jd] at hp
  obtain ⟨h1, h2, h3⟩ := Vz hr hp.2
  refine ⟨?_, ?_, ?_⟩
  ·intro g hg
   rcases jp.1 hg with rfl | hg
   ·exact ⟨x, ht, hp.1⟩
   ·exact h1 g hg
  ·simp [Ty.size, Ug ht, h2]
  ·intro j g hj
   cases j with
   | zero => simp at hj; subst hj; simp [ho]
   | succ j =>
    have := h3 j g (by simpa using hj)
    simp [this, Ug ht, jt]
 | .i _, fs, o, h, _ => by simp [Tc] at h
 | .b, fs, o, h, _ => by simp [Tc] at h
 | .o, fs, o, h, _ => by simp [Tc] at h
 | .mp _ _, fs, o, h, _ => by simp [Tc] at h
 | .s, fs, o, h, _ => by simp [Tc] at h
 | .sl _, fs, o, h, _ => by simp [Tc] at h
theorem An {t : TypeId} {u : TypeDesc} (h : Zs P t) (hu : P.underlying t = some u) : (∃ k, u = .int k) ∨ u = .bool ∨ u = .string ∨ (∃ e, u = .slice e ∧ Zs P e ∧ 0 < P.cellsOf e) ∨ ∃ fs, u = .struct fs := by
 obtain ⟨τ, ht, hp⟩ := h
 cases τ with
 | i k => rw [Tok.i ht] at hu; exact .inl ⟨k, (Option.some.inj hu).symm⟩
 | b => rw [Tok.b ht] at hu; exact .inr (.inl (Option.some.inj hu).symm)
 | o => simp [Ty.pos] at hp
 | mp _ _ => simp [Ty.pos] at hp
 | s => rw [Tok.s ht] at hu; exact .inr (.inr (.inl (Option.some.inj hu).symm))
 | sl e =>
  obtain ⟨et, h1, h2⟩ := Tok.sl ht
  rw [h1] at hu
  simp only [Ty.pos, jd] at hp
  exact .inr (.inr (.inr (.inl ⟨et, (Option.some.inj hu).symm, ⟨e, h2, hp.1⟩, by rw [Ug h2]; simpa using hp.2⟩)))
 | u => obtain ⟨fs, h1, _⟩ := Ez ht; rw [h1] at hu; exact .inr (.inr (.inr (.inr ⟨fs, (Option.some.inj hu).symm⟩)))
 | p x y => obtain ⟨fs, h1, _⟩ := Dz ht; rw [h1] at hu; exact .inr (.inr (.inr (.inr ⟨fs, (Option.some.inj hu).symm⟩)))
theorem FD : Kids P (Zs P) := by
 refine ⟨?_, ?_, ?_, ?_, ?_⟩
 ·intro t e ht hu
  rcases An ht hu with ⟨k, h⟩ | h | h | ⟨e', h, _⟩ | ⟨fs, h⟩ <;> simp at h
 ·intro t e ht hu
  rcases An ht hu with ⟨k, h⟩ | h | h | ⟨e', h, h2, _⟩ | ⟨fs, h⟩ <;> simp at h
  rw [h]; exact h2
 ·intro t e n ht hu
  rcases An ht hu with ⟨k, h⟩ | h | h | ⟨e', h, _⟩ | ⟨fs, h⟩ <;> simp at h
 ·intro t fs ht hu
  obtain ⟨τ, ht, hp⟩ := ht
  cases τ with
  | i k => rw [Tok.i ht] at hu; simp at hu
  | b => rw [Tok.b ht] at hu; simp at hu
  | o => simp [Ty.pos] at hp
  | mp _ _ => simp [Ty.pos] at hp
  | s => rw [Tok.s ht] at hu; simp at hu
  | sl e => obtain ⟨et, h1, _⟩ := Tok.sl ht; rw [h1] at hu; simp at hu
  | u =>
   obtain ⟨fs', h1, h2⟩ := Ez ht
   rw [h1] at hu
   simp only [jc, TypeDesc.struct.injEq] at hu
   subst hu
   have : fs'.toList = [] := by simpa using h2
   rw [Ug ht, this]
   simp [Ty.size]
  | p x y =>
   obtain ⟨fs', h1, h2⟩ := Dz ht
   rw [h1] at hu
   simp only [jc, TypeDesc.struct.injEq] at hu
   subst hu
   obtain ⟨a, b, c⟩ := Vz h2 hp
   exact ⟨a, by rw [Ug ht, b], fun j f hj => by simpa using c j f hj⟩
 ·intro t k e ht hu
  rcases An ht hu with ⟨k, h⟩ | h | h | ⟨e', h, _⟩ | ⟨fs, h⟩ <;> simp at h
theorem Vt : ∀ {pt : Ty} {ts : List TypeId}, Ve P pt ts = true → ∀ t ∈ ts, Zs P t
 | .p x y, t :: ts, h, t', ht => by
  simp only [Ve, jd] at h
  rcases jp.1 ht with rfl | ht
  ·exact ⟨x, h.1.1, h.1.2⟩
  ·exact Vt h.2 t' ht
 | .u, [], _, _, ht => by simp at ht
 | .p _ _, [], _, _, ht => by simp at ht
 | .u, _ :: _, h, _, _ => by simp [Ve] at h
 | .i _, _, h, _, _ => by simp [Ve] at h
 | .b, _, h, _, _ => by simp [Ve] at h
 | .o, _, h, _, _ => by simp [Ve] at h
 | .mp _ _, _, h, _, _ => by simp [Ve] at h
 | .s, _, h, _, _ => by simp [Ve] at h
 | .sl _, _, h, _, _ => by simp [Ve] at h
theorem Kr {w' : World} {sp' : Nat → Bool} : ∀ {ts : List TypeId} {vs : List Value} {ds : List (DataW H)} {ps : List MemPlace}, (∀ t ∈ ts, Zs P t) →
 DataW.TrodAll enc P w 0 (fun _ => true) true ts vs ds ps → (∀ p ∈ ps, w.sameAt w' p) → (∀ p ∈ ps, sp' p.block = true) → DataW.TrodAll enc P w' 0 sp' true ts vs ds ps
 | [], [], [], _, _, h, _, _ => h
 | t :: ts, v :: vs, d :: ds, ps, hp, h, h1, h2 => by
  obtain ⟨p, q, ⟨n, ha⟩, hb, rfl⟩ := h
  refine ⟨p, q, ⟨n, DataW.trod_stays FD ?_ (fun h => by simp at h) (hp t (by simp)) ha (fun z hz => h1 z (List.mem_append_left _ hz)) (fun z hz => h2 z (List.mem_append_left _ hz))⟩,
   Kr (fun t ht => hp t (by simp [ht])) hb (fun z hz => h1 z (List.mem_append_right _ hz)) (fun z hz => h2 z (List.mem_append_right _ hz)), rfl⟩
  intro t e ht hu
  rcases An ht hu with ⟨k, h⟩ | h | h | ⟨e', h, _, h2⟩ | ⟨fs, h⟩ <;> simp at h
  rw [h]; exact h2
 | [], _ :: _, _, _, _, h, _, _ => by simp [DataW.TrodAll] at h
 | [], [], _ :: _, _, _, h, _, _ => by simp [DataW.TrodAll] at h
 | _ :: _, [], _, _, _, h, _, _ => by simp [DataW.TrodAll] at h
 | _ :: _, _ :: _, [], _, _, h, _, _ => by simp [DataW.TrodAll] at h
theorem Yt : ∀ {ts : List TypeId} {vs : List Value} {ds : List (DataW H)} {ps : List MemPlace}, DataW.TrodAll enc P w base spare held ts vs ds ps → ds.length = ts.length
 | [], [], [], _, _ => rfl
 | _ :: _, _ :: _, _ :: _, _, h => by
  obtain ⟨_, _, _, h, _⟩ := h
  simp [Yt h]
 | [], _ :: _, _, _, h => by simp [DataW.TrodAll] at h
 | [], [], _ :: _, _, h => by simp [DataW.TrodAll] at h
 | _ :: _, [], _, _, h => by simp [DataW.TrodAll] at h
 | _ :: _, _ :: _, [], _, h => by simp [DataW.TrodAll] at h
theorem En.but {w w' : World} (h : En w w' fun _ => False) (may : MemPlace → Prop) : w.keptBut w' may := by
 refine ⟨h.os, h.output, fun i hi => ?_⟩
 rw [h.block i hi (fun h => h)]
 cases w.heap[i]? with
 | none => rfl
 | some o =>
  cases o with
  | cells c t fr => exact ⟨rfl, rfl, rfl, fun _ _ => rfl⟩
  | map es clock => exact .inr ⟨rfl, rfl⟩
  | _ => rfl
def FN : Hr := ⟨0, fun _ => True, fun _ _ _ h => h⟩
theorem GD {C : Checked} {os : Os} {f : FuncId} {fn : Func} {s : ChangeSpec} {apart fresh handsOn again : Bool} {pt : Ty} {fl : Bool} {F : T pt → Option (Bool × Unit)} {tb : TypeId}
 (own : ownKnob C.prog.godebug = none) (started : os.Started) (noInit : C.prog.inits.idxOf? f = none) (hfn : C.prog.funcs[f]? = some fn)
 (witness : ∃ (w : World) (tape : Tape) (i : Input), w.os = os ∧ (w.forCall tape i).Shaped C.prog ∧ i.vars = [] ∧ Input.okWide C.prog (w.forCall tape i) .any w.heap.size f i ∧
  s.pre6 enc C.prog fn [] apart (w.forCall tape i).memory i.args ∧ ({} : Assume).holds C.prog (lone (Frame.enter C.prog f i.args .normal) [] (w.forCall tape i)))
 (hvars : s.vars = []) (hs : ∀ ds : List (DataW H), ds.length = fn.params.toList.length → s.fn H ds = { results := [.lit (.bool true)], args := ds })
 (hp : Ve C.prog pt fn.params.toList = true) (hr : fn.resultTypes = #[tb]) (htb : C.prog.underlying tb = some .bool)
 (hsound : Jm C.prog FN f (.pu pt (.p .b .u) [fl] F)) (hF : ∀ x, Tj pt x → F x = some (true, ())) :
 ReturnsInHanded {} C os f .any (s.pre6 enc C.prog fn [] apart) (s.post enc C.prog fn apart fresh handsOn again) := by
 refine returnsInHanded_of_change own started noInit hfn witness ?_
 intro W b0 args ds gs before hval hW _ _
 have hW0 := hW
 obtain ⟨p, q, hA, hV, hps, hfz, hnd⟩ := hW
 rw [hvars] at hV
 have hgs : gs = [] ∧ q = [] := by
  cases gs with
  | nil => exact ⟨rfl, hV⟩
  | cons _ _ => exact hV.elim
 obtain ⟨rfl, rfl⟩ := hgs
 simp only [List.append_nil] at hps
 subst hps
 obtain ⟨x, hx, hrx⟩ := Vs (base := b0) hp hA fun j t v h1 h2 => hval j t v (by simpa using h1) (by simpa using h2)
 have hcall := hsound.2 (fun _ => False) W x (true, ()) args.toList (hF x hrx) hx (fun _ h => h.elim) trivial (Nat.zero_le _)
 refine hcall.mono fun e W' hret => ?_
 cases e with
 | returned v =>
  obtain ⟨vs, Fr, hv, hk, hR, _, _⟩ := hret
  have hvt : v = .bool true := by
   cases vs with
   | nil => simp [Hb] at hR
   | cons a r =>
    obtain ⟨cs, F1, F2, ha, _, hown, hrest⟩ := hR
    cases r with
    | cons _ _ => simp [Hb] at hrest
    | nil =>
     have hcs : cs = [.bool true] := by
      cases fl with
      | true => exact hown.1
      | false => exact hown.1
     rw [hv, Rp, ha, hcs]
     rfl
  subst hvt
  refine ⟨_, rfl, ?_⟩
  have hsp := hs ds (Yt hA)
  have hlt : ∀ z ∈ before, z.block < W.heap.size := hW0.lt
  have hsame : ∀ z ∈ before, W.sameAt W' z := by
   intro z hz
   have hb := hk.block z.block (hlt z hz) (fun h => h)
   cases z with
   | cell b off =>
    show W'.cell? _ = W.cell? _
    simp only [World.cell?]
    rw [show W'.heap[b]? = W.heap[b]? from hb]
   | map b => exact hb
  have hargs : ∀ sp : Nat → Bool, (∀ z ∈ before, sp z.block = true) → DataW.TrodAll enc C.prog W' 0 sp true fn.params.toList args.toList ds before :=
   fun sp h => Kr (Vt hp) hA hsame h
  have hres : ∀ (b : Nat) (sp : Nat → Bool) (hd : Bool), DataW.TrodAll enc C.prog W' b sp hd fn.resultTypes.toList ((Value.bool true).resultList fn.resultTypes.size) [.lit (.bool true)] [] := by
   intro b sp hd
   rw [hr]
   exact trodAll_mk1 (Go.RowKit.shut_bool htb true)
  have hold : ∀ z ∈ before, (fun b => decide (b < W.heap.size)) z.block = true := fun z hz => by simpa using hlt z hz
  refine ⟨ds, [], before, [], before, [], hW0, ?_, ?_, ?_, hk.but _, fun _ => ⟨?_, ds.cons (.lit (.bool true)), [], before, ⟨before, [], ?_, ?_, by simp, ?_, ?_⟩, fun z hz _ => hz⟩⟩
  ·rw [List.append_nil, hsp]; exact hres _ _ _
  ·rw [List.append_nil, hsp]; exact hargs _ hold
  ·rw [List.append_nil, hsp, hvars]; rfl
  ·intro j t r hj hv
   rw [hr] at hj hv
   match j, hj, hv with
   | 0, hj, hv =>
    simp only [List.getElem?_toArray, List.getElem?_cons_zero, jc] at hj
    simp [Value.resultList] at hv
    subst hj; subst hv
    exact Go.RowKit.okWide_bool_mk htb true
  ·exact trodAll_append (hargs _ (fun _ _ => rfl)) (hres _ _ _)
  ·rw [hvars]; rfl
  ·intro b off hz
   have := hfz b off hz
   unfold World.frozen? at this ⊢
   rw [show W'.heap[b]? = W.heap[b]? from hk.block b (hlt _ hz) (fun h => h)]
   exact this
  ·exact hnd
 | _ => exact hret.elim
end
noncomputable def Pb {X R : Type} (step : X → Option (X ⊕ R)) (x : X) : Option R :=
 open Classical in if h : ∃ m y, Dn step m x y then some h.choose_spec.choose else none
theorem Dn.det {X R : Type} {step : X → Option (X ⊕ R)} : ∀ {m n : Nat} {x : X} {y z : R}, Dn step m x y → Dn step n x z → y = z
 | 0, _, _, _, _, h, _ => h.elim
 | _ + 1, 0, _, _, _, _, h => h.elim
 | m + 1, n + 1, x, y, z, h, h' => by
  rcases h with h | ⟨x1, h, h1⟩ <;> rcases h' with h' | ⟨x2, h', h2⟩
  ·rw [h] at h'; simpa using h'
  ·rw [h] at h'; simp at h'
  ·rw [h] at h'; simp at h'
  ·rw [h] at h'
   simp only [jc, Sum.inl.injEq] at h'
   subst h'
   exact Dn.det h1 h2
theorem Bp {X R : Type} {step : X → Option (X ⊕ R)} {x : X} {y : R} : Pb step x = some y ↔ ∃ m, Dn step m x y := by
 unfold Pb
 constructor
 ·intro h
  split at h
  ·rename_i hh
   simp only [jc] at h
   exact ⟨_, h ▸ hh.choose_spec.choose_spec⟩
  ·simp at h
 ·rintro ⟨m, h⟩
  have hh : ∃ m y, Dn step m x y := ⟨m, y, h⟩
  rw [dif_pos hh]
  exact congrArg some (Dn.det hh.choose_spec.choose_spec h)
theorem Tl {X R : Type} {step : X → Option (X ⊕ R)} (x : X) : Pb step x = (step x).bind (j6 (Pb step) some) := by
 apply Option.ext
 intro y
 rw [Bp]
 constructor
 ·rintro ⟨m, h⟩
  cases m with
  | zero => exact h.elim
  | succ m =>
   rcases h with h | ⟨x', h, h'⟩
   ·simp [h]
   ·simp [h, Bp.2 ⟨m, h'⟩]
 ·intro h
  rw [qd] at h
  obtain ⟨z, hz, h⟩ := h
  cases z with
  | inl x' =>
   obtain ⟨m, hm⟩ := Bp.1 h
   exact ⟨m + 1, .inr ⟨x', hz, hm⟩⟩
  | inr z =>
   simp only [Sum.elim_inr, jc] at h
   subst h
   exact ⟨1, .inl hz⟩
def lp (fn : Func) (i : Nat) : Code := (Pc (fn.body.getD .skip)).getD i .skip
theorem OF {G : Mc} {L : List (Nat × Ib)} {fn : Func} {i r : Nat} {ls : Ib} {R : ls.inT.X → Option (ls.inT.X ⊕ (ls.outT.X ⊕ ls.retT.X))}
 (h1 : Te (lp fn i) = some r) (h2 : (Na L r) = some ls) (h3 : ls.F = Pb R) (h4 : ∀ x, Gp G L ls (lp fn i) x = R x) : Kc G L (lp fn i) := by
 intro r' ls' hr hl x y hy
 rw [h1] at hr
 simp only [jc] at hr
 subst hr
 rw [h2] at hl
 simp only [jc] at hl
 subst hl
 rw [h3] at hy
 obtain ⟨m, hm⟩ := Bp.1 hy
 have : Gp G L ls (lp fn i) = R := funext h4
 rw [this]
 exact ⟨m, hm⟩
theorem Sx {G : Mc} {L : List (Nat × Ib)} {fn : Func} {k : Nat} (hk : Nat.beq (Pc (fn.body.getD .skip)).length k = true) (h : ∀ i, i < k → Kc G L (lp fn i)) :
 ∀ b, b ∈ Pc (fn.body.getD .skip) → Kc G L b := by
 intro b hb
 obtain ⟨i, hi, rfl⟩ := List.mem_iff_getElem.1 hb
 have := h i (by rw [← ju hk]; exact hi)
 unfold lp at this
 rwa [qg, je hi] at this
theorem Gc {p : Nat → Prop} : ∀ i, i < 0 → p i := fun i h => absurd h (Nat.not_lt_zero i)
theorem Xb {p : Nat → Prop} {k : Nat} (h : p k) (hr : ∀ i, i < k → p i) : ∀ i, i < k + 1 → p i := by
 intro i hi
 rcases Nat.lt_or_eq_of_le (Nat.lt_succ_iff.1 hi) with hi | rfl
 ·exact hr i hi
 ·exact h
section
variable {P : Program}
theorem DH {l : List (Nat × Ty)} {fs : List (Nat × Sb)} {m : List (Nat × Nat)} {z : Bool} {ar : List (Nat × Ty × Nat)} {mv ml : List Nat}
 (h : ((l.all fun x => Ob P x.2 x.1) && (ar.all fun x => Ow P x.1 x.2.1 x.2.2)) = true) : EnvTy P ⟨l, fs, m, z, ar, mv, ml⟩ := by
 simp only [jd] at h
 exact ⟨fun t τ ht => List.all_eq_true.1 h.1 (t, τ) (Si ht), fun t e n ht => List.all_eq_true.1 h.2 (t, e, n) (Si ht)⟩
theorem FE {I : Hr} {l : List (Nat × Ty)} {m : List (Nat × Nat)} {z : Bool} {ar : List (Nat × Ty × Nat)} {mv ml : List Nat}
 (h : ((l.all fun x => Ob P x.2 x.1) && (ar.all fun x => Ow P x.1 x.2.1 x.2.2)) = true) : Kg P I ⟨l, [], m, z, ar, mv, ml⟩ :=
 { toEnvTy := DH h, fn := fun f sem h => by simp [Na] at h }
theorem Kg.cons {I : Hr} {l : List (Nat × Ty)} {fs : List (Nat × Sb)} {m : List (Nat × Nat)} {z : Bool} {ar : List (Nat × Ty × Nat)} {mv ml : List Nat} {f : Nat} {sem : Sb} (hs : Jm P I f sem)
 (h : Kg P I ⟨l, fs, m, z, ar, mv, ml⟩) : Kg P I ⟨l, (f, sem) :: fs, m, z, ar, mv, ml⟩ :=
 { toEnvTy := ⟨h.ty, h.ar⟩, fn := fun g s hg => by
    simp only [Kb] at hg
    split at hg
    ·rename_i e
     simp only [jc] at hg
     subst e; subst hg
     exact hs
    ·exact h.fn g s hg }
theorem Mx {fn : Func} (h : fn.body.isSome = true) : fn.body = some (fn.body.getD .skip) := by
 cases hb : fn.body with
 | none => rw [hb] at h; simp at h
 | some c => rfl
variable {I : Hr} {G : Mc} {L : List (Nat × Ib)}
theorem Ay (hG : Kg P I G) (hm : P.follows .mixedOrders = true) {f : FuncId} {fn : Func} {k : Nat} {pt rt : Ty} {fr : List Bool} {F : T pt → Option (T rt)} (hf : P.funcs[f]? = some fn)
 (hb : (fn.body.isSome && !(fn.name == "runtime.NumGoroutine") && jx pt.npar fn.ntmps && Nat.beq (Pc (fn.body.getD .skip)).length k) = true)
 (hL : ∀ i, i < k → Kc G L (lp fn i)) (hF : ∀ x, IE G L fn pt rt fr x = F x) : Jm P I f (.pu pt rt fr F) := by
 simp only [jd, Bool.not_eq_true'] at hb
 exact FI hG hm hf (Mx hb.1.1.1) hb.1.1.2 (Sx hb.2 hL) (Nat.le_of_ble_eq_true hb.1.2) fun x r h => (hF x).trans h
theorem XF (hG : Kg P I G) (hfz : G.fz = false) (hm : P.follows .mixedOrders = true) {f : FuncId} {fn : Func} {k : Nat} {τ pt rt : Ty} {fr : List Bool} {F : T τ → T pt → Option (T τ × T rt)} (hf : P.funcs[f]? = some fn)
 (hb : (fn.body.isSome && !(fn.name == "runtime.NumGoroutine") && jx (pt.npar + 1) fn.ntmps && Nat.beq (Pc (fn.body.getD .skip)).length k) = true)
 (hL : ∀ i, i < k → Kc G L (lp fn i)) (hF : ∀ x0 x, Az G L fn τ pt rt fr x0 x = F x0 x) : Jm P I f (.io τ pt rt fr F) := by
 simp only [jd, Bool.not_eq_true'] at hb
 exact EI hG hfz hm hf (Mx hb.1.1.1) hb.1.1.2 (Sx hb.2 hL) (Nat.le_of_ble_eq_true hb.1.2) fun x0 x r h => (hF x0 x).trans h
end
def hd (h : T .o) : Value := .slice h.1 h.2.1 h.2.2
section
variable {P : Program} {w w' : World}
end
open Classical in
noncomputable def srt (xs : List Int) : Option (List Int × Unit) := bif jx (ja xs) Ag then some (List.mergeSort xs (fun x y => decide (x ≤ y)), ()) else none


open Go Go.WideShapes Go.ChangeShapes
section
variable {H : Type} {enc : TypeId × Value → H}
end

def Nv {α S R : Type} (g : Nat → S → α → S ⊕ R) : Nat → S → List α → S ⊕ R
 | _, s, [] => .inl s
 | k, s, x :: xs => match g k s x with
  | .inl s' => Nv g (k + 1) s' xs
  | .inr r => .inr r
section
variable {X R : Type} {step : X → Option (X ⊕ R)}
theorem He {x : X} {z : Option (X ⊕ R)} (h : step x = z) : Pb step x = z.bind (j6 (Pb step) some) := by
 rw [Tl, h]
theorem Dp (I : Nat → X) (n : Nat) (out : R) (h : ∀ k, k < n → step (I k) = some (.inl (I (k + 1)))) (he : step (I n) = some (.inr out)) : Pb step (I 0) = some out := by
 have key : ∀ m k, m + k = n → Pb step (I k) = some out := by
  intro m
  induction m with
  | zero =>
   intro k hk
   have : k = n := by omega
   subst this
   rw [He he]; rfl
  | succ m ih =>
   intro k hk
   rw [He (h k (by omega))]
   exact ih (k + 1) (by omega)
 exact key n 0 (by omega)
end
theorem Lh {n : Int} (h1 : -9223372036854775808 ≤ n) (h2 : n ≤ 9223372036854775807) : j4 .i64 n = n := IntWalk.i64_in n ⟨h1, h2⟩
theorem Qd {k : Nat} (h : k < 9223372036854775807) : j4 .i64 ((k : Int) + 1) = ((k + 1 : Nat) : Int) := by
 rw [Lh (by omega) (by omega)]; omega
section
variable {α : Type}
theorem DJ (xs : List α) (k : Nat) : Od xs (k : Int) = xs[k]? := by simp [Od]
theorem Wf {xs : List α} {k : Nat} (h : k < xs.length) : Od xs (k : Int) = some xs[k] := by rw [DJ, je h]
theorem Eh (n k : Nat) : Rg n (k : Int) = decide (k < n) := by
 simp [Rg]
theorem Sa {p : Prop} [Decidable p] (h : p) : decide p = true := decide_eq_true h
theorem Vb {p : Prop} [Decidable p] (h : ¬ p) : decide p = false := decide_eq_false h
theorem ZF {xs : List α} {k : Nat} (h : k < xs.length) : xs.take (k + 1) = xs.take k ++ [xs[k]] := by
 rw [List.take_succ_eq_append_getElem h]
end
theorem DI {α : Type} {xs : List α} {z : α} {k : Nat} (h : k < xs.length) : (xs.take k ++ List.replicate (xs.length - k) z).set k xs[k] = xs.take (k + 1) ++ List.replicate (xs.length - (k + 1)) z := by
 have h1 : (xs.take k).length = k := by simp; omega
 rw [List.set_append_right _ _ (by omega), h1, Nat.sub_self, show xs.length - k = (xs.length - (k + 1)) + 1 by omega, List.replicate_succ, List.set_cons_zero, ZF h, List.append_assoc]
 rfl
theorem FH {α : Type} {xs : List α} {z : α} {k : Nat} (h : k ≤ xs.length) : (xs.take k ++ List.replicate (xs.length - k) z).length = xs.length := by
 simp; omega
theorem DE {α R : Type} {X : Type} {step : X → Option (X ⊕ R)} (xs : List α) (z : α) (I : List α → Int → X) (out : List α → R)
 (h : ∀ k (hk : k < xs.length) (o : List α), o.length = xs.length → step (I o (k : Int)) = some (.inl (I (o.set k xs[k]) (j4 .i64 ((k : Int) + 1)))))
 (he : ∀ o, step (I o (xs.length : Int)) = some (.inr (out o))) (hn : xs.length < 9223372036854775807) :
 Pb step (I (List.replicate xs.length z) 0) = some (out xs) := by
 have := Dp (step := step) (fun k => I (xs.take k ++ List.replicate (xs.length - k) z) (k : Int)) xs.length (out xs) (fun k hk => by
  rw [h k hk _ (FH (by omega)), DI hk, Qd (by omega)]) (by
  rw [List.take_length, Nat.sub_self]
  simpa using he xs)
 simpa using this
theorem JJ {n : Nat} (h : n ≤ Ag) : (((n : Int) == (n : Int)) && (decide ((0 : Int) ≤ (n : Int)) && decide ((n : Int) ≤ ((Ag : Nat) : Int)))) = true := by
 simp only [beq_self_eq_true, jk, jd, decide_eq_true_eq]
 omega
theorem DA : Ag = 1073741824 := rfl
def Za : (τ : Ty) → T τ → Nat
 | .i _, _ => 0
 | .b, _ => 0
 | .o, _ => 0
 | .mp _ _, _ => 0
 | .s, x => ja x
 | .sl e, xs => ja xs + (List.map (Za e) xs).sum
 | .u, _ => 0
 | .p a c, v => Za a v.1 + Za c v.2
def Ty.hasS : Ty → Bool
 | .s => true
 | .sl e => e.hasS
 | .p x y => x.hasS || y.hasS
 | _ => false
def Yb : Nat := 1048576
theorem Qn {α : Type} {f : α → Nat} {xs : List α} {k : Nat} (hk : k < xs.length) : f xs[k] ≤ (xs.map f).sum := by
 induction xs generalizing k with
 | nil => simp at hk
 | cons x xs ih =>
  cases k with
  | zero => simp
  | succ k =>
   have := ih (k := k) (by simpa using hk)
   simp only [List.getElem_cons_succ, List.map_cons, List.sum_cons]
   omega
def Ey (n l : Nat) : Int := if n ≤ l then ((l - n : Nat) : Int) else -1
theorem Iq {n l : Nat} (h : n ≤ l) : Ey n l = ((l - n : Nat) : Int) := if_pos h
theorem Mo {n l : Nat} (h : ¬ n ≤ l) : Ey n l = -1 := if_neg h
theorem TJ {α X R : Type} {step : X → Option (X ⊕ R)} (xs : List α) (n : α → Nat) (I : Int → Int → X) (yes : Int → R) (no : R)
 (h : ∀ k (hk : k < xs.length) (l : Nat), l ≤ Yb → step (I (l : Int) (k : Int)) = some (if n xs[k] ≤ l then .inl (I ((l - n xs[k] : Nat) : Int) (j4 .i64 ((k : Int) + 1))) else .inr no))
 (he : ∀ l : Nat, step (I (l : Int) (xs.length : Int)) = some (.inr (yes (l : Int)))) (hn : xs.length < 9223372036854775807) (l : Nat) (hl : l ≤ Yb) :
 Pb step (I (l : Int) 0) = some (if (xs.map n).sum ≤ l then yes ((l - (xs.map n).sum : Nat) : Int) else no) := by
 have key : ∀ (ys : List α) (k l : Nat), xs.drop k = ys → k ≤ xs.length → l ≤ Yb → Pb step (I (l : Int) (k : Int)) = some (if (ys.map n).sum ≤ l then yes ((l - (ys.map n).sum : Nat) : Int) else no) := by
  intro ys
  induction ys with
  | nil =>
   intro k l hd hle hi
   have : k = xs.length := by
    have := congrArg ja hd
    simp at this
    omega
   subst this
   rw [He (he l)]
   simp
  | cons y ys ih =>
   intro k l hd hle hi
   have hk : k < xs.length := by
    have := congrArg ja hd
    simp at this
    omega
   have hy : xs[k] = y := by
    have := congrArg (·[0]?) hd
    simp [List.getElem?_drop, je hk] at this
    exact this
   have hd' : xs.drop (k + 1) = ys := by rw [← List.drop_drop, hd]; rfl
   rw [He (h k hk l hi), hy]
   simp only [List.map_cons, List.sum_cons]
   by_cases hc : n y ≤ l
   ·simp only [hc, if_true, jb, qh]
    rw [Qd (by omega), ih (k + 1) (l - n y) hd' hk (by omega)]
    by_cases hc2 : (ys.map n).sum ≤ l - n y
    ·rw [if_pos hc2, if_pos (by omega)]
     congr 3
     omega
    ·rw [if_neg hc2, if_neg (by omega)]
   ·rw [if_neg hc, if_neg (by omega)]
    rfl
 have := key xs 0 l rfl (Nat.zero_le _) hl
 simpa using this
theorem Ev : ∀ {τ : Ty} (_ : (τ.flat && !τ.hasS) = true) {x : T τ}, Za τ x = 0
 | .i _, _, _ => rfl
 | .b, _, _ => rfl
 | .o, _, _ => rfl
 | .mp _ _, _, _ => rfl
 | .s, h, _ => by simp [Ty.hasS] at h
 | .sl _, h, _ => by simp [Ty.flat] at h
 | .u, _, _ => rfl
 | .p a c, h, x => by
  simp only [Ty.flat, Ty.hasS, jd, Bool.not_eq_true', Bool.or_eq_false_iff] at h
  simp only [Za]
  rw [Ev (τ := a) (by simp [h.1.1, h.2.1]), Ev (τ := c) (by simp [h.1.2, h.2.2])]
theorem Dv {e : Ty} (h : (e.flat && !e.hasS) = true) (xs : List (T e)) : Za (.sl e) xs = ja xs := by
 simp only [Za]
 have : List.map (Za e) xs = List.replicate xs.length 0 := by
  apply List.ext_getElem
  ·simp
  ·intro i h1 h2
   simp [Ev h]
 rw [this]
 simp
theorem Ng {α : Type} (b : Bool) (x y : α) : cond b (some x) (some y) = some (cond b x y) := by cases b <;> rfl
theorem Og {α : Type} (b : Bool) (x y : α) : cond b (x, ()) (y, ()) = (cond b x y, ()) := by cases b <;> rfl
theorem Nb (b x y : Bool) : (cond b x y = true) ↔ ((b = true ∧ x = true) ∨ (¬ b = true ∧ y = true)) := by cases b <;> simp
theorem YI {a b : Bool} (h : a = true ↔ b = true) : a = b := Bool.eq_iff_iff.2 h
theorem Eb {a b : Bool} (h : a = true ↔ b = true) : some (a, ()) = some (b, ()) := by rw [YI h]
theorem Vn (a b : Int) : ((a == b) = true) ↔ a = b := by simp
theorem Qq (a b : Int) : ((a != b) = true) ↔ ¬ a = b := by simp
def Ui {α : Type} (p : Nat → α → Bool) : Nat → List α → Bool
 | _, [] => true
 | k, x :: xs => p k x && Ui p (k + 1) xs
theorem Ap {X R : Type} {step : X → Option (X ⊕ R)} {α : Type} (xs : List α) (p : Nat → α → Bool) (I : Int → X) (yes no : R)
 (h : ∀ k (hk : k < xs.length), step (I (k : Int)) = some (cond (p k xs[k]) (.inl (I (j4 .i64 ((k : Int) + 1)))) (.inr no)))
 (he : step (I (xs.length : Int)) = some (.inr yes)) (hn : xs.length < 9223372036854775807) :
 Pb step (I 0) = some (cond (Ui p 0 xs) yes no) := by
 have key : ∀ (ys : List α) (k : Nat), xs.drop k = ys → k ≤ xs.length → Pb step (I (k : Int)) = some (cond (Ui p k ys) yes no) := by
  intro ys
  induction ys with
  | nil =>
   intro k hd hle
   have : k = xs.length := by
    have := congrArg ja hd
    simp at this
    omega
   subst this
   rw [He he]
   rfl
  | cons y ys ih =>
   intro k hd hle
   have hk : k < xs.length := by
    have := congrArg ja hd
    simp at this
    omega
   have hy : xs[k] = y := by
    have := congrArg (·[0]?) hd
    simp [List.getElem?_drop, je hk] at this
    exact this
   have hd' : xs.drop (k + 1) = ys := by rw [← List.drop_drop, hd]; rfl
   rw [He (h k hk), hy]
   simp only [Ui]
   cases hc : p k y with
   | true =>
    simp only [cond_true, jk, jb, qh]
    rw [← ih (k + 1) hd' hk, Qd (by omega)]
   | false => rfl
 have := key xs 0 rfl (Nat.zero_le _)
 simpa using this
theorem Tr {α : Type} {p : Nat → α → Bool} : ∀ {xs : List α} {k : Nat}, Ui p k xs = true ↔ ∀ j (hj : j < xs.length), p (k + j) xs[j] = true
 | [], _ => by simp [Ui]
 | x :: xs, k => by
  simp only [Ui, jd, Tr (xs := xs)]
  constructor
  ·rintro ⟨h1, h2⟩ j hj
   cases j with
   | zero => exact h1
   | succ j => simpa [jt, Nat.add_comm 1 j] using h2 j (by simpa using hj)
  ·intro h
   refine ⟨h 0 (by simp), fun j hj => ?_⟩
   have := h (j + 1) (by simpa using hj)
   rw [jt, Nat.add_comm 1 j]
   exact this
theorem Ox {α β γ : Type} (b : Bool) (x : α) (y : β) (f : α → γ) (g : β → γ) : j6 f g (cond b (.inl x) (.inr y)) = cond b (f x) (g y) := by cases b <;> rfl
theorem PF {X R X' R' : Type} {stepM : X → Option (X ⊕ R)} {stepH : X' → Option (X' ⊕ R')} {α : Type} (c : α → Nat) (B : Nat) (IM : List α → Int → Int → X) (outM : List α → Int → R) (IH : List α → Int → Int → X') (outH : List α → Int → R')
 (h : ∀ (o : List α) (k i : Nat) (hi : i < o.length), k + c o[i] ≤ B → ∃ x' k', k ≤ k' ∧ k' ≤ k + c o[i] ∧
  stepM (IM o (k : Int) (i : Int)) = some (.inl (IM (o.set i x') (k' : Int) (j4 .i64 ((i : Int) + 1)))) ∧
  ∀ (o2 : List α) (hi2 : i < o2.length), o2[i] = x' → stepH (IH o2 (k : Int) (i : Int)) = some (.inl (IH o2 (k' : Int) (j4 .i64 ((i : Int) + 1)))))
 (heM : ∀ (o : List α) (k : Nat), stepM (IM o (k : Int) (o.length : Int)) = some (.inr (outM o (k : Int))))
 (heH : ∀ (o : List α) (k : Nat), stepH (IH o (k : Int) (o.length : Int)) = some (.inr (outH o (k : Int))))
 (xs : List α) (k : Nat) (hB : k + (xs.map c).sum ≤ B) (hn : xs.length < 9223372036854775807) :
 ∃ (o : List α) (k' : Nat), k ≤ k' ∧ k' ≤ k + (xs.map c).sum ∧ o.length = xs.length ∧ Pb stepM (IM xs (k : Int) 0) = some (outM o (k' : Int)) ∧ Pb stepH (IH o (k : Int) 0) = some (outH o (k' : Int)) := by
 have key : ∀ (m i k : Nat) (o : List α), o.length = xs.length → m + i = xs.length → k + ((o.drop i).map c).sum ≤ B →
  ∃ (o' : List α) (k' : Nat), k ≤ k' ∧ k' ≤ k + ((o.drop i).map c).sum ∧ o'.length = xs.length ∧ o'.take i = o.take i ∧ Pb stepM (IM o (k : Int) (i : Int)) = some (outM o' (k' : Int)) ∧ Pb stepH (IH o' (k : Int) (i : Int)) = some (outH o' (k' : Int)) := by
  intro m
  induction m with
  | zero =>
   intro i k o ho hm hk
   have : i = o.length := by omega
   subst this
   refine ⟨o, k, jo _, by omega, ho, rfl, ?_, ?_⟩
   ·rw [He (heM o k)]; rfl
   ·rw [He (heH o k)]; rfl
  | succ m ih =>
   intro i k o ho hm hk
   have hi : i < o.length := by omega
   have hdrop : o.drop i = o[i] :: o.drop (i + 1) := List.drop_eq_getElem_cons hi
   rw [hdrop, List.map_cons, List.sum_cons] at hk ⊢
   obtain ⟨x', k1, h1, h2, h3, h4⟩ := h o k i hi (by omega)
   have hd1 : (o.set i x').drop (i + 1) = o.drop (i + 1) := by
    rw [List.drop_set]
    simp
   obtain ⟨o', k', g1, g2, g3, g4, g5, g6⟩ := ih (i + 1) k1 (o.set i x') (by simpa using ho) (by omega) (by rw [hd1]; omega)
   rw [hd1] at g2
   have ht : o'.take i = o.take i := by
    have := congrArg (List.take i) g4
    rw [List.take_take, List.take_take, Nat.min_eq_left (by omega), List.take_set_of_le (jo _)] at this
    exact this
   have hx : o'[i]'(by omega) = x' := by
    have := congrArg (·[i]?) g4
    simp [je (show i < o'.length by omega), hi] at this
    exact this
   refine ⟨o', k', by omega, by omega, g3, ht, ?_, ?_⟩
   ·rw [He h3, Qd (by omega)]
    exact g5
   ·rw [He (h4 o' (by omega) hx), Qd (by omega)]
    exact g6
 obtain ⟨o, k', h1, h2, h3, _, h5, h6⟩ := key xs.length 0 k xs rfl rfl (by simpa using hB)
 exact ⟨o, k', h1, by simpa using h2, h3, by simpa using h5, by simpa using h6⟩
def Vd : Nat := 1099511627776
theorem YQ (e : Ty) (xs : List (T e)) : (List.map (fun x => 8 + 8 * Za e x) xs).sum = 8 * Za (.sl e) xs := by
 simp only [Za]
 induction xs with
 | nil => rfl
 | cons x xs ih =>
  simp only [List.map_cons, List.sum_cons, jw] at ih ⊢
  omega
theorem z3 : ((3 : Int) == 0) = false := rfl
theorem EE {n lo hi : Nat} (h1 : lo ≤ hi) (h2 : hi ≤ n) : Ye n (lo : Int) (hi : Int) = true := by
 simp [Ye]; omega
def kf : (τ : Ty) → T τ → T τ → Prop
 | .sl _, _, _ => True
 | .p x y, a, c => kf x a.1 c.1 ∧ kf y a.2 c.2
 | .i _, a, c => a = c
 | .b, a, c => a = c
 | .o, a, c => a = c
 | .mp _ _, a, c => a = c
 | .s, a, c => a = c
 | .u, a, c => a = c
theorem Tw : ∀ (τ : Ty) (a : T τ), kf τ a a
 | .sl _, _ => trivial
 | .p x y, a => ⟨Tw x a.1, Tw y a.2⟩
 | .i _, _ => rfl
 | .b, _ => rfl
 | .o, _ => rfl
 | .mp _ _, _ => rfl
 | .s, _ => rfl
 | .u, _ => rfl
section
variable {α β : Type}
def TI (f : α → Option (α × Unit)) (t0 t3 : List α) (t4 : Int) : Option (((List α × (List α × (Int × Unit))) × Unit) ⊕ (((List α × Unit) × Unit) ⊕ β)) :=
 cond (decide (t4 < ((ja t0 : Nat) : Int))) (jz (Od t0 t4) fun x7 => jz (f x7) fun r8 => cond (Rg (ja t3) t4)
  (jz t3[(jy t4)]? fun x9 => some (.inl ((t0, j5 t3 (jy t4) r8.1, j4 .i64 (t4 + 1), ()), ()))) none) (some (.inr (.inl ((t3, ()), ()))))
noncomputable def TM (β : Type) (z : α) (f : α → Option (α × Unit)) (a0 : List α) : Option (List α × Unit) :=
 cond ((((ja a0 : Nat) : Int) == ((ja a0 : Nat) : Int)) && (decide ((0 : Int) ≤ ((ja a0 : Nat) : Int)) && decide (((ja a0 : Nat) : Int) ≤ ((Ag : Nat) : Int))))
  (jz (Pb (fun x : (List α × (List α × (Int × Unit))) × Unit => TI (β := β) f x.1.1 x.1.2.1 x.1.2.2.1) ((a0, List.replicate (jy ((ja a0 : Nat) : Int)) z, (0 : Int), ()), ())) (j6 (fun y10 => some (y10.1.1, ())) (fun _ => none))) none
theorem UM (z : α) (f : α → Option (α × Unit)) (a : List α) (hn : a.length ≤ Yb) (hf : ∀ k (h : k < a.length), f a[k] = some (a[k], ())) : TM β z f a = some (a, ()) := by
 have h20 : Yb = 1048576 := rfl
 have hl := DE (step := fun x : (List α × (List α × (Int × Unit))) × Unit => TI (β := β) f x.1.1 x.1.2.1 x.1.2.2.1) a z (fun o i => ((a, o, i, ()), ())) (fun o => .inl ((o, ()), ())) (by
  intro k hk o ho
  simp only [TI]
  rw [Sa (show (k : Int) < (ja a : Int) by omega), Wf hk]
  simp only [cond_true, jb]
  rw [hf k hk]
  simp only [cond_true, jb]
  rw [Eh, Sa (show k < ja o by omega)]
  simp [je (show k < ja o by omega)]) (by
  intro o
  simp [TI]) (by omega)
 unfold TM
 rw [JJ (by rw [DA]; omega)]
 simp only [cond_true]
 rw [show jy ((ja a : Nat) : Int) = ja a by simp]
 erw [hl]
 rfl
theorem JN {e : Ty} (β : Type) (z : T e) {f : T e → Option (T e × Unit)} {F : List (T e) → Option (List (T e) × Unit)} (a : List (T e)) (hz : Za (.sl e) a ≤ Yb) (hf : ∀ x, Za e x ≤ Yb → f x = some (x, ())) (h : F a = TM β z f a) : F a = some (a, ()) := by
 have hz' : ja a + (List.map (Za e) a).sum ≤ Yb := hz
 rw [h]
 exact UM z f a (by omega) fun k hk => hf _ (by have := Qn (f := Za e) hk; omega)
def PI (f : α → α → Option (Bool × Unit)) (t0 t1 : List α) (t5 : Int) : Option (((List α × (List α × (Int × Unit))) × Unit) ⊕ ((Unit × Unit) ⊕ ((Bool × Unit) × Unit))) :=
 cond (decide (t5 < ((ja t0 : Nat) : Int))) (jz (Od t0 t5) fun x7 => jz (Od t1 t5) fun x8 => jz (f x7 x8) fun r9 => cond (!r9.1) (some (.inr (.inr ((false, ()), ()))))
  (some (.inl ((t0, t1, j4 .i64 (t5 + 1), ()), ())))) (some (.inr (.inl ((), ()))))
noncomputable def DL (f : α → α → Option (Bool × Unit)) (a0 a1 : List α) : Option (Bool × Unit) :=
 cond (((ja a0 : Nat) : Int) != ((ja a1 : Nat) : Int)) (some (false, ()))
  (jz (Pb (fun x : (List α × (List α × (Int × Unit))) × Unit => PI f x.1.1 x.1.2.1 x.1.2.2.1) ((a0, a1, (0 : Int), ()), ())) (j6 (fun _ => some (true, ())) (fun z11 => some (z11.1.1, ()))))
theorem EL (f : α → α → Option (Bool × Unit)) (a : List α) (hn : a.length ≤ Vd) (hf : ∀ k (h : k < a.length), f a[k] a[k] = some (true, ())) : DL f a a = some (true, ()) := by
 have h40 : Vd = 1099511627776 := rfl
 have hl := Dp (step := fun x : (List α × (List α × (Int × Unit))) × Unit => PI f x.1.1 x.1.2.1 x.1.2.2.1) (fun k => ((a, a, (k : Int), ()), ())) (ja a) (.inl ((), ())) (by
  intro k hk
  simp only [PI]
  rw [Sa (show (k : Int) < (ja a : Int) by omega), Wf hk]
  simp only [cond_true, jb]
  rw [hf k hk]
  simp only [jb, jg, cond_false]
  rw [Qd (by omega)]) (by
  simp [PI])
 unfold DL
 rw [bne_self_eq_false']
 simp only [cond_false]
 erw [hl]
 rfl
theorem EN {e : Ty} {f : T e → T e → Option (Bool × Unit)} {F : List (T e) → List (T e) → Option (Bool × Unit)} (a : List (T e)) (hz : Za (.sl e) a ≤ Vd) (hf : ∀ x, Za e x ≤ Vd → f x x = some (true, ())) (h : F a a = DL f a a) : F a a = some (true, ()) := by
 have hz' : ja a + (List.map (Za e) a).sum ≤ Vd := hz
 rw [h]
 exact EL f a (by omega) fun k hk => hf _ (by have := Qn (f := Za e) hk; omega)
def UD (f : α → Int → Option (Int × Unit)) (t0 : List α) (t1 t5 : Int) : Option (((List α × (Int × (Int × Unit))) × Unit) ⊕ (((Int × Unit) × Unit) ⊕ ((Int × Unit) × Unit))) :=
 cond (decide (t5 < ((ja t0 : Nat) : Int))) (jz (Od t0 t5) fun x5 => jz (f x5 t1) fun r6 => cond (decide (r6.1 < (0 : Int))) (some (.inr (.inr (((-1 : Int), ()), ()))))
  (some (.inl ((t0, r6.1, j4 .i64 (t5 + 1), ()), ())))) (some (.inr (.inl ((t1, ()), ()))))
noncomputable def IN (f : α → Int → Option (Int × Unit)) (a0 : List α) (a1 : Int) : Option (Int × Unit) :=
 cond (decide ((j4 .i64 (a1 - ((ja a0 : Nat) : Int))) < (0 : Int))) (some ((-1 : Int), ()))
  (jz (Pb (fun x : (List α × (Int × (Int × Unit))) × Unit => UD f x.1.1 x.1.2.1 x.1.2.2.1) ((a0, j4 .i64 (a1 - ((ja a0 : Nat) : Int)), (0 : Int), ()), ())) (j6 (fun y7 => some (y7.1.1, ())) (fun z8 => some (z8.1.1, ()))))
theorem LR {e : Ty} {f : T e → Int → Option (Int × Unit)} {F : List (T e) → Int → Option (Int × Unit)} (a : List (T e)) (hr : Tj (.sl e) a) (l : Nat) (hl : l ≤ Yb)
 (hf : ∀ x, Tj e x → ∀ l : Nat, l ≤ Yb → f x (l : Int) = some (Ey (Za e x) l, ())) (hF : F a (l : Int) = IN f a (l : Int)) : F a (l : Int) = some (Ey (Za (.sl e) a) l, ()) := by
 have h20 : Yb = 1048576 := rfl
 have hlen : ja a ≤ 9223372036854775807 := hr.1
 rw [hF]
 unfold IN
 rw [Lh (by omega) (by omega)]
 by_cases h : ja a ≤ l
 ·rw [Vb (by omega), show (l : Int) - (ja a : Int) = ((l - ja a : Nat) : Int) by omega]
  simp only [cond_false]
  have hx := TJ (step := fun x : (List (T e) × (Int × (Int × Unit))) × Unit => UD f x.1.1 x.1.2.1 x.1.2.2.1) a (Za e) (fun l i => ((a, l, i, ()), ())) (fun l => .inl ((l, ()), ())) (.inr (((-1 : Int), ()), ())) (by
   intro k hk l hl
   simp only [UD]
   rw [Sa (show (k : Int) < (ja a : Int) by omega), Wf hk]
   simp only [cond_true, jb]
   rw [hf a[k] (hr.2 k hk) l hl]
   simp only [jb]
   by_cases hc : Za e a[k] ≤ l
   ·rw [Iq hc, Vb (by omega), if_pos hc]; rfl
   ·rw [Mo hc, if_neg hc]; rfl) (by
   intro l
   simp [UD]) (by omega) (l - ja a) (by omega)
  rw [hx]
  simp only [jb]
  have hs : Za (.sl e) a = ja a + (List.map (Za e) a).sum := rfl
  rw [hs]
  by_cases h2 : (List.map (Za e) a).sum ≤ l - ja a
  ·rw [if_pos h2, Iq (by omega)]; simp only [qh]; rw [show l - ja a - (List.map (Za e) a).sum = l - (ja a + (List.map (Za e) a).sum) by omega]
  ·rw [if_neg h2, Mo (by omega)]; rfl
 ·rw [Mo (show ¬ Za (.sl e) a ≤ l by have hs : Za (.sl e) a = ja a + (List.map (Za e) a).sum := rfl; omega), Sa (by omega)]; rfl
def OM (a0 : List α) (a1 : Int) : Option (Int × Unit) :=
 cond (decide ((j4 .i64 (a1 - ((ja a0 : Nat) : Int))) < (0 : Int))) (some ((-1 : Int), ())) (some ((j4 .i64 (a1 - ((ja a0 : Nat) : Int))), ()))
theorem ZQ {e : Ty} {F : List (T e) → Int → Option (Int × Unit)} (a : List (T e)) (hr : Tj (.sl e) a) (l : Nat) (hl : l ≤ Yb) (he : (e.flat && !e.hasS) = true) (hF : F a (l : Int) = OM a (l : Int)) : F a (l : Int) = some (Ey (Za (.sl e) a) l, ()) := by
 have h20 : Yb = 1048576 := rfl
 have hlen : ja a ≤ 9223372036854775807 := hr.1
 rw [hF]
 unfold OM
 rw [Lh (by omega) (by omega), Dv he a]
 by_cases h : ja a ≤ l
 ·rw [Iq h, Vb (by omega), show (l : Int) - (ja a : Int) = ((l - ja a : Nat) : Int) by omega]; rfl
 ·rw [Mo h, Sa (by omega)]; rfl
end
theorem ID {e : Ty} {β β' : Type} {RM : List (T e) → Int → Int → Option (((List (T e) × (Int × (Int × Unit))) × Unit) ⊕ (((List (T e) × (Int × Unit)) × Unit) ⊕ β))}
 {RH : List (T e) → Int → Int → Option (((List (T e) × (Int × (Int × Unit))) × Unit) ⊕ (((Int × Unit) × Unit) ⊕ β'))} {M : List (T e) → Int → Option (List (T e) × (Int × Unit))} {Hd : List (T e) → Int → Option (Int × Unit)} {g : β → Option (List (T e) × (Int × Unit))} {g' : β' → Option (Int × Unit)}
 (hM : ∀ o k, M o k = jz (Pb (fun x => RM x.1.1 x.1.2.1 x.1.2.2.1) ((o, k, 0, ()), ())) (j6 (fun y => some (y.1.1, (y.1.2.1, ()))) g))
 (hH : ∀ o k, Hd o k = jz (Pb (fun x => RH x.1.1 x.1.2.1 x.1.2.2.1) ((o, k, 0, ()), ())) (j6 (fun y => some (y.1.1, ())) g'))
 (h : ∀ (o : List (T e)) (k i : Nat) (hi : i < o.length), k + (8 + 8 * Za e o[i]) ≤ Vd → ∃ (x' : T e) (k' : Nat), k ≤ k' ∧ k' ≤ k + (8 + 8 * Za e o[i]) ∧
  RM o (k : Int) (i : Int) = some (.inl ((o.set i x', (k' : Int), (j4 .i64 ((i : Int) + 1)), ()), ())) ∧
  ∀ (o2 : List (T e)) (hi2 : i < o2.length), o2[i] = x' → RH o2 (k : Int) (i : Int) = some (.inl ((o2, (k' : Int), (j4 .i64 ((i : Int) + 1)), ()), ())))
 (heM : ∀ (o : List (T e)) (k : Int), RM o k (o.length : Int) = some (.inr (.inl ((o, k, ()), ()))))
 (heH : ∀ (o : List (T e)) (k : Int), RH o k (o.length : Int) = some (.inr (.inl ((k, ()), ()))))
 (a : List (T e)) (k : Nat) (hk : k + 8 * Za (.sl e) a ≤ Vd) :
 ∃ (a' : List (T e)) (k' : Nat), k ≤ k' ∧ k' ≤ k + 8 * Za (.sl e) a ∧ M a (k : Int) = some (a', ((k' : Int), ())) ∧ Hd a' (k : Int) = some ((k' : Int), ()) ∧ kf (.sl e) a a' := by
 have h40 : Vd = 1099511627776 := rfl
 by_cases hlen : ja a < 9223372036854775807
 case neg => exfalso; have h1 : ja a ≤ Za (.sl e) a := Nat.le_add_right _ _; omega
 have hsum : (List.map (fun x => 8 + 8 * Za e x) a).sum = 8 * Za (.sl e) a := YQ _ _
 have hx := PF (stepM := fun x : ((List (T e) × (Int × (Int × Unit))) × Unit) => RM x.1.1 x.1.2.1 x.1.2.2.1) (stepH := fun x : ((List (T e) × (Int × (Int × Unit))) × Unit) => RH x.1.1 x.1.2.1 x.1.2.2.1) (fun x => 8 + 8 * Za e x) Vd (fun o k i => ((o, k, i, ()), ())) (fun o k => .inl ((o, k, ()), ())) (fun o k i => ((o, k, i, ()), ())) (fun _ k => .inl ((k, ()), ())) h
  (fun o k => heM o _) (fun o k => heH o _) a k (by rw [hsum]; exact hk) hlen
 obtain ⟨o, k1, h1, h2, _, h4, h5⟩ := hx
 rw [hsum] at h2
 refine ⟨o, k1, h1, h2, ?_, ?_, trivial⟩
 ·rw [hM]
  erw [h4]
  rfl
 ·rw [hH]
  erw [h5]
  rfl
abbrev int : Ty := .i .i64
abbrev No : Ty := (.p int (.p int .u))
abbrev Qm : Type := (Int × (Int × Unit))
abbrev Lw : Type := (Int × ((List Int) × Unit))
abbrev QM : Ty := (.p int (.p int (.p .b .u)))
abbrev Rr : Type := (Int × (Int × (Bool × Unit)))
abbrev Cz : Ty := (.p int No)
abbrev Gk : Type := (Int × Qm)
abbrev Pa : Ty := (.p int Cz)
abbrev Va : Type := (Int × Gk)
abbrev BN : Ty := (.p int (.p Pa .u))
abbrev Ph : Type := (Int × (Va × Unit))
abbrev PC : Type := (Int × (Int × (Int × (Int × Lw))))
abbrev Ra : Ty := (.p int (.p (.sl (.sl Pa)) .u))
abbrev Ha : Type := (Int × ((List (List Va)) × Unit))
abbrev Kx : Type := ((List Qm) × (Int × ((List Rr) × (Int × (Int × (Int × ((List Rr) × Unit)))))))
abbrev UJ : Ty := (.p Ra (.p (.sl (.sl Cz)) (.p int (.p (.sl BN) (.p int (.p .b .u))))))
abbrev VI : Type := (Ha × ((List (List Gk)) × (Int × ((List Ph) × (Int × (Bool × Unit))))))
abbrev GI : Ty := (.p UJ (.p Cz (.p (.sl QM) Pa)))
abbrev UG : Type := (VI × (Gk × ((List Rr) × Va)))
abbrev VK : Type := (Rr × (PC × (Kx × (UG × Qm))))
noncomputable section
open Option renaming bind → ob
open Go.IntKind renaming wrap → wr
open Int renaming toNat → tn
open List renaming length → ln, append → ap, set → ls
open Sum renaming elim → se
open Nat renaming ble → bl
abbrev Df : Type := Int × Unit
abbrev Qi : Type := Bool × Unit
abbrev Oe : Type := List Int
abbrev Kl : Type := Unit × Unit
abbrev Gg : Type := List Va
abbrev Qh : Type := Ha × Unit
abbrev Qy : Type := Unit × Df
abbrev Ry : Type := Qi × Unit
abbrev Ce : Type := List Gg
abbrev Ln : Type := Df × Unit
abbrev LI : Type := Unit × Qm
abbrev Jl : Type := List (Int × Oe)
abbrev At : Type := Oe × Unit
abbrev Lq : Type := List Oe
abbrev Sy : Type := Oe × Qm
abbrev MI : Type := Int × (Int × (Gg × Qm))
abbrev Mn : Type := Ce × Qm
abbrev Uy : Type := Kl ⊕ Ry
abbrev Vy : Type := (Int × (Int × Qy)) × Qh
abbrev Mq : Type := Oe × Df
abbrev NI : Type := Va × Unit
abbrev Wy : Type := (Ce × (Ce × Df)) × Unit
abbrev OI : Type := Kl ⊕ Ln
abbrev Xy : Type := (Gg × (Gg × Df)) × Unit
abbrev Km : Type := List Bool
abbrev QC : Type := (Unit × (Lq × (Km × Mq))) × Qh
abbrev Yy : Type := (Gg × Qm) × Unit
abbrev RC : Type := (Unit × (Jl × At)) × Qh
def Be (a0 : Int) (a1 : Int) (a2 : Int) : Option Qi :=
 (cond (decide (a0 ≥ a1))
 (some ((decide (a0 ≤ a2)), ()))
 (some (false, ())))
def Ik (a0 : Oe) : Option At :=
 (cond (bl (ln ([] : List Int) + ln a0) Ag)
 (some ((ap [] a0), ()))
 none)
def Li (t0 : Oe) (t1 : Oe) (t5 : Int) : Option (((Oe × Mq) × Unit) ⊕ Uy) :=
 (cond (decide (t5 < ((ln t0 : Nat) : Int)))
 (ob (Od t0 t5) fun x5 =>
 (ob (Od t1 t5) fun x6 =>
 (cond (x5 != x6)
 (some (.inr (.inr ((false, ()), ()))))
 (some (.inl ((t0, t1, (wr .i64 (t5 + 1)), ()), ()))))))
 (some (.inr (.inl ((), ())))))
def Aj := Pb fun x : ((Oe × Mq) × Unit) => Li x.1.1 x.1.2.1 x.1.2.2.1
def Fi (a0 : Oe) (a1 : Oe) : Option Qi :=
 (cond (((ln a0 : Nat) : Int) != ((ln a1 : Nat) : Int))
 (some (false, ()))
 (ob (Aj ((a0, a1, 0, ()), ())) (se (fun y7 => (some (true, ()))) (fun z8 => (some (z8.1.1, ()))))))
def Ah (t0 : Oe) (t1 : Int) (t5 : Int) : Option ((Sy × Unit) ⊕ ((Mq × Unit) ⊕ Kl)) :=
 (cond (decide (t5 < ((ln t0 : Nat) : Int)))
 (cond (Rg (ln t0) t5)
 (ob t0[(tn t5)]? fun x3 =>
 (some (.inl (((ls t0 (tn t5) t1), (wr .i64 (t1 + 1)), (wr .i64 (t5 + 1)), ()), ()))))
 none)
 (some (.inr (.inl ((t0, t1, ()), ())))))
def Rl := Pb fun x : (Sy × Unit) => Ah x.1.1 x.1.2.1 x.1.2.2.1
def Gn (a0 : Oe) (a1 : Int) : Option Mq :=
 (ob (Rl ((a0, a1, 0, ()), ())) (se (fun y4 => (some (y4.1.1, (y4.1.2.1, ())))) (fun z5 => none)))
def Zg (t0 : Oe) (t1 : Int) (t5 : Int) : Option ((Sy × Unit) ⊕ (Ln ⊕ Ln)) :=
 (cond (decide (t5 < ((ln t0 : Nat) : Int)))
 (ob (Od t0 t5) fun x3 =>
 (cond (x3 != t1)
 (some (.inr (.inr (((-1), ()), ()))))
 (some (.inl ((t0, (wr .i64 (t1 + 1)), (wr .i64 (t5 + 1)), ()), ())))))
 (some (.inr (.inl ((t1, ()), ())))))
def Ql := Pb fun x : (Sy × Unit) => Zg x.1.1 x.1.2.1 x.1.2.2.1
def Lk (a0 : Oe) (a1 : Int) : Option Df :=
 (ob (Ql ((a0, a1, 0, ()), ())) (se (fun y4 => (some (y4.1.1, ()))) (fun z5 => (some (z5.1.1, ())))))
def Gh (a0 : Gg) (a1 : Int) : Option Df :=
 (cond (decide ((wr .i64 (a1 - ((ln a0 : Nat) : Int))) < 0))
 (some ((-1), ()))
 (some ((wr .i64 (a1 - ((ln a0 : Nat) : Int))), ())))
def Mr (t0 : Ce) (t1 : Int) (t5 : Int) : Option ((Mn × Unit) ⊕ (Ln ⊕ Ln)) :=
 (cond (decide (t5 < ((ln t0 : Nat) : Int)))
 (ob (Od t0 t5) fun x5 =>
 (ob (Gh x5 t1) fun r6 =>
 (cond (decide (r6.1 < 0))
 (some (.inr (.inr (((-1), ()), ()))))
 (some (.inl ((t0, r6.1, (wr .i64 (t5 + 1)), ()), ()))))))
 (some (.inr (.inl ((t1, ()), ())))))
def Ak := Pb fun x : (Mn × Unit) => Mr x.1.1 x.1.2.1 x.1.2.2.1
def Ni (a0 : Ce) (a1 : Int) : Option Df :=
 (cond (decide ((wr .i64 (a1 - ((ln a0 : Nat) : Int))) < 0))
 (some ((-1), ()))
 (ob (Ak ((a0, (wr .i64 (a1 - ((ln a0 : Nat) : Int))), 0, ()), ())) (se (fun y7 => (some (y7.1.1, ()))) (fun z8 => (some (z8.1.1, ()))))))
def Mk (a0 : Ha) (a1 : Int) : Option Df :=
 (ob (Ni a0.2.1 a1) fun r1 =>
 (cond (decide (r1.1 < 0))
 (some ((-1), ()))
 (some (r1.1, ()))))
def Bi (a0 : Va) : Option NI :=
 (some (a0, ()))
def Es (t0 : Gg) (t3 : Gg) (t4 : Int) : Option (Xy ⊕ (((Gg × Unit) × Unit) ⊕ Kl)) :=
 (cond (decide (t4 < ((ln t0 : Nat) : Int)))
 (ob (Od t0 t4) fun x7 =>
 (ob (Bi x7) fun r8 =>
 (cond (Rg (ln t3) t4)
 (ob t3[(tn t4)]? fun x9 =>
 (some (.inl ((t0, (ls t3 (tn t4) r8.1), (wr .i64 (t4 + 1)), ()), ()))))
 none)))
 (some (.inr (.inl ((t3, ()), ())))))
def Gl := Pb fun x : Xy => Es x.1.1 x.1.2.1 x.1.2.2.1
def Hj (a0 : Gg) : Option (Gg × Unit) :=
 (cond ((((ln a0 : Nat) : Int) == ((ln a0 : Nat) : Int)) && (decide (0 ≤ ((ln a0 : Nat) : Int)) && decide (((ln a0 : Nat) : Int) ≤ ((Ag : Nat) : Int))))
 (ob (Gl ((a0, (List.replicate (tn ((ln a0 : Nat) : Int)) (0, 0, 0, 0, ())), 0, ()), ())) (se (fun y10 => (some (y10.1.1, ()))) (fun z11 => none)))
 none)
def Nr (t0 : Ce) (t3 : Ce) (t4 : Int) : Option (Wy ⊕ (((Ce × Unit) × Unit) ⊕ Kl)) :=
 (cond (decide (t4 < ((ln t0 : Nat) : Int)))
 (ob (Od t0 t4) fun x7 =>
 (ob (Hj x7) fun r8 =>
 (cond (Rg (ln t3) t4)
 (ob t3[(tn t4)]? fun x9 =>
 (some (.inl ((t0, (ls t3 (tn t4) r8.1), (wr .i64 (t4 + 1)), ()), ()))))
 none)))
 (some (.inr (.inl ((t3, ()), ())))))
def Bk := Pb fun x : Wy => Nr x.1.1 x.1.2.1 x.1.2.2.1
def Sl (a0 : Ce) : Option (Ce × Unit) :=
 (cond ((((ln a0 : Nat) : Int) == ((ln a0 : Nat) : Int)) && (decide (0 ≤ ((ln a0 : Nat) : Int)) && decide (((ln a0 : Nat) : Int) ≤ ((Ag : Nat) : Int))))
 (ob (Bk ((a0, (List.replicate (tn ((ln a0 : Nat) : Int)) []), 0, ()), ())) (se (fun y10 => (some (y10.1.1, ()))) (fun z11 => none)))
 none)
def Ff (a0 : Ha) : Option Qh :=
 (ob (Sl a0.2.1) fun r1 =>
 (some ((a0.1, r1.1, ()), ())))
def Ci (a0 : Va) : Option Qi :=
 (ob (Be a0.2.1 1 56) fun r1 =>
 (ob (Be a0.2.2.1 1 15) fun r2 =>
 (ob (Be a0.2.2.2.1 1 3) fun r3 =>
 (cond (a0.1 == 0)
 (cond (a0.2.1 == 0)
 (cond (a0.2.2.1 == 0)
 (some ((a0.2.2.2.1 == 0), ()))
 (some (false, ())))
 (some (false, ())))
 (cond (a0.1 == 1)
 (cond (a0.2.1 == 0)
 (cond (a0.2.2.1 == 0)
 (some ((a0.2.2.2.1 == 0), ()))
 (some (false, ())))
 (some (false, ())))
 (cond (a0.1 == 10)
 (cond (a0.2.1 == 0)
 (cond (a0.2.2.1 == 0)
 (some ((a0.2.2.2.1 == 0), ()))
 (some (false, ())))
 (some (false, ())))
 (cond (a0.1 == 2)
 (cond (a0.2.2.2.1 == 0)
 (cond r1.1
 (cond r2.1
 (some (true, ()))
 (some ((a0.2.2.1 == 0), ())))
 (cond (a0.2.1 == 0)
 (cond r2.1
 (cond r2.1
 (some (true, ()))
 (some ((a0.2.2.1 == 0), ())))
 (some (false, ())))
 (some (false, ()))))
 (some (false, ())))
 (cond (a0.1 == 3)
 (cond r3.1
 (cond (a0.2.1 == 0)
 (some ((a0.2.2.1 == 0), ()))
 (some (false, ())))
 (some (false, ())))
 (cond (a0.1 == 4)
 (cond r3.1
 (cond (a0.2.1 == 0)
 (some ((a0.2.2.1 == 0), ()))
 (some (false, ())))
 (some (false, ())))
 (cond (a0.1 == 5)
 (ob (Be a0.2.2.2.1 0 3) fun r4 =>
 (cond r4.1
 (cond (a0.2.1 == 0)
 (some ((a0.2.2.1 == 0), ()))
 (some (false, ())))
 (some (false, ()))))
 (cond (a0.1 == 9)
 (ob (Be a0.2.2.2.1 0 3) fun r5 =>
 (cond r5.1
 (cond (a0.2.1 == 0)
 (some ((a0.2.2.1 == 0), ()))
 (some (false, ())))
 (some (false, ()))))
 (cond (a0.1 == 6)
 (cond r1.1
 (cond r2.1
 (some ((a0.2.2.2.1 == 0), ()))
 (some (false, ())))
 (some (false, ())))
 (cond (a0.1 == 7)
 (cond r1.1
 (cond r3.1
 (some ((a0.2.2.1 == 0), ()))
 (some (false, ())))
 (some (false, ())))
 (cond (a0.1 == 8)
 (cond r2.1
 (cond (a0.2.1 == 0)
 (some ((a0.2.2.2.1 == 0), ()))
 (some (false, ())))
 (some (false, ())))
 (some (false, ()))))))))))))))))
def Sj (t1 : Unit) (t3 : Int) (t4 : Int) (b1 : Ha) : Option ((LI × Qh) ⊕ ((Qy × Qh) ⊕ Ry)) :=
 (ob (Od b1.2.1 t3) fun x40 =>
 (cond (decide (t4 < ((ln x40 : Nat) : Int)))
 (ob (Od b1.2.1 t3) fun x41 =>
 (ob (Od x41 t4) fun x42 =>
 (ob (Ci x42) fun r43 =>
 (cond (!r43.1)
 (some (.inr (.inr ((false, ()), ()))))
 (cond (x42.1 == 1)
 (cond (t3 == 0)
 (some (.inr (.inr ((false, ()), ()))))
 (cond (x42.1 != 9)
 (cond (decide (x42.2.2.2.1 ≥ ((ln b1.2.1 : Nat) : Int)))
 (some (.inr (.inr ((false, ()), ()))))
 (some (.inl (((), t3, (wr .i64 (t4 + 1)), ()), (b1, ())))))
 (some (.inl (((), t3, (wr .i64 (t4 + 1)), ()), (b1, ()))))))
 (cond (x42.1 != 9)
 (cond (decide (x42.2.2.2.1 ≥ ((ln b1.2.1 : Nat) : Int)))
 (some (.inr (.inr ((false, ()), ()))))
 (some (.inl (((), t3, (wr .i64 (t4 + 1)), ()), (b1, ())))))
 (some (.inl (((), t3, (wr .i64 (t4 + 1)), ()), (b1, ()))))))))))
 (some (.inr (.inl (((), t3, ()), (b1, ())))))))
def Sf := Pb fun x : (LI × Qh) => Sj x.1.1 x.1.2.1 x.1.2.2.1 x.2.1
def Rj (t1 : Unit) (t3 : Int) (b1 : Ha) : Option ((Qy × Qh) ⊕ ((Kl × Qh) ⊕ Ry)) :=
 (cond (decide (t3 < ((ln b1.2.1 : Nat) : Int)))
 (ob (Od b1.2.1 t3) fun x31 =>
 (cond (((ln x31 : Nat) : Int) != b1.1)
 (some (.inr (.inr ((false, ()), ()))))
 (ob (Sf (((), t3, 0, ()), (b1, ()))) (se (fun y44 => (some (.inl (((), (wr .i64 (y44.1.2.1 + 1)), ()), (y44.2.1, ()))))) (fun z45 => (some (.inr (.inr ((z45.1.1, ()), ())))))))))
 (some (.inr (.inl (((), ()), (b1, ()))))))
def Rf := Pb fun x : (Qy × Qh) => Rj x.1.1 x.1.2.1 x.2.1
def Di (a0 : Ha) : Option Qi :=
 (ob (Rf (((), 0, ()), (a0, ()))) (se (fun y46 => (ob (Be y46.2.1.1 1 32) fun r48 =>
 (cond r48.1
 (ob (Be ((ln y46.2.1.2.1 : Nat) : Int) 1 4) fun r49 =>
 (some (r49.1, ())))
 (some (false, ()))))) (fun z47 => (some (z47.1.1, ())))))
def Dg (a0 : Ha) (a1 : Int) : Option Qi :=
 (ob (Di a0) fun r1 =>
 (cond r1.1
 (cond (decide (0 ≤ ((ln a0.2.1 : Nat) : Int)))
 (ob (Be a1 0 (wr .i64 ((Zf .i64 1 ((ln a0.2.1 : Nat) : Int)) - 1))) fun r2 =>
 (cond r2.1
 (cond ((2 : Int) == 0)
 none
 (some (((Int.tmod a1 2) == 0), ())))
 (some (false, ()))))
 none)
 (some (false, ()))))
def Ei (a0 : Int) : Option Qi :=
 (cond (decide (a0 ≥ 1))
 (some ((decide (a0 ≤ 56)), ()))
 (some (false, ())))
def Wg (a0 : Int) : Option Qi :=
 (cond (decide (a0 ≥ 1))
 (some ((decide (a0 ≤ 15)), ()))
 (some (false, ())))
def Dh (a0 : Int) : Option Qi :=
 (cond (decide (a0 ≥ 1))
 (some ((decide (a0 ≤ 3)), ()))
 (some (false, ())))
def Zh (a0 : Va) : Option Qi :=
 (cond (a0.1 == 0)
 (cond (a0.2.1 == 0)
 (cond (a0.2.2.1 == 0)
 (some ((a0.2.2.2.1 == 0), ()))
 (some (false, ())))
 (some (false, ())))
 (cond (a0.1 == 1)
 (cond (a0.2.1 == 0)
 (cond (a0.2.2.1 == 0)
 (some ((a0.2.2.2.1 == 0), ()))
 (some (false, ())))
 (some (false, ())))
 (cond (a0.1 == 10)
 (cond (a0.2.1 == 0)
 (cond (a0.2.2.1 == 0)
 (some ((a0.2.2.2.1 == 0), ()))
 (some (false, ())))
 (some (false, ())))
 (cond (a0.1 == 2)
 (cond (a0.2.2.2.1 == 0)
 (cond (a0.2.1 == 0)
 (cond (a0.2.2.1 == 0)
 (cond (a0.2.1 != 0)
 (some (true, ()))
 (some ((a0.2.2.1 != 0), ())))
 (ob (Wg a0.2.2.1) fun r1 =>
 (cond r1.1
 (cond (a0.2.1 != 0)
 (some (true, ()))
 (some ((a0.2.2.1 != 0), ())))
 (some (false, ())))))
 (ob (Ei a0.2.1) fun r2 =>
 (cond r2.1
 (cond (a0.2.2.1 == 0)
 (cond (a0.2.1 != 0)
 (some (true, ()))
 (some ((a0.2.2.1 != 0), ())))
 (ob (Wg a0.2.2.1) fun r3 =>
 (cond r3.1
 (cond (a0.2.1 != 0)
 (some (true, ()))
 (some ((a0.2.2.1 != 0), ())))
 (some (false, ())))))
 (some (false, ())))))
 (some (false, ())))
 (cond (a0.1 == 3)
 (cond (a0.2.1 == 0)
 (cond (a0.2.2.1 == 0)
 (ob (Dh a0.2.2.2.1) fun r4 =>
 (some (r4.1, ())))
 (some (false, ())))
 (some (false, ())))
 (cond (a0.1 == 4)
 (cond (a0.2.1 == 0)
 (cond (a0.2.2.1 == 0)
 (ob (Dh a0.2.2.2.1) fun r5 =>
 (some (r5.1, ())))
 (some (false, ())))
 (some (false, ())))
 (cond (a0.1 == 5)
 (cond (a0.2.1 == 0)
 (cond (a0.2.2.1 == 0)
 (cond (decide (a0.2.2.2.1 ≥ 0))
 (some ((decide (a0.2.2.2.1 ≤ 3)), ()))
 (some (false, ())))
 (some (false, ())))
 (some (false, ())))
 (cond (a0.1 == 9)
 (cond (a0.2.1 == 0)
 (cond (a0.2.2.1 == 0)
 (cond (decide (a0.2.2.2.1 ≥ 0))
 (some ((decide (a0.2.2.2.1 ≤ 3)), ()))
 (some (false, ())))
 (some (false, ())))
 (some (false, ())))
 (cond (a0.1 == 6)
 (ob (Ei a0.2.1) fun r6 =>
 (cond r6.1
 (ob (Wg a0.2.2.1) fun r7 =>
 (cond r7.1
 (some ((a0.2.2.2.1 == 0), ()))
 (some (false, ()))))
 (some (false, ()))))
 (cond (a0.1 == 7)
 (ob (Ei a0.2.1) fun r8 =>
 (cond r8.1
 (cond (a0.2.2.1 == 0)
 (ob (Dh a0.2.2.2.1) fun r9 =>
 (some (r9.1, ())))
 (some (false, ())))
 (some (false, ()))))
 (cond (a0.1 == 8)
 (cond (a0.2.1 == 0)
 (ob (Wg a0.2.2.1) fun r10 =>
 (cond r10.1
 (some ((a0.2.2.2.1 == 0), ()))
 (some (false, ()))))
 (some (false, ())))
 (some (false, ())))))))))))))
def Pj (t1 : Unit) (t3 : Int) (t28 : Ce) (t29 : Int) (t30 : Int) (t40 : Gg) (t41 : Int) (t42 : Int) (b1 : Ha) : Option (((Unit × (Int × (Ce × MI))) × Qh) ⊕ (((Unit × Mn) × Qh) ⊕ Ry)) :=
 (cond (decide (t42 < t41))
 (ob (Od t40 t42) fun x24 =>
 (ob (Zh x24) fun r25 =>
 (cond (!r25.1)
 (some (.inr (.inr ((false, ()), ()))))
 (cond (t3 == 0)
 (cond (x24.1 == 1)
 (some (.inr (.inr ((false, ()), ()))))
 (cond (x24.1 != 9)
 (cond (decide (x24.2.2.2.1 ≥ ((ln b1.2.1 : Nat) : Int)))
 (some (.inr (.inr ((false, ()), ()))))
 (some (.inl (((), t3, t28, t29, t30, t40, t41, (wr .i64 (t42 + 1)), ()), (b1, ())))))
 (some (.inl (((), t3, t28, t29, t30, t40, t41, (wr .i64 (t42 + 1)), ()), (b1, ()))))))
 (cond (x24.1 != 9)
 (cond (decide (x24.2.2.2.1 ≥ ((ln b1.2.1 : Nat) : Int)))
 (some (.inr (.inr ((false, ()), ()))))
 (some (.inl (((), t3, t28, t29, t30, t40, t41, (wr .i64 (t42 + 1)), ()), (b1, ())))))
 (some (.inl (((), t3, t28, t29, t30, t40, t41, (wr .i64 (t42 + 1)), ()), (b1, ())))))))))
 (some (.inr (.inl (((), t28, t29, t30, ()), (b1, ()))))))
def Nf := Pb fun x : ((Unit × (Int × (Ce × MI))) × Qh) => Pj x.1.1 x.1.2.1 x.1.2.2.1 x.1.2.2.2.1 x.1.2.2.2.2.1 x.1.2.2.2.2.2.1 x.1.2.2.2.2.2.2.1 x.1.2.2.2.2.2.2.2.1 x.2.1
def Oj (t1 : Unit) (t28 : Ce) (t29 : Int) (t30 : Int) (b1 : Ha) : Option (((Unit × Mn) × Qh) ⊕ Uy) :=
 (cond (decide (t30 < t29))
 (ob (Od t28 t30) fun x19 =>
 (cond (((ln x19 : Nat) : Int) != b1.1)
 (some (.inr (.inr ((false, ()), ()))))
 (ob (Nf (((), t30, t28, t29, t30, x19, ((ln x19 : Nat) : Int), 0, ()), (b1, ()))) (se (fun y26 => (some (.inl (((), y26.1.2.1, y26.1.2.2.1, (wr .i64 (y26.1.2.2.2.1 + 1)), ()), (y26.2.1, ()))))) (fun z27 => (some (.inr (.inr ((z27.1.1, ()), ())))))))))
 (some (.inr (.inl ((), ())))))
def Mf := Pb fun x : ((Unit × Mn) × Qh) => Oj x.1.1 x.1.2.1 x.1.2.2.1 x.1.2.2.2.1 x.2.1
def Hk (a0 : Ha) : Option Qi :=
 (cond (decide (a0.1 < 1))
 (some (false, ()))
 (cond (decide (a0.1 > 32))
 (some (false, ()))
 (cond (decide (((ln a0.2.1 : Nat) : Int) < 1))
 (some (false, ()))
 (cond (decide (((ln a0.2.1 : Nat) : Int) > 4))
 (some (false, ()))
 (ob (Mf (((), a0.2.1, ((ln a0.2.1 : Nat) : Int), 0, ()), (a0, ()))) (se (fun y28 => (some (true, ()))) (fun z29 => (some (z29.1.1, ())))))))))
def Gd (a0 : Ha) (a1 : Int) : Option Qi :=
 (ob (Hk a0) fun r1 =>
 (cond r1.1
 (cond (decide (a1 ≥ 0))
 (cond ((2 : Int) == 0)
 none
 (cond ((Int.tmod a1 2) == 0)
 (cond (decide (0 ≤ ((ln a0.2.1 : Nat) : Int)))
 (some ((decide (a1 < (Zf .i64 1 ((ln a0.2.1 : Nat) : Int)))), ()))
 none)
 (some (false, ()))))
 (some (false, ())))
 (some (false, ()))))
def Ai (a0 : Va) (a1 : Va) : Option Qi :=
 (cond (a0.1 != a1.1)
 (some (false, ()))
 (cond (a0.2.1 != a1.2.1)
 (some (false, ()))
 (cond (a0.2.2.1 != a1.2.2.1)
 (some (false, ()))
 (cond (a0.2.2.2.1 != a1.2.2.2.1)
 (some (false, ()))
 (some (true, ()))))))
def Ds (t0 : Gg) (t1 : Gg) (t5 : Int) : Option (Xy ⊕ Uy) :=
 (cond (decide (t5 < ((ln t0 : Nat) : Int)))
 (ob (Od t0 t5) fun x7 =>
 (ob (Od t1 t5) fun x8 =>
 (ob (Ai x7 x8) fun r9 =>
 (cond (!r9.1)
 (some (.inr (.inr ((false, ()), ()))))
 (some (.inl ((t0, t1, (wr .i64 (t5 + 1)), ()), ())))))))
 (some (.inr (.inl ((), ())))))
def Fl := Pb fun x : Xy => Ds x.1.1 x.1.2.1 x.1.2.2.1
def Fh (a0 : Gg) (a1 : Gg) : Option Qi :=
 (cond (((ln a0 : Nat) : Int) != ((ln a1 : Nat) : Int))
 (some (false, ()))
 (ob (Fl ((a0, a1, 0, ()), ())) (se (fun y10 => (some (true, ()))) (fun z11 => (some (z11.1.1, ()))))))
def Lr (t0 : Ce) (t1 : Ce) (t5 : Int) : Option (Wy ⊕ Uy) :=
 (cond (decide (t5 < ((ln t0 : Nat) : Int)))
 (ob (Od t0 t5) fun x7 =>
 (ob (Od t1 t5) fun x8 =>
 (ob (Fh x7 x8) fun r9 =>
 (cond (!r9.1)
 (some (.inr (.inr ((false, ()), ()))))
 (some (.inl ((t0, t1, (wr .i64 (t5 + 1)), ()), ())))))))
 (some (.inr (.inl ((), ())))))
def Zj := Pb fun x : Wy => Lr x.1.1 x.1.2.1 x.1.2.2.1
def Ki (a0 : Ce) (a1 : Ce) : Option Qi :=
 (cond (((ln a0 : Nat) : Int) != ((ln a1 : Nat) : Int))
 (some (false, ()))
 (ob (Zj ((a0, a1, 0, ()), ())) (se (fun y10 => (some (true, ()))) (fun z11 => (some (z11.1.1, ()))))))
def Kk (a0 : Ha) (a1 : Ha) : Option Qi :=
 (cond (a0.1 != a1.1)
 (some (false, ()))
 (ob (Ki a0.2.1 a1.2.1) fun r1 =>
 (cond (!r1.1)
 (some (false, ()))
 (some (true, ())))))
def Sq (a0 : Int) (a1 : Int) : Option Df :=
 (cond (decide (0 ≤ a1))
 (some ((Np .i64 (Ju .i64 a0 a1) 1), ()))
 none)
def Bo (t1 : Int) (t2 : Int) (t3 : Unit) (t7 : Int) (b3 : Ha) : Option (Vy ⊕ OI) :=
 (cond (decide (t7 > 0))
 (ob (Sq t1 t7) fun r7 =>
 (cond (r7.1 == 1)
 (ob (Od b3.2.1 t7) fun x8 =>
 (ob (Od x8 t2) fun x9 =>
 (cond (x9.1 != 1)
 (some (.inr (.inr ((t7, ()), ()))))
 (some (.inl ((t1, t2, (), (wr .i64 (t7 - 1)), ()), (b3, ())))))))
 (some (.inl ((t1, t2, (), (wr .i64 (t7 - 1)), ()), (b3, ()))))))
 (some (.inr (.inl ((), ())))))
def Rd := Pb fun x : Vy => Bo x.1.1 x.1.2.1 x.1.2.2.1 x.1.2.2.2.1 x.2.1
def Pl (a0 : Ha) (a1 : Int) (a2 : Int) : Option Df :=
 (ob (Rd ((a1, a2, (), (wr .i64 (((ln a0.2.1 : Nat) : Int) - 1)), ()), (a0, ()))) (se (fun y10 => (some (0, ()))) (fun z11 => (some (z11.1.1, ())))))
def Lo (t1 : Int) (t2 : Int) (t3 : Unit) (t7 : Int) (b3 : Ha) : Option (Vy ⊕ OI) :=
 (cond (decide (t7 > 0))
 (cond (decide (0 ≤ t7))
 (cond ((Np .i64 (Ju .i64 t1 t7) 1) == 1)
 (ob (Od b3.2.1 t7) fun x7 =>
 (ob (Od x7 t2) fun x8 =>
 (cond (x8.1 != 1)
 (some (.inr (.inr ((t7, ()), ()))))
 (some (.inl ((t1, t2, (), (wr .i64 (t7 - 1)), ()), (b3, ())))))))
 (some (.inl ((t1, t2, (), (wr .i64 (t7 - 1)), ()), (b3, ())))))
 none)
 (some (.inr (.inl ((), ())))))
def Sd := Pb fun x : Vy => Lo x.1.1 x.1.2.1 x.1.2.2.1 x.1.2.2.2.1 x.2.1
def Xl (a0 : Ha) (a1 : Int) (a2 : Int) : Option Df :=
 (ob (Di a0) fun r1 =>
 (cond (!r1.1)
 (some ((-1), ()))
 (ob (Be a2 0 (wr .i64 (a0.1 - 1))) fun r2 =>
 (cond (!r2.1)
 (some ((-1), ()))
 (ob (Sd ((a1, a2, (), (wr .i64 (((ln a0.2.1 : Nat) : Int) - 1)), ()), (a0, ()))) (se (fun y9 => (some (0, ()))) (fun z10 => (some (z10.1.1, ())))))))))
def Pk (a0 : Ha) (a1 : Int) (a2 : Int) : Option NI :=
 (ob (Xl a0 a1 a2) fun r1 =>
 (cond (decide (r1.1 < 0))
 (some ((0, 0, 0, 0, ()), ()))
 (ob (Od a0.2.1 r1.1) fun x2 =>
 (ob (Od x2 a2) fun x3 =>
 (some (x3, ()))))))
def Oi (a0 : Ha) (a1 : Int) (a2 : Int) : Option Df :=
 (ob (Dg a0 a1) fun r1 =>
 (cond (!r1.1)
 (some ((-1), ()))
 (ob (Be a2 0 (wr .i64 (a0.1 - 1))) fun r2 =>
 (cond (!r2.1)
 (some ((-1), ()))
 (ob (Pk a0 (Cl .i64 1 a1) a2) fun r3 =>
 (cond (r3.1.1 == 4)
 (cond (decide (0 ≤ r3.1.2.2.2.1))
 (some ((Pp .i64 a1 (Zf .i64 1 r3.1.2.2.2.1)), ()))
 none)
 (cond (r3.1.1 == 5)
 (cond (decide (0 ≤ r3.1.2.2.2.1))
 (some ((Pg .i64 (Zf .i64 1 r3.1.2.2.2.1) 1), ()))
 none)
 (some (a1, ())))))))))
def Qg (a0 : Ha) (a1 : Int) (a2 : Int) : Option Df :=
 (ob (Pl a0 a1 a2) fun r1 =>
 (ob (Od a0.2.1 r1.1) fun x2 =>
 (ob (Od x2 a2) fun x3 =>
 (cond (x3.1 == 4)
 (cond (decide (0 ≤ x3.2.2.2.1))
 (some ((Pp .i64 a1 (Zf .i64 1 x3.2.2.2.1)), ()))
 none)
 (cond (x3.1 == 5)
 (cond (decide (0 ≤ x3.2.2.2.1))
 (some ((Pg .i64 (Zf .i64 1 x3.2.2.2.1) 1), ()))
 none)
 (some (a1, ())))))))
def Uo (a0 : Ha) (a1 : Int) (a2 : Int) : Option Df :=
 (ob (Gd a0 a1) fun r1 =>
 (cond (!r1.1)
 (some ((-1), ()))
 (cond (decide (a2 < 0))
 (some ((-1), ()))
 (cond (decide (a2 ≥ a0.1))
 (some ((-1), ()))
 (ob (Qg a0 a1 a2) fun r2 =>
 (some (r2.1, ())))))))
def Qf (t0 : Gg) (t1 : Int) (t5 : Int) : Option (Yy ⊕ (((Gg × Df) × Unit) ⊕ Kl)) :=
 (cond (decide (t5 < ((ln t0 : Nat) : Int)))
 (cond (Rg (ln t0) t5)
 (ob t0[(tn t5)]? fun x9 =>
 (cond (Rg (ln (ls t0 (tn t5) (t1, x9.2))) t5)
 (ob (ls t0 (tn t5) (t1, x9.2))[(tn t5)]? fun x10 =>
 (cond (Rg (ln (ls (ls t0 (tn t5) (t1, x9.2)) (tn t5) (x10.1, (wr .i64 (t1 + 1)), x10.2.2))) t5)
 (ob (ls (ls t0 (tn t5) (t1, x9.2)) (tn t5) (x10.1, (wr .i64 (t1 + 1)), x10.2.2))[(tn t5)]? fun x11 =>
 (cond (Rg (ln (ls (ls (ls t0 (tn t5) (t1, x9.2)) (tn t5) (x10.1, (wr .i64 (t1 + 1)), x10.2.2)) (tn t5) (x11.1, x11.2.1, (wr .i64 ((wr .i64 (t1 + 1)) + 1)), x11.2.2.2))) t5)
 (ob (ls (ls (ls t0 (tn t5) (t1, x9.2)) (tn t5) (x10.1, (wr .i64 (t1 + 1)), x10.2.2)) (tn t5) (x11.1, x11.2.1, (wr .i64 ((wr .i64 (t1 + 1)) + 1)), x11.2.2.2))[(tn t5)]? fun x12 =>
 (some (.inl (((ls (ls (ls (ls t0 (tn t5) (t1, x9.2)) (tn t5) (x10.1, (wr .i64 (t1 + 1)), x10.2.2)) (tn t5) (x11.1, x11.2.1, (wr .i64 ((wr .i64 (t1 + 1)) + 1)), x11.2.2.2)) (tn t5) (x12.1, x12.2.1, x12.2.2.1, (wr .i64 ((wr .i64 ((wr .i64 (t1 + 1)) + 1)) + 1)), x12.2.2.2.2)), (wr .i64 ((wr .i64 ((wr .i64 ((wr .i64 (t1 + 1)) + 1)) + 1)) + 1)), (wr .i64 (t5 + 1)), ()), ()))))
 none))
 none))
 none))
 none)
 (some (.inr (.inl ((t0, t1, ()), ())))))
def Nj := Pb fun x : Yy => Qf x.1.1 x.1.2.1 x.1.2.2.1
def Tk (a0 : Gg) (a1 : Int) : Option (Gg × Df) :=
 (ob (Nj ((a0, a1, 0, ()), ())) (se (fun y13 => (some (y13.1.1, (y13.1.2.1, ())))) (fun z14 => none)))
def Bf (t0 : Ce) (t1 : Int) (t5 : Int) : Option ((Mn × Unit) ⊕ (((Ce × Df) × Unit) ⊕ Kl)) :=
 (cond (decide (t5 < ((ln t0 : Nat) : Int)))
 (cond (Rg (ln t0) t5)
 (ob t0[(tn t5)]? fun x5 =>
 (ob (Tk x5 t1) fun r6 =>
 (some (.inl (((ls t0 (tn t5) r6.1), r6.2.1, (wr .i64 (t5 + 1)), ()), ())))))
 none)
 (some (.inr (.inl ((t0, t1, ()), ())))))
def Bj := Pb fun x : (Mn × Unit) => Bf x.1.1 x.1.2.1 x.1.2.2.1
def Qj (a0 : Ce) (a1 : Int) : Option (Ce × Df) :=
 (ob (Bj ((a0, a1, 0, ()), ())) (se (fun y7 => (some (y7.1.1, (y7.1.2.1, ())))) (fun z8 => none)))
def Mi (a0 : Ha) (a1 : Int) : Option (Ha × Df) :=
 (ob (Qj a0.2.1 a1) fun r1 =>
 (some ((a0.1, r1.1, ()), (r1.2.1, ()))))
def Pf (t0 : Gg) (t1 : Int) (t5 : Int) : Option (Yy ⊕ (Ln ⊕ Ln)) :=
 (cond (decide (t5 < ((ln t0 : Nat) : Int)))
 (ob (Od t0 t5) fun x9 =>
 (cond (x9.1 != t1)
 (some (.inr (.inr (((-1), ()), ()))))
 (ob (Od t0 t5) fun x10 =>
 (cond (x10.2.1 != (wr .i64 (t1 + 1)))
 (some (.inr (.inr (((-1), ()), ()))))
 (ob (Od t0 t5) fun x11 =>
 (cond (x11.2.2.1 != (wr .i64 ((wr .i64 (t1 + 1)) + 1)))
 (some (.inr (.inr (((-1), ()), ()))))
 (ob (Od t0 t5) fun x12 =>
 (cond (x12.2.2.2.1 != (wr .i64 ((wr .i64 ((wr .i64 (t1 + 1)) + 1)) + 1)))
 (some (.inr (.inr (((-1), ()), ()))))
 (some (.inl ((t0, (wr .i64 ((wr .i64 ((wr .i64 ((wr .i64 (t1 + 1)) + 1)) + 1)) + 1)), (wr .i64 (t5 + 1)), ()), ())))))))))))
 (some (.inr (.inl ((t1, ()), ())))))
def Qo := Pb fun x : Yy => Pf x.1.1 x.1.2.1 x.1.2.2.1
def Eo (a0 : Gg) (a1 : Int) : Option Df :=
 (ob (Qo ((a0, a1, 0, ()), ())) (se (fun y13 => (some (y13.1.1, ()))) (fun z14 => (some (z14.1.1, ())))))
def Af (t0 : Ce) (t1 : Int) (t5 : Int) : Option ((Mn × Unit) ⊕ (Ln ⊕ Ln)) :=
 (cond (decide (t5 < ((ln t0 : Nat) : Int)))
 (ob (Od t0 t5) fun x5 =>
 (ob (Eo x5 t1) fun r6 =>
 (cond (decide (r6.1 < 0))
 (some (.inr (.inr (((-1), ()), ()))))
 (some (.inl ((t0, r6.1, (wr .i64 (t5 + 1)), ()), ()))))))
 (some (.inr (.inl ((t1, ()), ())))))
def Fo := Pb fun x : (Mn × Unit) => Af x.1.1 x.1.2.1 x.1.2.2.1
def Kn (a0 : Ce) (a1 : Int) : Option Df :=
 (ob (Fo ((a0, a1, 0, ()), ())) (se (fun y7 => (some (y7.1.1, ()))) (fun z8 => (some (z8.1.1, ())))))
def Yo (a0 : Ha) (a1 : Int) : Option Df :=
 (ob (Kn a0.2.1 a1) fun r1 =>
 (cond (decide (r1.1 < 0))
 (some ((-1), ()))
 (some (r1.1, ()))))
def Fg (t2 : Unit) (t6 : Lq) (t7 : Km) (t8 : Oe) (t9 : Int) (t10 : Int) (t11 : Int) (b2 : Ha) : Option (((Unit × (Lq × (Km × (Oe × Gk)))) × Qh) ⊕ (QC ⊕ Kl)) :=
 (cond (decide (t11 < b2.1))
 (ob (Oi b2 t10 t11) fun r49 =>
 (cond (decide (r49.1 ≥ 0))
 (cond (Rg (ln t7) r49.1)
 (ob t7[(tn r49.1)]? fun x50 =>
 (cond (!x50)
 (cond (Rg (ln t7) r49.1)
 (ob t7[(tn r49.1)]? fun x51 =>
 (cond (Rg (ln t6) t10)
 (ob t6[(tn t10)]? fun x52 =>
 (cond (bl (ln ([] : List Int) + ln x52) Ag)
 (cond (bl (ln (ap [] x52) + ln ([t11] : List Int)) Ag)
 (cond (Rg (ln t6) r49.1)
 (ob (ls t6 (tn t10) x52)[(tn r49.1)]? fun x53 =>
 (cond (bl (ln t8 + ln ([r49.1] : List Int)) Ag)
 (some (.inl (((), (ls (ls t6 (tn t10) x52) (tn r49.1) (ap (ap [] x52) ([t11] : List Int))), (ls t7 (tn r49.1) true), (ap t8 ([r49.1] : List Int)), t9, t10, (wr .i64 (t11 + 1)), ()), (b2, ()))))
 none))
 none)
 none)
 none))
 none))
 none)
 (some (.inl (((), t6, t7, t8, t9, t10, (wr .i64 (t11 + 1)), ()), (b2, ()))))))
 none)
 (some (.inl (((), t6, t7, t8, t9, t10, (wr .i64 (t11 + 1)), ()), (b2, ()))))))
 (some (.inr (.inl (((), t6, t7, t8, t9, ()), (b2, ()))))))
def We := Pb fun x : ((Unit × (Lq × (Km × (Oe × Gk)))) × Qh) => Fg x.1.1 x.1.2.1 x.1.2.2.1 x.1.2.2.2.1 x.1.2.2.2.2.1 x.1.2.2.2.2.2.1 x.1.2.2.2.2.2.2.1 x.2.1
def Fj (t2 : Unit) (t6 : Lq) (t7 : Km) (t8 : Oe) (t9 : Int) (b2 : Ha) : Option (QC ⊕ (((Lq × (Km × Unit)) × Unit) ⊕ Kl)) :=
 (cond (decide (t9 < ((ln t8 : Nat) : Int)))
 (cond (Rg (ln t8) t9)
 (ob t8[(tn t9)]? fun x38 =>
 (ob (We (((), t6, t7, t8, t9, x38, 0, ()), (b2, ()))) (se (fun y54 => (some (.inl (((), y54.1.2.1, y54.1.2.2.1, y54.1.2.2.2.1, (wr .i64 (y54.1.2.2.2.2.1 + 1)), ()), (y54.2.1, ()))))) (fun z55 => (some (.inr (.inr ((), ()))))))))
 none)
 (some (.inr (.inl ((t6, t7, ()), ())))))
def Ae := Pb fun x : QC => Fj x.1.1 x.1.2.1 x.1.2.2.1 x.1.2.2.2.1 x.1.2.2.2.2.1 x.2.1
def Lj (a0 : Ha) (a1 : Int) : Option (Lq × (Km × Unit)) :=
 (cond (((16 : Int) == 16) && (decide ((0 : Int) ≤ 16) && decide (16 ≤ ((Ag : Nat) : Int))))
 (cond (((16 : Int) == 16) && (decide ((0 : Int) ≤ 16) && decide (16 ≤ ((Ag : Nat) : Int))))
 (cond (Rg (ln (List.replicate (tn 16) false)) a1)
 (ob (List.replicate (tn 16) false)[(tn a1)]? fun x1 =>
 (ob (Ae (((), (List.replicate (tn 16) []), (ls (List.replicate (tn 16) false) (tn a1) true), ([a1] : List Int), 0, ()), (a0, ()))) (se (fun y56 => (some y56.1)) (fun z57 => none))))
 none)
 none)
 none)
def Jk (t2 : Unit) (t5 : Jl) (t6 : Oe) (t7 : Int) (t26 : Int) (t27 : Int) (b2 : Ha) : Option (((Unit × (Jl × (Oe × Gk))) × Qh) ⊕ (RC ⊕ Kl)) :=
 (cond (decide (t27 < t26))
 (ob (Qg b2 t7 t27) fun r24 =>
 (cond (!(Bc t5 r24.1).isSome)
 (ob (Ik ((Bc t5 t7).getD [])) fun r25 =>
 (cond (bl (ln r25.1 + ln ([t27] : List Int)) Ag)
 (cond (bl (ln t6 + ln ([r24.1] : List Int)) Ag)
 (some (.inl (((), (Vl t5 r24.1 (ap r25.1 ([t27] : List Int))), (ap t6 ([r24.1] : List Int)), t7, t26, (wr .i64 (t27 + 1)), ()), (b2, ()))))
 none)
 none))
 (some (.inl (((), t5, t6, t7, t26, (wr .i64 (t27 + 1)), ()), (b2, ()))))))
 (some (.inr (.inl (((), t5, t6, ()), (b2, ()))))))
def Th := Pb fun x : ((Unit × (Jl × (Oe × Gk))) × Qh) => Jk x.1.1 x.1.2.1 x.1.2.2.1 x.1.2.2.2.1 x.1.2.2.2.2.1 x.1.2.2.2.2.2.1 x.2.1
def Fn (t2 : Unit) (t5 : Jl) (t6 : Oe) (b2 : Ha) : Option (RC ⊕ (((Jl × Unit) × Unit) ⊕ Kl)) :=
 (cond (decide (((ln t6 : Nat) : Int) > 0))
 (cond (Rg (ln t6) 0)
 (ob t6[(tn 0)]? fun x19 =>
 (cond (Ye (ln t6) 1 ((ln t6 : Nat) : Int))
 (ob (Th (((), t5, (Td t6 (tn 1) (tn ((ln t6 : Nat) : Int))), x19, b2.1, 0, ()), (b2, ()))) (se (fun y26 => (some (.inl (((), y26.1.2.1, y26.1.2.2.1, ()), (y26.2.1, ()))))) (fun z27 => (some (.inr (.inr ((), ())))))))
 none))
 none)
 (some (.inr (.inl ((t5, ()), ())))))
def Yf := Pb fun x : RC => Fn x.1.1 x.1.2.1 x.1.2.2.1 x.2.1
def Xo (a0 : Ha) (a1 : Int) : Option (Jl × Unit) :=
 (ob (Yf (((), (Vl ([] : Jl) a1 []), ([a1] : List Int), ()), (a0, ()))) (se (fun y28 => (some (y28.1.1, ()))) (fun z29 => none)))
def Cf (t5 : Oe) (t7 : Km) (t8 : Int) : Option (((Oe × (Km × Df)) × Unit) ⊕ ((At × Unit) ⊕ Kl)) :=
 (cond (decide (t8 < ((ln t7 : Nat) : Int)))
 (cond (Rg (ln t7) t8)
 (ob t7[(tn t8)]? fun x5 =>
 (cond x5
 (cond (bl (ln t5 + ln ([t8] : List Int)) Ag)
 (some (.inl (((ap t5 ([t8] : List Int)), t7, (wr .i64 (t8 + 1)), ()), ())))
 none)
 (some (.inl ((t5, t7, (wr .i64 (t8 + 1)), ()), ())))))
 none)
 (some (.inr (.inl ((t5, ()), ())))))
def Cg := Pb fun x : ((Oe × (Km × Df)) × Unit) => Cf x.1.1 x.1.2.1 x.1.2.2.1
def Je (a0 : Ha) (a1 : Int) : Option At :=
 (ob (Dg a0 a1) fun r1 =>
 (cond (!r1.1)
 (some ([], ()))
 (ob (Lj a0 a1) fun r2 =>
 (ob (Cg (([], r2.2.1, 0, ()), ())) (se (fun y6 => (some (y6.1.1, ()))) (fun z7 => none))))))
def Ze (t5 : Jl) (t6 : Oe) (t17 : Int) : Option (((Jl × Mq) × Unit) ⊕ ((At × Unit) ⊕ Kl)) :=
 (cond (decide (t17 < 16))
 (cond (Bc t5 t17).isSome
 (cond (bl (ln t6 + ln ([t17] : List Int)) Ag)
 (some (.inl ((t5, (ap t6 ([t17] : List Int)), (wr .i64 (t17 + 1)), ()), ())))
 none)
 (some (.inl ((t5, t6, (wr .i64 (t17 + 1)), ()), ()))))
 (some (.inr (.inl ((t6, ()), ())))))
def Xf := Pb fun x : ((Jl × Mq) × Unit) => Ze x.1.1 x.1.2.1 x.1.2.2.1
def Md (a0 : Ha) (a1 : Int) : Option At :=
 (ob (Gd a0 a1) fun r1 =>
 (cond (!r1.1)
 (some ([], ()))
 (ob (Xo a0 a1) fun r2 =>
 (ob (Xf ((r2.1, [], 0, ()), ())) (se (fun y3 => (some (y3.1.1, ()))) (fun z4 => none))))))
def Ge (a0 : Ha) (a1 : Int) : Option Qi :=
 (ob (Mk a0 1048576) fun r1 =>
 (cond (decide (r1.1 < 0))
 (some (true, ()))
 (ob (Ff a0) fun r2 =>
 (ob (Je r2.1 a1) fun r3 =>
 (ob (Ff a0) fun r4 =>
 (ob (Md r4.1 a1) fun r5 =>
 (ob (Fi r5.1 r3.1) fun r6 =>
 (cond (!r6.1)
 (some (false, ()))
 (ob (Ff a0) fun r7 =>
 (ob (Kk r4.1 r7.1) fun r8 =>
 (cond (!r8.1)
 (some (false, ()))
 (ob (Mi r4.1 1) fun r9 =>
 (cond (decide (r9.2.1 < 0))
 (some (false, ()))
 (ob (Fi r5.1 r3.1) fun r10 =>
 (cond (!r10.1)
 (some (false, ()))
 (ob (Gn r5.1 1) fun r11 =>
 (ob (Lk r11.1 1) fun r12 =>
 (cond (decide (r12.1 < 0))
 (some (false, ()))
 (cond (r12.1 != r11.2.1)
 (some (false, ()))
 (ob (Ff a0) fun r13 =>
 (ob (Md r13.1 a1) fun r14 =>
 (ob (Fi r14.1 r3.1) fun r15 =>
 (cond (!r15.1)
 (some (false, ()))
 (ob (Lk r11.1 1) fun r16 =>
 (cond (decide (r16.1 < 0))
 (some (false, ()))
 (cond (r16.1 != r11.2.1)
 (some (false, ()))
 (some (true, ()))))))))))))))))))))))))))))
end
theorem GE (a : (List Int)) (hz : Za (.sl int) a ≤ Vd) : Fi a a = some (true, ()) := by
 have h40 : Vd = 1099511627776 := rfl
 have hz' : ja a + (List.map (Za int) a).sum ≤ Vd := hz
 have hl := Dp (step := fun x : (((List Int) × ((List Int) × (Int × Unit))) × Unit) => Li x.1.1 x.1.2.1 x.1.2.2.1) (fun k => ((a, a, (k : Int), ()), ())) (ja a) (.inl ((), ())) (by
  intro k hk
  simp only [Li]
  rw [Sa (show (k : Int) < (ja a : Int) by omega), Wf hk]
  simp only [cond_true, jb]
  rw [bne_self_eq_false']
  simp only [cond_false]
  rw [Qd (by omega)]) (by
  simp [Li])
 unfold Fi Aj
 rw [bne_self_eq_false']
 simp only [cond_false]
 erw [hl]
 rfl
theorem SA (a : (List Va)) (hr : Tj (.sl Pa) a) (l : Nat) (hl : l ≤ Yb) : Gh a (l : Int) = some (Ey (Za (.sl Pa) a) l, ()) := ZQ (e := Pa) (F := Gh) a hr l hl rfl rfl
theorem Ny (a : (List (List Va))) (hr : Tj (.sl (.sl Pa)) a) (l : Nat) (hl : l ≤ Yb) : Ni a (l : Int) = some (Ey (Za (.sl (.sl Pa)) a) l, ()) := LR (e := (.sl Pa)) (f := Gh) (F := Ni) a hr l hl SA rfl
theorem GB (a : Ha) (hr : Tj Ra a) (l : Nat) (hl : l ≤ Yb) : Mk a (l : Int) = some (Ey (Za Ra a) l, ()) := by
 unfold Mk
 have hs : Za Ra a = Za (.sl (.sl Pa)) a.2.1 := by simp only [Za, Nat.add_zero, js, jt]
 rw [Ny a.2.1 hr.2.1 (l) (by omega)]
 simp only [jb]
 by_cases h0 : Za (.sl (.sl Pa)) a.2.1 ≤ l
 case neg => rw [Mo h0, Mo (by omega)]; rfl
 rw [Iq h0, Vb (by omega)]
 simp only [cond_false]
 rw [Iq (by omega), hs]
 try simp only [Nat.sub_sub, jt]
theorem HB (a : Va) (hz : Za Pa a ≤ Yb) : Bi a = some (a, ()) := by
 unfold Bi
 rfl
theorem TA (a : (List Va)) (hz : Za (.sl Pa) a ≤ Yb) : Hj a = some (a, ()) := JN (e := Pa) _ _ (f := Bi) a hz HB rfl
theorem Oy (a : (List (List Va))) (hz : Za (.sl (.sl Pa)) a ≤ Yb) : Sl a = some (a, ()) := JN (e := (.sl Pa)) _ _ (f := Hj) a hz TA rfl
theorem IB (a : Ha) (hz : Za Ra a ≤ Yb) : Ff a = some (a, ()) := by
 unfold Ff
 have hs : Za Ra a = Za (.sl (.sl Pa)) a.2.1 := by simp only [Za, Nat.add_zero, js, jt]
 rw [Oy a.2.1 (by omega)]
 simp only [jb]
theorem YA (a : Va) (hz : Za Pa a ≤ Vd) : Ai a a = some (true, ()) := by
 unfold Ai
 have hs : Za Pa a = 0 := by simp only [Za, Nat.add_zero, js, jt]
 simp only [bne_self_eq_false', cond_false, jg, jb]
theorem Pz (a : (List Va)) (hz : Za (.sl Pa) a ≤ Vd) : Fh a a = some (true, ()) := EN (e := Pa) (f := Ai) (F := Fh) a hz YA rfl
theorem Gy (a : (List (List Va))) (hz : Za (.sl (.sl Pa)) a ≤ Vd) : Ki a a = some (true, ()) := EN (e := (.sl Pa)) (f := Fh) (F := Ki) a hz Pz rfl
theorem ZA (a : Ha) (hz : Za Ra a ≤ Vd) : Kk a a = some (true, ()) := by
 unfold Kk
 have hs : Za Ra a = Za (.sl (.sl Pa)) a.2.1 := by simp only [Za, Nat.add_zero, js, jt]
 simp only [bne_self_eq_false', cond_false, jg, jb, Gy a.2.1 (by omega)]
theorem DB (a : (List Int)) (k : Nat) (hk : k + 8 * Za (.sl int) a ≤ Vd) : ∃ (a' : (List Int)) (k' : Nat), k ≤ k' ∧ k' ≤ k + 8 * Za (.sl int) a ∧ Gn a (k : Int) = some (a', ((k' : Int), ())) ∧ Lk a' (k : Int) = some ((k' : Int), ()) ∧ kf (.sl int) a a' := ID (e := int) (RM := Ah) (RH := Zg) (fun _ _ => rfl) (fun _ _ => rfl) (by
 have h40 : Vd = 1099511627776 := rfl
 intro o k i hi hB
 have hw : j4 .i64 (((k : Nat) : Int) + 1) = (((k + 1) : Nat) : Int) := Qd (by omega)
 refine ⟨((k : Nat) : Int), k + 1, by omega, by omega, ?_, ?_⟩
 ·simp only [Ah]
  rw [Sa (show (i : Int) < (ja o : Int) by omega)]
  simp only [hw, cond_true, Eh, j7, Sa hi, jn, je hi, qn hi, jb, List.set_set, z3, cond_false]
 ·intro o2 hi2 h2
  simp only [Zg]
  rw [Sa (show (i : Int) < (ja o2 : Int) by omega), Wf hi2, h2]
  simp only [hw, cond_true, jb, bne_self_eq_false', cond_false, z3]) (by
 intro o k
 simp only [Ah]
 rw [Vb (by omega)]
 rfl) (by
 intro o k
 simp only [Zg]
 rw [Vb (by omega)]
 rfl) a k hk
theorem Uw (a : (List Va)) (k : Nat) (hk : k + 8 * Za (.sl Pa) a ≤ Vd) : ∃ (a' : (List Va)) (k' : Nat), k ≤ k' ∧ k' ≤ k + 8 * Za (.sl Pa) a ∧ Tk a (k : Int) = some (a', ((k' : Int), ())) ∧ Eo a' (k : Int) = some ((k' : Int), ()) ∧ kf (.sl Pa) a a' := ID (e := Pa) (RM := Qf) (RH := Pf) (fun _ _ => rfl) (fun _ _ => rfl) (by
 have h40 : Vd = 1099511627776 := rfl
 intro o k i hi hB
 have hw : j4 .i64 (((k : Nat) : Int) + 1) = (((k + 1) : Nat) : Int) ∧ j4 .i64 ((((k + 1) : Nat) : Int) + 1) = (((k + 2) : Nat) : Int) ∧ j4 .i64 ((((k + 2) : Nat) : Int) + 1) = (((k + 3) : Nat) : Int) ∧ j4 .i64 ((((k + 3) : Nat) : Int) + 1) = (((k + 4) : Nat) : Int) := ⟨Qd (by omega), Qd (by omega), Qd (by omega), Qd (by omega)⟩
 obtain ⟨w0, w1, w2, w3⟩ := hw
 refine ⟨(((k : Nat) : Int), (((k + 1) : Nat) : Int), (((k + 2) : Nat) : Int), (((k + 3) : Nat) : Int), ()), k + 4, by omega, by omega, ?_, ?_⟩
 ·simp only [Qf]
  rw [Sa (show (i : Int) < (ja o : Int) by omega)]
  simp only [w0, w1, w2, w3, cond_true, Eh, j7, Sa hi, jn, je hi, qn hi, jb, List.set_set, z3, cond_false]
 ·intro o2 hi2 h2
  simp only [Pf]
  rw [Sa (show (i : Int) < (ja o2 : Int) by omega), Wf hi2, h2]
  simp only [w0, w1, w2, w3, cond_true, jb, bne_self_eq_false', cond_false, z3]) (by
 intro o k
 simp only [Qf]
 rw [Vb (by omega)]
 rfl) (by
 intro o k
 simp only [Pf]
 rw [Vb (by omega)]
 rfl) a k hk
theorem Xv (a : (List (List Va))) (k : Nat) (hk : k + 8 * Za (.sl (.sl Pa)) a ≤ Vd) : ∃ (a' : (List (List Va))) (k' : Nat), k ≤ k' ∧ k' ≤ k + 8 * Za (.sl (.sl Pa)) a ∧ Qj a (k : Int) = some (a', ((k' : Int), ())) ∧ Kn a' (k : Int) = some ((k' : Int), ()) ∧ kf (.sl (.sl Pa)) a a' := ID (e := (.sl Pa)) (RM := Bf) (RH := Af) (fun _ _ => rfl) (fun _ _ => rfl) (by
 have h40 : Vd = 1099511627776 := rfl
 intro o k i hi hB
 obtain ⟨y0, k0, g0, i0, m0, n0, _⟩ := Uw o[i] k (by omega)
 have d0 : decide ((k0 : Int) < 0) = false := Vb (by omega)
 refine ⟨y0, k0, by omega, by omega, ?_, ?_⟩
 ·simp only [Bf]
  rw [Sa (show (i : Int) < (ja o : Int) by omega)]
  simp only [m0, cond_true, Eh, j7, Sa hi, jn, je hi, qn hi, jb, List.set_set, z3, cond_false]
 ·intro o2 hi2 h2
  simp only [Af]
  rw [Sa (show (i : Int) < (ja o2 : Int) by omega), Wf hi2, h2]
  simp only [n0, d0, cond_true, jb, bne_self_eq_false', cond_false, z3]) (by
 intro o k
 simp only [Bf]
 rw [Vb (by omega)]
 rfl) (by
 intro o k
 simp only [Af]
 rw [Vb (by omega)]
 rfl) a k hk
theorem Jy (a : Ha) (k : Nat) (hk : k + 8 * Za Ra a ≤ Vd) : ∃ (a' : Ha) (k' : Nat), k ≤ k' ∧ k' ≤ k + 8 * Za Ra a ∧ Mi a (k : Int) = some (a', ((k' : Int), ())) ∧ Yo a' (k : Int) = some ((k' : Int), ()) ∧ kf Ra a a' := by
 have h40 : Vd = 1099511627776 := rfl
 have hs : Za Ra a = Za (.sl (.sl Pa)) a.2.1 := by simp only [Za, Nat.add_zero, js, jt]
 obtain ⟨x0, k0, g0, i0, m0, n0, f0⟩ := Xv a.2.1 k (by omega)
 refine ⟨(a.1, x0, ()), k0, by omega, by omega, ?_, ?_, Tw _ _, f0, rfl⟩
 ·unfold Mi
  simp only [m0, jb]
 ·unfold Yo
  simp only [n0, jb]
  rw [Vb (by omega)]
  simp only [cond_false]
def Lb (k c m n : Int) : Prop :=
 ((k = 0 ∨ k = 1 ∨ k = 10) ∧ c = 0 ∧ m = 0 ∧ n = 0) ∨
 (k = 2 ∧ n = 0 ∧ (c = 0 ∨ 1 ≤ c ∧ c ≤ 56) ∧ (m = 0 ∨ 1 ≤ m ∧ m ≤ 15) ∧ (c ≠ 0 ∨ m ≠ 0)) ∨
 ((k = 3 ∨ k = 4) ∧ c = 0 ∧ m = 0 ∧ 1 ≤ n ∧ n ≤ 3) ∨
 ((k = 5 ∨ k = 9) ∧ c = 0 ∧ m = 0 ∧ 0 ≤ n ∧ n ≤ 3) ∨
 (k = 6 ∧ 1 ≤ c ∧ c ≤ 56 ∧ 1 ≤ m ∧ m ≤ 15 ∧ n = 0) ∨
 (k = 7 ∧ 1 ≤ c ∧ c ≤ 56 ∧ m = 0 ∧ 1 ≤ n ∧ n ≤ 3) ∨
 (k = 8 ∧ c = 0 ∧ 1 ≤ m ∧ m ≤ 15 ∧ n = 0)
noncomputable def Bd (a : Va) : Bool := open Classical in decide (Lb a.1 a.2.1 a.2.2.1 a.2.2.2.1)
theorem Wa (a : Va) : Bd a = true ↔ Lb a.1 a.2.1 a.2.2.1 a.2.2.2.1 := by simp [Bd]
theorem Aq (c : Int) : Ei c = some (decide (1 ≤ c ∧ c ≤ 56), ()) := by
 simp only [Ei, Ng, Og]
 apply Eb; simp only [Nb, decide_eq_true_eq, Vn, Qq, jq, and_false, false_and, or_false, false_or, and_true, true_and, not_true_eq_false, not_false_eq_true]; try omega
theorem Bq (c : Int) : Wg c = some (decide (1 ≤ c ∧ c ≤ 15), ()) := by
 simp only [Wg, Ng, Og]
 apply Eb; simp only [Nb, decide_eq_true_eq, Vn, Qq, jq, and_false, false_and, or_false, false_or, and_true, true_and, not_true_eq_false, not_false_eq_true]; try omega
theorem Vo (c : Int) : Dh c = some (decide (1 ≤ c ∧ c ≤ 3), ()) := by
 simp only [Dh, Ng, Og]
 apply Eb; simp only [Nb, decide_eq_true_eq, Vn, Qq, jq, and_false, false_and, or_false, false_or, and_true, true_and, not_true_eq_false, not_false_eq_true]; try omega
theorem Eg (c a b : Int) : Be c a b = some (decide (a ≤ c ∧ c ≤ b), ()) := by
 simp only [Be, Ng, Og]
 apply Eb; simp only [Nb, decide_eq_true_eq, Vn, Qq, jq, and_false, false_and, or_false, false_or, and_true, true_and, not_true_eq_false, not_false_eq_true]; try omega
theorem Hu (a : Va) : Zh a = some (Bd a, ()) := by
 obtain ⟨k, c, m, n, u⟩ := a
 have key : ∀ k c m n : Int, Zh (k, c, m, n, u) = some (Bd (k, c, m, n, u), ()) := by
  intro k c m n
  simp only [Zh, Aq, Bq, Vo, Eg, jb, Ng, Og]
  by_cases h0 : k = 0
  ·subst h0; apply Eb; rw [Wa]; simp [Lb, Nb]; try omega
  by_cases h1 : k = 1
  ·subst h1; apply Eb; rw [Wa]; simp [Lb, Nb]; try omega
  by_cases h2 : k = 2
  ·subst h2; apply Eb; rw [Wa]; simp [Lb, Nb]; intro hn; (repeat' split) <;> omega
  by_cases h3 : k = 3
  ·subst h3; apply Eb; rw [Wa]; simp [Lb, Nb]; try omega
  by_cases h4 : k = 4
  ·subst h4; apply Eb; rw [Wa]; simp [Lb, Nb]; try omega
  by_cases h5 : k = 5
  ·subst h5; apply Eb; rw [Wa]; simp [Lb, Nb]; try omega
  by_cases h6 : k = 6
  ·subst h6; apply Eb; rw [Wa]; simp [Lb, Nb]; try omega
  by_cases h7 : k = 7
  ·subst h7; apply Eb; rw [Wa]; simp [Lb, Nb]; try omega
  by_cases h8 : k = 8
  ·subst h8; apply Eb; rw [Wa]; simp [Lb, Nb]; try omega
  by_cases h9 : k = 9
  ·subst h9; apply Eb; rw [Wa]; simp [Lb, Nb]; try omega
  by_cases h10 : k = 10
  ·subst h10; apply Eb; rw [Wa]; simp [Lb, Nb]; try omega
  have g : ∀ j : Int, (k == j) = decide (k = j) := fun j => by rw [Bool.eq_iff_iff]; simp
  apply Eb; rw [Wa]; simp [Lb, Nb, h0, h1, h2, h3, h4, h5, h6, h7, h8, h9, h10]
 exact key k c m n
theorem Yu (a : Va) : Ci a = some (Bd a, ()) := by
 obtain ⟨k, c, m, n, u⟩ := a
 have key : ∀ k c m n : Int, Ci (k, c, m, n, u) = some (Bd (k, c, m, n, u), ()) := by
  intro k c m n
  simp only [Ci, Aq, Bq, Vo, Eg, jb, Ng, Og]
  by_cases h0 : k = 0
  ·subst h0; apply Eb; rw [Wa]; simp [Lb, Nb]; try omega
  by_cases h1 : k = 1
  ·subst h1; apply Eb; rw [Wa]; simp [Lb, Nb]; try omega
  by_cases h2 : k = 2
  ·subst h2; apply Eb; rw [Wa]; simp [Lb, Nb]; intro hn; (repeat' split) <;> omega
  by_cases h3 : k = 3
  ·subst h3; apply Eb; rw [Wa]; simp [Lb, Nb]; try omega
  by_cases h4 : k = 4
  ·subst h4; apply Eb; rw [Wa]; simp [Lb, Nb]; try omega
  by_cases h5 : k = 5
  ·subst h5; apply Eb; rw [Wa]; simp [Lb, Nb]; try omega
  by_cases h6 : k = 6
  ·subst h6; apply Eb; rw [Wa]; simp [Lb, Nb]; try omega
  by_cases h7 : k = 7
  ·subst h7; apply Eb; rw [Wa]; simp [Lb, Nb]; try omega
  by_cases h8 : k = 8
  ·subst h8; apply Eb; rw [Wa]; simp [Lb, Nb]; try omega
  by_cases h9 : k = 9
  ·subst h9; apply Eb; rw [Wa]; simp [Lb, Nb]; try omega
  by_cases h10 : k = 10
  ·subst h10; apply Eb; rw [Wa]; simp [Lb, Nb]; try omega
  have g : ∀ j : Int, (k == j) = decide (k = j) := fun j => by rw [Bool.eq_iff_iff]; simp
  apply Eb; rw [Wa]; simp [Lb, Nb, h0, h1, h2, h3, h4, h5, h6, h7, h8, h9, h10]
 exact key k c m n
noncomputable def Qe (nl : Nat) (i : Nat) (a : Va) : Bool := Bd a && !(((i : Int) == 0) && (a.1 == 1)) && !((a.1 != 9) && decide (a.2.2.2.1 ≥ (nl : Int)))
noncomputable def Bg (keys : Int) (nl : Nat) (i : Nat) (l : List Va) : Bool := ((ja l : Int) == keys) && Ui (fun _ a => Qe nl i a) 0 l
noncomputable def Cd (m : Ha) : Bool :=
 decide (1 ≤ m.1 ∧ m.1 ≤ 32) && decide (1 ≤ m.2.1.length ∧ m.2.1.length ≤ 4) && Ui (fun i l => Bg m.1 m.2.1.length i l) 0 m.2.1
theorem Iu (m : Ha) (i : Nat) (l : List Va) (L : List (List Va)) (n : Int) (t : Int) (hl : l.length < 9223372036854775807) :
 Nf (((), (i : Int), L, n, t, l, (l.length : Int), (0 : Int), ()), (m, ())) =
  some (cond (Ui (fun _ a => Qe m.2.1.length i a) 0 l) (.inl (((), L, n, t, ()), (m, ()))) (.inr ((false, ()), ()))) := by
 unfold Nf
 refine Ap (step := _) l (fun _ a => Qe m.2.1.length i a) (fun j => (((), (i : Int), L, n, t, l, (l.length : Int), j, ()), (m, ()))) _ _ ?_ ?_ hl
 ·intro k hk
  simp only [Pj]
  rw [Sa (show (k : Int) < (l.length : Int) by omega), Wf hk]
  simp only [cond_true, jb, Qe, Hu]
  cases Bd l[k] <;> cases ((i : Int) == 0) <;> cases (l[k].1 == 1) <;> cases (l[k].1 != 9) <;> cases decide (l[k].2.2.2.1 ≥ (m.2.1.length : Int)) <;> rfl
 ·simp [Pj]
theorem Sh (m : Ha) (hz : Za Ra m ≤ Yb) : Hk m = some (Cd m, ()) := by
 have h20 : Yb = 1048576 := rfl
 have hz' : m.2.1.length + (List.map (Za (.sl Pa)) m.2.1).sum ≤ Yb := by
  have : Za Ra m = Za (.sl (.sl Pa)) m.2.1 := by simp only [Za, Nat.add_zero, js]
  rw [this] at hz; exact hz
 have hl : ∀ k (hk : k < m.2.1.length), m.2.1[k].length ≤ Yb := by
  intro k hk
  have := Qn (f := Za (.sl Pa)) hk
  have h2 : m.2.1[k].length ≤ Za (.sl Pa) m.2.1[k] := Nat.le_add_right _ _
  omega
 have hloop : Mf (((), m.2.1, ((ja m.2.1 : Nat) : Int), (0 : Int), ()), (m, ())) =
  some (cond (Ui (fun i l => Bg m.1 m.2.1.length i l) 0 m.2.1) (.inl ((), ())) (.inr ((false, ()), ()))) := by
  unfold Mf
  refine Ap (step := _) m.2.1 (fun i l => Bg m.1 m.2.1.length i l) (fun j => (((), m.2.1, ((ja m.2.1 : Nat) : Int), j, ()), (m, ()))) _ _ ?_ ?_ (by omega)
  ·intro k hk
   have := hl k hk
   simp only [Oj]
   rw [Sa (show (k : Int) < (m.2.1.length : Int) by omega), Wf hk]
   simp only [cond_true, jb, Bg]
   rw [Iu m k _ _ _ _ (by omega)]
   show (cond (!((m.2.1[k].length : Int) == m.1)) _ _) = _
   cases ((m.2.1[k].length : Int) == m.1) <;> cases Ui (fun _ a => Qe m.2.1.length k a) 0 m.2.1[k] <;> rfl
  ·simp [Oj]
 unfold Hk
 rw [hloop]
 simp only [jb, Ox, Ng, Og]
 apply Eb
 simp only [Nb, Cd, jd, decide_eq_true_eq, jq, and_false, false_or, and_true, or_false]
 generalize Ui (fun i l => Bg m.1 m.2.1.length i l) 0 m.2.1 = b
 constructor
 ·rintro ⟨h1, h2, h3, h4, h5⟩; exact ⟨⟨by omega, by omega⟩, h5⟩
 ·rintro ⟨⟨h1, h2⟩, h5⟩; exact ⟨by omega, by omega, by omega, by omega, h5⟩
theorem Zu (m : Ha) (i : Nat) (hi : i < m.2.1.length) (hl : m.2.1[i].length < 9223372036854775807) :
 Sf (((), (i : Int), (0 : Int), ()), (m, ())) =
  some (cond (Ui (fun _ a => Qe m.2.1.length i a) 0 m.2.1[i]) (.inl (((), (i : Int), ()), (m, ()))) (.inr ((false, ()), ()))) := by
 unfold Sf
 refine Ap (step := _) m.2.1[i] (fun _ a => Qe m.2.1.length i a) (fun j => (((), (i : Int), j, ()), (m, ()))) _ _ ?_ ?_ hl
 ·intro k hk
  simp only [Sj]
  rw [Wf hi]
  simp only [jb]
  rw [Sa (show (k : Int) < (m.2.1[i].length : Int) by omega), Wf hk]
  simp only [cond_true, jb, Qe, Yu]
  cases Bd m.2.1[i][k] <;> cases ((i : Int) == 0) <;> cases (m.2.1[i][k].1 == 1) <;> cases (m.2.1[i][k].1 != 9) <;> cases decide (m.2.1[i][k].2.2.2.1 ≥ (m.2.1.length : Int)) <;> rfl
 ·simp [Sj, Wf hi]
theorem Yk (m : Ha) (hz : Za Ra m ≤ Yb) : Di m = some (Cd m, ()) := by
 have h20 : Yb = 1048576 := rfl
 have hz' : m.2.1.length + (List.map (Za (.sl Pa)) m.2.1).sum ≤ Yb := by
  have : Za Ra m = Za (.sl (.sl Pa)) m.2.1 := by simp only [Za, Nat.add_zero, js]
  rw [this] at hz; exact hz
 have hl : ∀ k (hk : k < m.2.1.length), m.2.1[k].length ≤ Yb := by
  intro k hk
  have := Qn (f := Za (.sl Pa)) hk
  have h2 : m.2.1[k].length ≤ Za (.sl Pa) m.2.1[k] := Nat.le_add_right _ _
  omega
 have hloop : Rf (((), (0 : Int), ()), (m, ())) =
  some (cond (Ui (fun i l => Bg m.1 m.2.1.length i l) 0 m.2.1) (.inl (((), ()), (m, ()))) (.inr ((false, ()), ()))) := by
  unfold Rf
  refine Ap (step := _) m.2.1 (fun i l => Bg m.1 m.2.1.length i l) (fun j => (((), j, ()), (m, ()))) _ _ ?_ ?_ (by omega)
  ·intro k hk
   have := hl k hk
   simp only [Rj]
   rw [Sa (show (k : Int) < (m.2.1.length : Int) by omega), Wf hk]
   simp only [cond_true, jb, Bg]
   rw [Zu m k hk (by omega)]
   show (cond (!((m.2.1[k].length : Int) == m.1)) _ _) = _
   cases ((m.2.1[k].length : Int) == m.1) <;> cases Ui (fun _ a => Qe m.2.1.length k a) 0 m.2.1[k] <;> rfl
  ·simp [Rj]
 unfold Di
 rw [hloop]
 simp only [jb, Ox, Ng, Og, Eg]
 apply Eb
 simp only [Nb, Cd, jd, decide_eq_true_eq, jq, and_false, false_or, and_true, or_false]
 generalize Ui (fun i l => Bg m.1 m.2.1.length i l) 0 m.2.1 = b
 constructor
 ·rintro ⟨h1, h2, h3⟩; exact ⟨⟨by omega, by omega⟩, h1⟩
 ·rintro ⟨⟨h1, h2⟩, h5⟩; exact ⟨h5, by omega, by omega⟩
theorem Kt {n : Nat} (h : n ≤ 62) : Zf .i64 1 (n : Int) = ((2 ^ n : Nat) : Int) := by
 unfold Zf
 have h1 : min (jy (n : Int)) (IntKind.bits .i64) = n := by
  show min (jy (n : Int)) 64 = n
  rw [jn]; omega
 rw [h1, Int.one_mul]
 have h2 : (2 : Int) ^ n = ((2 ^ n : Nat) : Int) := by simp
 have h3 : 2 ^ n ≤ 2 ^ 62 := qj (by omega) h
 rw [h2]
 clear h1 h2
 generalize 2 ^ n = z at h3
 rw [Lh (by omega) (by omega)]
theorem Hz (m : Ha) (f : Int) (_ : Tj Ra m) (_ : Tj int f) (hz : Za Ra m ≤ Yb) :
 ∃ b, Dg m f = some (b, ()) ∧ Gd m f = some (b, ()) := by
 unfold Dg Gd
 rw [Yk m hz, Sh m hz]
 simp only [jb, Eg]
 cases hk : Cd m with
 | false => exact ⟨false, rfl, rfl⟩
 | true =>
  simp only [cond_true]
  have hn : 1 ≤ m.2.1.length ∧ m.2.1.length ≤ 4 := by
   simp only [Cd, jd, decide_eq_true_eq] at hk
   exact hk.1.2
  rw [Kt (by omega), Sa (show (0 : Int) ≤ (m.2.1.length : Int) by omega)]
  have hp : 1 ≤ 2 ^ m.2.1.length ∧ 2 ^ m.2.1.length ≤ 16 := by
   obtain ⟨h1, h2⟩ := hn
   generalize m.2.1.length = n at *
   have : n = 1 ∨ n = 2 ∨ n = 3 ∨ n = 4 := by omega
   rcases this with rfl | rfl | rfl | rfl <;> decide
  rw [Lh (by omega) (by omega)]
  simp only [cond_true, Ng, Og, show ((2 : Int) == 0) = false from rfl, cond_false]
  refine ⟨_, rfl, ?_⟩
  apply Eb
  simp only [Nb, decide_eq_true_eq, jq, and_false, or_false, Vn]
  omega
structure Rk (m : Ha) : Prop where
 k1 : 1 ≤ m.1
 k2 : m.1 ≤ 32
 l1 : 1 ≤ m.2.1.length
 l2 : m.2.1.length ≤ 4
 row : ∀ i (h : i < m.2.1.length), (m.2.1[i].length : Int) = m.1
 act : ∀ i (h : i < m.2.1.length) k (hk : k < m.2.1[i].length), Qe m.2.1.length i m.2.1[i][k] = true
theorem Yd {m : Ha} (h : Cd m = true) : Rk m := by
 simp only [Cd, jd, decide_eq_true_eq] at h
 obtain ⟨⟨h1, h2⟩, h3⟩ := h
 rw [Tr] at h3
 refine ⟨h1.1, h1.2, h2.1, h2.2, fun i hi => ?_, fun i hi k hk => ?_⟩
 ·have := h3 i hi
  simp only [js, Bg, jd, beq_iff_eq] at this
  exact this.1
 ·have := h3 i hi
  simp only [js, Bg, jd, beq_iff_eq] at this
  have := Tr.1 this.2 k hk
  simpa using this
theorem Ho {nl i : Nat} {a : Va} (h : Qe nl i a = true) : Bd a = true := by
 simp only [Qe, jd] at h
 exact h.1.1
theorem Ww {nl i : Nat} {a : Va} (h : Qe nl i a = true) (hk : a.1 ≠ 9) : a.2.2.2.1 < (nl : Int) := by
 simp only [Qe, jd, Bool.not_eq_true', Bool.and_eq_false_iff] at h
 rcases h.2 with h | h
 ·simp at h; exact absurd h hk
 ·simpa using h
def Sk (m k : Int) : Int := Np .i64 (Ju .i64 m k) 1
theorem CB (m : Int) {k : Int} (h : 0 ≤ k) : Sq m k = some (Sk m k, ()) := by
 unfold Sq
 rw [Sa h]; rfl
def CR : Va := (0, 0, 0, 0, ())
def Lf (L : List (List Va)) (i k : Nat) : Va := (L.getD i []).getD k CR
theorem Yl {L : List (List Va)} {i k : Nat} (hi : i < L.length) (hk : k < L[i].length) : Lf L i k = L[i][k] := by
 simp [Lf, qg, hi, hk]
theorem DD {α : Type} {L : List (List Va)} {i k : Nat} (hi : i < L.length) (hk : k < L[i].length) (K : Va → Option α) :
 (jz (Od L (i : Int)) fun x => jz (Od x (k : Int)) K) = K (Lf L i k) := by
 rw [Wf hi]
 simp only [jb]
 rw [Wf hk, Yl hi hk]
 rfl
def Ac (L : List (List Va)) (on : Int) (k : Nat) : Nat → Nat
 | 0 => 0
 | n + 1 => cond ((Sk on ((n + 1 : Nat) : Int) == 1) && ((Lf L (n + 1) k).1 != 1)) (n + 1) (Ac L on k n)
theorem Hs {L : List (List Va)} {on : Int} {k : Nat} : ∀ n, Ac L on k n ≤ n
 | 0 => jo _
 | n + 1 => by
  simp only [Ac]
  cases ((Sk on ((n + 1 : Nat) : Int) == 1) && ((Lf L (n + 1) k).1 != 1)) with
  | true => exact jo _
  | false => exact Nat.le_succ_of_le (Hs n)
theorem Wo {m : Ha} (hm : Rk m) (on : Int) {k : Nat} (hk : (k : Int) < m.1) : ∀ n : Nat, n < m.2.1.length →
 Rd ((on, (k : Int), (), (n : Int), ()), (m, ())) = some (cond (Ac m.2.1 on k n == 0) (.inl ((), ())) (.inr ((((Ac m.2.1 on k n : Nat) : Int), ()), ())))
 | 0, _ => by
  unfold Rd
  rw [Tl]
  rfl
 | n + 1, h => by
  have hrow := hm.row (n + 1) h
  unfold Rd
  rw [Tl]
  simp only [Bo]
  rw [Sa (show (((n + 1 : Nat) : Int)) > 0 by omega), CB on (show (0 : Int) ≤ ((n + 1 : Nat) : Int) by omega)]
  simp only [cond_true, jb]
  rw [DD h (by omega), Lh (by have := hm.l2; omega) (by have := hm.l2; omega), show (((n + 1 : Nat) : Int) - 1) = (n : Int) by omega]
  have ih := Wo hm on hk n (by omega)
  unfold Rd at ih
  simp only [Ac]
  cases h1 : (Sk on ((n + 1 : Nat) : Int) == 1) with
  | false =>
   simp only [Bool.false_and, cond_false, jb, qh]
   exact ih
  | true =>
   cases h2 : ((Lf m.2.1 (n + 1) k).1 != 1) with
   | true => rfl
   | false =>
    simp only [Bool.and_false, cond_true, cond_false, jb, qh]
    exact ih
theorem Sv {m : Ha} (hm : Rk m) (on : Int) {k : Nat} (hk : (k : Int) < m.1) :
 Pl m on (k : Int) = some (((Ac m.2.1 on k (m.2.1.length - 1) : Nat) : Int), ()) := by
 have h1 := hm.l1
 have h2 := hm.l2
 unfold Pl
 rw [Lh (by omega) (by omega), show ((m.2.1.length : Int) - 1) = ((m.2.1.length - 1 : Nat) : Int) by omega, Wo hm on hk _ (by omega)]
 cases h : (Ac m.2.1 on k (m.2.1.length - 1) == 0) with
 | false => rfl
 | true =>
  have h' : Ac m.2.1 on k (m.2.1.length - 1) = 0 := by simpa using h
  rw [h']; rfl
theorem Ip {m : Ha} (hm : Rk m) (on : Int) {k : Nat} (hk : (k : Int) < m.1) : ∀ n : Nat, n < m.2.1.length →
 Sd ((on, (k : Int), (), (n : Int), ()), (m, ())) = some (cond (Ac m.2.1 on k n == 0) (.inl ((), ())) (.inr ((((Ac m.2.1 on k n : Nat) : Int), ()), ())))
 | 0, _ => by
  unfold Sd
  rw [Tl]
  rfl
 | n + 1, h => by
  have hrow := hm.row (n + 1) h
  unfold Sd
  rw [Tl]
  simp only [Lo]
  rw [Sa (show (((n + 1 : Nat) : Int)) > 0 by omega), Sa (show (0 : Int) ≤ ((n + 1 : Nat) : Int) by omega)]
  simp only [cond_true]
  rw [DD h (by omega), Lh (by have := hm.l2; omega) (by have := hm.l2; omega), show (((n + 1 : Nat) : Int) - 1) = (n : Int) by omega]
  have ih := Ip hm on hk n (by omega)
  unfold Sd at ih
  simp only [Ac]
  show jz (cond (Sk on ((n + 1 : Nat) : Int) == 1) _ _) _ = _
  cases h1 : (Sk on ((n + 1 : Nat) : Int) == 1) with
  | false =>
   simp only [Bool.false_and, cond_false, jb, qh]
   exact ih
  | true =>
   cases h2 : ((Lf m.2.1 (n + 1) k).1 != 1) with
   | true => rfl
   | false =>
    simp only [Bool.and_false, cond_true, cond_false, jb, qh]
    exact ih
def Ud (m : Ha) (on : Int) (k : Nat) : Nat := Ac m.2.1 on k (m.2.1.length - 1)
theorem Vm {m : Ha} (hm : Rk m) (on : Int) (k : Nat) : Ud m on k < m.2.1.length := by
 have := Hs (L := m.2.1) (on := on) (k := k) (m.2.1.length - 1)
 have := hm.l1
 unfold Ud
 omega
theorem Ew {m : Ha} (hz : Za Ra m ≤ Yb) (hv : Cd m = true) (on : Int) {k : Nat} (hk : (k : Int) < m.1) :
 Xl m on (k : Int) = some (((Ud m on k : Nat) : Int), ()) := by
 have hm := Yd hv
 have h1 := hm.l1
 have h2 := hm.l2
 have h3 := hm.k2
 unfold Xl
 rw [Yk m hz, hv, Lh (n := m.1 - 1) (by omega) (by omega)]
 simp only [jb, jg, cond_false, Eg]
 rw [Sa (show (0 : Int) ≤ (k : Int) ∧ (k : Int) ≤ m.1 - 1 by omega), Lh (by omega) (by omega), show ((m.2.1.length : Int) - 1) = ((m.2.1.length - 1 : Nat) : Int) by omega, Ip hm on hk _ (by omega)]
 simp only [jg, cond_false, jb]
 show _ = some (((Ac m.2.1 on k (m.2.1.length - 1) : Nat) : Int), ())
 cases h : (Ac m.2.1 on k (m.2.1.length - 1) == 0) with
 | false => rfl
 | true =>
  have h' : Ac m.2.1 on k (m.2.1.length - 1) = 0 := by simpa using h
  rw [h']; rfl
theorem Xu {m : Ha} (hz : Za Ra m ≤ Yb) (hv : Cd m = true) (on : Int) {k : Nat} (hk : (k : Int) < m.1) :
 Pk m on (k : Int) = some (Lf m.2.1 (Ud m on k) k, ()) := by
 have hm := Yd hv
 have hl := Vm hm on k
 have hrow := hm.row _ hl
 unfold Pk
 rw [Ew hz hv on hk]
 simp only [jb]
 rw [Vb (by omega)]
 simp only [cond_false]
 rw [DD hl (by omega)]
def Ll (f : Int) (a : Va) : Int := cond (a.1 == 4) (Pp .i64 f (Zf .i64 1 a.2.2.2.1)) (cond (a.1 == 5) (Pg .i64 (Zf .i64 1 a.2.2.2.1) 1) f)
theorem Zy {nl i : Nat} {a : Va} (h : Qe nl i a = true) (hk : a.1 = 3 ∨ a.1 = 4 ∨ a.1 = 5 ∨ a.1 = 7) : 0 ≤ a.2.2.2.1 ∧ a.2.2.2.1 < (nl : Int) ∧ a.2.2.2.1 ≤ 3 := by
 have h1 := Ho h
 rw [Wa] at h1
 have h2 := Ww h (by rcases hk with hk | hk | hk | hk <;> rw [hk] <;> decide)
 unfold Lb at h1
 omega
theorem Um {m : Ha} (hm : Rk m) (f : Int) {k : Nat} (hk : (k : Int) < m.1) :
 Qg m f (k : Int) = some (Ll f (Lf m.2.1 (Ud m f k) k), ()) := by
 have hl := Vm hm f k
 have hrow := hm.row _ hl
 have hact := hm.act _ hl k (by omega)
 rw [← Yl hl (by omega)] at hact
 unfold Qg
 rw [Sv hm f hk]
 simp only [jb]
 rw [show Ac m.2.1 f k (m.2.1.length - 1) = Ud m f k from rfl, DD hl (by omega)]
 generalize Lf m.2.1 (Ud m f k) k = a at hact
 unfold Ll
 cases h4 : (a.1 == 4) with
 | true =>
  rw [Sa (Zy hact (.inr (.inl (by simpa using h4)))).1]; rfl
 | false =>
  cases h5 : (a.1 == 5) with
  | true => rw [Sa (Zy hact (.inr (.inr (.inl (by simpa using h5))))).1]; rfl
  | false => rfl
theorem Lv {f : Int} (h0 : 0 ≤ f) (h1 : f < 16) (h2 : f.tmod 2 = 0) : ∀ n : Nat, n < 4 → Sk (Cl .i64 1 f) ((n + 1 : Nat) : Int) = Sk f ((n + 1 : Nat) : Int) := by
 have : f = 0 ∨ f = 1 ∨ f = 2 ∨ f = 3 ∨ f = 4 ∨ f = 5 ∨ f = 6 ∨ f = 7 ∨ f = 8 ∨ f = 9 ∨ f = 10 ∨ f = 11 ∨ f = 12 ∨ f = 13 ∨ f = 14 ∨ f = 15 := by omega
 clear h0 h1 h2
 rcases this with rfl | rfl | rfl | rfl | rfl | rfl | rfl | rfl | rfl | rfl | rfl | rfl | rfl | rfl | rfl | rfl <;> decide
theorem Qp {L : List (List Va)} {on on' : Int} {k : Nat} : ∀ n : Nat, (∀ j : Nat, j < n → Sk on ((j + 1 : Nat) : Int) = Sk on' ((j + 1 : Nat) : Int)) → Ac L on k n = Ac L on' k n
 | 0, _ => rfl
 | n + 1, h => by
  simp only [Ac]
  rw [h n (by omega), Qp n fun j hj => h j (by omega)]
theorem AB {m : Ha} {f : Int} {b : Bool} (hz : Za Ra m ≤ Yb) (h : Gd m f = some (b, ())) (hb : b = true) : Cd m = true ∧ 0 ≤ f ∧ f < 16 ∧ f.tmod 2 = 0 := by
 unfold Gd at h
 rw [Sh m hz] at h
 cases hk : Cd m with
 | false => rw [hk] at h; simp at h; rw [hb] at h; simp at h
 | true =>
  have hm := Yd hk
  rw [hk] at h
  simp only [jb, cond_true, show ((2 : Int) == 0) = false from rfl, cond_false] at h
  by_cases h1 : f ≥ 0
  case neg => rw [Vb h1] at h; simp at h; rw [hb] at h; simp at h
  rw [Sa h1] at h
  cases h2 : (f.tmod 2 == 0) with
  | false => rw [h2] at h; simp at h; rw [hb] at h; simp at h
  | true =>
   rw [h2, Sa (show (0 : Int) ≤ (m.2.1.length : Int) by omega), Kt (by have := hm.l2; omega)] at h
   simp only [cond_true, jc, jh, and_true] at h
   rw [hb, decide_eq_true_eq] at h
   have h3 := hm.l2
   have h4 : 2 ^ m.2.1.length ≤ 2 ^ 4 := qj (by omega) h3
   exact ⟨rfl, h1, by omega, by simpa using h2⟩
noncomputable def Nn (a : Va) : Bool := Bd a && ((a.1 == 6) || (a.1 == 7))
noncomputable def Us (a : Va) : Va := cond (Nn a) (2, a.2.1, 0, 0, ()) a
def Sz {α : Type} (p : α → Bool) : Nat → List α → Int
 | _, [] => -1
 | k, x :: xs => cond (p x) (k : Int) (Sz p (k + 1) xs)
def IL {α β : Type} : α ⊕ β → Bool
 | .inl _ => true
 | .inr _ => false
noncomputable def Xw (s : Int) (x : Ph) : Bool := decide (0 ≤ x.1 ∧ x.1 ≤ 31) && (!(Sk s x.1 == 1) && (Bd x.2.1 && (!(x.2.1.1 == 1) && (!(x.2.1.1 == 6) && !(x.2.1.1 == 7)))))
noncomputable def QI (s : Int) (x : Ph) : Int ⊕ Unit := cond (Xw s x) (.inl (Cl .i64 s (Zf .i64 1 x.1))) (.inr ())
noncomputable def YM (l : List Ph) : Int ⊕ Unit := Nv (fun _ s x => QI s x) 0 0 l
noncomputable def RB (l : List Ph) : Bool := IL (YM l)
structure IR (x : Ph) : Prop where
 lo : 0 ≤ x.1
 hi : x.1 ≤ 31
 act : Bd x.2.1 = true
 n1 : x.2.1.1 ≠ 1
 n6 : x.2.1.1 ≠ 6
 n7 : x.2.1.1 ≠ 7
def PE (c m : Int) (h : Ph) : Bool := (h.2.1.2.1 == c) && (h.2.1.2.2.1 == m)
def ZJ {α : Type} (l : List α) (r : Nat) : List α := jf (Td l 0 r) (Td l (r + 1) l.length)
noncomputable def SJ (x : Gk) (r : Int) : Bool := Bd (2, x.2.1, x.2.2.1, 0, ()) && (((x.1 == 0) && !decide (r ≥ 0)) || (((x.1 == 1) && !decide (r ≥ 0)) || ((x.1 == 2) && decide (r ≥ 0))))
def GL (x : Gk) : Ph := (0, (2, x.2.1, x.2.2.1, 0, ()), ())
def MP (x : Gk) (L : List Ph) (r : Int) : List Ph := cond (x.1 == 1) (jf L [GL x]) (cond (x.1 == 2) (ZJ L r.toNat) L)
noncomputable def LP (L : List Ph) (x : Gk) : List Ph ⊕ Unit := cond (SJ x (Sz (PE x.2.1 x.2.2.1) 0 L)) (.inl (MP x L (Sz (PE x.2.1 x.2.2.1) 0 L))) (.inr ())
noncomputable def QB (keys : Int) (nl : Nat) (x : Ph) : Bool := !decide (x.1 ≥ keys) && !((x.2.1.1 != 9) && decide (x.2.1.2.2.2.1 ≥ (nl : Int)))


def Zi {S : Type} (g : Nat → S → S) : Nat → S → S
 | 0, s => s
 | n + 1, s => g n (Zi g n s)
theorem Om {X R S : Type} {step : X → Option (X ⊕ R)} (n : Nat) (hn : n < 9223372036854775807) (g : Nat → S → S) (s0 : S) (I : S → Int → X) (out : S → R)
 (h : ∀ k, k < n → step (I (Zi g k s0) (k : Int)) = some (.inl (I (g k (Zi g k s0)) (j4 .i64 ((k : Int) + 1))))) (he : step (I (Zi g n s0) (n : Int)) = some (.inr (out (Zi g n s0)))) :
 Pb step (I s0 0) = some (out (Zi g n s0)) := by
 have := Dp (step := step) (fun k => I (Zi g k s0) (k : Int)) n (out (Zi g n s0)) (fun k hk => by
  rw [h k hk, Qd (by omega)]; rfl) he
 exact this
theorem SI {e : Ty} {c : Nat} : ∀ {w : List (T e)}, (∀ x ∈ w, Za e x ≤ c) → Za (.sl e) w ≤ (c + 1) * w.length
 | [], _ => by simp [Za]
 | x :: r, h => by
  have h1 := h x (by simp)
  have h2 : Za (.sl e) r ≤ (c + 1) * r.length := SI fun y hy => h y (by simp [hy])
  have h3 : Za (.sl e) r = ja r + (List.map (Za e) r).sum := rfl
  have h4 : Za (.sl e) (x :: r) = (ja r + 1) + (Za e x + (List.map (Za e) r).sum) := by simp [Za]
  rw [h4, jw, Nat.mul_add]
  omega
theorem Wm {n : Nat} (h : n ≤ 1073741824) : jx n Ag = true := ji h
theorem NM (a : List Va) : Za (.sl Pa) a = a.length := Dv (e := Pa) rfl a

theorem GN : (2 : Nat) ^ 63 = 9223372036854775808 := rfl
theorem BE {a : Nat} (ha : a < 2 ^ 63) : (BitVec.ofInt 64 (a : Int)).toNat = a := by
 rw [BitVec.ofInt_natCast, BitVec.toNat_ofNat, Nat.mod_eq_of_lt (by omega)]
theorem JH {a b : Nat} (ha : a < 2 ^ 63) (hb : b < 2 ^ 63) : Np .i64 (a : Int) (b : Int) = ((a &&& b : Nat) : Int) := by
 have h : (BitVec.ofInt (IntKind.bits .i64) (a : Int) &&& BitVec.ofInt (IntKind.bits .i64) (b : Int)).toNat = a &&& b := by
  rw [BitVec.toNat_and]; erw [BE ha, BE hb]
 unfold Np
 rw [h]
 have h2 : a &&& b ≤ a := Nat.and_le_left
 have h3 := GN
 exact Lh (by omega) (by omega)
theorem KH (a : Nat) {k : Nat} (hk : k ≤ 64) : Ju .i64 (a : Int) (k : Int) = ((a >>> k : Nat) : Int) := by
 unfold Ju
 have h1 : min (jy (k : Int)) (IntKind.bits .i64) = k := by
  show min (jy (k : Int)) 64 = k
  rw [jn]; omega
 rw [h1, Nat.shiftRight_eq_div_pow]
 have h2 : (2 : Int) ^ k = ((2 ^ k : Nat) : Int) := by simp
 rw [h2]
 exact (Int.fdiv_eq_ediv_of_nonneg _ (Int.natCast_nonneg _)).trans (by simp)
theorem ZG {a k : Nat} (ha : a < 2 ^ 63) (hk : k ≤ 64) : (Sk (a : Int) (k : Int) == 1) = a.testBit k := by
 unfold Sk
 have h1 : a >>> k ≤ a := by rw [Nat.shiftRight_eq_div_pow]; exact Nat.div_le_self _ _
 have h3 := GN
 rw [KH a hk]
 show (Np .i64 ((a >>> k : Nat) : Int) ((1 : Nat) : Int) == 1) = _
 rw [JH (by omega) (by omega), Nat.and_one_is_mod, Nat.testBit_eq_decide_div_mod_eq, Nat.shiftRight_eq_div_pow]
 have : a / 2 ^ k % 2 = 0 ∨ a / 2 ^ k % 2 = 1 := by omega
 rcases this with h | h <;> rw [h] <;> rfl
def cnt : Nat → Nat → Nat
 | 0, _ => 0
 | k + 1, n => n % 2 + cnt k (n / 2)
def u1 (a : Nat) : Nat := ((a / 2) &&& 85) + (a &&& 85)
def u2 (a : Nat) : Nat := ((a / 4) &&& 51) + (a &&& 51)
def M5 : Nat := 6148914691236517205
def M3 : Nat := 3689348814741910323
def MF : Nat := 1085102592571150095
def s1 (n : Nat) : Nat := (n / 2 &&& M5) + (n &&& M5)
def s2 (n : Nat) : Nat := (n / 4 &&& M3) + (n &&& M3)
def s3 (n : Nat) : Nat := (n / 16 + n) &&& MF


structure KC (c : Kx) : Prop where
 a : c.1.length ≤ Yb
 q : c.2.2.1.length ≤ Yb
 e : c.2.2.2.2.2.2.1.length ≤ Yb
 r : ∀ x ∈ c.2.2.2.2.2.2.1, x.2.1 ≤ 9223372036854775807
structure MR (x : Rr) : Prop where
 lo : 0 ≤ x.1
 hi : x.1 ≤ 31
 left : 0 ≤ x.2.1
structure DR (b : VK) : Prop where
 d : b.2.1.2.2.2.2.2.1.length ≤ Yb
 c : KC b.2.2.1
 x : Za GI b.2.2.2.1 ≤ Yb




def Sw (c : Int) : Bool := decide (1 ≤ c ∧ c ≤ 36) || ((c == 39) || (c == 42))
def Rs (f o : Int) (c : Bool) (a : Va) : Int × Int × Bool × Va :=
 cond (a.1 == 2) (cond (a.2.1 == 0) (f, o, c, a) (f, 0, c && Sw a.2.1, a.1, a.2.1, cond ((c && Sw a.2.1) && (decide (a.2.1 ≤ 26) && (Pg .i64 (Cl .i64 a.2.2.1 o) 2 == 0))) 2 (Cl .i64 a.2.2.1 o), a.2.2.2))
  (cond (a.1 == 4) (Pp .i64 f (Zf .i64 1 a.2.2.2.1), o, c, a) (cond (a.1 == 5) (Pg .i64 (Zf .i64 1 a.2.2.2.1) 1, o, c, a)
   (cond (a.1 == 8) (f, cond (Np .i64 o a.2.2.1 == a.2.2.1) (Pg .i64 o a.2.2.1) (Cl .i64 o a.2.2.1), c, a) (cond (a.1 == 10) (f, o, !c, a) (f, o, c, a)))))
theorem BJ : ∀ f : Fin 16, ∀ n : Fin 4, ∀ l : Fin 5, 1 ≤ n.val → n.val < l.val → f.val < 2 ^ l.val → f.val % 2 = 0 →
 0 ≤ Pp .i64 (f.val : Int) (Zf .i64 1 (n.val : Int)) ∧ Pp .i64 (f.val : Int) (Zf .i64 1 (n.val : Int)) < ((2 ^ l.val : Nat) : Int) ∧ (Pp .i64 (f.val : Int) (Zf .i64 1 (n.val : Int))).tmod 2 = 0 := by decide +kernel
theorem XJ : ∀ n : Fin 4, ∀ l : Fin 5, n.val < l.val →
 0 ≤ Pg .i64 (Zf .i64 1 (n.val : Int)) 1 ∧ Pg .i64 (Zf .i64 1 (n.val : Int)) 1 < ((2 ^ l.val : Nat) : Int) ∧ (Pg .i64 (Zf .i64 1 (n.val : Int)) 1).tmod 2 = 0 := by decide +kernel
theorem AC : ∀ o m : Fin 16, (0 ≤ Pg .i64 (o.val : Int) (m.val : Int) ∧ Pg .i64 (o.val : Int) (m.val : Int) ≤ 15) ∧ (0 ≤ Cl .i64 (o.val : Int) (m.val : Int) ∧ Cl .i64 (o.val : Int) (m.val : Int) ≤ 15) := by decide +kernel
structure Oh (nl : Nat) (f o : Int) : Prop where
 f0 : 0 ≤ f
 f1 : f < ((2 ^ nl : Nat) : Int)
 f2 : f.tmod 2 = 0
 o0 : 0 ≤ o
 o1 : o ≤ 15
structure Kw (nl : Nat) (a : Va) : Prop where
 act : Bd a = true
 n1 : a.1 ≠ 1
 n6 : a.1 ≠ 6
 n7 : a.1 ≠ 7
 n : a.1 ≠ 9 → a.2.2.2.1 < (nl : Int)
theorem LM {a b : Int} (ha : 0 ≤ a ∧ a ≤ 15) (hb : 0 ≤ b ∧ b ≤ 15) : 0 ≤ Cl .i64 a b ∧ Cl .i64 a b ≤ 15 := by
 obtain ⟨n, rfl⟩ := jv ha.1
 obtain ⟨m, rfl⟩ := jv hb.1
 exact (AC ⟨n, by omega⟩ ⟨m, by omega⟩).2
theorem AL {a b : Int} (ha : 0 ≤ a ∧ a ≤ 15) (hb : 0 ≤ b ∧ b ≤ 15) : 0 ≤ Pg .i64 a b ∧ Pg .i64 a b ≤ 15 := by
 obtain ⟨n, rfl⟩ := jv ha.1
 obtain ⟨m, rfl⟩ := jv hb.1
 exact (AC ⟨n, by omega⟩ ⟨m, by omega⟩).1
theorem NP {nl : Nat} (h : nl ≤ 4) : 2 ^ nl ≤ 16 := qj (n := 2) (by omega) h
theorem MM {nl : Nat} (hnl : nl ≤ 4) {f o : Int} {c : Bool} {a : Va} (hs : Oh nl f o) (ha : Kw nl a) :
 Oh nl (Rs f o c a).1 (Rs f o c a).2.1 ∧ Kw nl (Rs f o c a).2.2.2 := by
 have hP := ha.act
 rw [Wa] at hP
 unfold Lb at hP
 have h16 := NP hnl
 obtain ⟨k, code, mods, n, u⟩ := a
 have hn1 := ha.n1; have hn6 := ha.n6; have hn7 := ha.n7; have hnn := ha.n
 simp only at hP hn1 hn6 hn7 hnn
 have hf1 := hs.f1
 unfold Rs
 simp only
 by_cases h2 : k = 2
 ·subst h2
  by_cases h0 : code = 0
  ·subst h0; exact ⟨hs, ha⟩
  ·rw [show ((2 : Int) == 2) = true from rfl, show (code == 0) = false by simp [h0]]
   simp only [cond_true, cond_false]
   refine ⟨⟨hs.f0, hs.f1, hs.f2, by decide, by decide⟩, ?_⟩
   have hm := LM (a := mods) (b := o) (by omega) ⟨hs.o0, hs.o1⟩
   refine ⟨?_, hn1, hn6, hn7, hnn⟩
   have hn0 : n = 0 := by omega
   have hcd : 1 ≤ code ∧ code ≤ 56 := by omega
   rw [Wa]
   cases ((c && Sw code) && (decide (code ≤ 26) && (Pg .i64 (Cl .i64 mods o) 2 == 0))) with
   | true => exact .inr (.inl ⟨rfl, hn0, .inr hcd, .inr ⟨by show (1 : Int) ≤ 2; decide, by show (2 : Int) ≤ 15; decide⟩, .inl (by show code ≠ 0; omega)⟩)
   | false =>
    refine .inr (.inl ⟨rfl, hn0, .inr hcd, ?_, .inl (by show code ≠ 0; omega)⟩)
    show Cl .i64 mods o = 0 ∨ 1 ≤ Cl .i64 mods o ∧ Cl .i64 mods o ≤ 15
    omega
 ·rw [show (k == 2) = false by simp [h2]]
  simp only [cond_false]
  by_cases h4 : k = 4
  ·subst h4
   have hr : 1 ≤ n ∧ n ≤ 3 := by omega
   have hlt := hnn (by omega)
   obtain ⟨fn, hfn⟩ := jv hs.f0
   obtain ⟨nn, hnn'⟩ := jv (show 0 ≤ n by omega)
   have hf2 := hs.f2
   rw [hfn] at hf1 hf2
   have hfl : fn < 2 ^ nl := Int.ofNat_lt.1 hf1
   have := BJ ⟨fn, by omega⟩ ⟨nn, by omega⟩ ⟨nl, by omega⟩ (by show 1 ≤ nn; omega) (by show nn < nl; omega) hfl (by
    rw [Int.tmod_eq_emod_of_nonneg (by omega)] at hf2; show fn % 2 = 0; omega)
   simp only [show ((4 : Int) == 4) = true from rfl, cond_true]
   rw [hfn, hnn']
   exact ⟨⟨this.1, this.2.1, this.2.2, hs.o0, hs.o1⟩, by rw [← hnn']; exact ha⟩
  ·rw [show (k == 4) = false by simp [h4]]
   simp only [cond_false]
   by_cases h5 : k = 5
   ·subst h5
    have hr : 0 ≤ n ∧ n ≤ 3 := by omega
    have hlt := hnn (by omega)
    obtain ⟨nn, hnn'⟩ := jv (show 0 ≤ n by omega)
    have := XJ ⟨nn, by omega⟩ ⟨nl, by omega⟩ (by show nn < nl; omega)
    simp only [show ((5 : Int) == 5) = true from rfl, cond_true]
    rw [hnn']
    exact ⟨⟨this.1, this.2.1, this.2.2, hs.o0, hs.o1⟩, by rw [← hnn']; exact ha⟩
   ·rw [show (k == 5) = false by simp [h5]]
    simp only [cond_false]
    by_cases h8 : k = 8
    ·subst h8
     have hm : 0 ≤ mods ∧ mods ≤ 15 := by omega
     simp only [show ((8 : Int) == 8) = true from rfl, cond_true]
     cases Np .i64 o mods == mods with
     | true => have := AL ⟨hs.o0, hs.o1⟩ hm; exact ⟨⟨hs.f0, hs.f1, hs.f2, this.1, this.2⟩, ha⟩
     | false => have := LM ⟨hs.o0, hs.o1⟩ hm; exact ⟨⟨hs.f0, hs.f1, hs.f2, this.1, this.2⟩, ha⟩
    ·rw [show (k == 8) = false by simp [h8]]
     simp only [cond_false]
     cases k == 10 <;> exact ⟨hs, ha⟩
theorem LF {m : Ha} (hm : Rk m) (on : Int) {k : Nat} (hk : (k : Int) < m.1) : Qe m.2.1.length (Ud m on k) (Lf m.2.1 (Ud m on k) k) = true ∧ (Lf m.2.1 (Ud m on k) k).1 ≠ 1 := by
 have hl := Vm hm on k
 have hrow := hm.row _ hl
 have hk' : k < m.2.1[Ud m on k].length := by omega
 have hact := hm.act _ hl k hk'
 rw [Yl hl hk']
 refine ⟨hact, ?_⟩
 have key : ∀ n, Ac m.2.1 on k n = 0 ∨ (Lf m.2.1 (Ac m.2.1 on k n) k).1 ≠ 1 := by
  intro n
  induction n with
  | zero => exact .inl rfl
  | succ n ih =>
   simp only [Ac]
   cases hc : ((Sk on ((n + 1 : Nat) : Int) == 1) && ((Lf m.2.1 (n + 1) k).1 != 1)) with
   | true =>
    simp only [jd, bne_iff_ne] at hc
    exact .inr hc.2
   | false => exact ih
 rcases key (m.2.1.length - 1) with h0 | h1
 ·have h0' : Ud m on k = 0 := h0
  intro h1
  simp only [Qe, jd, Bool.not_eq_true', Bool.and_eq_false_iff, beq_eq_false_iff_ne] at hact
  rcases hact.1.2 with h2 | h2
  ·exact h2 (by rw [h0']; rfl)
  ·exact h2 h1
 ·have e : Lf m.2.1 (Ac m.2.1 on k (m.2.1.length - 1)) k = m.2.1[Ud m on k][k] := Yl hl hk'
  rw [e] at h1
  exact h1
theorem VJ {nl i : Nat} {a : Va} (h : Qe nl i a = true) (h1 : a.1 ≠ 1) : Kw nl (Us a) := by
 have ha := Ho h
 have hP := ha
 rw [Wa] at hP
 unfold Lb at hP
 unfold Us Nn
 rw [ha]
 by_cases h67 : a.1 = 6 ∨ a.1 = 7
 ·have e : (true && ((a.1 == 6) || (a.1 == 7))) = true := by rcases h67 with h | h <;> rw [h] <;> rfl
  rw [e]
  simp only [cond_true]
  refine ⟨?_, by show (2 : Int) ≠ 1; decide, by show (2 : Int) ≠ 6; decide, by show (2 : Int) ≠ 7; decide, fun _ => ?_⟩
  ·rw [Wa]
   exact .inr (.inl ⟨rfl, rfl, .inr (by show 1 ≤ a.2.1 ∧ a.2.1 ≤ 56; omega), .inl rfl, .inl (by show a.2.1 ≠ 0; omega)⟩)
  ·show (0 : Int) < (nl : Int)
   have := Ww h (by omega)
   omega
 ·have e : (true && ((a.1 == 6) || (a.1 == 7))) = false := by
   rw [jk, Bool.or_eq_false_iff, beq_eq_false_iff_ne, beq_eq_false_iff_ne]; omega
  rw [e]
  exact ⟨ha, h1, fun h => h67 (.inl h), fun h => h67 (.inr h), fun hk => Ww h hk⟩
theorem CJ {nl : Nat} {k : Nat} (hk : k ≤ 31) {a : Va} (ha : Kw nl a) : RB [((k : Int), a, ())] = true := by
 have e : Xw 0 ((k : Int), a, ()) = true := by
  simp only [Xw, ha.act, jk]
  rw [Sa (show 0 ≤ (k : Int) ∧ (k : Int) ≤ 31 by omega)]
  have hb : (Sk 0 (k : Int) == 1) = false := by
   have := ZG (a := 0) (k := k) (by decide) (by omega)
   rw [Nat.zero_testBit] at this
   exact this
  rw [hb]
  simp [ha.n1, ha.n6, ha.n7]
 show IL (Nv _ 0 0 [_]) = true
 simp only [Nv, QI, e, cond_true, IL]
noncomputable def VG (m : Ha) (f : Int) (k : Nat) : Va := Us (Lf m.2.1 (Ud m (Cl .i64 1 f) k) k)
noncomputable def Cy (m : Ha) (f o : Int) (c : Bool) (k : Nat) : Int × Int × Bool × Va := Rs f o c (VG m f k)
noncomputable def hK (m : Ha) (f o : Int) (c : Bool) (k : Nat) : List Ph := [((k : Int), (Cy m f o c k).2.2.2, ())]
structure Lg (m : Ha) : Prop where
 v : Cd m = true
 z : Za Ra m ≤ Yb - 10
theorem GJ {m : Ha} (hM : Lg m) {f o : Int} {c : Bool} (hs : Oh m.2.1.length f o) {k : Nat} (hk : (k : Int) < m.1) :
 Kw m.2.1.length (VG m f k) ∧ Oh m.2.1.length (Cy m f o c k).1 (Cy m f o c k).2.1 ∧ Kw m.2.1.length (Cy m f o c k).2.2.2 ∧ RB (hK m f o c k) = true ∧
  (∀ x ∈ hK m f o c k, QB m.1 m.2.1.length x = true) := by
 have hm := Yd hM.v
 have h1 := LF hm (Cl .i64 1 f) hk
 have h2 := VJ h1.1 h1.2
 have h3 := MM (c := c) hm.l2 hs h2
 refine ⟨h2, h3.1, h3.2, CJ (by have := hm.k2; omega) h3.2, fun x hx => ?_⟩
 simp only [hK, jp, List.not_mem_nil, or_false] at hx
 subst hx
 simp only [QB, jd, Bool.not_eq_true', Bool.and_eq_false_iff, decide_eq_false_iff_not]
 refine ⟨by omega, ?_⟩
 by_cases h9 : (Cy m f o c k).2.2.2.1 = 9
 ·exact .inl (by show ((Cy m f o c k).2.2.2.1 != 9) = false; simp [h9])
 ·exact .inr (Int.not_le.2 (h3.2.n h9))
theorem FA {m : Ha} (hv : Cd m = true) : Lg m := by
 have hm := Yd hv
 refine ⟨hv, ?_⟩
 have h20 : Yb = 1048576 := rfl
 have h1 : Za Ra m = 0 + (Za (.sl (.sl Pa)) m.2.1 + 0) := rfl
 have h2 : Za (.sl (.sl Pa)) m.2.1 ≤ (32 + 1) * ja m.2.1 := SI (e := .sl Pa) (c := 32) fun x hx => by
  obtain ⟨i, hi, rfl⟩ := ql hx
  rw [NM]
  have := hm.row i hi
  have := hm.k2
  omega
 have := hm.l2
 omega
abbrev St := (Int × Int × Bool) × List Lw
structure PR (m : Ha) (k : Nat) (s : St) : Prop where
 st : Oh m.2.1.length s.1.1 s.1.2.1
 len : s.2.length ≤ 2 * k
 rep : ∀ x ∈ s.2, x.2.1.length ≤ 56


structure OR (l : List Gk) (k : Nat) (s : List Lw × List Ph) : Prop where
 ok : ∃ L', Nv (fun _ L x => LP L x) k s.2 (l.drop k) = .inl L'
 len : s.2.length ≤ k
 out : s.1.length ≤ 2 * k
 cod : ∀ h ∈ s.2, 0 ≤ h.2.1.2.1 ∧ h.2.1.2.1 ≤ 56
theorem Da {n m : Nat} (h : n ≤ 1000) (hm : m ≤ 10) : jx (n + m) Ag = true := ji (by rw [DA]; omega)


theorem IA : ∀ (n : Nat) (l : List Nat), l.Nodup → (∀ x ∈ l, x < n) → l.length ≤ n
 | 0, l, _, h => by
  cases l with
  | nil => exact jo _
  | cons x l => exact absurd (h x (qp ..)) (Nat.not_lt_zero _)
 | n + 1, l, hn, h => by
  have := IA n (l.erase n) (hn.erase n) (fun x hx => by
   have h1 := (hn.mem_erase_iff).1 hx
   have := h x h1.2
   have := h1.1
   omega)
  have h2 := List.length_erase (a := n) (l := l)
  split at h2 <;> omega
abbrev Dd := List (Int × List Int)
theorem Lu {α : Type} : ∀ {W : List (Int × α)} {x : Int} {w : α}, Bc W x = some w → (x, w) ∈ W
 | [], x, w, h => by simp [Bc] at h
 | (k, y) :: r, x, w, h => by
  simp only [Bc] at h
  cases hk : x == k with
  | true => rw [hk] at h; simp at h hk; subst h; subst hk; simp
  | false => rw [hk] at h; exact jr _ (Lu h)
theorem Tx {α : Type} : ∀ {W : List (Int × α)} {x : Int}, Bc W x = none ↔ ∀ e ∈ W, e.1 ≠ x
 | [], x => by simp [Bc]
 | (k, y) :: r, x => by
  simp only [Bc]
  cases hk : x == k with
  | true => simp at hk; subst hk; simp
  | false =>
   simp at hk
   simp only [cond_false, Tx (W := r), List.forall_mem_cons]
   exact ⟨fun h => ⟨fun e => hk e.symm, h⟩, fun h => h.2⟩
theorem WB {α : Type} : ∀ {W : List (Int × α)} {x : Int} {w : α}, (W.map Prod.fst).Nodup → (x, w) ∈ W → Bc W x = some w
 | [], x, w, _, h => by simp at h
 | (k, y) :: r, x, w, hn, h => by
  simp only [List.map_cons, List.nodup_cons] at hn
  simp only [Bc]
  rcases jp.1 h with h | h
  ·simp only [jh] at h
   rw [h.1, h.2]; simp
  ·have : x ≠ k := fun e => hn.1 (qm.2 ⟨(x, w), h, e⟩)
   rw [show (x == k) = false by simpa using this]
   exact WB hn.2 h
theorem Vx {α : Type} : ∀ {W : List (Int × α)} {x : Int} (y : α), Bc W x = none → Vl W x y = W ++ [(x, y)]
 | [], x, y, _ => rfl
 | (k, z) :: r, x, y, h => by
  simp only [Bc] at h
  simp only [Vl]
  cases hk : x == k with
  | true => rw [hk] at h; simp at h
  | false => rw [hk] at h; simp only [cond_false] at h ⊢; rw [Vx y h]; rfl
section
variable (nx : Int → Nat → Int) (K : Nat) (fr : Int) (P : Int → Prop)
def Lp (x : Int) (w : List Int) (k : Nat) (W : Dd) : Dd := cond (Bc W (nx x k)).isSome W (W ++ [(nx x k, w ++ [(k : Int)])])
def Ch (x : Int) (w : List Int) (n : Nat) (W : Dd) : Dd := Zi (Lp nx x w) n W
def Vr : Nat → Nat → Dd → Dd
 | 0, _, W => W
 | n + 1, i, W => match W[i]? with
  | none => W
  | some e => Vr n (i + 1) (Ch nx e.1 e.2 K W)
def Bz (f : Int) (w : List Int) : Int := w.foldl (fun f k => nx f k.toNat) f
structure BIn (W : Dd) : Prop where
 fst : W[0]? = some (fr, [])
 nd : (W.map Prod.fst).Nodup
 ok : ∀ e ∈ W, P e.1
 way : ∀ e ∈ W, Bz nx fr e.2 = e.1 ∧ ∀ k ∈ e.2, 0 ≤ k ∧ k < (K : Int)
 srt : ∀ (i j : Nat) (hj : j < W.length) (hi : i ≤ j), (W[i]'(by omega)).2.length ≤ W[j].2.length
 ln : ∀ (j : Nat) (hj : j < W.length), W[j].2.length ≤ j
structure Jx (i k : Nat) (W : Dd) : Prop extends BIn nx K fr P W where
 lvl : ∀ (h : i < W.length) (j : Nat) (hj : j < W.length), W[j].2.length ≤ W[i].2.length + 1
 cls : ∀ (j : Nat) (hj : j < W.length) (k' : Nat), j < i ∧ k' < K ∨ j = i ∧ k' < k → ∃ (q : Nat) (hq : q < W.length), W[q].1 = nx W[j].1 k' ∧ W[q].2.length ≤ W[j].2.length + 1
end
section
variable {nx : Int → Nat → Int} {K : Nat} {fr : Int} {P : Int → Prop}
theorem BD (f : Int) (w : List Int) (k : Nat) : Bz nx f (w ++ [(k : Int)]) = nx (Bz nx f w) k := by simp [Bz]
theorem ZK (hP : ∀ x k, P x → k < K → P (nx x k)) {i k : Nat} {W : Dd} (h : Jx nx K fr P i k W) (hi : i < W.length) (hk : k < K) : Jx nx K fr P i (k + 1) (Lp nx W[i].1 W[i].2 k W) ∧ W <+: Lp nx W[i].1 W[i].2 k W := by
 unfold Lp
 cases hg : Bc W (nx W[i].1 k) with
 | some w =>
  simp only [Option.isSome_some, cond_true]
  refine ⟨{ toBIn := h.toBIn, lvl := h.lvl, cls := fun j hj k' hjk => ?_ }, List.prefix_refl _⟩
  by_cases hlast : j = i ∧ k' = k
  ·obtain ⟨rfl, rfl⟩ := hlast
   obtain ⟨q, hq, he⟩ := ql (Lu hg)
   refine ⟨q, hq, by rw [he], ?_⟩
   exact h.lvl hj q hq
  ·exact h.cls j hj k' (by omega)
 | none =>
  simp only [Option.isSome_none, cond_false]
  have hlen : (W ++ [(nx W[i].1 k, W[i].2 ++ [(k : Int)])]).length = W.length + 1 := by simp
  have hget : ∀ (j : Nat) (hj : j < W.length), (W ++ [(nx W[i].1 k, W[i].2 ++ [(k : Int)])])[j]'(by omega) = W[j] := fun j hj => List.getElem_append_left hj
  have hnew : (W ++ [(nx W[i].1 k, W[i].2 ++ [(k : Int)])])[W.length]'(by omega) = (nx W[i].1 k, W[i].2 ++ [(k : Int)]) := by simp
  have hcase : ∀ j : Nat, j < (W ++ [(nx W[i].1 k, W[i].2 ++ [(k : Int)])]).length → j < W.length ∨ j = W.length := fun j hj => by omega
  have hw := h.way W[i] (qk hi)
  refine ⟨{ fst := ?_, nd := ?_, ok := ?_, way := ?_, srt := ?_, ln := ?_, lvl := ?_, cls := ?_ }, List.prefix_append _ _⟩
  ·have h0 := h.fst
   rw [qe (by omega)]
   exact h0
  ·rw [List.map_append, List.nodup_append]
   refine ⟨h.nd, by simp, ?_⟩
   intro a ha b hb
   simp only [List.map_cons, List.map_nil, qb] at hb
   subst hb
   obtain ⟨e, he, rfl⟩ := qm.1 ha
   exact Tx.1 hg e he
  ·intro e he
   rcases jl.1 he with he | he
   ·exact h.ok e he
   ·simp only [qb] at he
    subst he
    exact hP _ _ (h.ok _ (qk hi)) hk
  ·intro e he
   rcases jl.1 he with he | he
   ·exact h.way e he
   ·simp only [qb] at he
    subst he
    refine ⟨by rw [BD, hw.1], fun q hq => ?_⟩
    rcases jl.1 hq with hq | hq
    ·exact hw.2 q hq
    ·simp only [qb] at hq
     subst hq
     omega
  ·intro a b hb hab
   rcases hcase b hb with hb' | rfl
   ·rw [hget a (by omega), hget b hb']
    exact h.srt a b hb' hab
   ·rcases hcase a (by omega) with ha | rfl
    ·rw [hget a ha, hnew]
     have := h.lvl hi a ha
     simpa using this
    ·exact jo _
  ·intro j hj
   rcases hcase j hj with hj' | rfl
   ·rw [hget j hj']; exact h.ln j hj'
   ·rw [hnew]
    have := h.ln i hi
    simp
    omega
  ·intro _ j hj
   rw [hget i hi]
   rcases hcase j hj with hj' | rfl
   ·rw [hget j hj']; exact h.lvl hi j hj'
   ·rw [hnew]; simp
  ·intro j hj k' hjk
   have hj' : j < W.length := by omega
   rw [hget j hj']
   by_cases hlast : j = i ∧ k' = k
   ·obtain ⟨rfl, rfl⟩ := hlast
    exact ⟨W.length, by omega, by rw [hnew], by rw [hnew]; simp⟩
   ·obtain ⟨q, hq, h1, h2⟩ := h.cls j hj' k' (by omega)
    exact ⟨q, by omega, by rw [hget q hq]; exact h1, by rw [hget q hq]; exact h2⟩
theorem Bs (hP : ∀ x k, P x → k < K → P (nx x k)) {i : Nat} {W : Dd} (h : Jx nx K fr P i 0 W) (hi : i < W.length) : ∀ n, n ≤ K → Jx nx K fr P i n (Ch nx W[i].1 W[i].2 n W) ∧ W <+: Ch nx W[i].1 W[i].2 n W
 | 0, _ => ⟨h, List.prefix_refl _⟩
 | n + 1, hn => by
  obtain ⟨h1, h2⟩ := Bs hP h hi n (by omega)
  have hi' : i < (Ch nx W[i].1 W[i].2 n W).length := qi hi h2.length_le
  have he : (Ch nx W[i].1 W[i].2 n W)[i] = W[i] := by
   obtain ⟨t, ht⟩ := h2
   have : (W ++ t)[i]? = some W[i] := by rw [qe hi, je hi]
   rw [ht, je hi'] at this
   exact Option.some.inj this
  obtain ⟨g1, g2⟩ := ZK hP h1 hi' (by omega)
  rw [he] at g1 g2
  exact ⟨g1, h2.trans g2⟩
theorem ZB {i : Nat} {W : Dd} (h : Jx nx K fr P i K W) (hi : i < W.length) : Jx nx K fr P (i + 1) 0 W where
 toBIn := h.toBIn
 lvl := fun h1 j hj => by
  have := h.lvl hi j hj
  have := h.srt i (i + 1) h1 (by omega)
  omega
 cls := fun j hj k' hjk => h.cls j hj k' (by omega)
structure NR (nx : Int → Nat → Int) (K : Nat) (fr : Int) (P : Int → Prop) (W : Dd) : Prop extends BIn nx K fr P W where
 len : W.length ≤ 16
 cls : ∀ e ∈ W, ∀ k, k < K → ∃ e' ∈ W, e'.1 = nx e.1 k ∧ e'.2.length ≤ e.2.length + 1
theorem Wp (hB : ∀ x, P x → 0 ≤ x ∧ x < 16) {W : Dd} (h : BIn nx K fr P W) : W.length ≤ 16 := by
 have hn : (W.map fun e => e.1.toNat).Nodup := by
  have := h.nd
  rw [List.Nodup, List.pairwise_map] at this ⊢
  refine (List.Pairwise.and_mem.1 this).imp ?_
  rintro x y ⟨hx, hy, hxy⟩ he
  have h1 := hB _ (h.ok x hx); have h2 := hB _ (h.ok y hy)
  omega
 have := IA 16 _ hn (by
  intro y hy
  obtain ⟨x, hx, rfl⟩ := qm.1 hy
  have := hB _ (h.ok x hx)
  omega)
 simpa using this
theorem RA (h : P fr) : Jx nx K fr P 0 0 [(fr, [])] where
 fst := rfl
 nd := by simp
 ok := fun e he => by simp at he; subst he; exact h
 way := fun e he => by simp at he; subst he; exact ⟨rfl, by simp⟩
 srt := fun i j hj hi => by
  have : j = 0 := by simpa using hj
  have : i = 0 := by omega
  subst i; subst j; exact jo _
 ln := fun j hj => by
  have : j = 0 := by simpa using hj
  subst j; simp
 lvl := fun _ j hj => by
  have : j = 0 := by simpa using hj
  subst j; simp
 cls := fun j hj k' h => by omega
end
def Xe (m : Ha) (f : Int) (k : Nat) : Int := Ll f (Lf m.2.1 (Ud m f k) k)
theorem VF (f o : Int) (c : Bool) (a : Va) (ha : Bd a = true) : (Rs f o c (Us a)).1 = Ll f a := by
 have h0 : ∀ b : Va, (Rs f o c b).1 = Ll f b := fun b => by
  unfold Rs Ll
  by_cases h2 : b.1 = 2
  ·simp only [h2, Int.reduceBEq, cond_true, cond_false]
   cases b.2.1 == 0 <;> simp only [cond_true, cond_false]
  ·simp only [show (b.1 == 2) = false by simpa using h2, cond_false]
   generalize Pp .i64 f (Zf .i64 1 b.2.2.2.1) = X
   generalize Pg .i64 (Zf .i64 1 b.2.2.2.1) 1 = Y
   cases b.1 == 4 with
   | true => simp only [cond_true]
   | false =>
    simp only [cond_false]
    cases b.1 == 5 with
    | true => simp only [cond_true]
    | false =>
     simp only [cond_false]
     cases b.1 == 8 with
     | true => simp only [cond_true]
     | false =>
      simp only [cond_false]
      cases b.1 == 10 <;> simp only [cond_true, cond_false]
 rw [h0]
 unfold Us
 cases ht : Nn a with
 | false => rfl
 | true =>
  unfold Nn at ht
  simp only [jd, Bool.or_eq_true, beq_iff_eq] at ht
  rw [cond_true]
  unfold Ll
  rcases ht.2 with h | h <;> simp only [h, Int.reduceBEq, cond_false]
theorem FM {m : Ha} (hM : Lg m) {f o : Int} (hs : Oh m.2.1.length f o) (c : Bool) {k : Nat} (hk : (k : Int) < m.1) : (Cy m f o c k).1 = Xe m f k := by
 have hm := Yd hM.v
 have hl2 := hm.l2
 have hf1 := hs.f1
 have hp : 2 ^ m.2.1.length ≤ 2 ^ 4 := qj (by omega) hl2
 have hsame : Ud m (Cl .i64 1 f) k = Ud m f k := Qp _ fun j hj => Lv hs.f0 (by omega) hs.f2 j (by omega)
 have hl := Vm hm f k
 have hrow := hm.row _ hl
 have hact := hm.act _ hl k (by omega)
 rw [← Yl hl (by omega)] at hact
 unfold Cy VG Xe
 rw [hsame]
 exact VF f o c _ (Ho hact)
theorem ZM {m : Ha} (hM : Lg m) {f : Int} {k : Nat} (hs : Oh m.2.1.length f 0) (hk : (k : Int) < m.1) : Oh m.2.1.length (Xe m f k) 0 := by
 have h1 := (GJ (c := false) hM hs hk).2.1
 rw [FM hM hs false hk] at h1
 exact ⟨h1.f0, h1.f1, h1.f2, by omega, by omega⟩
theorem Pn {m : Ha} (hM : Lg m) {x : Int} (hs : Oh m.2.1.length x 0) : 0 ≤ x ∧ x < 16 := by
 have hl2 := (Yd hM.v).l2
 have hf1 := hs.f1
 have hp : 2 ^ m.2.1.length ≤ 2 ^ 4 := qj (by omega) hl2
 exact ⟨hs.f0, by omega⟩
def Wd (m : Ha) : Nat := m.1.toNat
def Vg (m : Ha) (fr : Int) : Dd := Vr (Xe m) (Wd m) 17 0 [(fr, [])]
abbrev BT (m : Ha) (fr : Int) := Jx (Xe m) (Wd m) fr (fun x => Oh m.2.1.length x 0)
theorem Ou {m : Ha} (hM : Lg m) : (Wd m : Int) = m.1 ∧ Wd m ≤ 32 := by
 have hm := Yd hM.v
 have := hm.k1
 have := hm.k2
 unfold Wd
 omega
theorem LE {m : Ha} (hM : Lg m) : ∀ x k, Oh m.2.1.length x 0 → k < Wd m → Oh m.2.1.length (Xe m x k) 0 := fun x k hx hk => ZM hM hx (by have := Ou hM; omega)
theorem BL {m : Ha} {fr : Int} {W W' : Dd} {i k : Nat} (h : BT m fr i k W') (hi : i < W.length) (hp : W <+: W') : Bc W' W[i].1 = some W[i].2 :=
 WB h.nd (hp.subset (qk hi))
theorem MB {m : Ha} (hM : Lg m) {fr : Int} {i k : Nat} {W : Dd} (h : BT m fr i k W) {x : Int} {w : List Int} (hx : Bc W x = some w) : w.length ≤ 16 := by
 obtain ⟨j, hj, he⟩ := ql (Lu hx)
 have h1 := h.ln j hj
 rw [he] at h1
 have := Wp (fun x hx => Pn hM hx) h.toBIn
 simp only at h1
 omega
def De (i : Nat) (W : Dd) : List Int := (W.map Prod.fst).drop i
theorem BG {i : Nat} {W : Dd} (x : Int) (w : List Int) (h : i ≤ W.length) : De i (W ++ [(x, w)]) = De i W ++ [x] := by
 unfold De
 rw [List.map_append, List.drop_append_of_le_length (by simpa using h)]
 rfl
theorem Fv (i : Nat) (W : Dd) : (De i W).length = W.length - i := by simp [De]
theorem Rv {l : List Int} (h : l.length ≤ 1000) : Ik l = some (l, ()) := by
 unfold Ik
 rw [Wm (by simp; omega)]
 rfl
theorem Yz {m : Ha} (hM : Lg m) {fr : Int} {i : Nat} {W : Dd} (h : BT m fr i 0 W) (hi : i < W.length) :
 Th (((), W, De (i + 1) W, W[i].1, m.1, (0 : Int), ()), (m, ())) = some (.inl (((), Ch (Xe m) W[i].1 W[i].2 (Wd m) W, De (i + 1) (Ch (Xe m) W[i].1 W[i].2 (Wd m) W), ()), (m, ()))) := by
 have hm := Yd hM.v
 obtain ⟨k1, k2⟩ := Ou hM
 have hl := Om (step := fun x : (Unit × Dd × List Int × Int × Int × Int × Unit) × Ha × Unit => Jk x.1.1 x.1.2.1 x.1.2.2.1 x.1.2.2.2.1 x.1.2.2.2.2.1 x.1.2.2.2.2.2.1 x.2.1) (Wd m) (by omega)
  (Lp (Xe m) W[i].1 W[i].2) W (fun W' k => (((), W', De (i + 1) W', W[i].1, m.1, k, ()), (m, ()))) (fun W' => .inl (((), W', De (i + 1) W', ()), (m, ()))) (by
   intro k hk
   obtain ⟨g1, g2⟩ := Bs (LE hM) h hi k (by omega)
   have hgt := BL g1 hi g2
   have hln := MB hM g1 hgt
   have hlen := Wp (fun x hx => Pn hM hx) g1.toBIn
   have hle := g2.length_le
   have htl := Fv (i + 1) (Ch (Xe m) W[i].1 W[i].2 k W)
   have hit : Zi (Lp (Xe m) W[i].1 W[i].2) k W = Ch (Xe m) W[i].1 W[i].2 k W := rfl
   rw [hit]
   generalize hW' : Ch (Xe m) W[i].1 W[i].2 k W = W' at hgt hlen hle htl g1
   simp only [Jk]
   rw [Sa (by omega), Um hm W[i].1 (by omega)]
   simp only [cond_true, jb]
   rw [show Ll W[i].1 (Lf m.2.1 (Ud m W[i].1 k) k) = Xe m W[i].1 k from rfl]
   unfold Lp
   cases hg : Bc W' (Xe m W[i].1 k) with
   | some w => rfl
   | none =>
    simp only [Option.isSome_none, Bool.not_false, cond_true, cond_false]
    rw [hgt]
    simp only [Option.getD_some]
    rw [Rv (by omega)]
    simp only [jb]
    rw [Wm (by simp; omega), Wm (by rw [htl]; simp; omega), Vx _ hg, BG _ _ (by omega)]
    rfl) (by
   simp only [Jk]
   rw [Vb (by omega)]; rfl)
 unfold Th
 exact hl
theorem AG {i : Nat} {W : Dd} (h : i < W.length) : De i W = W[i].1 :: De (i + 1) W := by
 unfold De
 rw [List.drop_eq_getElem_cons (by simpa using h)]
 simp
theorem Jr {m : Ha} (hM : Lg m) {fr : Int} : ∀ (n i : Nat) (W : Dd), BT m fr i 0 W → 17 ≤ n + i →
 Yf (((), W, De i W, ()), (m, ())) = some (.inl ((Vr (Xe m) (Wd m) n i W, ()), ()))
 | n, i, W, h, hn => by
  have hlen := Wp (fun x hx => Pn hM hx) h.toBIn
  by_cases hi : i < W.length
  ·obtain ⟨n', rfl⟩ : ∃ n', n = n' + 1 := ⟨n - 1, by omega⟩
   obtain ⟨h1, h2⟩ := Bs (LE hM) h hi (Wd m) (jo _)
   have ih := Jr hM n' (i + 1) _ (ZB h1 (qi hi h2.length_le)) (by omega)
   unfold Yf at ih ⊢
   rw [Vr, je hi]
   simp only
   refine (He (z := some (Sum.inl (((), Ch (Xe m) W[i].1 W[i].2 (Wd m) W, De (i + 1) (Ch (Xe m) W[i].1 W[i].2 (Wd m) W), ()), (m, ())))) ?_).trans ih
   have htl := Fv i W
   have hcons := AG hi
   have hl1 : (De i W).length = (De (i + 1) W).length + 1 := by rw [hcons]; simp
   simp only [Fn]
   rw [Sa (by omega), show Rg (De i W).length 0 = true by rw [show (0 : Int) = ((0 : Nat) : Int) from rfl, Eh]; simp; omega]
   simp only [cond_true]
   rw [show (De i W)[jy 0]? = some W[i].1 by rw [hcons]; rfl]
   simp only [jb]
   rw [show Ye (De i W).length 1 (((De i W).length : Nat) : Int) = true from EE (lo := 1) (by omega) (jo _)]
   simp only [cond_true, jb]
   rw [show Td (De i W) (jy 1) (jy (((De i W).length : Nat) : Int)) = De (i + 1) W by
    rw [jn, show jy 1 = 1 from rfl, hcons]
    unfold Td
    rw [List.take_length]; rfl]
   rw [Yz hM h hi]
   rfl
  ·have hb : Vr (Xe m) (Wd m) n i W = W := by
    cases n with
    | zero => rfl
    | succ n => rw [Vr, List.getElem?_eq_none (by omega)]
   rw [hb]
   unfold Yf
   refine (He (z := some (Sum.inr (.inl ((W, ()), ())))) ?_).trans rfl
   have htl := Fv i W
   simp only [Fn]
   rw [Vb (by omega)]; rfl
theorem Zz {m : Ha} (hM : Lg m) {fr : Int} (h : Oh m.2.1.length fr 0) : Xo m fr = some (Vg m fr, ()) := by
 have := Jr hM 17 0 [(fr, [])] (RA h) (by omega)
 unfold Xo
 rw [show Vl ([] : List (Int × List Int)) fr ([] : List Int) = [(fr, [])] from rfl]
 rw [show ([fr] : List Int) = De 0 [(fr, [])] from rfl, this]
 rfl
theorem Tq {m : Ha} (hv : Cd m = true) {f : Int} (h : Oh m.2.1.length f 0) : Gd m f = some (true, ()) ∧ Dg m f = some (true, ()) := by
 have hM := FA hv
 have hz := hM.z
 have hl := Yd hv
 have hl2 := hl.l2
 have hp : 1 ≤ 2 ^ m.2.1.length ∧ 2 ^ m.2.1.length ≤ 2 ^ 4 := ⟨Nat.one_le_two_pow, qj (by omega) hl2⟩
 have f0 := h.f0; have f1 := h.f1; have f2 := h.f2
 unfold Gd Dg
 rw [Sh m (by omega), Yk m (by omega), hv]
 simp only [jb, cond_true, Eg]
 rw [Kt (by omega), Sa (show (0 : Int) ≤ (m.2.1.length : Int) by omega), Sa (show f ≥ 0 by omega), show ((2 : Int) == 0) = false from rfl, show (f.tmod 2 == 0) = true by simpa using f2]
 simp only [cond_true, cond_false]
 rw [Lh (by omega) (by omega), Sa (show f < ((2 ^ m.2.1.length : Nat) : Int) from f1), Sa (show 0 ≤ f ∧ f ≤ ((2 ^ m.2.1.length : Nat) : Int) - 1 by omega)]
 exact ⟨rfl, rfl⟩
theorem HH {m : Ha} (hz : Za Ra m ≤ Yb) {f : Int} (h : Gd m f = some (true, ())) : Cd m = true ∧ Oh m.2.1.length f 0 := by
 obtain ⟨hv, f0, _, f2⟩ := AB hz h rfl
 refine ⟨hv, f0, ?_, f2, by omega, by omega⟩
 have hl := Yd hv
 have hl2 := hl.l2
 unfold Gd at h
 rw [Sh m hz, hv] at h
 simp only [jb, cond_true, show ((2 : Int) == 0) = false from rfl, cond_false] at h
 rw [Sa (show f ≥ 0 by omega), show (f.tmod 2 == 0) = true by simpa using f2, Sa (show (0 : Int) ≤ (m.2.1.length : Int) by omega), Kt (by omega)] at h
 simpa using h
def Dk (W : Dd) (k : Nat) (o : List Int) : List Int := cond (Bc W ((k : Nat) : Int)).isSome (jf o [((k : Nat) : Int)]) o
def Bw (W : Dd) : List Int := Zi (Dk W) 16 []
theorem Fp (W : Dd) : ∀ n, (Zi (Dk W) n []).length ≤ n
 | 0 => jo _
 | n + 1 => by
  have ih := Fp W n
  show (cond (Bc W ((n : Nat) : Int)).isSome (jf (Zi (Dk W) n []) [((n : Nat) : Int)]) (Zi (Dk W) n [])).length ≤ n + 1
  cases (Bc W ((n : Nat) : Int)).isSome
  ·simp only [cond_false]; omega
  ·simp only [cond_true, List.append_eq, qc, List.length_singleton]; omega
theorem Qv {m : Ha} (hM : Lg m) {fr : Int} (h : Oh m.2.1.length fr 0) : Md m fr = some (Bw (Vg m fr), ()) := by
 have hl := Om (step := fun x : (Dd × List Int × Int × Unit) × Unit => Ze x.1.1 x.1.2.1 x.1.2.2.1) 16 (by omega) (Dk (Vg m fr)) [] (fun o k => ((Vg m fr, o, k, ()), ())) (fun o => .inl ((o, ()), ())) (by
  intro k hk
  have := Fp (Vg m fr) k
  simp only [Ze]
  rw [Sa (by omega), Wm (by simp; omega)]
  generalize Zi (Dk (Vg m fr)) k [] = o
  unfold Dk
  simp only [cond_true]
  cases (Bc (Vg m fr) ((k : Nat) : Int)).isSome <;> rfl) (by
  simp only [Ze]
  rw [Vb (by omega)]; rfl)
 unfold Md
 rw [(Tq hM.v h).1, Zz hM h]
 simp only [jb, jg, cond_false]
 unfold Xf
 erw [hl]
 rfl
theorem XG {m : Ha} (hM : Lg m) {f : Int} (h : Oh m.2.1.length f 0) {k : Nat} (hk : (k : Int) < m.1) : Oi m f (k : Int) = some (Xe m f k, ()) ∧ Uo m f (k : Int) = some (Xe m f k, ()) := by
 have hv := hM.v
 have hz := hM.z
 have hm := Yd hv
 have hk1 := hm.k1
 have hk2 := hm.k2
 have hl2 := hm.l2
 obtain ⟨i1, i2⟩ := Tq hv h
 obtain ⟨g0, g1⟩ := Pn hM h
 have hsame : Ud m (Cl .i64 1 f) k = Ud m f k := Qp _ fun j hj => Lv g0 g1 h.f2 j (by omega)
 have hl := Vm hm f k
 have hrow := hm.row _ hl
 have hact := hm.act _ hl k (by omega)
 rw [← Yl hl (by omega)] at hact
 constructor
 ·unfold Oi
  rw [i2]
  simp only [jb, jg, cond_false, Eg]
  rw [Lh (n := m.1 - 1) (by omega) (by omega), Sa (show (0 : Int) ≤ (k : Int) ∧ (k : Int) ≤ m.1 - 1 by omega), Xu (by omega) hv _ hk, hsame]
  simp only [jb, jg, cond_false]
  unfold Xe
  generalize Lf m.2.1 (Ud m f k) k = a at hact ⊢
  unfold Ll
  cases h4 : (a.1 == 4) with
  | true => rw [Sa (Zy hact (.inr (.inl (by simpa using h4)))).1]; rfl
  | false =>
   cases h5 : (a.1 == 5) with
   | true => rw [Sa (Zy hact (.inr (.inr (.inl (by simpa using h5))))).1]; rfl
   | false => rfl
 ·unfold Uo
  rw [i1]
  simp only [jb, jg, cond_false]
  rw [Vb (show ¬ (k : Int) < 0 by omega), Vb (show ¬ (k : Int) ≥ m.1 by omega), Um hm f hk]
  rfl
theorem Js {α : Type} : ∀ (W : List (Int × α)) (y : Int) (w : α) (x : Int), Bc W y = none → Bc (W ++ [(y, w)]) x = if x = y then some w else Bc W x
 | [], y, w, x, _ => by
  by_cases h : x = y
  ·subst h; simp [Bc]
  ·simp only [List.nil_append, Bc, if_neg h, show (x == y) = false by simpa using h, cond_false]
 | (k, z) :: r, y, w, x, hn => by
  simp only [Bc] at hn
  have hyk : (y == k) = false := by
   cases hk : y == k with
   | true => rw [hk] at hn; simp at hn
   | false => rfl
  rw [hyk] at hn
  simp only [cond_false] at hn
  simp only [List.cons_append, Bc]
  cases hx : x == k with
  | true =>
   have : x = k := by simpa using hx
   have hne : x ≠ y := fun e => by rw [← e, this] at hyk; simp at hyk
   simp [hne]
  | false => simp only [cond_false]; exact Js r y w x hn
def Hi (W : Dd) : List (List Int) := (List.range 16).map fun x => (Bc W ((x : Nat) : Int)).getD []
def Wi (W : Dd) : List Bool := (List.range 16).map fun x => (Bc W ((x : Nat) : Int)).isSome
theorem Bm (W : Dd) : (Hi W).length = 16 := by simp [Hi]
theorem Xi (W : Dd) : (Wi W).length = 16 := by simp [Wi]
theorem Am (W : Dd) {x : Nat} (h : x < 16) : (Hi W)[x]? = some ((Bc W ((x : Nat) : Int)).getD []) := by simp [Hi, List.getElem?_map, List.getElem?_range h]
theorem Zn (W : Dd) {x : Nat} (h : x < 16) : (Wi W)[x]? = some (Bc W ((x : Nat) : Int)).isSome := by simp [Wi, List.getElem?_map, List.getElem?_range h]
theorem ZD {W : Dd} {y : Nat} (hy : y < 16) (w : List Int) (hn : Bc W ((y : Nat) : Int) = none) : (Hi W).set y w = Hi (W ++ [((y : Int), w)]) := by
 apply List.ext_getElem?
 intro x
 by_cases hx : x < 16
 ·rw [Am _ hx, Js W (y : Int) w _ hn, List.getElem?_set]
  by_cases hxy : y = x
  ·subst hxy
   rw [if_pos rfl, if_pos rfl, if_pos (by rw [Bm]; omega)]; rfl
  ·rw [if_neg hxy, Am _ hx, if_neg (by omega)]
 ·rw [List.getElem?_eq_none (by rw [j7, Bm]; omega), List.getElem?_eq_none (by rw [Bm]; omega)]
theorem JE {W : Dd} {y : Nat} (hy : y < 16) (w : List Int) (hn : Bc W ((y : Nat) : Int) = none) : (Wi W).set y true = Wi (W ++ [((y : Int), w)]) := by
 apply List.ext_getElem?
 intro x
 by_cases hx : x < 16
 ·rw [Zn _ hx, Js W (y : Int) w _ hn, List.getElem?_set]
  by_cases hxy : y = x
  ·subst hxy
   rw [if_pos rfl, if_pos rfl, if_pos (by rw [Xi]; omega)]; rfl
  ·rw [if_neg hxy, Zn _ hx, if_neg (by omega)]
 ·rw [List.getElem?_eq_none (by rw [j7, Xi]; omega), List.getElem?_eq_none (by rw [Xi]; omega)]
theorem Dx {m : Ha} (hM : Lg m) {fr : Int} {i : Nat} {W : Dd} (h : BT m fr i 0 W) (hi : i < W.length) :
 We (((), Hi W, Wi W, W.map Prod.fst, (i : Int), W[i].1, (0 : Int), ()), (m, ())) =
  some (.inl (((), Hi (Ch (Xe m) W[i].1 W[i].2 (Wd m) W), Wi (Ch (Xe m) W[i].1 W[i].2 (Wd m) W), (Ch (Xe m) W[i].1 W[i].2 (Wd m) W).map Prod.fst, (i : Int), ()), (m, ()))) := by
 have hm := Yd hM.v
 obtain ⟨k1, k2⟩ := Ou hM
 have hx := h.ok _ (qk hi)
 obtain ⟨x0, x1⟩ := Pn hM hx
 have hl := Om (step := fun x : (Unit × List (List Int) × List Bool × List Int × Int × Int × Int × Unit) × Ha × Unit => Fg x.1.1 x.1.2.1 x.1.2.2.1 x.1.2.2.2.1 x.1.2.2.2.2.1 x.1.2.2.2.2.2.1 x.1.2.2.2.2.2.2.1 x.2.1) (Wd m) (by omega)
  (Lp (Xe m) W[i].1 W[i].2) W (fun W' k => (((), Hi W', Wi W', W'.map Prod.fst, (i : Int), W[i].1, k, ()), (m, ()))) (fun W' => .inl (((), Hi W', Wi W', W'.map Prod.fst, (i : Int), ()), (m, ()))) (by
   intro k hk
   obtain ⟨g1, g2⟩ := Bs (LE hM) h hi k (by omega)
   have hgt := BL g1 hi g2
   have hln := MB hM g1 hgt
   have hlen := Wp (fun x hx => Pn hM hx) g1.toBIn
   have hny := LE hM _ k hx hk
   obtain ⟨y0, y1⟩ := Pn hM hny
   have hit : Zi (Lp (Xe m) W[i].1 W[i].2) k W = Ch (Xe m) W[i].1 W[i].2 k W := rfl
   rw [hit]
   generalize hW' : Ch (Xe m) W[i].1 W[i].2 k W = W' at hgt hlen g1
   simp only [Fg]
   rw [Sa (by omega), (XG hM hx (by omega)).1]
   simp only [cond_true, jb]
   obtain ⟨y, hy⟩ := jv y0
   obtain ⟨xn, hxn⟩ := jv x0
   rw [Sa (by omega)]
   unfold Lp
   rw [hy, Eh, Xi, Sa (by omega), jn, Zn W' (by omega)]
   simp only [cond_true, jb]
   cases hg : Bc W' (y : Int) with
   | some w => rfl
   | none =>
    simp only [Option.isSome_none, Bool.not_false, cond_true, cond_false]
    rw [hxn] at hgt ⊢
    rw [Eh, Eh, Bm, Sa (show xn < 16 by omega), Sa (show y < 16 by omega), jn, Am W' (by omega), hgt]
    simp only [cond_true, jb, Option.getD_some]
    have hset : j5 (Hi W') xn W[i].2 = Hi W' := by
     apply List.ext_getElem?
     intro z
     rw [List.getElem?_set]
     by_cases hz : xn = z
     ·subst hz
      rw [if_pos rfl, if_pos (by rw [Bm]; omega), Am W' (by omega), hgt]; rfl
     ·rw [if_neg hz]
    rw [hset, Am W' (by omega)]
    simp only [jb]
    rw [Wm (by simp; omega), Wm (by simp; omega), Wm (by simp; omega)]
    simp only [cond_true]
    rw [show jf (jf ([] : List Int) W[i].2) [(k : Int)] = W[i].2 ++ [(k : Int)] from rfl, ZD (by omega) _ hg, JE (by omega) (W[i].2 ++ [(k : Int)]) hg]
    simp only [List.map_append, List.map_cons, List.map_nil, List.append_eq]) (by
   simp only [Fg]
   rw [Vb (by omega)]; rfl)
 unfold We
 exact hl
theorem Jp {m : Ha} (hM : Lg m) {fr : Int} : ∀ (n i : Nat) (W : Dd), BT m fr i 0 W → 17 ≤ n + i →
 Ae (((), Hi W, Wi W, W.map Prod.fst, (i : Int), ()), (m, ())) = some (.inl ((Hi (Vr (Xe m) (Wd m) n i W), Wi (Vr (Xe m) (Wd m) n i W), ()), ()))
 | n, i, W, h, hn => by
  have hlen := Wp (fun x hx => Pn hM hx) h.toBIn
  by_cases hi : i < W.length
  ·obtain ⟨n', rfl⟩ : ∃ n', n = n' + 1 := ⟨n - 1, by omega⟩
   obtain ⟨h1, h2⟩ := Bs (LE hM) h hi (Wd m) (jo _)
   have ih := Jp hM n' (i + 1) _ (ZB h1 (qi hi h2.length_le)) (by omega)
   unfold Ae at ih ⊢
   rw [Vr, je hi]
   simp only
   refine (He (z := some (Sum.inl (((), Hi (Ch (Xe m) W[i].1 W[i].2 (Wd m) W), Wi (Ch (Xe m) W[i].1 W[i].2 (Wd m) W), (Ch (Xe m) W[i].1 W[i].2 (Wd m) W).map Prod.fst, ((i + 1 : Nat) : Int), ()), (m, ())))) ?_).trans ih
   simp only [Fj]
   rw [Sa (by simp; omega), Eh, Sa (by simpa using hi), jn]
   simp only [cond_true]
   rw [show (W.map Prod.fst)[i]? = some W[i].1 by rw [List.getElem?_map, je hi]; rfl]
   simp only [jb]
   rw [Dx hM h hi]
   simp only [jb, qh]
   rw [Qd (by omega)]
  ·have hb : Vr (Xe m) (Wd m) n i W = W := by
    cases n with
    | zero => rfl
    | succ n => rw [Vr, List.getElem?_eq_none (by omega)]
   rw [hb]
   unfold Ae
   refine (He (z := some (Sum.inr (.inl ((Hi W, Wi W, ()), ())))) ?_).trans rfl
   simp only [Fj]
   rw [Vb (by simp; omega)]; rfl
theorem Gx {m : Ha} (hM : Lg m) {fr : Int} (h : Oh m.2.1.length fr 0) : Lj m fr = some (Hi (Vg m fr), Wi (Vg m fr), ()) := by
 have hs := Jp hM 17 0 [(fr, [])] (RA h) (by omega)
 obtain ⟨x0, x1⟩ := Pn hM h
 obtain ⟨x, rfl⟩ := jv x0
 have e1 : Hi [((x : Int), [])] = List.replicate 16 ([] : List Int) := by
  apply List.ext_getElem?
  intro z
  by_cases hz : z < 16
  ·rw [Am _ hz, List.getElem?_replicate, if_pos hz]
   simp only [Bc]
   cases ((z : Int) == (x : Int)) <;> rfl
  ·rw [List.getElem?_eq_none (by rw [Bm]; omega), List.getElem?_eq_none (by simp; omega)]
 have e2 : Wi [((x : Int), [])] = j5 (List.replicate 16 false) x true := by
  apply List.ext_getElem?
  intro z
  by_cases hz : z < 16
  ·rw [Zn _ hz, List.getElem?_set]
   simp only [Bc]
   by_cases hxz : x = z
   ·subst hxz
    rw [if_pos rfl, if_pos (by simp; omega)]; simp
   ·rw [if_neg hxz, List.getElem?_replicate, if_pos hz, show ((z : Int) == (x : Int)) = false by simp; omega]; rfl
  ·rw [List.getElem?_eq_none (by rw [Xi]; omega), List.getElem?_eq_none (by simp; omega)]
 rw [e1, e2] at hs
 unfold Lj
 rw [show (((16 : Int) == (16 : Int)) && (decide ((0 : Int) ≤ (16 : Int)) && decide ((16 : Int) ≤ ((Ag : Nat) : Int)))) = true by rw [DA]; rfl]
 simp only [cond_true]
 rw [show jy 16 = 16 from rfl, Eh, Sa (by simp; omega), jn, List.getElem?_replicate, if_pos (by omega)]
 simp only [cond_true, jb]
 rw [show ([((x : Nat) : Int)] : List Int) = List.map Prod.fst [(((x : Nat) : Int), ([] : List Int))] from rfl, show (0 : Int) = ((0 : Nat) : Int) from rfl, hs]
 rfl
theorem Fw {m : Ha} (hM : Lg m) {fr : Int} (h : Oh m.2.1.length fr 0) : Je m fr = some (Bw (Vg m fr), ()) := by
 have hl := Om (step := fun x : (List Int × List Bool × Int × Unit) × Unit => Cf x.1.1 x.1.2.1 x.1.2.2.1) 16 (by omega) (Dk (Vg m fr)) [] (fun o k => ((o, Wi (Vg m fr), k, ()), ())) (fun o => .inl ((o, ()), ())) (by
  intro k hk
  have := Fp (Vg m fr) k
  simp only [Cf]
  rw [Sa (by rw [Xi]; omega), Eh, Xi, Sa hk, jn, Zn _ hk, Wm (by simp; omega)]
  generalize Zi (Dk (Vg m fr)) k [] = o
  unfold Dk
  simp only [cond_true, jb]
  cases (Bc (Vg m fr) ((k : Nat) : Int)).isSome <;> rfl) (by
  simp only [Cf]
  rw [Vb (by rw [Xi]; omega)]; rfl)
 unfold Je
 rw [(Tq hM.v h).2, Gx hM h]
 simp only [jb, jg, cond_false]
 unfold Cg
 erw [hl]
 rfl
theorem Mt (m : Ha) (f : Int) (hr0 : Tj Ra m) (hr1 : Tj int f) (hz : Za Ra m ≤ Yb) : ∃ w, Je m f = some (w, ()) ∧ Md m f = some (w, ()) ∧ Za (.sl int) w ≤ Yb := by
 obtain ⟨b, e1, e2⟩ := Hz m f hr0 hr1 hz
 cases b with
 | false =>
  refine ⟨[], ?_, ?_, by decide⟩
  ·unfold Je; rw [e1]; rfl
  ·unfold Md; rw [e2]; rfl
 | true =>
  obtain ⟨hv, hs⟩ := HH hz e2
  refine ⟨_, Fw (FA hv) hs, Qv (FA hv) hs, ?_⟩
  have h20 : Yb = 1048576 := rfl
  have := Fp (Vg m f) 16
  rw [Dv (e := int) rfl]
  show (Bw (Vg m f)).length ≤ _
  unfold Bw
  omega
theorem Ku (a0 : Ha) (a1 : Int) (hr0 : Tj Ra a0) (hr1 : Tj int a1) : Ge a0 a1 = some (true, ()) := by
 have h20 : Yb = 1048576 := rfl
 have h40 : Vd = 1099511627776 := rfl
 unfold Ge
 have s0 := GB a0 hr0 (1048576) (by omega)
 rw [show ((1048576 : Nat) : Int) = 1048576 from rfl] at s0
 rw [s0]
 simp only [jb]
 by_cases z0 : Za Ra a0 ≤ 1048576
 case neg => rw [Mo z0]; rfl
 rw [Iq z0, Vb (by omega)]
 simp only [cond_false]
 have hz0 : Za Ra a0 ≤ Yb := by omega
 obtain ⟨w0, e1, e2, b0⟩ := Mt a0 a1 hr0 hr1 hz0
 obtain ⟨x0, k0, g0, i0, m0, n0, _⟩ := Jy a0 1 (by omega)
 rw [show ((1 : Nat) : Int) = 1 from rfl] at m0 n0
 have d0 : decide ((k0 : Int) < 0) = false := Vb (by omega)
 obtain ⟨x1, k1, g1, i1, m1, n1, _⟩ := DB w0 1 (by omega)
 rw [show ((1 : Nat) : Int) = 1 from rfl] at m1 n1
 have d1 : decide ((k1 : Int) < 0) = false := Vb (by omega)
 simp only [e1, e2, IB a0 hz0, ZA a0 (by omega), GE w0 (by omega), m0, d0, m1, d1, n1, jb, bne_self_eq_false', bne_self_eq_false, jg, cond_false]
end KF
