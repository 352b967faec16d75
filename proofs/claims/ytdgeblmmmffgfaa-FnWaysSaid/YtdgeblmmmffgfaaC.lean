/- An evaluator of Go functions on plain data, its soundness, and plain laws on what the functions compute, part 3 (conditions: as each lemma tells). -/
import Derived.Test.YtdgeblmmmffgfaaB
import Derived.LoopN
import Derived.ChangeArms
import Derived.ChangeStays
import Derived.ChangeSame
import Derived.WideShapes
import Derived.RowKit
import Derived.Handed
import Derived.JoinedOf
import Derived.Lib.Split
import Derived.Lib.Join
import Derived.Lib.ItoaNum
import Derived.Lib.IndexMore
import Derived.Lib.Bytealg
import Derived.Lib.Atoi
import Derived.Shelf.Sort.Plain
import Derived.Shelf.Slices.In.SortNone2
import Derived.IntWalk
set_option linter.unusedSimpArgs false
set_option linter.unusedVariables false
namespace KF
open Go
open List renaming length → ja, getElem?_eq_getElem → je, append → jf, mem_append → jl, mem_cons → jp, mem_cons_of_mem → jr, length_cons → jw, set → j6, length_nil → j7, length_set → j8, mem_singleton → qc, length_append → qd, getElem?_append_left → qf, getElem?_append_right → qg, getD_eq_getElem?_getD → qh, getElem_mem → ql, getElem_of_mem → qm, mem_map → qn, length_drop → qo, mem_cons_self → qq
open Option renaming bind_some → jb, bind → jz, map_some → qb, bind_eq_some_iff → qe
open Option.some renaming injEq → jc
open Bool renaming and_eq_true → jd, not_true → jg, true_and → jk, false_eq_true → jq, not_eq_true → j9, eq_iff_iff → qp
open Prod.mk renaming injEq → jh
open Nat renaming ble_eq_true_of_le → ji, mul_le_mul_right → jm, le_refl → jo, zero_add → js, add_assoc → jt, eq_of_beq_eq_true → ju, ble → jx, le_trans → qa, lt_of_lt_of_le → qj, pow_le_pow_right → qk
open Int renaming toNat_natCast → jn, eq_ofNat_of_zero_le → jv, toNat → jy
open Go.IntKind renaming wrap → j4, wrap → j5
open Sum renaming elim_inl → qi
open Result renaming andThen_ok → qr
open Sem renaming run_bind → qs
theorem FQ {p q : Nat → Bool} {i : Nat} (hpq : ∀ j, q j = true → p j = true) (hp : p i = true) (hq : q i = false) : ∀ n, i < n → (List.range n).countP q < (List.range n).countP p := by
 have hle : ∀ n, (List.range n).countP q ≤ (List.range n).countP p := fun n => List.countP_mono_left fun j _ h => hpq j h
 intro n
 induction n with
 | zero => intro h; omega
 | succ n ih =>
  intro h
  rw [List.range_succ, List.countP_append, List.countP_append]
  by_cases he : i = n
  ·subst he
   have := hle i
   simp [hp, hq]
   omega
  ·have := ih (by omega)
   have h2 : [n].countP q ≤ [n].countP p := List.countP_mono_left fun j _ h => hpq j h
   omega
section
variable {P : Program} {n0 : Nat} {A : Fx} {O0 : Nat → Prop} {w0 : World} {G : Fd} {ops : Array Oper} {s0 : AS} {E : Nat → Ef} {F : Nat → FP} {anc : Nat → List Nat} {H : List Nat} {Q : Exit → Act → World → Prop}
def Ik (listed : Array Bool) (j : Nat) : Bool := listed.getD j false
def AG (ops : Array Oper) (L : Nat → Bool) : Prop := ∀ j o, ops[j]? = some o → L j = true → ∀ e, e ∈ o.after.toList → Region.binds .any e = true → L e.on = true
theorem Dv (hPM : ∀ m o, ops[m]? = some o → PM G H ops s0 E F anc m o) {L : Nat → Bool} (hc : AG ops L) : ∀ (b m : Nat), m < b → m < ops.size → L m = true → ∀ x, x ∈ anc m → L x = true
 | 0, _, h, _, _, _, _ => by omega
 | b + 1, m, hb, hm, hL, x, hx => by
  have hom : ops[m]? = some ops[m] := Array.getElem?_eq_getElem hm
  obtain ⟨e, he, hbn, hxe⟩ := (hPM m _ hom).up x hx
  have h1 := hc m _ hom hL e he hbn
  have h2 := (hPM m _ hom).back e he hbn
  rcases hxe with rfl | hxe
  ·exact h1
  ·exact Dv hPM hc b e.on (by omega) (by omega) h1 x hxe
theorem Px {listed : Array Bool} {i : Nat} : i ∈ Region.ready .any ops listed ↔ i < ops.size ∧ listed.getD i true = false ∧ ∃ o, ops[i]? = some o ∧ ∀ e, e ∈ o.after.toList → Region.binds .any e = true → listed.getD e.on false = true := by
 unfold Region.ready
 rw [List.mem_filter, List.mem_range]
 constructor
 ·rintro ⟨h1, h2⟩
  have hom : ops[i]? = some ops[i] := Array.getElem?_eq_getElem h1
  rw [hom] at h2
  simp only [qb, Option.getD_some, jd, Bool.not_eq_true'] at h2
  refine ⟨h1, h2.1, _, hom, fun e he hb => ?_⟩
  have h3 := h2.2
  rw [Array.all_eq_true'] at h3
  have := h3 e (Array.mem_toList_iff.1 he)
  rw [hb] at this
  simpa using this
 ·rintro ⟨h1, h2, o, ho, h3⟩
  refine ⟨h1, ?_⟩
  rw [ho]
  simp only [qb, Option.getD_some, jd, Bool.not_eq_true']
  refine ⟨h2, ?_⟩
  rw [Array.all_eq_true']
  intro e he
  cases hb : Region.binds .any e with
  | false => rfl
  | true => simpa using h3 e (Array.mem_toList_iff.2 he) hb
theorem IB (hPM : ∀ m o, ops[m]? = some o → PM G H ops s0 E F anc m o) {listed : Array Bool} (hsz : listed.size = ops.size) (hr : Region.ready .any ops listed = []) : ∀ (b j : Nat), j < b → j < ops.size → Ik listed j = true
 | 0, _, h, _ => by omega
 | b + 1, j, hb, hj => by
  by_cases h : Ik listed j = true
  ·exact h
  ·exfalso
   have hom : ops[j]? = some ops[j] := Array.getElem?_eq_getElem hj
   have : j ∈ Region.ready .any ops listed := by
    refine Px.2 ⟨hj, ?_, _, hom, fun e he hbn => ?_⟩
    ·unfold Ik at h
     simp only [j9] at h
     have hjl : j < listed.size := by omega
     simp [Array.getD, hjl] at h ⊢
     exact h
    ·have := (hPM j _ hom).back e he hbn
     exact IB hPM hsz hr b e.on (by omega) (by omega)
   rw [hr] at this
   simp at this
theorem MG {op : Op} (h : Wp op = true) : Jo op = false := by
 cases op <;> first | rfl | simp [Wp] at h
theorem GF {op : Op} (h : Pe op = true) : Jo op = false := by
 cases op <;> first | rfl | simp [Pe] at h
theorem QI.of_stL (hPM : ∀ m o, ops[m]? = some o → PM G H ops s0 E F anc m o) {L : Nat → Bool} (hc : AG ops L) {i : Nat} {o : Oper} (hi : ops[i]? = some o) (hLi : L i = false)
 (hready : ∀ e, e ∈ o.after.toList → Region.binds .any e = true → L e.on = true) :
 QI (Nc ops E (fun _ => true) s0 i) (Nc ops E L s0 ops.size) o ∧ (∀ t, t ∈ (F i).rt → Ra (Nc ops E L s0 ops.size).tm t = Ra (Nc ops E (fun _ => true) s0 i).tm t) ∧
  (∀ m, m < ops.size → i < m → L m = true → Dq (F m) (F i)) := by
 have hin : i < ops.size := (Array.getElem?_eq_some_iff.1 hi).1
 have hF : ∀ m o, ops[m]? = some o → (F m).wt = o.dst ∧ (F m).wi = (E m).2.map (·.1) ∧ (F m).mi = (E m).1.ids ++ Oj (E m).2 := fun m o ho => ⟨(hPM m o ho).fp.wt, (hPM m o ho).fp.wi, (hPM m o ho).fp.mi⟩
 have hgt : ∀ m, m < ops.size → i < m → L m = true → Dq (F m) (F i) := by
  intro m hm him hL
  have hom : ops[m]? = some ops[m] := Array.getElem?_eq_getElem hm
  rcases (hPM m _ hom).ind i him with h | h
  ·have := Dv hPM hc (m + 1) m (by omega) hm hL i h
   rw [hLi] at this; simp at this
  ·exact (EH h).symm
 have hd : ∀ m, m < ops.size → L m ≠ Nat.blt m i → Dq (F m) (F i) := by
  intro m hm hne
  rcases Nat.lt_trichotomy m i with h | h | h
  ·have hb : Nat.blt m i = true := by rw [Nat.blt_eq]; exact h
   have hL : L m = false := by
    rw [hb] at hne
    simpa using hne
   rcases (hPM i _ hi).ind m h with h' | h'
   ·exfalso
    obtain ⟨e, he, hbn, hxe⟩ := (hPM i _ hi).up m h'
    have h1 := hready e he hbn
    rcases hxe with rfl | hxe
    ·rw [hL] at h1; simp at h1
    ·have h2 := (hPM i _ hi).back e he hbn
     have := Dv hPM hc (e.on + 1) e.on (by omega) (by omega) h1 m hxe
     rw [hL] at this; simp at this
   ·exact EH h'
  ·subst h
   exfalso
   apply hne
   rw [hLi]
   have : Nat.blt m m = false := by rw [← j9, Nat.blt_eq]; omega
   exact this.symm
  ·have hb : Nat.blt m i = false := by
    rw [← j9, Nat.blt_eq]; omega
   have hL : L m = true := by
    rw [hb] at hne
    simpa using hne
   exact hgt m hm h hL
 obtain ⟨a1, a2, a3⟩ := TE (ops := ops) (s0 := s0) (f := F i) hF hd ops.size (jo _)
 have hst : Nc ops E (fun j => Nat.blt j i) s0 ops.size = Nc ops E (fun _ => true) s0 i := by
  rw [RA (i := i) ops.size (by omega) fun j h1 h2 => by
   show Nat.blt j i = false
   rw [← j9, Nat.blt_eq]; omega]
  exact Dm i fun j hj => ⟨rfl, by rw [Nat.blt_eq]; exact hj⟩
 rw [hst] at a1 a2 a3
 have fp := (hPM i _ hi).fp
 refine ⟨⟨fun x hx => YC hx fun t ht => a1 t (fp.rt t ht), fun hmv hsp x hx d hd' id hm => a2 id ((fp.ri hmv x hx d hd' id (.inl hm)).resolve_right fun h => by rw [hsp] at h; simp at h),
  fun hsp x hx d hd' id hm => ?_, fun id hid => a3 id (by rw [fp.wt]; exact hid),
  fun hcl hsp x hx bid p hev ρ d hb id hm => a2 id ((fp.ri (MG hcl) x hx _ hev id (.inr ⟨hcl, by simp only [Xr, hb]; exact Bs.1 hm⟩)).resolve_right fun h => by rw [hsp] at h; simp at h)⟩, a1, hgt⟩
 rcases fp.ri (GF hsp) x hx d hd' id (.inl hm) with h | h
 ·rw [a2 id h]
 ·have hh : ∀ j o, ops[j]? = some o → Nw H (Nc ops E (fun _ => true) s0 j) (E j) := fun j o ho => (hPM j o ho).hard
  rw [QA ops.size (jo _) (fun j o _ ho => hh j o ho) id h.2, QA i (Nat.le_of_lt hin) (fun j o _ ho => hh j o ho) id h.2]
theorem Uz {s : AS} {dst : Option Tmp} {e : Ef} (hd : ∀ t, dst = some t → t < s.n) {Out : Type} {k : AS → Option Out} : Oe s dst e.1 e.2 k = k (putE s dst e) := by
 cases dst with
 | none => rfl
 | some t =>
  have : Nat.blt t s.n = true := by rw [Nat.blt_eq]; exact hd t rfl
  simp only [Oe, this, cond_true, putE]
  rfl
theorem CR (hG : Eg P A.I G) (hfz : G.fz = true → ∀ b, ¬ A.A b) (hPM : ∀ m o, ops[m]? = some o → PM G H ops s0 E F anc m o)
 (hQ : ∀ σ φ a w, La n0 A O0 w0 (Nc ops E (fun _ => true) s0 ops.size) σ φ a w → Q .normal a w) :
 ∀ (fuel : Nat) (listed : Array Bool) (σ : Nat → Value) (φ : Nat → List Nat) (a : Act) (w : World), listed.size = ops.size → (List.range ops.size).countP (fun j => !listed.getD j true) ≤ fuel →
  AG ops (Ik listed) → La n0 A O0 w0 (Nc ops E (Ik listed) s0 ops.size) σ φ a w → wpAny P .any ops Q fuel listed a w := by
 intro fuel
 have fin' : ∀ (listed : Array Bool) (σ : Nat → Value) (φ : Nat → List Nat) (a : Act) (w : World), listed.size = ops.size → Region.ready .any ops listed = [] →
  La n0 A O0 w0 (Nc ops E (Ik listed) s0 ops.size) σ φ a w → Q .normal a w := by
  intro listed σ φ a w hsz hr h
  refine hQ σ φ a w ?_
  rw [← Dm (L := Ik listed) ops.size fun j hj => ⟨rfl, IB hPM hsz hr (j + 1) j (by omega) hj⟩]
  exact h
 induction fuel with
 | zero =>
  intro listed σ φ a w hsz hcnt hc h
  have hr : Region.ready .any ops listed = [] := by
   rw [List.eq_nil_iff_forall_not_mem]
   intro i hi
   obtain ⟨h1, h2, _⟩ := Px.1 hi
   have : 0 < (List.range ops.size).countP (fun j => !listed.getD j true) := List.countP_pos_iff.2 ⟨i, List.mem_range.2 h1, by rw [h2]; rfl⟩
   omega
  exact ⟨hr, fin' listed σ φ a w hsz hr h⟩
 | succ fuel ih =>
  intro listed σ φ a w hsz hcnt hc h
  refine ⟨fun hr => fin' listed σ φ a w hsz hr h, fun i hi => ?_⟩
  obtain ⟨hin, hun, o, ho, hed⟩ := Px.1 hi
  have hil : i < listed.size := by omega
  have hLi : Ik listed i = false := by
   unfold Ik
   simp [Array.getD, hil] at hun ⊢
   exact hun
  obtain ⟨hag, htm, hgt⟩ := QI.of_stL hPM hc ho hLi hed
  have pm := hPM i o ho
  have hF : ∀ m o, ops[m]? = some o → (F m).wt = o.dst ∧ (F m).wi = (E m).2.map (·.1) ∧ (F m).mi = (E m).1.ids ++ Oj (E m).2 := fun m o ho => ⟨(hPM m o ho).fp.wt, (hPM m o ho).fp.wi, (hPM m o ho).fp.mi⟩
  have hadd := UJ (s0 := s0) (L := Ik listed) ho hF hLi hgt ops.size hin (jo _)
  have hset : ∀ j, Ik (listed.setIfInBounds i true) j = (Ik listed j || Nat.beq j i) := by
   intro j
   unfold Ik
   by_cases hji : j = i
   ·subst hji
    simp [Array.getD, hil]
   ·have hb : Nat.beq j i = false := by rw [← j9]; intro e; exact hji (ju e)
    rw [hb, Bool.or_false]
    simp only [Array.getD_eq_getD_getElem?]
    rw [Array.getElem?_setIfInBounds_ne (fun e => hji e.symm)]
  have next : ∀ σ φ a w, La n0 A O0 w0 (putE (Nc ops E (Ik listed) s0 ops.size) o.dst (E i)) σ φ a w → wpAny P .any ops Q fuel (listed.setIfInBounds i true) a w := by
   intro σ φ a w h
   have h2 := h.eqv hadd
   have h3 : Nc ops E (fun j => Ik listed j || Nat.beq j i) s0 ops.size = Nc ops E (Ik (listed.setIfInBounds i true)) s0 ops.size := Dm ops.size fun j _ => ⟨rfl, (hset j).symm⟩
   rw [h3] at h2
   refine ih (listed.setIfInBounds i true) σ φ a w (by simpa using hsz) ?_ ?_ h2
   ·have hlt := FQ (p := fun j => !listed.getD j true) (q := fun j => !(listed.setIfInBounds i true).getD j true) (i := i) ?_ (by simp only [hun, Bool.not_false]) ?_ ops.size hin
    ·omega
    ·intro j hj
     by_cases hji : j = i
     ·subst hji; simp [hun]
     ·simp only [Array.getD_eq_getD_getElem?] at hj ⊢
      rw [Array.getElem?_setIfInBounds_ne (fun e => hji e.symm)] at hj
      exact hj
    ·simp [Array.getD, hil]
   ·intro j oj hoj hL e he hbn
    rw [hset] at hL ⊢
    cases hLj : Ik listed j with
    | true => rw [hc j oj hoj hLj e he hbn]; rfl
    | false =>
     rw [hLj, Bool.false_or] at hL
     have := ju hL
     subst this
     rw [ho] at hoj
     simp only [jc] at hoj
     subst hoj
     have := hed e he hbn
     unfold Ik
     rw [this]; rfl
  have hdn : ∀ t, o.dst = some t → t < (Nc ops E (Ik listed) s0 ops.size).n := fun t ht => by rw [RC]; exact pm.dst t ht
  have run : Qy G (Nc ops E (fun _ => true) s0 i) o (E i) → o.wp P a w (wpAny P .any ops Q fuel (listed.setIfInBounds i true)) Q := by
   intro hE
   have hE' := hE.congr hag
   have : Jd G (Nc ops E (Ik listed) s0 ops.size) o some = some (putE (Nc ops E (Ik listed) s0 ops.size) o.dst (E i)) := by
    unfold Jd
    rw [hE']
    exact Uz hdn
   refine Oper.wp_mono ?_ (IM hG hfz h this)
   rintro a w ⟨s2, σ', φ', h1, h2⟩
   simp only [jc] at h1
   subst h1
   exact next σ' φ' a w h2
  have skp : E i = (.und, []) → wpAny P .any ops Q fuel (listed.setIfInBounds i true) (a.put o.dst undef) w := by
   intro hE
   have := RJ (dst := o.dst) (k := some) (out := putE (Nc ops E (Ik listed) s0 ops.size) o.dst (.und, [])) h (Uz (e := (.und, [])) hdn)
   obtain ⟨s2, σ', φ', h1, h2⟩ := this
   simp only [jc] at h1
   subst h1
   rw [← hE] at h2
   exact next σ' φ' _ w h2
  have hst := pm.step
  unfold wpOp
  rw [ho]
  simp only []
  unfold Xu at hst
  cases hg : o.guard with
  | none =>
   rw [hg] at hst
   rw [if_pos (by simp [Region.wanted, hg])]
   exact .inl (run hst)
  | some g =>
   obtain ⟨j, want⟩ := g
   rw [hg] at hst
   obtain ⟨t, ht, hst⟩ := hst
   have htr : t ∈ (F i).rt := pm.fp.rg j want t hg ht
   have hlook := htm t htr
   rcases hst with ⟨β, hd, hst⟩ | ⟨hd, hst⟩
   ·rw [hd] at hlook
    have hy := Wx h ht hlook
    have hwd : Region.wanted o (yielded ops a.tmps) = (some β == some want) := by simp [Region.wanted, hg, hy]
    rw [hwd]
    by_cases hβ : β = want
    ·subst hβ
     rw [if_pos (by simp)]
     rw [if_pos rfl] at hst
     exact .inl (run hst)
    ·rw [if_neg (by simpa using hβ)]
     rw [if_neg hβ] at hst
     exact skp hst
   ·rw [hd] at hlook
    have hy := Hz h ht hlook
    have hwd : Region.wanted o (yielded ops a.tmps) = false := by simp [Region.wanted, hg, hy]
    rw [hwd, if_neg (by simp)]
    exact skp hst
end
structure Kf (s s' : AS) : Prop extends Eqv s s' where
 nw : ∀ id, s'.newOk id = s.newOk id
theorem Kf.refl (s : AS) : Kf s s := ⟨Eqv.refl s, fun _ => rfl⟩
theorem Kf.agr {s s' : AS} (h : Kf s s') (o : Oper) : QI s s' o :=
 ⟨fun _ hx => YC hx fun t _ => h.tm t, fun _ _ _ _ _ _ id _ => h.hp id, fun _ _ _ _ _ id _ => by rw [h.hp id], fun id _ => h.nw id, fun _ _ _ _ _ _ _ _ _ _ id _ => h.hp id⟩
theorem Kf.symm {s s' : AS} (h : Kf s s') : Kf s' s := ⟨h.toEqv.symm, fun id => (h.nw id).symm⟩
theorem Kf.trans {s1 s2 s3 : AS} (h : Kf s1 s2) (h' : Kf s2 s3) : Kf s1 s3 := ⟨h.toEqv.trans h'.toEqv, fun id => (h'.nw id).trans (h.nw id)⟩
theorem Kf.putE {s s' : AS} (h : Kf s s') (dst : Option Tmp) (e : Ef) : Kf (KF.putE s dst e) (KF.putE s' dst e) := by
 refine ⟨⟨h.n, fun t => ?_, fun id => ?_⟩, fun id => ?_⟩
 ·rw [Jm, Jm, h.tm t]
 ·rw [Qk, Qk, h.hp id]
 ·have e0 := h.nw id
  unfold AS.newOk at e0 ⊢
  simp only [AS.ment, KF.putE, List.any_append] at e0 ⊢
  revert e0
  generalize ((match dst with | some t => [(t, e.1)] | none => []).any fun x => x.2.ment id) = b1
  generalize (e.2.any fun x => (x.2.map (Da.ment id)).getD false) = b2
  generalize (s.tm.any fun x => x.2.ment id) = c1
  generalize (s.hp.any fun x => (x.2.map (Da.ment id)).getD false) = c2
  generalize (s'.tm.any fun x => x.2.ment id) = d1
  generalize (s'.hp.any fun x => (x.2.map (Da.ment id)).getD false) = d2
  generalize Nat.blt id 500000 = z
  cases b1 <;> cases b2 <;> cases c1 <;> cases c2 <;> cases d1 <;> cases d2 <;> cases z <;> simp
theorem Kf.refine {s : AS} {t : Nat} {β : Bool} (hd : Ra s.tm t = some (.t .b β)) : Kf s ⟨s.n, (t, .t .b β) :: s.tm, s.hp⟩ := by
 refine ⟨⟨rfl, fun t' => ?_, fun _ => rfl⟩, fun id => ?_⟩
 ·rw [Rb]
  split
  ·rename_i e; subst e; exact hd.symm
  ·rfl
 ·simp [AS.newOk, AS.ment, D.ment]
theorem KG {s s' : AS} (h : ∀ j, s'.heap j = s.heap j) (d : D) : Xr s d = Xr s' d := by
 cases d with
 | ptr id p => simp only [Xr, h id]
 | _ => rfl
def XR (s : AS) (u : List (Nat × Option Da)) : Prop := u = [] ∨ ∃ id b tl, u = (id, some b) :: tl ∧ (s.heap id).map Da.kind = some b.kind
theorem KE {s : AS} {dst : Option Tmp} {τ : Ty} {id i : Nat} {e : Ty} {xs : List (T e)} {k : Nat} {ef : Ef} (hs : (s.heap id).map Da.kind = some (none, some (e, ja xs)))
 (h : Jk s dst τ id i e xs k (fun d u => some (d, u)) = some ef) : XR s ef.2 := by
 unfold Jk at h
 split at h
 ·cases hb : Nat.beq i k with
  | false => rw [hb] at h; simp at h
  | true =>
   rw [hb] at h
   simp only [cond_true, qe] at h
   obtain ⟨x, hx, h⟩ := h
   simp only [Ba, jc] at h
   obtain ⟨_, rfl⟩ := h
   exact .inr ⟨id, _, _, rfl, hs⟩
 ·simp at h
theorem YK {α : Type} {c : Bool} {a b : Option α} {x : α} (h : (bif c then a else b) = some x) : a = some x ∨ b = some x := by cases c <;> simp_all
theorem OT {G : Fd} {s : AS} {o : Oper} {ef : Ef} (hk : Ly o.op = true) (h : Xa G s o (fun d u => some (d, u)) = some ef) : XR s ef.2 := by
 cases ho : o.op with
 | load t x =>
  simp only [Xa, ho] at h
  split at h
  ·split at h
   ·split at h
    ·split at h
     ·simp only [jc] at h; rw [← h]; exact .inl rfl
     ·simp at h
    ·simp at h
   ·simp at h
  ·split at h
   ·simp only [jc] at h; rw [← h]; exact .inl rfl
   ·simp at h
  ·rename_i τ id i path _ _
   cases hml : FL G o.dst with
   | true =>
    rw [hml] at h
    simp only [cond_true] at h
    split at h
    ·rename_i hb hz; exact KE (by rw [hb]; rfl) h
    ·rename_i hb hz; exact KE (by rw [hb]; rfl) h
    ·simp at h
   | false =>
    rw [hml] at h
    simp only [cond_false] at h
    split at h
    ·rename_i e dp xs hb
     simp only [qe] at h
     obtain ⟨x, hx, h⟩ := h
     split at h
     ·split at h
      ·rcases YK h with h | h
       ·simp only [jc] at h; rw [← h]; exact .inl rfl
       ·split at h
        ·simp only [Ba, jc] at h
         obtain ⟨_, rfl⟩ := h
         exact .inr ⟨id, _, _, rfl, by rw [hb]; rfl⟩
        ·simp at h
      ·simp at h
     ·simp at h
    ·simp at h
  ·simp at h
 | store t x v =>
  simp only [Xa, ho] at h
  split at h
  ·rename_i τ id path dv _ _ _
   split at h
   ·rename_i ρ d hb
    split at h
    ·split at h
     ·simp only [Ba, jc] at h
      obtain ⟨_, rfl⟩ := h
      exact .inr ⟨id, _, _, rfl, by rw [hb]; rfl⟩
     ·simp at h
    ·simp at h
   ·simp at h
  ·rename_i τ id i path dv _ _ _
   split at h
   ·rename_i e dp xs hb
    split at h
    ·split at h
     ·cases hc : (dp || e.flat) with
      | true =>
       rw [hc] at h
       simp only [cond_true] at h
       split at h
       ·simp only [Ba, qe] at h
        obtain ⟨_, x, hx, h⟩ := h
        split at h
        ·simp only [jc] at h; rw [← h]
         exact .inr ⟨id, _, _, rfl, by rw [hb]; simp [Da.kind]⟩
        ·simp at h
       ·simp at h
      | false =>
       rw [hc] at h
       simp only [cond_false] at h
       split at h
       ·simp only [qe] at h
        obtain ⟨x, hx, h⟩ := h
        split at h
        ·simp only [jc] at h; rw [← h]
         exact .inr ⟨id, _, _, rfl, by rw [hb]; simp [Da.kind]⟩
        ·simp at h
       ·simp at h
     ·simp at h
    ·simp at h
   ·rename_i e xs i0 x path0 τ0 d0 hb
    split at h
    ·split at h
     ·split at h
      ·simp only [Ba] at h
       obtain ⟨_, _, h⟩ := h
       split at h
       ·simp only [jc] at h; rw [← h]
        exact .inr ⟨id, _, _, rfl, by rw [hb]; simp [Da.kind]⟩
       ·simp at h
      ·simp at h
     ·simp at h
    ·simp at h
   ·simp at h
  ·simp at h
 | _ => rw [ho] at hk; simp [Ly] at hk
theorem AD {G : Fd} {s : AS} {o : Oper} {ef : Ef} {H : List Nat} (h : Qy G s o ef) (hb : TB H o.op ef.2 = true) : Nw H s ef := by
 intro id hid hm
 unfold TB at hb
 split at hb
 ·simp at hid
 ·cases hk : Ly o.op with
  | false =>
   rw [hk] at hb
   simp only [cond_false, Bool.not_eq_true'] at hb
   exact absurd hm (En hb id hid)
  | true =>
   rw [hk] at hb
   simp only [cond_true, Bool.not_eq_true'] at hb
   have hkp := OT hk (h _ fun d u => some (d, u))
   rcases hkp with h0 | ⟨id0, b, tl, h0, h1⟩
   ·rw [h0] at hm; simp at hm
   ·rw [h0] at hm hb ⊢
    rcases jp.1 hm with e | hm
    ·subst e
     simp only [Rb, if_true, Option.join_some, qb]
     exact h1.symm
    ·exact absurd hm (En hb id hid)
theorem KC {H : List Nat} {x : Nat} : ∀ {l : List Nat}, x ∈ l → x ∈ Kx H l ∨ x ∈ H
 | y :: l, h => by
  simp only [Kx]
  rcases jp.1 h with e | h
  ·subst e
   cases hm : Bp H x with
   | true => exact .inr (Qv.1 hm)
   | false => exact .inl (by simp)
  ·refine (KC h).imp (fun h => ?_) id
   cases Bp H y with
   | true => exact h
   | false => exact jr _ h
theorem GE {s : AS} {c : Bool} : ∀ {l : List Operand} {x : Operand} {d : D} {id : Nat}, x ∈ l → s.ev x = some d → (d.ment id = true ∨ (c = true ∧ id ∈ Xr s d)) → id ∈ Dt s c l
 | [], _, _, _, h, _, _ => by simp at h
 | y :: l, x, d, id, h, hd, hm => by
  rcases jp.1 h with e | h
  ·subst e
   simp only [Dt, hd]
   refine List.mem_append_left _ (jl.2 ?_)
   refine hm.imp Bs.1 ?_
   rintro ⟨rfl, h⟩
   exact h
  ·have ih := GE h hd hm
   simp only [Dt]
   split
   ·exact List.mem_append_right _ ih
   ·exact ih
section
variable {P : Program} {n0 : Nat} {A : Fx} {O0 : Nat → Prop} {w0 : World} {G : Fd} {ops : Array Oper} {s0 : AS} {E : Nat → Ef} {F : Nat → FP} {anc : Nat → List Nat} {H : List Nat} {Q : Exit → Act → World → Prop}
variable {Out : Type} {k : AS → Option Out} {out : Out}
theorem PM.congr {E' : Nat → Ef} {F' : Nat → FP} {anc' : Nat → List Nat} {m : Nat} {o : Oper} (h : PM G H ops s0 E F anc m o) (hE : ∀ j, j ≤ m → E j = E' j ∧ F j = F' j ∧ anc j = anc' j) : PM G H ops s0 E' F' anc' m o := by
 have hst : Nc ops E (fun _ => true) s0 m = Nc ops E' (fun _ => true) s0 m := Dm m fun j hj => ⟨(hE j (by omega)).1, rfl⟩
 obtain ⟨e1, e2, e3⟩ := hE m (jo _)
 refine ⟨by rw [← hst, ← e1]; exact h.step, by rw [← hst, ← e1, ← e2]; exact h.fp, h.dst, h.back, ?_, ?_, by rw [← hst, ← e1]; exact h.hard⟩
 ·intro x hx
  rw [← e3] at hx
  obtain ⟨e, he, hb, hxe⟩ := h.up x hx
  refine ⟨e, he, hb, hxe.imp id fun hxe => ?_⟩
  rw [← (hE e.on (Nat.le_of_lt (h.back e he hb))).2.2]
  exact hxe
 ·intro j hj
  rw [← e3, ← e2, ← (hE j (by omega)).2.1]
  exact h.ind j hj
theorem HB : ∀ {r l : List Nat} {x : Nat}, x ∈ GB r l → x ∈ r ∨ x ∈ l
 | [], _, _, h => .inr h
 | y :: r, l, x, h => by
  simp only [GB] at h
  rcases HB h with h | h
  ·exact .inl (jr _ h)
  ·cases hm : Bp l y with
   | true => rw [hm] at h; exact .inr h
   | false =>
    rw [hm] at h
    rcases jp.1 h with h | h
    ·exact .inl (by rw [h]; simp)
    ·exact .inr h
theorem Pw {prev : List (Nat × (List Nat × FP))} : ∀ {es : List Edge} {l : List Nat} {x : Nat}, x ∈ Hy prev es l → x ∈ l ∨ ∃ e, e ∈ es ∧ Region.binds .any e = true ∧ (x = e.on ∨ ∃ p, Ra prev e.on = some p ∧ x ∈ p.1)
 | [], l, x, h => .inl h
 | e :: es, l, x, h => by
  simp only [Hy] at h
  cases hb : Region.binds .any e with
  | false =>
   rw [hb] at h
   rcases Pw h with h | ⟨e', he', hb', hx⟩
   ·exact .inl h
   ·exact .inr ⟨e', jr _ he', hb', hx⟩
  | true =>
   rw [hb] at h
   rcases Pw h with h | ⟨e', he', hb', hx⟩
   ·rcases HB h with h | h
    ·refine .inr ⟨e, by simp, hb, ?_⟩
     rcases jp.1 h with h | h
     ·exact .inl h
     ·split at h
      ·rename_i a f hp; exact .inr ⟨_, hp, h⟩
      ·simp at h
    ·exact .inl h
   ·exact .inr ⟨e', jr _ he', hb', hx⟩
theorem XJ : ∀ (l : List Oper) (i : Nat) (prev : List (Nat × (List Nat × FP))) (s : AS) (E : Nat → Ef) (F : Nat → FP) (anc : Nat → List Nat), ops.toList.drop i = l → Qo G H ops l i prev s k = some out →
 Kf (Nc ops E (fun _ => true) s0 i) s → (∀ j, j < i → Ra prev j = some (anc j, F j)) → (∀ m o, m < i → ops[m]? = some o → PM G H ops s0 E F anc m o) →
 ∃ E F anc, (∀ m o, ops[m]? = some o → PM G H ops s0 E F anc m o) ∧ ∃ sf, k sf = some out ∧ Eqv (Nc ops E (fun _ => true) s0 ops.size) sf
 | [], i, prev, s, E, F, anc, hl, he, hs, hprev, hPM => by
  have hi : ops.size ≤ i := by
   have := congrArg ja hl
   simp at this
   omega
  have hst : Nc ops E (fun _ => true) s0 i = Nc ops E (fun _ => true) s0 ops.size := by
   clear hs he hl hprev hPM
   induction i with
   | zero =>
    have : ops.size = 0 := by omega
    rw [this]
   | succ i ih =>
    by_cases h : ops.size = i + 1
    ·rw [h]
    ·rw [← ih (by omega)]
     have : ops[i]? = none := Array.getElem?_eq_none (by omega)
     simp only [Nc, this]
  refine ⟨E, F, anc, fun m o ho => hPM m o ?_ ho, s, he, by rw [← hst]; exact hs.toEqv⟩
  have := (Array.getElem?_eq_some_iff.1 ho).1
  omega
 | o :: l, i, prev, s, E, F, anc, hl, he, hs, hprev, hPM => by
  have hi : i < ops.size := by
   have := congrArg ja hl
   simp at this
   omega
  have hoi : ops[i]? = some o := by
   have h1 := congrArg (·[0]?) hl
   simpa using h1
  have hl' : ops.toList.drop (i + 1) = l := by
   have h1 := congrArg (List.drop 1) hl
   simpa [List.drop_drop, Nat.add_comm] using h1
  have next : ∀ (an : List Nat) (f : FP) (e : Ef) (sx : AS), an = Hy prev o.after.toList [] → (∀ e, e ∈ o.after.toList → Region.binds .any e = true → e.on < i) → Wq an f prev = true → Kf s sx →
   Xu G ops (Nc ops E (fun _ => true) s0 i) o e → XP H ops (Nc ops E (fun _ => true) s0 i) o e f → Nw H (Nc ops E (fun _ => true) s0 i) e → Oe sx o.dst e.1 e.2 (fun s' => Qo G H ops l (i + 1) ((i, (an, f)) :: prev) s' k) = some out →
   ∃ E F anc, (∀ m o, ops[m]? = some o → PM G H ops s0 E F anc m o) ∧ ∃ sf, k sf = some out ∧ Eqv (Nc ops E (fun _ => true) s0 ops.size) sf := by
   intro an f e sx han hback hok hsx hstep hfp hhard hfin
   have hdst : ∀ t, o.dst = some t → t < sx.n := by
    intro t ht
    unfold Oe at hfin
    rw [ht] at hfin
    simp only at hfin
    cases hb : Nat.blt t sx.n with
    | true => rwa [Nat.blt_eq] at hb
    | false => rw [hb] at hfin; simp at hfin
   rw [Uz hdst] at hfin
   have hn : sx.n = s0.n := by rw [hsx.n, hs.n, RC]
   have hEi : ∀ j, j < i → E j = (fun j => if j = i then e else E j) j ∧ F j = (fun j => if j = i then f else F j) j ∧ anc j = (fun j => if j = i then an else anc j) j := by
    intro j hj
    have : j ≠ i := by omega
    simp [this]
   have hst : Nc ops E (fun _ => true) s0 i = Nc ops (fun j => if j = i then e else E j) (fun _ => true) s0 i := Dm i fun j hj => ⟨(hEi j hj).1, rfl⟩
   refine XJ l (i + 1) _ _ (fun j => if j = i then e else E j) (fun j => if j = i then f else F j) (fun j => if j = i then an else anc j) hl' hfin ?_ ?_ ?_
   ·have : Nc ops (fun j => if j = i then e else E j) (fun _ => true) s0 (i + 1) = putE (Nc ops E (fun _ => true) s0 i) o.dst e := by
     rw [hst]
     simp only [Nc, hoi, cond_true, if_true]
    rw [this]
    exact (hs.trans hsx).putE _ _
   ·intro j hj
    rw [Rb]
    by_cases hji : i = j
    ·subst hji; simp
    ·have hne : j ≠ i := fun e => hji e.symm
     rw [if_neg hji, hprev j (by omega)]
     simp [hne]
   ·intro m om hm hom
    by_cases hmi : m = i
    ·subst hmi
     rw [hoi] at hom
     simp only [jc] at hom
     subst hom
     refine ⟨?_, ?_, fun t ht => by rw [← hn]; exact hdst t ht, hback, ?_, ?_, by rw [← hst]; simpa using hhard⟩
     ·rw [← hst]; simpa using hstep
     ·rw [← hst]; simpa using hfp
     ·intro x hx
      simp only [if_true] at hx
      rw [han] at hx
      rcases Pw hx with hx | ⟨e', he', hb', hx⟩
      ·simp at hx
      ·have hlt := hback e' he' hb'
       refine ⟨e', he', hb', hx.imp id ?_⟩
       rintro ⟨p, hp, hxp⟩
       rw [hprev _ hlt] at hp
       simp only [jc] at hp
       subst hp
       have : e'.on ≠ m := by omega
       simpa [this] using hxp
     ·intro j hj
      have hok' := hok
      unfold Wq at hok'
      rw [List.all_eq_true] at hok'
      have hmem := Ll (hprev j hj)
      have h1 := hok' _ hmem
      simp only [Bool.or_eq_true] at h1
      have hjm : j ≠ m := by omega
      simp only [if_true, hjm, if_false]
      exact h1.imp Qv.1 id
    ·exact (hPM m om (by omega) hom).congr fun j hj => hEi j (by omega)
  have hfpOk : ∀ (g : List Nat) (e : Ef), (∀ j want t, o.guard = some (j, want) → (ops[j]?).bind (·.dst) = some t → t ∈ g) → XP H ops (Nc ops E (fun _ => true) s0 i) o e (ZC H s o g e.1 e.2) := by
   intro g e hg
   refine ⟨rfl, rfl, rfl, fun t ht => List.mem_append_right _ ht, fun j want t hgu ht => List.mem_append_left _ (hg j want t hgu ht), fun hmv x hx d hd id hm => ?_⟩
   have hmem : id ∈ Dt s (Wp o.op) (Wb o.op) := by
    refine GE hx ?_ (hm.imp (fun h => h) fun h => ⟨h.1, (KG (fun j => hs.hp j) d) ▸ h.2⟩)
    rw [← hd]
    exact YC hx fun t _ => hs.tm t
   show id ∈ (bif Jo o.op then [] else bif Pe o.op then _ else _) ∨ _
   rw [hmv]
   cases hsp : Pe o.op with
   | false => exact .inl hmem
   | true => exact (KC hmem).imp (fun h => h) fun h => ⟨rfl, h⟩
  simp only [Qo] at he
  cases hbk : TK i o.after.toList with
  | false => rw [hbk] at he; simp at he
  | true =>
   rw [hbk] at he
   simp only [cond_true] at he
   have hback : ∀ e, e ∈ o.after.toList → Region.binds .any e = true → e.on < i := by
    intro e hem hbe
    unfold TK at hbk
    rw [List.all_eq_true] at hbk
    have := hbk e hem
    rw [hbe] at this
    simp only [jg, Bool.false_or] at this
    rwa [Nat.blt_eq] at this
   have hEff : ∀ (sx : AS) (K : D → List (Nat × Option Da) → Option Out), Kf s sx → Xa G sx o K = some out → ∃ e : Ef, K e.1 e.2 = some out ∧ Qy G (Nc ops E (fun _ => true) s0 i) o e := by
    intro sx K hsx hK
    obtain ⟨d, u, h1, h2⟩ := AQ hK
    refine ⟨(d, u), h1, ?_⟩
    have : Qy G sx o (d, u) := h2
    exact this.congr ((hs.trans hsx).symm.agr o)
   cases hg : o.guard with
   | none =>
    rw [hg] at he
    simp only at he
    obtain ⟨e, h1, h2⟩ := hEff s _ (Kf.refl s) he
    simp only [Ba, jd] at h1
    exact next _ _ e s rfl hback h1.1.1 (Kf.refl s) (by unfold Xu; rw [hg]; exact h2) (hfpOk [] e (by intro j want t hgu; rw [hg] at hgu; simp at hgu)) (AD h2 h1.1.2) h1.2
   | some g =>
    obtain ⟨j, want⟩ := g
    rw [hg] at he
    simp only at he
    split at he
    ·rename_i t ht
     have hgt : ∀ j' want' t', o.guard = some (j', want') → (ops[j']?).bind (·.dst) = some t' → t' ∈ [t] := by
      intro j' want' t' hgu ht'
      rw [hg] at hgu
      simp only [jc, jh] at hgu
      obtain ⟨rfl, rfl⟩ := hgu
      rw [ht] at ht'
      simp only [jc] at ht'
      rw [ht']; simp
     split at he
     ·rename_i β hd
      have hdst : Ra (Nc ops E (fun _ => true) s0 i).tm t = some (.t .b β) := by rw [← hs.tm]; exact hd
      have goal1 : ∀ e : Ef, (if β = want then Qy G (Nc ops E (fun _ => true) s0 i) o e else e = (.und, [])) → Xu G ops (Nc ops E (fun _ => true) s0 i) o e := by
       intro e h
       unfold Xu
       rw [hg]
       exact ⟨t, ht, .inl ⟨β, hdst, h⟩⟩
      cases hβ : (show Bool from β) with
      | true =>
       have hβ' : β = true := hβ
       subst hβ'
       simp only [cond_true] at he
       cases want with
       | true =>
        simp only [cond_true] at he
        obtain ⟨e, h1, h2⟩ := hEff _ _ (Kf.refine hd) he
        simp only [Ba, jd] at h1
        exact next _ _ e _ rfl hback h1.1.1 (Kf.refine hd) (goal1 e (by rw [if_pos rfl]; exact h2)) (hfpOk [t] e hgt) (AD h2 h1.1.2) h1.2
       | false =>
        simp only [cond_false, Ba] at he
        exact next _ _ (.und, []) _ rfl hback he.1 (Kf.refine hd) (goal1 _ (by rw [if_neg (by simp)])) (hfpOk [t] (.und, []) hgt) (by intro id _ hm; simp at hm) he.2
      | false =>
       have hβ' : β = false := hβ
       subst hβ'
       simp only [cond_false] at he
       cases want with
       | true =>
        simp only [cond_true, Ba] at he
        exact next _ _ (.und, []) _ rfl hback he.1 (Kf.refine hd) (goal1 _ (by rw [if_neg (by simp)])) (hfpOk [t] (.und, []) hgt) (by intro id _ hm; simp at hm) he.2
       | false =>
        simp only [cond_false] at he
        obtain ⟨e, h1, h2⟩ := hEff _ _ (Kf.refine hd) he
        simp only [Ba, jd] at h1
        exact next _ _ e _ rfl hback h1.1.1 (Kf.refine hd) (goal1 e (by rw [if_pos rfl]; exact h2)) (hfpOk [t] e hgt) (AD h2 h1.1.2) h1.2
     ·rename_i hd
      simp only [Ba] at he
      refine next _ _ (.und, []) s rfl hback he.1 (Kf.refl s) ?_ (hfpOk [t] (.und, []) hgt) (by intro id _ hm; simp at hm) he.2
      unfold Xu
      rw [hg]
      exact ⟨t, ht, .inr ⟨by rw [← hs.tm]; exact hd, rfl⟩⟩
     ·simp at he
    ·simp at he
theorem HJ {n j : Nat} : Ik (Array.replicate n false) j = false := by
 unfold Ik
 rw [Array.getD_eq_getD_getElem?, Array.getElem?_replicate]
 split <;> rfl
theorem PO (hG : Eg P A.I G) (hfz : G.fz = true → ∀ b, ¬ A.A b) (hm : P.follows .mixedOrders = true) {id : Nat} {H : List Nat} {draw : Bool} {s : AS} {σ : Nat → Value} {φ : Nat → List Nat} {a : Act} {w : World} (h : La n0 A O0 w0 s σ φ a w)
 (he : (bif draw then Qo G H ops ops.toList 0 [] s k else Pp G id ops ops.toList 0 s k) = some out) (hQ : ∀ a w, Bd n0 A O0 w0 k out a w → Q .normal a w) : (Code.region id ops draw).wp P Q a w := by
 cases draw with
 | false =>
  simp only [cond_false] at he
  refine wp_region ?_
  have := SI (P := P) (Q := Q) hG hfz (fun s σ φ a w h1 h2 => hQ a w ⟨s, σ, φ, h1, h2⟩) ops.toList 0 s σ φ a w (by simp) he h
  simpa using this
 | true =>
  simp only [cond_true] at he
  obtain ⟨E, F, anc, hPM, sf, h1, h2⟩ := XJ (s0 := s) ops.toList 0 [] s (fun _ => (.und, [])) (fun _ => ⟨[], [], none, [], []⟩) (fun _ => []) (by simp) he (Kf.refl s) (by intro j hj; omega) (by intro m o hm; omega)
  refine wp_region_any hm ?_
  refine CR hG hfz hPM (fun σ φ a w hc => hQ a w ⟨sf, σ, φ, h1, hc.eqv h2⟩) ops.size (Array.replicate ops.size false) σ φ a _ (by simp) ?_ ?_ ?_
  ·have := List.countP_le_length (p := fun j => !(Array.replicate ops.size false).getD j true) (l := List.range ops.size)
   simpa using this
  ·intro j o ho hL
   rw [HJ] at hL
   simp at hL
  ·have : Nc ops E (Ik (Array.replicate ops.size false)) s ops.size = s := by
    rw [RA (i := 0) ops.size (Nat.zero_le _) fun j _ _ => HJ]
    rfl
   rw [this]
   exact h.drew
end
theorem YM {s : AS} : ∀ {td : TD} {d : D} {x : T td.ty} {m : Yf}, Sc s td d = some (x, m) → (Dk td x).isAgg = d.isAgg := by
 intro td
 cases td with
 | data τ =>
  intro d x m h
  simp only [Sc] at h
  split at h
  ·rename_i y hy
   simp only [jc, jh] at h
   obtain ⟨rfl, _⟩ := h
   have hs := (Ge (w := default) (σ := fun _ => undef) (O := fun _ => False) (hp := fun _ => none) hy).1
   rw [hs.isAgg]
   cases τ <;> rfl
  ·simp at h
 | own id e dp =>
  intro d x m h
  cases d <;> simp [Sc] at h <;> rfl
 | ptr id p =>
  intro d x m h
  cases d <;> simp [Sc] at h <;> rfl
 | hol id e p τ td =>
  intro d x m h
  cases d <;> simp [Sc] at h <;> rfl
 | arr id e =>
  intro d x m h
  cases d <;> first | rfl | (simp [Sc] at h; done)
 | mov id e =>
  intro d x m h
  cases d <;> simp [Sc] at h <;> rfl
 | mpo id k v =>
  intro d x m h
  cases d <;> simp [Sc] at h <;> rfl
 | pr a b =>
  intro d x m h
  simp only [Sc] at h
  cases d with
  | t τ v => cases τ <;> simp [D.fst] at h <;> rfl
  | pr u v => rfl
  | _ => simp [D.fst] at h
 | un =>
  intro d x m h
  simp only [Sc] at h
  split at h
  ·rename_i y hy
   have hs := (Ge (w := default) (σ := fun _ => undef) (O := fun _ => False) (hp := fun _ => none) hy).1
   rw [hs.isAgg]
   rfl
  ·simp at h
def Fw (m m' : Yf) : Prop := ∀ p, p ∈ m → p ∈ m'
section
variable {w : World} {s : AS} {σ σ' : Nat → Value} {O O' : Nat → Prop} {hp' : Nat → Option Da} {m : Yf}
structure WV (s : AS) (σ σ' : Nat → Value) (hp' : Nat → Option Da) (m : Yf) : Prop where
 isS : ∀ j i, (j, some i) ∈ m → σ' j = σ i
 isN : ∀ j, (j, none) ∈ m → σ' j = .slice none 0 0
 isB : ∀ j i ρ d, (j, some i) ∈ m → hp' j = some (.box ρ d) → ∃ d', s.heap i = some (.box ρ d')
 isR : ∀ j i Ca r, (j, some i) ∈ m → hp' j = some Ca → Ca.rowN = some r → ∃ blk', s.heap i = some blk' ∧ blk'.rowN = some r
theorem Jy (hT : WV s σ σ' hp' m) (hO : ∀ b, b < w.heap.size → ¬ O b → ¬ O' b) : ∀ {td : TD} {d : D} {x : T td.ty} {m0 : Yf} {cs : List Value}, Sc s td d = some (x, m0) → Fw m0 m → Na w O s.heap σ d cs →
 Na w O' hp' σ' (Dk td x) cs := by
 intro td
 induction td with
 | data τ =>
  intro d x m0 cs h hm hr
  simp only [Sc] at h
  split at h
  ·rename_i y hy
   simp only [jc, jh] at h
   obtain ⟨rfl, _⟩ := h
   exact Ha.stable (fun _ _ _ => rfl) hO ((Ge hy).2 _ hr)
  ·simp at h
 | own id' e dp =>
  intro d x m0 cs h hm hr
  cases d with
  | own id =>
   simp only [Sc] at h
   split at h
   ·rename_i e' dp' xs hb
    split at h
    ·rename_i q hq
     subst q
     simp only [Ba] at h
     obtain ⟨_, h⟩ := h
     simp only [jc, jh] at h
     obtain ⟨rfl, rfl⟩ := h
     obtain ⟨v, hcs, h1, hv⟩ := hr
     refine ⟨v, hcs, h1, fun _ _ _ _ => ?_⟩
     rw [hT.isS id' id (hm _ (by simp))]
     exact hv _ _ hb rfl
    ·simp at h
   ·simp at h
  | nil =>
   simp only [Sc, jc, jh] at h
   obtain ⟨rfl, rfl⟩ := h
   simp only [Na] at hr
   exact ⟨_, hr, rfl, fun _ _ _ _ => (hT.isN id' (hm _ (by simp))).symm⟩
  | _ => simp [Sc] at h
 | mpo id' k v =>
  intro d x m0 cs h hm hr
  cases d with
  | mpo id =>
   simp only [Sc] at h
   split at h
   ·rename_i k' v' xs hb
    split at h
    ·rename_i q1 q2 hq1 hq2
     subst q1
     subst q2
     simp only [jc, jh] at h
     obtain ⟨rfl, rfl⟩ := h
     obtain ⟨u, hcs, h1, hv⟩ := hr
     refine ⟨u, hcs, h1, fun _ _ _ _ => ?_⟩
     rw [hT.isS id' id (hm _ (by simp))]
     exact hv _ _ _ hb
    ·simp at h
   ·simp at h
  | _ => simp [Sc] at h
 | hol id' e p τ td _ =>
  intro d x m0 cs h hm hr
  cases d with
  | own id =>
   simp only [Sc] at h
   split at h
   ·rename_i e' xs i x1 p' τ' d' hb
    split at h
    ·simp only [Ba] at h
     obtain ⟨_, h⟩ := h
     split at h
     ·rename_i y m1 h1
      simp only [Ba] at h
      obtain ⟨_, h⟩ := h
      simp only [jc, jh] at h
      obtain ⟨rfl, rfl⟩ := h
      obtain ⟨v, hcs, h1, hv⟩ := hr
      refine ⟨v, hcs, h1, fun _ _ _ _ => ?_⟩
      rw [hT.isS id' id (hm _ (by simp))]
      exact hv _ _ hb rfl
     ·simp at h
    ·simp at h
   ·simp at h
  | _ => simp [Sc] at h
 | arr id' e =>
  intro d x m0 cs h hm hr
  cases d with
  | eptr id i q =>
   cases i with
   | succ i => simp [Sc] at h
   | zero =>
    cases q with
    | cons _ _ => simp [Sc] at h
    | nil =>
     simp only [Sc] at h
     split at h
     ·rename_i e' xs hb
      split at h
      ·rename_i q hq
       subst q
       simp only [jc, jh] at h
       obtain ⟨rfl, rfl⟩ := h
       obtain ⟨v, hcs, h1, hv⟩ := hr
       refine ⟨v, hcs, h1, fun blk' e2 n2 hb' hr' => ?_⟩
       obtain ⟨blk0, hb0, hr0⟩ := hT.isR id' id blk' _ (hm _ (by simp)) hb' hr'
       rw [hT.isS id' id (hm _ (by simp))]
       exact hv _ _ _ hb0 hr0
      ·simp at h
     ·simp at h
  | _ => simp [Sc] at h
 | mov id' e =>
  intro d x m0 cs h hm hr
  cases d with
  | own id =>
   simp only [Sc] at h
   split at h
   ·rename_i e' xs hb
    split at h
    ·rename_i q hq
     subst q
     simp only [jc, jh] at h
     obtain ⟨rfl, rfl⟩ := h
     obtain ⟨v, hcs, h1, hv⟩ := hr
     refine ⟨v, hcs, h1, fun _ _ _ _ => ?_⟩
     rw [hT.isS id' id (hm _ (by simp))]
     exact hv _ _ hb rfl
    ·simp at h
   ·rename_i e' xs k hb
    split at h
    ·rename_i q hq
     subst q
     simp only [jc, jh] at h
     obtain ⟨rfl, rfl⟩ := h
     obtain ⟨v, hcs, h1, hv⟩ := hr
     refine ⟨v, hcs, h1, fun _ _ _ _ => ?_⟩
     rw [hT.isS id' id (hm _ (by simp))]
     exact hv _ _ hb rfl
    ·simp at h
   ·simp at h
  | _ => simp [Sc] at h
 | ptr id' p =>
  intro d x m0 cs h hm hr
  cases d with
  | ptr id q =>
   simp only [Sc, Ba] at h
   obtain ⟨hpq, h⟩ := h
   simp only [jc, jh] at h
   obtain ⟨_, rfl⟩ := h
   have hpq' : p = q := by simpa using hpq
   subst hpq'
   obtain ⟨v, hcs, h1, hv⟩ := hr
   refine ⟨v, hcs, h1, fun ρ d hb => ?_⟩
   obtain ⟨d', hd'⟩ := hT.isB id' id ρ d (hm _ (by simp)) hb
   rw [hT.isS id' id (hm _ (by simp))]
   exact hv ρ d' hd'
  | _ => simp [Sc] at h
 | pr a b iha ihb =>
  intro d x m0 cs h hm hr
  simp only [Sc] at h
  split at h
  ·rename_i d1 d2 h1 h2
   split at h
   ·rename_i u l v l' h3 h4
    simp only [jc, jh] at h
    obtain ⟨rfl, rfl⟩ := h
    have key : ∃ c1 c2, cs = c1 ++ c2 ∧ Na w O s.heap σ d1 c1 ∧ Na w O s.heap σ d2 c2 := by
     cases d with
     | t τ v =>
      cases τ with
      | p t1 t2 =>
       simp only [D.fst, D.snd, jc] at h1 h2
       subst h1; subst h2
       exact hr
      | _ => simp [D.fst] at h1
     | pr d1' d2' =>
      simp only [D.fst, D.snd, jc] at h1 h2
      subst h1; subst h2
      exact hr
     | _ => simp [D.fst] at h1
    obtain ⟨c1, c2, hc, r1, r2⟩ := key
    exact ⟨c1, c2, hc, iha h3 (fun p hp => hm p (List.mem_append_left _ hp)) r1, ihb h4 (fun p hp => hm p (List.mem_append_right _ hp)) r2⟩
   ·simp at h
  ·simp at h
 | un =>
  intro d x m0 cs h hm hr
  simp only [Sc] at h
  split at h
  ·rename_i y hy
   exact (Ge hy).2 _ hr
  ·simp at h
theorem JQ (hT : WV s σ σ' hp' m) (hO : ∀ b, b < w.heap.size → ¬ O b → ¬ O' b) {td : TD} {d : D} {x : T td.ty} {m0 : Yf} {v : Value} (h : Sc s td d = some (x, m0)) (hm : Fw m0 m) (hr : Ub w O s.heap σ d v) :
 Ub w O' hp' σ' (Dk td x) v := by
 have hne : Xc w O s.heap σ d v := by
  cases d with
  | und => cases td <;> simp [Sc, Jf, D.fst] at h
  | anyv => cases td <;> simp [Sc, Jf, D.fst] at h
  | tup ds => cases td <;> simp [Sc, Jf, D.fst] at h
  | _ => exact hr
 refine Zl ?_
 unfold Xc at hne ⊢
 rw [YM h]
 split
 ·rename_i ha
  rw [if_pos ha] at hne
  obtain ⟨cs, h1, h2⟩ := hne
  exact ⟨cs, h1, Jy hT hO h hm h2⟩
 ·rename_i ha
  rw [if_neg ha] at hne
  exact Jy hT hO h hm hne
def IF (s : AS) (m : Yf) (j : Nat) (Ca : Da) : Prop :=
 ((j, none) ∈ m ∧ ∃ e dp, Ca = .row e dp ([] : List (T e))) ∨
 ∃ i, (j, some i) ∈ m ∧ ((∃ e dp dp' xs, Ca = .row e dp xs ∧ s.heap i = some (.row e dp' xs) ∧ (dp' = dp ∨ e.flat = true)) ∨
  (∃ ρ d td x m0, Ca = .box ρ (Dk td x) ∧ s.heap i = some (.box ρ d) ∧ Sc s td d = some (x, m0) ∧ Fw m0 m ∧ Oa ρ (Dk td x)) ∨
  (∃ e xs k x p τ d td y m0, Ca = .hol e xs k x p τ (Dk td y) ∧ s.heap i = some (.hol e xs k x p τ d) ∧ Sc s td d = some (y, m0) ∧ Fw m0 m ∧ Oa τ (Dk td y)) ∨
  (∃ e xs k, Ca = .mov e xs k ∧ (s.heap i = some (.mov e xs k) ∨ (s.heap i = some (.row e true xs) ∧ k = 0))) ∨
  ∃ k v xs, Ca = .mp k v xs ∧ s.heap i = some (.mp k v xs))
theorem Ez : ∀ {td : TD} {d : D} {x : T td.ty} {m0 : Yf}, Sc s td d = some (x, m0) → Fw m0 m → ∀ p, p ∈ Km td x → ∃ Ca, p.2 = some Ca ∧ IF s m p.1 Ca := by
 intro td
 induction td with
 | own id' e dp =>
  intro d x m0 h hm p hp
  simp only [Km, qc] at hp
  subst hp
  cases d with
  | own id =>
   simp only [Sc] at h
   split at h
   ·rename_i e' dp' xs hb
    split at h
    ·rename_i q hq
     subst q
     simp only [Ba] at h
     obtain ⟨hc, h⟩ := h
     simp only [jc, jh] at h
     obtain ⟨rfl, rfl⟩ := h
     refine ⟨_, rfl, .inr ⟨id, hm _ (by simp), .inl ⟨_, dp, dp', _, rfl, hb, ?_⟩⟩⟩
     simpa using hc
    ·simp at h
   ·simp at h
  | nil =>
   simp only [Sc, jc, jh] at h
   obtain ⟨rfl, rfl⟩ := h
   exact ⟨_, rfl, .inl ⟨hm _ (by simp), e, dp, rfl⟩⟩
  | _ => simp [Sc] at h
 | hol id' e pth τ td ih =>
  intro d x m0 h hm p hp
  cases d with
  | own id =>
   simp only [Sc] at h
   split at h
   ·rename_i e' xs i x1 p' τ' d' hb
    split at h
    ·rename_i q1 q2 hq1 hq2
     subst q1
     obtain rfl := Zc hq2
     simp only [Ba] at h
     obtain ⟨hpp, h⟩ := h
     have hpp : pth = p' := by simpa using hpp
     subst hpp
     split at h
     ·rename_i y m1 h1
      simp only [Ba] at h
      obtain ⟨hsh, h⟩ := h
      simp only [jc, jh] at h
      obtain ⟨rfl, rfl⟩ := h
      simp only [Km] at hp
      rcases jp.1 hp with rfl | hp
      ·exact ⟨_, rfl, .inr ⟨id, hm _ (by simp), .inr (.inr (.inl ⟨_, _, i, _, _, _, d', td, y, m1, by simp only [jn], hb, h1, fun p hp => hm p (jr _ hp), Ah hsh⟩))⟩⟩
      ·exact ih h1 (fun p hp => hm p (jr _ hp)) p hp
     ·simp at h
    ·simp at h
   ·simp at h
  | _ => simp [Sc] at h
 | pr a b iha ihb =>
  intro d x m0 h hm p hp
  simp only [Sc] at h
  split at h
  ·split at h
   ·rename_i u l v l' h3 h4
    simp only [jc, jh] at h
    obtain ⟨rfl, rfl⟩ := h
    simp only [Km] at hp
    rcases jl.1 hp with hp | hp
    ·exact iha h3 (fun p hp => hm p (List.mem_append_left _ hp)) p hp
    ·exact ihb h4 (fun p hp => hm p (List.mem_append_right _ hp)) p hp
   ·simp at h
  ·simp at h
 | arr id' e =>
  intro d x m0 h hm p hp
  simp only [Km, qc] at hp
  subst hp
  cases d with
  | eptr id i q =>
   cases i with
   | succ i => simp [Sc] at h
   | zero =>
    cases q with
    | cons _ _ => simp [Sc] at h
    | nil =>
     simp only [Sc] at h
     split at h
     ·rename_i e' xs hb
      split at h
      ·rename_i q hq
       subst q
       simp only [jc, jh] at h
       obtain ⟨rfl, rfl⟩ := h
       exact ⟨_, rfl, .inr ⟨id, hm _ (by simp), .inl ⟨_, true, true, _, rfl, hb, .inl rfl⟩⟩⟩
      ·simp at h
     ·simp at h
  | _ => simp [Sc] at h
 | mpo id' k v =>
  intro d x m0 h hm p hp
  simp only [Km, qc] at hp
  subst hp
  cases d with
  | mpo id =>
   simp only [Sc] at h
   split at h
   ·rename_i k' v' xs hb
    split at h
    ·rename_i q1 q2 hq1 hq2
     subst q1
     subst q2
     simp only [jc, jh] at h
     obtain ⟨rfl, rfl⟩ := h
     exact ⟨_, rfl, .inr ⟨id, hm _ (by simp), .inr (.inr (.inr (.inr ⟨_, _, _, rfl, hb⟩)))⟩⟩
    ·simp at h
   ·simp at h
  | _ => simp [Sc] at h
 | mov id' e =>
  intro d x m0 h hm p hp
  simp only [Km, qc] at hp
  subst hp
  cases d with
  | own id =>
   simp only [Sc] at h
   split at h
   ·rename_i e' xs hb
    split at h
    ·rename_i q hq
     subst q
     simp only [jc, jh] at h
     obtain ⟨rfl, rfl⟩ := h
     exact ⟨_, rfl, .inr ⟨id, hm _ (by simp), .inr (.inr (.inr (.inl ⟨_, _, 0, rfl, .inr ⟨hb, rfl⟩⟩)))⟩⟩
    ·simp at h
   ·rename_i e' xs k hb
    split at h
    ·rename_i q hq
     subst q
     simp only [jc, jh] at h
     obtain ⟨rfl, rfl⟩ := h
     exact ⟨_, rfl, .inr ⟨id, hm _ (by simp), .inr (.inr (.inr (.inl ⟨_, _, k, by simp only [jn], .inl hb⟩)))⟩⟩
    ·simp at h
   ·simp at h
  | _ => simp [Sc] at h
 | _ => intro d x m0 h hm p hp; simp [Km] at hp
theorem AJ : ∀ {l : List (Tmp × TD)} {x : T (Vm.tyT l)} {m0 : Yf}, AL s l = some (x, m0) → Fw m0 m →
 (∀ t d', Ra (EC l x) t = some d' → ∃ td d y m1, Ra s.tm t = some d ∧ Sc s td d = some (y, m1) ∧ Fw m1 m ∧ d' = Dk td y) ∧ (∀ p, p ∈ OC l x → ∃ Ca, p.2 = some Ca ∧ IF s m p.1 Ca)
 | [], x, m0, h, hm => ⟨by simp [EC, Ra], by simp [OC]⟩
 | (t0, td) :: r, x, m0, h, hm => by
  simp only [AL] at h
  split at h
  ·rename_i d hd
   split at h
   ·rename_i y m1 z m2 h1 h2
    simp only [jc, jh] at h
    obtain ⟨rfl, rfl⟩ := h
    have hm1 : Fw m1 m := fun p hp => hm p (List.mem_append_left _ hp)
    obtain ⟨i1, i2⟩ := AJ h2 (fun p hp => hm p (List.mem_append_right _ hp))
    refine ⟨fun t d' ht => ?_, fun p hp => ?_⟩
    ·simp only [EC] at ht
     rw [Rb] at ht
     split at ht
     ·rename_i e
      subst e
      simp only [jc] at ht
      exact ⟨td, d, y, m1, hd, h1, hm1, ht.symm⟩
     ·exact i1 t d' ht
    ·simp only [OC] at hp
     rcases jl.1 hp with hp | hp
     ·exact Ez h1 hm1 p hp
     ·exact i2 p hp
   ·simp at h
  ·simp at h
theorem ZI : ∀ {l : List (Nat × Ty × TD)} {x : T (Vm.tyB l)} {m0 m' : Yf}, QG s l m0 = some (x, m') → Fw m' m →
 Fw m0 m ∧ ∀ p, p ∈ DC l x → ∃ Ca, p.2 = some Ca ∧ IF s m p.1 Ca
 | [], x, m0, m', h, hm => by
  simp only [QG, jc, jh] at h
  obtain ⟨_, rfl⟩ := h
  exact ⟨hm, by simp [DC]⟩
 | (id', ρ, td) :: r, x, m0, m', h, hm => by
  simp only [QG] at h
  split at h
  ·rename_i id hid
   split at h
   ·rename_i ρ' d hb
    split at h
    ·rename_i q hq
     obtain rfl := q.down
     split at h
     ·rename_i y m1 h1
      simp only [Ba] at h
      obtain ⟨hsh, h⟩ := h
      split at h
      ·rename_i z m2 h2
       simp only [jc, jh] at h
       obtain ⟨rfl, rfl⟩ := h
       obtain ⟨i1, i2⟩ := ZI h2 hm
       have hm0 : Fw m0 m := fun p hp => i1 p (List.mem_append_left _ hp)
       have hm1 : Fw m1 m := fun p hp => i1 p (List.mem_append_right _ hp)
       refine ⟨hm0, fun p hp => ?_⟩
       simp only [DC] at hp
       rcases jp.1 hp with rfl | hp
       ·exact ⟨_, rfl, .inr ⟨id, hm0 _ (Ll hid), .inr (.inl ⟨_, d, td, y, m1, rfl, hb, h1, hm1, Ah hsh⟩)⟩⟩
       ·rcases jl.1 hp with hp | hp
        ·exact Ez h1 hm1 p hp
        ·exact i2 p hp
      ·simp at h
     ·simp at h
    ·simp at h
   ·simp at h
  ·simp at h
end
theorem Wv : ∀ {m : Yf}, Rr m = true → ∀ j i, (j, some i) ∈ m → (j < 500000 ∧ i < 500000) ∨ j = i
 | [], _, _, _, h => by simp at h
 | (j0, some i0) :: r, hp, j, i, h => by
  simp only [Rr, jd, Bool.or_eq_true] at hp
  rcases jp.1 h with e | h
  ·simp only [jh, jc] at e
   obtain ⟨rfl, rfl⟩ := e
   rcases hp.1 with h1 | h1
   ·rw [Nat.blt_eq, Nat.blt_eq] at h1; exact .inl h1
   ·exact .inr (ju h1)
  ·exact Wv hp.2 j i h
 | (j0, none) :: r, hp, j, i, h => by
  simp only [Rr, jd] at hp
  rcases jp.1 h with e | h
  ·simp at e
  ·exact Wv hp.2 j i h
theorem Vv : ∀ {m : Yf}, Rr m = true → ∀ j, (j, none) ∈ m → j < 500000
 | [], _, _, h => by simp at h
 | (j0, some i0) :: r, hp, j, h => by
  simp only [Rr, jd] at hp
  rcases jp.1 h with e | h
  ·simp at e
  ·exact Vv hp.2 j h
 | (j0, none) :: r, hp, j, h => by
  simp only [Rr, jd] at hp
  rcases jp.1 h with e | h
  ·simp only [jh, and_true] at e
   subst e
   have := hp.1
   rwa [Nat.blt_eq] at this
  ·exact Vv hp.2 j h
theorem OJ {m : Yf} (h : (m.all fun x => m.all fun y => Yq x y) = true) {x y : Nat × Option Nat} (hx : x ∈ m) (hy : y ∈ m) : Yq x y = true :=
 List.all_eq_true.1 (List.all_eq_true.1 h x hx) y hy
theorem DR {m : Yf} (h : (m.all fun x => m.all fun y => Yq x y) = true) {j : Nat} {a c : Option Nat} (hx : (j, a) ∈ m) (hy : (j, c) ∈ m) : a = c := by
 have := OJ h hx hy
 unfold Yq at this
 cases a with
 | none => cases c with
  | none => rfl
  | some c => simp at this
 | some a => cases c with
  | none => simp at this
  | some c => simpa [Nat.beq_eq] using this
theorem ER {m : Yf} (h : (m.all fun x => m.all fun y => Yq x y) = true) {j j' i : Nat} (hx : (j, some i) ∈ m) (hy : (j', some i) ∈ m) : j = j' := by
 have := OJ h hx hy
 unfold Yq at this
 simpa using this
theorem UD {α : Type} {j : Nat} {a : α} : ∀ {m : List (Nat × α)}, (j, a) ∈ m → ∃ c, Ra m j = some c ∧ (j, c) ∈ m
 | [], h => by simp at h
 | (j0, a0) :: r, h => by
  rw [Rb]
  by_cases hj : j0 = j
  ·subst hj; exact ⟨a0, by simp, by simp⟩
  ·rw [if_neg hj]
   rcases jp.1 h with e | h
   ·simp only [jh] at e
    exact absurd e.1.symm hj
   ·obtain ⟨c, h1, h2⟩ := UD h
    exact ⟨c, h1, jr _ h2⟩
theorem Ml {m : Yf} (h : (m.all fun x => m.all fun y => Yq x y) = true) {j : Nat} {a : Option Nat} (hx : (j, a) ∈ m) : Ra m j = some a := by
 obtain ⟨c, h1, h2⟩ := UD hx
 rw [h1, DR h hx h2]
section
variable {n0 : Nat} {A : Fx} {O0 : Nat → Prop} {w0 w : World} {s : AS} {σ : Nat → Value} {φ : Nat → List Nat} {a : Act}
theorem Ky (h : La n0 A O0 w0 s σ φ a w) {p : Vm} {x : p.X} (he : ext p s = some x) : ∃ σ' φ', La n0 A O0 w0 (Hs p x s.n) σ' φ' a w := by
 unfold ext at he
 split at he
 ·rename_i x1 m1 h1
  split at he
  ·rename_i x2 m h2
   simp only [Ba] at he
   obtain ⟨hmo, he⟩ := he
   simp only [jc] at he
   subst he
   simp only [NS, jd] at hmo
   obtain ⟨hn1, hpo⟩ := hmo
   obtain ⟨hm1, hB⟩ := ZI h2 (fun p hp => hp)
   obtain ⟨hT1, hT2⟩ := AJ h1 hm1
   let σ' : Nat → Value := fun j => match Ra m j with
    | some (some i) => σ i
    | some none => .slice none 0 0
    | none => σ j
   let φ' : Nat → List Nat := fun j => match Ra m j with
    | some (some i) => φ i
    | _ => []
   have hσs : ∀ j i, (j, some i) ∈ m → σ' j = σ i ∧ φ' j = φ i := fun j i hj => by
    have := Ml hn1 hj
    simp only [σ', φ', this, and_self]
   have hσn : ∀ j, (j, none) ∈ m → σ' j = .slice none 0 0 ∧ φ' j = [] := fun j hj => by
    have := Ml hn1 hj
    simp only [σ', φ', this, and_self]
   have hent : ∀ j Ca, (Hs p (x1, x2) s.n).heap j = some Ca → IF s m j Ca := by
    intro j Ca hj
    have hmem := AS.heap_mem hj
    simp only [Hs] at hmem
    rcases jl.1 hmem with hmem | hmem
    ·obtain ⟨blk', e, hE⟩ := hT2 _ hmem
     simp only [jc] at e
     subst e
     exact hE
    ·obtain ⟨blk', e, hE⟩ := hB _ hmem
     simp only [jc] at e
     subst e
     exact hE
   have hlive : ∀ j Ca, (Hs p (x1, x2) s.n).heap j = some Ca → φ' j = [] ∨ ∃ i blk0, (j, some i) ∈ m ∧ s.heap i = some blk0 ∧ φ' j = φ i := by
    intro j Ca hj
    rcases hent j Ca hj with ⟨hn, _⟩ | ⟨i, hi, ⟨e, dp, dp', xs, _, hb, _⟩ | ⟨ρ, d, td, y, m0, _, hb, _⟩ | ⟨e, xs, k, x, p, τ, d, td, y, m0, _, hb, _⟩ | ⟨e, xs, k, _, hb | ⟨hb, _⟩⟩ | ⟨_, _, _, _, hb⟩⟩
    ·exact .inl (hσn j hn).2
    ·exact .inr ⟨i, _, hi, hb, (hσs j i hi).2⟩
    ·exact .inr ⟨i, _, hi, hb, (hσs j i hi).2⟩
    ·exact .inr ⟨i, _, hi, hb, (hσs j i hi).2⟩
    ·exact .inr ⟨i, _, hi, hb, (hσs j i hi).2⟩
    ·exact .inr ⟨i, _, hi, hb, (hσs j i hi).2⟩
    ·exact .inr ⟨i, _, hi, hb, (hσs j i hi).2⟩
   have hOO : ∀ b, b < w.heap.size → ¬ OO O0 s φ b → ¬ OO O0 (Hs p (x1, x2) s.n) φ' b := by
    rintro b _ hno (ho | ⟨j, Ca, hj, hm⟩)
    ·exact hno (.inl ho)
    ·rcases hlive j Ca hj with hφ | ⟨i, blk0, _, hb, hφ⟩
     ·rw [hφ] at hm; simp at hm
     ·rw [hφ] at hm; exact hno (.inr ⟨i, blk0, hb, hm⟩)
   have hTOk : WV s σ σ' (Hs p (x1, x2) s.n).heap m := by
    refine ⟨fun j i hj => (hσs j i hj).1, fun j hj => (hσn j hj).1, fun j i ρ d hj hb => ?_, fun j i Ca r hj hb hr => ?_⟩
    rcases hent j _ hb with ⟨hn, e, dp, hh⟩ | ⟨i', hi', ⟨e, dp, dp', xs, hh, _⟩ | ⟨ρ', d', td, y, m0, hh, hb', _⟩ | ⟨e, xs, k, x, p, τ, d', td, y, m0, hh, _⟩ | ⟨e, xs, k, hh, _⟩ | ⟨_, _, _, hh, _⟩⟩
    ·simp at hh
    ·simp at hh
    ·simp only [Da.box.injEq] at hh
     have e1 := Ml hn1 hj
     have e2 := Ml hn1 hi'
     rw [e1] at e2
     simp only [jc] at e2
     subst e2
     exact ⟨d', by rw [hb', hh.1]⟩
    ·simp at hh
    ·simp at hh
    ·simp at hh
    ·have e1 := Ml hn1 hj
     rcases hent j _ hb with ⟨hn, _⟩ | ⟨i', hi', hx⟩
     ·have e2 := Ml hn1 hn
      rw [e1] at e2
      simp at e2
     ·have e2 := Ml hn1 hi'
      rw [e1] at e2
      simp only [jc] at e2
      subst e2
      rcases hx with ⟨e, dp, dp', xs, rfl, hb', _⟩ | ⟨ρ', d', td, y, m0, rfl, _⟩ | ⟨e, xs, k, x, p, τ, d', td, y, m0, rfl, hb', _⟩ | ⟨e, xs, k, rfl, hb' | ⟨hb', _⟩⟩ | ⟨_, _, _, rfl, _⟩
      ·exact ⟨_, hb', hr⟩
      ·simp [Da.rowN] at hr
      ·exact ⟨_, hb', hr⟩
      ·exact ⟨_, hb', hr⟩
      ·exact ⟨_, hb', hr⟩
      ·simp [Da.rowN] at hr
   refine ⟨σ', φ', h.sz, h.df, ?_, ?_, ?_, ?_, ?_, h.o0, h.fr, ?_, h.iv0, h.ivw⟩
   ·intro t d' hd
    obtain ⟨td, d, y, m0, g1, g2, g3, g4⟩ := hT1 t d' hd
    obtain ⟨v, hv, hr⟩ := h.tm t d g1
    rw [g4]
    exact ⟨v, hv, JQ hTOk hOO g2 g3 hr⟩
   ·intro j Ca hj
    rcases hent j Ca hj with ⟨hn, e, dp, rfl⟩ | ⟨i, hi, ⟨e, dp, dp', xs, rfl, hb, hd⟩ | ⟨ρ, d, td, y, m0, rfl, hb, hex, hsub, hsh⟩ | ⟨e, xs, k, x, p, τ, d, td, y, m0, rfl, hb, hex, hsub, hsh⟩ | ⟨e, xs, k, rfl, hb⟩ | ⟨kk, vv, xs, rfl, hb⟩⟩
    ·rw [Ug, (hσn j hn).1, (hσn j hn).2]
     exact ⟨by simp, .inl ⟨rfl, rfl, rfl⟩⟩
    ·rw [Ug, (hσs j i hi).1, (hσs j i hi).2]
     have hrow := Ug.1 (h.hp i _ hb)
     have hst : ∀ dq, Lf w (OO O0 s φ) dq e xs (σ i) (φ i) → Lf w (OO O0 (Hs p (x1, x2) s.n) φ') dq e xs (σ i) (φ i) := by
      rintro dq ⟨hm, g | ⟨bl, off, cap, cur, et, Fs, g1, hh, g2, g3, g4, hF, hel⟩⟩
      ·exact ⟨hm, .inl g⟩
      ·exact ⟨hm, .inr ⟨bl, off, cap, cur, et, Fs, g1, hh, g2, g3, g4, hF, hel.stable (fun _ _ _ => rfl) hOO (fun _ _ => rfl)⟩⟩
     rcases hd with rfl | hf
     ·exact hst _ hrow
     ·have hup := hrow.up
      rw [hf, Bool.or_true] at hup
      cases dp with
      | true => exact hst _ hup
      | false =>
       cases dp' with
       | false => exact hst _ hrow
       | true =>
        have hown := Ny (h.hp i _ hb) (.inl rfl)
        exact hst _ (Ug.1 (ID (O := OO O0 s φ) (hp := s.heap) hown hf))
    ·rw [(hσs j i hi).2]
     obtain ⟨_, b, cur, et, g1, hh, hF, hr, hsz⟩ := h.hp i _ hb
     exact ⟨hsh, b, cur, et, by rw [(hσs j i hi).1]; exact g1, hh, hF, Jy hTOk hOO hex hsub hr, hsz⟩
    ·rw [(hσs j i hi).2]
     obtain ⟨_, g1, g2, g3, bl, off, cap, cur, et, g4, g5, g6, g7, hr, hw⟩ := h.hp i _ hb
     refine ⟨hsh, g1, g2, g3, bl, off, cap, cur, et, by rw [(hσs j i hi).1]; exact g4, g5, g6, g7, Jy hTOk hOO hex hsub hr, fun w' c' h1 h2 h3 y Fy x' h4 h5 => ?_⟩
     rw [(hσs j i hi).1]
     exact hw w' c' h1 h2 h3 y Fy x' h4 h5
    ·rw [(hσs j i hi).2]
     have hm0 : Ob w (OO O0 s φ) s.heap σ i (.mov e xs k) (φ i) := by
      rcases hb with hb | ⟨hb, rfl⟩
      ·exact h.hp i _ hb
      ·exact WH (h.hp i _ hb)
     obtain ⟨hlen, ⟨g1, g2, g3⟩ | ⟨bl, off, cap, cur, et, Fs, g1, g⟩⟩ := hm0
     ·exact ⟨hlen, .inl ⟨by rw [(hσs j i hi).1]; exact g1, g2, g3⟩⟩
     ·exact ⟨hlen, .inr ⟨bl, off, cap, cur, et, Fs, by rw [(hσs j i hi).1]; exact g1, g⟩⟩
    ·rw [(hσs j i hi).2]
     obtain ⟨r, es, clk, g1, g2, g3, g4, g5⟩ := h.hp i _ hb
     exact ⟨r, es, clk, by rw [(hσs j i hi).1]; exact g1, g2, g3, Ry (fun _ _ _ => rfl) hOO ⟨g4, g5⟩⟩
   ·intro j Ca hj
    rcases hlive j Ca hj with hφ | ⟨i, blk0, _, hb, hφ⟩
    ·rw [hφ]; exact List.nodup_nil
    ·rw [hφ]; exact h.nodup i blk0 hb
   ·intro j j' Ca blk' hne hj hj' b hb hb'
    rcases hlive j Ca hj with hφ | ⟨i, blk0, hi, hbi, hφ⟩
    ·rw [hφ] at hb; simp at hb
    ·rcases hlive j' blk' hj' with hφ' | ⟨i', blk0', hi', hbi', hφ'⟩
     ·rw [hφ'] at hb'; simp at hb'
     ·rw [hφ] at hb
      rw [hφ'] at hb'
      by_cases hii : i = i'
      ·subst hii
       exact hne (ER hn1 hi hi')
      ·exact h.disj i i' blk0 blk0' hii hbi hbi' b hb hb'
   ·intro j Ca hj b hb
    rcases hlive j Ca hj with hφ | ⟨i, blk0, _, hbi, hφ⟩
    ·rw [hφ] at hb; simp at hb
    ·rw [hφ] at hb; exact h.fresh i blk0 hbi b hb
   ·intro j v hv
    have hlow := A.low j v hv
    show σ' j = v
    simp only [σ']
    split
    ·rename_i i hg
     rcases Wv hpo j i (Ll hg) with ⟨hj, _⟩ | rfl
     ·omega
     ·exact h.pin _ v hv
    ·rename_i hg
     have := Vv hpo j (Ll hg)
     omega
    ·exact h.pin j v hv
  ·simp at he
 ·simp at he
end
def EW : Ex → Exit
 | .normal => .normal
 | .exit id => .exit id
 | .ret => .ret
def Er {X R : Type} (step : X → Option (X ⊕ R)) : Nat → X → R → Prop
 | 0, _, _ => False
 | n + 1, x, r => step x = some (.inr r) ∨ ∃ x', step x = some (.inl x') ∧ Er step n x' r
def Ad : Code → List Code
 | .seq a b => Ad a ++ Ad b
 | .cond _ a b => Ad a ++ Ad b
 | .block _ c => Ad c
 | .loop c => c :: Ad c
 | _ => []
def Bc (G : Fd) (L : List (Nat × Hb)) (b : Code) : Prop :=
 ∀ r ls, Gg b = some r → Ra L r = some ls → ∀ x y, ls.F x = some y → ∃ m, Er (Mt G L ls b) m x y
section
variable {P : Program} {n0 : Nat} {A : Fx} {O0 : Nat → Prop} {w0 : World} {G : Fd} {L : List (Nat × Hb)}
theorem PG (hG : Eg P A.I G) (hfz : G.fz = true → ∀ b, ¬ A.A b) (hm : P.follows .mixedOrders = true) : ∀ (c : Code), (∀ b, b ∈ Ad c → Bc G L b) → ∀ {Out : Type} {k : Ex → AS → Option Out} {out : Out} {s : AS} {σ : Nat → Value} {φ : Nat → List Nat} {a : Act} {w : World} {Q : Exit → Act → World → Prop},
 Bl G L c s k = some out → La n0 A O0 w0 s σ φ a w → (∀ e s σ φ a w, k e s = some out → La n0 A O0 w0 s σ φ a w → Q (EW e) a w) → c.wp P Q a w := by
 intro c
 induction c with
 | skip =>
  intro _ Out k out s σ φ a w Q he h hQ
  simp only [Bl] at he
  exact wp_skip (hQ .normal s σ φ a w he h)
 | region id ops draw =>
  intro _ Out k out s σ φ a w Q he h hQ
  simp only [Bl] at he
  split at he
  ·rename_i s1 h1
   obtain ⟨φ1, hc⟩ := Tr hfz h h1
   refine PO (k := fun s' => match Vt G.fz G.att (1000 * id + 999) s' with
    | some s' => k .normal s'
    | none => none) hG hfz hm hc he fun a w ⟨s', σ', φ', h2, h3⟩ => ?_
   simp only at h2
   split at h2
   ·rename_i s2 h4
    obtain ⟨φ2, hc2⟩ := Tr hfz h3 h4
    exact hQ .normal _ σ' φ2 a w h2 hc2
   ·simp at h2
  ·simp at he
 | seq x y ihx ihy =>
  intro hL Out k out s σ φ a w Q he h hQ
  simp only [Bl] at he
  refine wp_seq (ihx (fun b hb => hL b (by simp [Ad, hb])) he h fun e s' σ' φ' a' w' hk h' => ?_)
  cases e with
  | normal => exact ihy (fun b hb => hL b (by simp [Ad, hb])) hk h' hQ
  | exit j => exact hQ (.exit j) s' σ' φ' a' w' hk h'
  | ret => exact hQ .ret s' σ' φ' a' w' hk h'
 | cond x y z ihy ihz =>
  intro hL Out k out s σ φ a w Q he h hQ
  cases x with
  | tmp t =>
   simp only [Bl] at he
   split at he
   ·rename_i β hd
    have hs := h.same hd
    obtain ⟨v, hv, hr⟩ := h.tm t _ hd
    rw [Ff] at hr
    subst hr
    have hev : a.eval (.tmp t) = .bool β := by
     simp only [Act.eval]
     rw [Array.getD_eq_getD_getElem?, hv]
     rfl
    refine wp_cond_split hev (fun hb => ?_) (fun hb => ?_)
    ·subst hb
     simp only [cond_true] at he
     exact ihy (fun b hb => hL b (by simp [Ad, hb])) he hs hQ
    ·subst hb
     simp only [cond_false] at he
     exact ihz (fun b hb => hL b (by simp [Ad, hb])) he hs hQ
   ·simp at he
  | const cv =>
   cases cv with
   | bool β =>
    simp only [Bl] at he
    refine wp_cond_split (show a.eval (.const (.bool β)) = .bool β from rfl) (fun hb => ?_) (fun hb => ?_)
    ·subst hb
     simp only [cond_true] at he
     exact ihy (fun b hb => hL b (by simp [Ad, hb])) he h hQ
    ·subst hb
     simp only [cond_false] at he
     exact ihz (fun b hb => hL b (by simp [Ad, hb])) he h hQ
   | _ => simp [Bl] at he
  | _ => simp [Bl] at he
 | block id c ih =>
  intro hL Out k out s σ φ a w Q he h hQ
  simp only [Bl] at he
  refine wp_block (ih (fun b hb => hL b (by simpa [Ad] using hb)) he h fun e s' σ' φ' a' w' hk h' => ?_)
  cases e with
  | normal => exact hQ .normal s' σ' φ' a' w' hk h'
  | exit j =>
   simp only [EW, Exit.inBlock]
   cases hb : Nat.beq j id with
   | true =>
    rw [if_pos (ju hb)]
    simp only [hb, cond_true] at hk
    exact hQ .normal s' σ' φ' a' w' hk h'
   | false =>
    rw [if_neg (fun e => by rw [e, Nat.beq_refl] at hb; simp at hb)]
    simp only [hb, cond_false] at hk
    exact hQ (.exit j) s' σ' φ' a' w' hk h'
  | ret => exact hQ .ret s' σ' φ' a' w' hk h'
 | exit id =>
  intro _ Out k out s σ φ a w Q he h hQ
  simp only [Bl] at he
  exact wp_exit (hQ (.exit id) s σ φ a w he h)
 | ret =>
  intro _ Out k out s σ φ a w Q he h hQ
  simp only [Bl] at he
  exact wp_ret (hQ .ret s σ φ a w he h)
 | loop c ih =>
  intro hL Out k out s σ φ a w Q he h hQ
  simp only [Bl] at he
  split at he
  ·rename_i r hr
   split at he
   ·rename_i ls hls
    split at he
    ·rename_i x hx
     simp only [Ba] at he
     obtain ⟨hn, he⟩ := he
     have hn := ju hn
     rw [qe] at he
     obtain ⟨y, hy, he⟩ := he
     obtain ⟨m, hit⟩ := hL c (by simp [Ad]) r ls hr hls x y hy
     obtain ⟨σ1, φ1, h1⟩ := Ky h hx
     rw [hn] at h1 he
     refine wp_loop_rounds m ?_
     have key : ∀ (m : Nat) (x : ls.inT.X) (σ : Nat → Value) (φ : Nat → List Nat) (a : Act) (w : World), Er (Mt G L ls c) m x y → La n0 A O0 w0 (Hs ls.inT x ls.n) σ φ a w → Code.rounds P c Q m a w := by
      intro m
      induction m with
      | zero => intro x σ φ a w hit _; exact hit.elim
      | succ m ihm =>
       intro x σ φ a w hit h
       rw [rounds_succ]
       have body : ∀ z, Mt G L ls c x = some z → (z = .inr y ∨ ∃ x', z = .inl x' ∧ Er (Mt G L ls c) m x' y) → c.wp P (Exit.then (Code.rounds P c Q m) Q) a w := by
        intro z hz hzy
        unfold Mt at hz
        refine ih (fun b hb => hL b (by simp [Ad, hb])) hz h fun e s' σ' φ' a' w' hk h' => ?_
        simp only [Ba] at hk
        obtain ⟨hn', hk⟩ := hk
        have hn' := ju hn'
        cases e with
        | normal =>
         simp only at hk
         split at hk
         ·rename_i x' hx'
          simp only [jc] at hk
          obtain ⟨σ2, φ2, h2⟩ := Ky h' hx'
          rw [hn'] at h2
          rcases hzy with hzy | ⟨x'', hzy, hit'⟩
          ·rw [hzy] at hk; simp at hk
          ·rw [hzy] at hk
           simp only [Sum.inl.injEq] at hk
           subst hk
           exact ihm x' σ2 φ2 a' w' hit' h2
         ·simp at hk
        | exit j =>
         simp only [Ba] at hk
         obtain ⟨hj, hk⟩ := hk
         have hj := ju hj
         split at hk
         ·rename_i y' hy'
          simp only [jc] at hk
          obtain ⟨σ2, φ2, h2⟩ := Ky h' hy'
          rw [hn'] at h2
          rcases hzy with hzy | ⟨x'', hzy, _⟩
          ·rw [hzy] at hk
           simp only [Sum.inr.injEq] at hk
           subst hk
           simp only [qi] at he
           show Q (.exit j) a' w'
           rw [hj]
           exact hQ (.exit ls.exitId) _ σ2 φ2 a' w' he h2
          ·rw [hzy] at hk; simp at hk
         ·simp at hk
        | ret =>
         simp only at hk
         split at hk
         ·rename_i y' hy'
          simp only [jc] at hk
          obtain ⟨σ2, φ2, h2⟩ := Ky h' hy'
          rw [hn'] at h2
          rcases hzy with hzy | ⟨x'', hzy, _⟩
          ·rw [hzy] at hk
           simp only [Sum.inr.injEq] at hk
           subst hk
           simp only [Sum.elim_inr] at he
           exact hQ .ret _ σ2 φ2 a' w' he h2
          ·rw [hzy] at hk; simp at hk
         ·simp at hk
       rcases hit with hit | ⟨x', hit, hit'⟩
       ·exact body _ hit (.inl rfl)
       ·exact body _ hit (.inr ⟨x', rfl, hit'⟩)
     exact key m x σ1 φ1 a w hit h1
    ·simp at he
   ·simp at he
  ·simp at he
 | _ => intros; rename_i he _ _; simp [Bl] at he
end
theorem Xb.mono {w : World} {O O' : Nat → Prop} (hO : ∀ b, O' b → O b) : ∀ {rt : Ty} {r : T rt} {fr : List Bool} {vs : List Value} {F : List Nat}, Xb w O rt r fr vs F → Xb w O' rt r fr vs F
 | .u, _, [], [], _, h => h
 | .p x y, r, f :: fr, v :: vs, F, h => by
  obtain ⟨cs, F1, F2, hv, hF, h1, h2⟩ := h
  refine ⟨cs, F1, F2, hv, hF, ?_, Xb.mono hO h2⟩
  cases f with
  | true => exact h1
  | false =>
   simp only [jq, if_false] at h1 ⊢
   exact ⟨h1.1.weaken hO, h1.2⟩
 | .u, _, _ :: _, _, _, h => by simp [Xb] at h
 | .u, _, [], _ :: _, _, h => by simp [Xb] at h
 | .p _ _, _, [], _, _, h => by simp [Xb] at h
 | .p _ _, _, _ :: _, [], _, h => by simp [Xb] at h
 | .i _, _, fr, vs, _, h => by simp [Xb] at h
 | .b, _, fr, vs, _, h => by simp [Xb] at h
 | .o, _, fr, vs, _, h => by simp [Xb] at h
 | .mp _ _, _, fr, vs, _, h => by simp [Xb] at h
 | .s, _, fr, vs, _, h => by simp [Xb] at h
 | .sl _, _, fr, vs, _, h => by simp [Xb] at h
section
variable {P : Program} {n0 : Nat} {A : Fx} {O0 : Nat → Prop} {w0 w : World} {s : AS} {σ : Nat → Value} {φ : Nat → List Nat} {a : Act} {G : Fd} {L : List (Nat × Hb)}
def RU (w : World) (O : Nat → Prop) (hp : Nat → Option Da) (σ : Nat → Value) : D → List Value → Prop
 | .pr a b, v :: vs => Ub w O hp σ a v ∧ RU w O hp σ b vs
 | .un, [] => True
 | _, _ => False
def Qx (tmps : Array Value) : ResultVar → Sem Value
 | .tmp t => pure (tmps.getD t undef)
 | .cell a t => do loadVar t (← asAddr (tmps.getD a undef))
theorem Rs (hG : EnvTy P G) (h : La n0 A O0 w0 s σ φ a w) : ∀ {rs : List ResultVar} {d : D}, Qn G s rs = some d → ∃ vs, (rs.mapM (Qx a.tmps)).run P w = .ok vs w ∧ RU w (OO O0 s φ) s.heap σ d vs
 | [], d, he => by
  simp only [Qn, jc] at he
  subst he
  exact ⟨[], by simp, trivial⟩
 | .tmp t :: r, d, he => by
  simp only [Qn] at he
  split at he
  ·rename_i d1 d2 h1 h2
   simp only [jc] at he
   subst he
   obtain ⟨vs, hvs, hr⟩ := Rs hG h h2
   obtain ⟨v, hv, hru⟩ := h.tm t d1 h1
   have hg : a.tmps.getD t undef = v := by rw [Array.getD_eq_getD_getElem?, hv]; rfl
   refine ⟨v :: vs, ?_, hru, hr⟩
   rw [List.mapM_cons]
   simp only [Qx, qs, Sem.run_pure, qr, hvs, hg]
  ·simp at he
 | .cell t ty :: r, d, he => by
  simp only [Qn] at he
  split at he
  ·rename_i id d2 h1 h2
   split at he
   ·rename_i ρ d1 τ hb hty
    split at he
    ·rename_i q hq
     obtain rfl := q.down
     simp only [jc] at he
     subst he
     obtain ⟨vs, hvs, hr⟩ := Rs hG h h2
     obtain ⟨v, hv, hru⟩ := h.tm t _ h1
     have hg : a.tmps.getD t undef = v := by rw [Array.getD_eq_getD_getElem?, hv]; rfl
     rw [Qi] at hru
     obtain ⟨b, hσ, hv'⟩ := hru.2 _ _ hb
     obtain ⟨hs, b', cur, et, hσ', hh, hF, hrep, hsz⟩ := h.hp id _ hb
     rw [hσ] at hσ'
     simp at hσ'
     subst hσ'
     have hl := Mj (P := P) (hG.ty _ _ hty) (off := 0) hh (by omega)
     have hseg : Dc cur 0 ρ.size = cur.toList := by rw [← hsz]; exact BU cur
     rw [hseg] at hl
     refine ⟨Ic ρ cur.toList :: vs, ?_, Ri hs hrep, hr⟩
     rw [List.mapM_cons]
     have hoff : Pa ρ [] = 0 := rfl
     rw [hoff] at hv'
     subst hv'
     simp only [Qx, qs, Sem.run_pure, qr, hvs, hg, asAddr, hl]
    ·simp at he
   ·simp at he
  ·simp at he
theorem KD (h : La n0 A O0 w0 s σ φ a w) : ∀ {rt : Ty} {fr : List Bool} {d : D} {r : T rt} {l : List Nat} {vs : List Value}, Be s rt fr d = some (r, l) → RU w (OO O0 s φ) s.heap σ d vs →
 Xb w (OO O0 s φ) rt r fr vs (Aa φ l) ∧ ∀ j, j ∈ l → ∃ b, s.heap j = some b
 | .u, [], .un, r, l, vs, he, hr => by
  simp only [Be, jc, jh] at he
  obtain ⟨_, rfl⟩ := he
  cases vs with
  | nil => exact ⟨by simp [Xb, Aa], by simp⟩
  | cons v vs => simp [RU] at hr
 | .p x y, f :: fr, .pr d1 d2, r, l, vs, he, hr => by
  cases vs with
  | nil => simp [RU] at hr
  | cons v vs =>
   simp only [Be] at he
   split at he
   ·rename_i u l1 z l2 h1 h2
    simp only [jc, jh] at he
    obtain ⟨rfl, rfl⟩ := he
    obtain ⟨g1, g2⟩ := KD h h2 hr.2
    cases f with
    | true =>
     simp only [cond_true] at h1
     obtain ⟨hrep, hv⟩ := Dd (Jg h1) hr.1
     obtain ⟨ho, hl⟩ := Vh h h1 hrep
     refine ⟨⟨_, Aa φ l1, Aa φ l2, hv, Pc, ?_, g1⟩, ?_⟩
     ·simpa using ho
     ·intro j hj
      rcases jl.1 hj with hj | hj
      ·exact hl j hj
      ·exact g2 j hj
    | false =>
     simp only [cond_false] at h1
     split at h1
     ·rename_i u' hu
      simp only [jc, jh] at h1
      obtain ⟨rfl, rfl⟩ := h1
      obtain ⟨hs, hvw⟩ := Ge (w := w) (O := OO O0 s φ) (hp := s.heap) (σ := σ) hu
      obtain ⟨hrep, hv⟩ := Dd hs hr.1
      refine ⟨⟨_, [], Aa φ l2, hv, by simp [Aa], ?_, g1⟩, by simpa using g2⟩
      simpa using hvw _ hrep
     ·simp at h1
   ·simp at he
 | .u, _ :: _, d, _, _, _, he, _ => by cases d <;> simp [Be] at he
 | .u, [], .und, _, _, _, he, _ => by simp [Be] at he
 | .u, [], .anyv, _, _, _, he, _ => by simp [Be] at he
 | .u, [], .mpo _, _, _, _, he, _ => by simp [Be] at he
 | .u, [], .t _ _, _, _, _, he, _ => by simp [Be] at he
 | .u, [], .nil, _, _, _, he, _ => by simp [Be] at he
 | .u, [], .own _, _, _, _, he, _ => by simp [Be] at he
 | .u, [], .ptr _ _, _, _, _, he, _ => by simp [Be] at he
 | .u, [], .eptr _ _ _, _, _, _, he, _ => by simp [Be] at he
 | .u, [], .rp _ _, _, _, _, he, _ => by simp [Be] at he
 | .u, [], .pr _ _, _, _, _, he, _ => by simp [Be] at he
 | .u, [], .tup _, _, _, _, he, _ => by simp [Be] at he
 | .p _ _, [], d, _, _, _, he, _ => by cases d <;> simp [Be] at he
 | .p _ _, _ :: _, .und, _, _, _, he, _ => by simp [Be] at he
 | .p _ _, _ :: _, .anyv, _, _, _, he, _ => by simp [Be] at he
 | .p _ _, _ :: _, .mpo _, _, _, _, he, _ => by simp [Be] at he
 | .p _ _, _ :: _, .t _ _, _, _, _, he, _ => by simp [Be] at he
 | .p _ _, _ :: _, .nil, _, _, _, he, _ => by simp [Be] at he
 | .p _ _, _ :: _, .own _, _, _, _, he, _ => by simp [Be] at he
 | .p _ _, _ :: _, .ptr _ _, _, _, _, he, _ => by simp [Be] at he
 | .p _ _, _ :: _, .eptr _ _ _, _, _, _, he, _ => by simp [Be] at he
 | .p _ _, _ :: _, .rp _ _, _, _, _, he, _ => by simp [Be] at he
 | .p _ _, _ :: _, .un, _, _, _, he, _ => by simp [Be] at he
 | .p _ _, _ :: _, .tup _, _, _, _, he, _ => by simp [Be] at he
 | .i _, fr, d, _, _, _, he, _ => by cases fr <;> cases d <;> simp [Be] at he
 | .b, fr, d, _, _, _, he, _ => by cases fr <;> cases d <;> simp [Be] at he
 | .o, fr, d, _, _, _, he, _ => by cases fr <;> cases d <;> simp [Be] at he
 | .mp _ _, fr, d, _, _, _, he, _ => by cases fr <;> cases d <;> simp [Be] at he
 | .s, fr, d, _, _, _, he, _ => by cases fr <;> cases d <;> simp [Be] at he
 | .sl _, fr, d, _, _, _, he, _ => by cases fr <;> cases d <;> simp [Be] at he
theorem Bu {fn : Func} {vs : List Value} (h : (fn.results.toList.mapM (Qx a.tmps)).run P w = .ok vs w) : (results fn a.tmps).run P w = .ok (Ms vs) w := by
 unfold results
 rw [Array.mapM_eq_mapM_toList]
 simp only [map_eq_pure_bind, bind_assoc, pure_bind, qs, Sem.run_pure]
 show (Sem.run P (List.mapM (Qx a.tmps) fn.results.toList) w).andThen (fun vs w' => Result.ok (if h : vs.toArray.size = 1 then vs.toArray[0] else Value.tuple vs.toArray) w') = _
 rw [h]
 simp only [qr]
 congr 1
 cases vs with
 | nil => rfl
 | cons v vs => cases vs <;> rfl
end
def Ty.npar : Ty → Nat
 | .p _ y => y.npar + 1
 | _ => 0
theorem Rt {w : World} {O : Nat → Prop} : ∀ {pt : Ty} {x : T pt} {args : List Value}, Ee w O pt x args → args.length = pt.npar
 | .u, _, [], _ => rfl
 | .p x y, v, a :: r, h => by simp [Ty.npar, Rt h.2]
 | .u, _, _ :: _, h => by simp [Ee] at h
 | .p _ _, _, [], h => by simp [Ee] at h
 | .i _, _, l, h => by simp [Ee] at h
 | .b, _, l, h => by simp [Ee] at h
 | .o, _, l, h => by simp [Ee] at h
 | .mp _ _, _, l, h => by simp [Ee] at h
 | .s, _, l, h => by simp [Ee] at h
 | .sl _, _, l, h => by simp [Ee] at h
theorem Tv {w : World} {O : Nat → Prop} {hp : Nat → Option Da} {σ : Nat → Value} : ∀ {pt : Ty} {x : T pt} {args : List Value} {n t : Nat} {d : D}, Ee w O pt x args → Ra (Il pt x n) t = some d →
 ∃ j v, t = n + j ∧ args[j]? = some v ∧ Ub w O hp σ d v
 | .p x y, v, a :: r, n, t, d, h, hd => by
  simp only [Il] at hd
  rw [Rb] at hd
  split at hd
  ·rename_i e
   simp only [jc] at hd
   subst hd
   obtain ⟨⟨cs, ha, hv⟩, _⟩ := h
   refine ⟨0, a, by omega, rfl, ?_⟩
   rw [ha]
   exact Ri (τ := x) (by simp [Oa]) hv
  ·obtain ⟨j, v', h1, h2, h3⟩ := Tv (hp := hp) (σ := σ) h.2 hd
   exact ⟨j + 1, v', by omega, by simpa using h2, h3⟩
 | .p _ _, _, [], _, _, _, h, _ => by simp [Ee] at h
 | .u, _, _, _, _, _, _, hd => by simp [Il, Ra] at hd
 | .i _, _, _, _, _, _, h, _ => by simp [Ee] at h
 | .b, _, _, _, _, _, h, _ => by simp [Ee] at h
 | .o, _, _, _, _, _, h, _ => by simp [Ee] at h
 | .mp _ _, _, _, _, _, _, h, _ => by simp [Ee] at h
 | .s, _, _, _, _, _, h, _ => by simp [Ee] at h
 | .sl _, _, _, _, _, _, h, _ => by simp [Ee] at h
section
variable {P : Program} {G : Fd} {L : List (Nat × Hb)}
variable {I : Sf}
def FD (I : Sf) : Fx := ⟨fun _ => False, fun _ => none, fun _ _ h => by simp at h, I, fun _ h => h.elim⟩
theorem OR (hG : Eg P I G) (hm : P.follows .mixedOrders = true) {f : FuncId} {fn : Func} {c : Code} (hf : P.funcs[f]? = some fn) (hb : fn.body = some c) (hname : (fn.name == "runtime.NumGoroutine") = false)
 (hL : ∀ b, b ∈ Ad c → Bc G L b) {pt rt : Ty} {fr : List Bool} {F : T pt → Option (T rt)} (hn : pt.npar ≤ fn.ntmps) (hF : ∀ x r, F x = some r → VM G L fn pt rt fr x = some r) : Zf P I f (.pu pt rt fr F) := by
 refine ⟨⟨fn, hf, hname, by rw [hb]; rfl⟩, ?_⟩
 intro O w x r args hx hargs hO hI hB
 have he := hF x r hx
 unfold VM at he
 rw [hb] at he
 simp only at he
 refine calls_of_wp hf hb ?_
 have hlen := Rt hargs
 have hc : La w.heap.size (FD I) O w ⟨fn.ntmps, Il pt x 0, []⟩ (fun _ => undef) (fun _ => []) { tmps := args.toArray ++ Array.replicate (fn.ntmps - args.toArray.size) undef, defers := [] } w := by
  have hh : ∀ id, AS.heap ⟨fn.ntmps, Il pt x 0, []⟩ id = none := fun id => rfl
  refine ⟨?_, rfl, ?_, ?_, ?_, ?_, ?_, hO, ⟨rfl, rfl, rfl, jo _, fun _ _ _ => rfl⟩, ?_, hB, hI⟩
  ·simp; omega
  ·intro t d hd
   have hOO : OO O ⟨fn.ntmps, Il pt x 0, []⟩ (fun _ => []) = O := by
    funext b
    simp [OO, hh]
   rw [hOO]
   obtain ⟨j, v, h1, h2, h3⟩ := Tv hargs hd
   refine ⟨v, ?_, h3⟩
   have hj : j < args.length := (List.getElem?_eq_some_iff.1 h2).1
   have : t = j := by omega
   subst this
   rw [Array.getElem?_append_left (by simpa using hj)]
   simpa using h2
  ·intro id Ca hb; rw [hh] at hb; simp at hb
  ·intro id Ca hb; rw [hh] at hb; simp at hb
  ·intro id id' Ca blk' _ hb; rw [hh] at hb; simp at hb
  ·intro id Ca hb; rw [hh] at hb; simp at hb
  ·intro id v hv; simp [FD] at hv
 refine PG (A := FD I) hG (fun _ _ h => h) hm c hL he hc ?_
 intro e s σ φ a w' hk h
 have Oe : (match Qn G s fn.results.toList with
  | some d => match Be s rt fr d with
   | some (r, l) => bif Je l then some r else none
   | none => none
  | none => none) = some r → a.defers = [] ∧ ∃ v, (results fn a.tmps).run P w' = .ok v w' ∧ Em (fun v w' => ∃ vs Fr, v = Ms vs ∧ Mp w w' (fun _ => False) ∧ Xb w' (fun b => O b ∨ b ∈ Fr) rt r fr vs Fr ∧ Fr.Nodup ∧ ∀ b ∈ Fr, w.heap.size ≤ b) (.returned v) w' := by
  intro hk
  split at hk
  ·rename_i d hd
   split at hk
   ·rename_i r' l hr
    simp only [Ba] at hk
    obtain ⟨hnd, hk⟩ := hk
    simp only [jc] at hk
    subst hk
    have hnd := Vf hnd
    obtain ⟨vs, hvs, hru⟩ := Rs hG.toEnvTy h hd
    obtain ⟨hR, hlive⟩ := KD h hr hru
    refine ⟨h.df, _, Bu hvs, vs, Aa φ l, rfl, ⟨h.fr.size, fun b hb _ => h.fr.block b hb (fun h => h), h.fr.os, h.fr.tape, h.fr.output⟩, hR.mono ?_, Me h hnd hlive, ?_⟩
    ·rintro b (hb | hb)
     ·exact .inl hb
     ·obtain ⟨j, hj, hm'⟩ := Ta.1 hb
      obtain ⟨Ca, hbj⟩ := hlive j hj
      exact .inr ⟨j, Ca, hbj, hm'⟩
    ·intro b hb
     obtain ⟨j, hj, hm'⟩ := Ta.1 hb
     obtain ⟨Ca, hbj⟩ := hlive j hj
     exact (h.fresh j Ca hbj b hm').resolve_right (fun h => h)
   ·simp at hk
  ·simp at hk
 cases e with
 | normal => exact Oe hk
 | ret => exact Oe hk
 | exit j => simp at hk
end
theorem Qw {φ : Nat → List Nat} : ∀ {L : List Nat}, (Aa φ L).Nodup → ∀ {i j b : Nat}, i ∈ L → j ∈ L → i ≠ j → b ∈ φ i → b ∉ φ j
 | [], _, _, _, _, h, _, _, _ => by simp at h
 | x :: L, hn, i, j, b, hi, hj, hne, hb => by
  intro hb'
  have hx : Aa φ (x :: L) = φ x ++ Aa φ L := by simp [Aa]
  rw [hx, List.nodup_append] at hn
  rcases jp.1 hi with e1 | q1
  ·rcases jp.1 hj with e2 | q2
   ·exact hne (e1.trans e2.symm)
   ·exact hn.2.2 b (e1 ▸ hb) b (Ta.2 ⟨j, q2, hb'⟩) rfl
  ·rcases jp.1 hj with e2 | q2
   ·exact hn.2.2 b (e2 ▸ hb') b (Ta.2 ⟨i, q1, hb⟩) rfl
   ·exact Qw hn.2.1 q1 q2 hne hb hb'
section
variable {P : Program} {G : Fd} {L : List (Nat × Hb)} {I : Sf}
end
def Uv : (pt : Ty) → T pt → Nat → Nat → List (Nat × D) × List (Nat × Option Da) × Nat
 | .p x y, v, t, n => match Rc x v.1 n with
  | (d, l, m) => match Uv y v.2 (t + 1) m with
   | (tm, l', m') => ((t, d) :: tm, l ++ l', m')
 | _, _, _, n => ([], [], n)
def TF (G : Fd) (L : List (Nat × Hb)) (fn : Func) (vw cv : Bool) (τ pt rt : Ty) (fr : List Bool) (x0 : T τ) (x : T pt) : Option (T τ × T rt) :=
 match fn.body with
 | some c => match (bif vw then (D.t τ x0, [], 400000) else Rc τ x0 400000) with
  | (d0, rows, m) => match (bif cv then Uv pt x 1 m else (Il pt x 1, [], m)) with
   | (tm, rows2, m2) => bif jx m2 500000 then Bl G L c ⟨fn.ntmps, (0, .ptr 500000 []) :: tm, (500000, some (.box τ d0)) :: (rows ++ rows2)⟩ fun e s => match e with
    | .exit _ => none
    | _ => match s.heap 500000, Qn G s fn.results.toList with
     | some (.box τ' d1), some d => match Ty.dec τ' τ, (bif vw then (match Jf d1 τ with
      | some y => some (y, [])
      | none => none) else Gb s d1 τ), Be s rt fr d with
      | some _, some (x', l0), some (r, l) => bif Je (500000 :: (l0 ++ l)) then some (x', r) else none
      | _, _, _ => none
     | _, _ => none
    else none
 | none => none
theorem NE {w : World} : ∀ {pt : Ty} {x : T pt} {args : List Value} {F : List Nat}, Kd w pt x args F → args.length = pt.npar
 | .u, _, [], _, _ => rfl
 | .p x y, v, a :: r, F, h => by
  obtain ⟨cs, F1, F2, _, _, _, h⟩ := h
  simp [Ty.npar, NE h]
 | .u, _, _ :: _, _, h => by simp [Kd] at h
 | .p _ _, _, [], _, h => by simp [Kd] at h
 | .i _, _, l, _, h => by simp [Kd] at h
 | .b, _, l, _, h => by simp [Kd] at h
 | .o, _, l, _, h => by simp [Kd] at h
 | .mp _ _, _, l, _, h => by simp [Kd] at h
 | .s, _, l, _, h => by simp [Kd] at h
 | .sl _, _, l, _, h => by simp [Kd] at h
theorem Kd.lt {w : World} : ∀ {pt : Ty} {x : T pt} {args : List Value} {F : List Nat}, Kd w pt x args F → ∀ b, b ∈ F → b < w.heap.size
 | .u, _, [], F, h, b, hb => by simp only [Kd] at h; subst h; simp at hb
 | .p x y, v, a :: r, F, h, b, hb => by
  obtain ⟨cs, F1, F2, _, rfl, ho, h⟩ := h
  rcases jl.1 hb with hb | hb
  ·exact ho.lt b hb
  ·exact Kd.lt h b hb
 | .u, _, _ :: _, _, h, _, _ => by simp [Kd] at h
 | .p _ _, _, [], _, h, _, _ => by simp [Kd] at h
 | .i _, _, l, _, h, _, _ => by simp [Kd] at h
 | .b, _, l, _, h, _, _ => by simp [Kd] at h
 | .o, _, l, _, h, _, _ => by simp [Kd] at h
 | .mp _ _, _, l, _, h, _, _ => by simp [Kd] at h
 | .s, _, l, _, h, _, _ => by simp [Kd] at h
 | .sl _, _, l, _, h, _, _ => by simp [Kd] at h
theorem SH {w : World} : ∀ {pt : Ty} {x : T pt} {args : List Value} {F : List Nat} {t n m : Nat} {tm : List (Nat × D)} {l : List (Nat × Option Da)}, Uv pt x t n = (tm, l, m) → Kd w pt x args F →
 n ≤ m ∧ (∀ p, p ∈ l → n ≤ p.1 ∧ p.1 < m) ∧ ∃ (ψ : Nat → List Nat) (ν : Nat → Value), Aa ψ (l.map (·.1)) = F ∧ (∀ p, p ∈ l → ∃ e xs, p.2 = some (.row e true xs) ∧ Cb w (.sl e) xs [ν p.1] (ψ p.1)) ∧
  ∀ (hp' : Nat → Option Da) (σ' : Nat → Value) (O' : Nat → Prop), (∀ p, p ∈ l → σ' p.1 = ν p.1) → ∀ t' d, Ra tm t' = some d → ∃ j v, t' = t + j ∧ args[j]? = some v ∧ Ub w O' hp' σ' d v
 | .u, x, [], F, t, n, m, tm, l, he, h => by
  simp only [Uv, jh] at he
  obtain ⟨rfl, rfl, rfl⟩ := he
  simp only [Kd] at h
  exact ⟨jo _, by simp, fun _ => [], fun _ => undef, by simp [Aa, h], by simp, fun _ _ _ _ t' d hd => by simp [Ra] at hd⟩
 | .p t1 t2, x, a :: r, F, t, n, m, tm, l, he, h => by
  obtain ⟨cs, F1, F2, ha, hF, ho, hr⟩ := h
  simp only [Uv] at he
  rcases ho1 : Rc t1 x.1 n with ⟨d1, l1, m1⟩
  rcases ho2 : Uv t2 x.2 (t + 1) m1 with ⟨tm2, l2, m2⟩
  rw [ho1] at he
  simp only at he
  rw [ho2] at he
  simp only [jh] at he
  obtain ⟨rfl, rfl, rfl⟩ := he
  obtain ⟨a1, a2, a3, ψ1, ν1, a4, a5, a6⟩ := Yl ho1 ho
  obtain ⟨b1, b2, ψ2, ν2, b4, b5, b6⟩ := SH ho2 hr
  refine ⟨by omega, ?_, fun id => if id < m1 then ψ1 id else ψ2 id, fun id => if id < m1 then ν1 id else ν2 id, ?_, ?_, ?_⟩
  ·intro p hp
   rcases jl.1 hp with hp | hp
   ·have := a2 p hp; omega
   ·have := b2 p hp; omega
  ·rw [List.map_append, Pc, hF, ← a4, ← b4]
   congr 1
   ·exact Lg fun id hid => by
     obtain ⟨p, hp, rfl⟩ := qn.1 hid
     rw [if_pos (a2 p hp).2]
   ·exact Lg fun id hid => by
     obtain ⟨p, hp, rfl⟩ := qn.1 hid
     rw [if_neg (by have := b2 p hp; omega)]
  ·intro p hp
   rcases jl.1 hp with hp | hp
   ·simp only [if_pos (a2 p hp).2]; exact a5 p hp
   ·have : ¬ p.1 < m1 := by have := b2 p hp; omega
    simp only [if_neg this]; exact b5 p hp
  ·intro hp' σ' O' hσ t' d hd
   rw [Rb] at hd
   split at hd
   ·rename_i e
    simp only [jc] at hd
    subst hd
    refine ⟨0, a, by omega, rfl, ?_⟩
    rw [ha]
    refine Ri a3 (a6 w hp' σ' O' fun p hp => ?_)
    have h1 := hσ p (List.mem_append_left _ hp)
    simp only [if_pos (a2 p hp).2] at h1
    exact h1
   ·obtain ⟨j, v, h1, h2, h3⟩ := b6 hp' σ' O' (fun p hp => by
     have h1 := hσ p (List.mem_append_right _ hp)
     have h2 : ¬ p.1 < m1 := by have := b2 p hp; omega
     simp only [if_neg h2] at h1
     exact h1) t' d hd
    exact ⟨j + 1, v, by omega, by simpa using h2, h3⟩
 | .u, _, _ :: _, _, _, _, _, _, _, _, h => by simp [Kd] at h
 | .p _ _, _, [], _, _, _, _, _, _, _, h => by simp [Kd] at h
 | .i _, _, l, _, _, _, _, _, _, _, h => by simp [Kd] at h
 | .b, _, l, _, _, _, _, _, _, _, h => by simp [Kd] at h
 | .o, _, l, _, _, _, _, _, _, _, h => by simp [Kd] at h
 | .mp _ _, _, l, _, _, _, _, _, _, _, h => by simp [Kd] at h
 | .s, _, l, _, _, _, _, _, _, _, h => by simp [Kd] at h
 | .sl _, _, l, _, _, _, _, _, _, _, h => by simp [Kd] at h
section
variable {P : Program} {G : Fd} {L : List (Nat × Hb)} {I : Sf}
theorem MR (hG : Eg P I G) (hfz : G.fz = false) (hm : P.follows .mixedOrders = true) {f : FuncId} {fn : Func} {c : Code} (hf : P.funcs[f]? = some fn) (hb : fn.body = some c) (hname : (fn.name == "runtime.NumGoroutine") = false)
 (hL : ∀ b, b ∈ Ad c → Bc G L b) {vw cv : Bool} {τ pt rt : Ty} {fr : List Bool} {F : T τ → T pt → Option (T τ × T rt)} (hn : pt.npar + 1 ≤ fn.ntmps) (hF : ∀ x0 x r, F x0 x = some r → TF G L fn vw cv τ pt rt fr x0 x = some r) :
 Zf P I f (.bx vw cv τ pt rt fr F) := by
 refine ⟨⟨fn, hf, hname, by rw [hb]; rfl⟩, ?_⟩
 intro O w x0 x r b cur et F0 F2 args hx hh hsz hcont hargs hnd hO hI hB hFB
 have he := hF x0 x r hx
 unfold TF at he
 rw [hb] at he
 simp only at he
 rcases hop : (bif vw then (D.t τ x0, [], 400000) else Rc τ x0 400000) with ⟨d0, rows, m⟩
 rw [hop] at he
 simp only at he
 rcases hop2 : (bif cv then Uv pt x 1 m else (Il pt x 1, [], m)) with ⟨tm, rows2, m2⟩
 rw [hop2] at he
 simp only [Ba] at he
 obtain ⟨hm2, he⟩ := he
 have hm2 := Nat.le_of_ble_eq_true hm2
 have hlt : b < w.heap.size := (Array.getElem?_eq_some_iff.1 hh).1
 have k1 : 400000 ≤ m ∧ (∀ p, p ∈ rows → 400000 ≤ p.1 ∧ p.1 < m) ∧ Oa τ d0 ∧ (∀ c, c ∈ F0 → c < w.heap.size) ∧ ∃ (ψ : Nat → List Nat) (ν : Nat → Value), Aa ψ (rows.map (·.1)) = F0 ∧ (∀ p, p ∈ rows → ∃ e xs, p.2 = some (.row e true xs) ∧ Cb w (.sl e) xs [ν p.1] (ψ p.1)) ∧
  ∀ (hp' : Nat → Option Da) (σ' : Nat → Value), (∀ p, p ∈ rows → σ' p.1 = ν p.1) → Na w (fun c => O c ∨ c ∈ b :: (F0 ++ F2)) hp' σ' d0 cur.toList := by
  cases vw with
  | true =>
   simp only [cond_true, jh] at hop
   obtain ⟨rfl, rfl, rfl⟩ := hop
   simp only [if_true] at hcont
   obtain ⟨hv, rfl⟩ := hcont
   refine ⟨jo _, by simp, by simp [Oa], by simp, fun _ => [], fun _ => undef, by simp [Aa], by simp, fun hp' σ' _ => Ha.weaken (fun c hc => ?_) hv⟩
   rcases hc with hc | hc
   ·exact .inl hc
   ·rcases jp.1 hc with rfl | hc
    ·exact .inr (.inl rfl)
    ·exact .inr (.inr (by simpa using hc))
  | false =>
   simp only [cond_false] at hop
   simp only [jq, if_false] at hcont
   obtain ⟨a1, a2, a3, ψ1, ν1, a4, a5, a6⟩ := Yl hop hcont
   exact ⟨a1, a2, a3, fun c hc => hcont.lt c hc, ψ1, ν1, a4, a5, fun hp' σ' h => a6 w hp' σ' _ h⟩
 obtain ⟨hnm, hids, hsh, hF0lt, ψ1, ν1, hbl1, hrows1, hrep1⟩ := k1
 have k2 : m ≤ m2 ∧ (∀ p, p ∈ rows2 → m ≤ p.1 ∧ p.1 < m2) ∧ args.length = pt.npar ∧ (∀ c, c ∈ F2 → c < w.heap.size) ∧ ∃ (ψ : Nat → List Nat) (ν : Nat → Value), Aa ψ (rows2.map (·.1)) = F2 ∧ (∀ p, p ∈ rows2 → ∃ e xs, p.2 = some (.row e true xs) ∧ Cb w (.sl e) xs [ν p.1] (ψ p.1)) ∧
  ∀ (hp' : Nat → Option Da) (σ' : Nat → Value), (∀ p, p ∈ rows2 → σ' p.1 = ν p.1) → ∀ t' d, Ra tm t' = some d → ∃ j v, t' = 1 + j ∧ args[j]? = some v ∧ Ub w (fun c => O c ∨ c ∈ b :: (F0 ++ F2)) hp' σ' d v := by
  cases cv with
  | true =>
   simp only [cond_true] at hop2
   simp only [if_true] at hargs
   obtain ⟨a1, a2, ψ2, ν2, a4, a5, a6⟩ := SH hop2 hargs
   exact ⟨a1, a2, NE hargs, hargs.lt, ψ2, ν2, a4, a5, fun hp' σ' h => a6 hp' σ' _ h⟩
  | false =>
   simp only [cond_false, jh] at hop2
   obtain ⟨rfl, rfl, rfl⟩ := hop2
   simp only [jq, if_false] at hargs
   obtain ⟨hv, rfl⟩ := hargs
   refine ⟨jo _, by simp, Rt hv, by simp, fun _ => [], fun _ => undef, by simp [Aa], by simp, fun hp' σ' _ t' d hd => ?_⟩
   have : (fun c => O c ∨ c ∈ b :: (F0 ++ [])) = (fun c => O c ∨ c = b ∨ c ∈ F0) := by
    funext c; simp
   rw [this]
   exact Tv hv hd
 obtain ⟨hmm, hids2, hlen, hF2lt, ψ2, ν2, hbl2, hrows2, hrep2⟩ := k2
 refine calls_of_wp hf hb ?_
 let ψ : Nat → List Nat := fun id => if id = 500000 then [b] else if id < m then ψ1 id else ψ2 id
 let ν : Nat → Value := fun id => if id = 500000 then .pointer (some ⟨b, 0, none⟩) else if id < m then ν1 id else ν2 id
 have hψ0 : ψ 500000 = [b] := if_pos rfl
 have hν0 : ν 500000 = .pointer (some ⟨b, 0, none⟩) := if_pos rfl
 have hψ1 : ∀ p, p ∈ rows → ψ p.1 = ψ1 p.1 ∧ ν p.1 = ν1 p.1 := fun p hp => by
  have h1 := hids p hp
  have h2 : ¬ p.1 = 500000 := by omega
  simp only [ψ, ν, if_neg h2, if_pos h1.2, and_self]
 have hψ2 : ∀ p, p ∈ rows2 → ψ p.1 = ψ2 p.1 ∧ ν p.1 = ν2 p.1 := fun p hp => by
  have h1 := hids2 p hp
  have h2 : ¬ p.1 = 500000 := by omega
  have h3 : ¬ p.1 < m := by omega
  simp only [ψ, ν, if_neg h2, if_neg h3, and_self]
 let s0 : AS := ⟨fn.ntmps, (0, .ptr 500000 []) :: tm, (500000, some (.box τ d0)) :: (rows ++ rows2)⟩
 have hbx : s0.heap 500000 = some (.box τ d0) := by simp [s0, AS.heap, Rb]
 have hmem : ∀ id Ca, s0.heap id = some Ca → (id = 500000 ∧ Ca = .box τ d0) ∨ (id ≠ 500000 ∧ id ∈ (rows ++ rows2).map (·.1) ∧ ∃ e xs, Ca = .row e true xs ∧ Cb w (.sl e) xs [ν id] (ψ id)) := by
  intro id Ca hb
  by_cases hid : id = 500000
  ·subst hid
   rw [hbx] at hb
   simp only [jc] at hb
   exact .inl ⟨rfl, hb.symm⟩
  ·have hm := AS.heap_mem hb
   simp only [s0, jp, jh, hid, false_and, false_or] at hm
   refine .inr ⟨hid, List.mem_map_of_mem (f := (·.1)) hm, ?_⟩
   rcases jl.1 hm with hm | hm
   ·obtain ⟨e, xs, h1, h2⟩ := hrows1 _ hm
    simp only [jc] at h1
    exact ⟨e, xs, h1, by rw [(hψ1 _ hm).1, (hψ1 _ hm).2]; exact h2⟩
   ·obtain ⟨e, xs, h1, h2⟩ := hrows2 _ hm
    simp only [jc] at h1
    exact ⟨e, xs, h1, by rw [(hψ2 _ hm).1, (hψ2 _ hm).2]; exact h2⟩
 have hblr : Aa ψ ((rows ++ rows2).map (·.1)) = F0 ++ F2 := by
  rw [List.map_append, Pc, ← hbl1, ← hbl2]
  congr 1
  ·exact Lg fun id hid => by
    obtain ⟨p, hp, rfl⟩ := qn.1 hid
    exact (hψ1 p hp).1
  ·exact Lg fun id hid => by
    obtain ⟨p, hp, rfl⟩ := qn.1 hid
    exact (hψ2 p hp).1
 have hbl : Aa ψ (500000 :: (rows ++ rows2).map (·.1)) = b :: (F0 ++ F2) := by
  have : Aa ψ (500000 :: (rows ++ rows2).map (·.1)) = ψ 500000 ++ Aa ψ ((rows ++ rows2).map (·.1)) := by simp only [Aa, List.map_cons, List.flatten_cons]
  rw [this, hψ0, hblr]; rfl
 have hndB : (Aa ψ (500000 :: (rows ++ rows2).map (·.1))).Nodup := by rw [hbl]; exact hnd
 have hidin : ∀ id Ca, s0.heap id = some Ca → id ∈ 500000 :: (rows ++ rows2).map (·.1) := by
  intro id Ca hb
  rcases hmem id Ca hb with ⟨rfl, _⟩ | ⟨_, h, _⟩
  ·exact qq
  ·exact jr _ h
 let A : Fx := ⟨(· ∈ b :: (F0 ++ F2)), fun id => if id = 500000 then some (.pointer (some ⟨b, 0, none⟩)) else none, fun id v h => by
  split at h
  ·omega
  ·simp at h, I, hFB⟩
 have hOO : OO (fun c => O c ∨ c ∈ b :: (F0 ++ F2)) s0 ψ = (fun c => O c ∨ c ∈ b :: (F0 ++ F2)) := by
  funext c
  refine propext ⟨fun h => ?_, .inl⟩
  rcases h with h | ⟨id, Ca, hb, hm⟩
  ·exact h
  ·refine .inr ?_
   rw [← hbl]
   exact Ta.2 ⟨id, hidin id Ca hb, hm⟩
 have hc : La w.heap.size A (fun c => O c ∨ c ∈ b :: (F0 ++ F2)) w s0 ν ψ { tmps := (.pointer (some ⟨b, 0, none⟩) :: args).toArray ++ Array.replicate (fn.ntmps - (Value.pointer (some ⟨b, 0, none⟩) :: args).toArray.size) undef, defers := [] } w := by
  refine ⟨?_, rfl, ?_, ?_, ?_, ?_, ?_, ?_, ⟨rfl, rfl, rfl, jo _, fun _ _ _ => rfl⟩, ?_, hB, hI⟩
  ·simp [s0]; omega
  ·intro t d hd
   rw [hOO]
   simp only [s0] at hd
   rw [Rb] at hd
   split at hd
   ·rename_i e
    subst e
    simp only [jc] at hd
    subst hd
    refine ⟨.pointer (some ⟨b, 0, none⟩), by rw [Array.getElem?_append_left (by simp)]; simp, ?_⟩
    rw [Qi]
    exact ⟨rfl, fun ρ d _ => ⟨b, hν0, by simp [Pa]⟩⟩
   ·obtain ⟨j, v, h1, h2, h3⟩ := hrep2 s0.heap ν (fun p hp => (hψ2 p hp).2) t d hd
    refine ⟨v, ?_, h3⟩
    have hj : j < args.length := (List.getElem?_eq_some_iff.1 h2).1
    have : t = j + 1 := by omega
    subst this
    rw [Array.getElem?_append_left (by simpa using hj)]
    simpa using h2
  ·intro id Ca hb
   rw [hOO]
   rcases hmem id Ca hb with ⟨rfl, rfl⟩ | ⟨_, _, e, xs, rfl, h2⟩
   ·exact ⟨hsh, b, cur, et, hν0, hh, hψ0, hrep1 _ _ fun p hp => (hψ1 p hp).2, hsz⟩
   ·exact h2
  ·intro id Ca hb
   have hi := hidin id Ca hb
   have : (ψ id).Sublist (Aa ψ (500000 :: (rows ++ rows2).map (·.1))) := by
    unfold Aa
    exact List.sublist_flatten_of_mem (List.mem_map_of_mem hi)
   exact this.nodup hndB
  ·intro id id' Ca blk' hne hb hb' c hm
   exact Qw hndB (hidin id Ca hb) (hidin id' blk' hb') hne hm
  ·intro id Ca hb c hm
   refine .inr ?_
   show c ∈ b :: (F0 ++ F2)
   rw [← hbl]
   exact Ta.2 ⟨id, hidin id Ca hb, hm⟩
  ·rintro c (hc | hc)
   ·exact hO c hc
   ·rcases jp.1 hc with rfl | hc
    ·exact hlt
    ·rcases jl.1 hc with hc | hc
     ·exact hF0lt c hc
     ·exact hF2lt c hc
  ·intro id v hv
   simp only [A] at hv
   split at hv
   ·rename_i e
    subst e
    simp only [jc] at hv
    exact hν0.trans hv
   ·simp at hv
 refine PG (A := A) hG (fun h => by rw [hfz] at h; simp at h) hm c hL he hc ?_
 intro e s σ φ a w' hk h
 have Oe : (match s.heap 500000, Qn G s fn.results.toList with
  | some (.box τ' d1), some d => match Ty.dec τ' τ, (bif vw then (match Jf d1 τ with
   | some y => some (y, [])
   | none => none) else Gb s d1 τ), Be s rt fr d with
   | some _, some (x', l0), some (r, l) => bif Je (500000 :: (l0 ++ l)) then some (x', r) else none
   | _, _, _ => none
  | _, _ => none) = some r → a.defers = [] ∧ ∃ v, (results fn a.tmps).run P w' = .ok v w' ∧ Em (fun v w' => ∃ vs cur' et' F1 Fr, v = Ms vs ∧ Mp w w' (· ∈ b :: (F0 ++ F2)) ∧ w'.heap[b]? = some (.cells cur' et' (0, 0)) ∧ cur'.size = τ.size ∧
  (if vw then Ha w' (fun c => O c ∨ c ∈ b :: (F0 ++ F2) ∨ c ∈ Fr) τ r.1 cur'.toList ∧ F1 = [] else Cb w' τ r.1 cur'.toList F1) ∧
  Xb w' (fun c => O c ∨ c ∈ b :: (F0 ++ F2) ∨ c ∈ F1 ∨ c ∈ Fr) rt r.2 fr vs Fr ∧ (b :: (F1 ++ Fr)).Nodup ∧ ∀ c ∈ F1 ++ Fr, w.heap.size ≤ c ∨ c ∈ F0 ++ F2) (.returned v) w' := by
  intro hk
  split at hk
  ·rename_i τ' d1 d hbx' hd
   split at hk
   ·rename_i q x' l0 r' l hq hx' hr
    obtain rfl := Zc hq
    simp only [Ba] at hk
    obtain ⟨hnd', hk⟩ := hk
    simp only [jc] at hk
    subst hk
    have hnd' := Vf hnd'
    obtain ⟨hsh', b', cur', et', hσ', hh', hF', hr0, hsz'⟩ := h.hp 500000 _ hbx'
    have hpin : σ 500000 = .pointer (some ⟨b, 0, none⟩) := h.pin 500000 _ (show (if (500000 : Nat) = 500000 then some (Value.pointer (some ⟨b, 0, none⟩)) else none) = _ from if_pos rfl)
    rw [hpin] at hσ'
    simp only [Value.pointer.injEq, jc, Addr.mk.injEq, and_true] at hσ'
    subst hσ'
    have hkl : (∀ j, j ∈ l0 → ∃ Ca, s.heap j = some Ca) ∧ (if vw then Ha w' (OO (fun c => O c ∨ c ∈ b :: (F0 ++ F2)) s φ) τ' x' cur'.toList ∧ l0 = [] else Cb w' τ' x' cur'.toList (Aa φ l0)) := by
     cases vw with
     | true =>
      simp only [cond_true] at hx'
      split at hx'
      ·rename_i y hy
       simp only [jc, jh] at hx'
       obtain ⟨rfl, rfl⟩ := hx'
       exact ⟨by simp, by simp only [if_true]; exact ⟨(Ge hy).2 _ hr0, trivial⟩⟩
      ·simp at hx'
     | false =>
      simp only [cond_false] at hx'
      obtain ⟨g1, g2⟩ := Vh h hx' hr0
      exact ⟨g2, by simpa using g1⟩
    obtain ⟨hlive0, hx1⟩ := hkl
    obtain ⟨vs, hvs, hru⟩ := Rs hG.toEnvTy h hd
    obtain ⟨hR, hlive⟩ := KD h hr hru
    have hall : ∀ j, j ∈ 500000 :: (l0 ++ l) → ∃ Ca, s.heap j = some Ca := by
     intro j hj
     rcases jp.1 hj with rfl | hj
     ·exact ⟨_, hbx'⟩
     ·rcases jl.1 hj with hj | hj
      ·exact hlive0 j hj
      ·exact hlive j hj
    have hbk : Aa φ (500000 :: (l0 ++ l)) = b :: (Aa φ l0 ++ Aa φ l) := by
     have : Aa φ (500000 :: (l0 ++ l)) = φ 500000 ++ Aa φ (l0 ++ l) := by simp only [Aa, List.map_cons, List.flatten_cons]
     rw [this, hF', Pc]; rfl
    have hbn := Me h hnd' hall
    rw [hbk] at hbn
    have hinOO : ∀ c, c ∈ Aa φ l0 ++ Aa φ l → OO (fun c => O c ∨ c ∈ b :: (F0 ++ F2)) s φ c := by
     intro c hc
     rw [← Pc] at hc
     obtain ⟨j, hj, hm'⟩ := Ta.1 hc
     obtain ⟨Ca, hbj⟩ := hall j (jr _ hj)
     exact .inr ⟨j, Ca, hbj, hm'⟩
    refine ⟨h.df, _, Bu hvs, vs, cur', et', Aa φ l0, Aa φ l, rfl, ⟨h.fr.size, fun c hc hno => h.fr.block c hc hno, h.fr.os, h.fr.tape, h.fr.output⟩, hh', hsz', ?_, hR.mono ?_, hbn, ?_⟩
    ·cases vw with
     | true =>
      simp only [if_true] at hx1 ⊢
      refine ⟨hx1.1.weaken ?_, by rw [hx1.2]; simp [Aa]⟩
      rintro c (hc | hc | hc)
      ·exact .inl (.inl hc)
      ·exact .inl (.inr hc)
      ·exact hinOO c (List.mem_append_right _ hc)
     | false => simpa using hx1
    ·rintro c (hc | hc | hc | hc)
     ·exact .inl (.inl hc)
     ·exact .inl (.inr hc)
     ·exact hinOO c (List.mem_append_left _ hc)
     ·exact hinOO c (List.mem_append_right _ hc)
    ·intro c hcm
     have hcb : c ≠ b := by
      rintro rfl
      exact (List.nodup_cons.1 hbn).1 hcm
     rw [← Pc] at hcm
     obtain ⟨j, hj, hm'⟩ := Ta.1 hcm
     obtain ⟨Ca, hbj⟩ := hall j (jr _ hj)
     rcases h.fresh j Ca hbj c hm' with h1 | h1
     ·exact .inl h1
     ·have h1 : c ∈ b :: (F0 ++ F2) := h1
      rcases jp.1 h1 with h1 | h1
      ·exact absurd h1 hcb
      ·exact .inr h1
   ·simp at hk
  ·simp at hk
 cases e with
 | normal => exact Oe hk
 | ret => exact Oe hk
 | exit j => simp at hk
def UF (G : Fd) (L : List (Nat × Hb)) (fn : Func) (pt τ : Ty) (x : T pt) : Option (T τ) :=
 match fn.body with
 | some c => Bl G L c ⟨fn.ntmps, Il pt x 0, []⟩ fun e s => match e with
  | .exit _ => none
  | _ => match Qn G s fn.results.toList with
   | some (.pr (.ptr id []) .un) => match s.heap id with
    | some (.box τ' d) => match Ty.dec τ' τ, Jf d τ with
     | some _, some y => some y
     | _, _ => none
    | _ => none
   | _ => none
 | none => none
theorem NR (hG : Eg P I G) (hm : P.follows .mixedOrders = true) {f : FuncId} {fn : Func} {c : Code} (hf : P.funcs[f]? = some fn) (hb : fn.body = some c) (hname : (fn.name == "runtime.NumGoroutine") = false)
 (hL : ∀ b, b ∈ Ad c → Bc G L b) {pt τ : Ty} {F : T pt → Option (T τ)} (hn : pt.npar ≤ fn.ntmps) (hF : ∀ x r, F x = some r → UF G L fn pt τ x = some r) : Zf P I f (.nw pt τ F) := by
 refine ⟨⟨fn, hf, hname, by rw [hb]; rfl⟩, ?_⟩
 intro O w x r args hx hargs hO hI hB
 have he := hF x r hx
 unfold UF at he
 rw [hb] at he
 simp only at he
 refine calls_of_wp hf hb ?_
 have hlen := Rt hargs
 have hc : La w.heap.size (FD I) O w ⟨fn.ntmps, Il pt x 0, []⟩ (fun _ => undef) (fun _ => []) { tmps := args.toArray ++ Array.replicate (fn.ntmps - args.toArray.size) undef, defers := [] } w := by
  have hh : ∀ id, AS.heap ⟨fn.ntmps, Il pt x 0, []⟩ id = none := fun id => rfl
  refine ⟨?_, rfl, ?_, ?_, ?_, ?_, ?_, hO, ⟨rfl, rfl, rfl, jo _, fun _ _ _ => rfl⟩, ?_, hB, hI⟩
  ·simp; omega
  ·intro t d hd
   have hOO : OO O ⟨fn.ntmps, Il pt x 0, []⟩ (fun _ => []) = O := by
    funext b
    simp [OO, hh]
   rw [hOO]
   obtain ⟨j, v, h1, h2, h3⟩ := Tv hargs hd
   refine ⟨v, ?_, h3⟩
   have hj : j < args.length := (List.getElem?_eq_some_iff.1 h2).1
   have : t = j := by omega
   subst this
   rw [Array.getElem?_append_left (by simpa using hj)]
   simpa using h2
  ·intro id Ca hb; rw [hh] at hb; simp at hb
  ·intro id Ca hb; rw [hh] at hb; simp at hb
  ·intro id id' Ca blk' _ hb; rw [hh] at hb; simp at hb
  ·intro id Ca hb; rw [hh] at hb; simp at hb
  ·intro id v hv; simp [FD] at hv
 refine PG (A := FD I) hG (fun _ _ h => h) hm c hL he hc ?_
 intro e s σ φ a w' hk h
 have Oe : (match Qn G s fn.results.toList with
  | some (.pr (.ptr id []) .un) => match s.heap id with
   | some (.box τ' d) => match Ty.dec τ' τ, Jf d τ with
    | some _, some y => some y
    | _, _ => none
   | _ => none
  | _ => none) = some r → a.defers = [] ∧ ∃ v, (results fn a.tmps).run P w' = .ok v w' ∧ Em (fun v w' => ∃ b cur et, v = .pointer (some ⟨b, 0, none⟩) ∧ Mp w w' (fun _ => False) ∧ w.heap.size ≤ b ∧ w'.heap[b]? = some (.cells cur et (0, 0)) ∧ cur.size = τ.size ∧ Ha w' (fun c => O c ∨ c = b) τ r cur.toList) (.returned v) w' := by
  intro hk
  split at hk
  ·rename_i id hd
   split at hk
   ·rename_i τ' d hbx
    split at hk
    ·rename_i q y hq hy
     obtain rfl := Zc hq
     simp only [jc] at hk
     subst hk
     obtain ⟨vs, hvs, hru⟩ := Rs hG.toEnvTy h hd
     cases vs with
     | nil => simp [RU] at hru
     | cons v vs =>
      obtain ⟨h1, h2⟩ := hru
      cases vs with
      | cons _ _ => simp [RU] at h2
      | nil =>
       obtain ⟨_, b, cur, et, hσ, hh, hφ, hr0, hsz⟩ := h.hp id _ hbx
       rw [Qi] at h1
       obtain ⟨b', hσ', hv⟩ := h1.2 _ _ hbx
       rw [hσ] at hσ'
       simp only [Value.pointer.injEq, jc, Addr.mk.injEq, and_true] at hσ'
       subst hσ'
       have hmem : b ∈ φ id := by rw [hφ]; simp
       refine ⟨h.df, _, Bu hvs, b, cur, et, by simp only [Ms, hv, Pa], ⟨h.fr.size, fun b hb _ => h.fr.block b hb (fun h => h), h.fr.os, h.fr.tape, h.fr.output⟩, (h.fresh id _ hbx b hmem).resolve_right (fun h => h), hh, hsz, ?_⟩
       refine Ha.weaken ?_ ((Ge hy).2 _ hr0)
       rintro c (hc | rfl)
       ·exact .inl hc
       ·exact .inr ⟨id, _, hbx, hmem⟩
    ·simp at hk
   ·simp at hk
  ·simp at hk
 cases e with
 | normal => exact Oe hk
 | ret => exact Oe hk
 | exit j => simp at hk
end
open Go Go.WideShapes
def YA : (τ : Ty) → T τ → Prop
 | .i k, n => k.has n
 | .b, _ => True
 | .o, _ => True
 | .mp _ _, _ => True
 | .s, x => ja x ≤ Mg
 | .sl e, xs => ja xs ≤ Mg ∧ ∀ i (h : i < ja xs), YA e (List.get xs ⟨i, h⟩)
 | .u, _ => True
 | .p x y, v => YA x v.1 ∧ YA y v.2
def Ty.pos : Ty → Bool
 | .sl e => e.pos && Nat.blt 0 e.size
 | .p x y => x.pos && y.pos
 | .o => false
 | .mp _ _ => false
 | _ => true
section
variable {H : Type} {enc : TypeId × Value → H} {P : Program} {w : World} {base : Nat} {spare : Nat → Bool} {held : Bool}
theorem Ji {τ : Ty} {t : TypeId} (h : Hc P τ t = true) : P.cellsOf t = τ.size := by
 obtain ⟨i, h1, h2, _⟩ := Tok.size h
 simp [Program.cellsOf, h1, h2]
theorem PT {k : IntKind} {n : Int} (h : (Lit.int k n).wf = true) : k.has n := by
 simpa [Lit.wf, IntKind.has] using h
theorem YV {a : Addr} {n : Nat} (h : n ≠ 0) : a.add n = ⟨a.block, a.off + n, none⟩ := by
 simp [Addr.add, h]
theorem Uw {a : Addr} {n : Nat} {cs : List Value} (h : w.cells? base a n = some cs) (hn : 0 < n) :
 ∃ cur et fr, a = ⟨a.block, a.off, none⟩ ∧ w.heap[a.block]? = some (.cells cur et fr) ∧ a.off + n ≤ cur.size ∧ cs = Dc cur a.off n := by
 unfold World.cells? at h
 split at h
 ·have hlen : cs.length = n := by simpa using mapM_some_length h
  have hget : ∀ i, i < n → w.cell? (a.add i) = cs[i]? := fun i hi => mapM_some_get h i i (by simp [hi])
  have h0 := hget 0 hn
  have ha : a.add 0 = a := by simp [Addr.add]
  rw [ha] at h0
  have hc0 : cs[0]? = some (cs[0]'(by omega)) := je (by omega)
  rw [hc0] at h0
  unfold World.cell? at h0
  split at h0
  ·rename_i cur et fr hb
   have hsp : a.spot = none := by
    cases hs : a.spot with
    | none => rfl
    | some x => simp [hs] at h0
   have hcell : ∀ i, i < n → cur[a.off + i]? = cs[i]? := by
    intro i hi
    have := hget i hi
    by_cases hi0 : i = 0
    ·subst hi0
     rw [ha] at this
     unfold World.cell? at this
     rw [hb] at this
     simpa [hsp] using this
    ·rw [YV hi0] at this
     unfold World.cell? at this
     simp only at this
     rw [hb] at this
     simpa using this
   refine ⟨cur, et, fr, by cases a; simp_all, hb, ?_, ?_⟩
   ·have h1 := hcell (n - 1) (by omega)
    rw [je (by omega)] at h1
    have := (Array.getElem?_eq_some_iff.1 h1).1
    omega
   ·apply List.ext_getElem?
    intro i
    by_cases hi : i < n
    ·rw [Ed _ _ _ _ hi, hcell i hi]
    ·rw [List.getElem?_eq_none (by omega), List.getElem?_eq_none]
     simp [Dc]; omega
  ·simp at h0
 ·simp at h
theorem ZS {fs : List Field} {o : Nat} (h : Rd P .u fs o = true) : fs = [] := by
 cases fs <;> simp_all [Rd]
theorem TG {x y : Ty} {fs : List Field} {o : Nat} (h : Rd P (.p x y) fs o = true) : ∃ f r, fs = f :: r ∧ f.offset = o ∧ Hc P x f.type = true ∧ Rd P y r (o + x.size) = true := by
 cases fs with
 | nil => simp [Rd] at h
 | cons f r =>
  simp only [Rd, jd] at h
  exact ⟨f, r, rfl, ju h.1.1.1, h.1.2, h.2⟩
theorem YF {x y : Ty} {t : TypeId} (h : Hc P (.p x y) t = true) : ∃ fs, P.underlying t = some (.struct fs) ∧ Rd P (.p x y) fs.toList 0 = true := by
 simp only [Hc, jd] at h
 obtain ⟨_, h⟩ := h
 split at h
 ·rename_i fs hfs
  refine ⟨fs, hfs, ?_⟩
  split at h
  ·rename_i f r hr
   rw [hr]
   simpa [Rd] using h
  ·simp at h
 ·simp at h
theorem ZF {t : TypeId} (h : Hc P .u t = true) : ∃ fs, P.underlying t = some (.struct fs) ∧ fs.size = 0 := by
 simp only [Hc, jd] at h
 obtain ⟨_, h⟩ := h
 split at h
 ·rename_i fs hfs
  exact ⟨fs, hfs, ju h⟩
 ·simp at h
mutual
theorem Vx (hO : ∀ b, ¬ (fun _ : Nat => False) b) : ∀ (τ : Ty) (t : TypeId) (n : Nat) (cs : List Value) (x : DataW H × List MemPlace), Hc P τ t = true → τ.pos = true →
 DataW.trod enc P w base spare held n t cs = some x → ∃ y : T τ, Ha w (fun _ => False) τ y cs ∧ YA τ y
 | .i k, t, n, cs, x, ht, _, h => by
  obtain ⟨m, h1, _, h2⟩ := DataW.trod_int (Tok.i ht) h
  exact ⟨m, h1, PT h2⟩
 | .b, t, n, cs, x, ht, _, h => by
  obtain ⟨m, h1, _⟩ := DataW.trod_bool (Tok.b ht) h
  exact ⟨m, h1, trivial⟩
 | .o, t, n, cs, x, ht, hp, h => by simp [Ty.pos] at hp
 | .mp _ _, t, n, cs, x, ht, hp, h => by simp [Ty.pos] at hp
 | .s, t, n, cs, x, ht, _, h => by
  obtain ⟨m, h1, _, h2⟩ := DataW.trod_string (Tok.s ht) h
  refine ⟨m.data.toList, ?_, ?_⟩
  ·show cs = [.string ⟨List.toArray m.data.toList⟩]
   rw [h1]
  ·show m.data.toList.length ≤ Mg
   have : m.size = m.data.toList.length := Array.length_toList.symm
   unfold maxLen at h2
   unfold Mg
   omega
 | .sl e, t, n, cs, x, ht, hp, h => by
  obtain ⟨et, hu, he⟩ := Tok.sl ht
  simp only [Ty.pos, jd] at hp
  have hpos : 0 < e.size := by simpa using hp.2
  rcases DataW.trod_slice hu h with ⟨h1, _⟩ | ⟨a, len, cap, elems, rest, m, _, h1, _, _, h2, h3, h4, h5, _, _⟩
  ·exact ⟨([] : List (T e)), ⟨none, 0, h1, jo _, Nat.zero_le _, .inl rfl⟩, ⟨Nat.zero_le _, fun i hi => absurd hi (Nat.not_lt_zero i)⟩⟩
  ·rw [Ji he] at h5
   have hone : ∀ i, i < len → ∃ y : T e, ∃ cs', w.cells? base (a.add (i * e.size)) e.size = some cs' ∧ Ha w (fun _ => False) e y cs' ∧ YA e y := by
    intro i hi
    have := h5 i hi
    rw [je (by omega), qe] at this
    obtain ⟨cs', hc, hy⟩ := this
    obtain ⟨y, hv, hr⟩ := Vx hO e et m cs' _ he hp.1 hy
    exact ⟨y, cs', hc, hv, hr⟩
   let ys : List (T e) := List.ofFn fun i : Fin len => Classical.choose (hone i.1 i.2)
   have hlen : ys.length = len := by simp [ys]
   have hy : ∀ i (h : i < ys.length), ∃ cs', w.cells? base (a.add (i * e.size)) e.size = some cs' ∧ Ha w (fun _ => False) e (ys.get ⟨i, h⟩) cs' ∧ YA e (ys.get ⟨i, h⟩) := by
    intro i hi
    have := Classical.choose_spec (hone i (by omega))
    simpa [ys] using this
   have hmax : len ≤ Mg := by unfold maxLen at h3; unfold Mg; omega
   refine ⟨ys, ⟨some a, cap, by rw [h1, hlen], by rw [hlen]; exact h2, by rw [hlen]; exact hmax, ?_⟩, by rw [hlen]; exact hmax, fun i hi => (hy i hi).choose_spec.2.2⟩
   by_cases hl0 : len = 0
   ·left
    exact List.eq_nil_of_length_eq_zero (by omega)
   ·right
    obtain ⟨cs0, hc0, _⟩ := hy 0 (by omega)
    have ha0 : a.add (0 * e.size) = a := by simp [Addr.add]
    rw [ha0] at hc0
    obtain ⟨cur, et', fr, ha, hb, _, _⟩ := Uw hc0 hpos
    have hadd : ∀ i, (a.add (i * e.size)).block = a.block ∧ (a.add (i * e.size)).off = a.off + i * e.size := by
     intro i
     unfold Addr.add
     split
     ·rename_i hz; simp [hz]
     ·exact ⟨rfl, rfl⟩
    refine ⟨a.block, a.off, cur, et', fr, by rw [← ha], fun h => h, hb, ?_, ?_⟩
    ·obtain ⟨cs1, hc1, _⟩ := hy (len - 1) (by omega)
     obtain ⟨cur1, et1, fr1, _, hb1, hs1, _⟩ := Uw hc1 hpos
     rw [(hadd _).1, hb] at hb1
     simp only [jc, Obj.cells.injEq] at hb1
     rw [(hadd _).2, ← hb1.1] at hs1
     have : len * e.size = (len - 1) * e.size + e.size := by
      rw [← Nat.succ_mul]; congr 1; omega
     show a.off + ys.length * e.size ≤ cur.size
     rw [hlen]
     omega
    ·intro i hi
     obtain ⟨cs1, hc1, hv, _⟩ := hy i hi
     obtain ⟨cur1, et1, fr1, _, hb1, _, hs1⟩ := Uw hc1 hpos
     rw [(hadd _).1, hb] at hb1
     simp only [jc, Obj.cells.injEq] at hb1
     rw [(hadd _).2, ← hb1.1] at hs1
     rw [← hs1]
     exact hv
 | .u, t, n, cs, x, ht, _, h => by
  obtain ⟨fs, hu, hz⟩ := ZF ht
  obtain ⟨xs, m, _, _, hl, _⟩ := DataW.trod_struct hu h
  rw [Ji ht] at hl
  exact ⟨(), List.eq_nil_of_length_eq_zero hl, trivial⟩
 | .p a c2, t, n, cs, x, ht, hp, h => by
  obtain ⟨fs, hu, hf⟩ := YF ht
  obtain ⟨xs, m, _, _, hl, _, hget⟩ := DataW.trod_struct hu h
  rw [Ji ht] at hl
  have := Sy hO (.p a c2) fs.toList 0 m cs hf hp (by simpa using hl) (by
   intro i f hi
   have := hget i f (by simpa using hi)
   have hlt : i < xs.length := by
    have : i < fs.toList.length := (List.getElem?_eq_some_iff.1 hi).1
    simp at this; omega
   exact ⟨_, this.trans (je hlt)⟩)
  simpa using this
termination_by τ => (sizeOf τ, 1)
theorem Sy (hO : ∀ b, ¬ (fun _ : Nat => False) b) : ∀ (τ : Ty) (fs : List Field) (o m : Nat) (cs : List Value), Rd P τ fs o = true → τ.pos = true → cs.length = o + τ.size →
 (∀ (i : Nat) (f : Field), fs[i]? = some f → ∃ x, DataW.trod enc P w base spare held m f.type ((cs.drop f.offset).take (P.cellsOf f.type)) = some x) →
 ∃ y : T τ, Ha w (fun _ => False) τ y (cs.drop o) ∧ YA τ y
 | .p a c2, fs, o, m, cs, hf, hp, hl, hx => by
  obtain ⟨f, r, rfl, ho, ht, hr⟩ := TG hf
  simp only [Ty.pos, jd] at hp
  simp only [Ty.size] at hl
  obtain ⟨z, hz⟩ := hx 0 f rfl
  rw [Ji ht, ho] at hz
  obtain ⟨y1, hv1, hr1⟩ := Vx hO a f.type m _ z ht hp.1 hz
  obtain ⟨y2, hv2, hr2⟩ := Sy hO c2 r (o + a.size) m cs hr hp.2 (by omega) (fun i f' hi => hx (i + 1) f' (by simpa using hi))
  refine ⟨(y1, y2), ⟨(cs.drop o).take a.size, cs.drop (o + a.size), ?_, hv1, hv2⟩, hr1, hr2⟩
  rw [← List.drop_drop, List.take_append_drop]
 | .u, fs, o, m, cs, _, _, hl, _ => ⟨(), by simp only [Ha, Ty.size] at hl ⊢; exact List.drop_of_length_le (by omega), trivial⟩
 | .i _, fs, o, m, cs, hf, _, _, _ => by simp [Rd] at hf
 | .b, fs, o, m, cs, hf, _, _, _ => by simp [Rd] at hf
 | .o, fs, o, m, cs, hf, _, _, _ => by simp [Rd] at hf
 | .mp _ _, fs, o, m, cs, hf, _, _, _ => by simp [Rd] at hf
 | .s, fs, o, m, cs, hf, _, _, _ => by simp [Rd] at hf
 | .sl _, fs, o, m, cs, hf, _, _, _ => by simp [Rd] at hf
termination_by τ => (sizeOf τ, 0)
end
end
open Go Go.WideShapes Go.ChangeShapes
def Kg (P : Program) : Ty → List TypeId → Bool
 | .p x y, t :: ts => Hc P x t && x.pos && Kg P y ts
 | .u, [] => true
 | _, _ => false
section
variable {H : Type} {enc : TypeId × Value → H} {P : Program} {w : World} {base : Nat} {spare : Nat → Bool} {held : Bool}
theorem MM {τ : Ty} {t : TypeId} {v : Value} {r : Reach} {b0 : Nat} (ht : Hc P τ t = true) (h : Value.okWide P w r b0 t v) : v = Ic τ v.cells.toList := by
 have key : ∀ {τ : Ty}, τ.isAgg = false → v.cells = #[v] → v = Ic τ v.cells.toList := by
  intro τ h1 h2
  rw [h2]; simp [Ic, h1]
 cases τ with
 | i k =>
  obtain ⟨n, rfl⟩ := okWide_int (Tok.i ht) h
  exact key rfl rfl
 | b =>
  obtain ⟨n, rfl⟩ := okWide_bool (Tok.b ht) h
  exact key rfl rfl
 | o =>
  refine key rfl ?_
  obtain ⟨et, hu⟩ := Tok.o ht
  unfold Value.okWide at h
  rw [hu] at h
  cases v with
  | agg cs => simp [Cell.okWide, Cell.ok, hu] at h
  | _ => rfl
 | mp _ _ =>
  refine key rfl ?_
  obtain ⟨kt, et, hu, _⟩ := Tok.mp ht
  unfold Value.okWide at h
  rw [hu] at h
  cases v with
  | agg cs => simp [Cell.okWide, Cell.ok, hu] at h
  | _ => rfl
 | s =>
  refine key rfl ?_
  have hu := Tok.s ht
  unfold Value.okWide at h
  rw [hu] at h
  cases v with
  | agg cs => simp [Cell.okWide, Cell.ok, hu] at h
  | _ => rfl
 | sl e =>
  refine key rfl ?_
  obtain ⟨et, hu, _⟩ := Tok.sl ht
  unfold Value.okWide at h
  rw [hu] at h
  cases v with
  | agg cs => simp [Cell.okWide, Cell.ok, hu] at h
  | _ => rfl
 | u =>
  obtain ⟨fs, hu, _⟩ := ZF ht
  obtain ⟨cs, rfl, _⟩ := okWide_struct hu h
  simp [Ic, Ty.isAgg, Value.cells]
 | p x y =>
  obtain ⟨fs, hu, _⟩ := YF ht
  obtain ⟨cs, rfl, _⟩ := okWide_struct hu h
  simp [Ic, Ty.isAgg, Value.cells]
theorem Ux : ∀ {pt : Ty} {ts : List TypeId} {vs : List Value} {ds : List (DataW H)} {ps : List MemPlace}, Kg P pt ts = true → DataW.TrodAll enc P w 0 spare held ts vs ds ps →
 (∀ (j : Nat) t v, ts[j]? = some t → vs[j]? = some v → Value.okWide P w .any base t v) → ∃ x : T pt, Ee w (fun _ => False) pt x vs ∧ YA pt x
 | .p x y, t :: ts, v :: vs, d :: ds, ps, hp, h, hv => by
  simp only [Kg, jd] at hp
  obtain ⟨p, q, ⟨n, h1⟩, h2, _⟩ := h
  obtain ⟨a, ha, hra⟩ := Vx (fun _ h => h) x t n _ _ hp.1.1 hp.1.2 h1
  obtain ⟨b, hb, hrb⟩ := Ux hp.2 h2 fun j t' v' h1 h2 => hv (j + 1) t' v' (by simpa using h1) (by simpa using h2)
  exact ⟨(a, b), ⟨⟨_, MM hp.1.1 (hv 0 t v rfl rfl), ha⟩, hb⟩, hra, hrb⟩
 | .u, [], [], [], _, _, _, _ => ⟨(), trivial, trivial⟩
 | .p _ _, [], _, _, _, hp, _, _ => by simp [Kg] at hp
 | .u, _ :: _, _, _, _, hp, _, _ => by simp [Kg] at hp
 | .i _, _, _, _, _, hp, _, _ => by simp [Kg] at hp
 | .b, _, _, _, _, hp, _, _ => by simp [Kg] at hp
 | .o, _, _, _, _, hp, _, _ => by simp [Kg] at hp
 | .mp _ _, _, _, _, _, hp, _, _ => by simp [Kg] at hp
 | .s, _, _, _, _, hp, _, _ => by simp [Kg] at hp
 | .sl _, _, _, _, _, hp, _, _ => by simp [Kg] at hp
 | .p _ _, _ :: _, [], _, _, _, h, _ => by simp [DataW.TrodAll] at h
 | .p _ _, _ :: _, _ :: _, [], _, _, h, _ => by simp [DataW.TrodAll] at h
 | .u, [], _ :: _, _, _, _, h, _ => by simp [DataW.TrodAll] at h
 | .u, [], [], _ :: _, _, _, h, _ => by simp [DataW.TrodAll] at h
def Xx (P : Program) (t : TypeId) : Prop := ∃ τ : Ty, Hc P τ t = true ∧ τ.pos = true
theorem UG : ∀ {τ : Ty} {fs : List Field} {o : Nat}, Rd P τ fs o = true → τ.pos = true →
 (∀ f ∈ fs, Xx P f.type) ∧ τ.size = (fs.map fun f => P.cellsOf f.type).sum ∧ ∀ (j : Nat) f, fs[j]? = some f → f.offset = o + ((fs.take j).map fun f => P.cellsOf f.type).sum
 | .u, fs, o, h, _ => by
  rw [ZS h]
  simp [Ty.size]
 | .p x y, fs, o, h, hp => by
  obtain ⟨f, r, rfl, ho, ht, hr⟩ := TG h
  simp only [Ty.pos, jd] at hp
  obtain ⟨h1, h2, h3⟩ := UG hr hp.2
  refine ⟨?_, ?_, ?_⟩
  ·intro g hg
   rcases jp.1 hg with rfl | hg
   ·exact ⟨x, ht, hp.1⟩
   ·exact h1 g hg
  ·simp [Ty.size, Ji ht, h2]
  ·intro j g hj
   cases j with
   | zero => simp at hj; subst hj; simp [ho]
   | succ j =>
    have := h3 j g (by simpa using hj)
    simp [this, Ji ht, jt]
 | .i _, fs, o, h, _ => by simp [Rd] at h
 | .b, fs, o, h, _ => by simp [Rd] at h
 | .o, fs, o, h, _ => by simp [Rd] at h
 | .mp _ _, fs, o, h, _ => by simp [Rd] at h
 | .s, fs, o, h, _ => by simp [Rd] at h
 | .sl _, fs, o, h, _ => by simp [Rd] at h
theorem Zq {t : TypeId} {u : TypeDesc} (h : Xx P t) (hu : P.underlying t = some u) : (∃ k, u = .int k) ∨ u = .bool ∨ u = .string ∨ (∃ e, u = .slice e ∧ Xx P e ∧ 0 < P.cellsOf e) ∨ ∃ fs, u = .struct fs := by
 obtain ⟨τ, ht, hp⟩ := h
 cases τ with
 | i k => rw [Tok.i ht] at hu; exact .inl ⟨k, (Option.some.inj hu).symm⟩
 | b => rw [Tok.b ht] at hu; exact .inr (.inl (Option.some.inj hu).symm)
 | o => simp [Ty.pos] at hp
 | mp _ _ => simp [Ty.pos] at hp
 | s => rw [Tok.s ht] at hu; exact .inr (.inr (.inl (Option.some.inj hu).symm))
 | sl e =>
  obtain ⟨et, h1, h2⟩ := Tok.sl ht
  rw [h1] at hu
  simp only [Ty.pos, jd] at hp
  exact .inr (.inr (.inr (.inl ⟨et, (Option.some.inj hu).symm, ⟨e, h2, hp.1⟩, by rw [Ji h2]; simpa using hp.2⟩)))
 | u => obtain ⟨fs, h1, _⟩ := ZF ht; rw [h1] at hu; exact .inr (.inr (.inr (.inr ⟨fs, (Option.some.inj hu).symm⟩)))
 | p x y => obtain ⟨fs, h1, _⟩ := YF ht; rw [h1] at hu; exact .inr (.inr (.inr (.inr ⟨fs, (Option.some.inj hu).symm⟩)))
theorem HL : Kids P (Xx P) := by
 refine ⟨?_, ?_, ?_, ?_, ?_⟩
 ·intro t e ht hu
  rcases Zq ht hu with ⟨k, h⟩ | h | h | ⟨e', h, _⟩ | ⟨fs, h⟩ <;> simp at h
 ·intro t e ht hu
  rcases Zq ht hu with ⟨k, h⟩ | h | h | ⟨e', h, h2, _⟩ | ⟨fs, h⟩ <;> simp at h
  rw [h]; exact h2
 ·intro t e n ht hu
  rcases Zq ht hu with ⟨k, h⟩ | h | h | ⟨e', h, _⟩ | ⟨fs, h⟩ <;> simp at h
 ·intro t fs ht hu
  obtain ⟨τ, ht, hp⟩ := ht
  cases τ with
  | i k => rw [Tok.i ht] at hu; simp at hu
  | b => rw [Tok.b ht] at hu; simp at hu
  | o => simp [Ty.pos] at hp
  | mp _ _ => simp [Ty.pos] at hp
  | s => rw [Tok.s ht] at hu; simp at hu
  | sl e => obtain ⟨et, h1, _⟩ := Tok.sl ht; rw [h1] at hu; simp at hu
  | u =>
   obtain ⟨fs', h1, h2⟩ := ZF ht
   rw [h1] at hu
   simp only [jc, TypeDesc.struct.injEq] at hu
   subst hu
   have : fs'.toList = [] := by simpa using h2
   rw [Ji ht, this]
   simp [Ty.size]
  | p x y =>
   obtain ⟨fs', h1, h2⟩ := YF ht
   rw [h1] at hu
   simp only [jc, TypeDesc.struct.injEq] at hu
   subst hu
   obtain ⟨a, b, c⟩ := UG h2 hp
   exact ⟨a, by rw [Ji ht, b], fun j f hj => by simpa using c j f hj⟩
 ·intro t k e ht hu
  rcases Zq ht hu with ⟨k, h⟩ | h | h | ⟨e', h, _⟩ | ⟨fs, h⟩ <;> simp at h
theorem Dz : ∀ {pt : Ty} {ts : List TypeId}, Kg P pt ts = true → ∀ t ∈ ts, Xx P t
 | .p x y, t :: ts, h, t', ht => by
  simp only [Kg, jd] at h
  rcases jp.1 ht with rfl | ht
  ·exact ⟨x, h.1.1, h.1.2⟩
  ·exact Dz h.2 t' ht
 | .u, [], _, _, ht => by simp at ht
 | .p _ _, [], _, _, ht => by simp at ht
 | .u, _ :: _, h, _, _ => by simp [Kg] at h
 | .i _, _, h, _, _ => by simp [Kg] at h
 | .b, _, h, _, _ => by simp [Kg] at h
 | .o, _, h, _, _ => by simp [Kg] at h
 | .mp _ _, _, h, _, _ => by simp [Kg] at h
 | .s, _, h, _, _ => by simp [Kg] at h
 | .sl _, _, h, _, _ => by simp [Kg] at h
theorem Kw {w' : World} {sp' : Nat → Bool} : ∀ {ts : List TypeId} {vs : List Value} {ds : List (DataW H)} {ps : List MemPlace}, (∀ t ∈ ts, Xx P t) →
 DataW.TrodAll enc P w 0 (fun _ => true) true ts vs ds ps → (∀ p ∈ ps, w.sameAt w' p) → (∀ p ∈ ps, sp' p.block = true) → DataW.TrodAll enc P w' 0 sp' true ts vs ds ps
 | [], [], [], _, _, h, _, _ => h
 | t :: ts, v :: vs, d :: ds, ps, hp, h, h1, h2 => by
  obtain ⟨p, q, ⟨n, ha⟩, hb, rfl⟩ := h
  refine ⟨p, q, ⟨n, DataW.trod_stays HL ?_ (fun h => by simp at h) (hp t (by simp)) ha (fun z hz => h1 z (List.mem_append_left _ hz)) (fun z hz => h2 z (List.mem_append_left _ hz))⟩,
   Kw (fun t ht => hp t (by simp [ht])) hb (fun z hz => h1 z (List.mem_append_right _ hz)) (fun z hz => h2 z (List.mem_append_right _ hz)), rfl⟩
  intro t e ht hu
  rcases Zq ht hu with ⟨k, h⟩ | h | h | ⟨e', h, _, h2⟩ | ⟨fs, h⟩ <;> simp at h
  rw [h]; exact h2
 | [], _ :: _, _, _, _, h, _, _ => by simp [DataW.TrodAll] at h
 | [], [], _ :: _, _, _, h, _, _ => by simp [DataW.TrodAll] at h
 | _ :: _, [], _, _, _, h, _, _ => by simp [DataW.TrodAll] at h
 | _ :: _, _ :: _, [], _, _, h, _, _ => by simp [DataW.TrodAll] at h
theorem Gz : ∀ {ts : List TypeId} {vs : List Value} {ds : List (DataW H)} {ps : List MemPlace}, DataW.TrodAll enc P w base spare held ts vs ds ps → ds.length = ts.length
 | [], [], [], _, _ => rfl
 | _ :: _, _ :: _, _ :: _, _, h => by
  obtain ⟨_, _, _, h, _⟩ := h
  simp [Gz h]
 | [], _ :: _, _, _, h => by simp [DataW.TrodAll] at h
 | [], [], _ :: _, _, h => by simp [DataW.TrodAll] at h
 | _ :: _, [], _, _, h => by simp [DataW.TrodAll] at h
 | _ :: _, _ :: _, [], _, h => by simp [DataW.TrodAll] at h
theorem Mp.but {w w' : World} (h : Mp w w' fun _ => False) (may : MemPlace → Prop) : w.keptBut w' may := by
 refine ⟨h.os, h.output, fun i hi => ?_⟩
 rw [h.block i hi (fun h => h)]
 cases w.heap[i]? with
 | none => rfl
 | some o =>
  cases o with
  | cells c t fr => exact ⟨rfl, rfl, rfl, fun _ _ => rfl⟩
  | map es clock => exact .inr ⟨rfl, rfl⟩
  | _ => rfl
def LZ : Sf := ⟨0, fun _ => True, fun _ _ _ h => h⟩
theorem KL {C : Checked} {os : Os} {f : FuncId} {fn : Func} {s : ChangeSpec} {apart fresh handsOn again : Bool} {pt : Ty} {fl : Bool} {F : T pt → Option (Bool × Unit)} {tb : TypeId}
 (own : ownKnob C.prog.godebug = none) (started : os.Started) (noInit : C.prog.inits.idxOf? f = none) (hfn : C.prog.funcs[f]? = some fn)
 (witness : ∃ (w : World) (tape : Tape) (i : Input), w.os = os ∧ (w.forCall tape i).Shaped C.prog ∧ i.vars = [] ∧ Input.okWide C.prog (w.forCall tape i) .any w.heap.size f i ∧
  s.pre6 enc C.prog fn [] apart (w.forCall tape i).memory i.args ∧ ({} : Assume).holds C.prog (lone (Frame.enter C.prog f i.args .normal) [] (w.forCall tape i)))
 (hvars : s.vars = []) (hs : ∀ ds : List (DataW H), ds.length = fn.params.toList.length → s.fn H ds = { results := [.lit (.bool true)], args := ds })
 (hp : Kg C.prog pt fn.params.toList = true) (hr : fn.resultTypes = #[tb]) (htb : C.prog.underlying tb = some .bool)
 (hsound : Zf C.prog LZ f (.pu pt (.p .b .u) [fl] F)) (hF : ∀ x, YA pt x → F x = some (true, ())) :
 ReturnsInHanded {} C os f .any (s.pre6 enc C.prog fn [] apart) (s.post enc C.prog fn apart fresh handsOn again) := by
 refine returnsInHanded_of_change own started noInit hfn witness ?_
 intro W b0 args ds gs before hval hW _ _
 have hW0 := hW
 obtain ⟨p, q, hA, hV, hps, hfz, hnd⟩ := hW
 rw [hvars] at hV
 have hgs : gs = [] ∧ q = [] := by
  cases gs with
  | nil => exact ⟨rfl, hV⟩
  | cons _ _ => exact hV.elim
 obtain ⟨rfl, rfl⟩ := hgs
 simp only [List.append_nil] at hps
 subst hps
 obtain ⟨x, hx, hrx⟩ := Ux (base := b0) hp hA fun j t v h1 h2 => hval j t v (by simpa using h1) (by simpa using h2)
 have hcall := hsound.2 (fun _ => False) W x (true, ()) args.toList (hF x hrx) hx (fun _ h => h.elim) trivial (Nat.zero_le _)
 refine hcall.mono fun e W' hret => ?_
 cases e with
 | returned v =>
  obtain ⟨vs, Fr, hv, hk, hR, _, _⟩ := hret
  have hvt : v = .bool true := by
   cases vs with
   | nil => simp [Xb] at hR
   | cons a r =>
    obtain ⟨cs, F1, F2, ha, _, hown, hrest⟩ := hR
    cases r with
    | cons _ _ => simp [Xb] at hrest
    | nil =>
     have hcs : cs = [.bool true] := by
      cases fl with
      | true => exact hown.1
      | false => exact hown.1
     rw [hv, Ms, ha, hcs]
     rfl
  subst hvt
  refine ⟨_, rfl, ?_⟩
  have hsp := hs ds (Gz hA)
  have hlt : ∀ z ∈ before, z.block < W.heap.size := hW0.lt
  have hsame : ∀ z ∈ before, W.sameAt W' z := by
   intro z hz
   have hb := hk.block z.block (hlt z hz) (fun h => h)
   cases z with
   | cell b off =>
    show W'.cell? _ = W.cell? _
    simp only [World.cell?]
    rw [show W'.heap[b]? = W.heap[b]? from hb]
   | map b => exact hb
  have hargs : ∀ sp : Nat → Bool, (∀ z ∈ before, sp z.block = true) → DataW.TrodAll enc C.prog W' 0 sp true fn.params.toList args.toList ds before :=
   fun sp h => Kw (Dz hp) hA hsame h
  have hres : ∀ (b : Nat) (sp : Nat → Bool) (hd : Bool), DataW.TrodAll enc C.prog W' b sp hd fn.resultTypes.toList ((Value.bool true).resultList fn.resultTypes.size) [.lit (.bool true)] [] := by
   intro b sp hd
   rw [hr]
   exact trodAll_mk1 (Go.RowKit.shut_bool htb true)
  have hold : ∀ z ∈ before, (fun b => decide (b < W.heap.size)) z.block = true := fun z hz => by simpa using hlt z hz
  refine ⟨ds, [], before, [], before, [], hW0, ?_, ?_, ?_, hk.but _, fun _ => ⟨?_, ds.cons (.lit (.bool true)), [], before, ⟨before, [], ?_, ?_, by simp, ?_, ?_⟩, fun z hz _ => hz⟩⟩
  ·rw [List.append_nil, hsp]; exact hres _ _ _
  ·rw [List.append_nil, hsp]; exact hargs _ hold
  ·rw [List.append_nil, hsp, hvars]; rfl
  ·intro j t r hj hv
   rw [hr] at hj hv
   match j, hj, hv with
   | 0, hj, hv =>
    simp only [List.getElem?_toArray, List.getElem?_cons_zero, jc] at hj
    simp [Value.resultList] at hv
    subst hj; subst hv
    exact Go.RowKit.okWide_bool_mk htb true
  ·exact trodAll_append (hargs _ (fun _ _ => rfl)) (hres _ _ _)
  ·rw [hvars]; rfl
  ·intro b off hz
   have := hfz b off hz
   unfold World.frozen? at this ⊢
   rw [show W'.heap[b]? = W.heap[b]? from hk.block b (hlt _ hz) (fun h => h)]
   exact this
  ·exact hnd
 | _ => exact hret.elim
end
noncomputable def Yb {X R : Type} (step : X → Option (X ⊕ R)) (x : X) : Option R :=
 open Classical in if h : ∃ m y, Er step m x y then some h.choose_spec.choose else none
theorem Er.det {X R : Type} {step : X → Option (X ⊕ R)} : ∀ {m n : Nat} {x : X} {y z : R}, Er step m x y → Er step n x z → y = z
 | 0, _, _, _, _, h, _ => h.elim
 | _ + 1, 0, _, _, _, _, h => h.elim
 | m + 1, n + 1, x, y, z, h, h' => by
  rcases h with h | ⟨x1, h, h1⟩ <;> rcases h' with h' | ⟨x2, h', h2⟩
  ·rw [h] at h'; simpa using h'
  ·rw [h] at h'; simp at h'
  ·rw [h] at h'; simp at h'
  ·rw [h] at h'
   simp only [jc, Sum.inl.injEq] at h'
   subst h'
   exact Er.det h1 h2
theorem Jt {X R : Type} {step : X → Option (X ⊕ R)} {x : X} {y : R} : Yb step x = some y ↔ ∃ m, Er step m x y := by
 unfold Yb
 constructor
 ·intro h
  split at h
  ·rename_i hh
   simp only [jc] at h
   exact ⟨_, h ▸ hh.choose_spec.choose_spec⟩
  ·simp at h
 ·rintro ⟨m, h⟩
  have hh : ∃ m y, Er step m x y := ⟨m, y, h⟩
  rw [dif_pos hh]
  exact congrArg some (Er.det hh.choose_spec.choose_spec h)
theorem Ap {X R : Type} {step : X → Option (X ⊕ R)} (x : X) : Yb step x = (step x).bind (Sum.elim (Yb step) some) := by
 apply Option.ext
 intro y
 rw [Jt]
 constructor
 ·rintro ⟨m, h⟩
  cases m with
  | zero => exact h.elim
  | succ m =>
   rcases h with h | ⟨x', h, h'⟩
   ·simp [h]
   ·simp [h, Jt.2 ⟨m, h'⟩]
 ·intro h
  rw [qe] at h
  obtain ⟨z, hz, h⟩ := h
  cases z with
  | inl x' =>
   obtain ⟨m, hm⟩ := Jt.1 h
   exact ⟨m + 1, .inr ⟨x', hz, hm⟩⟩
  | inr z =>
   simp only [Sum.elim_inr, jc] at h
   subst h
   exact ⟨1, .inl hz⟩
def lp (fn : Func) (i : Nat) : Code := (Ad (fn.body.getD .skip)).getD i .skip
theorem IE {G : Fd} {L : List (Nat × Hb)} {fn : Func} {i r : Nat} {ls : Hb} {R : ls.inT.X → Option (ls.inT.X ⊕ (ls.outT.X ⊕ ls.retT.X))}
 (h1 : Gg (lp fn i) = some r) (h2 : (Ra L r) = some ls) (h3 : ls.F = Yb R) (h4 : ∀ x, Mt G L ls (lp fn i) x = R x) : Bc G L (lp fn i) := by
 intro r' ls' hr hl x y hy
 rw [h1] at hr
 simp only [jc] at hr
 subst hr
 rw [h2] at hl
 simp only [jc] at hl
 subst hl
 rw [h3] at hy
 obtain ⟨m, hm⟩ := Jt.1 hy
 have : Mt G L ls (lp fn i) = R := funext h4
 rw [this]
 exact ⟨m, hm⟩
theorem Jx {G : Fd} {L : List (Nat × Hb)} {fn : Func} {k : Nat} (hk : Nat.beq (Ad (fn.body.getD .skip)).length k = true) (h : ∀ i, i < k → Bc G L (lp fn i)) :
 ∀ b, b ∈ Ad (fn.body.getD .skip) → Bc G L b := by
 intro b hb
 obtain ⟨i, hi, rfl⟩ := List.mem_iff_getElem.1 hb
 have := h i (by rw [← ju hk]; exact hi)
 unfold lp at this
 rwa [qh, je hi] at this
theorem Jb {p : Nat → Prop} : ∀ i, i < 0 → p i := fun i h => absurd h (Nat.not_lt_zero i)
theorem Nb {p : Nat → Prop} {k : Nat} (h : p k) (hr : ∀ i, i < k → p i) : ∀ i, i < k + 1 → p i := by
 intro i hi
 rcases Nat.lt_or_eq_of_le (Nat.lt_succ_iff.1 hi) with hi | rfl
 ·exact hr i hi
 ·exact h
section
variable {P : Program}
theorem IQ {l : List (Nat × Ty)} {fs : List (Nat × Kb)} {m : List (Nat × Nat)} {z : Bool} {ar : List (Nat × Ty × Nat)} {mv ml : List Nat}
 (h : ((l.all fun x => Hc P x.2 x.1) && (ar.all fun x => Lz P x.1 x.2.1 x.2.2)) = true) : EnvTy P ⟨l, fs, m, z, ar, mv, ml⟩ := by
 simp only [jd] at h
 exact ⟨fun t τ ht => List.all_eq_true.1 h.1 (t, τ) (Ll ht), fun t e n ht => List.all_eq_true.1 h.2 (t, e, n) (Ll ht)⟩
theorem BE {I : Sf} {l : List (Nat × Ty)} {m : List (Nat × Nat)} {z : Bool} {ar : List (Nat × Ty × Nat)} {mv ml : List Nat}
 (h : ((l.all fun x => Hc P x.2 x.1) && (ar.all fun x => Lz P x.1 x.2.1 x.2.2)) = true) : Eg P I ⟨l, [], m, z, ar, mv, ml⟩ :=
 { toEnvTy := IQ h, fn := fun f sem h => by simp [Ra] at h }
theorem Eg.cons {I : Sf} {l : List (Nat × Ty)} {fs : List (Nat × Kb)} {m : List (Nat × Nat)} {z : Bool} {ar : List (Nat × Ty × Nat)} {mv ml : List Nat} {f : Nat} {sem : Kb} (hs : Zf P I f sem)
 (h : Eg P I ⟨l, fs, m, z, ar, mv, ml⟩) : Eg P I ⟨l, (f, sem) :: fs, m, z, ar, mv, ml⟩ :=
 { toEnvTy := ⟨h.ty, h.ar⟩, fn := fun g s hg => by
    simp only [Rb] at hg
    split at hg
    ·rename_i e
     simp only [jc] at hg
     subst e; subst hg
     exact hs
    ·exact h.fn g s hg }
theorem Sw {fn : Func} (h : fn.body.isSome = true) : fn.body = some (fn.body.getD .skip) := by
 cases hb : fn.body with
 | none => rw [hb] at h; simp at h
 | some c => rfl
variable {I : Sf} {G : Fd} {L : List (Nat × Hb)}
theorem Sx (hG : Eg P I G) (hm : P.follows .mixedOrders = true) {f : FuncId} {fn : Func} {k : Nat} {pt rt : Ty} {fr : List Bool} {F : T pt → Option (T rt)} (hf : P.funcs[f]? = some fn)
 (hb : (fn.body.isSome && !(fn.name == "runtime.NumGoroutine") && jx pt.npar fn.ntmps && Nat.beq (Ad (fn.body.getD .skip)).length k) = true)
 (hL : ∀ i, i < k → Bc G L (lp fn i)) (hF : ∀ x, VM G L fn pt rt fr x = F x) : Zf P I f (.pu pt rt fr F) := by
 simp only [jd, Bool.not_eq_true'] at hb
 exact OR hG hm hf (Sw hb.1.1.1) hb.1.1.2 (Jx hb.2 hL) (Nat.le_of_ble_eq_true hb.1.2) fun x r h => (hF x).trans h
theorem SO (hG : Eg P I G) (hfz : G.fz = false) (hm : P.follows .mixedOrders = true) {f : FuncId} {fn : Func} {k : Nat} {vw cv : Bool} {τ pt rt : Ty} {fr : List Bool} {F : T τ → T pt → Option (T τ × T rt)} (hf : P.funcs[f]? = some fn)
 (hb : (fn.body.isSome && !(fn.name == "runtime.NumGoroutine") && jx (pt.npar + 1) fn.ntmps && Nat.beq (Ad (fn.body.getD .skip)).length k) = true)
 (hL : ∀ i, i < k → Bc G L (lp fn i)) (hF : ∀ x0 x, TF G L fn vw cv τ pt rt fr x0 x = F x0 x) : Zf P I f (.bx vw cv τ pt rt fr F) := by
 simp only [jd, Bool.not_eq_true'] at hb
 exact MR hG hfz hm hf (Sw hb.1.1.1) hb.1.1.2 (Jx hb.2 hL) (Nat.le_of_ble_eq_true hb.1.2) fun x0 x r h => (hF x0 x).trans h
theorem UO (hG : Eg P I G) (hm : P.follows .mixedOrders = true) {f : FuncId} {fn : Func} {k : Nat} {pt τ : Ty} {F : T pt → Option (T τ)} (hf : P.funcs[f]? = some fn)
 (hb : (fn.body.isSome && !(fn.name == "runtime.NumGoroutine") && jx pt.npar fn.ntmps && Nat.beq (Ad (fn.body.getD .skip)).length k) = true)
 (hL : ∀ i, i < k → Bc G L (lp fn i)) (hF : ∀ x, UF G L fn pt τ x = F x) : Zf P I f (.nw pt τ F) := by
 simp only [jd, Bool.not_eq_true'] at hb
 exact NR hG hm hf (Sw hb.1.1.1) hb.1.1.2 (Jx hb.2 hL) (Nat.le_of_ble_eq_true hb.1.2) fun x r h => (hF x).trans h
end
abbrev Ud : Ty := .p (.i .i64) (.p (.sl (.i .i64)) .u)
abbrev Qc : Ty := .p (.i .i64) (.p .o .u)
def hd (h : T .o) : Value := .slice h.1 h.2.1 h.2.2
section
variable {P : Program} {w w' : World}
theorem NO {x : T Ud} {cs : List Value} {F : List Nat} (h : Cb w Ud x cs F) : ∃ h : T .o, cs = [.int .i64 x.1, hd h] ∧ Cb w (.sl (.i .i64)) x.2.1 [hd h] F := by
 obtain ⟨c1, c2, F1, F2, rfl, rfl, ⟨rfl, rfl⟩, c3, c4, F3, F4, rfl, rfl, h3, rfl, rfl⟩ := h
 have h3' := h3
 obtain ⟨_, ⟨e1, _, _⟩ | ⟨bl, off, cap, cur, et, Fs, e1, _⟩⟩ := h3
 ·subst e1
  exact ⟨(none, 0, 0), rfl, by simpa [hd] using h3'⟩
 ·subst e1
  exact ⟨(some ⟨bl, off, none⟩, ja x.2.1, cap), rfl, by simpa [hd] using h3'⟩
theorem JW {x : T Ud} {h : T .o} {F : List Nat} (ho : Cb w (.sl (.i .i64)) x.2.1 [hd h] F) : Cb w Ud x [.int .i64 x.1, hd h] F :=
 ⟨[.int .i64 x.1], [hd h], [], F, rfl, rfl, ⟨rfl, rfl⟩, [hd h], [], F, [], by simp, by simp, ho, rfl, rfl⟩
theorem YJ (x : T Qc) (O : Nat → Prop) : Ha w O Qc x [.int .i64 x.1, hd x.2.1] :=
 ⟨[.int .i64 x.1], [hd x.2.1], rfl, rfl, [hd x.2.1], [], by simp, rfl, rfl⟩
theorem BD {x : T Qc} {O : Nat → Prop} {cs : List Value} (h : Ha w O Qc x cs) : cs = [.int .i64 x.1, hd x.2.1] := by
 obtain ⟨c1, c2, rfl, rfl, c3, c4, rfl, rfl, rfl⟩ := h
 rfl
abbrev ZA := T Ud × T Qc × List Nat
def JK (w : World) (p : ZA) : Prop := p.2.1.1 = p.1.1 ∧ Cb w (.sl (.i .i64)) p.1.2.1 [hd p.2.1.2.1] p.2.2
theorem HR {l : List (T Ud)} {cs : List Value} {F : List Nat} (h : Cb w (.sl Ud) l cs F) :
 ∃ Q : List ZA, Q.map (·.1) = l ∧ Ha w (fun _ => False) (.sl Qc) (Q.map (·.2.1)) cs ∧ (∀ p ∈ Q, JK w p) ∧ (Q.map (·.2.2)).flatten.Sublist F := by
 obtain ⟨hm, ⟨rfl, rfl, rfl⟩ | ⟨bl, off, cap, cur, et, Fs, rfl, hh, h1, h2, h3, rfl, hl, hv⟩⟩ := h
 ·exact ⟨[], rfl, ⟨none, 0, rfl, jo _, hm, .inl rfl⟩, by simp, by simp⟩
 ·have key : ∀ i : Fin (ja l), ∃ h : T .o, Dc cur (off + i.val * Ud.size) Ud.size = [.int .i64 (List.get l i).1, hd h] ∧ Cb w (.sl (.i .i64)) (List.get l i).2.1 [hd h] (Fs.getD i.val []) :=
   fun i => NO (hv i.val i.isLt)
  have ⟨g, hg⟩ := Classical.axiomOfChoice key
  let Q : List ZA := List.ofFn fun i : Fin (ja l) => (List.get l i, ((List.get l i).1, g i, ()), Fs.getD i.val [])
  have hQ : ∀ i (hi : i < ja l), Q[i]'(by simp [Q]; exact hi) = (List.get l ⟨i, hi⟩, ((List.get l ⟨i, hi⟩).1, g ⟨i, hi⟩, ()), Fs.getD i []) := fun i hi => by simp [Q]
  have hQl : Q.length = ja l := by simp [Q]
  refine ⟨Q, ?_, ?_, ?_, ?_⟩
  ·apply List.ext_getElem
   ·simp [hQl]
   ·intro i h1 h2
    rw [List.getElem_map, hQ i h2]; rfl
  ·have hlen : ja (Q.map (·.2.1)) = ja l := by simp [hQl]
   refine ⟨_, cap, by rw [hlen], by rw [hlen]; exact h1, by rw [hlen]; exact hm, .inr ⟨bl, off, cur, et, _, rfl, fun h => h, hh, ?_, fun i hi => ?_⟩⟩
   ·rw [hlen]
    have := jm Ud.size h1
    exact qa (Nat.add_le_add_left this _) h3
   ·have hi' : i < ja l := by rw [← hlen]; exact hi
    have e : List.get (Q.map (·.2.1)) ⟨i, hi⟩ = ((List.get l ⟨i, hi'⟩).1, g ⟨i, hi'⟩, ()) := by
     show (Q.map (·.2.1))[i] = _
     rw [List.getElem_map, hQ i hi']
    rw [e]
    have := (hg ⟨i, hi'⟩).1
    show Ha w _ Qc _ (Dc cur (off + i * Ud.size) Ud.size)
    rw [this]
    exact YJ (((List.get l ⟨i, hi'⟩).1, g ⟨i, hi'⟩, ()) : T Qc) _
  ·intro p hp
   obtain ⟨i, hi, rfl⟩ := qm hp
   have hi' : i < ja l := by rw [← hQl]; exact hi
   rw [hQ i hi']
   exact ⟨rfl, (hg ⟨i, hi'⟩).2⟩
  ·have e : Q.map (·.2.2) = Fs := by
    apply List.ext_getElem
    ·simp [hQl, hl]
    ·intro i h1 h2
     have hi' : i < ja l := by rw [← hl]; exact h2
     rw [List.getElem_map, hQ i hi']
     simp [List.getD, je h2]
   rw [e]
   exact List.sublist_cons_self _ _
theorem RR {Q : List ZA} {cs : List Value} {F : List Nat} (h : Cb w (.sl Qc) (Q.map (·.2.1)) cs F) (hQ : ∀ p ∈ Q, JK w p) :
 ∃ F', Cb w (.sl Ud) (Q.map (·.1)) cs F' ∧ (∀ b, b ∈ F' → b ∈ F ∨ b ∈ (Q.map (·.2.2)).flatten) ∧ ((∀ b, b ∈ F → b ∉ (Q.map (·.2.2)).flatten) → F.Nodup → (Q.map (·.2.2)).flatten.Nodup → F'.Nodup) := by
 obtain ⟨hm, ⟨rfl, hn, rfl⟩ | ⟨bl, off, cap, cur, et, Fs, rfl, hh, h1, h2, h3, rfl, hl, hv⟩⟩ := h
 ·have : Q = [] := List.map_eq_nil_iff.1 hn
  subst this
  exact ⟨[], ⟨hm, .inl ⟨rfl, rfl, rfl⟩⟩, by simp, by simp⟩
 ·have hlen : ja (Q.map (·.2.1)) = Q.length := by simp
  have hlen1 : ja (Q.map (·.1)) = Q.length := by simp
  rw [hlen] at hm h1 hl
  refine ⟨bl :: (Q.map (·.2.2)).flatten, ⟨by rw [hlen1]; exact hm, .inr ⟨bl, off, cap, cur, et, Q.map (·.2.2), by rw [hlen1]; simp, hh, by rw [hlen1]; exact h1, h2, h3, rfl, by simp, fun i hi => ?_⟩⟩, ?_, ?_⟩
  ·have hi' : i < Q.length := by rw [← hlen1]; exact hi
   have hv' := hv i (by rw [hlen]; exact hi')
   have e0 : List.get (Q.map (·.2.1)) ⟨i, by rw [hlen]; exact hi'⟩ = Q[i].2.1 := by
    show (Q.map (·.2.1))[i]'_ = _
    rw [List.getElem_map]
   have e1 : List.get (Q.map (·.1)) ⟨i, hi⟩ = Q[i].1 := by
    show (Q.map (·.1))[i]'_ = _
    rw [List.getElem_map]
   rw [e0] at hv'
   rw [e1]
   have hF0 : ∀ b, b ∈ Fs.getD i [] → False := by
    intro b hb
    obtain ⟨c1, c2, F1, F2, _, hF, ⟨_, rfl⟩, c3, c4, F3, F4, _, rfl, ⟨_, rfl⟩, _, rfl⟩ := hv'
    rw [hF] at hb; simp at hb
   have hcs := BD (Cb.view (O := fun _ => False) hv' (fun b hb h => h))
   have hok := hQ Q[i] (ql hi')
   have e2 : (Q.map (·.2.2)).getD i [] = Q[i].2.2 := by
    simp [List.getD, je hi']
   rw [e2]
   show Cb w Ud _ (Dc cur (off + i * Qc.size) Qc.size) _
   rw [hcs, hok.1]
   exact JW hok.2
  ·intro b hb
   rcases jp.1 hb with rfl | hb
   ·exact .inl (by simp)
   ·exact .inr hb
  ·intro hdj _ hnd
   exact List.nodup_cons.2 ⟨hdj bl (by simp), hnd⟩
end
def Ro (same : T Ud → T Ud → Bool) : T Ud → List (T Ud) → List (T Ud)
 | _, [] => []
 | a, x :: r => cond (same a x) (Ro same x r) (x :: Ro same x r)
def Zr (same : T Ud → T Ud → Bool) : T Ud → List ZA → List ZA
 | _, [] => []
 | a, x :: r => cond (same a x.1) (Zr same x.1 r) (x :: Zr same x.1 r)
def Jv (c : T Qc → T Qc → Option Bool) : T Qc → List (T Qc) → Option (List (T Qc))
 | _, [] => some []
 | a, x :: r => jz (c a x) fun b => jz (Jv c x r) fun q => some (cond b q (x :: q))
theorem Nz (same : T Ud → T Ud → Bool) : ∀ (Q : List ZA) (a : T Ud), (Zr same a Q).map (·.1) = Ro same a (Q.map (·.1))
 | [], _ => rfl
 | x :: r, a => by
  simp only [Zr, Ro, List.map_cons]
  cases same a x.1 with
  | true => simp only [cond_true]; exact Nz same r x.1
  | false => simp only [cond_false, List.map_cons]; rw [Nz same r x.1]
theorem Oz (same : T Ud → T Ud → Bool) : ∀ (Q : List ZA) (a : T Ud), (Zr same a Q).Sublist Q
 | [], _ => .slnil
 | x :: r, a => by
  simp only [Zr]
  cases same a x.1 with
  | true => exact (Oz same r x.1).cons x
  | false => exact (Oz same r x.1).cons_cons x
theorem VI {same : T Ud → T Ud → Bool} {c : T Qc → T Qc → Option Bool} {R : T Ud → T Qc → Prop} (hc : ∀ a ao b bo, R a ao → R b bo → c ao bo = some (same a b)) :
 ∀ (Q : List ZA) (a : T Ud) (ao : T Qc), R a ao → (∀ p ∈ Q, R p.1 p.2.1) → Jv c ao (Q.map (·.2.1)) = some ((Zr same a Q).map (·.2.1))
 | [], _, _, _, _ => rfl
 | x :: r, a, ao, h, hq => by
  have hx := hq x (by simp)
  simp only [List.map_cons, Jv, Zr, hc _ _ _ _ h hx, jb]
  rw [VI hc r x.1 x.2.1 hx (fun p hp => hq p (by simp [hp]))]
  simp only [jb]
  cases same a x.1 <;> rfl
theorem OI {α : Type} {a b : List (List α)} (h : a.Sublist b) : a.flatten.Sublist b.flatten := by
 induction h with
 | slnil => simp
 | cons x _ ih => rw [List.flatten_cons]; exact ih.trans (List.sublist_append_right _ _)
 | cons_cons x _ ih => rw [List.flatten_cons, List.flatten_cons]; exact (List.Sublist.refl x).append ih
def Ss (x : T Ud) : Bool := jx (ja x.2.1) Sb
noncomputable def VK (same : T Ud → T Ud → Bool) (a : T Ud) (l : List (T Ud)) : Option (List (T Ud) × Unit) :=
 bif jx (ja l) Sb && (Ss a && l.all Ss) then some (Ro same a l, ()) else none
theorem IT {w : World} {O O' : Nat → Prop} {xs ys : List Int} {v : Value} (h1 : Ha w O (.sl (.i .i64)) xs [v]) (h2 : Ha w O' (.sl (.i .i64)) ys [v]) : xs = ys := by
 obtain ⟨a, cap, e1, _, _, h1⟩ := h1
 obtain ⟨a', cap', e2, _, _, h2⟩ := h2
 rw [e1] at e2
 simp only [List.cons.injEq, Value.slice.injEq, and_true] at e2
 obtain ⟨rfl, hlen, rfl⟩ := e2
 have hlen' : xs.length = ys.length := hlen
 rcases h1 with h1 | ⟨bl, off, cur, et, fr, ha, _, hh, hs, hv⟩
 ·have h1' : xs = [] := h1
  subst h1'
  exact (List.eq_nil_of_length_eq_zero (by simpa using hlen'.symm)).symm
 ·rcases h2 with h2 | ⟨bl', off', cur', et', fr', ha', _, hh', hs', hv'⟩
  ·have h2' : ys = [] := h2
   subst h2'
   exact List.eq_nil_of_length_eq_zero (by simpa using hlen')
  ·rw [ha] at ha'
   simp only [jc, Addr.mk.injEq, and_true] at ha'
   obtain ⟨rfl, rfl⟩ := ha'
   rw [hh] at hh'
   simp only [jc] at hh'
   injection hh' with e3 _ _
   subst e3
   apply List.ext_getElem hlen'
   intro i h1 h2
   have p1 := hv i h1
   have p2 := hv' i h2
   have p1' : Dc cur (off + i * 1) 1 = [Value.int .i64 xs[i]] := p1
   have p2' : Dc cur (off + i * 1) 1 = [Value.int .i64 ys[i]] := p2
   rw [p1'] at p2'
   simpa using p2'
open Classical in
noncomputable def Ww (w : World) (h : T .o) : Option (List Int) :=
 if hx : ∃ xs : List Int, Ha w (fun _ => False) (.sl (.i .i64)) xs [hd h] ∧ ja xs ≤ Sb then some hx.choose else none
theorem YD {w : World} {h : T .o} {xs : List Int} (hc : Ww w h = some xs) : Ha w (fun _ => False) (.sl (.i .i64)) xs [hd h] ∧ ja xs ≤ Sb := by
 unfold Ww at hc
 split at hc
 ·rename_i hx
  simp only [jc] at hc
  rw [← hc]; exact hx.choose_spec
 ·simp at hc
theorem WI {w : World} {h : T .o} {xs : List Int} (hv : Ha w (fun _ => False) (.sl (.i .i64)) xs [hd h]) (hl : ja xs ≤ Sb) : Ww w h = some xs := by
 unfold Ww
 have hx : ∃ xs : List Int, Ha w (fun _ => False) (.sl (.i .i64)) xs [hd h] ∧ ja xs ≤ Sb := ⟨xs, hv, hl⟩
 rw [dif_pos hx]
 rw [IT hx.choose_spec.1 hv]
noncomputable def NG (w : World) (same : T Ud → T Ud → Bool) (a b : T Qc) : Option Bool :=
 jz (Ww w a.2.1) fun u => jz (Ww w b.2.1) fun v => some (same (a.1, u, ()) (b.1, v, ()))
@[reducible] noncomputable def ND (c : T Qc → T Qc → Option Bool) : Kb := .pu (.p Qc (.p Qc .u)) (.p .b .u) [true] (fun x => jz (c x.1 x.2.1) fun b => some (b, ()))
theorem DM {w w2 : World} (h : ∀ b, b < w.heap.size → w2.heap[b]? = w.heap[b]?) {τ : Ty} {x : T τ} {cs : List Value} {O : Nat → Prop} (hv : Ha w O τ x cs) : Ha w2 O τ x cs :=
 Ha.stable (fun b _ hb => h b hb) (fun _ _ h => h) hv
theorem TO {P : Program} {I0 : Sf} {f f2 : FuncId} {SR : T (.p Ud (.p Ud .u)) → Option (T (.p .b .u))} {same : T Ud → T Ud → Bool}
 (hSR : ∀ a b : T Ud, ja a.2.1 ≤ Sb → ja b.2.1 ≤ Sb → SR (a, b, ()) = some (same a b, ()))
 (h2 : Zf P I0 f2 (.pu (.p Ud (.p Ud .u)) (.p .b .u) [true] SR))
 (h : ∀ (I : Sf) (c : T Qc → T Qc → Option Bool), Zf P I f2 (ND c) → ∃ FO, Zf P I f (.pu (.p Qc (.p (.sl Qc) .u)) (.p (.sl Qc) .u) [true] FO) ∧
  ∀ (a : T Qc) (l r : List (T Qc)), ja l ≤ Sb → Jv c a l = some r → FO (a, l, ()) = some (r, ())) :
 Zf P I0 f (.co (.p Ud (.p (.sl Ud) .u)) (.p (.sl Ud) .u) [true] (fun x => VK same x.1 x.2.1)) := by
 have hE : Lp P f := by
  have hS0 : Zf P I0 f2 (ND fun _ _ => none) := ⟨h2.1, fun O w x r args hF => by simp at hF⟩
  obtain ⟨FO, hs, _⟩ := h I0 _ hS0
  exact hs.1
 refine ⟨hE, ?_⟩
 intro O w x r F0 args hF hA hnd hO hI hbase hF0
 obtain ⟨a, l, u⟩ := x
 match args, hA with
 | [a1, a2], hA =>
 obtain ⟨cs1, F1, F2', rfl, rfl, ho1, cs2, F2, F3, rfl, rfl, ho2, hF3⟩ := hA
 have hF3' : F3 = [] := hF3
 subst hF3'
 rw [List.append_nil] at *
 simp only [VK] at hF
 cases hsm : (jx (ja l) Sb && (Ss a && l.all Ss)) with
 | false => rw [hsm] at hF; simp at hF
 | true =>
 rw [hsm] at hF
 simp only [cond_true, jc] at hF
 subst hF
 simp only [jd, List.all_eq_true, Ss] at hsm
 have hl1 : ja l ≤ Sb := Nat.le_of_ble_eq_true hsm.1
 have hl2 : ja a.2.1 ≤ Sb := Nat.le_of_ble_eq_true hsm.2.1
 have hl3 : ∀ x ∈ l, ja x.2.1 ≤ Sb := fun x hx => Nat.le_of_ble_eq_true (hsm.2.2 x hx)
 obtain ⟨ah, rfl, hoa⟩ := NO ho1
 obtain ⟨Q, rfl, hvQ, hokQ, hsub⟩ := HR ho2
 let I : Sf := ⟨w.heap.size, fun w2 => w.heap.size ≤ w2.heap.size ∧ ∀ b, b < w.heap.size → w2.heap[b]? = w.heap[b]?, fun w1 w2 hb h1 => by
  refine ⟨?_, fun b hlt => (hb b hlt).trans (h1.2 b hlt)⟩
  rcases Nat.eq_zero_or_pos w.heap.size with h0 | h0
  ·omega
  ·have e := (hb (w.heap.size - 1) (by omega)).trans (h1.2 (w.heap.size - 1) (by omega))
   rw [Array.getElem?_eq_getElem (show w.heap.size - 1 < w.heap.size by omega)] at e
   have := (Array.getElem?_eq_some_iff.1 e).1
   omega⟩
 have hS : Zf P I f2 (ND (NG w same)) := by
  refine ⟨h2.1, ?_⟩
  intro O2 w2 x2 r2 args2 hF2 hA2 hO2 hI2 hb2
  obtain ⟨p, q, u2⟩ := x2
  match args2, hA2 with
  | [b1, b2], hA2 =>
  obtain ⟨⟨c1, rfl, hv1⟩, ⟨c2, rfl, hv2⟩, _⟩ := hA2
  simp only [NG] at hF2
  cases hu : Ww w p.2.1 with
  | none => rw [hu] at hF2; simp at hF2
  | some xu =>
   cases hv : Ww w q.2.1 with
   | none => rw [hu, hv] at hF2; simp at hF2
   | some xv =>
    rw [hu, hv] at hF2
    simp only [jb, jc] at hF2
    subst hF2
    obtain ⟨hxu, lxu⟩ := YD hu
    obtain ⟨hxv, lxv⟩ := YD hv
    have e1 := BD hv1
    have e2 := BD hv2
    subst e1; subst e2
    have mk : ∀ (p : T Qc) (xs : List Int), Ha w (fun _ => False) (.sl (.i .i64)) xs [hd p.2.1] → Ha w2 (fun _ => False) Ud (p.1, xs, ()) [.int .i64 p.1, hd p.2.1] := fun p xs hx =>
     ⟨[.int .i64 p.1], [hd p.2.1], rfl, rfl, [hd p.2.1], [], by simp, DM hI2.2 hx, rfl⟩
    have hc := h2.2 (fun _ => False) w2 ((p.1, xu, ()), (q.1, xv, ()), ()) (same (p.1, xu, ()) (q.1, xv, ()), ()) [Ic Qc [.int .i64 p.1, hd p.2.1], Ic Qc [.int .i64 q.1, hd q.2.1]]
     (hSR _ _ lxu lxv) ⟨⟨_, rfl, mk p xu hxu⟩, ⟨_, rfl, mk q xv hxv⟩, trivial⟩ (fun b h => h.elim) (I0.st _ _ (fun b hb => hI2.2 b (qj hb hbase)) hI) (qa hbase hI2.1)
    refine hc.mono ?_
    intro e w3 hR
    cases e with
    | returned v =>
     obtain ⟨vs, Fr, hvs, hK, hR, hn, hfr⟩ := hR
     exact ⟨vs, Fr, hvs, hK, hR.all rfl, hn, hfr⟩
    | panicked _ => exact hR
    | outgrown => exact hR
 obtain ⟨FO, hs, hFO⟩ := h I (NG w same) hS
 have hrel : ∀ a ao b bo, (fun (x : T Ud) (y : T Qc) => y.1 = x.1 ∧ Ha w (fun _ => False) (.sl (.i .i64)) x.2.1 [hd y.2.1] ∧ ja x.2.1 ≤ Sb) a ao →
  (fun (x : T Ud) (y : T Qc) => y.1 = x.1 ∧ Ha w (fun _ => False) (.sl (.i .i64)) x.2.1 [hd y.2.1] ∧ ja x.2.1 ≤ Sb) b bo → NG w same ao bo = some (same a b) := by
  rintro a ao b bo ⟨e1, v1, l1⟩ ⟨e2, v2, l2⟩
  simp only [NG, WI v1 l1, WI v2 l2, jb, e1, e2]
 have hch := VI (R := fun (x : T Ud) (y : T Qc) => y.1 = x.1 ∧ Ha w (fun _ => False) (.sl (.i .i64)) x.2.1 [hd y.2.1] ∧ ja x.2.1 ≤ Sb) hrel Q a (a.1, ah, ())
  ⟨rfl, Cb.view hoa fun b _ h => h, hl2⟩ (fun p hp => ⟨(hokQ p hp).1, Cb.view (hokQ p hp).2 fun b _ h => h, hl3 p.1 (List.mem_map_of_mem hp)⟩)
 have hFO' := hFO (a.1, ah, ()) (Q.map (·.2.1)) _ (by simpa using hl1) hch
 have hc := hs.2 (fun _ => False) w ((a.1, ah, ()), Q.map (·.2.1), ()) ((Zr same a Q).map (·.2.1), ()) [Ic Qc [.int .i64 a.1, hd ah], Ic (.sl Qc) cs2] hFO'
  ⟨⟨_, rfl, YJ ((a.1, ah, ()) : T Qc) _⟩, ⟨_, rfl, hvQ⟩, trivial⟩ (fun b h => h.elim) ⟨jo _, fun _ _ => rfl⟩ (jo _)
 refine hc.mono ?_
 intro e w3 hR
 cases e with
 | panicked _ => exact hR
 | outgrown => exact hR
 | returned v =>
  obtain ⟨vs, Fr, hvs, hK, hR, hn, hfr⟩ := hR
  match vs, hR with
  | [v1], hR =>
  obtain ⟨cs, G1, G2, rfl, rfl, hown, hG2⟩ := hR
  have hG2' : G2 = [] := hG2
  subst hG2'
  rw [List.append_nil] at *
  simp only [if_true] at hown
  have hlt : ∀ b, b ∈ F2 → b < w.heap.size := fun b hb => ho2.lt b hb
  have hsubQ := Oz same Q a
  have hok3 : ∀ p ∈ Zr same a Q, JK w3 p := fun p hp => by
   have h0 := hokQ p (hsubQ.mem hp)
   exact ⟨h0.1, Cb.stable h0.2 fun b hb => hK.block b (h0.2.lt b hb) (fun h => h)⟩
  obtain ⟨F', ho', hm', hnd'⟩ := RR hown hok3
  have hsub2 : ((Zr same a Q).map (·.2.2)).flatten.Sublist F2 := by
   refine List.Sublist.trans ?_ hsub
   exact OI (hsubQ.map _)
  have hndF2 : F2.Nodup := (List.nodup_append.1 hnd).2.1
  have hnF' : F'.Nodup := hnd' (fun b hb hb2 => by
   have h3 := hfr b hb
   have h4 := hlt b (hsub2.mem hb2)
   omega) hn (hsub2.nodup hndF2)
  refine ⟨[Ic (.sl Qc) cs], F', hvs, ⟨hK.size, fun b hb _ => hK.block b hb (fun h => h), hK.os, hK.tape, hK.output⟩, ⟨cs, F', [], rfl, by simp, ?_, rfl⟩, hnF', ?_⟩
  ·simp only [if_true]
   rw [← Nz]
   exact ho'
  ·intro b hb
   rcases hm' b hb with hb | hb
   ·exact .inl (hfr b hb)
   ·exact .inr (List.mem_append_right _ (hsub2.mem hb))
noncomputable def srt (xs : List Int) : Option (List Int × Unit) := bif jx (ja xs) Sb then some (List.mergeSort xs (fun x y => decide (x ≤ y)), ()) else none
theorem CU {cur : Array Value} {k : Nat} {v : Value} (h : Dc cur k 1 = [v]) : cur[k]? = some v := by
 have := congrArg (·[0]?) h
 simp only [Ed cur k 1 0 (by omega)] at this
 simpa using this
theorem ST {cur : Array Value} {k : Nat} {v : Value} (h : cur[k]? = some v) : Dc cur k 1 = [v] := by
 apply List.ext_getElem?
 intro j
 by_cases hj : j = 0
 ·subst hj; rw [Ed cur k 1 0 (by omega)]; simpa using h
 ·have hk : k < cur.size := (Array.getElem?_eq_some_iff.1 h).1
  have hl : (Dc cur k 1).length = 1 := Gc (by omega)
  rw [List.getElem?_eq_none (by omega), List.getElem?_eq_none (by simp; omega)]
theorem AM {P : Program} {ρ : Go.Shelf.Ren} {f : FuncId} {I : Sf} (L : Go.Proofs.Lays.n191 P ρ) (hf : ρ.f 191 = f) : Zf P I f (.io (.sl (.i .i64)) .u .u [] (fun x0 _ => srt x0)) := by
 subst hf
 refine ⟨⟨_, L.f191, rfl, rfl⟩, ?_⟩
 intro O w x0 x r cs0 F0 args hF ho hnd hA hO _ _ _
 match args, hA with
 | [], _ =>
 simp only [srt] at hF
 cases hl : jx (ja x0) Sb with
 | false => rw [hl] at hF; simp at hF
 | true =>
 rw [hl] at hF
 simp only [cond_true, jc] at hF
 subst hF
 have hlim : Sb = 1073741824 := rfl
 have hx : ja x0 ≤ Sb := Nat.le_of_ble_eq_true hl
 have ho0 := ho
 obtain ⟨hm, ⟨rfl, hn, rfl⟩ | ⟨bl, off, cap, cur, et, Fs, rfl, hh, h1, h2, h3, rfl, hlen, hv⟩⟩ := ho
 ·have hn' : x0 = [] := hn
  subst hn'
  refine (Go.Proofs.Any.sort_Ints_none L none 0 w).mono ?_
  rintro e w' ⟨rfl, rfl⟩
  refine ⟨[], [], [], rfl, ⟨jo _, fun _ _ _ => rfl, rfl, rfl, rfl⟩, ?_, by simp, rfl, List.nodup_nil, by simp⟩
  show Cb w' (.sl (.i .i64)) (List.mergeSort ([] : List Int) _) _ _
  simpa using ho0
 ·have hcell : ∀ i (hi : i < x0.length), cur[off + i]? = some (.int .i64 x0[i]) := by
   intro i hi
   have := (hv i hi).1
   have e : Dc cur (off + i * 1) 1 = [Value.int .i64 x0[i]] := this
   rw [Nat.mul_one] at e
   exact CU e
  have hFs : ∀ b, b ∈ Fs.flatten → False := by
   intro b hb
   obtain ⟨l, hl, hb⟩ := List.mem_flatten.1 hb
   obtain ⟨i, hi, rfl⟩ := qm hl
   have := (hv i (by rw [← hlen]; exact hi)).2
   rw [qh, je hi] at this
   simp only [Option.getD_some] at this
   rw [this] at hb; simp at hb
  have hH : Go.Sort.Holds (Value.int .i64) w bl off x0.toArray := by
   intro j hj
   have hj' : j < x0.length := by simpa using hj
   refine ⟨?_, ?_⟩
   ·unfold World.cell?
    simp only [hh]
    rw [hcell j hj']
    simp [getElem!_pos, hj']
   ·unfold World.frozen?
    simp [hh]
  have hbl : bl < w.heap.size := (Array.getElem?_eq_some_iff.1 hh).1
  refine (Go.Proofs.Any.sort_Ints L bl off cap x0 w hH hbl (by omega)).mono ?_
  rintro e w' ⟨rfl, n, os, rfl⟩
  generalize hzs : (x0.mergeSort fun x y => decide (x ≤ y)) = zs
  have hzl : zs.length = x0.length := by rw [← hzs]; exact List.length_mergeSort _
  have hheap : ∀ b, b < w.heap.size → (Go.Sort.grow (Go.Sort.putRow (Value.int .i64) (Go.Sort.ahead w n) bl off zs.toArray) os).heap[b]? = if bl = b then (w.heap[b]?).map (Go.Sort.onCells (Go.Sort.putCells (Value.int .i64) off zs.toArray)) else w.heap[b]? := by
   intro b hb
   simp only [Go.Sort.grow, Go.Sort.putRow, Go.Sort.mapBlock, Go.Sort.ahead]
   rw [Array.getElem?_append_left (by simpa using hb), Array.getElem?_modify]
  refine ⟨[], bl :: Fs.flatten, [], rfl, ⟨?_, ?_, rfl, rfl, rfl⟩, ?_, fun b hb => .inr hb, rfl, by simpa using hnd, by simp⟩
  ·simp only [Go.Sort.grow, Array.size_append, Go.Sort.size_putRow, Go.Sort.ahead]
   omega
  ·intro b hb hno
   have hne : bl ≠ b := fun e => hno (by rw [e]; simp)
   rw [hheap b hb, if_neg hne]
  ·have hcs : ([.slice (some ⟨bl, off, none⟩) (ja x0) cap] : List Value) = [.slice (some ⟨bl, off, none⟩) (ja (zs : List Int)) cap] := by rw [hzl]
   show Cb _ (.sl (.i .i64)) (zs : List Int) _ _
   rw [hcs]
   refine ⟨by show zs.length ≤ Mg; rw [hzl]; exact hm, .inr ⟨bl, off, cap, _, et, Fs, rfl, (hheap bl hbl).trans (by rw [if_pos rfl, hh]; rfl), by show zs.length ≤ cap; rw [hzl]; exact h1, h2, by simpa [Go.Sort.putCells] using h3, rfl, by show Fs.length = zs.length; rw [hzl]; exact hlen, fun i hi => ?_⟩⟩
   have hi' : i < zs.length := hi
   have hi2 : i < x0.length := by omega
   refine ⟨?_, ?_⟩
   ·show Dc _ (off + i * 1) 1 = [Value.int .i64 zs[i]]
    rw [Nat.mul_one]
    apply ST
    simp only [Go.Sort.putCells, Array.getElem?_mapIdx, hcell i hi2, qb]
    rw [if_pos ⟨by omega, by simp; omega⟩, show off + i - off = i by omega]
    simp [getElem!_pos, hi']
   ·exact (hv i hi2).2

open Go Go.WideShapes Go.ChangeShapes
section
variable {H : Type} {enc : TypeId × Value → H}
end

def Le {α S R : Type} (g : Nat → S → α → S ⊕ R) : Nat → S → List α → S ⊕ R
 | _, s, [] => .inl s
 | k, s, x :: xs => match g k s x with
  | .inl s' => Le g (k + 1) s' xs
  | .inr r => .inr r
section
variable {X R : Type} {step : X → Option (X ⊕ R)}
theorem Se {x : X} {z : Option (X ⊕ R)} (h : step x = z) : Yb step x = z.bind (Sum.elim (Yb step) some) := by
 rw [Ap, h]
theorem JI {α S R' : Type} (xs : List α) (g : Nat → S → α → S ⊕ R') (I : Nat → S → X) (out : S → R) (ex : R' → R) (Sf : Nat → S → Prop)
 (h : ∀ k (hk : k < xs.length) s, Sf k s → step (I k s) = some (match g k s xs[k] with | .inl s' => .inl (I (k + 1) s') | .inr r => .inr (ex r)) ∧ ∀ s', g k s xs[k] = .inl s' → Sf (k + 1) s')
 (he : ∀ s, Sf xs.length s → step (I xs.length s) = some (.inr (out s))) (s0 : S) (h0 : Sf 0 s0) :
 Yb step (I 0 s0) = some (match Le g 0 s0 xs with | .inl s => out s | .inr r => ex r) := by
 have key : ∀ (ys : List α) (k : Nat) (s : S), xs.drop k = ys → k ≤ xs.length → Sf k s → Yb step (I k s) = some (match Le g k s ys with | .inl s => out s | .inr r => ex r) := by
  intro ys
  induction ys with
  | nil =>
   intro k s hd hle hi
   have : k = xs.length := by
    have := congrArg ja hd
    simp at this
    omega
   subst this
   rw [Se (he s hi)]
   rfl
  | cons y ys ih =>
   intro k s hd hle hi
   have hk : k < xs.length := by
    have := congrArg ja hd
    simp at this
    omega
   have hy : xs[k] = y := by
    have := congrArg (·[0]?) hd
    simp [List.getElem?_drop, je hk] at this
    exact this
   obtain ⟨h1, h2⟩ := h k hk s hi
   rw [Se h1]
   rw [hy] at h2 ⊢
   simp only [Le]
   cases hg : g k s y with
   | inl s' =>
    simp only [jb, qi]
    refine ih (k + 1) s' ?_ hk (h2 s' hg)
    rw [← List.drop_drop, hd]
    rfl
   | inr r => rfl
 exact key xs 0 s0 rfl (Nat.zero_le _) h0
theorem Ix (I : Nat → X) (n : Nat) (out : R) (h : ∀ k, k < n → step (I k) = some (.inl (I (k + 1)))) (he : step (I n) = some (.inr out)) : Yb step (I 0) = some out := by
 have key : ∀ m k, m + k = n → Yb step (I k) = some out := by
  intro m
  induction m with
  | zero =>
   intro k hk
   have : k = n := by omega
   subst this
   rw [Se he]; rfl
  | succ m ih =>
   intro k hk
   rw [Se (h k (by omega))]
   exact ih (k + 1) (by omega)
 exact key n 0 (by omega)
end
theorem Qd {n : Int} (h1 : -9223372036854775808 ≤ n) (h2 : n ≤ 9223372036854775807) : j5 .i64 n = n := IntWalk.i64_in n ⟨h1, h2⟩
theorem Ye {k : Nat} (h : k < 9223372036854775807) : j5 .i64 ((k : Int) + 1) = ((k + 1 : Nat) : Int) := by
 rw [Qd (by omega) (by omega)]; omega
section
variable {α : Type}
theorem HT (xs : List α) (k : Nat) : Zd xs (k : Int) = xs[k]? := by simp [Zd]
theorem Yd {xs : List α} {k : Nat} (h : k < xs.length) : Zd xs (k : Int) = some xs[k] := by rw [HT, je h]
theorem Vp (n k : Nat) : Kh n (k : Int) = decide (k < n) := by
 simp [Kh]
theorem Ja {p : Prop} [Decidable p] (h : p) : decide p = true := decide_eq_true h
theorem Ma {p : Prop} [Decidable p] (h : ¬ p) : decide p = false := decide_eq_false h
end
theorem Cn : Sb = 1073741824 := rfl
def Oc : (τ : Ty) → T τ → Nat
 | .i _, _ => 0
 | .b, _ => 0
 | .o, _ => 0
 | .mp _ _, _ => 0
 | .s, x => ja x
 | .sl e, xs => ja xs + (List.map (Oc e) xs).sum
 | .u, _ => 0
 | .p a c, v => Oc a v.1 + Oc c v.2
def Ty.hasS : Ty → Bool
 | .s => true
 | .sl e => e.hasS
 | .p x y => x.hasS || y.hasS
 | _ => false
def Bb : Nat := 1048576
theorem Kp {α : Type} {f : α → Nat} {xs : List α} {k : Nat} (hk : k < xs.length) : f xs[k] ≤ (xs.map f).sum := by
 induction xs generalizing k with
 | nil => simp at hk
 | cons x xs ih =>
  cases k with
  | zero => simp
  | succ k =>
   have := ih (k := k) (by simpa using hk)
   simp only [List.getElem_cons_succ, List.map_cons, List.sum_cons]
   omega
theorem SA : ∀ {τ : Ty} (_ : (τ.flat && !τ.hasS) = true) {x : T τ}, Oc τ x = 0
 | .i _, _, _ => rfl
 | .b, _, _ => rfl
 | .o, _, _ => rfl
 | .mp _ _, _, _ => rfl
 | .s, h, _ => by simp [Ty.hasS] at h
 | .sl _, h, _ => by simp [Ty.flat] at h
 | .u, _, _ => rfl
 | .p a c, h, x => by
  simp only [Ty.flat, Ty.hasS, jd, Bool.not_eq_true', Bool.or_eq_false_iff] at h
  simp only [Oc]
  rw [SA (τ := a) (by simp [h.1.1, h.2.1]), SA (τ := c) (by simp [h.1.2, h.2.2])]
theorem Cw {e : Ty} (h : (e.flat && !e.hasS) = true) (xs : List (T e)) : Oc (.sl e) xs = ja xs := by
 simp only [Oc]
 have : List.map (Oc e) xs = List.replicate xs.length 0 := by
  apply List.ext_getElem
  ·simp
  ·intro i h1 h2
   simp [SA h]
 rw [this]
 simp
theorem Qj {α : Type} (b : Bool) (x y : α) : cond b (some x) (some y) = some (cond b x y) := by cases b <;> rfl
theorem Rj {α : Type} (b : Bool) (x y : α) : cond b (x, ()) (y, ()) = (cond b x y, ()) := by cases b <;> rfl
theorem Lc (b x y : Bool) : (cond b x y = true) ↔ ((b = true ∧ x = true) ∨ (¬ b = true ∧ y = true)) := by cases b <;> simp
theorem TI {a b : Bool} (h : a = true ↔ b = true) : a = b := qp.2 h
theorem Ac {a b : Bool} (h : a = true ↔ b = true) : some (a, ()) = some (b, ()) := by rw [TI h]
theorem Ev (a b : Int) : ((a == b) = true) ↔ a = b := by simp
theorem Fv (a b : Int) : ((a != b) = true) ↔ ¬ a = b := by simp
def Ld {α : Type} (p : Nat → α → Bool) : Nat → List α → Bool
 | _, [] => true
 | k, x :: xs => p k x && Ld p (k + 1) xs
theorem Ei {X R : Type} {step : X → Option (X ⊕ R)} {α : Type} (xs : List α) (p : Nat → α → Bool) (I : Int → X) (yes no : R)
 (h : ∀ k (hk : k < xs.length), step (I (k : Int)) = some (cond (p k xs[k]) (.inl (I (j5 .i64 ((k : Int) + 1)))) (.inr no)))
 (he : step (I (xs.length : Int)) = some (.inr yes)) (hn : xs.length < 9223372036854775807) :
 Yb step (I 0) = some (cond (Ld p 0 xs) yes no) := by
 have key : ∀ (ys : List α) (k : Nat), xs.drop k = ys → k ≤ xs.length → Yb step (I (k : Int)) = some (cond (Ld p k ys) yes no) := by
  intro ys
  induction ys with
  | nil =>
   intro k hd hle
   have : k = xs.length := by
    have := congrArg ja hd
    simp at this
    omega
   subst this
   rw [Se he]
   rfl
  | cons y ys ih =>
   intro k hd hle
   have hk : k < xs.length := by
    have := congrArg ja hd
    simp at this
    omega
   have hy : xs[k] = y := by
    have := congrArg (·[0]?) hd
    simp [List.getElem?_drop, je hk] at this
    exact this
   have hd' : xs.drop (k + 1) = ys := by rw [← List.drop_drop, hd]; rfl
   rw [Se (h k hk), hy]
   simp only [Ld]
   cases hc : p k y with
   | true =>
    simp only [cond_true, jk, jb, qi]
    rw [← ih (k + 1) hd' hk, Ye (by omega)]
   | false => rfl
 have := key xs 0 rfl (Nat.zero_le _)
 simpa using this
theorem Wh {α : Type} {p : Nat → α → Bool} : ∀ {xs : List α} {k : Nat}, Ld p k xs = true ↔ ∀ j (hj : j < xs.length), p (k + j) xs[j] = true
 | [], _ => by simp [Ld]
 | x :: xs, k => by
  simp only [Ld, jd, Wh (xs := xs)]
  constructor
  ·rintro ⟨h1, h2⟩ j hj
   cases j with
   | zero => exact h1
   | succ j => simpa [jt, Nat.add_comm 1 j] using h2 j (by simpa using hj)
  ·intro h
   refine ⟨h 0 (by simp), fun j hj => ?_⟩
   have := h (j + 1) (by simpa using hj)
   rw [jt, Nat.add_comm 1 j]
   exact this
theorem AE {α β γ : Type} (b : Bool) (x : α) (y : β) (f : α → γ) (g : β → γ) : Sum.elim f g (cond b (.inl x) (.inr y)) = cond b (f x) (g y) := by cases b <;> rfl
def Ag {α S : Type} (g : Nat → S → α → S) : Nat → S → List α → S
 | _, s, [] => s
 | k, s, x :: xs => Ag g (k + 1) (g k s x) xs
theorem Xw {α : Type} {xs ys : List α} {y : α} {k : Nat} (hd : xs.drop k = y :: ys) : ∃ hk : k < xs.length, xs[k] = y ∧ xs.drop (k + 1) = ys := by
 have hk : k < xs.length := by
  have := congrArg ja hd
  simp at this
  omega
 refine ⟨hk, ?_, by rw [← List.drop_drop, hd]; rfl⟩
 have := congrArg (·[0]?) hd
 simp [List.getElem?_drop, je hk] at this
 exact this
theorem Qz {α : Type} {xs : List α} {k : Nat} (hd : xs.drop k = []) (hk : k ≤ xs.length) : k = xs.length := by
 have := congrArg ja hd
 simp at this
 omega
theorem Ov {X R : Type} {step : X → Option (X ⊕ R)} {α S : Type} (xs : List α) (g : Nat → S → α → S) (I : S → Int → X) (out : S → R) (Sf : Nat → S → Prop)
 (h : ∀ k (hk : k < xs.length) s, Sf k s → step (I s (k : Int)) = some (.inl (I (g k s xs[k]) (j5 .i64 ((k : Int) + 1)))) ∧ Sf (k + 1) (g k s xs[k]))
 (he : ∀ s, Sf xs.length s → step (I s (xs.length : Int)) = some (.inr (out s))) (hn : xs.length < 9223372036854775807) (s0 : S) (h0 : Sf 0 s0) :
 Yb step (I s0 0) = some (out (Ag g 0 s0 xs)) ∧ Sf xs.length (Ag g 0 s0 xs) := by
 have key : ∀ (ys : List α) (k : Nat) (s : S), xs.drop k = ys → k ≤ xs.length → Sf k s → Yb step (I s (k : Int)) = some (out (Ag g k s ys)) ∧ Sf xs.length (Ag g k s ys) := by
  intro ys
  induction ys with
  | nil =>
   intro k s hd hle hi
   have := Qz hd hle
   subst this
   rw [Se (he s hi)]
   exact ⟨rfl, hi⟩
  | cons y ys ih =>
   intro k s hd hle hi
   obtain ⟨hk, hy, hd'⟩ := Xw hd
   obtain ⟨h1, h2⟩ := h k hk s hi
   rw [Se h1, hy, Ye (by omega)]
   rw [hy] at h2
   exact ih (k + 1) _ hd' hk h2
 have := key xs 0 s0 rfl (Nat.zero_le _) h0
 simpa using this
theorem Kq {X R : Type} {step : X → Option (X ⊕ R)} {α S R' : Type} (xs : List α) (g : Nat → S → α → S ⊕ R') (I : S → Int → X) (out : S → R) (ex : R' → R) (Sf : Nat → S → Prop)
 (h : ∀ k (hk : k < xs.length) s, Sf k s → step (I s (k : Int)) = some (match g k s xs[k] with | .inl s' => .inl (I s' (j5 .i64 ((k : Int) + 1))) | .inr r => .inr (ex r)) ∧ ∀ s', g k s xs[k] = .inl s' → Sf (k + 1) s')
 (he : ∀ s, Sf xs.length s → step (I s (xs.length : Int)) = some (.inr (out s))) (hn : xs.length < 9223372036854775807) (s0 : S) (h0 : Sf 0 s0) :
 Yb step (I s0 0) = some (match Le g 0 s0 xs with | .inl s => out s | .inr r => ex r) := by
 have := JI (step := step) xs g (fun k s => I s (k : Int)) out ex Sf (fun k hk s hi => by
  obtain ⟨h1, h2⟩ := h k hk s hi
  refine ⟨?_, h2⟩
  rw [h1, Ye (by omega)]) he s0 h0
 simpa using this
theorem z3 : ((3 : Int) == 0) = false := rfl
theorem SM {n lo hi : Nat} (h1 : lo ≤ hi) (h2 : hi ≤ n) : He n (lo : Int) (hi : Int) = true := by
 simp [He]; omega
section
variable {α β : Type}
end
abbrev int : Ty := .i .i64
abbrev Wt : Ty := .i .u8
abbrev De : Ty := (.p int (.p int .u))
abbrev Jc : Type := (Int × (Int × Unit))
abbrev Md : Ty := (.p int (.p (.sl int) .u))
abbrev Qa : Type := (Int × ((List Int) × Unit))
abbrev DY : Ty := (.p int (.p int (.p .b .u)))
abbrev Um : Type := (Int × (Int × (Bool × Unit)))
abbrev Od : Ty := (.p int De)
abbrev Id : Type := (Int × Jc)
abbrev Gd : Type := ((List (List Int)) × ((List Int) × Unit))
abbrev Ke : Ty := (.p (.sl Wt) De)
abbrev Db : Type := ((List Int) × Jc)
abbrev Vc : Ty := (.p int Od)
abbrev Ga : Type := (Int × Id)
abbrev Cg : Type := (Bool × Id)
abbrev Rh : Ty := (.p int (.p Vc .u))
abbrev Wa : Type := (Int × (Ga × Unit))
abbrev IK : Type := (Int × (Int × (Int × (Int × Qa))))
abbrev Sa : Ty := (.p int (.p (.sl (.sl Vc)) .u))
abbrev Ea : Type := (Int × ((List (List Ga)) × Unit))
abbrev SD : Type := ((List Jc) × (Int × ((List Um) × (Int × (Int × (Int × ((List Um) × Unit)))))))
abbrev Zb : Ty := (.p Sa (.p (.sl (.sl Od)) (.p int (.p (.sl Rh) (.p int (.p .b .u))))))
abbrev Mb : Type := (Ea × ((List (List Id)) × (Int × ((List Wa) × (Int × (Bool × Unit))))))
abbrev PR : Ty := (.p Zb (.p Od (.p (.sl DY) Vc)))
abbrev Iz : Type := (Mb × (Id × ((List Um) × Ga)))
abbrev VV : Type := (Um × (IK × (SD × (Iz × Jc))))
noncomputable section
open Option renaming bind → ob
open Go.IntKind renaming wrap → wr
open Int renaming toNat → tn
open List renaming length → ln, append → ap, set → ls
open Sum renaming elim → se
open Nat renaming ble → bl
abbrev Zi : Type := Int × Unit
abbrev Mf : Type := Bool × Unit
abbrev Yc : Type := List Int
abbrev Ki : Type := Unit × Unit
abbrev Fh : Type := Ea × Unit
abbrev Ut : Type := List Wa
abbrev Zu : Type := List Qa
abbrev Av : Type := List Jc
abbrev No : Type := Mb × Unit
abbrev BS : Type := Unit × Jc
abbrev Zk : Type := List Ga
abbrev Yx : Type := Unit × Zi
abbrev Mr : Type := Mf × Unit
abbrev RY : Type := (Zi × Unit) ⊕ Ki
abbrev Yu : Type := Yc × Jc
abbrev Ys : Type := List Id
abbrev Zs : Type := Yc × Unit
abbrev JF : Type := Ea × Fh
abbrev LF : Type := Yc × Zi
abbrev Oo : Type := List (Int × Yc)
abbrev NF : Type := Av × Jc
abbrev AB : Type := Qa × Unit
abbrev CG : Type := Qa × AB
abbrev CS : Type := Int × ((List Zk) × (Int × (Int × (Zk × Jc))))
abbrev DS : Type := Unit × Ki
abbrev ES : Type := Unit × Yx
abbrev BB : Type := Ki ⊕ Mr
abbrev OF : Type := Ki ⊕ (Zi × Unit)
abbrev CB : Type := (List Zk) × Jc
abbrev DB : Type := Ga × Unit
abbrev Ay : Type := Zu × Unit
abbrev FS : Type := Jc × Unit
abbrev KK : Type := (Unit × (Int × (Int × (Yc × (Bool × LF))))) × Fh
abbrev LK : Type := Mb × No
abbrev Fm : Type := List Ys
abbrev At : Type := Db × JF
abbrev GS : Type := (Unit × (Int × (Int × (Yc × (Bool × (Yc × (Int × (Yc × (Bool × Zi))))))))) × Fh
abbrev HS : Type := (Unit × (Int × (Yc × (Bool × (Bool × (Unit × (Bool × Jc))))))) × (Ea × No)
abbrev IS : Type := Mb × (Zu × Mf)
abbrev SY : Type := (Ay × Unit) ⊕ Ki
abbrev JS : Type := ((Unit × (Unit × Zs)) × CG) ⊕ Ki
abbrev EB : Type := Ut × Jc
abbrev Zx : Type := (Int × EB) × Unit
abbrev MK : Type := Int × Yx
abbrev PF : Type := (Int × MK) × Fh
abbrev KS : Type := (Unit × (Int × (Unit × (Int × (Unit × (Int × (Zk × Zi))))))) × At
abbrev QF : Type := Av × (Ys × Jc)
abbrev LS : Type := Unit × DS
abbrev NK : Type := (Unit × (Oo × Zs)) × Fh
abbrev RF : Type := (Yc × Yu) × Unit
abbrev Pj : Mb := ((0, [], ()), [], 0, [], 0, false, ())
def Xf (a0 : Int) (a1 : Int) (a2 : Int) : Option Mf :=
 (cond (decide (a0 ≥ a1))
 (some ((decide (a0 ≤ a2)), ()))
 (some (false, ())))
def Uf (a0 : Yc) : Option Zs :=
 (cond (bl (ln ([] : List Int) + ln a0) Sb)
 (some ((ap [] a0), ()))
 none)
def Sn (a0 : Ga) : Option Mf :=
 (ob (Xf a0.2.1 1 56) fun r1 =>
 (ob (Xf a0.2.2.1 1 15) fun r2 =>
 (ob (Xf a0.2.2.2.1 1 3) fun r3 =>
 (cond (a0.1 == 0)
 (cond (a0.2.1 == 0)
 (cond (a0.2.2.1 == 0)
 (some ((a0.2.2.2.1 == 0), ()))
 (some (false, ())))
 (some (false, ())))
 (cond (a0.1 == 1)
 (cond (a0.2.1 == 0)
 (cond (a0.2.2.1 == 0)
 (some ((a0.2.2.2.1 == 0), ()))
 (some (false, ())))
 (some (false, ())))
 (cond (a0.1 == 10)
 (cond (a0.2.1 == 0)
 (cond (a0.2.2.1 == 0)
 (some ((a0.2.2.2.1 == 0), ()))
 (some (false, ())))
 (some (false, ())))
 (cond (a0.1 == 2)
 (cond (a0.2.2.2.1 == 0)
 (cond r1.1
 (cond r2.1
 (some (true, ()))
 (some ((a0.2.2.1 == 0), ())))
 (cond (a0.2.1 == 0)
 (cond r2.1
 (cond r2.1
 (some (true, ()))
 (some ((a0.2.2.1 == 0), ())))
 (some (false, ())))
 (some (false, ()))))
 (some (false, ())))
 (cond (a0.1 == 3)
 (cond r3.1
 (cond (a0.2.1 == 0)
 (some ((a0.2.2.1 == 0), ()))
 (some (false, ())))
 (some (false, ())))
 (cond (a0.1 == 4)
 (cond r3.1
 (cond (a0.2.1 == 0)
 (some ((a0.2.2.1 == 0), ()))
 (some (false, ())))
 (some (false, ())))
 (cond (a0.1 == 5)
 (ob (Xf a0.2.2.2.1 0 3) fun r4 =>
 (cond r4.1
 (cond (a0.2.1 == 0)
 (some ((a0.2.2.1 == 0), ()))
 (some (false, ())))
 (some (false, ()))))
 (cond (a0.1 == 9)
 (ob (Xf a0.2.2.2.1 0 3) fun r5 =>
 (cond r5.1
 (cond (a0.2.1 == 0)
 (some ((a0.2.2.1 == 0), ()))
 (some (false, ())))
 (some (false, ()))))
 (cond (a0.1 == 6)
 (cond r1.1
 (cond r2.1
 (some ((a0.2.2.2.1 == 0), ()))
 (some (false, ())))
 (some (false, ())))
 (cond (a0.1 == 7)
 (cond r1.1
 (cond r3.1
 (some ((a0.2.2.1 == 0), ()))
 (some (false, ())))
 (some (false, ())))
 (cond (a0.1 == 8)
 (cond r2.1
 (cond (a0.2.1 == 0)
 (some ((a0.2.2.2.1 == 0), ()))
 (some (false, ())))
 (some (false, ())))
 (some (false, ()))))))))))))))))
def Sm (t1 : Unit) (t3 : Int) (t4 : Int) (b1 : Ea) : Option ((BS × Fh) ⊕ ((Yx × Fh) ⊕ Mr)) :=
 (ob (Zd b1.2.1 t3) fun x40 =>
 (cond (decide (t4 < ((ln x40 : Nat) : Int)))
 (ob (Zd b1.2.1 t3) fun x41 =>
 (ob (Zd x41 t4) fun x42 =>
 (ob (Sn x42) fun r43 =>
 (cond (!r43.1)
 (some (.inr (.inr ((false, ()), ()))))
 (cond (x42.1 == 1)
 (cond (t3 == 0)
 (some (.inr (.inr ((false, ()), ()))))
 (cond (x42.1 != 9)
 (cond (decide (x42.2.2.2.1 ≥ ((ln b1.2.1 : Nat) : Int)))
 (some (.inr (.inr ((false, ()), ()))))
 (some (.inl (((), t3, (wr .i64 (t4 + 1)), ()), (b1, ())))))
 (some (.inl (((), t3, (wr .i64 (t4 + 1)), ()), (b1, ()))))))
 (cond (x42.1 != 9)
 (cond (decide (x42.2.2.2.1 ≥ ((ln b1.2.1 : Nat) : Int)))
 (some (.inr (.inr ((false, ()), ()))))
 (some (.inl (((), t3, (wr .i64 (t4 + 1)), ()), (b1, ())))))
 (some (.inl (((), t3, (wr .i64 (t4 + 1)), ()), (b1, ()))))))))))
 (some (.inr (.inl (((), t3, ()), (b1, ())))))))
def Hk := Yb fun x : (BS × Fh) => Sm x.1.1 x.1.2.1 x.1.2.2.1 x.2.1
def Rm (t1 : Unit) (t3 : Int) (b1 : Ea) : Option ((Yx × Fh) ⊕ ((Ki × Fh) ⊕ Mr)) :=
 (cond (decide (t3 < ((ln b1.2.1 : Nat) : Int)))
 (ob (Zd b1.2.1 t3) fun x31 =>
 (cond (((ln x31 : Nat) : Int) != b1.1)
 (some (.inr (.inr ((false, ()), ()))))
 (ob (Hk (((), t3, 0, ()), (b1, ()))) (se (fun y44 => (some (.inl (((), (wr .i64 (y44.1.2.1 + 1)), ()), (y44.2.1, ()))))) (fun z45 => (some (.inr (.inr ((z45.1.1, ()), ())))))))))
 (some (.inr (.inl (((), ()), (b1, ()))))))
def Gk := Yb fun x : (Yx × Fh) => Rm x.1.1 x.1.2.1 x.2.1
def Tn (a0 : Ea) : Option Mf :=
 (ob (Gk (((), 0, ()), (a0, ()))) (se (fun y46 => (ob (Xf y46.2.1.1 1 32) fun r48 =>
 (cond r48.1
 (ob (Xf ((ln y46.2.1.2.1 : Nat) : Int) 1 4) fun r49 =>
 (some (r49.1, ())))
 (some (false, ()))))) (fun z47 => (some (z47.1.1, ())))))
def Ts (a0 : Ea) (a1 : Int) : Option Mf :=
 (ob (Tn a0) fun r1 =>
 (cond r1.1
 (cond (decide (0 ≤ ((ln a0.2.1 : Nat) : Int)))
 (ob (Xf a1 0 (wr .i64 ((Qe .i64 1 ((ln a0.2.1 : Nat) : Int)) - 1))) fun r2 =>
 (cond r2.1
 (cond ((2 : Int) == 0)
 none
 (some (((Int.tmod a1 2) == 0), ())))
 (some (false, ()))))
 none)
 (some (false, ()))))
def Nk (a0 : Int) : Option Mf :=
 (cond (decide (a0 ≥ 1))
 (some ((decide (a0 ≤ 56)), ()))
 (some (false, ())))
def Oi (a0 : Int) : Option Mf :=
 (cond (decide (a0 ≥ 1))
 (some ((decide (a0 ≤ 15)), ()))
 (some (false, ())))
def Ij (a0 : Int) : Option Mf :=
 (cond (decide (a0 ≥ 1))
 (some ((decide (a0 ≤ 3)), ()))
 (some (false, ())))
def Tf (a0 : Ga) : Option Mf :=
 (cond (a0.1 == 0)
 (cond (a0.2.1 == 0)
 (cond (a0.2.2.1 == 0)
 (some ((a0.2.2.2.1 == 0), ()))
 (some (false, ())))
 (some (false, ())))
 (cond (a0.1 == 1)
 (cond (a0.2.1 == 0)
 (cond (a0.2.2.1 == 0)
 (some ((a0.2.2.2.1 == 0), ()))
 (some (false, ())))
 (some (false, ())))
 (cond (a0.1 == 10)
 (cond (a0.2.1 == 0)
 (cond (a0.2.2.1 == 0)
 (some ((a0.2.2.2.1 == 0), ()))
 (some (false, ())))
 (some (false, ())))
 (cond (a0.1 == 2)
 (cond (a0.2.2.2.1 == 0)
 (cond (a0.2.1 == 0)
 (cond (a0.2.2.1 == 0)
 (cond (a0.2.1 != 0)
 (some (true, ()))
 (some ((a0.2.2.1 != 0), ())))
 (ob (Oi a0.2.2.1) fun r1 =>
 (cond r1.1
 (cond (a0.2.1 != 0)
 (some (true, ()))
 (some ((a0.2.2.1 != 0), ())))
 (some (false, ())))))
 (ob (Nk a0.2.1) fun r2 =>
 (cond r2.1
 (cond (a0.2.2.1 == 0)
 (cond (a0.2.1 != 0)
 (some (true, ()))
 (some ((a0.2.2.1 != 0), ())))
 (ob (Oi a0.2.2.1) fun r3 =>
 (cond r3.1
 (cond (a0.2.1 != 0)
 (some (true, ()))
 (some ((a0.2.2.1 != 0), ())))
 (some (false, ())))))
 (some (false, ())))))
 (some (false, ())))
 (cond (a0.1 == 3)
 (cond (a0.2.1 == 0)
 (cond (a0.2.2.1 == 0)
 (ob (Ij a0.2.2.2.1) fun r4 =>
 (some (r4.1, ())))
 (some (false, ())))
 (some (false, ())))
 (cond (a0.1 == 4)
 (cond (a0.2.1 == 0)
 (cond (a0.2.2.1 == 0)
 (ob (Ij a0.2.2.2.1) fun r5 =>
 (some (r5.1, ())))
 (some (false, ())))
 (some (false, ())))
 (cond (a0.1 == 5)
 (cond (a0.2.1 == 0)
 (cond (a0.2.2.1 == 0)
 (cond (decide (a0.2.2.2.1 ≥ 0))
 (some ((decide (a0.2.2.2.1 ≤ 3)), ()))
 (some (false, ())))
 (some (false, ())))
 (some (false, ())))
 (cond (a0.1 == 9)
 (cond (a0.2.1 == 0)
 (cond (a0.2.2.1 == 0)
 (cond (decide (a0.2.2.2.1 ≥ 0))
 (some ((decide (a0.2.2.2.1 ≤ 3)), ()))
 (some (false, ())))
 (some (false, ())))
 (some (false, ())))
 (cond (a0.1 == 6)
 (ob (Nk a0.2.1) fun r6 =>
 (cond r6.1
 (ob (Oi a0.2.2.1) fun r7 =>
 (cond r7.1
 (some ((a0.2.2.2.1 == 0), ()))
 (some (false, ()))))
 (some (false, ()))))
 (cond (a0.1 == 7)
 (ob (Nk a0.2.1) fun r8 =>
 (cond r8.1
 (cond (a0.2.2.1 == 0)
 (ob (Ij a0.2.2.2.1) fun r9 =>
 (some (r9.1, ())))
 (some (false, ())))
 (some (false, ()))))
 (cond (a0.1 == 8)
 (cond (a0.2.1 == 0)
 (ob (Oi a0.2.2.1) fun r10 =>
 (cond r10.1
 (some ((a0.2.2.2.1 == 0), ()))
 (some (false, ()))))
 (some (false, ())))
 (some (false, ())))))))))))))
def Pm (t1 : Unit) (t3 : Int) (t28 : (List Zk)) (t29 : Int) (t30 : Int) (t40 : Zk) (t41 : Int) (t42 : Int) (b1 : Ea) : Option (((Unit × CS) × Fh) ⊕ (((Unit × CB) × Fh) ⊕ Mr)) :=
 (cond (decide (t42 < t41))
 (ob (Zd t40 t42) fun x24 =>
 (ob (Tf x24) fun r25 =>
 (cond (!r25.1)
 (some (.inr (.inr ((false, ()), ()))))
 (cond (t3 == 0)
 (cond (x24.1 == 1)
 (some (.inr (.inr ((false, ()), ()))))
 (cond (x24.1 != 9)
 (cond (decide (x24.2.2.2.1 ≥ ((ln b1.2.1 : Nat) : Int)))
 (some (.inr (.inr ((false, ()), ()))))
 (some (.inl (((), t3, t28, t29, t30, t40, t41, (wr .i64 (t42 + 1)), ()), (b1, ())))))
 (some (.inl (((), t3, t28, t29, t30, t40, t41, (wr .i64 (t42 + 1)), ()), (b1, ()))))))
 (cond (x24.1 != 9)
 (cond (decide (x24.2.2.2.1 ≥ ((ln b1.2.1 : Nat) : Int)))
 (some (.inr (.inr ((false, ()), ()))))
 (some (.inl (((), t3, t28, t29, t30, t40, t41, (wr .i64 (t42 + 1)), ()), (b1, ())))))
 (some (.inl (((), t3, t28, t29, t30, t40, t41, (wr .i64 (t42 + 1)), ()), (b1, ())))))))))
 (some (.inr (.inl (((), t28, t29, t30, ()), (b1, ()))))))
def Xg := Yb fun x : ((Unit × CS) × Fh) => Pm x.1.1 x.1.2.1 x.1.2.2.1 x.1.2.2.2.1 x.1.2.2.2.2.1 x.1.2.2.2.2.2.1 x.1.2.2.2.2.2.2.1 x.1.2.2.2.2.2.2.2.1 x.2.1
def Om (t1 : Unit) (t28 : (List Zk)) (t29 : Int) (t30 : Int) (b1 : Ea) : Option (((Unit × CB) × Fh) ⊕ BB) :=
 (cond (decide (t30 < t29))
 (ob (Zd t28 t30) fun x19 =>
 (cond (((ln x19 : Nat) : Int) != b1.1)
 (some (.inr (.inr ((false, ()), ()))))
 (ob (Xg (((), t30, t28, t29, t30, x19, ((ln x19 : Nat) : Int), 0, ()), (b1, ()))) (se (fun y26 => (some (.inl (((), y26.1.2.1, y26.1.2.2.1, (wr .i64 (y26.1.2.2.2.1 + 1)), ()), (y26.2.1, ()))))) (fun z27 => (some (.inr (.inr ((z27.1.1, ()), ())))))))))
 (some (.inr (.inl ((), ())))))
def Wg := Yb fun x : ((Unit × CB) × Fh) => Om x.1.1 x.1.2.1 x.1.2.2.1 x.1.2.2.2.1 x.2.1
def Kk (a0 : Ea) : Option Mf :=
 (cond (decide (a0.1 < 1))
 (some (false, ()))
 (cond (decide (a0.1 > 32))
 (some (false, ()))
 (cond (decide (((ln a0.2.1 : Nat) : Int) < 1))
 (some (false, ()))
 (cond (decide (((ln a0.2.1 : Nat) : Int) > 4))
 (some (false, ()))
 (ob (Wg (((), a0.2.1, ((ln a0.2.1 : Nat) : Int), 0, ()), (a0, ()))) (se (fun y28 => (some (true, ()))) (fun z29 => (some (z29.1.1, ())))))))))
def Nf (a0 : Ea) (a1 : Int) : Option Mf :=
 (ob (Kk a0) fun r1 =>
 (cond r1.1
 (cond (decide (a1 ≥ 0))
 (cond ((2 : Int) == 0)
 none
 (cond ((Int.tmod a1 2) == 0)
 (cond (decide (0 ≤ ((ln a0.2.1 : Nat) : Int)))
 (some ((decide (a1 < (Qe .i64 1 ((ln a0.2.1 : Nat) : Int)))), ()))
 none)
 (some (false, ()))))
 (some (false, ())))
 (some (false, ()))))
def Xp (a0 : Yc) : Option Mf :=
 (some ((decide (((ln a0 : Nat) : Int) > 1048576)), ()))
def Zp (t0 : Yc) (t3 : Int) (t4 : Int) : Option ((Db × Unit) ⊕ ((LF × Unit) ⊕ Ki)) :=
 (cond (decide (t4 < ((ln t0 : Nat) : Int)))
 (cond (decide (t4 < 4000))
 (ob (Zd t0 t4) fun x3 =>
 (some (.inl ((t0, (Uk .i64 (wr .i64 ((wr .i64 ((wr .i64 (t3 * 131)) + (wr .i64 x3))) + 7)) 1073741823), (wr .i64 (t4 + 1)), ()), ()))))
 (some (.inr (.inl ((t0, t3, ()), ())))))
 (some (.inr (.inl ((t0, t3, ()), ())))))
def Tm := Yb fun x : (Db × Unit) => Zp x.1.1 x.1.2.1 x.1.2.2.1
def Sr (a0 : Yc) : Option Db :=
 (ob (Tm ((a0, (wr .i64 (10729 + ((ln a0 : Nat) : Int))), 0, ()), ())) (se (fun y4 => (some (y4.1.1, 0, y4.1.2.1, ()))) (fun z5 => none)))
def Gn (a0 : Yc) (a1 : Int) : Option Db :=
 (ob (Sr a0) fun r1 =>
 (some (r1.1, r1.2.1, (wr .i64 (r1.2.2.1 + (wr .i64 (7919 * a1)))), r1.2.2.2)))
def Bh (a0 : Db) : Option (Db × Zi) :=
 (cond (decide ((0 : Int) ≤ 33))
 (cond (decide ((0 : Int) ≤ 45))
 (cond (decide (a0.2.1 < ((ln a0.1 : Nat) : Int)))
 (ob (Zd a0.1 a0.2.1) fun x1 =>
 (some ((a0.1, (wr .i64 (a0.2.1 + 1)), (wr .i64 ((wr .i64 (a0.2.2.1 * 6364136223846793005)) + 1442695040888963407)), a0.2.2.2), ((Uk .i64 (wr .i64 ((Uk .i64 (Xo .i64 (Is .i64 (wr .i64 ((wr .i64 (a0.2.2.1 * 6364136223846793005)) + 1442695040888963407)) 33) (Is .i64 (wr .i64 ((wr .i64 (a0.2.2.1 * 6364136223846793005)) + 1442695040888963407)) 45)) 255) + (wr .i64 x1))) 255), ()))))
 (some ((a0.1, a0.2.1, (wr .i64 ((wr .i64 (a0.2.2.1 * 6364136223846793005)) + 1442695040888963407)), a0.2.2.2), ((Uk .i64 (Xo .i64 (Is .i64 (wr .i64 ((wr .i64 (a0.2.2.1 * 6364136223846793005)) + 1442695040888963407)) 33) (Is .i64 (wr .i64 ((wr .i64 (a0.2.2.1 * 6364136223846793005)) + 1442695040888963407)) 45)) 255), ()))))
 none)
 none)
def Ua (a0 : Db) (a1 : Int) : Option (Db × Zi) :=
 (cond (decide (a1 ≤ 0))
 (some (a0, (0, ())))
 (cond (decide (a1 ≤ 256))
 (ob (Bh a0) fun r1 =>
 (cond (a1 == 0)
 none
 (some (r1.1, ((Int.tmod r1.2.1 a1), ())))))
 (ob (Bh a0) fun r2 =>
 (ob (Bh r2.1) fun r3 =>
 (ob (Bh r3.1) fun r4 =>
 (ob (Bh r4.1) fun r5 =>
 (cond (a1 == 0)
 none
 (some (r5.1, ((Int.tmod (wr .i64 ((wr .i64 ((wr .i64 ((wr .i64 (r2.2.1 * 16777216)) + (wr .i64 (r3.2.1 * 65536)))) + (wr .i64 (r4.2.1 * 256)))) + r5.2.1)) a1), ()))))))))))
def Rk (a0 : Db) (a1 : Int) : Option (Db × Mf) :=
 (ob (Ua a0 a1) fun r1 =>
 (some (r1.1, ((r1.2.1 == 0), ()))))
def Lm (a0 : Db) (a1 : Yc) : Option (Db × Zi) :=
 (ob (Ua a0 ((ln a1 : Nat) : Int)) fun r1 =>
 (cond (Kh (ln a1) r1.2.1)
 (ob a1[(tn r1.2.1)]? fun x2 =>
 (some (r1.1, (x2, ()))))
 none))
def Hj (a0 : Ga) : Option Mf :=
 (ob (Tf a0) fun r1 =>
 (cond r1.1
 (cond (a0.1 == 6)
 (some (true, ()))
 (some ((a0.1 == 7), ())))
 (some (false, ()))))
def Pr (a0 : Ga) : Option DB :=
 (ob (Hj a0) fun r1 =>
 (cond (!r1.1)
 (some (a0, ()))
 (some ((2, a0.2.1, 0, 0, ()), ()))))
def Nh (t2 : Unit) (t3 : Unit) (t10 : (List Zk)) (t11 : Int) (t12 : Int) (b2 : Ea) (b3 : Ea) : Option (((Unit × (Unit × CB)) × JF) ⊕ ((DS × JF) ⊕ Ki)) :=
 (cond (decide (t12 < t11))
 (ob (Zd t10 t12) fun x4 =>
 (cond (bl (ln ([] : List Ga) + ln x4) Sb)
 (cond (bl (ln b3.2.1 + ln ([(ap [] x4)] : List Zk)) Sb)
 (some (.inl (((), (), t10, t11, (wr .i64 (t12 + 1)), ()), (b2, (b3.1, (ap b3.2.1 ([(ap [] x4)] : List Zk)), ()), ()))))
 none)
 none))
 (some (.inr (.inl (((), (), ()), (b2, b3, ()))))))
def Mi := Yb fun x : ((Unit × (Unit × CB)) × JF) => Nh x.1.1 x.1.2.1 x.1.2.2.1 x.1.2.2.2.1 x.1.2.2.2.2.1 x.2.1 x.2.2.1
def Ai (a0 : Ea) : Option Fh :=
 (ob (Mi (((), (), a0.2.1, ((ln a0.2.1 : Nat) : Int), 0, ()), ((0, [], ()), (a0.1, [], ()), ()))) (se (fun y5 => (some (y5.2.2.1, ()))) (fun z6 => none)))
def Oh (t3 : Fm) (t6 : Fm) (t7 : Int) (t8 : Int) : Option (((Fm × (Fm × Jc)) × Unit) ⊕ (((Fm × Unit) × Unit) ⊕ Ki)) :=
 (cond (decide (t8 < t7))
 (ob (Zd t6 t8) fun x4 =>
 (cond (bl (ln ([] : List Id) + ln x4) Sb)
 (cond (bl (ln t3 + ln ([(ap [] x4)] : List Ys)) Sb)
 (some (.inl (((ap t3 ([(ap [] x4)] : List Ys)), t6, t7, (wr .i64 (t8 + 1)), ()), ())))
 none)
 none))
 (some (.inr (.inl ((t3, ()), ())))))
def Ni := Yb fun x : ((Fm × (Fm × Jc)) × Unit) => Oh x.1.1 x.1.2.1 x.1.2.2.1 x.1.2.2.2.1
def Bi (a0 : Fm) : Option (Fm × Unit) :=
 (ob (Ni (([], a0, ((ln a0 : Nat) : Int), 0, ()), ())) (se (fun y5 => (some (y5.1.1, ()))) (fun z6 => none)))
def Ds (a0 : Int) (a1 : Int) : Option Zi :=
 (cond (decide (0 ≤ a1))
 (some ((Uk .i64 (Is .i64 a0 a1) 1), ()))
 none)
def Dl (t3 : Int) (t6 : Ut) (t7 : Int) (t8 : Int) : Option (Zx ⊕ BB) :=
 (cond (decide (t8 < t7))
 (ob (Zd t6 t8) fun x7 =>
 (cond (decide (x7.1 < 0))
 (some (.inr (.inr ((false, ()), ()))))
 (cond (decide (x7.1 > 31))
 (some (.inr (.inr ((false, ()), ()))))
 (ob (Ds t3 x7.1) fun r8 =>
 (cond (r8.1 == 1)
 (some (.inr (.inr ((false, ()), ()))))
 (ob (Tf x7.2.1) fun r9 =>
 (cond (!r9.1)
 (some (.inr (.inr ((false, ()), ()))))
 (cond (x7.2.1.1 == 1)
 (some (.inr (.inr ((false, ()), ()))))
 (cond (x7.2.1.1 == 6)
 (some (.inr (.inr ((false, ()), ()))))
 (cond (x7.2.1.1 == 7)
 (some (.inr (.inr ((false, ()), ()))))
 (cond (decide (0 ≤ x7.1))
 (some (.inl (((Ae .i64 t3 (Qe .i64 1 x7.1)), t6, t7, (wr .i64 (t8 + 1)), ()), ())))
 none)))))))))))
 (some (.inr (.inl ((), ())))))
def Ql := Yb fun x : Zx => Dl x.1.1 x.1.2.1 x.1.2.2.1 x.1.2.2.2.1
def Ig (a0 : Ut) : Option Mf :=
 (ob (Ql ((0, a0, ((ln a0 : Nat) : Int), 0, ()), ())) (se (fun y10 => (some (true, ()))) (fun z11 => (some (z11.1.1, ())))))
def Hl (t3 : Unit) (t7 : Av) (t8 : Int) (t9 : Int) (b3 : Jc) : Option (((Unit × NF) × FS) ⊕ OF) :=
 (cond (decide (t9 < t8))
 (ob (Zd t7 t9) fun x3 =>
 (cond (Al De x3 b3)
 (some (.inr (.inr ((t9, ()), ()))))
 (some (.inl (((), t7, t8, (wr .i64 (t9 + 1)), ()), (b3, ()))))))
 (some (.inr (.inl ((), ())))))
def Wl := Yb fun x : ((Unit × NF) × FS) => Hl x.1.1 x.1.2.1 x.1.2.2.1 x.1.2.2.2.1 x.2.1
def An (a0 : Av) (a1 : Jc) : Option Zi :=
 (ob (Wl (((), a0, ((ln a0 : Nat) : Int), 0, ()), (a1, ()))) (se (fun y4 => (some ((-1), ()))) (fun z5 => (some (z5.1.1, ())))))
def Ih (t3 : Av) (t11 : Ys) (t12 : Int) (t13 : Int) : Option ((QF × Unit) ⊕ (((Av × Unit) × Unit) ⊕ Mr)) :=
 (cond (decide (t13 < t12))
 (ob (Zd t11 t13) fun x10 =>
 (ob (An t3 x10.2) fun r11 =>
 (ob (Tf (2, x10.2.1, x10.2.2.1, 0, ())) fun r12 =>
 (cond (!r12.1)
 (some (.inr (.inr ((false, ()), ()))))
 (cond (x10.1 == 0)
 (cond (decide (r11.1 ≥ 0))
 (some (.inr (.inr ((false, ()), ()))))
 (cond (x10.1 == 1)
 (cond (bl (ln t3 + ln ([x10.2] : List Jc)) Sb)
 (some (.inl (((ap t3 ([x10.2] : List Jc)), t11, t12, (wr .i64 (t13 + 1)), ()), ())))
 none)
 (some (.inl ((t3, t11, t12, (wr .i64 (t13 + 1)), ()), ())))))
 (cond (x10.1 == 1)
 (cond (decide (r11.1 ≥ 0))
 (some (.inr (.inr ((false, ()), ()))))
 (cond (x10.1 == 1)
 (cond (bl (ln t3 + ln ([x10.2] : List Jc)) Sb)
 (some (.inl (((ap t3 ([x10.2] : List Jc)), t11, t12, (wr .i64 (t13 + 1)), ()), ())))
 none)
 (some (.inl ((t3, t11, t12, (wr .i64 (t13 + 1)), ()), ())))))
 (cond (x10.1 == 2)
 (cond (decide (r11.1 < 0))
 (some (.inr (.inr ((false, ()), ()))))
 (cond (He (ln t3) 0 r11.1)
 (cond (He (ln t3) (wr .i64 (r11.1 + 1)) ((ln t3 : Nat) : Int))
 (cond (bl (ln (Uc t3 (tn 0) (tn r11.1)) + ln (Uc t3 (tn (wr .i64 (r11.1 + 1))) (tn ((ln t3 : Nat) : Int)))) Sb)
 (some (.inl (((ap (Uc t3 (tn 0) (tn r11.1)) (Uc t3 (tn (wr .i64 (r11.1 + 1))) (tn ((ln t3 : Nat) : Int)))), t11, t12, (wr .i64 (t13 + 1)), ()), ())))
 none)
 none)
 none))
 (some (.inr (.inr ((false, ()), ())))))))))))
 (some (.inr (.inl ((t3, ()), ())))))
def Vk := Yb fun x : (QF × Unit) => Ih x.1.1 x.1.2.1 x.1.2.2.1 x.1.2.2.2.1
def Rl (a0 : Ys) : Option Mf :=
 (cond (decide (((ln a0 : Nat) : Int) > 8))
 (some (false, ()))
 (ob (Vk (([], a0, ((ln a0 : Nat) : Int), 0, ()), ())) (se (fun y13 => (some ((((ln y13.1.1 : Nat) : Int) == 0), ()))) (fun z14 => (some (z14.1.1, ()))))))
def Wi (t1 : Unit) (t35 : Fm) (t36 : Int) (t37 : Int) (b1 : Mb) : Option (((Unit × (Fm × Jc)) × No) ⊕ ((Ki × No) ⊕ Mr)) :=
 (cond (decide (t37 < t36))
 (ob (Zd t35 t37) fun x7 =>
 (ob (Rl x7) fun r8 =>
 (cond (!r8.1)
 (some (.inr (.inr ((false, ()), ()))))
 (some (.inl (((), t35, t36, (wr .i64 (t37 + 1)), ()), (b1, ())))))))
 (some (.inr (.inl (((), ()), (b1, ()))))))
def Vg := Yb fun x : ((Unit × (Fm × Jc)) × No) => Wi x.1.1 x.1.2.1 x.1.2.2.1 x.1.2.2.2.1 x.2.1
def Yh (t1 : Unit) (t5 : Int) (t50 : Ut) (t51 : Int) (t52 : Int) (b1 : Mb) : Option (((Unit × (Int × EB)) × No) ⊕ ((Yx × No) ⊕ Mr)) :=
 (cond (decide (t52 < t51))
 (ob (Zd t50 t52) fun x13 =>
 (cond (decide (x13.1 ≥ b1.1.1))
 (some (.inr (.inr ((false, ()), ()))))
 (cond (x13.2.1.1 != 9)
 (cond (decide (x13.2.1.2.2.2.1 ≥ t5))
 (some (.inr (.inr ((false, ()), ()))))
 (some (.inl (((), t5, t50, t51, (wr .i64 (t52 + 1)), ()), (b1, ())))))
 (some (.inl (((), t5, t50, t51, (wr .i64 (t52 + 1)), ()), (b1, ())))))))
 (some (.inr (.inl (((), t5, ()), (b1, ()))))))
def Og := Yb fun x : ((Unit × (Int × EB)) × No) => Yh x.1.1 x.1.2.1 x.1.2.2.1 x.1.2.2.2.1 x.1.2.2.2.2.1 x.2.1
def Rg (a0 : Mb) : Option Mf :=
 (ob (Kk a0.1) fun r1 =>
 (cond (!r1.1)
 (some (false, ()))
 (cond (decide (((ln a0.2.1 : Nat) : Int) > 4))
 (some (false, ()))
 (ob (Ig a0.2.2.2.1) fun r2 =>
 (cond (!r2.1)
 (some (false, ()))
 (cond (decide (a0.2.2.2.2.1 < 0))
 (some (false, ()))
 (cond (decide (a0.2.2.2.2.1 > 15))
 (some (false, ()))
 (ob (Vg (((), a0.2.1, ((ln a0.2.1 : Nat) : Int), 0, ()), (a0, ()))) (se (fun y9 => (ob (Og (((), ((ln y9.2.1.1.2.1 : Nat) : Int), y9.2.1.2.2.2.1, ((ln y9.2.1.2.2.2.1 : Nat) : Int), 0, ()), (y9.2.1, ()))) (se (fun y14 => (cond (decide (y14.2.1.2.2.1 ≥ 0))
 (cond ((2 : Int) == 0)
 none
 (cond ((Int.tmod y14.2.1.2.2.1 2) == 0)
 (cond (decide (0 ≤ y14.1.2.1))
 (some ((decide (y14.2.1.2.2.1 < (Qe .i64 1 y14.1.2.1))), ()))
 none)
 (some (false, ()))))
 (some (false, ())))) (fun z15 => (some (z15.1.1, ())))))) (fun z10 => (some (z10.1.1, ()))))))))))))
def Gm (a0 : Ea) (a1 : Fm) : Option (Mb × Mf) :=
 (ob (Ai a0) fun r1 =>
 (ob (Bi a1) fun r2 =>
 (ob (Rg (r1.1, r2.1, 0, [], 0, false, ())) fun r3 =>
 (cond (!r3.1)
 (some (Pj, false, ()))
 (some ((r1.1, r2.1, 0, [], 0, false, ()), true, ()))))))
def Pg (a0 : Mb) : Option No :=
 (ob (Ai a0.1) fun r1 =>
 (ob (Bi a0.2.1) fun r2 =>
 (cond (bl (ln ([] : List Wa) + ln a0.2.2.2.1) Sb)
 (some ((r1.1, r2.1, a0.2.2.1, (ap [] a0.2.2.2.1), a0.2.2.2.2), ()))
 none)))
def Cl (t1 : Int) (t8 : Ut) (t9 : Int) (t10 : Int) : Option (Zx ⊕ OF) :=
 (cond (decide (t10 < t9))
 (ob (Zd t8 t10) fun x3 =>
 (cond (x3.1 == t1)
 (some (.inr (.inr ((t10, ()), ()))))
 (some (.inl ((t1, t8, t9, (wr .i64 (t10 + 1)), ()), ())))))
 (some (.inr (.inl ((), ())))))
def Pl := Yb fun x : Zx => Cl x.1.1 x.1.2.1 x.1.2.2.1 x.1.2.2.2.1
def Zm (a0 : Mb) (a1 : Int) : Option Zi :=
 (ob (Pl ((a1, a0.2.2.2.1, ((ln a0.2.2.2.1 : Nat) : Int), 0, ()), ())) (se (fun y4 => (some ((-1), ()))) (fun z5 => (some (z5.1.1, ())))))
def sort_Ints (x0 : Yc) : Option Zs := srt x0
def Gl (t1 : Int) (t7 : Yc) (t8 : Int) (t9 : Int) : Option (((Int × Yu) × Unit) ⊕ BB) :=
 (cond (decide (t9 < t8))
 (ob (Zd t7 t9) fun x3 =>
 (cond (x3 == t1)
 (some (.inr (.inr ((true, ()), ()))))
 (some (.inl ((t1, t7, t8, (wr .i64 (t9 + 1)), ()), ())))))
 (some (.inr (.inl ((), ())))))
def Vl := Yb fun x : ((Int × Yu) × Unit) => Gl x.1.1 x.1.2.1 x.1.2.2.1 x.1.2.2.2.1
def Iq (a0 : Yc) (a1 : Int) : Option Mf :=
 (ob (Vl ((a1, a0, ((ln a0 : Nat) : Int), 0, ()), ())) (se (fun y4 => (some (false, ()))) (fun z5 => (some (z5.1.1, ())))))
def Ak (t4 : Yc) (t11 : Yc) (t12 : Int) (t13 : Int) : Option (RF ⊕ ((Zs × Unit) ⊕ Ki)) :=
 (cond (decide (t13 < t12))
 (cond (Kh (ln t11) t13)
 (ob t11[(tn t13)]? fun x9 =>
 (cond (x9 != 0)
 (ob (Iq t4 x9) fun r10 =>
 (cond (!r10.1)
 (cond (bl (ln t4 + ln ([x9] : List Int)) Sb)
 (some (.inl (((ap t4 ([x9] : List Int)), t11, t12, (wr .i64 (t13 + 1)), ()), ())))
 none)
 (some (.inl ((t4, t11, t12, (wr .i64 (t13 + 1)), ()), ())))))
 (some (.inl ((t4, t11, t12, (wr .i64 (t13 + 1)), ()), ())))))
 none)
 (some (.inr (.inl ((t4, ()), ())))))
def Xk := Yb fun x : RF => Ak x.1.1 x.1.2.1 x.1.2.2.1 x.1.2.2.2.1
def Tl (a0 : Yc) : Option Zs :=
 (ob (Uf a0) fun r1 =>
 (ob (sort_Ints r1.1) fun r2 =>
 (ob (Xk (([], r2.1, ((ln r2.1 : Nat) : Int), 0, ()), ())) (se (fun y11 => (some (y11.1.1, ()))) (fun z12 => none)))))
def Xi (t2 : Unit) (t3 : Unit) (t4 : Yc) (t11 : Ut) (t12 : Int) (t13 : Int) (b2 : Qa) (b3 : Qa) : Option (((Unit × (Unit × (Yc × EB))) × CG) ⊕ JS) :=
 (cond (decide (t13 < t12))
 (ob (Zd t11 t13) fun x5 =>
 (cond (x5.2.1.1 == 2)
 (cond (bl (ln t4 + ln ([x5.2.1.2.1] : List Int)) Sb)
 (some (.inl (((), (), (ap t4 ([x5.2.1.2.1] : List Int)), t11, t12, (wr .i64 (t13 + 1)), ()), (b2, ((Ae .i64 b3.1 x5.2.1.2.2.1), b3.2.1, ()), ()))))
 none)
 (cond (x5.2.1.1 == 8)
 (cond (bl (ln t4 + ln ([x5.2.1.2.1] : List Int)) Sb)
 (some (.inl (((), (), (ap t4 ([x5.2.1.2.1] : List Int)), t11, t12, (wr .i64 (t13 + 1)), ()), (b2, ((Ae .i64 b3.1 x5.2.1.2.2.1), b3.2.1, ()), ()))))
 none)
 (cond (bl (ln t4 + ln ([x5.2.1.2.1] : List Int)) Sb)
 (some (.inl (((), (), (ap t4 ([x5.2.1.2.1] : List Int)), t11, t12, (wr .i64 (t13 + 1)), ()), (b2, b3, ()))))
 none))))
 (some (.inr (.inl (((), (), t4, ()), (b2, b3, ()))))))
def Xj := Yb fun x : ((Unit × (Unit × (Yc × EB))) × CG) => Xi x.1.1 x.1.2.1 x.1.2.2.1 x.1.2.2.2.1 x.1.2.2.2.2.1 x.1.2.2.2.2.2.1 x.2.1 x.2.2.1
def Ib (a0 : Ut) : Option AB :=
 (ob (Ig a0) fun r1 =>
 (cond (!r1.1)
 (some ((0, [], ()), ()))
 (ob (Xj (((), (), [], a0, ((ln a0 : Nat) : Int), 0, ()), ((0, [], ()), (0, [], ()), ()))) (se (fun y6 => (ob (Tl y6.1.2.2.1) fun r8 =>
 (some ((y6.2.2.1.1, r8.1, ()), ())))) (fun z7 => none)))))
def Yi (t0 : Yc) (t1 : Yc) (t12 : Int) (t13 : Int) : Option (RF ⊕ BB) :=
 (cond (decide (t13 < t12))
 (ob (Zd t0 t13) fun x5 =>
 (ob (Zd t1 t13) fun x6 =>
 (cond (x5 != x6)
 (some (.inr (.inr ((false, ()), ()))))
 (some (.inl ((t0, t1, t12, (wr .i64 (t13 + 1)), ()), ()))))))
 (some (.inr (.inl ((), ())))))
def Bk := Yb fun x : RF => Yi x.1.1 x.1.2.1 x.1.2.2.1 x.1.2.2.2.1
def On (a0 : Yc) (a1 : Yc) : Option Mf :=
 (cond (((ln a0 : Nat) : Int) != ((ln a1 : Nat) : Int))
 (some (false, ()))
 (ob (Bk ((a0, a1, ((ln a0 : Nat) : Int), 0, ()), ())) (se (fun y7 => (some (true, ()))) (fun z8 => (some (z8.1.1, ()))))))
def Zh (a0 : Qa) (a1 : Qa) : Option Mf :=
 (cond (a0.1 == a1.1)
 (ob (On a0.2.1 a1.2.1) fun r1 =>
 (some (r1.1, ())))
 (some (false, ())))
def Fp (a b : Qa) : Bool := (a.1 == b.1) && (a.2.1 == b.2.1)
def ZR (c : T Qc → T Qc → Option Bool) (a b : T Qc) : Option Mf := ob (c a b) fun x => some (x, ())
def Qp (c : T Qc → T Qc → Option Bool) (t2 : Unit) (t5 : (List (Int × ((T .o) × Unit)))) (t8 : (List (Int × ((T .o) × Unit)))) (t9 : Int) (t10 : Int) (b2 : (Int × ((T .o) × Unit))) : Option (((Unit × ((List (Int × ((T .o) × Unit))) × ((List (Int × ((T .o) × Unit))) × Jc))) × ((Int × ((T .o) × Unit)) × Unit)) ⊕ ((((List (Int × ((T .o) × Unit))) × Unit) × Unit) ⊕ Ki)) :=
 (cond (decide (t10 < t9))
 (ob (Zd t8 t10) fun x7 =>
 (ob (ZR c b2 x7) fun r8 =>
 (cond (!r8.1)
 (cond (bl (ln t5 + ln ([x7] : List (Int × ((T .o) × Unit)))) Sb)
 (some (.inl (((), (ap t5 ([x7] : List (Int × ((T .o) × Unit)))), t8, t9, (wr .i64 (t10 + 1)), ()), (x7, ()))))
 none)
 (some (.inl (((), t5, t8, t9, (wr .i64 (t10 + 1)), ()), (x7, ())))))))
 (some (.inr (.inl ((t5, ()), ())))))
def Mk (c : T Qc → T Qc → Option Bool) (x : ((Unit × ((List (Int × ((T .o) × Unit))) × ((List (Int × ((T .o) × Unit))) × Jc))) × ((Int × ((T .o) × Unit)) × Unit))) : Option ((((List (Int × ((T .o) × Unit))) × Unit) × Unit) ⊕ Ki) := Yb (fun x : ((Unit × ((List (Int × ((T .o) × Unit))) × ((List (Int × ((T .o) × Unit))) × Jc))) × ((Int × ((T .o) × Unit)) × Unit)) => Qp c x.1.1 x.1.2.1 x.1.2.2.1 x.1.2.2.2.1 x.1.2.2.2.2.1 x.2.1) x
def WK (c : T Qc → T Qc → Option Bool) (a0 : (Int × ((T .o) × Unit))) (a1 : (List (Int × ((T .o) × Unit)))) : Option ((List (Int × ((T .o) × Unit))) × Unit) :=
 (ob (Mk c (((), ([] : List (Int × ((T .o) × Unit))), a1, ((ln a1 : Nat) : Int), 0, ()), (a0, ()))) (se (fun y9 => (some (y9.1.1, ()))) (fun z10 => none)))
def Vb (a0 : Qa) (a1 : List Qa) : Option Ay := VK Fp a0 a1
def Wo (a0 : Mb) (a1 : Int) : Option (Mb × Ay) :=
 (ob (Pg a0) fun r1 =>
 (ob (Zm a0 a1) fun r2 =>
 (cond (He (ln r1.1.2.2.2.1) 0 r2.1)
 (cond (He (ln r1.1.2.2.2.1) (wr .i64 (r2.1 + 1)) ((ln r1.1.2.2.2.1 : Nat) : Int))
 (cond (bl (ln (Uc r1.1.2.2.2.1 (tn 0) (tn r2.1)) + ln (Uc r1.1.2.2.2.1 (tn (wr .i64 (r2.1 + 1))) (tn ((ln r1.1.2.2.2.1 : Nat) : Int)))) Sb)
 (ob (Ib a0.2.2.2.1) fun r3 =>
 (ob (Ib (ap (Uc r1.1.2.2.2.1 (tn 0) (tn r2.1)) (Uc r1.1.2.2.2.1 (tn (wr .i64 (r2.1 + 1))) (tn ((ln r1.1.2.2.2.1 : Nat) : Int))))) fun r4 =>
 (ob (Vb r3.1 ([r4.1] : List Qa)) fun r5 =>
 (some ((r1.1.1, r1.1.2.1, r1.1.2.2.1, (ap (Uc r1.1.2.2.2.1 (tn 0) (tn r2.1)) (Uc r1.1.2.2.2.1 (tn (wr .i64 (r2.1 + 1))) (tn ((ln r1.1.2.2.2.1 : Nat) : Int)))), r1.1.2.2.2.2), r5.1, ())))))
 none)
 none)
 none)))
def Lr (t5 : Int) (t21 : Ut) (t22 : Int) (t23 : Int) : Option (Zx ⊕ RY) :=
 (cond (decide (t23 < t22))
 (ob (Zd t21 t23) fun x16 =>
 (cond (x16.2.1.1 == 3)
 (cond (decide (0 ≤ x16.2.1.2.2.2.1))
 (some (.inl (((Ae .i64 t5 (Qe .i64 1 x16.2.1.2.2.2.1)), t21, t22, (wr .i64 (t23 + 1)), ()), ())))
 none)
 (some (.inl ((t5, t21, t22, (wr .i64 (t23 + 1)), ()), ())))))
 (some (.inr (.inl ((t5, ()), ())))))
def Of := Yb fun x : Zx => Lr x.1.1 x.1.2.1 x.1.2.2.1 x.1.2.2.2.1
def Lk (a0 : Int) (a1 : Ut) : Option Zi :=
 (cond (decide (a0 ≥ 0))
 (cond (decide (a0 ≤ 15))
 (ob (Ig a1) fun r1 =>
 (cond (!r1.1)
 (some ((Ae .i64 1 a0), ()))
 (ob (Of (((Ae .i64 1 a0), a1, ((ln a1 : Nat) : Int), 0, ()), ())) (se (fun y5 => (some (y5.1.1, ()))) (fun z6 => none)))))
 (ob (Ig a1) fun r7 =>
 (cond (!r7.1)
 (some (1, ()))
 (ob (Of ((1, a1, ((ln a1 : Nat) : Int), 0, ()), ())) (se (fun y11 => (some (y11.1.1, ()))) (fun z12 => none))))))
 (ob (Ig a1) fun r13 =>
 (cond (!r13.1)
 (some (1, ()))
 (ob (Of ((1, a1, ((ln a1 : Nat) : Int), 0, ()), ())) (se (fun y17 => (some (y17.1.1, ()))) (fun z18 => none))))))
def Es (t1 : Int) (t2 : Int) (t3 : Unit) (t7 : Int) (b3 : Ea) : Option (PF ⊕ OF) :=
 (cond (decide (t7 > 0))
 (ob (Ds t1 t7) fun r7 =>
 (cond (r7.1 == 1)
 (ob (Zd b3.2.1 t7) fun x8 =>
 (ob (Zd x8 t2) fun x9 =>
 (cond (x9.1 != 1)
 (some (.inr (.inr ((t7, ()), ()))))
 (some (.inl ((t1, t2, (), (wr .i64 (t7 - 1)), ()), (b3, ())))))))
 (some (.inl ((t1, t2, (), (wr .i64 (t7 - 1)), ()), (b3, ()))))))
 (some (.inr (.inl ((), ())))))
def Ze := Yb fun x : PF => Es x.1.1 x.1.2.1 x.1.2.2.1 x.1.2.2.2.1 x.2.1
def Jj (a0 : Ea) (a1 : Int) (a2 : Int) : Option Zi :=
 (ob (Ze ((a1, a2, (), (wr .i64 (((ln a0.2.1 : Nat) : Int) - 1)), ()), (a0, ()))) (se (fun y10 => (some (0, ()))) (fun z11 => (some (z11.1.1, ())))))
def Xy (a0 : Ga) : Option DB :=
 (ob (Hj a0) fun r1 =>
 (cond (!r1.1)
 (some (a0, ()))
 (cond (a0.1 == 6)
 (some ((2, 0, a0.2.2.1, 0, ()), ()))
 (some ((3, 0, 0, a0.2.2.2.1, ()), ())))))
def Fl (a0 : Int) : Option Mf :=
 (cond (decide (a0 ≥ 1))
 (cond (decide (a0 ≤ 36))
 (some (true, ()))
 (cond (a0 == 39)
 (some (true, ()))
 (some ((a0 == 42), ()))))
 (cond (a0 == 39)
 (some (true, ()))
 (some ((a0 == 42), ()))))
def Ok (a0 : Mb) (a1 : Ga) : Option (Mb × DB) :=
 (cond (a1.1 == 2)
 (cond (a1.2.1 == 0)
 (some (a0, (a1, ())))
 (cond a0.2.2.2.2.2.1
 (ob (Fl a1.2.1) fun r1 =>
 (cond r1.1
 (cond (decide (a1.2.1 ≤ 26))
 (cond ((Hg .i64 (Ae .i64 a1.2.2.1 a0.2.2.2.2.1) 2) == 0)
 (some ((a0.1, a0.2.1, a0.2.2.1, a0.2.2.2.1, 0, r1.1, a0.2.2.2.2.2.2), ((a1.1, a1.2.1, 2, a1.2.2.2), ())))
 (some ((a0.1, a0.2.1, a0.2.2.1, a0.2.2.2.1, 0, r1.1, a0.2.2.2.2.2.2), ((a1.1, a1.2.1, (Ae .i64 a1.2.2.1 a0.2.2.2.2.1), a1.2.2.2), ()))))
 (some ((a0.1, a0.2.1, a0.2.2.1, a0.2.2.2.1, 0, r1.1, a0.2.2.2.2.2.2), ((a1.1, a1.2.1, (Ae .i64 a1.2.2.1 a0.2.2.2.2.1), a1.2.2.2), ()))))
 (some ((a0.1, a0.2.1, a0.2.2.1, a0.2.2.2.1, 0, r1.1, a0.2.2.2.2.2.2), ((a1.1, a1.2.1, (Ae .i64 a1.2.2.1 a0.2.2.2.2.1), a1.2.2.2), ())))))
 (some ((a0.1, a0.2.1, a0.2.2.1, a0.2.2.2.1, 0, false, a0.2.2.2.2.2.2), ((a1.1, a1.2.1, (Ae .i64 a1.2.2.1 a0.2.2.2.2.1), a1.2.2.2), ())))))
 (cond (a1.1 == 4)
 (cond (decide (0 ≤ a1.2.2.2.1))
 (some ((a0.1, a0.2.1, (Xo .i64 a0.2.2.1 (Qe .i64 1 a1.2.2.2.1)), a0.2.2.2), (a1, ())))
 none)
 (cond (a1.1 == 5)
 (cond (decide (0 ≤ a1.2.2.2.1))
 (some ((a0.1, a0.2.1, (Hg .i64 (Qe .i64 1 a1.2.2.2.1) 1), a0.2.2.2), (a1, ())))
 none)
 (cond (a1.1 == 8)
 (cond ((Uk .i64 a0.2.2.2.2.1 a1.2.2.1) == a1.2.2.1)
 (some ((a0.1, a0.2.1, a0.2.2.1, a0.2.2.2.1, (Hg .i64 a0.2.2.2.2.1 a1.2.2.1), a0.2.2.2.2.2), (a1, ())))
 (some ((a0.1, a0.2.1, a0.2.2.1, a0.2.2.2.1, (Ae .i64 a0.2.2.2.2.1 a1.2.2.1), a0.2.2.2.2.2), (a1, ()))))
 (cond (a1.1 == 10)
 (some ((a0.1, a0.2.1, a0.2.2.1, a0.2.2.2.1, a0.2.2.2.2.1, (!a0.2.2.2.2.2.1), a0.2.2.2.2.2.2), (a1, ())))
 (some (a0, (a1, ()))))))))
def Dx (t4 : Unit) (t5 : Unit) (t6 : Yc) (t15 : Av) (t16 : Int) (t17 : Int) (b4 : Qa) (b5 : Qa) : Option (((Unit × (Unit × (Yc × NF))) × CG) ⊕ JS) :=
 (cond (decide (t17 < t16))
 (ob (Zd t15 t17) fun x4 =>
 (cond (bl (ln t6 + ln ([x4.1] : List Int)) Sb)
 (some (.inl (((), (), (ap t6 ([x4.1] : List Int)), t15, t16, (wr .i64 (t17 + 1)), ()), (b4, ((Ae .i64 b5.1 x4.2.1), b5.2.1, ()), ()))))
 none))
 (some (.inr (.inl (((), (), t6, ()), (b4, b5, ()))))))
def Io := Yb fun x : ((Unit × (Unit × (Yc × NF))) × CG) => Dx x.1.1 x.1.2.1 x.1.2.2.1 x.1.2.2.2.1 x.1.2.2.2.2.1 x.1.2.2.2.2.2.1 x.2.1 x.2.2.1
def Ch (a0 : Qa) (a1 : Av) : Option AB :=
 (ob (Uf a0.2.1) fun r1 =>
 (ob (Io (((), (), r1.1, a1, ((ln a1 : Nat) : Int), 0, ()), ((0, [], ()), (a0.1, [], ()), ()))) (se (fun y5 => (ob (Tl y5.1.2.2.1) fun r7 =>
 (some ((y5.2.2.1.1, r7.1, ()), ())))) (fun z6 => none))))
def Mu (t5 : Unit) (t6 : Zu) (t7 : Av) (t22 : Ys) (t23 : Int) (t24 : Int) (b5 : Qa) : Option (((Unit × (Zu × QF)) × AB) ⊕ SY) :=
 (cond (decide (t24 < t23))
 (ob (Zd t22 t24) fun x25 =>
 (cond (x25.1 == 0)
 (cond (bl (ln ([] : List Jc) + ln t7) Sb)
 (cond (bl (ln (ap [] t7) + ln ([x25.2] : List Jc)) Sb)
 (ob (Ch b5 (ap (ap [] t7) ([x25.2] : List Jc))) fun r26 =>
 (cond (bl (ln t6 + ln ([r26.1] : List Qa)) Sb)
 (ob (Ch b5 t7) fun r27 =>
 (cond (bl (ln (ap t6 ([r26.1] : List Qa)) + ln ([r27.1] : List Qa)) Sb)
 (some (.inl (((), (ap (ap t6 ([r26.1] : List Qa)) ([r27.1] : List Qa)), t7, t22, t23, (wr .i64 (t24 + 1)), ()), (b5, ()))))
 none))
 none))
 none)
 none)
 (cond (x25.1 == 1)
 (cond (bl (ln t7 + ln ([x25.2] : List Jc)) Sb)
 (ob (Ch b5 (ap t7 ([x25.2] : List Jc))) fun r28 =>
 (cond (bl (ln t6 + ln ([r28.1] : List Qa)) Sb)
 (some (.inl (((), (ap t6 ([r28.1] : List Qa)), (ap t7 ([x25.2] : List Jc)), t22, t23, (wr .i64 (t24 + 1)), ()), (b5, ()))))
 none))
 none)
 (cond (x25.1 == 2)
 (ob (An t7 x25.2) fun r29 =>
 (cond (He (ln t7) 0 r29.1)
 (cond (He (ln t7) (wr .i64 (r29.1 + 1)) ((ln t7 : Nat) : Int))
 (cond (bl (ln (Uc t7 (tn 0) (tn r29.1)) + ln (Uc t7 (tn (wr .i64 (r29.1 + 1))) (tn ((ln t7 : Nat) : Int)))) Sb)
 (ob (Ch b5 (ap (Uc t7 (tn 0) (tn r29.1)) (Uc t7 (tn (wr .i64 (r29.1 + 1))) (tn ((ln t7 : Nat) : Int))))) fun r30 =>
 (cond (bl (ln t6 + ln ([r30.1] : List Qa)) Sb)
 (some (.inl (((), (ap t6 ([r30.1] : List Qa)), (ap (Uc t7 (tn 0) (tn r29.1)) (Uc t7 (tn (wr .i64 (r29.1 + 1))) (tn ((ln t7 : Nat) : Int)))), t22, t23, (wr .i64 (t24 + 1)), ()), (b5, ()))))
 none))
 none)
 none)
 none))
 (ob (Ch b5 t7) fun r31 =>
 (cond (bl (ln t6 + ln ([r31.1] : List Qa)) Sb)
 (some (.inl (((), (ap t6 ([r31.1] : List Qa)), t7, t22, t23, (wr .i64 (t24 + 1)), ()), (b5, ()))))
 none))))))
 (some (.inr (.inl ((t6, ()), ())))))
def Sl := Yb fun x : ((Unit × (Zu × QF)) × AB) => Mu x.1.1 x.1.2.1 x.1.2.2.1 x.1.2.2.2.1 x.1.2.2.2.2.1 x.1.2.2.2.2.2.1 x.2.1
def Qm (a0 : Ut) (a1 : Ys) : Option Ay :=
 (ob (Ig a0) fun r1 =>
 (cond (!r1.1)
 (some ([], ()))
 (ob (Rl a1) fun r2 =>
 (cond (!r2.1)
 (some ([], ()))
 (ob (Ib a0) fun r3 =>
 (ob (Sl (((), [], [], a1, ((ln a1 : Nat) : Int), 0, ()), (r3.1, ()))) (se (fun y32 => (some (y32.1.1, ()))) (fun z33 => none))))))))
def Qr (a0 : Mb) (a1 : Int) (a2 : Bool) : Option (Mb × Ay) :=
 (ob (Pg a0) fun r1 =>
 (ob (Lk a0.2.2.1 a0.2.2.2.1) fun r2 =>
 (ob (Jj a0.1 r2.1 a1) fun r3 =>
 (ob (Zd a0.1.2.1 r3.1) fun x4 =>
 (ob (Zd x4 a1) fun x5 =>
 (cond a2
 (ob (Xy x5) fun r6 =>
 (ob (Ok r1.1 r6.1) fun r7 =>
 (cond (bl (ln r7.1.2.2.2.1 + ln ([(a1, r7.2.1, ())] : List Wa)) Sb)
 (cond (r7.2.1.1 == 9)
 (cond (decide (r7.2.1.2.2.2.1 < ((ln a0.2.1 : Nat) : Int)))
 (ob (Zd a0.2.1 r7.2.1.2.2.2.1) fun x8 =>
 (ob (Qm (ap r7.1.2.2.2.1 ([(a1, r7.2.1, ())] : List Wa)) x8) fun r9 =>
 (ob (Ib (ap r7.1.2.2.2.1 ([(a1, r7.2.1, ())] : List Wa))) fun r10 =>
 (cond (bl (ln r9.1 + ln ([r10.1] : List Qa)) Sb)
 (ob (Ib a0.2.2.2.1) fun r11 =>
 (ob (Vb r11.1 (ap r9.1 ([r10.1] : List Qa))) fun r12 =>
 (some ((r7.1.1, r7.1.2.1, r7.1.2.2.1, (ap r7.1.2.2.2.1 ([(a1, r7.2.1, ())] : List Wa)), r7.1.2.2.2.2), r12.1, ()))))
 none))))
 (ob (Ib (ap r7.1.2.2.2.1 ([(a1, r7.2.1, ())] : List Wa))) fun r13 =>
 (cond (bl (ln ([] : List Qa) + ln ([r13.1] : List Qa)) Sb)
 (ob (Ib a0.2.2.2.1) fun r14 =>
 (ob (Vb r14.1 (ap [] ([r13.1] : List Qa))) fun r15 =>
 (some ((r7.1.1, r7.1.2.1, r7.1.2.2.1, (ap r7.1.2.2.2.1 ([(a1, r7.2.1, ())] : List Wa)), r7.1.2.2.2.2), r15.1, ()))))
 none)))
 (ob (Ib (ap r7.1.2.2.2.1 ([(a1, r7.2.1, ())] : List Wa))) fun r16 =>
 (cond (bl (ln ([] : List Qa) + ln ([r16.1] : List Qa)) Sb)
 (ob (Ib a0.2.2.2.1) fun r17 =>
 (ob (Vb r17.1 (ap [] ([r16.1] : List Qa))) fun r18 =>
 (some ((r7.1.1, r7.1.2.1, r7.1.2.2.1, (ap r7.1.2.2.2.1 ([(a1, r7.2.1, ())] : List Wa)), r7.1.2.2.2.2), r18.1, ()))))
 none)))
 none)))
 (ob (Pr x5) fun r19 =>
 (ob (Ok r1.1 r19.1) fun r20 =>
 (cond (bl (ln r20.1.2.2.2.1 + ln ([(a1, r20.2.1, ())] : List Wa)) Sb)
 (cond (r20.2.1.1 == 9)
 (cond (decide (r20.2.1.2.2.2.1 < ((ln a0.2.1 : Nat) : Int)))
 (ob (Zd a0.2.1 r20.2.1.2.2.2.1) fun x21 =>
 (ob (Qm (ap r20.1.2.2.2.1 ([(a1, r20.2.1, ())] : List Wa)) x21) fun r22 =>
 (ob (Ib (ap r20.1.2.2.2.1 ([(a1, r20.2.1, ())] : List Wa))) fun r23 =>
 (cond (bl (ln r22.1 + ln ([r23.1] : List Qa)) Sb)
 (ob (Ib a0.2.2.2.1) fun r24 =>
 (ob (Vb r24.1 (ap r22.1 ([r23.1] : List Qa))) fun r25 =>
 (some ((r20.1.1, r20.1.2.1, r20.1.2.2.1, (ap r20.1.2.2.2.1 ([(a1, r20.2.1, ())] : List Wa)), r20.1.2.2.2.2), r25.1, ()))))
 none))))
 (ob (Ib (ap r20.1.2.2.2.1 ([(a1, r20.2.1, ())] : List Wa))) fun r26 =>
 (cond (bl (ln ([] : List Qa) + ln ([r26.1] : List Qa)) Sb)
 (ob (Ib a0.2.2.2.1) fun r27 =>
 (ob (Vb r27.1 (ap [] ([r26.1] : List Qa))) fun r28 =>
 (some ((r20.1.1, r20.1.2.1, r20.1.2.2.1, (ap r20.1.2.2.2.1 ([(a1, r20.2.1, ())] : List Wa)), r20.1.2.2.2.2), r28.1, ()))))
 none)))
 (ob (Ib (ap r20.1.2.2.2.1 ([(a1, r20.2.1, ())] : List Wa))) fun r29 =>
 (cond (bl (ln ([] : List Qa) + ln ([r29.1] : List Qa)) Sb)
 (ob (Ib a0.2.2.2.1) fun r30 =>
 (ob (Vb r30.1 (ap [] ([r29.1] : List Qa))) fun r31 =>
 (some ((r20.1.1, r20.1.2.1, r20.1.2.2.1, (ap r20.1.2.2.2.1 ([(a1, r20.2.1, ())] : List Wa)), r20.1.2.2.2.2), r31.1, ()))))
 none)))
 none)))))))))
def Ws (t1 : Int) (t2 : Int) (t3 : Unit) (t7 : Int) (b3 : Ea) : Option (PF ⊕ OF) :=
 (cond (decide (t7 > 0))
 (cond (decide (0 ≤ t7))
 (cond ((Uk .i64 (Is .i64 t1 t7) 1) == 1)
 (ob (Zd b3.2.1 t7) fun x7 =>
 (ob (Zd x7 t2) fun x8 =>
 (cond (x8.1 != 1)
 (some (.inr (.inr ((t7, ()), ()))))
 (some (.inl ((t1, t2, (), (wr .i64 (t7 - 1)), ()), (b3, ())))))))
 (some (.inl ((t1, t2, (), (wr .i64 (t7 - 1)), ()), (b3, ())))))
 none)
 (some (.inr (.inl ((), ())))))
def Bg := Yb fun x : PF => Ws x.1.1 x.1.2.1 x.1.2.2.1 x.1.2.2.2.1 x.2.1
def Vs (a0 : Ea) (a1 : Int) (a2 : Int) : Option Zi :=
 (ob (Tn a0) fun r1 =>
 (cond (!r1.1)
 (some ((-1), ()))
 (ob (Xf a2 0 (wr .i64 (a0.1 - 1))) fun r2 =>
 (cond (!r2.1)
 (some ((-1), ()))
 (ob (Bg ((a1, a2, (), (wr .i64 (((ln a0.2.1 : Nat) : Int) - 1)), ()), (a0, ()))) (se (fun y9 => (some (0, ()))) (fun z10 => (some (z10.1.1, ())))))))))
def Jr (a0 : Ea) (a1 : Int) (a2 : Int) : Option DB :=
 (ob (Vs a0 a1 a2) fun r1 =>
 (cond (decide (r1.1 < 0))
 (some ((0, 0, 0, 0, ()), ()))
 (ob (Zd a0.2.1 r1.1) fun x2 =>
 (ob (Zd x2 a2) fun x3 =>
 (some (x3, ()))))))
def Ot (a0 : Ea) (a1 : Int) (a2 : Int) : Option Zi :=
 (ob (Ts a0 a1) fun r1 =>
 (cond (!r1.1)
 (some ((-1), ()))
 (ob (Xf a2 0 (wr .i64 (a0.1 - 1))) fun r2 =>
 (cond (!r2.1)
 (some ((-1), ()))
 (ob (Jr a0 (Ae .i64 1 a1) a2) fun r3 =>
 (cond (r3.1.1 == 4)
 (cond (decide (0 ≤ r3.1.2.2.2.1))
 (some ((Xo .i64 a1 (Qe .i64 1 r3.1.2.2.2.1)), ()))
 none)
 (cond (r3.1.1 == 5)
 (cond (decide (0 ≤ r3.1.2.2.2.1))
 (some ((Hg .i64 (Qe .i64 1 r3.1.2.2.2.1) 1), ()))
 none)
 (some (a1, ())))))))))
def Ci (a0 : Ea) (a1 : Int) (a2 : Int) : Option Zi :=
 (ob (Jj a0 a1 a2) fun r1 =>
 (ob (Zd a0.2.1 r1.1) fun x2 =>
 (ob (Zd x2 a2) fun x3 =>
 (cond (x3.1 == 4)
 (cond (decide (0 ≤ x3.2.2.2.1))
 (some ((Xo .i64 a1 (Qe .i64 1 x3.2.2.2.1)), ()))
 none)
 (cond (x3.1 == 5)
 (cond (decide (0 ≤ x3.2.2.2.1))
 (some ((Hg .i64 (Qe .i64 1 x3.2.2.2.1) 1), ()))
 none)
 (some (a1, ())))))))
def Xh (a0 : Ea) (a1 : Int) (a2 : Int) : Option Zi :=
 (ob (Nf a0 a1) fun r1 =>
 (cond (!r1.1)
 (some ((-1), ()))
 (cond (decide (a2 < 0))
 (some ((-1), ()))
 (cond (decide (a2 ≥ a0.1))
 (some ((-1), ()))
 (ob (Ci a0 a1 a2) fun r2 =>
 (some (r2.1, ())))))))
def Lq (a0 : Db) (a1 : Int) : Option (Db × DB) :=
 (ob (Ua a0 56) fun r1 =>
 (ob (Ua r1.1 15) fun r2 =>
 (ob (Rk r2.1 2) fun r3 =>
 (cond r3.2.1
 (ob (Ua r3.1 (max 1 (wr .i64 (a1 - 1)))) fun r4 =>
 (ob (Ua r4.1 16) fun r5 =>
 (cond (r5.2.1 == 0)
 (some (r5.1, ((2, (wr .i64 (1 + r1.2.1)), 2, 0, ()), ())))
 (cond (r5.2.1 == 1)
 (some (r5.1, ((2, 0, 2, 0, ()), ())))
 (cond (r5.2.1 == 2)
 (some (r5.1, ((6, (wr .i64 (1 + r1.2.1)), 2, 0, ()), ())))
 (cond (r5.2.1 == 3)
 (some (r5.1, ((6, (wr .i64 (1 + r1.2.1)), 2, 0, ()), ())))
 (cond (r5.2.1 == 4)
 (some (r5.1, ((8, 0, 2, 0, ()), ())))
 (cond (r5.2.1 == 5)
 (ob (Ua r5.1 4) fun r6 =>
 (some (r6.1, ((9, 0, 0, r6.2.1, ()), ()))))
 (cond (r5.2.1 == 6)
 (some (r5.1, ((10, 0, 0, 0, ()), ())))
 (cond (r5.2.1 == 7)
 (ob (Ua r5.1 (max 1 a1)) fun r7 =>
 (some (r7.1, ((5, 0, 0, r7.2.1, ()), ()))))
 (cond (r5.2.1 == 8)
 (cond (decide (a1 > 1))
 (ob (Ua r5.1 3) fun r8 =>
 (cond (Kh (ln ([(3, 0, 0, (wr .i64 (1 + r4.2.1)), ()), (4, 0, 0, (wr .i64 (1 + r4.2.1)), ()), (7, (wr .i64 (1 + r1.2.1)), 0, (wr .i64 (1 + r4.2.1)), ())] : List Ga)) r8.2.1)
 (ob ([(3, 0, 0, (wr .i64 (1 + r4.2.1)), ()), (4, 0, 0, (wr .i64 (1 + r4.2.1)), ()), (7, (wr .i64 (1 + r1.2.1)), 0, (wr .i64 (1 + r4.2.1)), ())] : List Ga)[(tn r8.2.1)]? fun x9 =>
 (some (r8.1, (x9, ()))))
 none))
 (some (r5.1, ((2, (wr .i64 (1 + r1.2.1)), 0, 0, ()), ()))))
 (cond (r5.2.1 == 9)
 (cond (decide (a1 > 1))
 (ob (Ua r5.1 3) fun r10 =>
 (cond (Kh (ln ([(3, 0, 0, (wr .i64 (1 + r4.2.1)), ()), (4, 0, 0, (wr .i64 (1 + r4.2.1)), ()), (7, (wr .i64 (1 + r1.2.1)), 0, (wr .i64 (1 + r4.2.1)), ())] : List Ga)) r10.2.1)
 (ob ([(3, 0, 0, (wr .i64 (1 + r4.2.1)), ()), (4, 0, 0, (wr .i64 (1 + r4.2.1)), ()), (7, (wr .i64 (1 + r1.2.1)), 0, (wr .i64 (1 + r4.2.1)), ())] : List Ga)[(tn r10.2.1)]? fun x11 =>
 (some (r10.1, (x11, ()))))
 none))
 (some (r5.1, ((2, (wr .i64 (1 + r1.2.1)), 0, 0, ()), ()))))
 (cond (r5.2.1 == 10)
 (cond (decide (a1 > 1))
 (ob (Ua r5.1 3) fun r12 =>
 (cond (Kh (ln ([(3, 0, 0, (wr .i64 (1 + r4.2.1)), ()), (4, 0, 0, (wr .i64 (1 + r4.2.1)), ()), (7, (wr .i64 (1 + r1.2.1)), 0, (wr .i64 (1 + r4.2.1)), ())] : List Ga)) r12.2.1)
 (ob ([(3, 0, 0, (wr .i64 (1 + r4.2.1)), ()), (4, 0, 0, (wr .i64 (1 + r4.2.1)), ()), (7, (wr .i64 (1 + r1.2.1)), 0, (wr .i64 (1 + r4.2.1)), ())] : List Ga)[(tn r12.2.1)]? fun x13 =>
 (some (r12.1, (x13, ()))))
 none))
 (some (r5.1, ((2, (wr .i64 (1 + r1.2.1)), 0, 0, ()), ()))))
 (some (r5.1, ((2, (wr .i64 (1 + r1.2.1)), 0, 0, ()), ()))))))))))))))))
 (ob (Ua r3.1 (max 1 (wr .i64 (a1 - 1)))) fun r14 =>
 (ob (Ua r14.1 16) fun r15 =>
 (cond (r15.2.1 == 0)
 (some (r15.1, ((2, (wr .i64 (1 + r1.2.1)), (wr .i64 (1 + r2.2.1)), 0, ()), ())))
 (cond (r15.2.1 == 1)
 (some (r15.1, ((2, 0, (wr .i64 (1 + r2.2.1)), 0, ()), ())))
 (cond (r15.2.1 == 2)
 (some (r15.1, ((6, (wr .i64 (1 + r1.2.1)), (wr .i64 (1 + r2.2.1)), 0, ()), ())))
 (cond (r15.2.1 == 3)
 (some (r15.1, ((6, (wr .i64 (1 + r1.2.1)), (wr .i64 (1 + r2.2.1)), 0, ()), ())))
 (cond (r15.2.1 == 4)
 (some (r15.1, ((8, 0, (wr .i64 (1 + r2.2.1)), 0, ()), ())))
 (cond (r15.2.1 == 5)
 (ob (Ua r15.1 4) fun r16 =>
 (some (r16.1, ((9, 0, 0, r16.2.1, ()), ()))))
 (cond (r15.2.1 == 6)
 (some (r15.1, ((10, 0, 0, 0, ()), ())))
 (cond (r15.2.1 == 7)
 (ob (Ua r15.1 (max 1 a1)) fun r17 =>
 (some (r17.1, ((5, 0, 0, r17.2.1, ()), ()))))
 (cond (r15.2.1 == 8)
 (cond (decide (a1 > 1))
 (ob (Ua r15.1 3) fun r18 =>
 (cond (Kh (ln ([(3, 0, 0, (wr .i64 (1 + r14.2.1)), ()), (4, 0, 0, (wr .i64 (1 + r14.2.1)), ()), (7, (wr .i64 (1 + r1.2.1)), 0, (wr .i64 (1 + r14.2.1)), ())] : List Ga)) r18.2.1)
 (ob ([(3, 0, 0, (wr .i64 (1 + r14.2.1)), ()), (4, 0, 0, (wr .i64 (1 + r14.2.1)), ()), (7, (wr .i64 (1 + r1.2.1)), 0, (wr .i64 (1 + r14.2.1)), ())] : List Ga)[(tn r18.2.1)]? fun x19 =>
 (some (r18.1, (x19, ()))))
 none))
 (some (r15.1, ((2, (wr .i64 (1 + r1.2.1)), 0, 0, ()), ()))))
 (cond (r15.2.1 == 9)
 (cond (decide (a1 > 1))
 (ob (Ua r15.1 3) fun r20 =>
 (cond (Kh (ln ([(3, 0, 0, (wr .i64 (1 + r14.2.1)), ()), (4, 0, 0, (wr .i64 (1 + r14.2.1)), ()), (7, (wr .i64 (1 + r1.2.1)), 0, (wr .i64 (1 + r14.2.1)), ())] : List Ga)) r20.2.1)
 (ob ([(3, 0, 0, (wr .i64 (1 + r14.2.1)), ()), (4, 0, 0, (wr .i64 (1 + r14.2.1)), ()), (7, (wr .i64 (1 + r1.2.1)), 0, (wr .i64 (1 + r14.2.1)), ())] : List Ga)[(tn r20.2.1)]? fun x21 =>
 (some (r20.1, (x21, ()))))
 none))
 (some (r15.1, ((2, (wr .i64 (1 + r1.2.1)), 0, 0, ()), ()))))
 (cond (r15.2.1 == 10)
 (cond (decide (a1 > 1))
 (ob (Ua r15.1 3) fun r22 =>
 (cond (Kh (ln ([(3, 0, 0, (wr .i64 (1 + r14.2.1)), ()), (4, 0, 0, (wr .i64 (1 + r14.2.1)), ()), (7, (wr .i64 (1 + r1.2.1)), 0, (wr .i64 (1 + r14.2.1)), ())] : List Ga)) r22.2.1)
 (ob ([(3, 0, 0, (wr .i64 (1 + r14.2.1)), ()), (4, 0, 0, (wr .i64 (1 + r14.2.1)), ()), (7, (wr .i64 (1 + r1.2.1)), 0, (wr .i64 (1 + r14.2.1)), ())] : List Ga)[(tn r22.2.1)]? fun x23 =>
 (some (r22.1, (x23, ()))))
 none))
 (some (r15.1, ((2, (wr .i64 (1 + r1.2.1)), 0, 0, ()), ()))))
 (some (r15.1, ((2, (wr .i64 (1 + r1.2.1)), 0, 0, ()), ()))))))))))))))))))))
def Jp (t0 : Unit) (t1 : Int) (t4 : Unit) (t5 : Int) (t6 : Unit) (t7 : Int) (t8 : Zk) (t9 : Int) (b500000 : Db) (b4 : Ea) (b6 : Ea) : Option (KS ⊕ (((Unit × (Int × (Unit × (Int × (Unit × (Int × (Zk × Unit))))))) × At) ⊕ Ki)) :=
 (cond (decide (t9 < t1))
 (ob (Lq b500000 t5) fun r30 =>
 (cond (decide (t7 > 0))
 (ob (Rk r30.1 3) fun r31 =>
 (cond r31.2.1
 (cond (bl (ln t8 + ln ([(1, 0, 0, 0, ())] : List Ga)) Sb)
 (some (.inl (((), t1, (), t5, (), t7, (ap t8 ([(1, 0, 0, 0, ())] : List Ga)), (wr .i64 (t9 + 1)), ()), (r31.1, b4, b6, ()))))
 none)
 (cond (bl (ln t8 + ln ([r30.2.1] : List Ga)) Sb)
 (some (.inl (((), t1, (), t5, (), t7, (ap t8 ([r30.2.1] : List Ga)), (wr .i64 (t9 + 1)), ()), (r31.1, b4, b6, ()))))
 none)))
 (cond (bl (ln t8 + ln ([r30.2.1] : List Ga)) Sb)
 (some (.inl (((), t1, (), t5, (), t7, (ap t8 ([r30.2.1] : List Ga)), (wr .i64 (t9 + 1)), ()), (r30.1, b4, b6, ()))))
 none)))
 (some (.inr (.inl (((), t1, (), t5, (), t7, t8, ()), (b500000, b4, b6, ()))))))
def Cm := Yb fun x : KS => Jp x.1.1 x.1.2.1 x.1.2.2.1 x.1.2.2.2.1 x.1.2.2.2.2.1 x.1.2.2.2.2.2.1 x.1.2.2.2.2.2.2.1 x.1.2.2.2.2.2.2.2.1 x.2.1 x.2.2.1 x.2.2.2.1
def Ip (t0 : Unit) (t1 : Int) (t4 : Unit) (t5 : Int) (t6 : Unit) (t7 : Int) (b500000 : Db) (b4 : Ea) (b6 : Ea) : Option (((Unit × (Int × (Unit × MK))) × At) ⊕ ((LS × At) ⊕ Ki)) :=
 (cond (decide (t7 < t5))
 (ob (Cm (((), t1, (), t5, (), t7, [], 0, ()), (b500000, b4, b6, ()))) (se (fun y32 => (cond (bl (ln y32.2.2.2.1.2.1 + ln ([y32.1.2.2.2.2.2.2.1] : List Zk)) Sb)
 (some (.inl (((), y32.1.2.1, (), y32.1.2.2.2.1, (), (wr .i64 (y32.1.2.2.2.2.2.1 + 1)), ()), (y32.2.1, y32.2.2.1, (y32.2.2.2.1.1, (ap y32.2.2.2.1.2.1 ([y32.1.2.2.2.2.2.2.1] : List Zk)), ()), ()))))
 none)) (fun z33 => (some (.inr (.inr ((), ())))))))
 (some (.inr (.inl (((), (), (), ()), (b500000, b4, b6, ()))))))
def Bm := Yb fun x : ((Unit × (Int × (Unit × MK))) × At) => Ip x.1.1 x.1.2.1 x.1.2.2.1 x.1.2.2.2.1 x.1.2.2.2.2.1 x.1.2.2.2.2.2.1 x.2.1 x.2.2.1 x.2.2.2.1
def Mq (a0 : Db) (a1 : Int) : Option (Db × Fh) :=
 (ob (Ua a0 4) fun r1 =>
 (ob (Bm (((), a1, (), (wr .i64 (1 + r1.2.1)), (), 0, ()), (r1.1, (0, [], ()), (a1, [], ()), ()))) (se (fun y34 => (some (y34.2.1, (y34.2.2.2.1, ())))) (fun z35 => none))))
def Eo (t0 : Unit) (t1 : Int) (t4 : Unit) (t5 : Unit) (t6 : Int) (b500000 : Db) (b4 : Ea) (b5 : Ea) : Option (((Unit × (Int × ES)) × At) ⊕ ((LS × At) ⊕ Ki)) :=
 (cond (decide (t6 > 0))
 (ob (Ua b500000 ((ln b5.2.1 : Nat) : Int)) fun r15 =>
 (ob (Ua r15.1 t1) fun r16 =>
 (cond (decide (((ln b5.2.1 : Nat) : Int) > 1))
 (cond (Kh (ln b5.2.1) r15.2.1)
 (ob b5.2.1[(tn r15.2.1)]? fun x17 =>
 (ob (Lm r16.1 ([4, 5, 3] : List Int)) fun r18 =>
 (ob (Ua r18.1 (wr .i64 (((ln b5.2.1 : Nat) : Int) - 1))) fun r19 =>
 (cond (Kh (ln x17) r16.2.1)
 (ob x17[(tn r16.2.1)]? fun x20 =>
 (some (.inl (((), t1, (), (), (wr .i64 (t6 - 1)), ()), (r19.1, b4, (b5.1, (ls b5.2.1 (tn r15.2.1) (ls x17 (tn r16.2.1) (r18.2.1, 0, 0, (wr .i64 (1 + r19.2.1)), ()))), ()), ())))))
 none))))
 none)
 (some (.inl (((), t1, (), (), (wr .i64 (t6 - 1)), ()), (r16.1, b4, b5, ())))))))
 (some (.inr (.inl (((), (), (), ()), (b500000, b4, b5, ()))))))
def Yk := Yb fun x : ((Unit × (Int × ES)) × At) => Eo x.1.1 x.1.2.1 x.1.2.2.1 x.1.2.2.2.1 x.1.2.2.2.2.1 x.2.1 x.2.2.1 x.2.2.2.1
def Hp (a0 : Db) (a1 : Int) : Option (Db × Fh) :=
 (ob (Mq a0 a1) fun r1 =>
 (ob (Ua r1.1 6) fun r2 =>
 (ob (Yk (((), a1, (), (), r2.2.1, ()), (r2.1, (0, [], ()), r1.2.1, ()))) (se (fun y21 => (some (y21.2.1, (y21.2.2.2.1, ())))) (fun z22 => none)))))
def To (a0 : Mb) (a1 : Int) (a2 : Bool) : Option IS :=
 (ob (Rg a0) fun r1 =>
 (cond (!r1.1)
 (some (Pj, [], false, ()))
 (cond (decide (a1 < 0))
 (some (Pj, [], false, ()))
 (cond (decide (a1 ≥ a0.1.1))
 (some (Pj, [], false, ()))
 (ob (Zm a0 a1) fun r2 =>
 (cond (decide (r2.1 ≥ 0))
 (some (Pj, [], false, ()))
 (ob (Qr a0 a1 a2) fun r3 =>
 (some (r3.1, r3.2.1, true, ())))))))))
def Zj (t4 : Unit) (t7 : Unit) (t8 : Zu) (t20 : Yc) (t21 : Int) (t22 : Int) (b4 : Mb) (b7 : Mb) : Option (((Unit × (Unit × (Zu × Yu))) × LK) ⊕ (((Unit × (Unit × Ay)) × LK) ⊕ ((Unit × (Zu × Mf)) × No))) :=
 (cond (decide (t22 < t21))
 (ob (Zd t20 t22) fun x12 =>
 (ob (To b7 x12 false) fun r13 =>
 (cond (!r13.2.2.1)
 (some (.inr (.inr (((), [], false, ()), (Pj, ())))))
 (cond (bl (ln t8 + ln r13.2.1) Sb)
 (ob (Wo r13.1 x12) fun r14 =>
 (cond (bl (ln (ap t8 r13.2.1) + ln r14.2.1) Sb)
 (some (.inl (((), (), (ap (ap t8 r13.2.1) r14.2.1), t20, t21, (wr .i64 (t22 + 1)), ()), (b4, r14.1, ()))))
 none))
 none))))
 (some (.inr (.inl (((), (), t8, ()), (b4, b7, ()))))))
def Wk := Yb fun x : ((Unit × (Unit × (Zu × Yu))) × LK) => Zj x.1.1 x.1.2.1 x.1.2.2.1 x.1.2.2.2.1 x.1.2.2.2.2.1 x.1.2.2.2.2.2.1 x.2.1 x.2.2.1
def Uo (a0 : Mb) (a1 : Yc) : Option IS :=
 (ob (Rg a0) fun r1 =>
 (cond (!r1.1)
 (some (Pj, [], false, ()))
 (ob (Pg a0) fun r2 =>
 (ob (Wk (((), (), [], a1, ((ln a1 : Nat) : Int), 0, ()), (Pj, r2.1, ()))) (se (fun y15 => (some (y15.2.2.1, y15.1.2.2.1, true, ()))) (fun z16 => (some (z16.2.1, z16.1.2.1, z16.1.2.2.1, ()))))))))
def Hi (a0 : Yc) (a1 : Int) (a2 : Int) : Option Zi :=
 (ob (Gn a0 a1) fun r1 =>
 (ob (Ua r1 a2) fun r2 =>
 (some (r2.2.1, ()))))
def Pn (t2 : Unit) (t5 : Oo) (t6 : Yc) (t7 : Int) (t26 : Int) (t27 : Int) (b2 : Ea) : Option (((Unit × (Oo × (Yc × Id))) × Fh) ⊕ (NK ⊕ Ki)) :=
 (cond (decide (t27 < t26))
 (ob (Ci b2 t7 t27) fun r24 =>
 (cond (!(Tb t5 r24.1).isSome)
 (ob (Uf ((Tb t5 t7).getD [])) fun r25 =>
 (cond (bl (ln r25.1 + ln ([t27] : List Int)) Sb)
 (cond (bl (ln t6 + ln ([r24.1] : List Int)) Sb)
 (some (.inl (((), (Dp t5 r24.1 (ap r25.1 ([t27] : List Int))), (ap t6 ([r24.1] : List Int)), t7, t26, (wr .i64 (t27 + 1)), ()), (b2, ()))))
 none)
 none))
 (some (.inl (((), t5, t6, t7, t26, (wr .i64 (t27 + 1)), ()), (b2, ()))))))
 (some (.inr (.inl (((), t5, t6, ()), (b2, ()))))))
def Ck := Yb fun x : ((Unit × (Oo × (Yc × Id))) × Fh) => Pn x.1.1 x.1.2.1 x.1.2.2.1 x.1.2.2.2.1 x.1.2.2.2.2.1 x.1.2.2.2.2.2.1 x.2.1
def Ir (t2 : Unit) (t5 : Oo) (t6 : Yc) (b2 : Ea) : Option (NK ⊕ (((Oo × Unit) × Unit) ⊕ Ki)) :=
 (cond (decide (((ln t6 : Nat) : Int) > 0))
 (cond (Kh (ln t6) 0)
 (ob t6[(tn 0)]? fun x19 =>
 (cond (He (ln t6) 1 ((ln t6 : Nat) : Int))
 (ob (Ck (((), t5, (Uc t6 (tn 1) (tn ((ln t6 : Nat) : Int))), x19, b2.1, 0, ()), (b2, ()))) (se (fun y26 => (some (.inl (((), y26.1.2.1, y26.1.2.2.1, ()), (y26.2.1, ()))))) (fun z27 => (some (.inr (.inr ((), ())))))))
 none))
 none)
 (some (.inr (.inl ((t5, ()), ())))))
def Jh := Yb fun x : NK => Ir x.1.1 x.1.2.1 x.1.2.2.1 x.2.1
def Tq (a0 : Ea) (a1 : Int) : Option (Oo × Unit) :=
 (ob (Jh (((), (Dp ([] : Oo) a1 []), ([a1] : List Int), ()), (a0, ()))) (se (fun y28 => (some (y28.1.1, ()))) (fun z29 => none)))
def Vo (a0 : Ea) (a1 : Int) (a2 : Int) : Option (Yc × Mf) :=
 (ob (Nf a0 a1) fun r1 =>
 (cond (!r1.1)
 (some ([], false, ()))
 (ob (Nf a0 a2) fun r2 =>
 (cond (!r2.1)
 (some ([], false, ()))
 (ob (Tq a0 a1) fun r3 =>
 (some (((Tb r3.1 a2).getD []), (Tb r3.1 a2).isSome, ())))))))
def Ng (t5 : Oo) (t6 : Yc) (t17 : Int) : Option (((Oo × LF) × Unit) ⊕ ((Zs × Unit) ⊕ Ki)) :=
 (cond (decide (t17 < 16))
 (cond (Tb t5 t17).isSome
 (cond (bl (ln t6 + ln ([t17] : List Int)) Sb)
 (some (.inl ((t5, (ap t6 ([t17] : List Int)), (wr .i64 (t17 + 1)), ()), ())))
 none)
 (some (.inl ((t5, t6, (wr .i64 (t17 + 1)), ()), ()))))
 (some (.inr (.inl ((t6, ()), ())))))
def Hh := Yb fun x : ((Oo × LF) × Unit) => Ng x.1.1 x.1.2.1 x.1.2.2.1
def Vi (a0 : Ea) (a1 : Int) : Option Zs :=
 (ob (Nf a0 a1) fun r1 =>
 (cond (!r1.1)
 (some ([], ()))
 (ob (Tq a0 a1) fun r2 =>
 (ob (Hh ((r2.1, [], 0, ()), ())) (se (fun y3 => (some (y3.1.1, ()))) (fun z4 => none))))))
def Gi (a0 : Yc) (a1 : Int) (a2 : Int) : Option Fh :=
 (ob (Gn a0 a1) fun r1 =>
 (ob (Hp r1 a2) fun r2 =>
 (some (r2.2.1, ()))))
def Yo (t0 : Yc) (t1 : Int) (t5 : Int) : Option ((Yu × Unit) ⊕ BB) :=
 (cond (decide (t5 < ((ln t0 : Nat) : Int)))
 (ob (Zd t0 t5) fun x3 =>
 (cond (x3 == t1)
 (some (.inr (.inr ((true, ()), ()))))
 (some (.inl ((t0, t1, (wr .i64 (t5 + 1)), ()), ())))))
 (some (.inr (.inl ((), ())))))
def Zo := Yb fun x : (Yu × Unit) => Yo x.1.1 x.1.2.1 x.1.2.2.1
def Yp (a0 : Yc) (a1 : Int) : Option Mf :=
 (ob (Zo ((a0, a1, 0, ()), ())) (se (fun y4 => (some (false, ()))) (fun z5 => (some (z5.1.1, ())))))
def Yn (t3 : Unit) (t4 : Int) (t5 : Int) (t6 : Yc) (t7 : Bool) (t8 : Yc) (t9 : Int) (t10 : Yc) (t11 : Bool) (t12 : Int) (b3 : Ea) : Option (GS ⊕ (KK ⊕ Mr)) :=
 (cond (decide (t12 < b3.1))
 (cond (Kh (ln t8) t9)
 (ob t8[(tn t9)]? fun x45 =>
 (ob (Xh b3 x45 t12) fun r46 =>
 (cond (!t11)
 (some (.inr (.inr ((false, ()), ()))))
 (ob (Yp t8 r46.1) fun r47 =>
 (cond (!r47.1)
 (some (.inr (.inr ((false, ()), ()))))
 (cond t7
 (cond (r46.1 == t5)
 (cond (decide (((ln t6 : Nat) : Int) > (wr .i64 (((ln t10 : Nat) : Int) + 1))))
 (some (.inr (.inr ((false, ()), ()))))
 (some (.inl (((), t4, t5, t6, t7, t8, t9, t10, t11, (wr .i64 (t12 + 1)), ()), (b3, ())))))
 (some (.inl (((), t4, t5, t6, t7, t8, t9, t10, t11, (wr .i64 (t12 + 1)), ()), (b3, ())))))
 (some (.inl (((), t4, t5, t6, t7, t8, t9, t10, t11, (wr .i64 (t12 + 1)), ()), (b3, ()))))))))))
 none)
 (some (.inr (.inl (((), t4, t5, t6, t7, t8, t9, ()), (b3, ()))))))
def Qh := Yb fun x : GS => Yn x.1.1 x.1.2.1 x.1.2.2.1 x.1.2.2.2.1 x.1.2.2.2.2.1 x.1.2.2.2.2.2.1 x.1.2.2.2.2.2.2.1 x.1.2.2.2.2.2.2.2.1 x.1.2.2.2.2.2.2.2.2.1 x.1.2.2.2.2.2.2.2.2.2.1 x.2.1
def Xn (t3 : Unit) (t4 : Int) (t5 : Int) (t6 : Yc) (t7 : Bool) (t8 : Yc) (t9 : Int) (b3 : Ea) : Option (KK ⊕ (((Unit × (Int × (Int × (Yc × Mf)))) × Fh) ⊕ Mr)) :=
 (cond (decide (t9 < ((ln t8 : Nat) : Int)))
 (cond (Kh (ln t8) t9)
 (ob t8[(tn t9)]? fun x37 =>
 (ob (Vo b3 t4 x37) fun r38 =>
 (ob (Qh (((), t4, t5, t6, t7, t8, t9, r38.1, r38.2.1, 0, ()), (b3, ()))) (se (fun y48 => (some (.inl (((), y48.1.2.1, y48.1.2.2.1, y48.1.2.2.2.1, y48.1.2.2.2.2.1, y48.1.2.2.2.2.2.1, (wr .i64 (y48.1.2.2.2.2.2.2.1 + 1)), ()), (y48.2.1, ()))))) (fun z49 => (some (.inr (.inr ((z49.1.1, ()), ())))))))))
 none)
 (some (.inr (.inl (((), t4, t5, t6, t7, ()), (b3, ()))))))
def Ph := Yb fun x : KK => Xn x.1.1 x.1.2.1 x.1.2.2.1 x.1.2.2.2.1 x.1.2.2.2.2.1 x.1.2.2.2.2.2.1 x.1.2.2.2.2.2.2.1 x.2.1
def Zn (t3 : Unit) (t5 : Int) (t6 : Yc) (t7 : Bool) (t15 : Bool) (t16 : Unit) (t18 : Bool) (t19 : Int) (t20 : Int) (b3 : Ea) (b16 : Mb) : Option (HS ⊕ (((Int × (Bool × (Bool × (Unit × (Bool × Zi))))) × No) ⊕ Ki)) :=
 (cond (decide (t20 < ((ln t6 : Nat) : Int)))
 (ob (Zd t6 t20) fun x58 =>
 (ob (Xh b3 t19 x58) fun r59 =>
 (some (.inl (((), t5, t6, t7, t15, (), t18, r59.1, (wr .i64 (t20 + 1)), ()), (b3, b16, ()))))))
 (some (.inr (.inl ((t5, t7, t15, (), t18, t19, ()), (b16, ()))))))
def Af := Yb fun x : HS => Zn x.1.1 x.1.2.1 x.1.2.2.1 x.1.2.2.2.1 x.1.2.2.2.2.1 x.1.2.2.2.2.2.1 x.1.2.2.2.2.2.2.1 x.1.2.2.2.2.2.2.2.1 x.1.2.2.2.2.2.2.2.2.1 x.2.1 x.2.2.1
def Bn (a0 : Yc) : Option Mf :=
 (ob (Xp a0) fun r1 =>
 (cond r1.1
 (some (true, ()))
 (ob (Gi a0 150 4) fun r2 =>
 (cond (decide (0 ≤ ((ln r2.1.2.1 : Nat) : Int)))
 (cond ((2 : Int) == 0)
 none
 (ob (Hi a0 151 (wr .i64 (Int.tdiv (Qe .i64 1 ((ln r2.1.2.1 : Nat) : Int)) 2))) fun r3 =>
 (cond (decide (0 ≤ ((ln r2.1.2.1 : Nat) : Int)))
 (cond ((2 : Int) == 0)
 none
 (ob (Hi a0 152 (wr .i64 (Int.tdiv (Qe .i64 1 ((ln r2.1.2.1 : Nat) : Int)) 2))) fun r4 =>
 (ob (Vo r2.1 (wr .i64 (2 * r3.1)) (wr .i64 (2 * r4.1))) fun r5 =>
 (ob (Vi r2.1 (wr .i64 (2 * r3.1))) fun r6 =>
 (ob (Nf r2.1 (wr .i64 (2 * r3.1))) fun r7 =>
 (cond (!r7.1)
 (some (false, ()))
 (ob (Nf r2.1 (wr .i64 (2 * r4.1))) fun r8 =>
 (cond (!r8.1)
 (some (false, ()))
 (ob (Yp r6.1 (wr .i64 (2 * r4.1))) fun r9 =>
 (cond (r5.2.1 != r9.1)
 (some (false, ()))
 (ob (Yp r6.1 (wr .i64 (2 * r3.1))) fun r10 =>
 (cond (!r10.1)
 (some (false, ()))
 (ob (Ph (((), (wr .i64 (2 * r3.1)), (wr .i64 (2 * r4.1)), r5.1, r5.2.1, r6.1, 0, ()), (r2.1, ()))) (se (fun y50 => (ob (Gm y50.2.1 []) fun r52 =>
 (ob (Uo (r52.1.1, r52.1.2.1, y50.1.2.1, r52.1.2.2.2) y50.1.2.2.2.1) fun r53 =>
 (ob (Af (((), y50.1.2.2.1, y50.1.2.2.2.1, y50.1.2.2.2.2.1, r52.2.1, (), r53.2.2.1, y50.1.2.1, 0, ()), (y50.2.1, r53.1, ()))) (se (fun y60 => (cond y60.1.2.2.1
 (cond y60.1.2.2.2.2.1
 (cond (!y60.1.2.1)
 (some (true, ()))
 (cond (y60.2.1.2.2.1 == y60.1.1)
 (some ((y60.1.2.2.2.2.2.1 == y60.1.1), ()))
 (some (false, ()))))
 (some (false, ())))
 (some (false, ())))) (fun z61 => none)))))) (fun z51 => (some (z51.1.1, ())))))))))))))))))
 none)))
 none))))
end

def Ab (k c m n : Int) : Prop :=
 ((k = 0 ∨ k = 1 ∨ k = 10) ∧ c = 0 ∧ m = 0 ∧ n = 0) ∨
 (k = 2 ∧ n = 0 ∧ (c = 0 ∨ 1 ≤ c ∧ c ≤ 56) ∧ (m = 0 ∨ 1 ≤ m ∧ m ≤ 15) ∧ (c ≠ 0 ∨ m ≠ 0)) ∨
 ((k = 3 ∨ k = 4) ∧ c = 0 ∧ m = 0 ∧ 1 ≤ n ∧ n ≤ 3) ∨
 ((k = 5 ∨ k = 9) ∧ c = 0 ∧ m = 0 ∧ 0 ≤ n ∧ n ≤ 3) ∨
 (k = 6 ∧ 1 ≤ c ∧ c ≤ 56 ∧ 1 ≤ m ∧ m ≤ 15 ∧ n = 0) ∨
 (k = 7 ∧ 1 ≤ c ∧ c ≤ 56 ∧ m = 0 ∧ 1 ≤ n ∧ n ≤ 3) ∨
 (k = 8 ∧ c = 0 ∧ 1 ≤ m ∧ m ≤ 15 ∧ n = 0)
noncomputable def Cc (a : Ga) : Bool := open Classical in decide (Ab a.1 a.2.1 a.2.2.1 a.2.2.2.1)
theorem Va (a : Ga) : Cc a = true ↔ Ab a.1 a.2.1 a.2.2.1 a.2.2.2.1 := by simp [Cc]
theorem Nu (c : Int) : Nk c = some (decide (1 ≤ c ∧ c ≤ 56), ()) := by
 simp only [Nk, Qj, Rj]
 apply Ac; simp only [Lc, decide_eq_true_eq, Ev, Fv, jq, and_false, false_and, or_false, false_or, and_true, true_and, not_true_eq_false, not_false_eq_true]; try omega
theorem Ou (c : Int) : Oi c = some (decide (1 ≤ c ∧ c ≤ 15), ()) := by
 simp only [Oi, Qj, Rj]
 apply Ac; simp only [Lc, decide_eq_true_eq, Ev, Fv, jq, and_false, false_and, or_false, false_or, and_true, true_and, not_true_eq_false, not_false_eq_true]; try omega
theorem Ft (c : Int) : Ij c = some (decide (1 ≤ c ∧ c ≤ 3), ()) := by
 simp only [Ij, Qj, Rj]
 apply Ac; simp only [Lc, decide_eq_true_eq, Ev, Fv, jq, and_false, false_and, or_false, false_or, and_true, true_and, not_true_eq_false, not_false_eq_true]; try omega
theorem Nj (c a b : Int) : Xf c a b = some (decide (a ≤ c ∧ c ≤ b), ()) := by
 simp only [Xf, Qj, Rj]
 apply Ac; simp only [Lc, decide_eq_true_eq, Ev, Fv, jq, and_false, false_and, or_false, false_or, and_true, true_and, not_true_eq_false, not_false_eq_true]; try omega
theorem Wj (a : Ga) : Tf a = some (Cc a, ()) := by
 obtain ⟨k, c, m, n, u⟩ := a
 have key : ∀ k c m n : Int, Tf (k, c, m, n, u) = some (Cc (k, c, m, n, u), ()) := by
  intro k c m n
  simp only [Tf, Nu, Ou, Ft, Nj, jb, Qj, Rj]
  by_cases h0 : k = 0
  ·subst h0; apply Ac; rw [Va]; simp [Ab, Lc]; try omega
  by_cases h1 : k = 1
  ·subst h1; apply Ac; rw [Va]; simp [Ab, Lc]; try omega
  by_cases h2 : k = 2
  ·subst h2; apply Ac; rw [Va]; simp [Ab, Lc]; intro hn; (repeat' split) <;> omega
  by_cases h3 : k = 3
  ·subst h3; apply Ac; rw [Va]; simp [Ab, Lc]; try omega
  by_cases h4 : k = 4
  ·subst h4; apply Ac; rw [Va]; simp [Ab, Lc]; try omega
  by_cases h5 : k = 5
  ·subst h5; apply Ac; rw [Va]; simp [Ab, Lc]; try omega
  by_cases h6 : k = 6
  ·subst h6; apply Ac; rw [Va]; simp [Ab, Lc]; try omega
  by_cases h7 : k = 7
  ·subst h7; apply Ac; rw [Va]; simp [Ab, Lc]; try omega
  by_cases h8 : k = 8
  ·subst h8; apply Ac; rw [Va]; simp [Ab, Lc]; try omega
  by_cases h9 : k = 9
  ·subst h9; apply Ac; rw [Va]; simp [Ab, Lc]; try omega
  by_cases h10 : k = 10
  ·subst h10; apply Ac; rw [Va]; simp [Ab, Lc]; try omega
  have g : ∀ j : Int, (k == j) = decide (k = j) := fun j => by rw [qp]; simp
  apply Ac; rw [Va]; simp [Ab, Lc, h0, h1, h2, h3, h4, h5, h6, h7, h8, h9, h10]
 exact key k c m n
theorem NA (a : Ga) : Sn a = some (Cc a, ()) := by
 obtain ⟨k, c, m, n, u⟩ := a
 have key : ∀ k c m n : Int, Sn (k, c, m, n, u) = some (Cc (k, c, m, n, u), ()) := by
  intro k c m n
  simp only [Sn, Nu, Ou, Ft, Nj, jb, Qj, Rj]
  by_cases h0 : k = 0
  ·subst h0; apply Ac; rw [Va]; simp [Ab, Lc]; try omega
  by_cases h1 : k = 1
  ·subst h1; apply Ac; rw [Va]; simp [Ab, Lc]; try omega
  by_cases h2 : k = 2
  ·subst h2; apply Ac; rw [Va]; simp [Ab, Lc]; intro hn; (repeat' split) <;> omega
  by_cases h3 : k = 3
  ·subst h3; apply Ac; rw [Va]; simp [Ab, Lc]; try omega
  by_cases h4 : k = 4
  ·subst h4; apply Ac; rw [Va]; simp [Ab, Lc]; try omega
  by_cases h5 : k = 5
  ·subst h5; apply Ac; rw [Va]; simp [Ab, Lc]; try omega
  by_cases h6 : k = 6
  ·subst h6; apply Ac; rw [Va]; simp [Ab, Lc]; try omega
  by_cases h7 : k = 7
  ·subst h7; apply Ac; rw [Va]; simp [Ab, Lc]; try omega
  by_cases h8 : k = 8
  ·subst h8; apply Ac; rw [Va]; simp [Ab, Lc]; try omega
  by_cases h9 : k = 9
  ·subst h9; apply Ac; rw [Va]; simp [Ab, Lc]; try omega
  by_cases h10 : k = 10
  ·subst h10; apply Ac; rw [Va]; simp [Ab, Lc]; try omega
  have g : ∀ j : Int, (k == j) = decide (k = j) := fun j => by rw [qp]; simp
  apply Ac; rw [Va]; simp [Ab, Lc, h0, h1, h2, h3, h4, h5, h6, h7, h8, h9, h10]
 exact key k c m n
noncomputable def Td (nl : Nat) (i : Nat) (a : Ga) : Bool := Cc a && !(((i : Int) == 0) && (a.1 == 1)) && !((a.1 != 9) && decide (a.2.2.2.1 ≥ (nl : Int)))
noncomputable def Vd (keys : Int) (nl : Nat) (i : Nat) (l : List Ga) : Bool := ((ja l : Int) == keys) && Ld (fun _ a => Td nl i a) 0 l
noncomputable def Kc (m : Ea) : Bool :=
 decide (1 ≤ m.1 ∧ m.1 ≤ 32) && decide (1 ≤ m.2.1.length ∧ m.2.1.length ≤ 4) && Ld (fun i l => Vd m.1 m.2.1.length i l) 0 m.2.1
theorem Xz (m : Ea) (i : Nat) (l : List Ga) (L : List (List Ga)) (n : Int) (t : Int) (hl : l.length < 9223372036854775807) :
 Xg (((), (i : Int), L, n, t, l, (l.length : Int), (0 : Int), ()), (m, ())) =
  some (cond (Ld (fun _ a => Td m.2.1.length i a) 0 l) (.inl (((), L, n, t, ()), (m, ()))) (.inr ((false, ()), ()))) := by
 unfold Xg
 refine Ei (step := _) l (fun _ a => Td m.2.1.length i a) (fun j => (((), (i : Int), L, n, t, l, (l.length : Int), j, ()), (m, ()))) _ _ ?_ ?_ hl
 ·intro k hk
  simp only [Pm]
  rw [Ja (show (k : Int) < (l.length : Int) by omega), Yd hk]
  simp only [cond_true, jb, Td, Wj]
  cases Cc l[k] <;> cases ((i : Int) == 0) <;> cases (l[k].1 == 1) <;> cases (l[k].1 != 9) <;> cases decide (l[k].2.2.2.1 ≥ (m.2.1.length : Int)) <;> rfl
 ·simp [Pm]
theorem Cs (m : Ea) (hz : Oc Sa m ≤ Bb) : Kk m = some (Kc m, ()) := by
 have h20 : Bb = 1048576 := rfl
 have hz' : m.2.1.length + (List.map (Oc (.sl Vc)) m.2.1).sum ≤ Bb := by
  have : Oc Sa m = Oc (.sl (.sl Vc)) m.2.1 := by simp only [Oc, Nat.add_zero, js]
  rw [this] at hz; exact hz
 have hl : ∀ k (hk : k < m.2.1.length), m.2.1[k].length ≤ Bb := by
  intro k hk
  have := Kp (f := Oc (.sl Vc)) hk
  have h2 : m.2.1[k].length ≤ Oc (.sl Vc) m.2.1[k] := Nat.le_add_right _ _
  omega
 have hloop : Wg (((), m.2.1, ((ja m.2.1 : Nat) : Int), (0 : Int), ()), (m, ())) =
  some (cond (Ld (fun i l => Vd m.1 m.2.1.length i l) 0 m.2.1) (.inl ((), ())) (.inr ((false, ()), ()))) := by
  unfold Wg
  refine Ei (step := _) m.2.1 (fun i l => Vd m.1 m.2.1.length i l) (fun j => (((), m.2.1, ((ja m.2.1 : Nat) : Int), j, ()), (m, ()))) _ _ ?_ ?_ (by omega)
  ·intro k hk
   have := hl k hk
   simp only [Om]
   rw [Ja (show (k : Int) < (m.2.1.length : Int) by omega), Yd hk]
   simp only [cond_true, jb, Vd]
   rw [Xz m k _ _ _ _ (by omega)]
   show (cond (!((m.2.1[k].length : Int) == m.1)) _ _) = _
   cases ((m.2.1[k].length : Int) == m.1) <;> cases Ld (fun _ a => Td m.2.1.length k a) 0 m.2.1[k] <;> rfl
  ·simp [Om]
 unfold Kk
 rw [hloop]
 simp only [jb, AE, Qj, Rj]
 apply Ac
 simp only [Lc, Kc, jd, decide_eq_true_eq, jq, and_false, false_or, and_true, or_false]
 generalize Ld (fun i l => Vd m.1 m.2.1.length i l) 0 m.2.1 = b
 constructor
 ·rintro ⟨h1, h2, h3, h4, h5⟩; exact ⟨⟨by omega, by omega⟩, h5⟩
 ·rintro ⟨⟨h1, h2⟩, h5⟩; exact ⟨by omega, by omega, by omega, by omega, h5⟩
theorem OA (m : Ea) (i : Nat) (hi : i < m.2.1.length) (hl : m.2.1[i].length < 9223372036854775807) :
 Hk (((), (i : Int), (0 : Int), ()), (m, ())) =
  some (cond (Ld (fun _ a => Td m.2.1.length i a) 0 m.2.1[i]) (.inl (((), (i : Int), ()), (m, ()))) (.inr ((false, ()), ()))) := by
 unfold Hk
 refine Ei (step := _) m.2.1[i] (fun _ a => Td m.2.1.length i a) (fun j => (((), (i : Int), j, ()), (m, ()))) _ _ ?_ ?_ hl
 ·intro k hk
  simp only [Sm]
  rw [Yd hi]
  simp only [jb]
  rw [Ja (show (k : Int) < (m.2.1[i].length : Int) by omega), Yd hk]
  simp only [cond_true, jb, Td, NA]
  cases Cc m.2.1[i][k] <;> cases ((i : Int) == 0) <;> cases (m.2.1[i][k].1 == 1) <;> cases (m.2.1[i][k].1 != 9) <;> cases decide (m.2.1[i][k].2.2.2.1 ≥ (m.2.1.length : Int)) <;> rfl
 ·simp [Sm, Yd hi]
theorem Us (m : Ea) (hz : Oc Sa m ≤ Bb) : Tn m = some (Kc m, ()) := by
 have h20 : Bb = 1048576 := rfl
 have hz' : m.2.1.length + (List.map (Oc (.sl Vc)) m.2.1).sum ≤ Bb := by
  have : Oc Sa m = Oc (.sl (.sl Vc)) m.2.1 := by simp only [Oc, Nat.add_zero, js]
  rw [this] at hz; exact hz
 have hl : ∀ k (hk : k < m.2.1.length), m.2.1[k].length ≤ Bb := by
  intro k hk
  have := Kp (f := Oc (.sl Vc)) hk
  have h2 : m.2.1[k].length ≤ Oc (.sl Vc) m.2.1[k] := Nat.le_add_right _ _
  omega
 have hloop : Gk (((), (0 : Int), ()), (m, ())) =
  some (cond (Ld (fun i l => Vd m.1 m.2.1.length i l) 0 m.2.1) (.inl (((), ()), (m, ()))) (.inr ((false, ()), ()))) := by
  unfold Gk
  refine Ei (step := _) m.2.1 (fun i l => Vd m.1 m.2.1.length i l) (fun j => (((), j, ()), (m, ()))) _ _ ?_ ?_ (by omega)
  ·intro k hk
   have := hl k hk
   simp only [Rm]
   rw [Ja (show (k : Int) < (m.2.1.length : Int) by omega), Yd hk]
   simp only [cond_true, jb, Vd]
   rw [OA m k hk (by omega)]
   show (cond (!((m.2.1[k].length : Int) == m.1)) _ _) = _
   cases ((m.2.1[k].length : Int) == m.1) <;> cases Ld (fun _ a => Td m.2.1.length k a) 0 m.2.1[k] <;> rfl
  ·simp [Rm]
 unfold Tn
 rw [hloop]
 simp only [jb, AE, Qj, Rj, Nj]
 apply Ac
 simp only [Lc, Kc, jd, decide_eq_true_eq, jq, and_false, false_or, and_true, or_false]
 generalize Ld (fun i l => Vd m.1 m.2.1.length i l) 0 m.2.1 = b
 constructor
 ·rintro ⟨h1, h2, h3⟩; exact ⟨⟨by omega, by omega⟩, h1⟩
 ·rintro ⟨⟨h1, h2⟩, h5⟩; exact ⟨h5, by omega, by omega⟩
theorem OD {n : Nat} (h : n ≤ 62) : Qe .i64 1 (n : Int) = ((2 ^ n : Nat) : Int) := by
 unfold Qe
 have h1 : min (jy (n : Int)) (IntKind.bits .i64) = n := by
  show min (jy (n : Int)) 64 = n
  rw [jn]; omega
 rw [h1, Int.one_mul]
 have h2 : (2 : Int) ^ n = ((2 ^ n : Nat) : Int) := by simp
 have h3 : 2 ^ n ≤ 2 ^ 62 := qk (by omega) h
 rw [h2]
 clear h1 h2
 generalize 2 ^ n = z at h3
 rw [Qd (by omega) (by omega)]
structure Vn (m : Ea) : Prop where
 k1 : 1 ≤ m.1
 k2 : m.1 ≤ 32
 l1 : 1 ≤ m.2.1.length
 l2 : m.2.1.length ≤ 4
 row : ∀ i (h : i < m.2.1.length), (m.2.1[i].length : Int) = m.1
 act : ∀ i (h : i < m.2.1.length) k (hk : k < m.2.1[i].length), Td m.2.1.length i m.2.1[i][k] = true
theorem Re {m : Ea} (h : Kc m = true) : Vn m := by
 simp only [Kc, jd, decide_eq_true_eq] at h
 obtain ⟨⟨h1, h2⟩, h3⟩ := h
 rw [Wh] at h3
 refine ⟨h1.1, h1.2, h2.1, h2.2, fun i hi => ?_, fun i hi k hk => ?_⟩
 ·have := h3 i hi
  simp only [js, Vd, jd, beq_iff_eq] at this
  exact this.1
 ·have := h3 i hi
  simp only [js, Vd, jd, beq_iff_eq] at this
  have := Wh.1 this.2 k hk
  simpa using this
theorem Ks {nl i : Nat} {a : Ga} (h : Td nl i a = true) : Cc a = true := by
 simp only [Td, jd] at h
 exact h.1.1
theorem HD {nl i : Nat} {a : Ga} (h : Td nl i a = true) (hk : a.1 ≠ 9) : a.2.2.2.1 < (nl : Int) := by
 simp only [Td, jd, Bool.not_eq_true', Bool.and_eq_false_iff] at h
 rcases h.2 with h | h
 ·simp at h; exact absurd h hk
 ·simpa using h
def Sk (m k : Int) : Int := Uk .i64 (Is .i64 m k) 1
theorem Yy (m : Int) {k : Int} (h : 0 ≤ k) : Ds m k = some (Sk m k, ()) := by
 unfold Ds
 rw [Ja h]; rfl
def V4 : Ga := (0, 0, 0, 0, ())
def Fg (L : List (List Ga)) (i k : Nat) : Ga := (L.getD i []).getD k V4
theorem Np {L : List (List Ga)} {i k : Nat} (hi : i < L.length) (hk : k < L[i].length) : Fg L i k = L[i][k] := by
 simp [Fg, qh, hi, hk]
theorem AH {α : Type} {L : List (List Ga)} {i k : Nat} (hi : i < L.length) (hk : k < L[i].length) (K : Ga → Option α) :
 (jz (Zd L (i : Int)) fun x => jz (Zd x (k : Int)) K) = K (Fg L i k) := by
 rw [Yd hi]
 simp only [jb]
 rw [Yd hk, Np hi hk]
 rfl
def Tc (L : List (List Ga)) (on : Int) (k : Nat) : Nat → Nat
 | 0 => 0
 | n + 1 => cond ((Sk on ((n + 1 : Nat) : Int) == 1) && ((Fg L (n + 1) k).1 != 1)) (n + 1) (Tc L on k n)
theorem Gx {L : List (List Ga)} {on : Int} {k : Nat} : ∀ n, Tc L on k n ≤ n
 | 0 => jo _
 | n + 1 => by
  simp only [Tc]
  cases ((Sk on ((n + 1 : Nat) : Int) == 1) && ((Fg L (n + 1) k).1 != 1)) with
  | true => exact jo _
  | false => exact Nat.le_succ_of_le (Gx n)
theorem Ht {m : Ea} (hm : Vn m) (on : Int) {k : Nat} (hk : (k : Int) < m.1) : ∀ n : Nat, n < m.2.1.length →
 Ze ((on, (k : Int), (), (n : Int), ()), (m, ())) = some (cond (Tc m.2.1 on k n == 0) (.inl ((), ())) (.inr ((((Tc m.2.1 on k n : Nat) : Int), ()), ())))
 | 0, _ => by
  unfold Ze
  rw [Ap]
  rfl
 | n + 1, h => by
  have hrow := hm.row (n + 1) h
  unfold Ze
  rw [Ap]
  simp only [Es]
  rw [Ja (show (((n + 1 : Nat) : Int)) > 0 by omega), Yy on (show (0 : Int) ≤ ((n + 1 : Nat) : Int) by omega)]
  simp only [cond_true, jb]
  rw [AH h (by omega), Qd (by have := hm.l2; omega) (by have := hm.l2; omega), show (((n + 1 : Nat) : Int) - 1) = (n : Int) by omega]
  have ih := Ht hm on hk n (by omega)
  unfold Ze at ih
  simp only [Tc]
  cases h1 : (Sk on ((n + 1 : Nat) : Int) == 1) with
  | false =>
   simp only [Bool.false_and, cond_false, jb, qi]
   exact ih
  | true =>
   cases h2 : ((Fg m.2.1 (n + 1) k).1 != 1) with
   | true => rfl
   | false =>
    simp only [Bool.and_false, cond_true, cond_false, jb, qi]
    exact ih
theorem Gt {m : Ea} (hm : Vn m) (on : Int) {k : Nat} (hk : (k : Int) < m.1) :
 Jj m on (k : Int) = some (((Tc m.2.1 on k (m.2.1.length - 1) : Nat) : Int), ()) := by
 have h1 := hm.l1
 have h2 := hm.l2
 unfold Jj
 rw [Qd (by omega) (by omega), show ((m.2.1.length : Int) - 1) = ((m.2.1.length - 1 : Nat) : Int) by omega, Ht hm on hk _ (by omega)]
 cases h : (Tc m.2.1 on k (m.2.1.length - 1) == 0) with
 | false => rfl
 | true =>
  have h' : Tc m.2.1 on k (m.2.1.length - 1) = 0 := by simpa using h
  rw [h']; rfl
theorem Pt {m : Ea} (hm : Vn m) (on : Int) {k : Nat} (hk : (k : Int) < m.1) : ∀ n : Nat, n < m.2.1.length →
 Bg ((on, (k : Int), (), (n : Int), ()), (m, ())) = some (cond (Tc m.2.1 on k n == 0) (.inl ((), ())) (.inr ((((Tc m.2.1 on k n : Nat) : Int), ()), ())))
 | 0, _ => by
  unfold Bg
  rw [Ap]
  rfl
 | n + 1, h => by
  have hrow := hm.row (n + 1) h
  unfold Bg
  rw [Ap]
  simp only [Ws]
  rw [Ja (show (((n + 1 : Nat) : Int)) > 0 by omega), Ja (show (0 : Int) ≤ ((n + 1 : Nat) : Int) by omega)]
  simp only [cond_true]
  rw [AH h (by omega), Qd (by have := hm.l2; omega) (by have := hm.l2; omega), show (((n + 1 : Nat) : Int) - 1) = (n : Int) by omega]
  have ih := Pt hm on hk n (by omega)
  unfold Bg at ih
  simp only [Tc]
  show jz (cond (Sk on ((n + 1 : Nat) : Int) == 1) _ _) _ = _
  cases h1 : (Sk on ((n + 1 : Nat) : Int) == 1) with
  | false =>
   simp only [Bool.false_and, cond_false, jb, qi]
   exact ih
  | true =>
   cases h2 : ((Fg m.2.1 (n + 1) k).1 != 1) with
   | true => rfl
   | false =>
    simp only [Bool.and_false, cond_true, cond_false, jb, qi]
    exact ih
def Ie (m : Ea) (on : Int) (k : Nat) : Nat := Tc m.2.1 on k (m.2.1.length - 1)
theorem Ko {m : Ea} (hm : Vn m) (on : Int) (k : Nat) : Ie m on k < m.2.1.length := by
 have := Gx (L := m.2.1) (on := on) (k := k) (m.2.1.length - 1)
 have := hm.l1
 unfold Ie
 omega
theorem PC {m : Ea} (hz : Oc Sa m ≤ Bb) (hv : Kc m = true) (on : Int) {k : Nat} (hk : (k : Int) < m.1) :
 Vs m on (k : Int) = some (((Ie m on k : Nat) : Int), ()) := by
 have hm := Re hv
 have h1 := hm.l1
 have h2 := hm.l2
 have h3 := hm.k2
 unfold Vs
 rw [Us m hz, hv, Qd (n := m.1 - 1) (by omega) (by omega)]
 simp only [jb, jg, cond_false, Nj]
 rw [Ja (show (0 : Int) ≤ (k : Int) ∧ (k : Int) ≤ m.1 - 1 by omega), Qd (by omega) (by omega), show ((m.2.1.length : Int) - 1) = ((m.2.1.length - 1 : Nat) : Int) by omega, Pt hm on hk _ (by omega)]
 simp only [jg, cond_false, jb]
 show _ = some (((Tc m.2.1 on k (m.2.1.length - 1) : Nat) : Int), ())
 cases h : (Tc m.2.1 on k (m.2.1.length - 1) == 0) with
 | false => rfl
 | true =>
  have h' : Tc m.2.1 on k (m.2.1.length - 1) = 0 := by simpa using h
  rw [h']; rfl
theorem MA {m : Ea} (hz : Oc Sa m ≤ Bb) (hv : Kc m = true) (on : Int) {k : Nat} (hk : (k : Int) < m.1) :
 Jr m on (k : Int) = some (Fg m.2.1 (Ie m on k) k, ()) := by
 have hm := Re hv
 have hl := Ko hm on k
 have hrow := hm.row _ hl
 unfold Jr
 rw [PC hz hv on hk]
 simp only [jb]
 rw [Ma (by omega)]
 simp only [cond_false]
 rw [AH hl (by omega)]
def Po (f : Int) (a : Ga) : Int := cond (a.1 == 4) (Xo .i64 f (Qe .i64 1 a.2.2.2.1)) (cond (a.1 == 5) (Hg .i64 (Qe .i64 1 a.2.2.2.1) 1) f)
theorem SF {nl i : Nat} {a : Ga} (h : Td nl i a = true) (hk : a.1 = 3 ∨ a.1 = 4 ∨ a.1 = 5 ∨ a.1 = 7) : 0 ≤ a.2.2.2.1 ∧ a.2.2.2.1 < (nl : Int) ∧ a.2.2.2.1 ≤ 3 := by
 have h1 := Ks h
 rw [Va] at h1
 have h2 := HD h (by rcases hk with hk | hk | hk | hk <;> rw [hk] <;> decide)
 unfold Ab at h1
 omega
theorem Sq {m : Ea} (hm : Vn m) (f : Int) {k : Nat} (hk : (k : Int) < m.1) :
 Ci m f (k : Int) = some (Po f (Fg m.2.1 (Ie m f k) k), ()) := by
 have hl := Ko hm f k
 have hrow := hm.row _ hl
 have hact := hm.act _ hl k (by omega)
 rw [← Np hl (by omega)] at hact
 unfold Ci
 rw [Gt hm f hk]
 simp only [jb]
 rw [show Tc m.2.1 f k (m.2.1.length - 1) = Ie m f k from rfl, AH hl (by omega)]
 generalize Fg m.2.1 (Ie m f k) k = a at hact
 unfold Po
 cases h4 : (a.1 == 4) with
 | true =>
  rw [Ja (SF hact (.inr (.inl (by simpa using h4)))).1]; rfl
 | false =>
  cases h5 : (a.1 == 5) with
  | true => rw [Ja (SF hact (.inr (.inr (.inl (by simpa using h5))))).1]; rfl
  | false => rfl
theorem PB {f : Int} (h0 : 0 ≤ f) (h1 : f < 16) (h2 : f.tmod 2 = 0) : ∀ n : Nat, n < 4 → Sk (Ae .i64 1 f) ((n + 1 : Nat) : Int) = Sk f ((n + 1 : Nat) : Int) := by
 have : f = 0 ∨ f = 1 ∨ f = 2 ∨ f = 3 ∨ f = 4 ∨ f = 5 ∨ f = 6 ∨ f = 7 ∨ f = 8 ∨ f = 9 ∨ f = 10 ∨ f = 11 ∨ f = 12 ∨ f = 13 ∨ f = 14 ∨ f = 15 := by omega
 clear h0 h1 h2
 rcases this with rfl | rfl | rfl | rfl | rfl | rfl | rfl | rfl | rfl | rfl | rfl | rfl | rfl | rfl | rfl | rfl <;> decide
theorem Yt {L : List (List Ga)} {on on' : Int} {k : Nat} : ∀ n : Nat, (∀ j : Nat, j < n → Sk on ((j + 1 : Nat) : Int) = Sk on' ((j + 1 : Nat) : Int)) → Tc L on k n = Tc L on' k n
 | 0, _ => rfl
 | n + 1, h => by
  simp only [Tc]
  rw [h n (by omega), Yt n fun j hj => h j (by omega)]
noncomputable def Di (a : Ga) : Bool := Cc a && ((a.1 == 6) || (a.1 == 7))
noncomputable def Cr (a : Ga) : Ga := cond (Di a) (2, a.2.1, 0, 0, ()) a
noncomputable def FT (a : Ga) : Ga := cond (Di a) (cond (a.1 == 6) (2, 0, a.2.2.1, 0, ()) (3, 0, 0, a.2.2.2.1, ())) a
theorem Py (a : Ga) : Hj a = some (Di a, ()) := by
 unfold Hj Di
 rw [Wj]
 cases Cc a <;> cases (a.1 == 6) <;> rfl
theorem AF (a : Ga) : Pr a = some (Cr a, ()) := by
 unfold Pr Cr
 rw [Py]
 cases Di a <;> rfl
def Nd {α : Type} (p : α → Bool) : Nat → List α → Int
 | _, [] => -1
 | k, x :: xs => cond (p x) (k : Int) (Nd p (k + 1) xs)
theorem Kt {X R : Type} {s : X → Option (X ⊕ R)} (I : Nat → X → Prop) (Q : R → Prop)
 (h : ∀ n x, I n x → (∃ r, s x = some (.inr r) ∧ Q r) ∨ (∃ y m, m < n ∧ s x = some (.inl y) ∧ I m y)) : ∀ n x, I n x → ∃ r, Yb s x = some r ∧ Q r := by
 intro n
 induction n using Nat.strongRecOn with
 | _ n ih =>
  intro x hi
  rcases h n x hi with ⟨r, h1, hq⟩ | ⟨y, m, hm, h1, hi'⟩
  ·exact ⟨r, by rw [Se h1]; rfl, hq⟩
  ·obtain ⟨r, g1, hq⟩ := ih m hm y hi'
   exact ⟨r, by rw [Se h1]; exact g1, hq⟩
def FC {α β : Type} : α ⊕ β → Bool
 | .inl _ => true
 | .inr _ => false
noncomputable def Pk (s : Int) (x : Wa) : Bool := decide (0 ≤ x.1 ∧ x.1 ≤ 31) && (!(Sk s x.1 == 1) && (Cc x.2.1 && (!(x.2.1.1 == 1) && (!(x.2.1.1 == 6) && !(x.2.1.1 == 7)))))
noncomputable def Nn (s : Int) (x : Wa) : Int ⊕ Unit := cond (Pk s x) (.inl (Ae .i64 s (Qe .i64 1 x.1))) (.inr ())
noncomputable def EL (l : List Wa) : Int ⊕ Unit := Le (fun _ s x => Nn s x) 0 0 l
noncomputable def Qf (l : List Wa) : Bool := FC (EL l)
theorem Up (l : List Wa) (hn : l.length ≤ Bb) : Ig l = some (Qf l, ()) := by
 have h20 : Bb = 1048576 := rfl
 have hl := Kq (step := fun x => Dl x.1.1 x.1.2.1 x.1.2.2.1 x.1.2.2.2.1) l (fun _ s x => Nn s x) (fun s i => ((s, l, ((ja l : Nat) : Int), i, ()), ()))
  (fun _ => .inl ((), ())) (fun _ => .inr ((false, ()), ())) (fun _ _ => True) (by
   intro k hk s _
   refine ⟨?_, fun _ _ => trivial⟩
   simp only [Dl]
   rw [Ja (show (k : Int) < (ja l : Int) by omega), Yd hk]
   simp only [cond_true, jb]
   generalize l[k] = x
   simp only [Nn, Pk, Wj, jb]
   by_cases h1 : 0 ≤ x.1
   ·rw [Ma (show ¬ x.1 < 0 by omega), Yy s h1]
    by_cases h2 : x.1 ≤ 31
    ·rw [Ma (show ¬ x.1 > 31 by omega), Ja (show 0 ≤ x.1 ∧ x.1 ≤ 31 from ⟨h1, h2⟩), Ja h1]
     simp only [jb, cond_false]
     cases Sk s x.1 == 1 <;> cases Cc x.2.1 <;> cases x.2.1.1 == 1 <;> cases x.2.1.1 == 6 <;> cases x.2.1.1 == 7 <;> rfl
    ·rw [Ja (show x.1 > 31 by omega), Ma (show ¬ (0 ≤ x.1 ∧ x.1 ≤ 31) by omega)]; rfl
   ·rw [Ja (show x.1 < 0 by omega), Ma (show ¬ (0 ≤ x.1 ∧ x.1 ≤ 31) by omega)]; rfl)
  (by
   intro s _
   simp only [Dl]
   rw [Ma (by omega)]; rfl) (by omega) 0 trivial
 unfold Ig Ql
 erw [hl]
 show jz (some _) _ = _
 simp only [jb, Qf, EL]
 cases Le (fun x s x => Nn s x) 0 0 l <;> rfl
structure Eu (x : Wa) : Prop where
 lo : 0 ≤ x.1
 hi : x.1 ≤ 31
 act : Cc x.2.1 = true
 n1 : x.2.1.1 ≠ 1
 n6 : x.2.1.1 ≠ 6
 n7 : x.2.1.1 ≠ 7
theorem HO {s : Int} {x : Wa} (h : Pk s x = true) : Eu x ∧ Sk s x.1 ≠ 1 := by
 simp only [Pk, jd, decide_eq_true_eq, Bool.not_eq_true', beq_eq_false_iff_ne] at h
 exact ⟨⟨h.1.1, h.1.2, h.2.2.1, h.2.2.2.1, h.2.2.2.2.1, h.2.2.2.2.2⟩, h.2.1⟩
theorem ZG : ∀ {l : List Wa} {k : Nat} {s : Int}, FC (Le (fun _ s x => Nn s x) k s l) = true → ∀ x ∈ l, Eu x
 | [], _, _, _, x, hx => by simp at hx
 | y :: l, k, s, h, x, hx => by
  simp only [Le, Nn] at h
  cases hc : Pk s y with
  | false => rw [hc] at h; simp [FC] at h
  | true =>
   rw [hc] at h
   simp only [cond_true] at h
   rcases jp.1 hx with rfl | hx
   ·exact (HO hc).1
   ·exact ZG h x hx
theorem AN {l : List Wa} (h : Qf l = true) : ∀ x ∈ l, Eu x := ZG h
theorem OB {α β : Type} (p : β → Bool) (f : α → β) : ∀ (xs : List α) (k : Nat), Nd p k (xs.map f) = Nd (fun x => p (f x)) k xs
 | [], _ => rfl
 | x :: xs, k => by simp only [List.map_cons, Nd, OB p f xs]
theorem DE {α : Type} (p : α → Bool) : ∀ (xs : List α) (k : Nat), Nd p k xs = -1 ∨ ∃ j : Nat, j < xs.length ∧ Nd p k xs = ((k + j : Nat) : Int)
 | [], _ => .inl rfl
 | x :: xs, k => by
  simp only [Nd]
  cases p x with
  | true => exact .inr ⟨0, by simp, by simp⟩
  | false =>
   rcases DE p xs (k + 1) with h | ⟨j, h1, h2⟩
   ·exact .inl h
   ·exact .inr ⟨j + 1, by simp; omega, by simp only [cond_false]; rw [h2]; omega⟩
theorem Zw {α : Type} (p : α → Bool) : ∀ (xs : List α) (k : Nat), (Le (fun k (_ : Unit) x => cond (p x) (.inr (k : Int)) (.inl ())) k () xs : Unit ⊕ Int) = if Nd p k xs = -1 then .inl () else .inr (Nd p k xs)
 | [], _ => rfl
 | x :: xs, k => by
  rcases Bool.eq_false_or_eq_true (p x) with hp | hp
  ·simp only [Le, Nd, hp, cond_true]; rw [if_neg (by omega)]
  ·simp only [Le, Nd, hp, cond_false]; exact Zw p xs (k + 1)
theorem Bz {X R α : Type} {step : X → Option (X ⊕ R)} (xs : List α) (p : α → Bool) (I : Int → X) (no : R) (yes : Int → R)
 (h : ∀ k (hk : k < xs.length), step (I (k : Int)) = some (cond (p xs[k]) (.inr (yes (k : Int))) (.inl (I (j5 .i64 ((k : Int) + 1))))))
 (he : step (I (xs.length : Int)) = some (.inr no)) (hn : xs.length < 9223372036854775807) :
 Yb step (I 0) = some (if Nd p 0 xs = -1 then no else yes (Nd p 0 xs)) := by
 have := Kq (step := step) xs (fun k (_ : Unit) x => cond (p x) (.inr (k : Int)) (.inl ())) (fun _ i => I i) (fun _ => no) yes (fun _ _ => True) (fun k hk s _ => by
  refine ⟨?_, fun _ _ => trivial⟩
  rw [h k hk]
  cases p xs[k] <;> rfl) (fun _ _ => he) hn () trivial
 rw [this, Zw]
 by_cases hc : Nd p 0 xs = -1
 ·rw [if_pos hc, if_pos hc]
 ·rw [if_neg hc, if_neg hc]
def We (h : Wa) : Jc := (h.2.1.2.1, h.2.1.2.2.1, ())
def Vq (c m : Int) (h : Wa) : Bool := (h.2.1.2.1 == c) && (h.2.1.2.2.1 == m)
theorem DD (l : List Jc) (c : Jc) (hn : l.length ≤ Bb) : An l c = some (Nd (fun x => Al De x c) 0 l, ()) := by
 have h20 : Bb = 1048576 := rfl
 have hl := Bz (step := fun x => Hl x.1.1 x.1.2.1 x.1.2.2.1 x.1.2.2.2.1 x.2.1) l (fun x => Al De x c) (fun i => (((), l, ((ja l : Nat) : Int), i, ()), (c, ())))
  (.inl ((), ())) (fun i => .inr ((i, ()), ())) (by
   intro k hk
   simp only [Hl]
   rw [Ja (show (k : Int) < (ja l : Int) by omega), Yd hk]
   simp only [cond_true, jb]
   cases Al De l[k] c <;> rfl) (by
   simp only [Hl]
   rw [Ma (by omega)]; rfl) (by omega)
 unfold An Wl
 erw [hl]
 simp only [jb]
 by_cases hc : Nd (fun x => Al De x c) 0 l = -1
 ·rw [if_pos hc, hc]; rfl
 ·rw [if_neg hc]; rfl
theorem SL (L : List Wa) (c m : Int) : Nd (fun x => Al De x (c, m, ())) 0 (L.map We) = Nd (Vq c m) 0 L := by
 rw [OB]
 congr 1
 funext h
 simp only [We, Al, Vq, Bool.and_true]
def Bq {α : Type} (l : List α) (r : Nat) : List α := jf (Uc l 0 r) (Uc l (r + 1) l.length)
theorem PI {α β : Type} (f : α → β) (l : List α) (r : Nat) : Bq (l.map f) r = (Bq l r).map f := by
 simp [Bq, Uc, List.map_take, List.map_drop]
 rw [List.take_of_length_le (by simp)]
theorem TM {α : Type} {l : List α} {r : Nat} (h : r < l.length) : He (ja l) 0 (r : Int) = true ∧ He (ja l) ((r + 1 : Nat) : Int) ((ja l : Nat) : Int) = true := by
 simp only [He, jd, decide_eq_true_eq]
 omega
noncomputable def QD (x : Id) (r : Int) : Bool := Cc (2, x.2.1, x.2.2.1, 0, ()) && (((x.1 == 0) && !decide (r ≥ 0)) || (((x.1 == 1) && !decide (r ≥ 0)) || ((x.1 == 2) && decide (r ≥ 0))))
def YG (x : Id) : Wa := (0, (2, x.2.1, x.2.2.1, 0, ()), ())
def KH (x : Id) (L : List Wa) (r : Int) : List Wa := cond (x.1 == 1) (jf L [YG x]) (cond (x.1 == 2) (Bq L r.toNat) L)
noncomputable def Pv (L : List Wa) (x : Id) : List Wa ⊕ Unit := cond (QD x (Nd (Vq x.2.1 x.2.2.1) 0 L)) (.inl (KH x L (Nd (Vq x.2.1 x.2.2.1) 0 L))) (.inr ())
theorem QT {L L' : List Wa} {x : Id} (h : Pv L x = .inl L') : L'.length ≤ L.length + 1 := by
 unfold Pv at h
 cases hc : QD x (Nd (Vq x.2.1 x.2.2.1) 0 L) with
 | false => rw [hc] at h; simp at h
 | true =>
  rw [hc] at h
  simp only [cond_true, Sum.inl.injEq] at h
  rw [← h]
  unfold KH
  cases x.1 == 1 with
  | true => simp
  | false =>
   cases x.1 == 2 with
   | true => simp [Bq, Uc]; omega
   | false => simp
theorem CF (l : List Id) (k : Nat) (hk : k < l.length) (L : List Wa) (hL : L.length ≤ k) (hn : l.length ≤ Bb) :
 Ih (L.map We) l ((ja l : Nat) : Int) (k : Int) =
  some (match Pv L l[k] with | .inl L' => .inl ((L'.map We, l, ((ja l : Nat) : Int), j5 .i64 ((k : Int) + 1), ()), ()) | .inr _ => .inr (.inr ((false, ()), ()))) := by
 have h20 : Bb = 1048576 := rfl
 simp only [Ih]
 rw [Ja (show (k : Int) < (ja l : Int) by omega), Yd hk]
 simp only [cond_true, jb]
 rw [DD (L.map We) _ (by simp; omega), SL]
 simp only [jb, Wj, Pv, QD, KH, YG]
 generalize hx : l[k] = x
 generalize hr : Nd (Vq x.2.1 x.2.2.1) 0 L = r
 have hble : jx (ja (L.map We) + ja ([(x.2.1, x.2.2.1, ())] : List Jc)) Sb = true := ji (by simp [Cn]; omega)
 have happ : jf (L.map We) ([(x.2.1, x.2.2.1, ())] : List Jc) = (jf L [((0 : Int), ((2 : Int), x.2.1, x.2.2.1, (0 : Int), ()), ())]).map We := by
  show _ ++ _ = List.map We (_ ++ _)
  rw [List.map_append]; rfl
 by_cases k0 : x.1 = 0
 ·simp only [k0]
  cases Cc ((2 : Int), x.2.1, x.2.2.1, (0 : Int), ()) <;> cases decide (r ≥ 0) <;> rfl
 by_cases k1 : x.1 = 1
 ·simp only [k1]
  rw [hble, happ]
  cases Cc ((2 : Int), x.2.1, x.2.2.1, (0 : Int), ()) <;> cases decide (r ≥ 0) <;> rfl
 by_cases k2 : x.1 = 2
 ·simp only [k2]
  rcases DE (Vq x.2.1 x.2.2.1) L 0 with h1 | ⟨j, h1, h2⟩
  ·rw [hr] at h1
   rw [h1]
   cases Cc ((2 : Int), x.2.1, x.2.2.1, (0 : Int), ()) <;> rfl
  ·rw [hr] at h2
   have hrj : r = (j : Int) := by omega
   rw [hrj]
   have hj : j < (L.map We).length := by simpa using h1
   have hc := TM hj
   rw [Ye (k := j) (by omega), hc.1, hc.2, Ma (show ¬ (j : Int) < 0 by omega), Ja (show (j : Int) ≥ 0 by omega)]
   have e1 : jx (ja (Uc (L.map We) (jy 0) (jy (j : Int))) + ja (Uc (L.map We) (jy ((j + 1 : Nat) : Int)) (jy ((ja (L.map We) : Nat) : Int)))) Sb = true :=
    ji (by simp [Uc]; rw [Cn]; omega)
   have e2 : jf (Uc (L.map We) (jy 0) (jy (j : Int))) (Uc (L.map We) (jy ((j + 1 : Nat) : Int)) (jy ((ja (L.map We) : Nat) : Int))) = (Bq L (jy (j : Int))).map We := by
    rw [← PI]
    simp [Bq]
   rw [e1, e2]
   cases Cc ((2 : Int), x.2.1, x.2.2.1, (0 : Int), ()) <;> rfl
 ·have e0 : (x.1 == 0) = false := by simpa using k0
  have e1 : (x.1 == 1) = false := by simpa using k1
  have e2 : (x.1 == 2) = false := by simpa using k2
  rw [e0, e1, e2]
  cases Cc ((2 : Int), x.2.1, x.2.2.1, (0 : Int), ()) <;> rfl
noncomputable def MX (l : List Id) : List Wa ⊕ Unit := Le (fun _ L x => Pv L x) 0 [] l
noncomputable def Pi (l : List Id) : Bool := decide (l.length ≤ 8) && (match MX l with | .inl L => ((L.length : Int) == 0) | .inr _ => false)
theorem VB (l : List Id) (hn : l.length ≤ Bb) : Rl l = some (Pi l, ()) := by
 have h20 : Bb = 1048576 := rfl
 unfold Rl Pi
 by_cases h : l.length ≤ 8
 ·rw [Ma (show ¬ ((ja l : Nat) : Int) > 8 by omega), Ja h]
  have hl := Kq (step := fun x => Ih x.1.1 x.1.2.1 x.1.2.2.1 x.1.2.2.2.1) l (fun _ L x => Pv L x) (fun L i => ((L.map We, l, ((ja l : Nat) : Int), i, ()), ()))
   (fun L => .inl ((L.map We, ()), ())) (fun _ => .inr ((false, ()), ())) (fun k L => L.length ≤ k) (by
    intro k hk L hL
    refine ⟨?_, fun L' h => by have := QT h; omega⟩
    rw [CF l k hk L hL hn]
    cases Pv L l[k] <;> rfl) (by
    intro s _
    simp only [Ih]
    rw [Ma (by omega)]; rfl) (by omega) [] (by simp)
  unfold Vk
  erw [hl]
  simp only [MX]
  cases Le (fun x L x => Pv L x) 0 [] l with
  | inl L =>
   show some _ = some _
   simp only [List.length_map]
   rfl
  | inr u => rfl
 ·rw [Ja (show ((ja l : Nat) : Int) > 8 by omega), Ma h]; rfl
noncomputable def Uh (keys : Int) (nl : Nat) (x : Wa) : Bool := !decide (x.1 ≥ keys) && !((x.2.1.1 != 9) && decide (x.2.1.2.2.2.1 ≥ (nl : Int)))
noncomputable def Uq (e : Mb) : Bool :=
 Kc e.1 && (decide (e.2.1.length ≤ 4) && (Qf e.2.2.2.1 && (Ld (fun _ m => Pi m) 0 e.2.1 && (Ld (fun _ x => Uh e.1.1 e.1.2.1.length x) 0 e.2.2.2.1 &&
  (decide (0 ≤ e.2.2.1 ∧ e.2.2.1 < ((2 ^ e.1.2.1.length : Nat) : Int)) && ((Int.tmod e.2.2.1 2 == 0) && decide (0 ≤ e.2.2.2.2.1 ∧ e.2.2.2.2.1 ≤ 15)))))))
theorem Iu (e : Mb) : Oc Zb e = Oc Sa e.1 + (Oc (.sl (.sl Od)) e.2.1 + Oc (.sl Rh) e.2.2.2.1) := by
 simp only [Oc, Nat.add_zero, js]
theorem Vu (l : List Wa) : Oc (.sl Rh) l = l.length := Cw (e := Rh) rfl l
theorem VJ (l : List Id) : Oc (.sl Od) l = l.length := Cw (e := Od) rfl l
theorem DU {e : Ty} (l : List (T e)) : ja l ≤ Oc (.sl e) l := Nat.le_add_right _ _
theorem CY {e : Ty} {l : List (T e)} {k : Nat} (hk : k < ja l) : Oc e (List.get l ⟨k, hk⟩) ≤ Oc (.sl e) l :=
 qa (Kp (f := Oc e) hk) (Nat.le_add_left _ _)
theorem AC (e : Mb) (hz : Oc Zb e ≤ Bb) : Vg (((), e.2.1, ((ja e.2.1 : Nat) : Int), (0 : Int), ()), (e, ())) =
 some (cond (Ld (fun _ m => Pi m) 0 e.2.1) (.inl (((), ()), (e, ()))) (.inr ((false, ()), ()))) := by
 have h20 : Bb = 1048576 := rfl
 rw [Iu] at hz
 have hl := DU (e := .sl Od) e.2.1
 unfold Vg
 refine Ei (step := fun x => Wi x.1.1 x.1.2.1 x.1.2.2.1 x.1.2.2.2.1 x.2.1) e.2.1 (fun _ m => Pi m) (fun i => (((), e.2.1, ((ja e.2.1 : Nat) : Int), i, ()), (e, ()))) _ _ ?_ ?_ (by omega)
 ·intro k hk
  simp only [Wi]
  have hk2 : (k : Int) < ((ja e.2.1 : Nat) : Int) := by omega
  rw [Ja hk2, Yd hk]
  simp only [cond_true, jb]
  have he := CY (e := .sl Od) hk
  rw [VJ] at he
  rw [VB e.2.1[k] (by have : (List.get e.2.1 ⟨k, hk⟩) = e.2.1[k] := rfl; rw [this] at he; omega)]
  simp only [jb]
  cases Pi e.2.1[k] <;> rfl
 ·simp only [Wi]
  rw [Ma (by omega)]; rfl
theorem BF (e : Mb) (hz : Oc Zb e ≤ Bb) : Og (((), ((ja e.1.2.1 : Nat) : Int), e.2.2.2.1, ((ja e.2.2.2.1 : Nat) : Int), (0 : Int), ()), (e, ())) =
 some (cond (Ld (fun _ x => Uh e.1.1 e.1.2.1.length x) 0 e.2.2.2.1) (.inl (((), ((ja e.1.2.1 : Nat) : Int), ()), (e, ()))) (.inr ((false, ()), ()))) := by
 have h20 : Bb = 1048576 := rfl
 rw [Iu, Vu] at hz
 unfold Og
 refine Ei (step := fun x => Yh x.1.1 x.1.2.1 x.1.2.2.1 x.1.2.2.2.1 x.1.2.2.2.2.1 x.2.1) e.2.2.2.1 (fun _ x => Uh e.1.1 e.1.2.1.length x)
  (fun i => (((), ((ja e.1.2.1 : Nat) : Int), e.2.2.2.1, ((ja e.2.2.2.1 : Nat) : Int), i, ()), (e, ()))) _ _ ?_ ?_ (by omega)
 ·intro k hk
  simp only [Yh]
  have hk2 : (k : Int) < ((ja e.2.2.2.1 : Nat) : Int) := by omega
  rw [Ja hk2, Yd hk]
  simp only [cond_true, jb, Uh]
  cases decide (e.2.2.2.1[k].1 ≥ e.1.1) <;> cases (e.2.2.2.1[k].2.1.1 != 9) <;> cases decide (e.2.2.2.1[k].2.1.2.2.2.1 ≥ ((ja e.1.2.1 : Nat) : Int)) <;> rfl
 ·simp only [Yh]
  rw [Ma (by omega)]; rfl
theorem Wn (e : Mb) (hz : Oc Zb e ≤ Bb) : Rg e = some (Uq e, ()) := by
 have h20 : Bb = 1048576 := rfl
 have hz' := hz
 rw [Iu, Vu] at hz'
 unfold Rg Uq
 rw [Cs e.1 (by omega)]
 cases hk : Kc e.1 with
 | false => rfl
 | true =>
  simp only [jb, jg, cond_false, jk]
  by_cases h4 : e.2.1.length ≤ 4
  ·rw [Ma (show ¬ ((ja e.2.1 : Nat) : Int) > 4 by omega), Ja h4, Up _ (by omega)]
   simp only [jb, cond_false, jk]
   cases hh : Qf e.2.2.2.1 with
   | false => rfl
   | true =>
    simp only [jg, cond_false, jk]
    rw [AC e hz]
    have hl := (Re hk).l2
    by_cases ho : 0 ≤ e.2.2.2.2.1 ∧ e.2.2.2.2.1 ≤ 15
    ·rw [Ma (show ¬ e.2.2.2.2.1 < 0 by omega), Ma (show ¬ e.2.2.2.2.1 > 15 by omega), Ja ho]
     simp only [cond_false, jb, Bool.and_true]
     cases Ld (fun _ m => Pi m) 0 e.2.1 with
     | false => rfl
     | true =>
      simp only [cond_true, qi, jk]
      rw [BF e hz]
      cases Ld (fun _ x => Uh e.1.1 e.1.2.1.length x) 0 e.2.2.2.1 with
      | false => rfl
      | true =>
       simp only [cond_true, jb, qi, jk]
       rw [OD (by omega), Ja (show (0 : Int) ≤ ((ja e.1.2.1 : Nat) : Int) by omega)]
       have e2 : ((2 : Int) == 0) = false := rfl
       rw [e2]
       simp only [cond_false, cond_true]
       by_cases hf : 0 ≤ e.2.2.1
       ·rw [Ja (show e.2.2.1 ≥ 0 from hf)]
        by_cases hf2 : e.2.2.1 < ((2 ^ e.1.2.1.length : Nat) : Int)
        ·rw [Ja hf2, Ja (show 0 ≤ e.2.2.1 ∧ e.2.2.1 < ((2 ^ e.1.2.1.length : Nat) : Int) from ⟨hf, hf2⟩)]
         cases Int.tmod e.2.2.1 2 == 0 <;> rfl
        ·rw [Ma hf2, Ma (show ¬ (0 ≤ e.2.2.1 ∧ e.2.2.1 < ((2 ^ e.1.2.1.length : Nat) : Int)) from fun h => hf2 h.2)]
         cases Int.tmod e.2.2.1 2 == 0 <;> rfl
       ·rw [Ma (show ¬ e.2.2.1 ≥ 0 from hf), Ma (show ¬ (0 ≤ e.2.2.1 ∧ e.2.2.1 < ((2 ^ e.1.2.1.length : Nat) : Int)) from fun h => hf h.1)]
        rfl
    ·have hr : (Ld (fun _ m => Pi m) 0 e.2.1 && (Ld (fun _ x => Uh e.1.1 e.1.2.1.length x) 0 e.2.2.2.1 && (decide (0 ≤ e.2.2.1 ∧ e.2.2.1 < ((2 ^ e.1.2.1.length : Nat) : Int)) && ((Int.tmod e.2.2.1 2 == 0) && decide (0 ≤ e.2.2.2.2.1 ∧ e.2.2.2.2.1 ≤ 15))))) = false := by
      rw [Ma ho]; simp
     rw [hr]
     by_cases h1 : e.2.2.2.2.1 < 0
     ·rw [Ja h1]; rfl
     ·rw [Ma h1, Ja (show e.2.2.2.2.1 > 15 by omega)]; rfl
  ·rw [Ja (show ((ja e.2.1 : Nat) : Int) > 4 by omega), Ma h4]; rfl
def FH (x : Um) : Bool := decide (0 ≤ x.1 ∧ x.1 ≤ 1000000) && decide (0 ≤ x.2.1 ∧ x.2.1 ≤ 31)
def FW (s : Int × Int) (x : Um) : Bool := FH x && (!decide (s.1 > x.1) && !(x.2.2.1 == (Sk s.2 x.2.1 == 1)))
def L2 (s : Int × Int) (x : Um) : (Int × Int) ⊕ Unit := cond (FW s x) (.inl (x.1, Xo .i64 s.2 (Qe .i64 1 x.2.1))) (.inr ())

def Sh {S : Type} (g : Nat → S → S) : Nat → S → S
 | 0, s => s
 | n + 1, s => g n (Sh g n s)
theorem Az {X R S : Type} {step : X → Option (X ⊕ R)} (n : Nat) (hn : n < 9223372036854775807) (g : Nat → S → S) (s0 : S) (I : S → Int → X) (out : S → R)
 (h : ∀ k, k < n → step (I (Sh g k s0) (k : Int)) = some (.inl (I (g k (Sh g k s0)) (j5 .i64 ((k : Int) + 1))))) (he : step (I (Sh g n s0) (n : Int)) = some (.inr (out (Sh g n s0)))) :
 Yb step (I s0 0) = some (out (Sh g n s0)) := by
 have := Ix (step := step) (fun k => I (Sh g k s0) (k : Int)) n (out (Sh g n s0)) (fun k hk => by
  rw [h k hk, Ye (by omega)]; rfl) he
 exact this
theorem XF {e : Ty} {c : Nat} : ∀ {w : List (T e)}, (∀ x ∈ w, Oc e x ≤ c) → Oc (.sl e) w ≤ (c + 1) * w.length
 | [], _ => by simp [Oc]
 | x :: r, h => by
  have h1 := h x (by simp)
  have h2 : Oc (.sl e) r ≤ (c + 1) * r.length := XF fun y hy => h y (by simp [hy])
  have h3 : Oc (.sl e) r = ja r + (List.map (Oc e) r).sum := rfl
  have h4 : Oc (.sl e) (x :: r) = (ja r + 1) + (Oc e x + (List.map (Oc e) r).sum) := by simp [Oc]
  rw [h4, jw, Nat.mul_add]
  omega
theorem Dn {n : Nat} (h : n ≤ 1073741824) : jx n Sb = true := ji h
theorem RB {α β : Type} (f : α → β) : ∀ (xs : List α) (k : Nat) (o : List β), Ag (fun _ o x => jf o [f x]) k o xs = o ++ xs.map f
 | [], _, o => by simp [Ag]
 | x :: r, k, o => by
  simp only [Ag]
  rw [RB f r]
  simp
theorem HE {X R α β : Type} {step : X → Option (X ⊕ R)} (xs : List α) (f : α → β) (I : List β → Int → X) (out : List β → R) (hn : xs.length ≤ 1073741824)
 (h : ∀ k (hk : k < xs.length) (o : List β), ja o = k → step (I o (k : Int)) = some (.inl (I (jf o [f xs[k]]) (j5 .i64 ((k : Int) + 1)))))
 (he : ∀ o : List β, step (I o (xs.length : Int)) = some (.inr (out o))) : Yb step (I [] 0) = some (out (xs.map f)) := by
 have := (Ov (step := step) xs (fun _ o x => jf o [f x]) I out (fun k o => ja o = k) (fun k hk o ho => ⟨h k hk o ho, by simp [ho]⟩) (fun o _ => he o) (by omega) [] rfl).1
 rw [this, RB]
 rfl
theorem AI (a : List Ga) : Oc (.sl Vc) a = a.length := Cw (e := Vc) rfl a
theorem Yz (l : List Int) (h : l.length ≤ Bb) : Uf l = some (l, ()) := by
 have h20 : Bb = 1048576 := rfl
 unfold Uf
 rw [Dn (by simp; omega)]
 rfl

theorem WX : (2 : Nat) ^ 63 = 9223372036854775808 := rfl
theorem JB {a : Nat} (ha : a < 2 ^ 63) : (BitVec.ofInt 64 (a : Int)).toNat = a := by
 rw [BitVec.ofInt_natCast, BitVec.toNat_ofNat, Nat.mod_eq_of_lt (by omega)]
theorem PQ {a b : Nat} (ha : a < 2 ^ 63) (hb : b < 2 ^ 63) : Uk .i64 (a : Int) (b : Int) = ((a &&& b : Nat) : Int) := by
 have h : (BitVec.ofInt (IntKind.bits .i64) (a : Int) &&& BitVec.ofInt (IntKind.bits .i64) (b : Int)).toNat = a &&& b := by
  rw [BitVec.toNat_and]; erw [JB ha, JB hb]
 unfold Uk
 rw [h]
 have h2 : a &&& b ≤ a := Nat.and_le_left
 have h3 := WX
 exact Qd (by omega) (by omega)
theorem JT {a b : Nat} (ha : a < 2 ^ 63) (hb : b < 2 ^ 63) : Ae .i64 (a : Int) (b : Int) = ((a ||| b : Nat) : Int) := by
 have h : (BitVec.ofInt (IntKind.bits .i64) (a : Int) ||| BitVec.ofInt (IntKind.bits .i64) (b : Int)).toNat = a ||| b := by
  rw [BitVec.toNat_or]; erw [JB ha, JB hb]
 unfold Ae
 rw [h]
 have h2 : a ||| b < 2 ^ 63 := Nat.or_lt_two_pow ha hb
 have h3 := WX
 exact Qd (by omega) (by omega)
theorem RQ (a : Nat) {k : Nat} (hk : k ≤ 64) : Is .i64 (a : Int) (k : Int) = ((a >>> k : Nat) : Int) := by
 unfold Is
 have h1 : min (jy (k : Int)) (IntKind.bits .i64) = k := by
  show min (jy (k : Int)) 64 = k
  rw [jn]; omega
 rw [h1, Nat.shiftRight_eq_div_pow]
 have h2 : (2 : Int) ^ k = ((2 ^ k : Nat) : Int) := by simp
 rw [h2]
 exact (Int.fdiv_eq_ediv_of_nonneg _ (Int.natCast_nonneg _)).trans (by simp)
theorem Mz {a k : Nat} (ha : a < 2 ^ 63) (hk : k ≤ 64) : (Sk (a : Int) (k : Int) == 1) = a.testBit k := by
 unfold Sk
 have h1 : a >>> k ≤ a := by rw [Nat.shiftRight_eq_div_pow]; exact Nat.div_le_self _ _
 have h3 := WX
 rw [RQ a hk]
 show (Uk .i64 ((a >>> k : Nat) : Int) ((1 : Nat) : Int) == 1) = _
 rw [PQ (by omega) (by omega), Nat.and_one_is_mod, Nat.testBit_eq_decide_div_mod_eq, Nat.shiftRight_eq_div_pow]
 have : a / 2 ^ k % 2 = 0 ∨ a / 2 ^ k % 2 = 1 := by omega
 rcases this with h | h <;> rw [h] <;> rfl
theorem JO {k : Nat} (hk : k ≤ 62) : (2 : Nat) ^ k < 2 ^ 63 := Nat.pow_lt_pow_right (by omega) (by omega)
def cnt : Nat → Nat → Nat
 | 0, _ => 0
 | k + 1, n => n % 2 + cnt k (n / 2)
def u1 (a : Nat) : Nat := ((a / 2) &&& 85) + (a &&& 85)
def u2 (a : Nat) : Nat := ((a / 4) &&& 51) + (a &&& 51)
def M5 : Nat := 6148914691236517205
def M3 : Nat := 3689348814741910323
def MF : Nat := 1085102592571150095
def s1 (n : Nat) : Nat := (n / 2 &&& M5) + (n &&& M5)
def s2 (n : Nat) : Nat := (n / 4 &&& M3) + (n &&& M3)
def s3 (n : Nat) : Nat := (n / 16 + n) &&& MF


structure ZJ (c : SD) : Prop where
 a : c.1.length ≤ Bb
 q : c.2.2.1.length ≤ Bb
 e : c.2.2.2.2.2.2.1.length ≤ Bb
 r : ∀ x ∈ c.2.2.2.2.2.2.1, x.2.1 ≤ 9223372036854775807
structure D5 (x : Um) : Prop where
 lo : 0 ≤ x.1
 hi : x.1 ≤ 31
 left : 0 ≤ x.2.1
structure W4 (b : VV) : Prop where
 d : b.2.1.2.2.2.2.2.1.length ≤ Bb
 c : ZJ b.2.2.1
 x : Oc PR b.2.2.2.1 ≤ Bb
theorem SQ {m : Ea} (hz : Oc Sa m ≤ Bb) : ja m.2.1 ≤ Bb ∧ ∀ k (hk : k < m.2.1.length), m.2.1[k].length ≤ Bb := by
 have h0 : Oc Sa m = 0 + (Oc (.sl (.sl Vc)) m.2.1 + 0) := rfl
 have h1 : Oc (.sl (.sl Vc)) m.2.1 = ja m.2.1 + (List.map (Oc (.sl Vc)) m.2.1).sum := rfl
 refine ⟨by omega, fun k hk => ?_⟩
 have h2 := Kp (f := Oc (.sl Vc)) hk
 rw [AI] at h2
 omega
theorem Qq (m : Ea) (hz : Oc Sa m ≤ Bb) : Ai m = some (m, ()) := by
 have h20 : Bb = 1048576 := rfl
 obtain ⟨h1, h2⟩ := SQ hz
 have hl := HE (step := fun x : (Unit × Unit × List (List Ga) × Int × Int × Unit) × Ea × Ea × Unit => Nh x.1.1 x.1.2.1 x.1.2.2.1 x.1.2.2.2.1 x.1.2.2.2.2.1 x.2.1 x.2.2.1) m.2.1 (fun x => x)
  (fun o k => (((), (), m.2.1, (m.2.1.length : Int), k, ()), ((0, [], ()), (m.1, o, ()), ()))) (fun o => .inl (((), (), ()), ((0, [], ()), (m.1, o, ()), ()))) (by omega) (fun k hk o ho => by
   have := h2 k hk
   simp only [Nh]
   rw [Ja (by omega), Yd hk]
   simp only [cond_true, jb]
   rw [Dn (by simp; omega), Dn (by simp only [jw, j7]; omega)]
   rfl) (fun o => by
   simp only [Nh]
   rw [Ma (by omega)]
   rfl)
 unfold Ai Mi
 erw [hl]
 rw [List.map_id']
 rfl
theorem VO {L : List (List Id)} (hz : Oc (.sl (.sl Od)) L ≤ Bb) : ja L ≤ Bb ∧ ∀ k (hk : k < L.length), L[k].length ≤ Bb := by
 have h1 : Oc (.sl (.sl Od)) L = ja L + (List.map (Oc (.sl Od)) L).sum := rfl
 refine ⟨by omega, fun k hk => ?_⟩
 have h2 := Kp (f := Oc (.sl Od)) hk
 rw [VJ] at h2
 omega
theorem Rq (L : List (List Id)) (hz : Oc (.sl (.sl Od)) L ≤ Bb) : Bi L = some (L, ()) := by
 have h20 : Bb = 1048576 := rfl
 obtain ⟨h1, h2⟩ := VO hz
 have hl := HE (step := fun x => Oh x.1.1 x.1.2.1 x.1.2.2.1 x.1.2.2.2.1) L (fun x => x)
  (fun o k => ((o, L, ((ja L : Nat) : Int), k, ()), ())) (fun o => .inl ((o, ()), ())) (by omega) (fun k hk o ho => by
   have := h2 k hk
   simp only [Oh]
   rw [Ja (by omega), Yd hk]
   simp only [cond_true, jb]
   rw [Dn (by simp; omega), Dn (by simp only [jw, j7]; omega)]
   rfl) (fun o => by
   simp only [Oh]
   rw [Ma (by omega)]
   rfl)
 unfold Bi Ni
 erw [hl]
 rw [List.map_id']
 rfl
theorem Ul (e : Mb) (hz : Oc Zb e ≤ Bb) : Pg e = some (e, ()) := by
 have h20 : Bb = 1048576 := rfl
 rw [Iu, Vu] at hz
 unfold Pg
 rw [Qq _ (by omega), Rq _ (by omega), Dn (by simp; omega)]
 rfl
end KF
