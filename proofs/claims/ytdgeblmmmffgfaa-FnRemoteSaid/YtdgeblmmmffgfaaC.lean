/- An evaluator of Go functions on plain data, its soundness, and plain laws on what the functions compute, part 3 (conditions: as each lemma tells). -/
import Derived.Test.YtdgeblmmmffgfaaB
import Derived.LoopN
import Derived.ChangeArms
import Derived.ChangeStays
import Derived.ChangeSame
import Derived.WideShapes
import Derived.RowKit
import Derived.Handed
import Derived.JoinedOf
import Derived.Lib.Split
import Derived.Lib.Join
import Derived.Lib.ItoaNum
import Derived.Lib.IndexMore
import Derived.Lib.Bytealg
import Derived.Lib.Atoi
import Derived.IntWalk
set_option linter.unusedSimpArgs false
set_option linter.unusedVariables false
namespace KF
open Go
open List renaming length → ja, getElem?_eq_getElem → je, append → jf, mem_append → jm, mem_cons → jq, mem_cons_of_mem → js, length_cons → jx, set → j7, length_nil → j8, length_set → j9, mem_singleton → qe, length_append → qf, getElem?_append_left → qh, getElem?_append_right → qi, getD_eq_getElem?_getD → qj, getElem_mem → qm, getElem_of_mem → qn, mem_map → qo, length_drop → qp, length_take → qq, mem_cons_self → qr
open Option renaming bind_some → jb, bind → j4, map_some → qd, bind_eq_some_iff → qg
open Option.some renaming injEq → jc
open Bool renaming and_eq_true → jd, not_true → jg, true_and → jl, false_eq_true → jr, not_false → qa, not_eq_true → qb
open Prod.mk renaming injEq → jh
open Nat renaming ble_eq_true_of_le → jk, mul_le_mul_right → jn, le_refl → jp, zero_add → jt, add_assoc → ju, eq_of_beq_eq_true → jv, ble → jy, le_trans → qc, lt_of_lt_of_le → ql
open Int renaming toNat_natCast → jo, eq_ofNat_of_zero_le → jw, toNat → jz
open Go.IntKind renaming wrap → j5, wrap → j6
open Sum renaming elim_inl → qk
open Result renaming andThen_ok → qs
open Sem renaming run_bind → qt
theorem MK {p q : Nat → Bool} {i : Nat} (hpq : ∀ j, q j = true → p j = true) (hp : p i = true) (hq : q i = false) : ∀ n, i < n → (List.range n).countP q < (List.range n).countP p := by
 have hle : ∀ n, (List.range n).countP q ≤ (List.range n).countP p := fun n => List.countP_mono_left fun j _ h => hpq j h
 intro n
 induction n with
 | zero => intro h; omega
 | succ n ih =>
  intro h
  rw [List.range_succ, List.countP_append, List.countP_append]
  by_cases he : i = n
  ·subst he
   have := hle i
   simp [hp, hq]
   omega
  ·have := ih (by omega)
   have h2 : [n].countP q ≤ [n].countP p := List.countP_mono_left fun j _ h => hpq j h
   omega
section
variable {P : Program} {n0 : Nat} {A : Fx} {O0 : Nat → Prop} {w0 : World} {G : Zc} {ops : Array Oper} {s0 : AS} {E : Nat → Ef} {F : Nat → FP} {anc : Nat → List Nat} {H : List Nat} {Q : Exit → Act → World → Prop}
def Yj (listed : Array Bool) (j : Nat) : Bool := listed.getD j false
def CC (ops : Array Oper) (L : Nat → Bool) : Prop := ∀ j o, ops[j]? = some o → L j = true → ∀ e, e ∈ o.after.toList → Region.binds .any e = true → L e.on = true
theorem Ds (hPM : ∀ m o, ops[m]? = some o → PM G H ops s0 E F anc m o) {L : Nat → Bool} (hc : CC ops L) : ∀ (b m : Nat), m < b → m < ops.size → L m = true → ∀ x, x ∈ anc m → L x = true
 | 0, _, h, _, _, _, _ => by omega
 | b + 1, m, hb, hm, hL, x, hx => by
  have hom : ops[m]? = some ops[m] := Array.getElem?_eq_getElem hm
  obtain ⟨e, he, hbn, hxe⟩ := (hPM m _ hom).up x hx
  have h1 := hc m _ hom hL e he hbn
  have h2 := (hPM m _ hom).back e he hbn
  rcases hxe with rfl | hxe
  ·exact h1
  ·exact Ds hPM hc b e.on (by omega) (by omega) h1 x hxe
theorem Ku {listed : Array Bool} {i : Nat} : i ∈ Region.ready .any ops listed ↔ i < ops.size ∧ listed.getD i true = false ∧ ∃ o, ops[i]? = some o ∧ ∀ e, e ∈ o.after.toList → Region.binds .any e = true → listed.getD e.on false = true := by
 unfold Region.ready
 rw [List.mem_filter, List.mem_range]
 constructor
 ·rintro ⟨h1, h2⟩
  have hom : ops[i]? = some ops[i] := Array.getElem?_eq_getElem h1
  rw [hom] at h2
  simp only [qd, Option.getD_some, jd, Bool.not_eq_true'] at h2
  refine ⟨h1, h2.1, _, hom, fun e he hb => ?_⟩
  have h3 := h2.2
  rw [Array.all_eq_true'] at h3
  have := h3 e (Array.mem_toList_iff.1 he)
  rw [hb] at this
  simpa using this
 ·rintro ⟨h1, h2, o, ho, h3⟩
  refine ⟨h1, ?_⟩
  rw [ho]
  simp only [qd, Option.getD_some, jd, Bool.not_eq_true']
  refine ⟨h2, ?_⟩
  rw [Array.all_eq_true']
  intro e he
  cases hb : Region.binds .any e with
  | false => rfl
  | true => simpa using h3 e (Array.mem_toList_iff.2 he) hb
theorem Vx (hPM : ∀ m o, ops[m]? = some o → PM G H ops s0 E F anc m o) {listed : Array Bool} (hsz : listed.size = ops.size) (hr : Region.ready .any ops listed = []) : ∀ (b j : Nat), j < b → j < ops.size → Yj listed j = true
 | 0, _, h, _ => by omega
 | b + 1, j, hb, hj => by
  by_cases h : Yj listed j = true
  ·exact h
  ·exfalso
   have hom : ops[j]? = some ops[j] := Array.getElem?_eq_getElem hj
   have : j ∈ Region.ready .any ops listed := by
    refine Ku.2 ⟨hj, ?_, _, hom, fun e he hbn => ?_⟩
    ·unfold Yj at h
     simp only [qb] at h
     have hjl : j < listed.size := by omega
     simp [Array.getD, hjl] at h ⊢
     exact h
    ·have := (hPM j _ hom).back e he hbn
     exact Vx hPM hsz hr b e.on (by omega) (by omega)
   rw [hr] at this
   simp at this
theorem NC {op : Op} (h : Ko op = true) : Gn op = false := by
 cases op <;> first | rfl | simp [Ko] at h
theorem PB {op : Op} (h : Je op = true) : Gn op = false := by
 cases op <;> first | rfl | simp [Je] at h
theorem TE.of_stL (hPM : ∀ m o, ops[m]? = some o → PM G H ops s0 E F anc m o) {L : Nat → Bool} (hc : CC ops L) {i : Nat} {o : Oper} (hi : ops[i]? = some o) (hLi : L i = false)
 (hready : ∀ e, e ∈ o.after.toList → Region.binds .any e = true → L e.on = true) :
 TE (Dc ops E (fun _ => true) s0 i) (Dc ops E L s0 ops.size) o ∧ (∀ t, t ∈ (F i).rt → Ta (Dc ops E L s0 ops.size).tm t = Ta (Dc ops E (fun _ => true) s0 i).tm t) ∧
  (∀ m, m < ops.size → i < m → L m = true → So (F m) (F i)) := by
 have hin : i < ops.size := (Array.getElem?_eq_some_iff.1 hi).1
 have hF : ∀ m o, ops[m]? = some o → (F m).wt = o.dst ∧ (F m).wi = (E m).2.map (·.1) ∧ (F m).mi = (E m).1.ids ++ Ej (E m).2 := fun m o ho => ⟨(hPM m o ho).fp.wt, (hPM m o ho).fp.wi, (hPM m o ho).fp.mi⟩
 have hgt : ∀ m, m < ops.size → i < m → L m = true → So (F m) (F i) := by
  intro m hm him hL
  have hom : ops[m]? = some ops[m] := Array.getElem?_eq_getElem hm
  rcases (hPM m _ hom).ind i him with h | h
  ·have := Ds hPM hc (m + 1) m (by omega) hm hL i h
   rw [hLi] at this; simp at this
  ·exact (YC h).symm
 have hd : ∀ m, m < ops.size → L m ≠ Nat.blt m i → So (F m) (F i) := by
  intro m hm hne
  rcases Nat.lt_trichotomy m i with h | h | h
  ·have hb : Nat.blt m i = true := by rw [Nat.blt_eq]; exact h
   have hL : L m = false := by
    rw [hb] at hne
    simpa using hne
   rcases (hPM i _ hi).ind m h with h' | h'
   ·exfalso
    obtain ⟨e, he, hbn, hxe⟩ := (hPM i _ hi).up m h'
    have h1 := hready e he hbn
    rcases hxe with rfl | hxe
    ·rw [hL] at h1; simp at h1
    ·have h2 := (hPM i _ hi).back e he hbn
     have := Ds hPM hc (e.on + 1) e.on (by omega) (by omega) h1 m hxe
     rw [hL] at this; simp at this
   ·exact YC h'
  ·subst h
   exfalso
   apply hne
   rw [hLi]
   have : Nat.blt m m = false := by rw [← qb, Nat.blt_eq]; omega
   exact this.symm
  ·have hb : Nat.blt m i = false := by
    rw [← qb, Nat.blt_eq]; omega
   have hL : L m = true := by
    rw [hb] at hne
    simpa using hne
   exact hgt m hm h hL
 obtain ⟨a1, a2, a3⟩ := DB (ops := ops) (s0 := s0) (f := F i) hF hd ops.size (jp _)
 have hst : Dc ops E (fun j => Nat.blt j i) s0 ops.size = Dc ops E (fun _ => true) s0 i := by
  rw [Jx (i := i) ops.size (by omega) fun j h1 h2 => by
   show Nat.blt j i = false
   rw [← qb, Nat.blt_eq]; omega]
  exact Fl i fun j hj => ⟨rfl, by rw [Nat.blt_eq]; exact hj⟩
 rw [hst] at a1 a2 a3
 have fp := (hPM i _ hi).fp
 refine ⟨⟨fun x hx => Gz hx fun t ht => a1 t (fp.rt t ht), fun hmv hsp x hx d hd' id hm => a2 id ((fp.ri hmv x hx d hd' id (.inl hm)).resolve_right fun h => by rw [hsp] at h; simp at h),
  fun hsp x hx d hd' id hm => ?_, fun id hid => a3 id (by rw [fp.wt]; exact hid),
  fun hcl hsp x hx bid p hev ρ d hb id hm => a2 id ((fp.ri (NC hcl) x hx _ hev id (.inr ⟨hcl, by simp only [Bq, hb]; exact Fq.1 hm⟩)).resolve_right fun h => by rw [hsp] at h; simp at h)⟩, a1, hgt⟩
 rcases fp.ri (PB hsp) x hx d hd' id (.inl hm) with h | h
 ·rw [a2 id h]
 ·have hh : ∀ j o, ops[j]? = some o → Mt H (Dc ops E (fun _ => true) s0 j) (E j) := fun j o ho => (hPM j o ho).hard
  rw [Ix ops.size (jp _) (fun j o _ ho => hh j o ho) id h.2, Ix i (Nat.le_of_lt hin) (fun j o _ ho => hh j o ho) id h.2]
theorem Lw {s : AS} {dst : Option Tmp} {e : Ef} (hd : ∀ t, dst = some t → t < s.n) {Out : Type} {k : AS → Option Out} : Re s dst e.1 e.2 k = k (putE s dst e) := by
 cases dst with
 | none => rfl
 | some t =>
  have : Nat.blt t s.n = true := by rw [Nat.blt_eq]; exact hd t rfl
  simp only [Re, this, cond_true, putE]
  rfl
theorem HL (hG : Ug P A.I G) (hfz : Lt G A) (hPM : ∀ m o, ops[m]? = some o → PM G H ops s0 E F anc m o)
 (hQ : ∀ σ φ a w, La n0 A O0 w0 (Dc ops E (fun _ => true) s0 ops.size) σ φ a w → Q .normal a w) :
 ∀ (fuel : Nat) (listed : Array Bool) (σ : Nat → Value) (φ : Nat → List Nat) (a : Act) (w : World), listed.size = ops.size → (List.range ops.size).countP (fun j => !listed.getD j true) ≤ fuel →
  CC ops (Yj listed) → La n0 A O0 w0 (Dc ops E (Yj listed) s0 ops.size) σ φ a w → wpAny P .any ops Q fuel listed a w := by
 intro fuel
 have fin' : ∀ (listed : Array Bool) (σ : Nat → Value) (φ : Nat → List Nat) (a : Act) (w : World), listed.size = ops.size → Region.ready .any ops listed = [] →
  La n0 A O0 w0 (Dc ops E (Yj listed) s0 ops.size) σ φ a w → Q .normal a w := by
  intro listed σ φ a w hsz hr h
  refine hQ σ φ a w ?_
  rw [← Fl (L := Yj listed) ops.size fun j hj => ⟨rfl, Vx hPM hsz hr (j + 1) j (by omega) hj⟩]
  exact h
 induction fuel with
 | zero =>
  intro listed σ φ a w hsz hcnt hc h
  have hr : Region.ready .any ops listed = [] := by
   rw [List.eq_nil_iff_forall_not_mem]
   intro i hi
   obtain ⟨h1, h2, _⟩ := Ku.1 hi
   have : 0 < (List.range ops.size).countP (fun j => !listed.getD j true) := List.countP_pos_iff.2 ⟨i, List.mem_range.2 h1, by rw [h2]; rfl⟩
   omega
  exact ⟨hr, fin' listed σ φ a w hsz hr h⟩
 | succ fuel ih =>
  intro listed σ φ a w hsz hcnt hc h
  refine ⟨fun hr => fin' listed σ φ a w hsz hr h, fun i hi => ?_⟩
  obtain ⟨hin, hun, o, ho, hed⟩ := Ku.1 hi
  have hil : i < listed.size := by omega
  have hLi : Yj listed i = false := by
   unfold Yj
   simp [Array.getD, hil] at hun ⊢
   exact hun
  obtain ⟨hag, htm, hgt⟩ := TE.of_stL hPM hc ho hLi hed
  have pm := hPM i o ho
  have hF : ∀ m o, ops[m]? = some o → (F m).wt = o.dst ∧ (F m).wi = (E m).2.map (·.1) ∧ (F m).mi = (E m).1.ids ++ Ej (E m).2 := fun m o ho => ⟨(hPM m o ho).fp.wt, (hPM m o ho).fp.wi, (hPM m o ho).fp.mi⟩
  have hadd := UF (s0 := s0) (L := Yj listed) ho hF hLi hgt ops.size hin (jp _)
  have hset : ∀ j, Yj (listed.setIfInBounds i true) j = (Yj listed j || Nat.beq j i) := by
   intro j
   unfold Yj
   by_cases hji : j = i
   ·subst hji
    simp [Array.getD, hil]
   ·have hb : Nat.beq j i = false := by rw [← qb]; intro e; exact hji (jv e)
    rw [hb, Bool.or_false]
    simp only [Array.getD_eq_getD_getElem?]
    rw [Array.getElem?_setIfInBounds_ne (fun e => hji e.symm)]
  have next : ∀ σ φ a w, La n0 A O0 w0 (putE (Dc ops E (Yj listed) s0 ops.size) o.dst (E i)) σ φ a w → wpAny P .any ops Q fuel (listed.setIfInBounds i true) a w := by
   intro σ φ a w h
   have h2 := h.eqv hadd
   have h3 : Dc ops E (fun j => Yj listed j || Nat.beq j i) s0 ops.size = Dc ops E (Yj (listed.setIfInBounds i true)) s0 ops.size := Fl ops.size fun j _ => ⟨rfl, (hset j).symm⟩
   rw [h3] at h2
   refine ih (listed.setIfInBounds i true) σ φ a w (by simpa using hsz) ?_ ?_ h2
   ·have hlt := MK (p := fun j => !listed.getD j true) (q := fun j => !(listed.setIfInBounds i true).getD j true) (i := i) ?_ (by simp only [hun, qa]) ?_ ops.size hin
    ·omega
    ·intro j hj
     by_cases hji : j = i
     ·subst hji; simp [hun]
     ·simp only [Array.getD_eq_getD_getElem?] at hj ⊢
      rw [Array.getElem?_setIfInBounds_ne (fun e => hji e.symm)] at hj
      exact hj
    ·simp [Array.getD, hil]
   ·intro j oj hoj hL e he hbn
    rw [hset] at hL ⊢
    cases hLj : Yj listed j with
    | true => rw [hc j oj hoj hLj e he hbn]; rfl
    | false =>
     rw [hLj, Bool.false_or] at hL
     have := jv hL
     subst this
     rw [ho] at hoj
     simp only [jc] at hoj
     subst hoj
     have := hed e he hbn
     unfold Yj
     rw [this]; rfl
  have hdn : ∀ t, o.dst = some t → t < (Dc ops E (Yj listed) s0 ops.size).n := fun t ht => by rw [Vy]; exact pm.dst t ht
  have run : Kv G (Dc ops E (fun _ => true) s0 i) o (E i) → o.wp P a w (wpAny P .any ops Q fuel (listed.setIfInBounds i true)) Q := by
   intro hE
   have hE' := hE.congr hag
   have : Hd G (Dc ops E (Yj listed) s0 ops.size) o some = some (putE (Dc ops E (Yj listed) s0 ops.size) o.dst (E i)) := by
    unfold Hd
    rw [hE']
    exact Lw hdn
   refine Oper.wp_mono ?_ (YH hG hfz h this)
   rintro a w ⟨s2, σ', φ', h1, h2⟩
   simp only [jc] at h1
   subst h1
   exact next σ' φ' a w h2
  have skp : E i = (.und, []) → wpAny P .any ops Q fuel (listed.setIfInBounds i true) (a.put o.dst undef) w := by
   intro hE
   have := RF (dst := o.dst) (k := some) (out := putE (Dc ops E (Yj listed) s0 ops.size) o.dst (.und, [])) h (Lw (e := (.und, [])) hdn)
   obtain ⟨s2, σ', φ', h1, h2⟩ := this
   simp only [jc] at h1
   subst h1
   rw [← hE] at h2
   exact next σ' φ' _ w h2
  have hst := pm.step
  unfold wpOp
  rw [ho]
  simp only []
  unfold As at hst
  cases hg : o.guard with
  | none =>
   rw [hg] at hst
   rw [if_pos (by simp [Region.wanted, hg])]
   exact .inl (run hst)
  | some g =>
   obtain ⟨j, want⟩ := g
   rw [hg] at hst
   obtain ⟨t, ht, hst⟩ := hst
   have htr : t ∈ (F i).rt := pm.fp.rg j want t hg ht
   have hlook := htm t htr
   rcases hst with ⟨β, hd, hst⟩ | ⟨hd, hst⟩
   ·rw [hd] at hlook
    have hy := Vu h ht hlook
    have hwd : Region.wanted o (yielded ops a.tmps) = (some β == some want) := by simp [Region.wanted, hg, hy]
    rw [hwd]
    by_cases hβ : β = want
    ·subst hβ
     rw [if_pos (by simp)]
     rw [if_pos rfl] at hst
     exact .inl (run hst)
    ·rw [if_neg (by simpa using hβ)]
     rw [if_neg hβ] at hst
     exact skp hst
   ·rw [hd] at hlook
    have hy := Bw h ht hlook
    have hwd : Region.wanted o (yielded ops a.tmps) = false := by simp [Region.wanted, hg, hy]
    rw [hwd, if_neg (by simp)]
    exact skp hst
end
structure Mf (s s' : AS) : Prop extends Eqv s s' where
 nw : ∀ id, s'.newOk id = s.newOk id
theorem Mf.refl (s : AS) : Mf s s := ⟨Eqv.refl s, fun _ => rfl⟩
theorem Mf.agr {s s' : AS} (h : Mf s s') (o : Oper) : TE s s' o :=
 ⟨fun _ hx => Gz hx fun t _ => h.tm t, fun _ _ _ _ _ _ id _ => h.hp id, fun _ _ _ _ _ id _ => by rw [h.hp id], fun id _ => h.nw id, fun _ _ _ _ _ _ _ _ _ _ id _ => h.hp id⟩
theorem Mf.symm {s s' : AS} (h : Mf s s') : Mf s' s := ⟨h.toEqv.symm, fun id => (h.nw id).symm⟩
theorem Mf.trans {s1 s2 s3 : AS} (h : Mf s1 s2) (h' : Mf s2 s3) : Mf s1 s3 := ⟨h.toEqv.trans h'.toEqv, fun id => (h'.nw id).trans (h.nw id)⟩
theorem Mf.putE {s s' : AS} (h : Mf s s') (dst : Option Tmp) (e : Ef) : Mf (KF.putE s dst e) (KF.putE s' dst e) := by
 refine ⟨⟨h.n, fun t => ?_, fun id => ?_⟩, fun id => ?_⟩
 ·rw [Kl, Kl, h.tm t]
 ·rw [Dk, Dk, h.hp id]
 ·have e0 := h.nw id
  unfold AS.newOk at e0 ⊢
  simp only [AS.ment, KF.putE, List.any_append] at e0 ⊢
  revert e0
  generalize ((match dst with | some t => [(t, e.1)] | none => []).any fun x => x.2.ment id) = b1
  generalize (e.2.any fun x => (x.2.map (Ga.ment id)).getD false) = b2
  generalize (s.tm.any fun x => x.2.ment id) = c1
  generalize (s.hp.any fun x => (x.2.map (Ga.ment id)).getD false) = c2
  generalize (s'.tm.any fun x => x.2.ment id) = d1
  generalize (s'.hp.any fun x => (x.2.map (Ga.ment id)).getD false) = d2
  generalize Nat.blt id 500000 = z
  cases b1 <;> cases b2 <;> cases c1 <;> cases c2 <;> cases d1 <;> cases d2 <;> cases z <;> simp
theorem Mf.refine {s : AS} {t : Nat} {β : Bool} (hd : Ta s.tm t = some (.t .b β)) : Mf s ⟨s.n, (t, .t .b β) :: s.tm, s.hp⟩ := by
 refine ⟨⟨rfl, fun t' => ?_, fun _ => rfl⟩, fun id => ?_⟩
 ·rw [Kb]
  split
  ·rename_i e; subst e; exact hd.symm
  ·rfl
 ·simp [AS.newOk, AS.ment, D.ment]
theorem MC {s s' : AS} (h : ∀ j, s'.heap j = s.heap j) (d : D) : Bq s d = Bq s' d := by
 cases d with
 | ptr id p => simp only [Bq, h id]
 | _ => rfl
def BM (s : AS) (u : List (Nat × Option Ga)) : Prop := u = [] ∨ ∃ id b tl, u = (id, some b) :: tl ∧ (s.heap id).map Ga.kind = some b.kind
theorem SA {s : AS} {dst : Option Tmp} {τ : Ty} {id i : Nat} {e : Ty} {xs : List (T e)} {k : Nat} {ef : Ef} (hs : (s.heap id).map Ga.kind = some (none, some (e, ja xs)))
 (h : Zj s dst τ id i e xs k (fun d u => some (d, u)) = some ef) : BM s ef.2 := by
 unfold Zj at h
 split at h
 ·cases hb : Nat.beq i k with
  | false => rw [hb] at h; simp at h
  | true =>
   rw [hb] at h
   simp only [cond_true, qg] at h
   obtain ⟨x, hx, h⟩ := h
   simp only [Da, jc] at h
   obtain ⟨_, rfl⟩ := h
   exact .inr ⟨id, _, _, rfl, hs⟩
 ·simp at h
theorem PG {α : Type} {c : Bool} {a b : Option α} {x : α} (h : (bif c then a else b) = some x) : a = some x ∨ b = some x := by cases c <;> simp_all
theorem IN {G : Zc} {s : AS} {o : Oper} {ef : Ef} (hk : Fv o.op = true) (h : Wa G s o (fun d u => some (d, u)) = some ef) : BM s ef.2 := by
 cases ho : o.op with
 | load t x =>
  simp only [Wa, ho] at h
  split at h
  ·split at h
   ·split at h
    ·split at h
     ·simp only [jc] at h; rw [← h]; exact .inl rfl
     ·simp at h
    ·simp at h
   ·simp at h
  ·split at h
   ·simp only [jc] at h; rw [← h]; exact .inl rfl
   ·simp at h
  ·rename_i τ id i path _ _
   cases hml : TG G o.dst with
   | true =>
    rw [hml] at h
    simp only [cond_true] at h
    split at h
    ·rename_i hb hz; exact SA (by rw [hb]; rfl) h
    ·rename_i hb hz; exact SA (by rw [hb]; rfl) h
    ·simp at h
   | false =>
    rw [hml] at h
    simp only [cond_false] at h
    split at h
    ·rename_i e dp xs hb
     simp only [qg] at h
     obtain ⟨x, hx, h⟩ := h
     split at h
     ·split at h
      ·rcases PG h with h | h
       ·simp only [jc] at h; rw [← h]; exact .inl rfl
       ·split at h
        ·simp only [Da, jc] at h
         obtain ⟨_, rfl⟩ := h
         exact .inr ⟨id, _, _, rfl, by rw [hb]; rfl⟩
        ·simp at h
      ·simp at h
     ·simp at h
    ·simp at h
  ·simp at h
 | store t x v =>
  simp only [Wa, ho] at h
  split at h
  ·rename_i τ id path dv _ _ _
   split at h
   ·rename_i ρ d hb
    split at h
    ·split at h
     ·simp only [Da, jc] at h
      obtain ⟨_, rfl⟩ := h
      exact .inr ⟨id, _, _, rfl, by rw [hb]; rfl⟩
     ·simp at h
    ·simp at h
   ·simp at h
  ·rename_i τ id i path dv _ _ _
   split at h
   ·rename_i e dp xs hb
    split at h
    ·split at h
     ·cases hc : (dp || e.flat) with
      | true =>
       rw [hc] at h
       simp only [cond_true] at h
       split at h
       ·simp only [Da, qg] at h
        obtain ⟨_, x, hx, h⟩ := h
        split at h
        ·simp only [jc] at h; rw [← h]
         exact .inr ⟨id, _, _, rfl, by rw [hb]; simp [Ga.kind]⟩
        ·simp at h
       ·simp at h
      | false =>
       rw [hc] at h
       simp only [cond_false] at h
       split at h
       ·simp only [qg] at h
        obtain ⟨x, hx, h⟩ := h
        split at h
        ·simp only [jc] at h; rw [← h]
         exact .inr ⟨id, _, _, rfl, by rw [hb]; simp [Ga.kind]⟩
        ·simp at h
       ·simp at h
     ·simp at h
    ·simp at h
   ·rename_i e xs i0 x path0 τ0 d0 hb
    split at h
    ·split at h
     ·split at h
      ·simp only [Da] at h
       obtain ⟨_, _, h⟩ := h
       split at h
       ·simp only [jc] at h; rw [← h]
        exact .inr ⟨id, _, _, rfl, by rw [hb]; simp [Ga.kind]⟩
       ·simp at h
      ·simp at h
     ·simp at h
    ·simp at h
   ·simp at h
  ·simp at h
 | _ => rw [ho] at hk; simp [Fv] at hk
theorem Iz {G : Zc} {s : AS} {o : Oper} {ef : Ef} {H : List Nat} (h : Kv G s o ef) (hb : Dy H o.op ef.2 = true) : Mt H s ef := by
 intro id hid hm
 unfold Dy at hb
 split at hb
 ·simp at hid
 ·cases hk : Fv o.op with
  | false =>
   rw [hk] at hb
   simp only [cond_false, Bool.not_eq_true'] at hb
   exact absurd hm (Em hb id hid)
  | true =>
   rw [hk] at hb
   simp only [cond_true, Bool.not_eq_true'] at hb
   have hkp := IN hk (h _ fun d u => some (d, u))
   rcases hkp with h0 | ⟨id0, b, tl, h0, h1⟩
   ·rw [h0] at hm; simp at hm
   ·rw [h0] at hm hb ⊢
    rcases jq.1 hm with e | hm
    ·subst e
     simp only [Kb, if_true, Option.join_some, qd]
     exact h1.symm
    ·exact absurd hm (Em hb id hid)
theorem Ny {H : List Nat} {x : Nat} : ∀ {l : List Nat}, x ∈ l → x ∈ Gu H l ∨ x ∈ H
 | y :: l, h => by
  simp only [Gu]
  rcases jq.1 h with e | h
  ·subst e
   cases hm : Nn H x with
   | true => exact .inr (Rs.1 hm)
   | false => exact .inl (by simp)
  ·refine (Ny h).imp (fun h => ?_) id
   cases Nn H y with
   | true => exact h
   | false => exact js _ h
theorem NA {s : AS} {c : Bool} : ∀ {l : List Operand} {x : Operand} {d : D} {id : Nat}, x ∈ l → s.ev x = some d → (d.ment id = true ∨ (c = true ∧ id ∈ Bq s d)) → id ∈ Sq s c l
 | [], _, _, _, h, _, _ => by simp at h
 | y :: l, x, d, id, h, hd, hm => by
  rcases jq.1 h with e | h
  ·subst e
   simp only [Sq, hd]
   refine List.mem_append_left _ (jm.2 ?_)
   refine hm.imp Fq.1 ?_
   rintro ⟨rfl, h⟩
   exact h
  ·have ih := NA h hd hm
   simp only [Sq]
   split
   ·exact List.mem_append_right _ ih
   ·exact ih
section
variable {P : Program} {n0 : Nat} {A : Fx} {O0 : Nat → Prop} {w0 : World} {G : Zc} {ops : Array Oper} {s0 : AS} {E : Nat → Ef} {F : Nat → FP} {anc : Nat → List Nat} {H : List Nat} {Q : Exit → Act → World → Prop}
variable {Out : Type} {k : AS → Option Out} {out : Out}
theorem PM.congr {E' : Nat → Ef} {F' : Nat → FP} {anc' : Nat → List Nat} {m : Nat} {o : Oper} (h : PM G H ops s0 E F anc m o) (hE : ∀ j, j ≤ m → E j = E' j ∧ F j = F' j ∧ anc j = anc' j) : PM G H ops s0 E' F' anc' m o := by
 have hst : Dc ops E (fun _ => true) s0 m = Dc ops E' (fun _ => true) s0 m := Fl m fun j hj => ⟨(hE j (by omega)).1, rfl⟩
 obtain ⟨e1, e2, e3⟩ := hE m (jp _)
 refine ⟨by rw [← hst, ← e1]; exact h.step, by rw [← hst, ← e1, ← e2]; exact h.fp, h.dst, h.back, ?_, ?_, by rw [← hst, ← e1]; exact h.hard⟩
 ·intro x hx
  rw [← e3] at hx
  obtain ⟨e, he, hb, hxe⟩ := h.up x hx
  refine ⟨e, he, hb, hxe.imp id fun hxe => ?_⟩
  rw [← (hE e.on (Nat.le_of_lt (h.back e he hb))).2.2]
  exact hxe
 ·intro j hj
  rw [← e3, ← e2, ← (hE j (by omega)).2.1]
  exact h.ind j hj
theorem Ux : ∀ {r l : List Nat} {x : Nat}, x ∈ Tx r l → x ∈ r ∨ x ∈ l
 | [], _, _, h => .inr h
 | y :: r, l, x, h => by
  simp only [Tx] at h
  rcases Ux h with h | h
  ·exact .inl (js _ h)
  ·cases hm : Nn l y with
   | true => rw [hm] at h; exact .inr h
   | false =>
    rw [hm] at h
    rcases jq.1 h with h | h
    ·exact .inl (by rw [h]; simp)
    ·exact .inr h
theorem Ot {prev : List (Nat × (List Nat × FP))} : ∀ {es : List Edge} {l : List Nat} {x : Nat}, x ∈ Cv prev es l → x ∈ l ∨ ∃ e, e ∈ es ∧ Region.binds .any e = true ∧ (x = e.on ∨ ∃ p, Ta prev e.on = some p ∧ x ∈ p.1)
 | [], l, x, h => .inl h
 | e :: es, l, x, h => by
  simp only [Cv] at h
  cases hb : Region.binds .any e with
  | false =>
   rw [hb] at h
   rcases Ot h with h | ⟨e', he', hb', hx⟩
   ·exact .inl h
   ·exact .inr ⟨e', js _ he', hb', hx⟩
  | true =>
   rw [hb] at h
   rcases Ot h with h | ⟨e', he', hb', hx⟩
   ·rcases Ux h with h | h
    ·refine .inr ⟨e, by simp, hb, ?_⟩
     rcases jq.1 h with h | h
     ·exact .inl h
     ·split at h
      ·rename_i a f hp; exact .inr ⟨_, hp, h⟩
      ·simp at h
    ·exact .inl h
   ·exact .inr ⟨e', js _ he', hb', hx⟩
theorem ZF : ∀ (l : List Oper) (i : Nat) (prev : List (Nat × (List Nat × FP))) (s : AS) (E : Nat → Ef) (F : Nat → FP) (anc : Nat → List Nat), ops.toList.drop i = l → Ln G H ops l i prev s k = some out →
 Mf (Dc ops E (fun _ => true) s0 i) s → (∀ j, j < i → Ta prev j = some (anc j, F j)) → (∀ m o, m < i → ops[m]? = some o → PM G H ops s0 E F anc m o) →
 ∃ E F anc, (∀ m o, ops[m]? = some o → PM G H ops s0 E F anc m o) ∧ ∃ sf, k sf = some out ∧ Eqv (Dc ops E (fun _ => true) s0 ops.size) sf
 | [], i, prev, s, E, F, anc, hl, he, hs, hprev, hPM => by
  have hi : ops.size ≤ i := by
   have := congrArg ja hl
   simp at this
   omega
  have hst : Dc ops E (fun _ => true) s0 i = Dc ops E (fun _ => true) s0 ops.size := by
   clear hs he hl hprev hPM
   induction i with
   | zero =>
    have : ops.size = 0 := by omega
    rw [this]
   | succ i ih =>
    by_cases h : ops.size = i + 1
    ·rw [h]
    ·rw [← ih (by omega)]
     have : ops[i]? = none := Array.getElem?_eq_none (by omega)
     simp only [Dc, this]
  refine ⟨E, F, anc, fun m o ho => hPM m o ?_ ho, s, he, by rw [← hst]; exact hs.toEqv⟩
  have := (Array.getElem?_eq_some_iff.1 ho).1
  omega
 | o :: l, i, prev, s, E, F, anc, hl, he, hs, hprev, hPM => by
  have hi : i < ops.size := by
   have := congrArg ja hl
   simp at this
   omega
  have hoi : ops[i]? = some o := by
   have h1 := congrArg (·[0]?) hl
   simpa using h1
  have hl' : ops.toList.drop (i + 1) = l := by
   have h1 := congrArg (List.drop 1) hl
   simpa [List.drop_drop, Nat.add_comm] using h1
  have next : ∀ (an : List Nat) (f : FP) (e : Ef) (sx : AS), an = Cv prev o.after.toList [] → (∀ e, e ∈ o.after.toList → Region.binds .any e = true → e.on < i) → Ip an f prev = true → Mf s sx →
   As G ops (Dc ops E (fun _ => true) s0 i) o e → HK H ops (Dc ops E (fun _ => true) s0 i) o e f → Mt H (Dc ops E (fun _ => true) s0 i) e → Re sx o.dst e.1 e.2 (fun s' => Ln G H ops l (i + 1) ((i, (an, f)) :: prev) s' k) = some out →
   ∃ E F anc, (∀ m o, ops[m]? = some o → PM G H ops s0 E F anc m o) ∧ ∃ sf, k sf = some out ∧ Eqv (Dc ops E (fun _ => true) s0 ops.size) sf := by
   intro an f e sx han hback hok hsx hstep hfp hhard hfin
   have hdst : ∀ t, o.dst = some t → t < sx.n := by
    intro t ht
    unfold Re at hfin
    rw [ht] at hfin
    simp only at hfin
    cases hb : Nat.blt t sx.n with
    | true => rwa [Nat.blt_eq] at hb
    | false => rw [hb] at hfin; simp at hfin
   rw [Lw hdst] at hfin
   have hn : sx.n = s0.n := by rw [hsx.n, hs.n, Vy]
   have hEi : ∀ j, j < i → E j = (fun j => if j = i then e else E j) j ∧ F j = (fun j => if j = i then f else F j) j ∧ anc j = (fun j => if j = i then an else anc j) j := by
    intro j hj
    have : j ≠ i := by omega
    simp [this]
   have hst : Dc ops E (fun _ => true) s0 i = Dc ops (fun j => if j = i then e else E j) (fun _ => true) s0 i := Fl i fun j hj => ⟨(hEi j hj).1, rfl⟩
   refine ZF l (i + 1) _ _ (fun j => if j = i then e else E j) (fun j => if j = i then f else F j) (fun j => if j = i then an else anc j) hl' hfin ?_ ?_ ?_
   ·have : Dc ops (fun j => if j = i then e else E j) (fun _ => true) s0 (i + 1) = putE (Dc ops E (fun _ => true) s0 i) o.dst e := by
     rw [hst]
     simp only [Dc, hoi, cond_true, if_true]
    rw [this]
    exact (hs.trans hsx).putE _ _
   ·intro j hj
    rw [Kb]
    by_cases hji : i = j
    ·subst hji; simp
    ·have hne : j ≠ i := fun e => hji e.symm
     rw [if_neg hji, hprev j (by omega)]
     simp [hne]
   ·intro m om hm hom
    by_cases hmi : m = i
    ·subst hmi
     rw [hoi] at hom
     simp only [jc] at hom
     subst hom
     refine ⟨?_, ?_, fun t ht => by rw [← hn]; exact hdst t ht, hback, ?_, ?_, by rw [← hst]; simpa using hhard⟩
     ·rw [← hst]; simpa using hstep
     ·rw [← hst]; simpa using hfp
     ·intro x hx
      simp only [if_true] at hx
      rw [han] at hx
      rcases Ot hx with hx | ⟨e', he', hb', hx⟩
      ·simp at hx
      ·have hlt := hback e' he' hb'
       refine ⟨e', he', hb', hx.imp id ?_⟩
       rintro ⟨p, hp, hxp⟩
       rw [hprev _ hlt] at hp
       simp only [jc] at hp
       subst hp
       have : e'.on ≠ m := by omega
       simpa [this] using hxp
     ·intro j hj
      have hok' := hok
      unfold Ip at hok'
      rw [List.all_eq_true] at hok'
      have hmem := Tk (hprev j hj)
      have h1 := hok' _ hmem
      simp only [Bool.or_eq_true] at h1
      have hjm : j ≠ m := by omega
      simp only [if_true, hjm, if_false]
      exact h1.imp Rs.1 id
    ·exact (hPM m om (by omega) hom).congr fun j hj => hEi j (by omega)
  have hfpOk : ∀ (g : List Nat) (e : Ef), (∀ j want t, o.guard = some (j, want) → (ops[j]?).bind (·.dst) = some t → t ∈ g) → HK H ops (Dc ops E (fun _ => true) s0 i) o e (Hz H s o g e.1 e.2) := by
   intro g e hg
   refine ⟨rfl, rfl, rfl, fun t ht => List.mem_append_right _ ht, fun j want t hgu ht => List.mem_append_left _ (hg j want t hgu ht), fun hmv x hx d hd id hm => ?_⟩
   have hmem : id ∈ Sq s (Ko o.op) (Qb o.op) := by
    refine NA hx ?_ (hm.imp (fun h => h) fun h => ⟨h.1, (MC (fun j => hs.hp j) d) ▸ h.2⟩)
    rw [← hd]
    exact Gz hx fun t _ => hs.tm t
   show id ∈ (bif Gn o.op then [] else bif Je o.op then _ else _) ∨ _
   rw [hmv]
   cases hsp : Je o.op with
   | false => exact .inl hmem
   | true => exact (Ny hmem).imp (fun h => h) fun h => ⟨rfl, h⟩
  simp only [Ln] at he
  cases hbk : NG i o.after.toList with
  | false => rw [hbk] at he; simp at he
  | true =>
   rw [hbk] at he
   simp only [cond_true] at he
   have hback : ∀ e, e ∈ o.after.toList → Region.binds .any e = true → e.on < i := by
    intro e hem hbe
    unfold NG at hbk
    rw [List.all_eq_true] at hbk
    have := hbk e hem
    rw [hbe] at this
    simp only [jg, Bool.false_or] at this
    rwa [Nat.blt_eq] at this
   have hEff : ∀ (sx : AS) (K : D → List (Nat × Option Ga) → Option Out), Mf s sx → Wa G sx o K = some out → ∃ e : Ef, K e.1 e.2 = some out ∧ Kv G (Dc ops E (fun _ => true) s0 i) o e := by
    intro sx K hsx hK
    obtain ⟨d, u, h1, h2⟩ := JK hK
    refine ⟨(d, u), h1, ?_⟩
    have : Kv G sx o (d, u) := h2
    exact this.congr ((hs.trans hsx).symm.agr o)
   cases hg : o.guard with
   | none =>
    rw [hg] at he
    simp only at he
    obtain ⟨e, h1, h2⟩ := hEff s _ (Mf.refl s) he
    simp only [Da, jd] at h1
    exact next _ _ e s rfl hback h1.1.1 (Mf.refl s) (by unfold As; rw [hg]; exact h2) (hfpOk [] e (by intro j want t hgu; rw [hg] at hgu; simp at hgu)) (Iz h2 h1.1.2) h1.2
   | some g =>
    obtain ⟨j, want⟩ := g
    rw [hg] at he
    simp only at he
    split at he
    ·rename_i t ht
     have hgt : ∀ j' want' t', o.guard = some (j', want') → (ops[j']?).bind (·.dst) = some t' → t' ∈ [t] := by
      intro j' want' t' hgu ht'
      rw [hg] at hgu
      simp only [jc, jh] at hgu
      obtain ⟨rfl, rfl⟩ := hgu
      rw [ht] at ht'
      simp only [jc] at ht'
      rw [ht']; simp
     split at he
     ·rename_i β hd
      have hdst : Ta (Dc ops E (fun _ => true) s0 i).tm t = some (.t .b β) := by rw [← hs.tm]; exact hd
      have goal1 : ∀ e : Ef, (if β = want then Kv G (Dc ops E (fun _ => true) s0 i) o e else e = (.und, [])) → As G ops (Dc ops E (fun _ => true) s0 i) o e := by
       intro e h
       unfold As
       rw [hg]
       exact ⟨t, ht, .inl ⟨β, hdst, h⟩⟩
      cases hβ : (show Bool from β) with
      | true =>
       have hβ' : β = true := hβ
       subst hβ'
       simp only [cond_true] at he
       cases want with
       | true =>
        simp only [cond_true] at he
        obtain ⟨e, h1, h2⟩ := hEff _ _ (Mf.refine hd) he
        simp only [Da, jd] at h1
        exact next _ _ e _ rfl hback h1.1.1 (Mf.refine hd) (goal1 e (by rw [if_pos rfl]; exact h2)) (hfpOk [t] e hgt) (Iz h2 h1.1.2) h1.2
       | false =>
        simp only [cond_false, Da] at he
        exact next _ _ (.und, []) _ rfl hback he.1 (Mf.refine hd) (goal1 _ (by rw [if_neg (by simp)])) (hfpOk [t] (.und, []) hgt) (by intro id _ hm; simp at hm) he.2
      | false =>
       have hβ' : β = false := hβ
       subst hβ'
       simp only [cond_false] at he
       cases want with
       | true =>
        simp only [cond_true, Da] at he
        exact next _ _ (.und, []) _ rfl hback he.1 (Mf.refine hd) (goal1 _ (by rw [if_neg (by simp)])) (hfpOk [t] (.und, []) hgt) (by intro id _ hm; simp at hm) he.2
       | false =>
        simp only [cond_false] at he
        obtain ⟨e, h1, h2⟩ := hEff _ _ (Mf.refine hd) he
        simp only [Da, jd] at h1
        exact next _ _ e _ rfl hback h1.1.1 (Mf.refine hd) (goal1 e (by rw [if_pos rfl]; exact h2)) (hfpOk [t] e hgt) (Iz h2 h1.1.2) h1.2
     ·rename_i hd
      simp only [Da] at he
      refine next _ _ (.und, []) s rfl hback he.1 (Mf.refl s) ?_ (hfpOk [t] (.und, []) hgt) (by intro id _ hm; simp at hm) he.2
      unfold As
      rw [hg]
      exact ⟨t, ht, .inr ⟨by rw [← hs.tm]; exact hd, rfl⟩⟩
     ·simp at he
    ·simp at he
theorem HF {n j : Nat} : Yj (Array.replicate n false) j = false := by
 unfold Yj
 rw [Array.getD_eq_getD_getElem?, Array.getElem?_replicate]
 split <;> rfl
theorem MJ (hG : Ug P A.I G) (hfz : Lt G A) (hm : P.follows .mixedOrders = true) {id : Nat} {H : List Nat} {draw : Bool} {s : AS} {σ : Nat → Value} {φ : Nat → List Nat} {a : Act} {w : World} (h : La n0 A O0 w0 s σ φ a w)
 (he : (bif draw then Ln G H ops ops.toList 0 [] s k else Ao G id ops ops.toList 0 s k) = some out) (hQ : ∀ a w, Uc n0 A O0 w0 k out a w → Q .normal a w) : (Code.region id ops draw).wp P Q a w := by
 cases draw with
 | false =>
  simp only [cond_false] at he
  refine wp_region ?_
  have := WE (P := P) (Q := Q) hG hfz (fun s σ φ a w h1 h2 => hQ a w ⟨s, σ, φ, h1, h2⟩) ops.toList 0 s σ φ a w (by simp) he h
  simpa using this
 | true =>
  simp only [cond_true] at he
  obtain ⟨E, F, anc, hPM, sf, h1, h2⟩ := ZF (s0 := s) ops.toList 0 [] s (fun _ => (.und, [])) (fun _ => ⟨[], [], none, [], []⟩) (fun _ => []) (by simp) he (Mf.refl s) (by intro j hj; omega) (by intro m o hm; omega)
  refine wp_region_any hm ?_
  refine HL hG hfz hPM (fun σ φ a w hc => hQ a w ⟨sf, σ, φ, h1, hc.eqv h2⟩) ops.size (Array.replicate ops.size false) σ φ a _ (by simp) ?_ ?_ ?_
  ·have := List.countP_le_length (p := fun j => !(Array.replicate ops.size false).getD j true) (l := List.range ops.size)
   simpa using this
  ·intro j o ho hL
   rw [HF] at hL
   simp at hL
  ·have : Dc ops E (Yj (Array.replicate ops.size false)) s ops.size = s := by
    rw [Jx (i := 0) ops.size (Nat.zero_le _) fun j _ _ => HF]
    rfl
   rw [this]
   exact h.drew
end
theorem KI {s : AS} : ∀ {td : TD} {d : D} {x : T td.ty} {m : Vf}, Mc s td d = some (x, m) → (Nj td x).isAgg = d.isAgg := by
 intro td
 cases td with
 | data τ =>
  intro d x m h
  simp only [Mc] at h
  split at h
  ·rename_i y hy
   simp only [jc, jh] at h
   obtain ⟨rfl, _⟩ := h
   have hs := (Fe (w := default) (σ := fun _ => undef) (O := fun _ => False) (hp := fun _ => none) hy).1
   rw [hs.isAgg]
   cases τ <;> rfl
  ·simp at h
 | own id e dp =>
  intro d x m h
  cases d <;> simp [Mc] at h <;> rfl
 | ptr id p =>
  intro d x m h
  cases d <;> simp [Mc] at h <;> rfl
 | hol id e p τ td =>
  intro d x m h
  cases d <;> simp [Mc] at h <;> rfl
 | arr id e =>
  intro d x m h
  cases d <;> first | rfl | (simp [Mc] at h; done)
 | mov id e =>
  intro d x m h
  cases d <;> simp [Mc] at h <;> rfl
 | mpo id k v =>
  intro d x m h
  cases d <;> simp [Mc] at h <;> rfl
 | pr a b =>
  intro d x m h
  simp only [Mc] at h
  cases d with
  | t τ v => cases τ <;> simp [D.fst] at h <;> rfl
  | pr u v => rfl
  | _ => simp [D.fst] at h
 | un =>
  intro d x m h
  simp only [Mc] at h
  split at h
  ·rename_i y hy
   have hs := (Fe (w := default) (σ := fun _ => undef) (O := fun _ => False) (hp := fun _ => none) hy).1
   rw [hs.isAgg]
   rfl
  ·simp at h
def Ht (m m' : Vf) : Prop := ∀ p, p ∈ m → p ∈ m'
section
variable {w : World} {s : AS} {σ σ' : Nat → Value} {O O' : Nat → Prop} {hp' : Nat → Option Ga} {m : Vf}
structure KP (s : AS) (σ σ' : Nat → Value) (hp' : Nat → Option Ga) (m : Vf) : Prop where
 isS : ∀ j i, (j, some i) ∈ m → σ' j = σ i
 isN : ∀ j, (j, none) ∈ m → σ' j = .slice none 0 0
 isB : ∀ j i ρ d, (j, some i) ∈ m → hp' j = some (.box ρ d) → ∃ d', s.heap i = some (.box ρ d')
 isR : ∀ j i Ea r, (j, some i) ∈ m → hp' j = some Ea → Ea.rowN = some r → ∃ blk', s.heap i = some blk' ∧ blk'.rowN = some r
theorem Dv (hT : KP s σ σ' hp' m) (hO : ∀ b, b < w.heap.size → ¬ O b → ¬ O' b) : ∀ {td : TD} {d : D} {x : T td.ty} {m0 : Vf} {cs : List Value}, Mc s td d = some (x, m0) → Ht m0 m → Pa w O s.heap σ d cs →
 Pa w O' hp' σ' (Nj td x) cs := by
 intro td
 induction td with
 | data τ =>
  intro d x m0 cs h hm hr
  simp only [Mc] at h
  split at h
  ·rename_i y hy
   simp only [jc, jh] at h
   obtain ⟨rfl, _⟩ := h
   exact Ia.stable (fun _ _ _ => rfl) hO ((Fe hy).2 _ hr)
  ·simp at h
 | own id' e dp =>
  intro d x m0 cs h hm hr
  cases d with
  | own id =>
   simp only [Mc] at h
   split at h
   ·rename_i e' dp' xs hb
    split at h
    ·rename_i q hq
     subst q
     simp only [Da] at h
     obtain ⟨_, h⟩ := h
     simp only [jc, jh] at h
     obtain ⟨rfl, rfl⟩ := h
     obtain ⟨v, hcs, h1, hv⟩ := hr
     refine ⟨v, hcs, h1, fun _ _ _ _ => ?_⟩
     rw [hT.isS id' id (hm _ (by simp))]
     exact hv _ _ hb rfl
    ·simp at h
   ·simp at h
  | nil =>
   simp only [Mc, jc, jh] at h
   obtain ⟨rfl, rfl⟩ := h
   simp only [Pa] at hr
   exact ⟨_, hr, rfl, fun _ _ _ _ => (hT.isN id' (hm _ (by simp))).symm⟩
  | _ => simp [Mc] at h
 | mpo id' k v =>
  intro d x m0 cs h hm hr
  cases d with
  | mpo id =>
   simp only [Mc] at h
   split at h
   ·rename_i k' v' xs hb
    split at h
    ·rename_i q1 q2 hq1 hq2
     subst q1
     subst q2
     simp only [jc, jh] at h
     obtain ⟨rfl, rfl⟩ := h
     obtain ⟨u, hcs, h1, hv⟩ := hr
     refine ⟨u, hcs, h1, fun _ _ _ _ => ?_⟩
     rw [hT.isS id' id (hm _ (by simp))]
     exact hv _ _ _ hb
    ·simp at h
   ·simp at h
  | _ => simp [Mc] at h
 | hol id' e p τ td _ =>
  intro d x m0 cs h hm hr
  cases d with
  | own id =>
   simp only [Mc] at h
   split at h
   ·rename_i e' xs i x1 p' τ' d' hb
    split at h
    ·simp only [Da] at h
     obtain ⟨_, h⟩ := h
     split at h
     ·rename_i y m1 h1
      simp only [Da] at h
      obtain ⟨_, h⟩ := h
      simp only [jc, jh] at h
      obtain ⟨rfl, rfl⟩ := h
      obtain ⟨v, hcs, h1, hv⟩ := hr
      refine ⟨v, hcs, h1, fun _ _ _ _ => ?_⟩
      rw [hT.isS id' id (hm _ (by simp))]
      exact hv _ _ hb rfl
     ·simp at h
    ·simp at h
   ·simp at h
  | _ => simp [Mc] at h
 | arr id' e =>
  intro d x m0 cs h hm hr
  cases d with
  | eptr id i q =>
   cases i with
   | succ i => simp [Mc] at h
   | zero =>
    cases q with
    | cons _ _ => simp [Mc] at h
    | nil =>
     simp only [Mc] at h
     split at h
     ·rename_i e' xs hb
      split at h
      ·rename_i q hq
       subst q
       simp only [jc, jh] at h
       obtain ⟨rfl, rfl⟩ := h
       obtain ⟨v, hcs, h1, hv⟩ := hr
       refine ⟨v, hcs, h1, fun blk' e2 n2 hb' hr' => ?_⟩
       obtain ⟨blk0, hb0, hr0⟩ := hT.isR id' id blk' _ (hm _ (by simp)) hb' hr'
       rw [hT.isS id' id (hm _ (by simp))]
       exact hv _ _ _ hb0 hr0
      ·simp at h
     ·simp at h
  | _ => simp [Mc] at h
 | mov id' e =>
  intro d x m0 cs h hm hr
  cases d with
  | own id =>
   simp only [Mc] at h
   split at h
   ·rename_i e' xs hb
    split at h
    ·rename_i q hq
     subst q
     simp only [jc, jh] at h
     obtain ⟨rfl, rfl⟩ := h
     obtain ⟨v, hcs, h1, hv⟩ := hr
     refine ⟨v, hcs, h1, fun _ _ _ _ => ?_⟩
     rw [hT.isS id' id (hm _ (by simp))]
     exact hv _ _ hb rfl
    ·simp at h
   ·rename_i e' xs k hb
    split at h
    ·rename_i q hq
     subst q
     simp only [jc, jh] at h
     obtain ⟨rfl, rfl⟩ := h
     obtain ⟨v, hcs, h1, hv⟩ := hr
     refine ⟨v, hcs, h1, fun _ _ _ _ => ?_⟩
     rw [hT.isS id' id (hm _ (by simp))]
     exact hv _ _ hb rfl
    ·simp at h
   ·simp at h
  | _ => simp [Mc] at h
 | ptr id' p =>
  intro d x m0 cs h hm hr
  cases d with
  | ptr id q =>
   simp only [Mc, Da] at h
   obtain ⟨hpq, h⟩ := h
   simp only [jc, jh] at h
   obtain ⟨_, rfl⟩ := h
   have hpq' : p = q := by simpa using hpq
   subst hpq'
   obtain ⟨v, hcs, h1, hv⟩ := hr
   refine ⟨v, hcs, h1, fun ρ d hb => ?_⟩
   obtain ⟨d', hd'⟩ := hT.isB id' id ρ d (hm _ (by simp)) hb
   rw [hT.isS id' id (hm _ (by simp))]
   exact hv ρ d' hd'
  | _ => simp [Mc] at h
 | pr a b iha ihb =>
  intro d x m0 cs h hm hr
  simp only [Mc] at h
  split at h
  ·rename_i d1 d2 h1 h2
   split at h
   ·rename_i u l v l' h3 h4
    simp only [jc, jh] at h
    obtain ⟨rfl, rfl⟩ := h
    have key : ∃ c1 c2, cs = c1 ++ c2 ∧ Pa w O s.heap σ d1 c1 ∧ Pa w O s.heap σ d2 c2 := by
     cases d with
     | t τ v =>
      cases τ with
      | p t1 t2 =>
       simp only [D.fst, D.snd, jc] at h1 h2
       subst h1; subst h2
       exact hr
      | _ => simp [D.fst] at h1
     | pr d1' d2' =>
      simp only [D.fst, D.snd, jc] at h1 h2
      subst h1; subst h2
      exact hr
     | _ => simp [D.fst] at h1
    obtain ⟨c1, c2, hc, r1, r2⟩ := key
    exact ⟨c1, c2, hc, iha h3 (fun p hp => hm p (List.mem_append_left _ hp)) r1, ihb h4 (fun p hp => hm p (List.mem_append_right _ hp)) r2⟩
   ·simp at h
  ·simp at h
 | un =>
  intro d x m0 cs h hm hr
  simp only [Mc] at h
  split at h
  ·rename_i y hy
   exact (Fe hy).2 _ hr
  ·simp at h
theorem RK (hT : KP s σ σ' hp' m) (hO : ∀ b, b < w.heap.size → ¬ O b → ¬ O' b) {td : TD} {d : D} {x : T td.ty} {m0 : Vf} {v : Value} (h : Mc s td d = some (x, m0)) (hm : Ht m0 m) (hr : Ob w O s.heap σ d v) :
 Ob w O' hp' σ' (Nj td x) v := by
 have hne : Qc w O s.heap σ d v := by
  cases d with
  | und => cases td <;> simp [Mc, Lf, D.fst] at h
  | anyv => cases td <;> simp [Mc, Lf, D.fst] at h
  | tup ds => cases td <;> simp [Mc, Lf, D.fst] at h
  | _ => exact hr
 refine Zk ?_
 unfold Qc at hne ⊢
 rw [KI h]
 split
 ·rename_i ha
  rw [if_pos ha] at hne
  obtain ⟨cs, h1, h2⟩ := hne
  exact ⟨cs, h1, Dv hT hO h hm h2⟩
 ·rename_i ha
  rw [if_neg ha] at hne
  exact Dv hT hO h hm hne
def RB (s : AS) (m : Vf) (j : Nat) (Ea : Ga) : Prop :=
 ((j, none) ∈ m ∧ ∃ e dp, Ea = .row e dp ([] : List (T e))) ∨
 ∃ i, (j, some i) ∈ m ∧ ((∃ e dp dp' xs, Ea = .row e dp xs ∧ s.heap i = some (.row e dp' xs) ∧ (dp' = dp ∨ e.flat = true)) ∨
  (∃ ρ d td x m0, Ea = .box ρ (Nj td x) ∧ s.heap i = some (.box ρ d) ∧ Mc s td d = some (x, m0) ∧ Ht m0 m ∧ Ra ρ (Nj td x)) ∨
  (∃ e xs k x p τ d td y m0, Ea = .hol e xs k x p τ (Nj td y) ∧ s.heap i = some (.hol e xs k x p τ d) ∧ Mc s td d = some (y, m0) ∧ Ht m0 m ∧ Ra τ (Nj td y)) ∨
  (∃ e xs k, Ea = .mov e xs k ∧ (s.heap i = some (.mov e xs k) ∨ (s.heap i = some (.row e true xs) ∧ k = 0))) ∨
  ∃ k v xs, Ea = .mp k v xs ∧ s.heap i = some (.mp k v xs))
theorem Zv : ∀ {td : TD} {d : D} {x : T td.ty} {m0 : Vf}, Mc s td d = some (x, m0) → Ht m0 m → ∀ p, p ∈ Ll td x → ∃ Ea, p.2 = some Ea ∧ RB s m p.1 Ea := by
 intro td
 induction td with
 | own id' e dp =>
  intro d x m0 h hm p hp
  simp only [Ll, qe] at hp
  subst hp
  cases d with
  | own id =>
   simp only [Mc] at h
   split at h
   ·rename_i e' dp' xs hb
    split at h
    ·rename_i q hq
     subst q
     simp only [Da] at h
     obtain ⟨hc, h⟩ := h
     simp only [jc, jh] at h
     obtain ⟨rfl, rfl⟩ := h
     refine ⟨_, rfl, .inr ⟨id, hm _ (by simp), .inl ⟨_, dp, dp', _, rfl, hb, ?_⟩⟩⟩
     simpa using hc
    ·simp at h
   ·simp at h
  | nil =>
   simp only [Mc, jc, jh] at h
   obtain ⟨rfl, rfl⟩ := h
   exact ⟨_, rfl, .inl ⟨hm _ (by simp), e, dp, rfl⟩⟩
  | _ => simp [Mc] at h
 | hol id' e pth τ td ih =>
  intro d x m0 h hm p hp
  cases d with
  | own id =>
   simp only [Mc] at h
   split at h
   ·rename_i e' xs i x1 p' τ' d' hb
    split at h
    ·rename_i q1 q2 hq1 hq2
     subst q1
     obtain rfl := Sc hq2
     simp only [Da] at h
     obtain ⟨hpp, h⟩ := h
     have hpp : pth = p' := by simpa using hpp
     subst hpp
     split at h
     ·rename_i y m1 h1
      simp only [Da] at h
      obtain ⟨hsh, h⟩ := h
      simp only [jc, jh] at h
      obtain ⟨rfl, rfl⟩ := h
      simp only [Ll] at hp
      rcases jq.1 hp with rfl | hp
      ·exact ⟨_, rfl, .inr ⟨id, hm _ (by simp), .inr (.inr (.inl ⟨_, _, i, _, _, _, d', td, y, m1, by simp only [jo], hb, h1, fun p hp => hm p (js _ hp), Dh hsh⟩))⟩⟩
      ·exact ih h1 (fun p hp => hm p (js _ hp)) p hp
     ·simp at h
    ·simp at h
   ·simp at h
  | _ => simp [Mc] at h
 | pr a b iha ihb =>
  intro d x m0 h hm p hp
  simp only [Mc] at h
  split at h
  ·split at h
   ·rename_i u l v l' h3 h4
    simp only [jc, jh] at h
    obtain ⟨rfl, rfl⟩ := h
    simp only [Ll] at hp
    rcases jm.1 hp with hp | hp
    ·exact iha h3 (fun p hp => hm p (List.mem_append_left _ hp)) p hp
    ·exact ihb h4 (fun p hp => hm p (List.mem_append_right _ hp)) p hp
   ·simp at h
  ·simp at h
 | arr id' e =>
  intro d x m0 h hm p hp
  simp only [Ll, qe] at hp
  subst hp
  cases d with
  | eptr id i q =>
   cases i with
   | succ i => simp [Mc] at h
   | zero =>
    cases q with
    | cons _ _ => simp [Mc] at h
    | nil =>
     simp only [Mc] at h
     split at h
     ·rename_i e' xs hb
      split at h
      ·rename_i q hq
       subst q
       simp only [jc, jh] at h
       obtain ⟨rfl, rfl⟩ := h
       exact ⟨_, rfl, .inr ⟨id, hm _ (by simp), .inl ⟨_, true, true, _, rfl, hb, .inl rfl⟩⟩⟩
      ·simp at h
     ·simp at h
  | _ => simp [Mc] at h
 | mpo id' k v =>
  intro d x m0 h hm p hp
  simp only [Ll, qe] at hp
  subst hp
  cases d with
  | mpo id =>
   simp only [Mc] at h
   split at h
   ·rename_i k' v' xs hb
    split at h
    ·rename_i q1 q2 hq1 hq2
     subst q1
     subst q2
     simp only [jc, jh] at h
     obtain ⟨rfl, rfl⟩ := h
     exact ⟨_, rfl, .inr ⟨id, hm _ (by simp), .inr (.inr (.inr (.inr ⟨_, _, _, rfl, hb⟩)))⟩⟩
    ·simp at h
   ·simp at h
  | _ => simp [Mc] at h
 | mov id' e =>
  intro d x m0 h hm p hp
  simp only [Ll, qe] at hp
  subst hp
  cases d with
  | own id =>
   simp only [Mc] at h
   split at h
   ·rename_i e' xs hb
    split at h
    ·rename_i q hq
     subst q
     simp only [jc, jh] at h
     obtain ⟨rfl, rfl⟩ := h
     exact ⟨_, rfl, .inr ⟨id, hm _ (by simp), .inr (.inr (.inr (.inl ⟨_, _, 0, rfl, .inr ⟨hb, rfl⟩⟩)))⟩⟩
    ·simp at h
   ·rename_i e' xs k hb
    split at h
    ·rename_i q hq
     subst q
     simp only [jc, jh] at h
     obtain ⟨rfl, rfl⟩ := h
     exact ⟨_, rfl, .inr ⟨id, hm _ (by simp), .inr (.inr (.inr (.inl ⟨_, _, k, by simp only [jo], .inl hb⟩)))⟩⟩
    ·simp at h
   ·simp at h
  | _ => simp [Mc] at h
 | _ => intro d x m0 h hm p hp; simp [Ll] at hp
theorem CF : ∀ {l : List (Tmp × TD)} {x : T (Am.tyT l)} {m0 : Vf}, RG s l = some (x, m0) → Ht m0 m →
 (∀ t d', Ta (Jy l x) t = some d' → ∃ td d y m1, Ta s.tm t = some d ∧ Mc s td d = some (y, m1) ∧ Ht m1 m ∧ d' = Nj td y) ∧ (∀ p, p ∈ Ry l x → ∃ Ea, p.2 = some Ea ∧ RB s m p.1 Ea)
 | [], x, m0, h, hm => ⟨by simp [Jy, Ta], by simp [Ry]⟩
 | (t0, td) :: r, x, m0, h, hm => by
  simp only [RG] at h
  split at h
  ·rename_i d hd
   split at h
   ·rename_i y m1 z m2 h1 h2
    simp only [jc, jh] at h
    obtain ⟨rfl, rfl⟩ := h
    have hm1 : Ht m1 m := fun p hp => hm p (List.mem_append_left _ hp)
    obtain ⟨i1, i2⟩ := CF h2 (fun p hp => hm p (List.mem_append_right _ hp))
    refine ⟨fun t d' ht => ?_, fun p hp => ?_⟩
    ·simp only [Jy] at ht
     rw [Kb] at ht
     split at ht
     ·rename_i e
      subst e
      simp only [jc] at ht
      exact ⟨td, d, y, m1, hd, h1, hm1, ht.symm⟩
     ·exact i1 t d' ht
    ·simp only [Ry] at hp
     rcases jm.1 hp with hp | hp
     ·exact Zv h1 hm1 p hp
     ·exact i2 p hp
   ·simp at h
  ·simp at h
theorem BF : ∀ {l : List (Nat × Ty × TD)} {x : T (Am.tyB l)} {m0 m' : Vf}, QC s l m0 = some (x, m') → Ht m' m →
 Ht m0 m ∧ ∀ p, p ∈ Iy l x → ∃ Ea, p.2 = some Ea ∧ RB s m p.1 Ea
 | [], x, m0, m', h, hm => by
  simp only [QC, jc, jh] at h
  obtain ⟨_, rfl⟩ := h
  exact ⟨hm, by simp [Iy]⟩
 | (id', ρ, td) :: r, x, m0, m', h, hm => by
  simp only [QC] at h
  split at h
  ·rename_i id hid
   split at h
   ·rename_i ρ' d hb
    split at h
    ·rename_i q hq
     obtain rfl := q.down
     split at h
     ·rename_i y m1 h1
      simp only [Da] at h
      obtain ⟨hsh, h⟩ := h
      split at h
      ·rename_i z m2 h2
       simp only [jc, jh] at h
       obtain ⟨rfl, rfl⟩ := h
       obtain ⟨i1, i2⟩ := BF h2 hm
       have hm0 : Ht m0 m := fun p hp => i1 p (List.mem_append_left _ hp)
       have hm1 : Ht m1 m := fun p hp => i1 p (List.mem_append_right _ hp)
       refine ⟨hm0, fun p hp => ?_⟩
       simp only [Iy] at hp
       rcases jq.1 hp with rfl | hp
       ·exact ⟨_, rfl, .inr ⟨id, hm0 _ (Tk hid), .inr (.inl ⟨_, d, td, y, m1, rfl, hb, h1, hm1, Dh hsh⟩)⟩⟩
       ·rcases jm.1 hp with hp | hp
        ·exact Zv h1 hm1 p hp
        ·exact i2 p hp
      ·simp at h
     ·simp at h
    ·simp at h
   ·simp at h
  ·simp at h
end
theorem Ys : ∀ {m : Vf}, Vp m = true → ∀ j i, (j, some i) ∈ m → (j < 500000 ∧ i < 500000) ∨ j = i
 | [], _, _, _, h => by simp at h
 | (j0, some i0) :: r, hp, j, i, h => by
  simp only [Vp, jd, Bool.or_eq_true] at hp
  rcases jq.1 h with e | h
  ·simp only [jh, jc] at e
   obtain ⟨rfl, rfl⟩ := e
   rcases hp.1 with h1 | h1
   ·rw [Nat.blt_eq, Nat.blt_eq] at h1; exact .inl h1
   ·exact .inr (jv h1)
  ·exact Ys hp.2 j i h
 | (j0, none) :: r, hp, j, i, h => by
  simp only [Vp, jd] at hp
  rcases jq.1 h with e | h
  ·simp at e
  ·exact Ys hp.2 j i h
theorem Xs : ∀ {m : Vf}, Vp m = true → ∀ j, (j, none) ∈ m → j < 500000
 | [], _, _, h => by simp at h
 | (j0, some i0) :: r, hp, j, h => by
  simp only [Vp, jd] at hp
  rcases jq.1 h with e | h
  ·simp at e
  ·exact Xs hp.2 j h
 | (j0, none) :: r, hp, j, h => by
  simp only [Vp, jd] at hp
  rcases jq.1 h with e | h
  ·simp only [jh, and_true] at e
   subst e
   have := hp.1
   rwa [Nat.blt_eq] at this
  ·exact Xs hp.2 j h
theorem NF {m : Vf} (h : (m.all fun x => m.all fun y => Kp x y) = true) {x y : Nat × Option Nat} (hx : x ∈ m) (hy : y ∈ m) : Kp x y = true :=
 List.all_eq_true.1 (List.all_eq_true.1 h x hx) y hy
theorem IL {m : Vf} (h : (m.all fun x => m.all fun y => Kp x y) = true) {j : Nat} {a c : Option Nat} (hx : (j, a) ∈ m) (hy : (j, c) ∈ m) : a = c := by
 have := NF h hx hy
 unfold Kp at this
 cases a with
 | none => cases c with
  | none => rfl
  | some c => simp at this
 | some a => cases c with
  | none => simp at this
  | some c => simpa [Nat.beq_eq] using this
theorem JL {m : Vf} (h : (m.all fun x => m.all fun y => Kp x y) = true) {j j' i : Nat} (hx : (j, some i) ∈ m) (hy : (j', some i) ∈ m) : j = j' := by
 have := NF h hx hy
 unfold Kp at this
 simpa using this
theorem AA {α : Type} {j : Nat} {a : α} : ∀ {m : List (Nat × α)}, (j, a) ∈ m → ∃ c, Ta m j = some c ∧ (j, c) ∈ m
 | [], h => by simp at h
 | (j0, a0) :: r, h => by
  rw [Kb]
  by_cases hj : j0 = j
  ·subst hj; exact ⟨a0, by simp, by simp⟩
  ·rw [if_neg hj]
   rcases jq.1 h with e | h
   ·simp only [jh] at e
    exact absurd e.1.symm hj
   ·obtain ⟨c, h1, h2⟩ := AA h
    exact ⟨c, h1, js _ h2⟩
theorem Uk {m : Vf} (h : (m.all fun x => m.all fun y => Kp x y) = true) {j : Nat} {a : Option Nat} (hx : (j, a) ∈ m) : Ta m j = some a := by
 obtain ⟨c, h1, h2⟩ := AA hx
 rw [h1, IL h hx h2]
section
variable {n0 : Nat} {A : Fx} {O0 : Nat → Prop} {w0 w : World} {s : AS} {σ : Nat → Value} {φ : Nat → List Nat} {a : Act}
theorem Ev (h : La n0 A O0 w0 s σ φ a w) {p : Am} {x : p.X} (he : ext p s = some x) : ∃ σ' φ', La n0 A O0 w0 (Gq p x s.n) σ' φ' a w := by
 unfold ext at he
 split at he
 ·rename_i x1 m1 h1
  split at he
  ·rename_i x2 m h2
   simp only [Da] at he
   obtain ⟨hmo, he⟩ := he
   simp only [jc] at he
   subst he
   simp only [QM, jd] at hmo
   obtain ⟨hn1, hpo⟩ := hmo
   obtain ⟨hm1, hB⟩ := BF h2 (fun p hp => hp)
   obtain ⟨hT1, hT2⟩ := CF h1 hm1
   let σ' : Nat → Value := fun j => match Ta m j with
    | some (some i) => σ i
    | some none => .slice none 0 0
    | none => σ j
   let φ' : Nat → List Nat := fun j => match Ta m j with
    | some (some i) => φ i
    | _ => []
   have hσs : ∀ j i, (j, some i) ∈ m → σ' j = σ i ∧ φ' j = φ i := fun j i hj => by
    have := Uk hn1 hj
    simp only [σ', φ', this, and_self]
   have hσn : ∀ j, (j, none) ∈ m → σ' j = .slice none 0 0 ∧ φ' j = [] := fun j hj => by
    have := Uk hn1 hj
    simp only [σ', φ', this, and_self]
   have hent : ∀ j Ea, (Gq p (x1, x2) s.n).heap j = some Ea → RB s m j Ea := by
    intro j Ea hj
    have hmem := AS.heap_mem hj
    simp only [Gq] at hmem
    rcases jm.1 hmem with hmem | hmem
    ·obtain ⟨blk', e, hE⟩ := hT2 _ hmem
     simp only [jc] at e
     subst e
     exact hE
    ·obtain ⟨blk', e, hE⟩ := hB _ hmem
     simp only [jc] at e
     subst e
     exact hE
   have hlive : ∀ j Ea, (Gq p (x1, x2) s.n).heap j = some Ea → φ' j = [] ∨ ∃ i blk0, (j, some i) ∈ m ∧ s.heap i = some blk0 ∧ φ' j = φ i := by
    intro j Ea hj
    rcases hent j Ea hj with ⟨hn, _⟩ | ⟨i, hi, ⟨e, dp, dp', xs, _, hb, _⟩ | ⟨ρ, d, td, y, m0, _, hb, _⟩ | ⟨e, xs, k, x, p, τ, d, td, y, m0, _, hb, _⟩ | ⟨e, xs, k, _, hb | ⟨hb, _⟩⟩ | ⟨_, _, _, _, hb⟩⟩
    ·exact .inl (hσn j hn).2
    ·exact .inr ⟨i, _, hi, hb, (hσs j i hi).2⟩
    ·exact .inr ⟨i, _, hi, hb, (hσs j i hi).2⟩
    ·exact .inr ⟨i, _, hi, hb, (hσs j i hi).2⟩
    ·exact .inr ⟨i, _, hi, hb, (hσs j i hi).2⟩
    ·exact .inr ⟨i, _, hi, hb, (hσs j i hi).2⟩
    ·exact .inr ⟨i, _, hi, hb, (hσs j i hi).2⟩
   have hOO : ∀ b, b < w.heap.size → ¬ OO O0 s φ b → ¬ OO O0 (Gq p (x1, x2) s.n) φ' b := by
    rintro b _ hno (ho | ⟨j, Ea, hj, hm⟩)
    ·exact hno (.inl ho)
    ·rcases hlive j Ea hj with hφ | ⟨i, blk0, _, hb, hφ⟩
     ·rw [hφ] at hm; simp at hm
     ·rw [hφ] at hm; exact hno (.inr ⟨i, blk0, hb, hm⟩)
   have hTOk : KP s σ σ' (Gq p (x1, x2) s.n).heap m := by
    refine ⟨fun j i hj => (hσs j i hj).1, fun j hj => (hσn j hj).1, fun j i ρ d hj hb => ?_, fun j i Ea r hj hb hr => ?_⟩
    rcases hent j _ hb with ⟨hn, e, dp, hh⟩ | ⟨i', hi', ⟨e, dp, dp', xs, hh, _⟩ | ⟨ρ', d', td, y, m0, hh, hb', _⟩ | ⟨e, xs, k, x, p, τ, d', td, y, m0, hh, _⟩ | ⟨e, xs, k, hh, _⟩ | ⟨_, _, _, hh, _⟩⟩
    ·simp at hh
    ·simp at hh
    ·simp only [Ga.box.injEq] at hh
     have e1 := Uk hn1 hj
     have e2 := Uk hn1 hi'
     rw [e1] at e2
     simp only [jc] at e2
     subst e2
     exact ⟨d', by rw [hb', hh.1]⟩
    ·simp at hh
    ·simp at hh
    ·simp at hh
    ·have e1 := Uk hn1 hj
     rcases hent j _ hb with ⟨hn, _⟩ | ⟨i', hi', hx⟩
     ·have e2 := Uk hn1 hn
      rw [e1] at e2
      simp at e2
     ·have e2 := Uk hn1 hi'
      rw [e1] at e2
      simp only [jc] at e2
      subst e2
      rcases hx with ⟨e, dp, dp', xs, rfl, hb', _⟩ | ⟨ρ', d', td, y, m0, rfl, _⟩ | ⟨e, xs, k, x, p, τ, d', td, y, m0, rfl, hb', _⟩ | ⟨e, xs, k, rfl, hb' | ⟨hb', _⟩⟩ | ⟨_, _, _, rfl, _⟩
      ·exact ⟨_, hb', hr⟩
      ·simp [Ga.rowN] at hr
      ·exact ⟨_, hb', hr⟩
      ·exact ⟨_, hb', hr⟩
      ·exact ⟨_, hb', hr⟩
      ·simp [Ga.rowN] at hr
   refine ⟨σ', φ', h.sz, h.df, ?_, ?_, ?_, ?_, ?_, h.o0, h.fr, ?_, h.iv0, h.ivw⟩
   ·intro t d' hd
    obtain ⟨td, d, y, m0, g1, g2, g3, g4⟩ := hT1 t d' hd
    obtain ⟨v, hv, hr⟩ := h.tm t d g1
    rw [g4]
    exact ⟨v, hv, RK hTOk hOO g2 g3 hr⟩
   ·intro j Ea hj
    rcases hent j Ea hj with ⟨hn, e, dp, rfl⟩ | ⟨i, hi, ⟨e, dp, dp', xs, rfl, hb, hd⟩ | ⟨ρ, d, td, y, m0, rfl, hb, hex, hsub, hsh⟩ | ⟨e, xs, k, x, p, τ, d, td, y, m0, rfl, hb, hex, hsub, hsh⟩ | ⟨e, xs, k, rfl, hb⟩ | ⟨kk, vv, xs, rfl, hb⟩⟩
    ·rw [Qg, (hσn j hn).1, (hσn j hn).2]
     exact ⟨by simp, .inl ⟨rfl, rfl, rfl⟩⟩
    ·rw [Qg, (hσs j i hi).1, (hσs j i hi).2]
     have hrow := Qg.1 (h.hp i _ hb)
     have hst : ∀ dq, Nf w (OO O0 s φ) dq e xs (σ i) (φ i) → Nf w (OO O0 (Gq p (x1, x2) s.n) φ') dq e xs (σ i) (φ i) := by
      rintro dq ⟨hm, g | ⟨bl, off, cap, cur, et, Fs, g1, hh, g2, g3, g4, hF, hel⟩⟩
      ·exact ⟨hm, .inl g⟩
      ·exact ⟨hm, .inr ⟨bl, off, cap, cur, et, Fs, g1, hh, g2, g3, g4, hF, hel.stable (fun _ _ _ => rfl) hOO (fun _ _ => rfl)⟩⟩
     rcases hd with rfl | hf
     ·exact hst _ hrow
     ·have hup := hrow.up
      rw [hf, Bool.or_true] at hup
      cases dp with
      | true => exact hst _ hup
      | false =>
       cases dp' with
       | false => exact hst _ hrow
       | true =>
        have hown := Gv (h.hp i _ hb) (.inl rfl)
        exact hst _ (Qg.1 (Oz (O := OO O0 s φ) (hp := s.heap) hown hf))
    ·rw [(hσs j i hi).2]
     obtain ⟨_, b, cur, et, g1, hh, hF, hr, hsz⟩ := h.hp i _ hb
     exact ⟨hsh, b, cur, et, by rw [(hσs j i hi).1]; exact g1, hh, hF, Dv hTOk hOO hex hsub hr, hsz⟩
    ·rw [(hσs j i hi).2]
     obtain ⟨_, g1, g2, g3, bl, off, cap, cur, et, g4, g5, g6, g7, hr, hw⟩ := h.hp i _ hb
     refine ⟨hsh, g1, g2, g3, bl, off, cap, cur, et, by rw [(hσs j i hi).1]; exact g4, g5, g6, g7, Dv hTOk hOO hex hsub hr, fun w' c' h1 h2 h3 y Fy x' h4 h5 => ?_⟩
     rw [(hσs j i hi).1]
     exact hw w' c' h1 h2 h3 y Fy x' h4 h5
    ·rw [(hσs j i hi).2]
     have hm0 : Jb w (OO O0 s φ) s.heap σ i (.mov e xs k) (φ i) := by
      rcases hb with hb | ⟨hb, rfl⟩
      ·exact h.hp i _ hb
      ·exact YD (h.hp i _ hb)
     obtain ⟨hlen, ⟨g1, g2, g3⟩ | ⟨bl, off, cap, cur, et, Fs, g1, g⟩⟩ := hm0
     ·exact ⟨hlen, .inl ⟨by rw [(hσs j i hi).1]; exact g1, g2, g3⟩⟩
     ·exact ⟨hlen, .inr ⟨bl, off, cap, cur, et, Fs, by rw [(hσs j i hi).1]; exact g1, g⟩⟩
    ·rw [(hσs j i hi).2]
     obtain ⟨r, es, clk, g1, g2, g3, g4, g5⟩ := h.hp i _ hb
     exact ⟨r, es, clk, by rw [(hσs j i hi).1]; exact g1, g2, g3, Nv (fun _ _ _ => rfl) hOO ⟨g4, g5⟩⟩
   ·intro j Ea hj
    rcases hlive j Ea hj with hφ | ⟨i, blk0, _, hb, hφ⟩
    ·rw [hφ]; exact List.nodup_nil
    ·rw [hφ]; exact h.nodup i blk0 hb
   ·intro j j' Ea blk' hne hj hj' b hb hb'
    rcases hlive j Ea hj with hφ | ⟨i, blk0, hi, hbi, hφ⟩
    ·rw [hφ] at hb; simp at hb
    ·rcases hlive j' blk' hj' with hφ' | ⟨i', blk0', hi', hbi', hφ'⟩
     ·rw [hφ'] at hb'; simp at hb'
     ·rw [hφ] at hb
      rw [hφ'] at hb'
      by_cases hii : i = i'
      ·subst hii
       exact hne (JL hn1 hi hi')
      ·exact h.disj i i' blk0 blk0' hii hbi hbi' b hb hb'
   ·intro j Ea hj b hb
    rcases hlive j Ea hj with hφ | ⟨i, blk0, _, hbi, hφ⟩
    ·rw [hφ] at hb; simp at hb
    ·rw [hφ] at hb; exact h.fresh i blk0 hbi b hb
   ·intro j v hv
    have hlow := A.low j v hv
    show σ' j = v
    simp only [σ']
    split
    ·rename_i i hg
     rcases Ys hpo j i (Tk hg) with ⟨hj, _⟩ | rfl
     ·omega
     ·exact h.pin _ v hv
    ·rename_i hg
     have := Xs hpo j (Tk hg)
     omega
    ·exact h.pin j v hv
  ·simp at he
 ·simp at he
end
def PP : Ex → Exit
 | .normal => .normal
 | .exit id => .exit id
 | .ret => .ret
def Rp {X R : Type} (step : X → Option (X ⊕ R)) : Nat → X → R → Prop
 | 0, _, _ => False
 | n + 1, x, r => step x = some (.inr r) ∨ ∃ x', step x = some (.inl x') ∧ Rp step n x' r
def Tc : Code → List Code
 | .seq a b => Tc a ++ Tc b
 | .cond _ a b => Tc a ++ Tc b
 | .block _ c => Tc c
 | .loop c => c :: Tc c
 | _ => []
def Xc (G : Zc) (L : List (Nat × Ub)) (b : Code) : Prop :=
 ∀ r ls, Dg b = some r → Ta L r = some ls → ∀ x y, ls.F x = some y → ∃ m, Rp (Xq G L ls b) m x y
section
variable {P : Program} {n0 : Nat} {A : Fx} {O0 : Nat → Prop} {w0 : World} {G : Zc} {L : List (Nat × Ub)}
theorem PC (hG : Ug P A.I G) (hfz : Lt G A) (hm : P.follows .mixedOrders = true) : ∀ (c : Code), (∀ b, b ∈ Tc c → Xc G L b) → ∀ {Out : Type} {k : Ex → AS → Option Out} {out : Out} {s : AS} {σ : Nat → Value} {φ : Nat → List Nat} {a : Act} {w : World} {Q : Exit → Act → World → Prop},
 Lk G L c s k = some out → La n0 A O0 w0 s σ φ a w → (∀ e s σ φ a w, k e s = some out → La n0 A O0 w0 s σ φ a w → Q (PP e) a w) → c.wp P Q a w := by
 intro c
 induction c with
 | skip =>
  intro _ Out k out s σ φ a w Q he h hQ
  simp only [Lk] at he
  exact wp_skip (hQ .normal s σ φ a w he h)
 | region id ops draw =>
  intro _ Out k out s σ φ a w Q he h hQ
  simp only [Lk] at he
  split at he
  ·rename_i s1 h1
   obtain ⟨φ1, hc⟩ := Bo hfz h h1
   refine MJ (k := fun s' => match Cr G.fz (It G.att) G.att (1000 * id + 999) s' with
    | some s' => k .normal s'
    | none => none) hG hfz hm hc he fun a w ⟨s', σ', φ', h2, h3⟩ => ?_
   simp only at h2
   split at h2
   ·rename_i s2 h4
    obtain ⟨φ2, hc2⟩ := Bo hfz h3 h4
    exact hQ .normal _ σ' φ2 a w h2 hc2
   ·simp at h2
  ·simp at he
 | seq x y ihx ihy =>
  intro hL Out k out s σ φ a w Q he h hQ
  simp only [Lk] at he
  refine wp_seq (ihx (fun b hb => hL b (by simp [Tc, hb])) he h fun e s' σ' φ' a' w' hk h' => ?_)
  cases e with
  | normal => exact ihy (fun b hb => hL b (by simp [Tc, hb])) hk h' hQ
  | exit j => exact hQ (.exit j) s' σ' φ' a' w' hk h'
  | ret => exact hQ .ret s' σ' φ' a' w' hk h'
 | cond x y z ihy ihz =>
  intro hL Out k out s σ φ a w Q he h hQ
  cases x with
  | tmp t =>
   simp only [Lk] at he
   split at he
   ·rename_i β hd
    have hs := h.same hd
    obtain ⟨v, hv, hr⟩ := h.tm t _ hd
    rw [Gf] at hr
    subst hr
    have hev : a.eval (.tmp t) = .bool β := by
     simp only [Act.eval]
     rw [Array.getD_eq_getD_getElem?, hv]
     rfl
    refine wp_cond_split hev (fun hb => ?_) (fun hb => ?_)
    ·subst hb
     simp only [cond_true] at he
     exact ihy (fun b hb => hL b (by simp [Tc, hb])) he hs hQ
    ·subst hb
     simp only [cond_false] at he
     exact ihz (fun b hb => hL b (by simp [Tc, hb])) he hs hQ
   ·simp at he
  | const cv =>
   cases cv with
   | bool β =>
    simp only [Lk] at he
    refine wp_cond_split (show a.eval (.const (.bool β)) = .bool β from rfl) (fun hb => ?_) (fun hb => ?_)
    ·subst hb
     simp only [cond_true] at he
     exact ihy (fun b hb => hL b (by simp [Tc, hb])) he h hQ
    ·subst hb
     simp only [cond_false] at he
     exact ihz (fun b hb => hL b (by simp [Tc, hb])) he h hQ
   | _ => simp [Lk] at he
  | _ => simp [Lk] at he
 | block id c ih =>
  intro hL Out k out s σ φ a w Q he h hQ
  simp only [Lk] at he
  refine wp_block (ih (fun b hb => hL b (by simpa [Tc] using hb)) he h fun e s' σ' φ' a' w' hk h' => ?_)
  cases e with
  | normal => exact hQ .normal s' σ' φ' a' w' hk h'
  | exit j =>
   simp only [PP, Exit.inBlock]
   cases hb : Nat.beq j id with
   | true =>
    rw [if_pos (jv hb)]
    simp only [hb, cond_true] at hk
    exact hQ .normal s' σ' φ' a' w' hk h'
   | false =>
    rw [if_neg (fun e => by rw [e, Nat.beq_refl] at hb; simp at hb)]
    simp only [hb, cond_false] at hk
    exact hQ (.exit j) s' σ' φ' a' w' hk h'
  | ret => exact hQ .ret s' σ' φ' a' w' hk h'
 | exit id =>
  intro _ Out k out s σ φ a w Q he h hQ
  simp only [Lk] at he
  exact wp_exit (hQ (.exit id) s σ φ a w he h)
 | ret =>
  intro _ Out k out s σ φ a w Q he h hQ
  simp only [Lk] at he
  exact wp_ret (hQ .ret s σ φ a w he h)
 | loop c ih =>
  intro hL Out k out s σ φ a w Q he h hQ
  simp only [Lk] at he
  split at he
  ·rename_i r hr
   split at he
   ·rename_i ls hls
    split at he
    ·rename_i x hx
     simp only [Da] at he
     obtain ⟨hn, he⟩ := he
     have hn := jv hn
     rw [qg] at he
     obtain ⟨y, hy, he⟩ := he
     obtain ⟨m, hit⟩ := hL c (by simp [Tc]) r ls hr hls x y hy
     obtain ⟨σ1, φ1, h1⟩ := Ev h hx
     rw [hn] at h1 he
     refine wp_loop_rounds m ?_
     have key : ∀ (m : Nat) (x : ls.inT.X) (σ : Nat → Value) (φ : Nat → List Nat) (a : Act) (w : World), Rp (Xq G L ls c) m x y → La n0 A O0 w0 (Gq ls.inT x ls.n) σ φ a w → Code.rounds P c Q m a w := by
      intro m
      induction m with
      | zero => intro x σ φ a w hit _; exact hit.elim
      | succ m ihm =>
       intro x σ φ a w hit h
       rw [rounds_succ]
       have body : ∀ z, Xq G L ls c x = some z → (z = .inr y ∨ ∃ x', z = .inl x' ∧ Rp (Xq G L ls c) m x' y) → c.wp P (Exit.then (Code.rounds P c Q m) Q) a w := by
        intro z hz hzy
        unfold Xq at hz
        refine ih (fun b hb => hL b (by simp [Tc, hb])) hz h fun e s' σ' φ' a' w' hk h' => ?_
        simp only [Da] at hk
        obtain ⟨hn', hk⟩ := hk
        have hn' := jv hn'
        cases e with
        | normal =>
         simp only at hk
         split at hk
         ·rename_i x' hx'
          simp only [jc] at hk
          obtain ⟨σ2, φ2, h2⟩ := Ev h' hx'
          rw [hn'] at h2
          rcases hzy with hzy | ⟨x'', hzy, hit'⟩
          ·rw [hzy] at hk; simp at hk
          ·rw [hzy] at hk
           simp only [Sum.inl.injEq] at hk
           subst hk
           exact ihm x' σ2 φ2 a' w' hit' h2
         ·simp at hk
        | exit j =>
         simp only [Da] at hk
         obtain ⟨hj, hk⟩ := hk
         have hj := jv hj
         split at hk
         ·rename_i y' hy'
          simp only [jc] at hk
          obtain ⟨σ2, φ2, h2⟩ := Ev h' hy'
          rw [hn'] at h2
          rcases hzy with hzy | ⟨x'', hzy, _⟩
          ·rw [hzy] at hk
           simp only [Sum.inr.injEq] at hk
           subst hk
           simp only [qk] at he
           show Q (.exit j) a' w'
           rw [hj]
           exact hQ (.exit ls.exitId) _ σ2 φ2 a' w' he h2
          ·rw [hzy] at hk; simp at hk
         ·simp at hk
        | ret =>
         simp only at hk
         split at hk
         ·rename_i y' hy'
          simp only [jc] at hk
          obtain ⟨σ2, φ2, h2⟩ := Ev h' hy'
          rw [hn'] at h2
          rcases hzy with hzy | ⟨x'', hzy, _⟩
          ·rw [hzy] at hk
           simp only [Sum.inr.injEq] at hk
           subst hk
           simp only [Sum.elim_inr] at he
           exact hQ .ret _ σ2 φ2 a' w' he h2
          ·rw [hzy] at hk; simp at hk
         ·simp at hk
       rcases hit with hit | ⟨x', hit, hit'⟩
       ·exact body _ hit (.inl rfl)
       ·exact body _ hit (.inr ⟨x', rfl, hit'⟩)
     exact key m x σ1 φ1 a w hit h1
    ·simp at he
   ·simp at he
  ·simp at he
 | _ => intros; rename_i he _ _; simp [Lk] at he
end
theorem Rb.mono {w : World} {O O' : Nat → Prop} (hO : ∀ b, O' b → O b) : ∀ {rt : Ty} {r : T rt} {fr : List Bool} {vs : List Value} {F : List Nat}, Rb w O rt r fr vs F → Rb w O' rt r fr vs F
 | .u, _, [], [], _, h => h
 | .p x y, r, f :: fr, v :: vs, F, h => by
  obtain ⟨cs, F1, F2, hv, hF, h1, h2⟩ := h
  refine ⟨cs, F1, F2, hv, hF, ?_, Rb.mono hO h2⟩
  cases f with
  | true => exact h1
  | false =>
   simp only [jr, if_false] at h1 ⊢
   exact ⟨h1.1.weaken hO, h1.2⟩
 | .u, _, _ :: _, _, _, h => by simp [Rb] at h
 | .u, _, [], _ :: _, _, h => by simp [Rb] at h
 | .p _ _, _, [], _, _, h => by simp [Rb] at h
 | .p _ _, _, _ :: _, [], _, h => by simp [Rb] at h
 | .i _, _, fr, vs, _, h => by simp [Rb] at h
 | .b, _, fr, vs, _, h => by simp [Rb] at h
 | .o, _, fr, vs, _, h => by simp [Rb] at h
 | .mp _ _, _, fr, vs, _, h => by simp [Rb] at h
 | .s, _, fr, vs, _, h => by simp [Rb] at h
 | .sl _, _, fr, vs, _, h => by simp [Rb] at h
section
variable {P : Program} {n0 : Nat} {A : Fx} {O0 : Nat → Prop} {w0 w : World} {s : AS} {σ : Nat → Value} {φ : Nat → List Nat} {a : Act} {G : Zc} {L : List (Nat × Ub)}
def RU (w : World) (O : Nat → Prop) (hp : Nat → Option Ga) (σ : Nat → Value) : D → List Value → Prop
 | .pr a b, v :: vs => Ob w O hp σ a v ∧ RU w O hp σ b vs
 | .un, [] => True
 | _, _ => False
def Lu (tmps : Array Value) : ResultVar → Sem Value
 | .tmp t => pure (tmps.getD t undef)
 | .cell a t => do loadVar t (← asAddr (tmps.getD a undef))
theorem Lq (hG : EnvTy P G) (h : La n0 A O0 w0 s σ φ a w) : ∀ {rs : List ResultVar} {d : D}, Lm G s rs = some d → ∃ vs, (rs.mapM (Lu a.tmps)).run P w = .ok vs w ∧ RU w (OO O0 s φ) s.heap σ d vs
 | [], d, he => by
  simp only [Lm, jc] at he
  subst he
  exact ⟨[], by simp, trivial⟩
 | .tmp t :: r, d, he => by
  simp only [Lm] at he
  split at he
  ·rename_i d1 d2 h1 h2
   simp only [jc] at he
   subst he
   obtain ⟨vs, hvs, hr⟩ := Lq hG h h2
   obtain ⟨v, hv, hru⟩ := h.tm t d1 h1
   have hg : a.tmps.getD t undef = v := by rw [Array.getD_eq_getD_getElem?, hv]; rfl
   refine ⟨v :: vs, ?_, hru, hr⟩
   rw [List.mapM_cons]
   simp only [Lu, qt, Sem.run_pure, qs, hvs, hg]
  ·simp at he
 | .cell t ty :: r, d, he => by
  simp only [Lm] at he
  split at he
  ·rename_i id d2 h1 h2
   split at he
   ·rename_i ρ d1 τ hb hty
    split at he
    ·rename_i q hq
     obtain rfl := q.down
     simp only [jc] at he
     subst he
     obtain ⟨vs, hvs, hr⟩ := Lq hG h h2
     obtain ⟨v, hv, hru⟩ := h.tm t _ h1
     have hg : a.tmps.getD t undef = v := by rw [Array.getD_eq_getD_getElem?, hv]; rfl
     rw [Li] at hru
     obtain ⟨b, hσ, hv'⟩ := hru.2 _ _ hb
     obtain ⟨hs, b', cur, et, hσ', hh, hF, hrep, hsz⟩ := h.hp id _ hb
     rw [hσ] at hσ'
     simp at hσ'
     subst hσ'
     have hl := Cj (P := P) (hG.ty _ _ hty) (off := 0) hh (by omega)
     have hseg : Ic cur 0 ρ.size = cur.toList := by rw [← hsz]; exact UN cur
     rw [hseg] at hl
     refine ⟨Ec ρ cur.toList :: vs, ?_, Mi hs hrep, hr⟩
     rw [List.mapM_cons]
     have hoff : Sa ρ [] = 0 := rfl
     rw [hoff] at hv'
     subst hv'
     simp only [Lu, qt, Sem.run_pure, qs, hvs, hg, asAddr, hl]
    ·simp at he
   ·simp at he
  ·simp at he
theorem Rz (h : La n0 A O0 w0 s σ φ a w) : ∀ {rt : Ty} {fr : List Bool} {d : D} {r : T rt} {l : List Nat} {vs : List Value}, Be s rt fr d = some (r, l) → RU w (OO O0 s φ) s.heap σ d vs →
 Rb w (OO O0 s φ) rt r fr vs (Ba φ l) ∧ ∀ j, j ∈ l → ∃ b, s.heap j = some b
 | .u, [], .un, r, l, vs, he, hr => by
  simp only [Be, jc, jh] at he
  obtain ⟨_, rfl⟩ := he
  cases vs with
  | nil => exact ⟨by simp [Rb, Ba], by simp⟩
  | cons v vs => simp [RU] at hr
 | .p x y, f :: fr, .pr d1 d2, r, l, vs, he, hr => by
  cases vs with
  | nil => simp [RU] at hr
  | cons v vs =>
   simp only [Be] at he
   split at he
   ·rename_i u l1 z l2 h1 h2
    simp only [jc, jh] at he
    obtain ⟨rfl, rfl⟩ := he
    obtain ⟨g1, g2⟩ := Rz h h2 hr.2
    cases f with
    | true =>
     simp only [cond_true] at h1
     obtain ⟨hrep, hv⟩ := Wc (Eg h1) hr.1
     obtain ⟨ho, hl⟩ := Uh h h1 hrep
     refine ⟨⟨_, Ba φ l1, Ba φ l2, hv, Hc, ?_, g1⟩, ?_⟩
     ·simpa using ho
     ·intro j hj
      rcases jm.1 hj with hj | hj
      ·exact hl j hj
      ·exact g2 j hj
    | false =>
     simp only [cond_false] at h1
     split at h1
     ·rename_i u' hu
      simp only [jc, jh] at h1
      obtain ⟨rfl, rfl⟩ := h1
      obtain ⟨hs, hvw⟩ := Fe (w := w) (O := OO O0 s φ) (hp := s.heap) (σ := σ) hu
      obtain ⟨hrep, hv⟩ := Wc hs hr.1
      refine ⟨⟨_, [], Ba φ l2, hv, by simp [Ba], ?_, g1⟩, by simpa using g2⟩
      simpa using hvw _ hrep
     ·simp at h1
   ·simp at he
 | .u, _ :: _, d, _, _, _, he, _ => by cases d <;> simp [Be] at he
 | .u, [], .und, _, _, _, he, _ => by simp [Be] at he
 | .u, [], .anyv, _, _, _, he, _ => by simp [Be] at he
 | .u, [], .mpo _, _, _, _, he, _ => by simp [Be] at he
 | .u, [], .t _ _, _, _, _, he, _ => by simp [Be] at he
 | .u, [], .nil, _, _, _, he, _ => by simp [Be] at he
 | .u, [], .own _, _, _, _, he, _ => by simp [Be] at he
 | .u, [], .ptr _ _, _, _, _, he, _ => by simp [Be] at he
 | .u, [], .eptr _ _ _, _, _, _, he, _ => by simp [Be] at he
 | .u, [], .rp _ _, _, _, _, he, _ => by simp [Be] at he
 | .u, [], .pr _ _, _, _, _, he, _ => by simp [Be] at he
 | .u, [], .tup _, _, _, _, he, _ => by simp [Be] at he
 | .p _ _, [], d, _, _, _, he, _ => by cases d <;> simp [Be] at he
 | .p _ _, _ :: _, .und, _, _, _, he, _ => by simp [Be] at he
 | .p _ _, _ :: _, .anyv, _, _, _, he, _ => by simp [Be] at he
 | .p _ _, _ :: _, .mpo _, _, _, _, he, _ => by simp [Be] at he
 | .p _ _, _ :: _, .t _ _, _, _, _, he, _ => by simp [Be] at he
 | .p _ _, _ :: _, .nil, _, _, _, he, _ => by simp [Be] at he
 | .p _ _, _ :: _, .own _, _, _, _, he, _ => by simp [Be] at he
 | .p _ _, _ :: _, .ptr _ _, _, _, _, he, _ => by simp [Be] at he
 | .p _ _, _ :: _, .eptr _ _ _, _, _, _, he, _ => by simp [Be] at he
 | .p _ _, _ :: _, .rp _ _, _, _, _, he, _ => by simp [Be] at he
 | .p _ _, _ :: _, .un, _, _, _, he, _ => by simp [Be] at he
 | .p _ _, _ :: _, .tup _, _, _, _, he, _ => by simp [Be] at he
 | .i _, fr, d, _, _, _, he, _ => by cases fr <;> cases d <;> simp [Be] at he
 | .b, fr, d, _, _, _, he, _ => by cases fr <;> cases d <;> simp [Be] at he
 | .o, fr, d, _, _, _, he, _ => by cases fr <;> cases d <;> simp [Be] at he
 | .mp _ _, fr, d, _, _, _, he, _ => by cases fr <;> cases d <;> simp [Be] at he
 | .s, fr, d, _, _, _, he, _ => by cases fr <;> cases d <;> simp [Be] at he
 | .sl _, fr, d, _, _, _, he, _ => by cases fr <;> cases d <;> simp [Be] at he
theorem Ir {fn : Func} {vs : List Value} (h : (fn.results.toList.mapM (Lu a.tmps)).run P w = .ok vs w) : (results fn a.tmps).run P w = .ok (Hq vs) w := by
 unfold results
 rw [Array.mapM_eq_mapM_toList]
 simp only [map_eq_pure_bind, bind_assoc, pure_bind, qt, Sem.run_pure]
 show (Sem.run P (List.mapM (Lu a.tmps) fn.results.toList) w).andThen (fun vs w' => Result.ok (if h : vs.toArray.size = 1 then vs.toArray[0] else Value.tuple vs.toArray) w') = _
 rw [h]
 simp only [qs]
 congr 1
 cases vs with
 | nil => rfl
 | cons v vs => cases vs <;> rfl
end
def Ty.npar : Ty → Nat
 | .p _ y => y.npar + 1
 | _ => 0
theorem Zq {w : World} {O : Nat → Prop} : ∀ {pt : Ty} {x : T pt} {args : List Value}, De w O pt x args → args.length = pt.npar
 | .u, _, [], _ => rfl
 | .p x y, v, a :: r, h => by simp [Ty.npar, Zq h.2]
 | .u, _, _ :: _, h => by simp [De] at h
 | .p _ _, _, [], h => by simp [De] at h
 | .i _, _, l, h => by simp [De] at h
 | .b, _, l, h => by simp [De] at h
 | .o, _, l, h => by simp [De] at h
 | .mp _ _, _, l, h => by simp [De] at h
 | .s, _, l, h => by simp [De] at h
 | .sl _, _, l, h => by simp [De] at h
theorem Vs {w : World} {O : Nat → Prop} {hp : Nat → Option Ga} {σ : Nat → Value} : ∀ {pt : Ty} {x : T pt} {args : List Value} {n t : Nat} {d : D}, De w O pt x args → Ta (Mk pt x n) t = some d →
 ∃ j v, t = n + j ∧ args[j]? = some v ∧ Ob w O hp σ d v
 | .p x y, v, a :: r, n, t, d, h, hd => by
  simp only [Mk] at hd
  rw [Kb] at hd
  split at hd
  ·rename_i e
   simp only [jc] at hd
   subst hd
   obtain ⟨⟨cs, ha, hv⟩, _⟩ := h
   refine ⟨0, a, by omega, rfl, ?_⟩
   rw [ha]
   exact Mi (τ := x) (by simp [Ra]) hv
  ·obtain ⟨j, v', h1, h2, h3⟩ := Vs (hp := hp) (σ := σ) h.2 hd
   exact ⟨j + 1, v', by omega, by simpa using h2, h3⟩
 | .p _ _, _, [], _, _, _, h, _ => by simp [De] at h
 | .u, _, _, _, _, _, _, hd => by simp [Mk, Ta] at hd
 | .i _, _, _, _, _, _, h, _ => by simp [De] at h
 | .b, _, _, _, _, _, h, _ => by simp [De] at h
 | .o, _, _, _, _, _, h, _ => by simp [De] at h
 | .mp _ _, _, _, _, _, _, h, _ => by simp [De] at h
 | .s, _, _, _, _, _, h, _ => by simp [De] at h
 | .sl _, _, _, _, _, _, h, _ => by simp [De] at h
section
variable {P : Program} {G : Zc} {L : List (Nat × Ub)}
variable {I : Bh}
def Lz (I : Bh) : Fx := ⟨fun _ => False, fun _ => none, fun _ _ h => by simp at h, I, fun _ h => h.elim⟩
theorem TL (hG : Ug P I G) (hm : P.follows .mixedOrders = true) {f : FuncId} {fn : Func} {c : Code} (hf : P.funcs[f]? = some fn) (hb : fn.body = some c) (hname : (fn.name == "runtime.NumGoroutine") = false)
 (hL : ∀ b, b ∈ Tc c → Xc G L b) {pt rt : Ty} {fr : List Bool} {F : T pt → Option (T rt)} (hn : pt.npar ≤ fn.ntmps) (hF : ∀ x r, F x = some r → FI G L fn pt rt fr x = some r) : Jm P I f (.pu pt rt fr F) := by
 refine ⟨⟨fn, hf, hname, by rw [hb]; rfl⟩, ?_⟩
 intro O w x r args hx hargs hO hI hB
 have he := hF x r hx
 unfold FI at he
 rw [hb] at he
 simp only at he
 refine calls_of_wp hf hb ?_
 have hlen := Zq hargs
 have hc : La w.heap.size (Lz I) O w ⟨fn.ntmps, Mk pt x 0, []⟩ (fun _ => undef) (fun _ => []) { tmps := args.toArray ++ Array.replicate (fn.ntmps - args.toArray.size) undef, defers := [] } w := by
  have hh : ∀ id, AS.heap ⟨fn.ntmps, Mk pt x 0, []⟩ id = none := fun id => rfl
  refine ⟨?_, rfl, ?_, ?_, ?_, ?_, ?_, hO, ⟨rfl, rfl, rfl, jp _, fun _ _ _ => rfl⟩, ?_, hB, hI⟩
  ·simp; omega
  ·intro t d hd
   have hOO : OO O ⟨fn.ntmps, Mk pt x 0, []⟩ (fun _ => []) = O := by
    funext b
    simp [OO, hh]
   rw [hOO]
   obtain ⟨j, v, h1, h2, h3⟩ := Vs hargs hd
   refine ⟨v, ?_, h3⟩
   have hj : j < args.length := (List.getElem?_eq_some_iff.1 h2).1
   have : t = j := by omega
   subst this
   rw [Array.getElem?_append_left (by simpa using hj)]
   simpa using h2
  ·intro id Ea hb; rw [hh] at hb; simp at hb
  ·intro id Ea hb; rw [hh] at hb; simp at hb
  ·intro id id' Ea blk' _ hb; rw [hh] at hb; simp at hb
  ·intro id Ea hb; rw [hh] at hb; simp at hb
  ·intro id v hv; simp [Lz] at hv
 refine PC (A := Lz I) hG (fun _ => .inl fun _ h => h) hm c hL he hc ?_
 intro e s σ φ a w' hk h
 have Re : (match Lm G s fn.results.toList with
  | some d => match Be s rt fr d with
   | some (r, l) => bif He l then some r else none
   | none => none
  | none => none) = some r → a.defers = [] ∧ ∃ v, (results fn a.tmps).run P w' = .ok v w' ∧ Hl (fun v w' => ∃ vs Fr, v = Hq vs ∧ Zn w w' (fun _ => False) ∧ Rb w' (fun b => O b ∨ b ∈ Fr) rt r fr vs Fr ∧ Fr.Nodup ∧ ∀ b ∈ Fr, w.heap.size ≤ b) (.returned v) w' := by
  intro hk
  split at hk
  ·rename_i d hd
   split at hk
   ·rename_i r' l hr
    simp only [Da] at hk
    obtain ⟨hnd, hk⟩ := hk
    simp only [jc] at hk
    subst hk
    have hnd := Sf hnd
    obtain ⟨vs, hvs, hru⟩ := Lq hG.toEnvTy h hd
    obtain ⟨hR, hlive⟩ := Rz h hr hru
    refine ⟨h.df, _, Ir hvs, vs, Ba φ l, rfl, ⟨h.fr.size, fun b hb _ => h.fr.block b hb (fun h => h), h.fr.os, h.fr.tape, h.fr.output⟩, hR.mono ?_, Ie h hnd hlive, ?_⟩
    ·rintro b (hb | hb)
     ·exact .inl hb
     ·obtain ⟨j, hj, hm'⟩ := Va.1 hb
      obtain ⟨Ea, hbj⟩ := hlive j hj
      exact .inr ⟨j, Ea, hbj, hm'⟩
    ·intro b hb
     obtain ⟨j, hj, hm'⟩ := Va.1 hb
     obtain ⟨Ea, hbj⟩ := hlive j hj
     exact (h.fresh j Ea hbj b hm').resolve_right (fun h => h)
   ·simp at hk
  ·simp at hk
 cases e with
 | normal => exact Re hk
 | ret => exact Re hk
 | exit j => simp at hk
end
theorem Qt {φ : Nat → List Nat} : ∀ {L : List Nat}, (Ba φ L).Nodup → ∀ {i j b : Nat}, i ∈ L → j ∈ L → i ≠ j → b ∈ φ i → b ∉ φ j
 | [], _, _, _, _, h, _, _, _ => by simp at h
 | x :: L, hn, i, j, b, hi, hj, hne, hb => by
  intro hb'
  have hx : Ba φ (x :: L) = φ x ++ Ba φ L := by simp [Ba]
  rw [hx, List.nodup_append] at hn
  rcases jq.1 hi with e1 | q1
  ·rcases jq.1 hj with e2 | q2
   ·exact hne (e1.trans e2.symm)
   ·exact hn.2.2 b (e1 ▸ hb) b (Va.2 ⟨j, q2, hb'⟩) rfl
  ·rcases jq.1 hj with e2 | q2
   ·exact hn.2.2 b (e2 ▸ hb') b (Va.2 ⟨i, q1, hb⟩) rfl
   ·exact Qt hn.2.1 q1 q2 hne hb hb'
section
variable {P : Program} {G : Zc} {L : List (Nat × Ub)} {I : Bh}
end
def Ws : (pt : Ty) → T pt → Nat → Nat → List (Nat × D) × List (Nat × Option Ga) × Nat
 | .p x y, v, t, n => match Lc x v.1 n with
  | (d, l, m) => match Ws y v.2 (t + 1) m with
   | (tm, l', m') => ((t, d) :: tm, l ++ l', m')
 | _, _, _, n => ([], [], n)
def XB (G : Zc) (L : List (Nat × Ub)) (fn : Func) (vw cv : Bool) (τ pt rt : Ty) (fr : List Bool) (x0 : T τ) (x : T pt) : Option (T τ × T rt) :=
 match fn.body with
 | some c => match (bif vw then (D.t τ x0, [], 400000) else Lc τ x0 400000) with
  | (d0, rows, m) => match (bif cv then Ws pt x 1 m else (Mk pt x 1, [], m)) with
   | (tm, rows2, m2) => bif jy m2 500000 then Lk G L c ⟨fn.ntmps, (0, .ptr 500000 []) :: tm, (500000, some (.box τ d0)) :: (rows ++ rows2)⟩ fun e s => match e with
    | .exit _ => none
    | _ => match s.heap 500000, Lm G s fn.results.toList with
     | some (.box τ' d1), some d => match Ty.dec τ' τ, (bif vw then (match Lf d1 τ with
      | some y => some (y, [])
      | none => none) else Eb s d1 τ), Be s rt fr d with
      | some _, some (x', l0), some (r, l) => bif He (500000 :: (l0 ++ l)) then some (x', r) else none
      | _, _, _ => none
     | _, _ => none
    else none
 | none => none
theorem UA {w : World} : ∀ {pt : Ty} {x : T pt} {args : List Value} {F : List Nat}, Jd w pt x args F → args.length = pt.npar
 | .u, _, [], _, _ => rfl
 | .p x y, v, a :: r, F, h => by
  obtain ⟨cs, F1, F2, _, _, _, h⟩ := h
  simp [Ty.npar, UA h]
 | .u, _, _ :: _, _, h => by simp [Jd] at h
 | .p _ _, _, [], _, h => by simp [Jd] at h
 | .i _, _, l, _, h => by simp [Jd] at h
 | .b, _, l, _, h => by simp [Jd] at h
 | .o, _, l, _, h => by simp [Jd] at h
 | .mp _ _, _, l, _, h => by simp [Jd] at h
 | .s, _, l, _, h => by simp [Jd] at h
 | .sl _, _, l, _, h => by simp [Jd] at h
theorem Jd.lt {w : World} : ∀ {pt : Ty} {x : T pt} {args : List Value} {F : List Nat}, Jd w pt x args F → ∀ b, b ∈ F → b < w.heap.size
 | .u, _, [], F, h, b, hb => by simp only [Jd] at h; subst h; simp at hb
 | .p x y, v, a :: r, F, h, b, hb => by
  obtain ⟨cs, F1, F2, _, rfl, ho, h⟩ := h
  rcases jm.1 hb with hb | hb
  ·exact ho.lt b hb
  ·exact Jd.lt h b hb
 | .u, _, _ :: _, _, h, _, _ => by simp [Jd] at h
 | .p _ _, _, [], _, h, _, _ => by simp [Jd] at h
 | .i _, _, l, _, h, _, _ => by simp [Jd] at h
 | .b, _, l, _, h, _, _ => by simp [Jd] at h
 | .o, _, l, _, h, _, _ => by simp [Jd] at h
 | .mp _ _, _, l, _, h, _, _ => by simp [Jd] at h
 | .s, _, l, _, h, _, _ => by simp [Jd] at h
 | .sl _, _, l, _, h, _, _ => by simp [Jd] at h
theorem QD {w : World} : ∀ {pt : Ty} {x : T pt} {args : List Value} {F : List Nat} {t n m : Nat} {tm : List (Nat × D)} {l : List (Nat × Option Ga)}, Ws pt x t n = (tm, l, m) → Jd w pt x args F →
 n ≤ m ∧ (∀ p, p ∈ l → n ≤ p.1 ∧ p.1 < m) ∧ ∃ (ψ : Nat → List Nat) (ν : Nat → Value), Ba ψ (l.map (·.1)) = F ∧ (∀ p, p ∈ l → ∃ e xs, p.2 = some (.row e true xs) ∧ Gb w (.sl e) xs [ν p.1] (ψ p.1)) ∧
  ∀ (hp' : Nat → Option Ga) (σ' : Nat → Value) (O' : Nat → Prop), (∀ p, p ∈ l → σ' p.1 = ν p.1) → ∀ t' d, Ta tm t' = some d → ∃ j v, t' = t + j ∧ args[j]? = some v ∧ Ob w O' hp' σ' d v
 | .u, x, [], F, t, n, m, tm, l, he, h => by
  simp only [Ws, jh] at he
  obtain ⟨rfl, rfl, rfl⟩ := he
  simp only [Jd] at h
  exact ⟨jp _, by simp, fun _ => [], fun _ => undef, by simp [Ba, h], by simp, fun _ _ _ _ t' d hd => by simp [Ta] at hd⟩
 | .p t1 t2, x, a :: r, F, t, n, m, tm, l, he, h => by
  obtain ⟨cs, F1, F2, ha, hF, ho, hr⟩ := h
  simp only [Ws] at he
  rcases ho1 : Lc t1 x.1 n with ⟨d1, l1, m1⟩
  rcases ho2 : Ws t2 x.2 (t + 1) m1 with ⟨tm2, l2, m2⟩
  rw [ho1] at he
  simp only at he
  rw [ho2] at he
  simp only [jh] at he
  obtain ⟨rfl, rfl, rfl⟩ := he
  obtain ⟨a1, a2, a3, ψ1, ν1, a4, a5, a6⟩ := Xk ho1 ho
  obtain ⟨b1, b2, ψ2, ν2, b4, b5, b6⟩ := QD ho2 hr
  refine ⟨by omega, ?_, fun id => if id < m1 then ψ1 id else ψ2 id, fun id => if id < m1 then ν1 id else ν2 id, ?_, ?_, ?_⟩
  ·intro p hp
   rcases jm.1 hp with hp | hp
   ·have := a2 p hp; omega
   ·have := b2 p hp; omega
  ·rw [List.map_append, Hc, hF, ← a4, ← b4]
   congr 1
   ·exact Hg fun id hid => by
     obtain ⟨p, hp, rfl⟩ := qo.1 hid
     rw [if_pos (a2 p hp).2]
   ·exact Hg fun id hid => by
     obtain ⟨p, hp, rfl⟩ := qo.1 hid
     rw [if_neg (by have := b2 p hp; omega)]
  ·intro p hp
   rcases jm.1 hp with hp | hp
   ·simp only [if_pos (a2 p hp).2]; exact a5 p hp
   ·have : ¬ p.1 < m1 := by have := b2 p hp; omega
    simp only [if_neg this]; exact b5 p hp
  ·intro hp' σ' O' hσ t' d hd
   rw [Kb] at hd
   split at hd
   ·rename_i e
    simp only [jc] at hd
    subst hd
    refine ⟨0, a, by omega, rfl, ?_⟩
    rw [ha]
    refine Mi a3 (a6 w hp' σ' O' fun p hp => ?_)
    have h1 := hσ p (List.mem_append_left _ hp)
    simp only [if_pos (a2 p hp).2] at h1
    exact h1
   ·obtain ⟨j, v, h1, h2, h3⟩ := b6 hp' σ' O' (fun p hp => by
     have h1 := hσ p (List.mem_append_right _ hp)
     have h2 : ¬ p.1 < m1 := by have := b2 p hp; omega
     simp only [if_neg h2] at h1
     exact h1) t' d hd
    exact ⟨j + 1, v, by omega, by simpa using h2, h3⟩
 | .u, _, _ :: _, _, _, _, _, _, _, _, h => by simp [Jd] at h
 | .p _ _, _, [], _, _, _, _, _, _, _, h => by simp [Jd] at h
 | .i _, _, l, _, _, _, _, _, _, _, h => by simp [Jd] at h
 | .b, _, l, _, _, _, _, _, _, _, h => by simp [Jd] at h
 | .o, _, l, _, _, _, _, _, _, _, h => by simp [Jd] at h
 | .mp _ _, _, l, _, _, _, _, _, _, _, h => by simp [Jd] at h
 | .s, _, l, _, _, _, _, _, _, _, h => by simp [Jd] at h
 | .sl _, _, l, _, _, _, _, _, _, _, h => by simp [Jd] at h
section
variable {P : Program} {G : Zc} {L : List (Nat × Ub)} {I : Bh}
theorem RL {vw cv : Bool} (hG : Ug P I G) (hfz : G.fz = false ∨ ((vw && !cv) = true ∧ It G.att = true)) (hm : P.follows .mixedOrders = true) {f : FuncId} {fn : Func} {c : Code} (hf : P.funcs[f]? = some fn) (hb : fn.body = some c) (hname : (fn.name == "runtime.NumGoroutine") = false)
 (hL : ∀ b, b ∈ Tc c → Xc G L b) {τ pt rt : Ty} {fr : List Bool} {F : T τ → T pt → Option (T τ × T rt)} (hn : pt.npar + 1 ≤ fn.ntmps) (hF : ∀ x0 x r, F x0 x = some r → XB G L fn vw cv τ pt rt fr x0 x = some r) :
 Jm P I f (.bx vw cv τ pt rt fr F) := by
 refine ⟨⟨fn, hf, hname, by rw [hb]; rfl⟩, ?_⟩
 intro O w x0 x r b cur et F0 F2 args hx hh hsz hcont hargs hnd hO hI hB hFB
 have he := hF x0 x r hx
 unfold XB at he
 rw [hb] at he
 simp only at he
 rcases hop : (bif vw then (D.t τ x0, [], 400000) else Lc τ x0 400000) with ⟨d0, rows, m⟩
 rw [hop] at he
 simp only at he
 rcases hop2 : (bif cv then Ws pt x 1 m else (Mk pt x 1, [], m)) with ⟨tm, rows2, m2⟩
 rw [hop2] at he
 simp only [Da] at he
 obtain ⟨hm2, he⟩ := he
 have hm2 := Nat.le_of_ble_eq_true hm2
 have hlt : b < w.heap.size := (Array.getElem?_eq_some_iff.1 hh).1
 have k1 : 400000 ≤ m ∧ (∀ p, p ∈ rows → 400000 ≤ p.1 ∧ p.1 < m) ∧ Ra τ d0 ∧ (∀ c, c ∈ F0 → c < w.heap.size) ∧ ∃ (ψ : Nat → List Nat) (ν : Nat → Value), Ba ψ (rows.map (·.1)) = F0 ∧ (∀ p, p ∈ rows → ∃ e xs, p.2 = some (.row e true xs) ∧ Gb w (.sl e) xs [ν p.1] (ψ p.1)) ∧
  ∀ (hp' : Nat → Option Ga) (σ' : Nat → Value), (∀ p, p ∈ rows → σ' p.1 = ν p.1) → Pa w (fun c => O c ∨ c ∈ b :: (F0 ++ F2)) hp' σ' d0 cur.toList := by
  cases vw with
  | true =>
   simp only [cond_true, jh] at hop
   obtain ⟨rfl, rfl, rfl⟩ := hop
   simp only [if_true] at hcont
   obtain ⟨hv, rfl⟩ := hcont
   refine ⟨jp _, by simp, by simp [Ra], by simp, fun _ => [], fun _ => undef, by simp [Ba], by simp, fun hp' σ' _ => Ia.weaken (fun c hc => ?_) hv⟩
   rcases hc with hc | hc
   ·exact .inl hc
   ·rcases jq.1 hc with rfl | hc
    ·exact .inr (.inl rfl)
    ·exact .inr (.inr (by simpa using hc))
  | false =>
   simp only [cond_false] at hop
   simp only [jr, if_false] at hcont
   obtain ⟨a1, a2, a3, ψ1, ν1, a4, a5, a6⟩ := Xk hop hcont
   exact ⟨a1, a2, a3, fun c hc => hcont.lt c hc, ψ1, ν1, a4, a5, fun hp' σ' h => a6 w hp' σ' _ h⟩
 obtain ⟨hnm, hids, hsh, hF0lt, ψ1, ν1, hbl1, hrows1, hrep1⟩ := k1
 have k2 : m ≤ m2 ∧ (∀ p, p ∈ rows2 → m ≤ p.1 ∧ p.1 < m2) ∧ args.length = pt.npar ∧ (∀ c, c ∈ F2 → c < w.heap.size) ∧ ∃ (ψ : Nat → List Nat) (ν : Nat → Value), Ba ψ (rows2.map (·.1)) = F2 ∧ (∀ p, p ∈ rows2 → ∃ e xs, p.2 = some (.row e true xs) ∧ Gb w (.sl e) xs [ν p.1] (ψ p.1)) ∧
  ∀ (hp' : Nat → Option Ga) (σ' : Nat → Value), (∀ p, p ∈ rows2 → σ' p.1 = ν p.1) → ∀ t' d, Ta tm t' = some d → ∃ j v, t' = 1 + j ∧ args[j]? = some v ∧ Ob w (fun c => O c ∨ c ∈ b :: (F0 ++ F2)) hp' σ' d v := by
  cases cv with
  | true =>
   simp only [cond_true] at hop2
   simp only [if_true] at hargs
   obtain ⟨a1, a2, ψ2, ν2, a4, a5, a6⟩ := QD hop2 hargs
   exact ⟨a1, a2, UA hargs, hargs.lt, ψ2, ν2, a4, a5, fun hp' σ' h => a6 hp' σ' _ h⟩
  | false =>
   simp only [cond_false, jh] at hop2
   obtain ⟨rfl, rfl, rfl⟩ := hop2
   simp only [jr, if_false] at hargs
   obtain ⟨hv, rfl⟩ := hargs
   refine ⟨jp _, by simp, Zq hv, by simp, fun _ => [], fun _ => undef, by simp [Ba], by simp, fun hp' σ' _ t' d hd => ?_⟩
   have : (fun c => O c ∨ c ∈ b :: (F0 ++ [])) = (fun c => O c ∨ c = b ∨ c ∈ F0) := by
    funext c; simp
   rw [this]
   exact Vs hv hd
 obtain ⟨hmm, hids2, hlen, hF2lt, ψ2, ν2, hbl2, hrows2, hrep2⟩ := k2
 refine calls_of_wp hf hb ?_
 let ψ : Nat → List Nat := fun id => if id = 500000 then [b] else if id < m then ψ1 id else ψ2 id
 let ν : Nat → Value := fun id => if id = 500000 then .pointer (some ⟨b, 0, none⟩) else if id < m then ν1 id else ν2 id
 have hψ0 : ψ 500000 = [b] := if_pos rfl
 have hν0 : ν 500000 = .pointer (some ⟨b, 0, none⟩) := if_pos rfl
 have hψ1 : ∀ p, p ∈ rows → ψ p.1 = ψ1 p.1 ∧ ν p.1 = ν1 p.1 := fun p hp => by
  have h1 := hids p hp
  have h2 : ¬ p.1 = 500000 := by omega
  simp only [ψ, ν, if_neg h2, if_pos h1.2, and_self]
 have hψ2 : ∀ p, p ∈ rows2 → ψ p.1 = ψ2 p.1 ∧ ν p.1 = ν2 p.1 := fun p hp => by
  have h1 := hids2 p hp
  have h2 : ¬ p.1 = 500000 := by omega
  have h3 : ¬ p.1 < m := by omega
  simp only [ψ, ν, if_neg h2, if_neg h3, and_self]
 let s0 : AS := ⟨fn.ntmps, (0, .ptr 500000 []) :: tm, (500000, some (.box τ d0)) :: (rows ++ rows2)⟩
 have hbx : s0.heap 500000 = some (.box τ d0) := by simp [s0, AS.heap, Kb]
 have hmem : ∀ id Ea, s0.heap id = some Ea → (id = 500000 ∧ Ea = .box τ d0) ∨ (id ≠ 500000 ∧ id ∈ (rows ++ rows2).map (·.1) ∧ ∃ e xs, Ea = .row e true xs ∧ Gb w (.sl e) xs [ν id] (ψ id)) := by
  intro id Ea hb
  by_cases hid : id = 500000
  ·subst hid
   rw [hbx] at hb
   simp only [jc] at hb
   exact .inl ⟨rfl, hb.symm⟩
  ·have hm := AS.heap_mem hb
   simp only [s0, jq, jh, hid, false_and, false_or] at hm
   refine .inr ⟨hid, List.mem_map_of_mem (f := (·.1)) hm, ?_⟩
   rcases jm.1 hm with hm | hm
   ·obtain ⟨e, xs, h1, h2⟩ := hrows1 _ hm
    simp only [jc] at h1
    exact ⟨e, xs, h1, by rw [(hψ1 _ hm).1, (hψ1 _ hm).2]; exact h2⟩
   ·obtain ⟨e, xs, h1, h2⟩ := hrows2 _ hm
    simp only [jc] at h1
    exact ⟨e, xs, h1, by rw [(hψ2 _ hm).1, (hψ2 _ hm).2]; exact h2⟩
 have hblr : Ba ψ ((rows ++ rows2).map (·.1)) = F0 ++ F2 := by
  rw [List.map_append, Hc, ← hbl1, ← hbl2]
  congr 1
  ·exact Hg fun id hid => by
    obtain ⟨p, hp, rfl⟩ := qo.1 hid
    exact (hψ1 p hp).1
  ·exact Hg fun id hid => by
    obtain ⟨p, hp, rfl⟩ := qo.1 hid
    exact (hψ2 p hp).1
 have hbl : Ba ψ (500000 :: (rows ++ rows2).map (·.1)) = b :: (F0 ++ F2) := by
  have : Ba ψ (500000 :: (rows ++ rows2).map (·.1)) = ψ 500000 ++ Ba ψ ((rows ++ rows2).map (·.1)) := by simp only [Ba, List.map_cons, List.flatten_cons]
  rw [this, hψ0, hblr]; rfl
 have hndB : (Ba ψ (500000 :: (rows ++ rows2).map (·.1))).Nodup := by rw [hbl]; exact hnd
 have hidin : ∀ id Ea, s0.heap id = some Ea → id ∈ 500000 :: (rows ++ rows2).map (·.1) := by
  intro id Ea hb
  rcases hmem id Ea hb with ⟨rfl, _⟩ | ⟨_, h, _⟩
  ·exact qr
  ·exact js _ h
 let A : Fx := ⟨(· ∈ b :: (F0 ++ F2)), fun id => if id = 500000 then some (.pointer (some ⟨b, 0, none⟩)) else none, fun id v h => by
  split at h
  ·omega
  ·simp at h, I, hFB⟩
 have hOO : OO (fun c => O c ∨ c ∈ b :: (F0 ++ F2)) s0 ψ = (fun c => O c ∨ c ∈ b :: (F0 ++ F2)) := by
  funext c
  refine propext ⟨fun h => ?_, .inl⟩
  rcases h with h | ⟨id, Ea, hb, hm⟩
  ·exact h
  ·refine .inr ?_
   rw [← hbl]
   exact Va.2 ⟨id, hidin id Ea hb, hm⟩
 have hc : La w.heap.size A (fun c => O c ∨ c ∈ b :: (F0 ++ F2)) w s0 ν ψ { tmps := (.pointer (some ⟨b, 0, none⟩) :: args).toArray ++ Array.replicate (fn.ntmps - (Value.pointer (some ⟨b, 0, none⟩) :: args).toArray.size) undef, defers := [] } w := by
  refine ⟨?_, rfl, ?_, ?_, ?_, ?_, ?_, ?_, ⟨rfl, rfl, rfl, jp _, fun _ _ _ => rfl⟩, ?_, hB, hI⟩
  ·simp [s0]; omega
  ·intro t d hd
   rw [hOO]
   simp only [s0] at hd
   rw [Kb] at hd
   split at hd
   ·rename_i e
    subst e
    simp only [jc] at hd
    subst hd
    refine ⟨.pointer (some ⟨b, 0, none⟩), by rw [Array.getElem?_append_left (by simp)]; simp, ?_⟩
    rw [Li]
    exact ⟨rfl, fun ρ d _ => ⟨b, hν0, by simp [Sa]⟩⟩
   ·obtain ⟨j, v, h1, h2, h3⟩ := hrep2 s0.heap ν (fun p hp => (hψ2 p hp).2) t d hd
    refine ⟨v, ?_, h3⟩
    have hj : j < args.length := (List.getElem?_eq_some_iff.1 h2).1
    have : t = j + 1 := by omega
    subst this
    rw [Array.getElem?_append_left (by simpa using hj)]
    simpa using h2
  ·intro id Ea hb
   rw [hOO]
   rcases hmem id Ea hb with ⟨rfl, rfl⟩ | ⟨_, _, e, xs, rfl, h2⟩
   ·exact ⟨hsh, b, cur, et, hν0, hh, hψ0, hrep1 _ _ fun p hp => (hψ1 p hp).2, hsz⟩
   ·exact h2
  ·intro id Ea hb
   have hi := hidin id Ea hb
   have : (ψ id).Sublist (Ba ψ (500000 :: (rows ++ rows2).map (·.1))) := by
    unfold Ba
    exact List.sublist_flatten_of_mem (List.mem_map_of_mem hi)
   exact this.nodup hndB
  ·intro id id' Ea blk' hne hb hb' c hm
   exact Qt hndB (hidin id Ea hb) (hidin id' blk' hb') hne hm
  ·intro id Ea hb c hm
   refine .inr ?_
   show c ∈ b :: (F0 ++ F2)
   rw [← hbl]
   exact Va.2 ⟨id, hidin id Ea hb, hm⟩
  ·rintro c (hc | hc)
   ·exact hO c hc
   ·rcases jq.1 hc with rfl | hc
    ·exact hlt
    ·rcases jm.1 hc with hc | hc
     ·exact hF0lt c hc
     ·exact hF2lt c hc
  ·intro id v hv
   simp only [A] at hv
   split at hv
   ·rename_i e
    subst e
    simp only [jc] at hv
    exact hν0.trans hv
   ·simp at hv
 have hFz : Lt G A := by
  intro hz
  rcases hfz with h0 | ⟨h1, h2⟩
  ·rw [h0] at hz; simp at hz
  ·simp only [jd, Bool.not_eq_true'] at h1
   obtain ⟨h1, h3⟩ := h1
   subst h1
   subst h3
   simp only [if_true] at hcont
   simp only [jr, if_false] at hargs
   obtain ⟨_, hF0⟩ := hcont
   obtain ⟨_, hF2⟩ := hargs
   refine .inr ⟨h2, fun x hx => ?_⟩
   have hx' : x ∈ b :: (F0 ++ F2) := hx
   rw [hF0, hF2] at hx'
   simp only [List.append_nil, qe] at hx'
   rw [hx']
   show (if (500000 : Nat) = 500000 then some (Value.pointer (some ⟨b, 0, none⟩)) else none) = _
   exact if_pos rfl
 refine PC (A := A) hG hFz hm c hL he hc ?_
 intro e s σ φ a w' hk h
 have Re : (match s.heap 500000, Lm G s fn.results.toList with
  | some (.box τ' d1), some d => match Ty.dec τ' τ, (bif vw then (match Lf d1 τ with
   | some y => some (y, [])
   | none => none) else Eb s d1 τ), Be s rt fr d with
   | some _, some (x', l0), some (r, l) => bif He (500000 :: (l0 ++ l)) then some (x', r) else none
   | _, _, _ => none
  | _, _ => none) = some r → a.defers = [] ∧ ∃ v, (results fn a.tmps).run P w' = .ok v w' ∧ Hl (fun v w' => ∃ vs cur' et' F1 Fr, v = Hq vs ∧ Zn w w' (· ∈ b :: (F0 ++ F2)) ∧ w'.heap[b]? = some (.cells cur' et' (0, 0)) ∧ cur'.size = τ.size ∧
  (if vw then Ia w' (fun c => O c ∨ c ∈ b :: (F0 ++ F2) ∨ c ∈ Fr) τ r.1 cur'.toList ∧ F1 = [] else Gb w' τ r.1 cur'.toList F1) ∧
  Rb w' (fun c => O c ∨ c ∈ b :: (F0 ++ F2) ∨ c ∈ F1 ∨ c ∈ Fr) rt r.2 fr vs Fr ∧ (b :: (F1 ++ Fr)).Nodup ∧ ∀ c ∈ F1 ++ Fr, w.heap.size ≤ c ∨ c ∈ F0 ++ F2) (.returned v) w' := by
  intro hk
  split at hk
  ·rename_i τ' d1 d hbx' hd
   split at hk
   ·rename_i q x' l0 r' l hq hx' hr
    obtain rfl := Sc hq
    simp only [Da] at hk
    obtain ⟨hnd', hk⟩ := hk
    simp only [jc] at hk
    subst hk
    have hnd' := Sf hnd'
    obtain ⟨hsh', b', cur', et', hσ', hh', hF', hr0, hsz'⟩ := h.hp 500000 _ hbx'
    have hpin : σ 500000 = .pointer (some ⟨b, 0, none⟩) := h.pin 500000 _ (show (if (500000 : Nat) = 500000 then some (Value.pointer (some ⟨b, 0, none⟩)) else none) = _ from if_pos rfl)
    rw [hpin] at hσ'
    simp only [Value.pointer.injEq, jc, Addr.mk.injEq, and_true] at hσ'
    subst hσ'
    have hkl : (∀ j, j ∈ l0 → ∃ Ea, s.heap j = some Ea) ∧ (if vw then Ia w' (OO (fun c => O c ∨ c ∈ b :: (F0 ++ F2)) s φ) τ' x' cur'.toList ∧ l0 = [] else Gb w' τ' x' cur'.toList (Ba φ l0)) := by
     cases vw with
     | true =>
      simp only [cond_true] at hx'
      split at hx'
      ·rename_i y hy
       simp only [jc, jh] at hx'
       obtain ⟨rfl, rfl⟩ := hx'
       exact ⟨by simp, by simp only [if_true]; exact ⟨(Fe hy).2 _ hr0, trivial⟩⟩
      ·simp at hx'
     | false =>
      simp only [cond_false] at hx'
      obtain ⟨g1, g2⟩ := Uh h hx' hr0
      exact ⟨g2, by simpa using g1⟩
    obtain ⟨hlive0, hx1⟩ := hkl
    obtain ⟨vs, hvs, hru⟩ := Lq hG.toEnvTy h hd
    obtain ⟨hR, hlive⟩ := Rz h hr hru
    have hall : ∀ j, j ∈ 500000 :: (l0 ++ l) → ∃ Ea, s.heap j = some Ea := by
     intro j hj
     rcases jq.1 hj with rfl | hj
     ·exact ⟨_, hbx'⟩
     ·rcases jm.1 hj with hj | hj
      ·exact hlive0 j hj
      ·exact hlive j hj
    have hbk : Ba φ (500000 :: (l0 ++ l)) = b :: (Ba φ l0 ++ Ba φ l) := by
     have : Ba φ (500000 :: (l0 ++ l)) = φ 500000 ++ Ba φ (l0 ++ l) := by simp only [Ba, List.map_cons, List.flatten_cons]
     rw [this, hF', Hc]; rfl
    have hbn := Ie h hnd' hall
    rw [hbk] at hbn
    have hinOO : ∀ c, c ∈ Ba φ l0 ++ Ba φ l → OO (fun c => O c ∨ c ∈ b :: (F0 ++ F2)) s φ c := by
     intro c hc
     rw [← Hc] at hc
     obtain ⟨j, hj, hm'⟩ := Va.1 hc
     obtain ⟨Ea, hbj⟩ := hall j (js _ hj)
     exact .inr ⟨j, Ea, hbj, hm'⟩
    refine ⟨h.df, _, Ir hvs, vs, cur', et', Ba φ l0, Ba φ l, rfl, ⟨h.fr.size, fun c hc hno => h.fr.block c hc hno, h.fr.os, h.fr.tape, h.fr.output⟩, hh', hsz', ?_, hR.mono ?_, hbn, ?_⟩
    ·cases vw with
     | true =>
      simp only [if_true] at hx1 ⊢
      refine ⟨hx1.1.weaken ?_, by rw [hx1.2]; simp [Ba]⟩
      rintro c (hc | hc | hc)
      ·exact .inl (.inl hc)
      ·exact .inl (.inr hc)
      ·exact hinOO c (List.mem_append_right _ hc)
     | false => simpa using hx1
    ·rintro c (hc | hc | hc | hc)
     ·exact .inl (.inl hc)
     ·exact .inl (.inr hc)
     ·exact hinOO c (List.mem_append_left _ hc)
     ·exact hinOO c (List.mem_append_right _ hc)
    ·intro c hcm
     have hcb : c ≠ b := by
      rintro rfl
      exact (List.nodup_cons.1 hbn).1 hcm
     rw [← Hc] at hcm
     obtain ⟨j, hj, hm'⟩ := Va.1 hcm
     obtain ⟨Ea, hbj⟩ := hall j (js _ hj)
     rcases h.fresh j Ea hbj c hm' with h1 | h1
     ·exact .inl h1
     ·have h1 : c ∈ b :: (F0 ++ F2) := h1
      rcases jq.1 h1 with h1 | h1
      ·exact absurd h1 hcb
      ·exact .inr h1
   ·simp at hk
  ·simp at hk
 cases e with
 | normal => exact Re hk
 | ret => exact Re hk
 | exit j => simp at hk
def YB (G : Zc) (L : List (Nat × Ub)) (fn : Func) (pt τ : Ty) (x : T pt) : Option (T τ) :=
 match fn.body with
 | some c => Lk G L c ⟨fn.ntmps, Mk pt x 0, []⟩ fun e s => match e with
  | .exit _ => none
  | _ => match Lm G s fn.results.toList with
   | some (.pr (.ptr id []) .un) => match s.heap id with
    | some (.box τ' d) => match Ty.dec τ' τ, Lf d τ with
     | some _, some y => some y
     | _, _ => none
    | _ => none
   | _ => none
 | none => none
theorem SL (hG : Ug P I G) (hm : P.follows .mixedOrders = true) {f : FuncId} {fn : Func} {c : Code} (hf : P.funcs[f]? = some fn) (hb : fn.body = some c) (hname : (fn.name == "runtime.NumGoroutine") = false)
 (hL : ∀ b, b ∈ Tc c → Xc G L b) {pt τ : Ty} {F : T pt → Option (T τ)} (hn : pt.npar ≤ fn.ntmps) (hF : ∀ x r, F x = some r → YB G L fn pt τ x = some r) : Jm P I f (.nw pt τ F) := by
 refine ⟨⟨fn, hf, hname, by rw [hb]; rfl⟩, ?_⟩
 intro O w x r args hx hargs hO hI hB
 have he := hF x r hx
 unfold YB at he
 rw [hb] at he
 simp only at he
 refine calls_of_wp hf hb ?_
 have hlen := Zq hargs
 have hc : La w.heap.size (Lz I) O w ⟨fn.ntmps, Mk pt x 0, []⟩ (fun _ => undef) (fun _ => []) { tmps := args.toArray ++ Array.replicate (fn.ntmps - args.toArray.size) undef, defers := [] } w := by
  have hh : ∀ id, AS.heap ⟨fn.ntmps, Mk pt x 0, []⟩ id = none := fun id => rfl
  refine ⟨?_, rfl, ?_, ?_, ?_, ?_, ?_, hO, ⟨rfl, rfl, rfl, jp _, fun _ _ _ => rfl⟩, ?_, hB, hI⟩
  ·simp; omega
  ·intro t d hd
   have hOO : OO O ⟨fn.ntmps, Mk pt x 0, []⟩ (fun _ => []) = O := by
    funext b
    simp [OO, hh]
   rw [hOO]
   obtain ⟨j, v, h1, h2, h3⟩ := Vs hargs hd
   refine ⟨v, ?_, h3⟩
   have hj : j < args.length := (List.getElem?_eq_some_iff.1 h2).1
   have : t = j := by omega
   subst this
   rw [Array.getElem?_append_left (by simpa using hj)]
   simpa using h2
  ·intro id Ea hb; rw [hh] at hb; simp at hb
  ·intro id Ea hb; rw [hh] at hb; simp at hb
  ·intro id id' Ea blk' _ hb; rw [hh] at hb; simp at hb
  ·intro id Ea hb; rw [hh] at hb; simp at hb
  ·intro id v hv; simp [Lz] at hv
 refine PC (A := Lz I) hG (fun _ => .inl fun _ h => h) hm c hL he hc ?_
 intro e s σ φ a w' hk h
 have Re : (match Lm G s fn.results.toList with
  | some (.pr (.ptr id []) .un) => match s.heap id with
   | some (.box τ' d) => match Ty.dec τ' τ, Lf d τ with
    | some _, some y => some y
    | _, _ => none
   | _ => none
  | _ => none) = some r → a.defers = [] ∧ ∃ v, (results fn a.tmps).run P w' = .ok v w' ∧ Hl (fun v w' => ∃ b cur et, v = .pointer (some ⟨b, 0, none⟩) ∧ Zn w w' (fun _ => False) ∧ w.heap.size ≤ b ∧ w'.heap[b]? = some (.cells cur et (0, 0)) ∧ cur.size = τ.size ∧ Ia w' (fun c => O c ∨ c = b) τ r cur.toList) (.returned v) w' := by
  intro hk
  split at hk
  ·rename_i id hd
   split at hk
   ·rename_i τ' d hbx
    split at hk
    ·rename_i q y hq hy
     obtain rfl := Sc hq
     simp only [jc] at hk
     subst hk
     obtain ⟨vs, hvs, hru⟩ := Lq hG.toEnvTy h hd
     cases vs with
     | nil => simp [RU] at hru
     | cons v vs =>
      obtain ⟨h1, h2⟩ := hru
      cases vs with
      | cons _ _ => simp [RU] at h2
      | nil =>
       obtain ⟨_, b, cur, et, hσ, hh, hφ, hr0, hsz⟩ := h.hp id _ hbx
       rw [Li] at h1
       obtain ⟨b', hσ', hv⟩ := h1.2 _ _ hbx
       rw [hσ] at hσ'
       simp only [Value.pointer.injEq, jc, Addr.mk.injEq, and_true] at hσ'
       subst hσ'
       have hmem : b ∈ φ id := by rw [hφ]; simp
       refine ⟨h.df, _, Ir hvs, b, cur, et, by simp only [Hq, hv, Sa], ⟨h.fr.size, fun b hb _ => h.fr.block b hb (fun h => h), h.fr.os, h.fr.tape, h.fr.output⟩, (h.fresh id _ hbx b hmem).resolve_right (fun h => h), hh, hsz, ?_⟩
       refine Ia.weaken ?_ ((Fe hy).2 _ hr0)
       rintro c (hc | rfl)
       ·exact .inl hc
       ·exact .inr ⟨id, _, hbx, hmem⟩
    ·simp at hk
   ·simp at hk
  ·simp at hk
 cases e with
 | normal => exact Re hk
 | ret => exact Re hk
 | exit j => simp at hk
end
open Go Go.WideShapes
def Yl : (τ : Ty) → T τ → Prop
 | .i k, n => k.has n
 | .b, _ => True
 | .o, _ => True
 | .mp _ _, _ => True
 | .s, x => ja x ≤ Qf
 | .sl e, xs => ja xs ≤ Qf ∧ ∀ i (h : i < ja xs), Yl e (List.get xs ⟨i, h⟩)
 | .u, _ => True
 | .p x y, v => Yl x v.1 ∧ Yl y v.2
def Ty.pos : Ty → Bool
 | .sl e => e.pos && Nat.blt 0 e.size
 | .p x y => x.pos && y.pos
 | .o => false
 | .mp _ _ => false
 | _ => true
section
variable {H : Type} {enc : TypeId × Value → H} {P : Program} {w : World} {base : Nat} {spare : Nat → Bool} {held : Bool}
theorem Di {τ : Ty} {t : TypeId} (h : Xb P τ t = true) : P.cellsOf t = τ.size := by
 obtain ⟨i, h1, h2, _⟩ := Tok.size h
 simp [Program.cellsOf, h1, h2]
theorem JN {k : IntKind} {n : Int} (h : (Lit.int k n).wf = true) : k.has n := by
 simpa [Lit.wf, IntKind.has] using h
theorem MP {a : Addr} {n : Nat} (h : n ≠ 0) : a.add n = ⟨a.block, a.off + n, none⟩ := by
 simp [Addr.add, h]
theorem Xt {a : Addr} {n : Nat} {cs : List Value} (h : w.cells? base a n = some cs) (hn : 0 < n) :
 ∃ cur et fr, a = ⟨a.block, a.off, none⟩ ∧ w.heap[a.block]? = some (.cells cur et fr) ∧ a.off + n ≤ cur.size ∧ cs = Ic cur a.off n := by
 unfold World.cells? at h
 split at h
 ·have hlen : cs.length = n := by simpa using mapM_some_length h
  have hget : ∀ i, i < n → w.cell? (a.add i) = cs[i]? := fun i hi => mapM_some_get h i i (by simp [hi])
  have h0 := hget 0 hn
  have ha : a.add 0 = a := by simp [Addr.add]
  rw [ha] at h0
  have hc0 : cs[0]? = some (cs[0]'(by omega)) := je (by omega)
  rw [hc0] at h0
  unfold World.cell? at h0
  split at h0
  ·rename_i cur et fr hb
   have hsp : a.spot = none := by
    cases hs : a.spot with
    | none => rfl
    | some x => simp [hs] at h0
   have hcell : ∀ i, i < n → cur[a.off + i]? = cs[i]? := by
    intro i hi
    have := hget i hi
    by_cases hi0 : i = 0
    ·subst hi0
     rw [ha] at this
     unfold World.cell? at this
     rw [hb] at this
     simpa [hsp] using this
    ·rw [MP hi0] at this
     unfold World.cell? at this
     simp only at this
     rw [hb] at this
     simpa using this
   refine ⟨cur, et, fr, by cases a; simp_all, hb, ?_, ?_⟩
   ·have h1 := hcell (n - 1) (by omega)
    rw [je (by omega)] at h1
    have := (Array.getElem?_eq_some_iff.1 h1).1
    omega
   ·apply List.ext_getElem?
    intro i
    by_cases hi : i < n
    ·rw [Md _ _ _ _ hi, hcell i hi]
    ·rw [List.getElem?_eq_none (by omega), List.getElem?_eq_none]
     simp [Ic]; omega
  ·simp at h0
 ·simp at h
theorem DN {fs : List Field} {o : Nat} (h : Pd P .u fs o = true) : fs = [] := by
 cases fs <;> simp_all [Pd]
theorem TC {x y : Ty} {fs : List Field} {o : Nat} (h : Pd P (.p x y) fs o = true) : ∃ f r, fs = f :: r ∧ f.offset = o ∧ Xb P x f.type = true ∧ Pd P y r (o + x.size) = true := by
 cases fs with
 | nil => simp [Pd] at h
 | cons f r =>
  simp only [Pd, jd] at h
  exact ⟨f, r, rfl, jv h.1.1.1, h.1.2, h.2⟩
theorem AC {x y : Ty} {t : TypeId} (h : Xb P (.p x y) t = true) : ∃ fs, P.underlying t = some (.struct fs) ∧ Pd P (.p x y) fs.toList 0 = true := by
 simp only [Xb, jd] at h
 obtain ⟨_, h⟩ := h
 split at h
 ·rename_i fs hfs
  refine ⟨fs, hfs, ?_⟩
  split at h
  ·rename_i f r hr
   rw [hr]
   simpa [Pd] using h
  ·simp at h
 ·simp at h
theorem BC {t : TypeId} (h : Xb P .u t = true) : ∃ fs, P.underlying t = some (.struct fs) ∧ fs.size = 0 := by
 simp only [Xb, jd] at h
 obtain ⟨_, h⟩ := h
 split at h
 ·rename_i fs hfs
  exact ⟨fs, hfs, jv h⟩
 ·simp at h
mutual
theorem Ru (hO : ∀ b, ¬ (fun _ : Nat => False) b) : ∀ (τ : Ty) (t : TypeId) (n : Nat) (cs : List Value) (x : DataW H × List MemPlace), Xb P τ t = true → τ.pos = true →
 DataW.trod enc P w base spare held n t cs = some x → ∃ y : T τ, Ia w (fun _ => False) τ y cs ∧ Yl τ y
 | .i k, t, n, cs, x, ht, _, h => by
  obtain ⟨m, h1, _, h2⟩ := DataW.trod_int (Tok.i ht) h
  exact ⟨m, h1, JN h2⟩
 | .b, t, n, cs, x, ht, _, h => by
  obtain ⟨m, h1, _⟩ := DataW.trod_bool (Tok.b ht) h
  exact ⟨m, h1, trivial⟩
 | .o, t, n, cs, x, ht, hp, h => by simp [Ty.pos] at hp
 | .mp _ _, t, n, cs, x, ht, hp, h => by simp [Ty.pos] at hp
 | .s, t, n, cs, x, ht, _, h => by
  obtain ⟨m, h1, _, h2⟩ := DataW.trod_string (Tok.s ht) h
  refine ⟨m.data.toList, ?_, ?_⟩
  ·show cs = [.string ⟨List.toArray m.data.toList⟩]
   rw [h1]
  ·show m.data.toList.length ≤ Qf
   have : m.size = m.data.toList.length := Array.length_toList.symm
   unfold maxLen at h2
   unfold Qf
   omega
 | .sl e, t, n, cs, x, ht, hp, h => by
  obtain ⟨et, hu, he⟩ := Tok.sl ht
  simp only [Ty.pos, jd] at hp
  have hpos : 0 < e.size := by simpa using hp.2
  rcases DataW.trod_slice hu h with ⟨h1, _⟩ | ⟨a, len, cap, elems, rest, m, _, h1, _, _, h2, h3, h4, h5, _, _⟩
  ·exact ⟨([] : List (T e)), ⟨none, 0, h1, jp _, Nat.zero_le _, .inl rfl⟩, ⟨Nat.zero_le _, fun i hi => absurd hi (Nat.not_lt_zero i)⟩⟩
  ·rw [Di he] at h5
   have hone : ∀ i, i < len → ∃ y : T e, ∃ cs', w.cells? base (a.add (i * e.size)) e.size = some cs' ∧ Ia w (fun _ => False) e y cs' ∧ Yl e y := by
    intro i hi
    have := h5 i hi
    rw [je (by omega), qg] at this
    obtain ⟨cs', hc, hy⟩ := this
    obtain ⟨y, hv, hr⟩ := Ru hO e et m cs' _ he hp.1 hy
    exact ⟨y, cs', hc, hv, hr⟩
   let ys : List (T e) := List.ofFn fun i : Fin len => Classical.choose (hone i.1 i.2)
   have hlen : ys.length = len := by simp [ys]
   have hy : ∀ i (h : i < ys.length), ∃ cs', w.cells? base (a.add (i * e.size)) e.size = some cs' ∧ Ia w (fun _ => False) e (ys.get ⟨i, h⟩) cs' ∧ Yl e (ys.get ⟨i, h⟩) := by
    intro i hi
    have := Classical.choose_spec (hone i (by omega))
    simpa [ys] using this
   have hmax : len ≤ Qf := by unfold maxLen at h3; unfold Qf; omega
   refine ⟨ys, ⟨some a, cap, by rw [h1, hlen], by rw [hlen]; exact h2, by rw [hlen]; exact hmax, ?_⟩, by rw [hlen]; exact hmax, fun i hi => (hy i hi).choose_spec.2.2⟩
   by_cases hl0 : len = 0
   ·left
    exact List.eq_nil_of_length_eq_zero (by omega)
   ·right
    obtain ⟨cs0, hc0, _⟩ := hy 0 (by omega)
    have ha0 : a.add (0 * e.size) = a := by simp [Addr.add]
    rw [ha0] at hc0
    obtain ⟨cur, et', fr, ha, hb, _, _⟩ := Xt hc0 hpos
    have hadd : ∀ i, (a.add (i * e.size)).block = a.block ∧ (a.add (i * e.size)).off = a.off + i * e.size := by
     intro i
     unfold Addr.add
     split
     ·rename_i hz; simp [hz]
     ·exact ⟨rfl, rfl⟩
    refine ⟨a.block, a.off, cur, et', fr, by rw [← ha], fun h => h, hb, ?_, ?_⟩
    ·obtain ⟨cs1, hc1, _⟩ := hy (len - 1) (by omega)
     obtain ⟨cur1, et1, fr1, _, hb1, hs1, _⟩ := Xt hc1 hpos
     rw [(hadd _).1, hb] at hb1
     simp only [jc, Obj.cells.injEq] at hb1
     rw [(hadd _).2, ← hb1.1] at hs1
     have : len * e.size = (len - 1) * e.size + e.size := by
      rw [← Nat.succ_mul]; congr 1; omega
     show a.off + ys.length * e.size ≤ cur.size
     rw [hlen]
     omega
    ·intro i hi
     obtain ⟨cs1, hc1, hv, _⟩ := hy i hi
     obtain ⟨cur1, et1, fr1, _, hb1, _, hs1⟩ := Xt hc1 hpos
     rw [(hadd _).1, hb] at hb1
     simp only [jc, Obj.cells.injEq] at hb1
     rw [(hadd _).2, ← hb1.1] at hs1
     rw [← hs1]
     exact hv
 | .u, t, n, cs, x, ht, _, h => by
  obtain ⟨fs, hu, hz⟩ := BC ht
  obtain ⟨xs, m, _, _, hl, _⟩ := DataW.trod_struct hu h
  rw [Di ht] at hl
  exact ⟨(), List.eq_nil_of_length_eq_zero hl, trivial⟩
 | .p a c2, t, n, cs, x, ht, hp, h => by
  obtain ⟨fs, hu, hf⟩ := AC ht
  obtain ⟨xs, m, _, _, hl, _, hget⟩ := DataW.trod_struct hu h
  rw [Di ht] at hl
  have := Ov hO (.p a c2) fs.toList 0 m cs hf hp (by simpa using hl) (by
   intro i f hi
   have := hget i f (by simpa using hi)
   have hlt : i < xs.length := by
    have : i < fs.toList.length := (List.getElem?_eq_some_iff.1 hi).1
    simp at this; omega
   exact ⟨_, this.trans (je hlt)⟩)
  simpa using this
termination_by τ => (sizeOf τ, 1)
theorem Ov (hO : ∀ b, ¬ (fun _ : Nat => False) b) : ∀ (τ : Ty) (fs : List Field) (o m : Nat) (cs : List Value), Pd P τ fs o = true → τ.pos = true → cs.length = o + τ.size →
 (∀ (i : Nat) (f : Field), fs[i]? = some f → ∃ x, DataW.trod enc P w base spare held m f.type ((cs.drop f.offset).take (P.cellsOf f.type)) = some x) →
 ∃ y : T τ, Ia w (fun _ => False) τ y (cs.drop o) ∧ Yl τ y
 | .p a c2, fs, o, m, cs, hf, hp, hl, hx => by
  obtain ⟨f, r, rfl, ho, ht, hr⟩ := TC hf
  simp only [Ty.pos, jd] at hp
  simp only [Ty.size] at hl
  obtain ⟨z, hz⟩ := hx 0 f rfl
  rw [Di ht, ho] at hz
  obtain ⟨y1, hv1, hr1⟩ := Ru hO a f.type m _ z ht hp.1 hz
  obtain ⟨y2, hv2, hr2⟩ := Ov hO c2 r (o + a.size) m cs hr hp.2 (by omega) (fun i f' hi => hx (i + 1) f' (by simpa using hi))
  refine ⟨(y1, y2), ⟨(cs.drop o).take a.size, cs.drop (o + a.size), ?_, hv1, hv2⟩, hr1, hr2⟩
  rw [← List.drop_drop, List.take_append_drop]
 | .u, fs, o, m, cs, _, _, hl, _ => ⟨(), by simp only [Ia, Ty.size] at hl ⊢; exact List.drop_of_length_le (by omega), trivial⟩
 | .i _, fs, o, m, cs, hf, _, _, _ => by simp [Pd] at hf
 | .b, fs, o, m, cs, hf, _, _, _ => by simp [Pd] at hf
 | .o, fs, o, m, cs, hf, _, _, _ => by simp [Pd] at hf
 | .mp _ _, fs, o, m, cs, hf, _, _, _ => by simp [Pd] at hf
 | .s, fs, o, m, cs, hf, _, _, _ => by simp [Pd] at hf
 | .sl _, fs, o, m, cs, hf, _, _, _ => by simp [Pd] at hf
termination_by τ => (sizeOf τ, 0)
end
end
open Go Go.WideShapes Go.ChangeShapes
def Fg (P : Program) : Ty → List TypeId → Bool
 | .p x y, t :: ts => Xb P x t && x.pos && Fg P y ts
 | .u, [] => true
 | _, _ => false
section
variable {H : Type} {enc : TypeId × Value → H} {P : Program} {w : World} {base : Nat} {spare : Nat → Bool} {held : Bool}
theorem BI {τ : Ty} {t : TypeId} {v : Value} {r : Reach} {b0 : Nat} (ht : Xb P τ t = true) (h : Value.okWide P w r b0 t v) : v = Ec τ v.cells.toList := by
 have key : ∀ {τ : Ty}, τ.isAgg = false → v.cells = #[v] → v = Ec τ v.cells.toList := by
  intro τ h1 h2
  rw [h2]; simp [Ec, h1]
 cases τ with
 | i k =>
  obtain ⟨n, rfl⟩ := okWide_int (Tok.i ht) h
  exact key rfl rfl
 | b =>
  obtain ⟨n, rfl⟩ := okWide_bool (Tok.b ht) h
  exact key rfl rfl
 | o =>
  refine key rfl ?_
  obtain ⟨et, hu⟩ := Tok.o ht
  unfold Value.okWide at h
  rw [hu] at h
  cases v with
  | agg cs => simp [Cell.okWide, Cell.ok, hu] at h
  | _ => rfl
 | mp _ _ =>
  refine key rfl ?_
  obtain ⟨kt, et, hu, _⟩ := Tok.mp ht
  unfold Value.okWide at h
  rw [hu] at h
  cases v with
  | agg cs => simp [Cell.okWide, Cell.ok, hu] at h
  | _ => rfl
 | s =>
  refine key rfl ?_
  have hu := Tok.s ht
  unfold Value.okWide at h
  rw [hu] at h
  cases v with
  | agg cs => simp [Cell.okWide, Cell.ok, hu] at h
  | _ => rfl
 | sl e =>
  refine key rfl ?_
  obtain ⟨et, hu, _⟩ := Tok.sl ht
  unfold Value.okWide at h
  rw [hu] at h
  cases v with
  | agg cs => simp [Cell.okWide, Cell.ok, hu] at h
  | _ => rfl
 | u =>
  obtain ⟨fs, hu, _⟩ := BC ht
  obtain ⟨cs, rfl, _⟩ := okWide_struct hu h
  simp [Ec, Ty.isAgg, Value.cells]
 | p x y =>
  obtain ⟨fs, hu, _⟩ := AC ht
  obtain ⟨cs, rfl, _⟩ := okWide_struct hu h
  simp [Ec, Ty.isAgg, Value.cells]
theorem Qu : ∀ {pt : Ty} {ts : List TypeId} {vs : List Value} {ds : List (DataW H)} {ps : List MemPlace}, Fg P pt ts = true → DataW.TrodAll enc P w 0 spare held ts vs ds ps →
 (∀ (j : Nat) t v, ts[j]? = some t → vs[j]? = some v → Value.okWide P w .any base t v) → ∃ x : T pt, De w (fun _ => False) pt x vs ∧ Yl pt x
 | .p x y, t :: ts, v :: vs, d :: ds, ps, hp, h, hv => by
  simp only [Fg, jd] at hp
  obtain ⟨p, q, ⟨n, h1⟩, h2, _⟩ := h
  obtain ⟨a, ha, hra⟩ := Ru (fun _ h => h) x t n _ _ hp.1.1 hp.1.2 h1
  obtain ⟨b, hb, hrb⟩ := Qu hp.2 h2 fun j t' v' h1 h2 => hv (j + 1) t' v' (by simpa using h1) (by simpa using h2)
  exact ⟨(a, b), ⟨⟨_, BI hp.1.1 (hv 0 t v rfl rfl), ha⟩, hb⟩, hra, hrb⟩
 | .u, [], [], [], _, _, _, _ => ⟨(), trivial, trivial⟩
 | .p _ _, [], _, _, _, hp, _, _ => by simp [Fg] at hp
 | .u, _ :: _, _, _, _, hp, _, _ => by simp [Fg] at hp
 | .i _, _, _, _, _, hp, _, _ => by simp [Fg] at hp
 | .b, _, _, _, _, hp, _, _ => by simp [Fg] at hp
 | .o, _, _, _, _, hp, _, _ => by simp [Fg] at hp
 | .mp _ _, _, _, _, _, hp, _, _ => by simp [Fg] at hp
 | .s, _, _, _, _, hp, _, _ => by simp [Fg] at hp
 | .sl _, _, _, _, _, hp, _, _ => by simp [Fg] at hp
 | .p _ _, _ :: _, [], _, _, _, h, _ => by simp [DataW.TrodAll] at h
 | .p _ _, _ :: _, _ :: _, [], _, _, h, _ => by simp [DataW.TrodAll] at h
 | .u, [], _ :: _, _, _, _, h, _ => by simp [DataW.TrodAll] at h
 | .u, [], [], _ :: _, _, _, h, _ => by simp [DataW.TrodAll] at h
def Wu (P : Program) (t : TypeId) : Prop := ∃ τ : Ty, Xb P τ t = true ∧ τ.pos = true
theorem UC : ∀ {τ : Ty} {fs : List Field} {o : Nat}, Pd P τ fs o = true → τ.pos = true →
 (∀ f ∈ fs, Wu P f.type) ∧ τ.size = (fs.map fun f => P.cellsOf f.type).sum ∧ ∀ (j : Nat) f, fs[j]? = some f → f.offset = o + ((fs.take j).map fun f => P.cellsOf f.type).sum
 | .u, fs, o, h, _ => by
  rw [DN h]
  simp [Ty.size]
 | .p x y, fs, o, h, hp => by
  obtain ⟨f, r, rfl, ho, ht, hr⟩ := TC h
  simp only [Ty.pos, jd] at hp
  obtain ⟨h1, h2, h3⟩ := UC hr hp.2
  refine ⟨?_, ?_, ?_⟩
  ·intro g hg
   rcases jq.1 hg with rfl | hg
   ·exact ⟨x, ht, hp.1⟩
   ·exact h1 g hg
  ·simp [Ty.size, Di ht, h2]
  ·intro j g hj
   cases j with
   | zero => simp at hj; subst hj; simp [ho]
   | succ j =>
    have := h3 j g (by simpa using hj)
    simp [this, Di ht, ju]
 | .i _, fs, o, h, _ => by simp [Pd] at h
 | .b, fs, o, h, _ => by simp [Pd] at h
 | .o, fs, o, h, _ => by simp [Pd] at h
 | .mp _ _, fs, o, h, _ => by simp [Pd] at h
 | .s, fs, o, h, _ => by simp [Pd] at h
 | .sl _, fs, o, h, _ => by simp [Pd] at h
theorem Lp {t : TypeId} {u : TypeDesc} (h : Wu P t) (hu : P.underlying t = some u) : (∃ k, u = .int k) ∨ u = .bool ∨ u = .string ∨ (∃ e, u = .slice e ∧ Wu P e ∧ 0 < P.cellsOf e) ∨ ∃ fs, u = .struct fs := by
 obtain ⟨τ, ht, hp⟩ := h
 cases τ with
 | i k => rw [Tok.i ht] at hu; exact .inl ⟨k, (Option.some.inj hu).symm⟩
 | b => rw [Tok.b ht] at hu; exact .inr (.inl (Option.some.inj hu).symm)
 | o => simp [Ty.pos] at hp
 | mp _ _ => simp [Ty.pos] at hp
 | s => rw [Tok.s ht] at hu; exact .inr (.inr (.inl (Option.some.inj hu).symm))
 | sl e =>
  obtain ⟨et, h1, h2⟩ := Tok.sl ht
  rw [h1] at hu
  simp only [Ty.pos, jd] at hp
  exact .inr (.inr (.inr (.inl ⟨et, (Option.some.inj hu).symm, ⟨e, h2, hp.1⟩, by rw [Di h2]; simpa using hp.2⟩)))
 | u => obtain ⟨fs, h1, _⟩ := BC ht; rw [h1] at hu; exact .inr (.inr (.inr (.inr ⟨fs, (Option.some.inj hu).symm⟩)))
 | p x y => obtain ⟨fs, h1, _⟩ := AC ht; rw [h1] at hu; exact .inr (.inr (.inr (.inr ⟨fs, (Option.some.inj hu).symm⟩)))
theorem VG : Kids P (Wu P) := by
 refine ⟨?_, ?_, ?_, ?_, ?_⟩
 ·intro t e ht hu
  rcases Lp ht hu with ⟨k, h⟩ | h | h | ⟨e', h, _⟩ | ⟨fs, h⟩ <;> simp at h
 ·intro t e ht hu
  rcases Lp ht hu with ⟨k, h⟩ | h | h | ⟨e', h, h2, _⟩ | ⟨fs, h⟩ <;> simp at h
  rw [h]; exact h2
 ·intro t e n ht hu
  rcases Lp ht hu with ⟨k, h⟩ | h | h | ⟨e', h, _⟩ | ⟨fs, h⟩ <;> simp at h
 ·intro t fs ht hu
  obtain ⟨τ, ht, hp⟩ := ht
  cases τ with
  | i k => rw [Tok.i ht] at hu; simp at hu
  | b => rw [Tok.b ht] at hu; simp at hu
  | o => simp [Ty.pos] at hp
  | mp _ _ => simp [Ty.pos] at hp
  | s => rw [Tok.s ht] at hu; simp at hu
  | sl e => obtain ⟨et, h1, _⟩ := Tok.sl ht; rw [h1] at hu; simp at hu
  | u =>
   obtain ⟨fs', h1, h2⟩ := BC ht
   rw [h1] at hu
   simp only [jc, TypeDesc.struct.injEq] at hu
   subst hu
   have : fs'.toList = [] := by simpa using h2
   rw [Di ht, this]
   simp [Ty.size]
  | p x y =>
   obtain ⟨fs', h1, h2⟩ := AC ht
   rw [h1] at hu
   simp only [jc, TypeDesc.struct.injEq] at hu
   subst hu
   obtain ⟨a, b, c⟩ := UC h2 hp
   exact ⟨a, by rw [Di ht, b], fun j f hj => by simpa using c j f hj⟩
 ·intro t k e ht hu
  rcases Lp ht hu with ⟨k, h⟩ | h | h | ⟨e', h, _⟩ | ⟨fs, h⟩ <;> simp at h
theorem Wv : ∀ {pt : Ty} {ts : List TypeId}, Fg P pt ts = true → ∀ t ∈ ts, Wu P t
 | .p x y, t :: ts, h, t', ht => by
  simp only [Fg, jd] at h
  rcases jq.1 ht with rfl | ht
  ·exact ⟨x, h.1.1, h.1.2⟩
  ·exact Wv h.2 t' ht
 | .u, [], _, _, ht => by simp at ht
 | .p _ _, [], _, _, ht => by simp at ht
 | .u, _ :: _, h, _, _ => by simp [Fg] at h
 | .i _, _, h, _, _ => by simp [Fg] at h
 | .b, _, h, _, _ => by simp [Fg] at h
 | .o, _, h, _, _ => by simp [Fg] at h
 | .mp _ _, _, h, _, _ => by simp [Fg] at h
 | .s, _, h, _, _ => by simp [Fg] at h
 | .sl _, _, h, _, _ => by simp [Fg] at h
theorem Jt {w' : World} {sp' : Nat → Bool} : ∀ {ts : List TypeId} {vs : List Value} {ds : List (DataW H)} {ps : List MemPlace}, (∀ t ∈ ts, Wu P t) →
 DataW.TrodAll enc P w 0 (fun _ => true) true ts vs ds ps → (∀ p ∈ ps, w.sameAt w' p) → (∀ p ∈ ps, sp' p.block = true) → DataW.TrodAll enc P w' 0 sp' true ts vs ds ps
 | [], [], [], _, _, h, _, _ => h
 | t :: ts, v :: vs, d :: ds, ps, hp, h, h1, h2 => by
  obtain ⟨p, q, ⟨n, ha⟩, hb, rfl⟩ := h
  refine ⟨p, q, ⟨n, DataW.trod_stays VG ?_ (fun h => by simp at h) (hp t (by simp)) ha (fun z hz => h1 z (List.mem_append_left _ hz)) (fun z hz => h2 z (List.mem_append_left _ hz))⟩,
   Jt (fun t ht => hp t (by simp [ht])) hb (fun z hz => h1 z (List.mem_append_right _ hz)) (fun z hz => h2 z (List.mem_append_right _ hz)), rfl⟩
  intro t e ht hu
  rcases Lp ht hu with ⟨k, h⟩ | h | h | ⟨e', h, _, h2⟩ | ⟨fs, h⟩ <;> simp at h
  rw [h]; exact h2
 | [], _ :: _, _, _, _, h, _, _ => by simp [DataW.TrodAll] at h
 | [], [], _ :: _, _, _, h, _, _ => by simp [DataW.TrodAll] at h
 | _ :: _, [], _, _, _, h, _, _ => by simp [DataW.TrodAll] at h
 | _ :: _, _ :: _, [], _, _, h, _, _ => by simp [DataW.TrodAll] at h
theorem Aw : ∀ {ts : List TypeId} {vs : List Value} {ds : List (DataW H)} {ps : List MemPlace}, DataW.TrodAll enc P w base spare held ts vs ds ps → ds.length = ts.length
 | [], [], [], _, _ => rfl
 | _ :: _, _ :: _, _ :: _, _, h => by
  obtain ⟨_, _, _, h, _⟩ := h
  simp [Aw h]
 | [], _ :: _, _, _, h => by simp [DataW.TrodAll] at h
 | [], [], _ :: _, _, h => by simp [DataW.TrodAll] at h
 | _ :: _, [], _, _, h => by simp [DataW.TrodAll] at h
 | _ :: _, _ :: _, [], _, h => by simp [DataW.TrodAll] at h
theorem Zn.but {w w' : World} (h : Zn w w' fun _ => False) (may : MemPlace → Prop) : w.keptBut w' may := by
 refine ⟨h.os, h.output, fun i hi => ?_⟩
 rw [h.block i hi (fun h => h)]
 cases w.heap[i]? with
 | none => rfl
 | some o =>
  cases o with
  | cells c t fr => exact ⟨rfl, rfl, rfl, fun _ _ => rfl⟩
  | map es clock => exact .inr ⟨rfl, rfl⟩
  | _ => rfl
def SR : Bh := ⟨0, fun _ => True, fun _ _ _ h => h⟩
theorem ZG {C : Checked} {os : Os} {f : FuncId} {fn : Func} {s : ChangeSpec} {apart fresh handsOn again : Bool} {pt : Ty} {fl : Bool} {F : T pt → Option (Bool × Unit)} {tb : TypeId}
 (own : ownKnob C.prog.godebug = none) (started : os.Started) (noInit : C.prog.inits.idxOf? f = none) (hfn : C.prog.funcs[f]? = some fn)
 (witness : ∃ (w : World) (tape : Tape) (i : Input), w.os = os ∧ (w.forCall tape i).Shaped C.prog ∧ i.vars = [] ∧ Input.okWide C.prog (w.forCall tape i) .any w.heap.size f i ∧
  s.pre6 enc C.prog fn [] apart (w.forCall tape i).memory i.args ∧ ({} : Assume).holds C.prog (lone (Frame.enter C.prog f i.args .normal) [] (w.forCall tape i)))
 (hvars : s.vars = []) (hs : ∀ ds : List (DataW H), ds.length = fn.params.toList.length → s.fn H ds = { results := [.lit (.bool true)], args := ds })
 (hp : Fg C.prog pt fn.params.toList = true) (hr : fn.resultTypes = #[tb]) (htb : C.prog.underlying tb = some .bool)
 (hsound : Jm C.prog SR f (.pu pt (.p .b .u) [fl] F)) (hF : ∀ x, Yl pt x → F x = some (true, ())) :
 ReturnsInHanded {} C os f .any (s.pre6 enc C.prog fn [] apart) (s.post enc C.prog fn apart fresh handsOn again) := by
 refine returnsInHanded_of_change own started noInit hfn witness ?_
 intro W b0 args ds gs before hval hW _ _
 have hW0 := hW
 obtain ⟨p, q, hA, hV, hps, hfz, hnd⟩ := hW
 rw [hvars] at hV
 have hgs : gs = [] ∧ q = [] := by
  cases gs with
  | nil => exact ⟨rfl, hV⟩
  | cons _ _ => exact hV.elim
 obtain ⟨rfl, rfl⟩ := hgs
 simp only [List.append_nil] at hps
 subst hps
 obtain ⟨x, hx, hrx⟩ := Qu (base := b0) hp hA fun j t v h1 h2 => hval j t v (by simpa using h1) (by simpa using h2)
 have hcall := hsound.2 (fun _ => False) W x (true, ()) args.toList (hF x hrx) hx (fun _ h => h.elim) trivial (Nat.zero_le _)
 refine hcall.mono fun e W' hret => ?_
 cases e with
 | returned v =>
  obtain ⟨vs, Fr, hv, hk, hR, _, _⟩ := hret
  have hvt : v = .bool true := by
   cases vs with
   | nil => simp [Rb] at hR
   | cons a r =>
    obtain ⟨cs, F1, F2, ha, _, hown, hrest⟩ := hR
    cases r with
    | cons _ _ => simp [Rb] at hrest
    | nil =>
     have hcs : cs = [.bool true] := by
      cases fl with
      | true => exact hown.1
      | false => exact hown.1
     rw [hv, Hq, ha, hcs]
     rfl
  subst hvt
  refine ⟨_, rfl, ?_⟩
  have hsp := hs ds (Aw hA)
  have hlt : ∀ z ∈ before, z.block < W.heap.size := hW0.lt
  have hsame : ∀ z ∈ before, W.sameAt W' z := by
   intro z hz
   have hb := hk.block z.block (hlt z hz) (fun h => h)
   cases z with
   | cell b off =>
    show W'.cell? _ = W.cell? _
    simp only [World.cell?]
    rw [show W'.heap[b]? = W.heap[b]? from hb]
   | map b => exact hb
  have hargs : ∀ sp : Nat → Bool, (∀ z ∈ before, sp z.block = true) → DataW.TrodAll enc C.prog W' 0 sp true fn.params.toList args.toList ds before :=
   fun sp h => Jt (Wv hp) hA hsame h
  have hres : ∀ (b : Nat) (sp : Nat → Bool) (hd : Bool), DataW.TrodAll enc C.prog W' b sp hd fn.resultTypes.toList ((Value.bool true).resultList fn.resultTypes.size) [.lit (.bool true)] [] := by
   intro b sp hd
   rw [hr]
   exact trodAll_mk1 (Go.RowKit.shut_bool htb true)
  have hold : ∀ z ∈ before, (fun b => decide (b < W.heap.size)) z.block = true := fun z hz => by simpa using hlt z hz
  refine ⟨ds, [], before, [], before, [], hW0, ?_, ?_, ?_, hk.but _, fun _ => ⟨?_, ds.cons (.lit (.bool true)), [], before, ⟨before, [], ?_, ?_, by simp, ?_, ?_⟩, fun z hz _ => hz⟩⟩
  ·rw [List.append_nil, hsp]; exact hres _ _ _
  ·rw [List.append_nil, hsp]; exact hargs _ hold
  ·rw [List.append_nil, hsp, hvars]; rfl
  ·intro j t r hj hv
   rw [hr] at hj hv
   match j, hj, hv with
   | 0, hj, hv =>
    simp only [List.getElem?_toArray, List.getElem?_cons_zero, jc] at hj
    simp [Value.resultList] at hv
    subst hj; subst hv
    exact Go.RowKit.okWide_bool_mk htb true
  ·exact trodAll_append (hargs _ (fun _ _ => rfl)) (hres _ _ _)
  ·rw [hvars]; rfl
  ·intro b off hz
   have := hfz b off hz
   unfold World.frozen? at this ⊢
   rw [show W'.heap[b]? = W.heap[b]? from hk.block b (hlt _ hz) (fun h => h)]
   exact this
  ·exact hnd
 | _ => exact hret.elim
end
noncomputable def Nc {X R : Type} (step : X → Option (X ⊕ R)) (x : X) : Option R :=
 open Classical in if h : ∃ m y, Rp step m x y then some h.choose_spec.choose else none
theorem Rp.det {X R : Type} {step : X → Option (X ⊕ R)} : ∀ {m n : Nat} {x : X} {y z : R}, Rp step m x y → Rp step n x z → y = z
 | 0, _, _, _, _, h, _ => h.elim
 | _ + 1, 0, _, _, _, _, h => h.elim
 | m + 1, n + 1, x, y, z, h, h' => by
  rcases h with h | ⟨x1, h, h1⟩ <;> rcases h' with h' | ⟨x2, h', h2⟩
  ·rw [h] at h'; simpa using h'
  ·rw [h] at h'; simp at h'
  ·rw [h] at h'; simp at h'
  ·rw [h] at h'
   simp only [jc, Sum.inl.injEq] at h'
   subst h'
   exact Rp.det h1 h2
theorem Vq {X R : Type} {step : X → Option (X ⊕ R)} {x : X} {y : R} : Nc step x = some y ↔ ∃ m, Rp step m x y := by
 unfold Nc
 constructor
 ·intro h
  split at h
  ·rename_i hh
   simp only [jc] at h
   exact ⟨_, h ▸ hh.choose_spec.choose_spec⟩
  ·simp at h
 ·rintro ⟨m, h⟩
  have hh : ∃ m y, Rp step m x y := ⟨m, y, h⟩
  rw [dif_pos hh]
  exact congrArg some (Rp.det hh.choose_spec.choose_spec h)
theorem AH {X R : Type} {step : X → Option (X ⊕ R)} (x : X) : Nc step x = (step x).bind (Sum.elim (Nc step) some) := by
 apply Option.ext
 intro y
 rw [Vq]
 constructor
 ·rintro ⟨m, h⟩
  cases m with
  | zero => exact h.elim
  | succ m =>
   rcases h with h | ⟨x', h, h'⟩
   ·simp [h]
   ·simp [h, Vq.2 ⟨m, h'⟩]
 ·intro h
  rw [qg] at h
  obtain ⟨z, hz, h⟩ := h
  cases z with
  | inl x' =>
   obtain ⟨m, hm⟩ := Vq.1 h
   exact ⟨m + 1, .inr ⟨x', hz, hm⟩⟩
  | inr z =>
   simp only [Sum.elim_inr, jc] at h
   subst h
   exact ⟨1, .inl hz⟩
def lp (fn : Func) (i : Nat) : Code := (Tc (fn.body.getD .skip)).getD i .skip
theorem GJ {G : Zc} {L : List (Nat × Ub)} {fn : Func} {i r : Nat} {ls : Ub} {R : ls.inT.X → Option (ls.inT.X ⊕ (ls.outT.X ⊕ ls.retT.X))}
 (h1 : Dg (lp fn i) = some r) (h2 : (Ta L r) = some ls) (h3 : ls.F = Nc R) (h4 : ∀ x, Xq G L ls (lp fn i) x = R x) : Xc G L (lp fn i) := by
 intro r' ls' hr hl x y hy
 rw [h1] at hr
 simp only [jc] at hr
 subst hr
 rw [h2] at hl
 simp only [jc] at hl
 subst hl
 rw [h3] at hy
 obtain ⟨m, hm⟩ := Vq.1 hy
 have : Xq G L ls (lp fn i) = R := funext h4
 rw [this]
 exact ⟨m, hm⟩
theorem Fu {G : Zc} {L : List (Nat × Ub)} {fn : Func} {k : Nat} (hk : Nat.beq (Tc (fn.body.getD .skip)).length k = true) (h : ∀ i, i < k → Xc G L (lp fn i)) :
 ∀ b, b ∈ Tc (fn.body.getD .skip) → Xc G L b := by
 intro b hb
 obtain ⟨i, hi, rfl⟩ := List.mem_iff_getElem.1 hb
 have := h i (by rw [← jv hk]; exact hi)
 unfold lp at this
 rwa [qj, je hi] at this
theorem Vb {p : Nat → Prop} : ∀ i, i < 0 → p i := fun i h => absurd h (Nat.not_lt_zero i)
theorem Ad {p : Nat → Prop} {k : Nat} (h : p k) (hr : ∀ i, i < k → p i) : ∀ i, i < k + 1 → p i := by
 intro i hi
 rcases Nat.lt_or_eq_of_le (Nat.lt_succ_iff.1 hi) with hi | rfl
 ·exact hr i hi
 ·exact h
section
variable {P : Program}
theorem QK {l : List (Nat × Ty)} {fs : List (Nat × Gc)} {m : List (Nat × Nat)} {z : Bool} {ar : List (Nat × Ty × Nat)} {mv ml : List Nat}
 (h : ((l.all fun x => Xb P x.2 x.1) && (ar.all fun x => Dz P x.1 x.2.1 x.2.2)) = true) : EnvTy P ⟨l, fs, m, z, ar, mv, ml⟩ := by
 simp only [jd] at h
 exact ⟨fun t τ ht => List.all_eq_true.1 h.1 (t, τ) (Tk ht), fun t e n ht => List.all_eq_true.1 h.2 (t, e, n) (Tk ht)⟩
theorem EI {I : Bh} {l : List (Nat × Ty)} {m : List (Nat × Nat)} {z : Bool} {ar : List (Nat × Ty × Nat)} {mv ml : List Nat}
 (h : ((l.all fun x => Xb P x.2 x.1) && (ar.all fun x => Dz P x.1 x.2.1 x.2.2)) = true) : Ug P I ⟨l, [], m, z, ar, mv, ml⟩ :=
 { toEnvTy := QK h, fn := fun f sem h => by simp [Ta] at h }
theorem Ug.cons {I : Bh} {l : List (Nat × Ty)} {fs : List (Nat × Gc)} {m : List (Nat × Nat)} {z : Bool} {ar : List (Nat × Ty × Nat)} {mv ml : List Nat} {f : Nat} {sem : Gc} (hs : Jm P I f sem)
 (h : Ug P I ⟨l, fs, m, z, ar, mv, ml⟩) : Ug P I ⟨l, (f, sem) :: fs, m, z, ar, mv, ml⟩ :=
 { toEnvTy := ⟨h.ty, h.ar⟩, fn := fun g s hg => by
    simp only [Kb] at hg
    split at hg
    ·rename_i e
     simp only [jc] at hg
     subst e; subst hg
     exact hs
    ·exact h.fn g s hg }
theorem Tt {fn : Func} (h : fn.body.isSome = true) : fn.body = some (fn.body.getD .skip) := by
 cases hb : fn.body with
 | none => rw [hb] at h; simp at h
 | some c => rfl
variable {I : Bh} {G : Zc} {L : List (Nat × Ub)}
theorem CB (hG : Ug P I G) (hm : P.follows .mixedOrders = true) {f : FuncId} {fn : Func} {k : Nat} {pt rt : Ty} {fr : List Bool} {F : T pt → Option (T rt)} (hf : P.funcs[f]? = some fn)
 (hb : (fn.body.isSome && !(fn.name == "runtime.NumGoroutine") && jy pt.npar fn.ntmps && Nat.beq (Tc (fn.body.getD .skip)).length k) = true)
 (hL : ∀ i, i < k → Xc G L (lp fn i)) (hF : ∀ x, FI G L fn pt rt fr x = F x) : Jm P I f (.pu pt rt fr F) := by
 simp only [jd, Bool.not_eq_true'] at hb
 exact TL hG hm hf (Tt hb.1.1.1) hb.1.1.2 (Fu hb.2 hL) (Nat.le_of_ble_eq_true hb.1.2) fun x r h => (hF x).trans h
theorem PJ (hG : Ug P I G) {vw cv : Bool} (hfz : (!G.fz || ((vw && !cv) && It G.att)) = true) (hm : P.follows .mixedOrders = true) {f : FuncId} {fn : Func} {k : Nat} {τ pt rt : Ty} {fr : List Bool} {F : T τ → T pt → Option (T τ × T rt)} (hf : P.funcs[f]? = some fn)
 (hb : (fn.body.isSome && !(fn.name == "runtime.NumGoroutine") && jy (pt.npar + 1) fn.ntmps && Nat.beq (Tc (fn.body.getD .skip)).length k) = true)
 (hL : ∀ i, i < k → Xc G L (lp fn i)) (hF : ∀ x0 x, XB G L fn vw cv τ pt rt fr x0 x = F x0 x) : Jm P I f (.bx vw cv τ pt rt fr F) := by
 simp only [jd, Bool.not_eq_true'] at hb
 have hz : G.fz = false ∨ ((vw && !cv) = true ∧ It G.att = true) := by
  simp only [Bool.or_eq_true, Bool.not_eq_true', jd] at hfz ⊢
  exact hfz
 exact RL hG hz hm hf (Tt hb.1.1.1) hb.1.1.2 (Fu hb.2 hL) (Nat.le_of_ble_eq_true hb.1.2) fun x0 x r h => (hF x0 x).trans h
theorem QJ (hG : Ug P I G) (hm : P.follows .mixedOrders = true) {f : FuncId} {fn : Func} {k : Nat} {pt τ : Ty} {F : T pt → Option (T τ)} (hf : P.funcs[f]? = some fn)
 (hb : (fn.body.isSome && !(fn.name == "runtime.NumGoroutine") && jy pt.npar fn.ntmps && Nat.beq (Tc (fn.body.getD .skip)).length k) = true)
 (hL : ∀ i, i < k → Xc G L (lp fn i)) (hF : ∀ x, YB G L fn pt τ x = F x) : Jm P I f (.nw pt τ F) := by
 simp only [jd, Bool.not_eq_true'] at hb
 exact SL hG hm hf (Tt hb.1.1.1) hb.1.1.2 (Fu hb.2 hL) (Nat.le_of_ble_eq_true hb.1.2) fun x r h => (hF x).trans h
end
def hd (h : T .o) : Value := .slice h.1 h.2.1 h.2.2
section
variable {P : Program} {w w' : World}
end
open Classical in



open Go Go.WideShapes Go.ChangeShapes
section
variable {H : Type} {enc : TypeId × Value → H}
end


def Kd {α S R : Type} (g : Nat → S → α → S ⊕ R) : Nat → S → List α → S ⊕ R
 | _, s, [] => .inl s
 | k, s, x :: xs => match g k s x with
  | .inl s' => Kd g (k + 1) s' xs
  | .inr r => .inr r
section
variable {X R : Type} {step : X → Option (X ⊕ R)}
theorem Ki {x : X} {z : Option (X ⊕ R)} (h : step x = z) : Nc step x = z.bind (Sum.elim (Nc step) some) := by
 rw [AH, h]
theorem NE {α S R' : Type} (xs : List α) (g : Nat → S → α → S ⊕ R') (I : Nat → S → X) (out : S → R) (ex : R' → R) (Bh : Nat → S → Prop)
 (h : ∀ k (hk : k < xs.length) s, Bh k s → step (I k s) = some (match g k s xs[k] with | .inl s' => .inl (I (k + 1) s') | .inr r => .inr (ex r)) ∧ ∀ s', g k s xs[k] = .inl s' → Bh (k + 1) s')
 (he : ∀ s, Bh xs.length s → step (I xs.length s) = some (.inr (out s))) (s0 : S) (h0 : Bh 0 s0) :
 Nc step (I 0 s0) = some (match Kd g 0 s0 xs with | .inl s => out s | .inr r => ex r) := by
 have key : ∀ (ys : List α) (k : Nat) (s : S), xs.drop k = ys → k ≤ xs.length → Bh k s → Nc step (I k s) = some (match Kd g k s ys with | .inl s => out s | .inr r => ex r) := by
  intro ys
  induction ys with
  | nil =>
   intro k s hd hle hi
   have : k = xs.length := by
    have := congrArg ja hd
    simp at this
    omega
   subst this
   rw [Ki (he s hi)]
   rfl
  | cons y ys ih =>
   intro k s hd hle hi
   have hk : k < xs.length := by
    have := congrArg ja hd
    simp at this
    omega
   have hy : xs[k] = y := by
    have := congrArg (·[0]?) hd
    simp [List.getElem?_drop, je hk] at this
    exact this
   obtain ⟨h1, h2⟩ := h k hk s hi
   rw [Ki h1]
   rw [hy] at h2 ⊢
   simp only [Kd]
   cases hg : g k s y with
   | inl s' =>
    simp only [jb, qk]
    refine ih (k + 1) s' ?_ hk (h2 s' hg)
    rw [← List.drop_drop, hd]
    rfl
   | inr r => rfl
 exact key xs 0 s0 rfl (Nat.zero_le _) h0
theorem FJ (I : Nat → X) (n : Nat) (out : R) (h : ∀ k, k < n → step (I k) = some (.inl (I (k + 1)))) (he : step (I n) = some (.inr out)) : Nc step (I 0) = some out := by
 have key : ∀ m k, m + k = n → Nc step (I k) = some out := by
  intro m
  induction m with
  | zero =>
   intro k hk
   have : k = n := by omega
   subst this
   rw [Ki he]; rfl
  | succ m ih =>
   intro k hk
   rw [Ki (h k (by omega))]
   exact ih (k + 1) (by omega)
 exact key n 0 (by omega)
end
theorem Mb {n : Int} (h1 : -9223372036854775808 ≤ n) (h2 : n ≤ 9223372036854775807) : j6 .i64 n = n := IntWalk.i64_in n ⟨h1, h2⟩
theorem Ei {k : Nat} (h : k < 9223372036854775807) : j6 .i64 ((k : Int) + 1) = ((k + 1 : Nat) : Int) := by
 rw [Mb (by omega) (by omega)]; omega
theorem Yn {n : Int} (h1 : 0 ≤ n) (h2 : n ≤ 255) : j6 .u8 n = n := IntWalk.u8_in n ⟨h1, h2⟩
section
variable {α : Type}
theorem HN (xs : List α) (k : Nat) : Pb xs (k : Int) = xs[k]? := by simp [Pb]
theorem Ae {xs : List α} {k : Nat} (h : k < xs.length) : Pb xs (k : Int) = some xs[k] := by rw [HN, je h]
theorem Gy {xs : List α} {i : Int} {k : Nat} (hi : i = (k : Int)) (h : k < xs.length) : Pb xs i = some xs[k] := by rw [hi, Ae h]
theorem Lg (n k : Nat) : Ed n (k : Int) = decide (k < n) := by
 simp [Ed]
theorem Ja {p : Prop} [Decidable p] (h : p) : decide p = true := decide_eq_true h
theorem Ka {p : Prop} [Decidable p] (h : ¬ p) : decide p = false := decide_eq_false h
end
theorem MQ : Ge = 1073741824 := rfl
def Ac : (τ : Ty) → T τ → Nat
 | .i _, _ => 0
 | .b, _ => 0
 | .o, _ => 0
 | .mp _ _, _ => 0
 | .s, x => ja x
 | .sl e, xs => ja xs + (List.map (Ac e) xs).sum
 | .u, _ => 0
 | .p a c, v => Ac a v.1 + Ac c v.2
def Ty.hasS : Ty → Bool
 | .s => true
 | .sl e => e.hasS
 | .p x y => x.hasS || y.hasS
 | _ => false
def Db : Nat := 1048576
theorem Et {α : Type} {f : α → Nat} {xs : List α} {k : Nat} (hk : k < xs.length) : f xs[k] ≤ (xs.map f).sum := by
 induction xs generalizing k with
 | nil => simp at hk
 | cons x xs ih =>
  cases k with
  | zero => simp
  | succ k =>
   have := ih (k := k) (by simpa using hk)
   simp only [List.getElem_cons_succ, List.map_cons, List.sum_cons]
   omega
theorem Kx : ∀ {τ : Ty} (_ : (τ.flat && !τ.hasS) = true) {x : T τ}, Ac τ x = 0
 | .i _, _, _ => rfl
 | .b, _, _ => rfl
 | .o, _, _ => rfl
 | .mp _ _, _, _ => rfl
 | .s, h, _ => by simp [Ty.hasS] at h
 | .sl _, h, _ => by simp [Ty.flat] at h
 | .u, _, _ => rfl
 | .p a c, h, x => by
  simp only [Ty.flat, Ty.hasS, jd, Bool.not_eq_true', Bool.or_eq_false_iff] at h
  simp only [Ac]
  rw [Kx (τ := a) (by simp [h.1.1, h.2.1]), Kx (τ := c) (by simp [h.1.2, h.2.2])]
theorem DE {e : Ty} (h : (e.flat && !e.hasS) = true) (xs : List (T e)) : Ac (.sl e) xs = ja xs := by
 simp only [Ac]
 have : List.map (Ac e) xs = List.replicate xs.length 0 := by
  apply List.ext_getElem
  ·simp
  ·intro i h1 h2
   simp [Kx h]
 rw [this]
 simp
theorem Fj {α : Type} (b : Bool) (x y : α) : cond b (some x) (some y) = some (cond b x y) := by cases b <;> rfl
theorem Gj {α : Type} (b : Bool) (x y : α) : cond b (x, ()) (y, ()) = (cond b x y, ()) := by cases b <;> rfl
theorem Bc (b x y : Bool) : (cond b x y = true) ↔ ((b = true ∧ x = true) ∨ (¬ b = true ∧ y = true)) := by cases b <;> simp
theorem AN {a b : Bool} (h : a = true ↔ b = true) : a = b := Bool.eq_iff_iff.2 h
theorem Sb {a b : Bool} (h : a = true ↔ b = true) : some (a, ()) = some (b, ()) := by rw [AN h]
theorem Es (a b : Int) : ((a == b) = true) ↔ a = b := by simp
theorem Hs (a b : Int) : ((a != b) = true) ↔ ¬ a = b := by simp
def Kf {α : Type} (p : Nat → α → Bool) : Nat → List α → Bool
 | _, [] => true
 | k, x :: xs => p k x && Kf p (k + 1) xs
theorem Hn {X R : Type} {step : X → Option (X ⊕ R)} {α : Type} (xs : List α) (p : Nat → α → Bool) (I : Int → X) (yes no : R)
 (h : ∀ k (hk : k < xs.length), step (I (k : Int)) = some (cond (p k xs[k]) (.inl (I (j6 .i64 ((k : Int) + 1)))) (.inr no)))
 (he : step (I (xs.length : Int)) = some (.inr yes)) (hn : xs.length < 9223372036854775807) :
 Nc step (I 0) = some (cond (Kf p 0 xs) yes no) := by
 have key : ∀ (ys : List α) (k : Nat), xs.drop k = ys → k ≤ xs.length → Nc step (I (k : Int)) = some (cond (Kf p k ys) yes no) := by
  intro ys
  induction ys with
  | nil =>
   intro k hd hle
   have : k = xs.length := by
    have := congrArg ja hd
    simp at this
    omega
   subst this
   rw [Ki he]
   rfl
  | cons y ys ih =>
   intro k hd hle
   have hk : k < xs.length := by
    have := congrArg ja hd
    simp at this
    omega
   have hy : xs[k] = y := by
    have := congrArg (·[0]?) hd
    simp [List.getElem?_drop, je hk] at this
    exact this
   have hd' : xs.drop (k + 1) = ys := by rw [← List.drop_drop, hd]; rfl
   rw [Ki (h k hk), hy]
   simp only [Kf]
   cases hc : p k y with
   | true =>
    simp only [cond_true, jl, jb, qk]
    rw [← ih (k + 1) hd' hk, Ei (by omega)]
   | false => rfl
 have := key xs 0 rfl (Nat.zero_le _)
 simpa using this
theorem Ve {α : Type} {p : Nat → α → Bool} : ∀ {xs : List α} {k : Nat}, Kf p k xs = true ↔ ∀ j (hj : j < xs.length), p (k + j) xs[j] = true
 | [], _ => by simp [Kf]
 | x :: xs, k => by
  simp only [Kf, jd, Ve (xs := xs)]
  constructor
  ·rintro ⟨h1, h2⟩ j hj
   cases j with
   | zero => exact h1
   | succ j => simpa [ju, Nat.add_comm 1 j] using h2 j (by simpa using hj)
  ·intro h
   refine ⟨h 0 (by simp), fun j hj => ?_⟩
   have := h (j + 1) (by simpa using hj)
   rw [ju, Nat.add_comm 1 j]
   exact this
theorem FA {α β γ : Type} (b : Bool) (x : α) (y : β) (f : α → γ) (g : β → γ) : Sum.elim f g (cond b (.inl x) (.inr y)) = cond b (f x) (g y) := by cases b <;> rfl
def Kc {α S : Type} (g : Nat → S → α → S) : Nat → S → List α → S
 | _, s, [] => s
 | k, s, x :: xs => Kc g (k + 1) (g k s x) xs
theorem DI {α : Type} {xs ys : List α} {y : α} {k : Nat} (hd : xs.drop k = y :: ys) : ∃ hk : k < xs.length, xs[k] = y ∧ xs.drop (k + 1) = ys := by
 have hk : k < xs.length := by
  have := congrArg ja hd
  simp at this
  omega
 refine ⟨hk, ?_, by rw [← List.drop_drop, hd]; rfl⟩
 have := congrArg (·[0]?) hd
 simp [List.getElem?_drop, je hk] at this
 exact this
theorem NK {α : Type} {xs : List α} {k : Nat} (hd : xs.drop k = []) (hk : k ≤ xs.length) : k = xs.length := by
 have := congrArg ja hd
 simp at this
 omega
theorem Rj {X R : Type} {step : X → Option (X ⊕ R)} {α S : Type} (xs : List α) (g : Nat → S → α → S) (I : S → Int → X) (out : S → R) (Bh : Nat → S → Prop)
 (h : ∀ k (hk : k < xs.length) s, Bh k s → step (I s (k : Int)) = some (.inl (I (g k s xs[k]) (j6 .i64 ((k : Int) + 1)))) ∧ Bh (k + 1) (g k s xs[k]))
 (he : ∀ s, Bh xs.length s → step (I s (xs.length : Int)) = some (.inr (out s))) (hn : xs.length < 9223372036854775807) (s0 : S) (h0 : Bh 0 s0) :
 Nc step (I s0 0) = some (out (Kc g 0 s0 xs)) ∧ Bh xs.length (Kc g 0 s0 xs) := by
 have key : ∀ (ys : List α) (k : Nat) (s : S), xs.drop k = ys → k ≤ xs.length → Bh k s → Nc step (I s (k : Int)) = some (out (Kc g k s ys)) ∧ Bh xs.length (Kc g k s ys) := by
  intro ys
  induction ys with
  | nil =>
   intro k s hd hle hi
   have := NK hd hle
   subst this
   rw [Ki (he s hi)]
   exact ⟨rfl, hi⟩
  | cons y ys ih =>
   intro k s hd hle hi
   obtain ⟨hk, hy, hd'⟩ := DI hd
   obtain ⟨h1, h2⟩ := h k hk s hi
   rw [Ki h1, hy, Ei (by omega)]
   rw [hy] at h2
   exact ih (k + 1) _ hd' hk h2
 have := key xs 0 s0 rfl (Nat.zero_le _) h0
 simpa using this
theorem Tv {X R : Type} {step : X → Option (X ⊕ R)} {α S R' : Type} (xs : List α) (g : Nat → S → α → S ⊕ R') (I : S → Int → X) (out : S → R) (ex : R' → R) (Bh : Nat → S → Prop)
 (h : ∀ k (hk : k < xs.length) s, Bh k s → step (I s (k : Int)) = some (match g k s xs[k] with | .inl s' => .inl (I s' (j6 .i64 ((k : Int) + 1))) | .inr r => .inr (ex r)) ∧ ∀ s', g k s xs[k] = .inl s' → Bh (k + 1) s')
 (he : ∀ s, Bh xs.length s → step (I s (xs.length : Int)) = some (.inr (out s))) (hn : xs.length < 9223372036854775807) (s0 : S) (h0 : Bh 0 s0) :
 Nc step (I s0 0) = some (match Kd g 0 s0 xs with | .inl s => out s | .inr r => ex r) := by
 have := NE (step := step) xs g (fun k s => I s (k : Int)) out ex Bh (fun k hk s hi => by
  obtain ⟨h1, h2⟩ := h k hk s hi
  refine ⟨?_, h2⟩
  rw [h1, Ei (by omega)]) he s0 h0
 simpa using this
theorem Hj {n lo hi : Nat} (h1 : lo ≤ hi) (h2 : hi ≤ n) : Jc n (lo : Int) (hi : Int) = true := by
 simp [Jc]; omega
section
variable {α β : Type}
end
abbrev int : Ty := .i .i64
abbrev Zf : Ty := .i .u8
abbrev EE : Ty := (.p int (.p int .u))
abbrev Ti : Type := (Int × (Int × Unit))
abbrev Jg : Type := (Int × ((List Int) × Unit))
abbrev ZQ : Ty := (.p int (.p int (.p .b .u)))
abbrev Zl : Type := (Int × (Int × (Bool × Unit)))
abbrev ZB : Ty := (.p int EE)
abbrev Cg : Type := (Int × Ti)
abbrev Cd : Type := ((List (List Int)) × ((List Int) × Unit))
abbrev Gd : Ty := (.p (.sl Zf) EE)
abbrev Qa : Type := ((List Int) × Ti)
abbrev Hb : Ty := (.p int ZB)
abbrev Aa : Type := (Int × Cg)
abbrev Yf : Type := (Bool × Cg)
abbrev SM : Ty := (.p int (.p Hb .u))
abbrev Td : Type := (Int × (Aa × Unit))
abbrev HG : Type := (Int × (Int × (Int × (Int × Jg))))
abbrev Oa : Ty := (.p int (.p (.sl (.sl Hb)) .u))
abbrev Ca : Type := (Int × ((List (List Aa)) × Unit))
abbrev Zz : Type := ((List Ti) × (Int × ((List Zl) × (Int × (Int × (Int × ((List Zl) × Unit)))))))
abbrev WN : Ty := (.p Oa (.p (.sl (.sl ZB)) (.p int (.p (.sl SM) (.p int (.p .b .u))))))
abbrev Bk : Type := (Ca × ((List (List Cg)) × (Int × ((List Td) × (Int × (Bool × Unit))))))
abbrev XL : Ty := (.p WN (.p ZB (.p (.sl ZQ) Hb)))
abbrev Cw : Type := (Bk × (Cg × ((List Zl) × Aa)))
abbrev JP : Type := (Zl × (HG × (Zz × (Cw × Ti))))
noncomputable section
open Option renaming bind → ob
open Go.IntKind renaming wrap → wr
open Int renaming toNat → tn
open List renaming length → ln, append → ap, set → ls
open Sum renaming elim → se
open Nat renaming ble → bl
abbrev Dw : Type := Int × Unit
abbrev Fh : Type := Bool × Unit
abbrev Zd : Type := List Int
abbrev Rk : Type := Unit × Unit
abbrev Ui : Type := Ca × Unit
abbrev Se : Type := List Aa
abbrev SB : Type := Unit × Ti
abbrev Ox : Type := Unit × Dw
abbrev Of : Type := List Zd
abbrev Pf : Type := Ca × Ui
abbrev Px : Type := Fh × Unit
abbrev TB : Type := Int × ((List Se) × (Int × (Int × (Se × Ti))))
abbrev To : Type := Zd × Unit
abbrev Nq : Type := (List Se) × Ti
abbrev Qx : Type := Unit × Rk
abbrev Oq : Type := Unit × Ox
abbrev DM : Type := Rk ⊕ Px
abbrev UB : Type := Of × Ti
abbrev EM : Type := Aa × Unit
abbrev VB : Type := Zd × Dw
abbrev Rx : Type := Of × Unit
abbrev Pq : Type := Qa × Pf
abbrev FM : Type := Unit × Oq
abbrev GM : Type := Int × Ox
abbrev HM : Type := (Unit × (Int × (Unit × (Int × (Unit × (Int × (Se × Dw))))))) × Pq
abbrev IM : Type := Unit × VB
abbrev JM : Type := (Rx × Unit) ⊕ Rk
abbrev KM : Type := Unit × Qx
abbrev LM : Type := Unit × (Unit × UB)
abbrev MM : Type := (Int × (Of × (Unit × (Unit × (Se × Dw))))) × Pf
abbrev IG : Type := Int × UB
def Oh (t0 : Zd) (t3 : Zd) (t4 : Int) (t5 : Int) : Option (((Zd × Qa) × Unit) ⊕ ((VB × Unit) ⊕ Rk)) :=
 (cond (decide (t5 < ((ln t0 : Nat) : Int)))
 (ob (Pb t0 t5) fun x7 =>
 (cond (Ed (ln t3) t5)
 (ob t3[(tn t5)]? fun x8 =>
 (ob (Pb t0 t5) fun x9 =>
 (some (.inl ((t0, (ls t3 (tn t5) x7), (wr .i64 (t4 + (wr .i64 ((wr .i64 (t5 + 1)) * (wr .i64 x9))))), (wr .i64 (t5 + 1)), ()), ())))))
 none))
 (some (.inr (.inl ((t3, t4, ()), ())))))
def Oi := Nc fun x : ((Zd × Qa) × Unit) => Oh x.1.1 x.1.2.1 x.1.2.2.1 x.1.2.2.2.1
def Ab (a0 : Zd) : Option To :=
 (cond (decide (((ln a0 : Nat) : Int) ≥ 8))
 (some ([], ()))
 (cond (((8 : Int) == 8) && (decide ((0 : Int) ≤ 8) && decide (8 ≤ ((Ge : Nat) : Int))))
 (ob (Oi ((a0, (List.replicate (tn 8) (0 : Int)), 90, 0, ()), ())) (se (fun y10 => (cond ((256 : Int) == 0)
 none
 (cond (Ed (ln y10.1.1) 7)
 (ob y10.1.1[(tn 7)]? fun x12 =>
 (some ((ls y10.1.1 (tn 7) (wr .u8 (Int.tmod y10.1.2.1 256))), ())))
 none))) (fun z11 => none)))
 none))
def Om (a0 : Zd) : Option Fh :=
 (cond (((ln a0 : Nat) : Int) == 8)
 (cond (Jc (ln a0) 0 7)
 (ob (Ab (Tb a0 (tn 0) (tn 7))) fun r1 =>
 (some (((Ol r1.1) == (Ol a0)), ())))
 none)
 (some (false, ())))
def Lh (t3 : Zd) (t4 : Int) (t14 : Zd) (t15 : Int) (t16 : Int) : Option (((Zd × (Int × Qa)) × Unit) ⊕ ((VB × Unit) ⊕ Rk)) :=
 (cond (decide (t16 < t15))
 (ob (Pb t14 t16) fun x3 =>
 (some (.inl ((t3, (wr .i64 (t4 + (wr .i64 ((wr .i64 x3) * (wr .i64 (t16 + 1)))))), t14, t15, (wr .i64 (t16 + 1)), ()), ()))))
 (some (.inr (.inl ((t3, t4, ()), ())))))
def Hi := Nc fun x : ((Zd × (Int × Qa)) × Unit) => Lh x.1.1 x.1.2.1 x.1.2.2.1 x.1.2.2.2.1 x.1.2.2.2.2.1
def Yb (a0 : Zd) : Option To :=
 (cond (decide (((ln a0 : Nat) : Int) ≥ 8))
 (some ([], ()))
 (cond (((8 : Int) == 8) && (decide ((0 : Int) ≤ 8) && decide (8 ≤ ((Ge : Nat) : Int))))
 (cond (bl (ln a0) (ln (List.replicate (tn 8) (0 : Int))))
 (ob (Hi (((ap a0 (List.drop (ln a0) (List.replicate (tn 8) (0 : Int)))), 90, a0, ((ln a0 : Nat) : Int), 0, ()), ())) (se (fun y4 => (cond ((256 : Int) == 0)
 none
 (cond (Ed (ln y4.1.1) 7)
 (ob y4.1.1[(tn 7)]? fun x6 =>
 (some ((ls y4.1.1 (tn 7) (wr .u8 (Int.tmod y4.1.2.1 256))), ())))
 none))) (fun z5 => none)))
 none)
 none))
def Th (a0 : Zd) : Option Fh :=
 (cond (((ln a0 : Nat) : Int) == 8)
 (cond (Jc (ln a0) 0 7)
 (ob (Yb (Tb a0 (tn 0) (tn 7))) fun r1 =>
 (some (((Ol r1.1) == (Ol a0)), ())))
 none)
 (some (false, ())))
def Uf (a0 : Int) (a1 : Int) (a2 : Int) : Option Fh :=
 (cond (decide (a0 ≥ a1))
 (some ((decide (a0 ≤ a2)), ()))
 (some (false, ())))
def Kh (t0 : Int) (t5 : Of) (t6 : Int) (t22 : Int) (t23 : Int) (t26 : Int) (t27 : Int) : Option (((Int × (Of × (Int × Aa))) × Unit) ⊕ ((IG × Unit) ⊕ Rk)) :=
 (cond (decide (t27 < t26))
 (ob (Yb ([2, (wr .u8 t6), (wr .u8 t27)] : List Int)) fun r19 =>
 (cond (bl (ln t5 + ln ([r19.1] : List Zd)) Ge)
 (some (.inl ((t0, (ap t5 ([r19.1] : List Zd)), t6, t22, t23, t26, (wr .i64 (t27 + 1)), ()), ())))
 none))
 (some (.inr (.inl ((t0, t5, t22, t23, ()), ())))))
def Af := Nc fun x : ((Int × (Of × (Int × Aa))) × Unit) => Kh x.1.1 x.1.2.1 x.1.2.2.1 x.1.2.2.2.1 x.1.2.2.2.2.1 x.1.2.2.2.2.2.1 x.1.2.2.2.2.2.2.1
def Jh (t0 : Int) (t5 : Of) (t22 : Int) (t23 : Int) : Option ((IG × Unit) ⊕ JM) :=
 (cond (decide (t23 < t22))
 (ob (Af ((t0, t5, t23, t22, t23, t0, 0, ()), ())) (se (fun y20 => (some (.inl ((y20.1.1, y20.1.2.1, y20.1.2.2.1, (wr .i64 (y20.1.2.2.2.1 + 1)), ()), ())))) (fun z21 => (some (.inr (.inr ((), ())))))))
 (some (.inr (.inl ((t5, ()), ())))))
def Gi := Nc fun x : (IG × Unit) => Jh x.1.1 x.1.2.1 x.1.2.2.1 x.1.2.2.2.1
def Wh (a0 : Int) (a1 : Int) : Option Rx :=
 (cond (decide (a0 < 1))
 (some ([], ()))
 (cond (decide (a0 > 32))
 (some ([], ()))
 (cond (decide (a1 < 1))
 (some ([], ()))
 (cond (decide (a1 > 4))
 (some ([], ()))
 (ob (Gi ((a0, [], a1, 0, ()), ())) (se (fun y22 => (some (y22.1.1, ()))) (fun z23 => none)))))))
def Rg (a0 : Aa) : Option Fh :=
 (ob (Uf a0.2.1 1 56) fun r1 =>
 (ob (Uf a0.2.2.1 1 15) fun r2 =>
 (ob (Uf a0.2.2.2.1 1 3) fun r3 =>
 (cond (a0.1 == 0)
 (cond (a0.2.1 == 0)
 (cond (a0.2.2.1 == 0)
 (some ((a0.2.2.2.1 == 0), ()))
 (some (false, ())))
 (some (false, ())))
 (cond (a0.1 == 1)
 (cond (a0.2.1 == 0)
 (cond (a0.2.2.1 == 0)
 (some ((a0.2.2.2.1 == 0), ()))
 (some (false, ())))
 (some (false, ())))
 (cond (a0.1 == 10)
 (cond (a0.2.1 == 0)
 (cond (a0.2.2.1 == 0)
 (some ((a0.2.2.2.1 == 0), ()))
 (some (false, ())))
 (some (false, ())))
 (cond (a0.1 == 2)
 (cond (a0.2.2.2.1 == 0)
 (cond r1.1
 (cond r2.1
 (some (true, ()))
 (some ((a0.2.2.1 == 0), ())))
 (cond (a0.2.1 == 0)
 (cond r2.1
 (cond r2.1
 (some (true, ()))
 (some ((a0.2.2.1 == 0), ())))
 (some (false, ())))
 (some (false, ()))))
 (some (false, ())))
 (cond (a0.1 == 3)
 (cond r3.1
 (cond (a0.2.1 == 0)
 (some ((a0.2.2.1 == 0), ()))
 (some (false, ())))
 (some (false, ())))
 (cond (a0.1 == 4)
 (cond r3.1
 (cond (a0.2.1 == 0)
 (some ((a0.2.2.1 == 0), ()))
 (some (false, ())))
 (some (false, ())))
 (cond (a0.1 == 5)
 (ob (Uf a0.2.2.2.1 0 3) fun r4 =>
 (cond r4.1
 (cond (a0.2.1 == 0)
 (some ((a0.2.2.1 == 0), ()))
 (some (false, ())))
 (some (false, ()))))
 (cond (a0.1 == 9)
 (ob (Uf a0.2.2.2.1 0 3) fun r5 =>
 (cond r5.1
 (cond (a0.2.1 == 0)
 (some ((a0.2.2.1 == 0), ()))
 (some (false, ())))
 (some (false, ()))))
 (cond (a0.1 == 6)
 (cond r1.1
 (cond r2.1
 (some ((a0.2.2.2.1 == 0), ()))
 (some (false, ())))
 (some (false, ())))
 (cond (a0.1 == 7)
 (cond r1.1
 (cond r3.1
 (some ((a0.2.2.1 == 0), ()))
 (some (false, ())))
 (some (false, ())))
 (cond (a0.1 == 8)
 (cond r2.1
 (cond (a0.2.1 == 0)
 (some ((a0.2.2.2.1 == 0), ()))
 (some (false, ())))
 (some (false, ())))
 (some (false, ()))))))))))))))))
def Vl (t1 : Unit) (t3 : Int) (t4 : Int) (b1 : Ca) : Option ((SB × Ui) ⊕ ((Ox × Ui) ⊕ Px)) :=
 (ob (Pb b1.2.1 t3) fun x40 =>
 (cond (decide (t4 < ((ln x40 : Nat) : Int)))
 (ob (Pb b1.2.1 t3) fun x41 =>
 (ob (Pb x41 t4) fun x42 =>
 (ob (Rg x42) fun r43 =>
 (cond (!r43.1)
 (some (.inr (.inr ((false, ()), ()))))
 (cond (x42.1 == 1)
 (cond (t3 == 0)
 (some (.inr (.inr ((false, ()), ()))))
 (cond (x42.1 != 9)
 (cond (decide (x42.2.2.2.1 ≥ ((ln b1.2.1 : Nat) : Int)))
 (some (.inr (.inr ((false, ()), ()))))
 (some (.inl (((), t3, (wr .i64 (t4 + 1)), ()), (b1, ())))))
 (some (.inl (((), t3, (wr .i64 (t4 + 1)), ()), (b1, ()))))))
 (cond (x42.1 != 9)
 (cond (decide (x42.2.2.2.1 ≥ ((ln b1.2.1 : Nat) : Int)))
 (some (.inr (.inr ((false, ()), ()))))
 (some (.inl (((), t3, (wr .i64 (t4 + 1)), ()), (b1, ())))))
 (some (.inl (((), t3, (wr .i64 (t4 + 1)), ()), (b1, ()))))))))))
 (some (.inr (.inl (((), t3, ()), (b1, ())))))))
def Wj := Nc fun x : (SB × Ui) => Vl x.1.1 x.1.2.1 x.1.2.2.1 x.2.1
def Ul (t1 : Unit) (t3 : Int) (b1 : Ca) : Option ((Ox × Ui) ⊕ ((Rk × Ui) ⊕ Px)) :=
 (cond (decide (t3 < ((ln b1.2.1 : Nat) : Int)))
 (ob (Pb b1.2.1 t3) fun x31 =>
 (cond (((ln x31 : Nat) : Int) != b1.1)
 (some (.inr (.inr ((false, ()), ()))))
 (ob (Wj (((), t3, 0, ()), (b1, ()))) (se (fun y44 => (some (.inl (((), (wr .i64 (y44.1.2.1 + 1)), ()), (y44.2.1, ()))))) (fun z45 => (some (.inr (.inr ((z45.1.1, ()), ())))))))))
 (some (.inr (.inl (((), ()), (b1, ()))))))
def Vj := Nc fun x : (Ox × Ui) => Ul x.1.1 x.1.2.1 x.2.1
def Sg (a0 : Ca) : Option Fh :=
 (ob (Vj (((), 0, ()), (a0, ()))) (se (fun y46 => (ob (Uf y46.2.1.1 1 32) fun r48 =>
 (cond r48.1
 (ob (Uf ((ln y46.2.1.2.1 : Nat) : Int) 1 4) fun r49 =>
 (some (r49.1, ())))
 (some (false, ()))))) (fun z47 => (some (z47.1.1, ())))))
def Ck (a0 : Int) : Option Fh :=
 (cond (decide (a0 ≥ 1))
 (some ((decide (a0 ≤ 56)), ()))
 (some (false, ())))
def Ji (a0 : Int) : Option Fh :=
 (cond (decide (a0 ≥ 1))
 (some ((decide (a0 ≤ 15)), ()))
 (some (false, ())))
def Zi (a0 : Int) : Option Fh :=
 (cond (decide (a0 ≥ 1))
 (some ((decide (a0 ≤ 3)), ()))
 (some (false, ())))
def Ng (a0 : Aa) : Option Fh :=
 (cond (a0.1 == 0)
 (cond (a0.2.1 == 0)
 (cond (a0.2.2.1 == 0)
 (some ((a0.2.2.2.1 == 0), ()))
 (some (false, ())))
 (some (false, ())))
 (cond (a0.1 == 1)
 (cond (a0.2.1 == 0)
 (cond (a0.2.2.1 == 0)
 (some ((a0.2.2.2.1 == 0), ()))
 (some (false, ())))
 (some (false, ())))
 (cond (a0.1 == 10)
 (cond (a0.2.1 == 0)
 (cond (a0.2.2.1 == 0)
 (some ((a0.2.2.2.1 == 0), ()))
 (some (false, ())))
 (some (false, ())))
 (cond (a0.1 == 2)
 (cond (a0.2.2.2.1 == 0)
 (cond (a0.2.1 == 0)
 (cond (a0.2.2.1 == 0)
 (cond (a0.2.1 != 0)
 (some (true, ()))
 (some ((a0.2.2.1 != 0), ())))
 (ob (Ji a0.2.2.1) fun r1 =>
 (cond r1.1
 (cond (a0.2.1 != 0)
 (some (true, ()))
 (some ((a0.2.2.1 != 0), ())))
 (some (false, ())))))
 (ob (Ck a0.2.1) fun r2 =>
 (cond r2.1
 (cond (a0.2.2.1 == 0)
 (cond (a0.2.1 != 0)
 (some (true, ()))
 (some ((a0.2.2.1 != 0), ())))
 (ob (Ji a0.2.2.1) fun r3 =>
 (cond r3.1
 (cond (a0.2.1 != 0)
 (some (true, ()))
 (some ((a0.2.2.1 != 0), ())))
 (some (false, ())))))
 (some (false, ())))))
 (some (false, ())))
 (cond (a0.1 == 3)
 (cond (a0.2.1 == 0)
 (cond (a0.2.2.1 == 0)
 (ob (Zi a0.2.2.2.1) fun r4 =>
 (some (r4.1, ())))
 (some (false, ())))
 (some (false, ())))
 (cond (a0.1 == 4)
 (cond (a0.2.1 == 0)
 (cond (a0.2.2.1 == 0)
 (ob (Zi a0.2.2.2.1) fun r5 =>
 (some (r5.1, ())))
 (some (false, ())))
 (some (false, ())))
 (cond (a0.1 == 5)
 (cond (a0.2.1 == 0)
 (cond (a0.2.2.1 == 0)
 (cond (decide (a0.2.2.2.1 ≥ 0))
 (some ((decide (a0.2.2.2.1 ≤ 3)), ()))
 (some (false, ())))
 (some (false, ())))
 (some (false, ())))
 (cond (a0.1 == 9)
 (cond (a0.2.1 == 0)
 (cond (a0.2.2.1 == 0)
 (cond (decide (a0.2.2.2.1 ≥ 0))
 (some ((decide (a0.2.2.2.1 ≤ 3)), ()))
 (some (false, ())))
 (some (false, ())))
 (some (false, ())))
 (cond (a0.1 == 6)
 (ob (Ck a0.2.1) fun r6 =>
 (cond r6.1
 (ob (Ji a0.2.2.1) fun r7 =>
 (cond r7.1
 (some ((a0.2.2.2.1 == 0), ()))
 (some (false, ()))))
 (some (false, ()))))
 (cond (a0.1 == 7)
 (ob (Ck a0.2.1) fun r8 =>
 (cond r8.1
 (cond (a0.2.2.1 == 0)
 (ob (Zi a0.2.2.2.1) fun r9 =>
 (some (r9.1, ())))
 (some (false, ())))
 (some (false, ()))))
 (cond (a0.1 == 8)
 (cond (a0.2.1 == 0)
 (ob (Ji a0.2.2.1) fun r10 =>
 (cond r10.1
 (some ((a0.2.2.2.1 == 0), ()))
 (some (false, ()))))
 (some (false, ())))
 (some (false, ())))))))))))))
def Rl (t1 : Unit) (t3 : Int) (t28 : (List Se)) (t29 : Int) (t30 : Int) (t40 : Se) (t41 : Int) (t42 : Int) (b1 : Ca) : Option (((Unit × TB) × Ui) ⊕ (((Unit × Nq) × Ui) ⊕ Px)) :=
 (cond (decide (t42 < t41))
 (ob (Pb t40 t42) fun x24 =>
 (ob (Ng x24) fun r25 =>
 (cond (!r25.1)
 (some (.inr (.inr ((false, ()), ()))))
 (cond (t3 == 0)
 (cond (x24.1 == 1)
 (some (.inr (.inr ((false, ()), ()))))
 (cond (x24.1 != 9)
 (cond (decide (x24.2.2.2.1 ≥ ((ln b1.2.1 : Nat) : Int)))
 (some (.inr (.inr ((false, ()), ()))))
 (some (.inl (((), t3, t28, t29, t30, t40, t41, (wr .i64 (t42 + 1)), ()), (b1, ())))))
 (some (.inl (((), t3, t28, t29, t30, t40, t41, (wr .i64 (t42 + 1)), ()), (b1, ()))))))
 (cond (x24.1 != 9)
 (cond (decide (x24.2.2.2.1 ≥ ((ln b1.2.1 : Nat) : Int)))
 (some (.inr (.inr ((false, ()), ()))))
 (some (.inl (((), t3, t28, t29, t30, t40, t41, (wr .i64 (t42 + 1)), ()), (b1, ())))))
 (some (.inl (((), t3, t28, t29, t30, t40, t41, (wr .i64 (t42 + 1)), ()), (b1, ())))))))))
 (some (.inr (.inl (((), t28, t29, t30, ()), (b1, ()))))))
def Wg := Nc fun x : ((Unit × TB) × Ui) => Rl x.1.1 x.1.2.1 x.1.2.2.1 x.1.2.2.2.1 x.1.2.2.2.2.1 x.1.2.2.2.2.2.1 x.1.2.2.2.2.2.2.1 x.1.2.2.2.2.2.2.2.1 x.2.1
def Ql (t1 : Unit) (t28 : (List Se)) (t29 : Int) (t30 : Int) (b1 : Ca) : Option (((Unit × Nq) × Ui) ⊕ DM) :=
 (cond (decide (t30 < t29))
 (ob (Pb t28 t30) fun x19 =>
 (cond (((ln x19 : Nat) : Int) != b1.1)
 (some (.inr (.inr ((false, ()), ()))))
 (ob (Wg (((), t30, t28, t29, t30, x19, ((ln x19 : Nat) : Int), 0, ()), (b1, ()))) (se (fun y26 => (some (.inl (((), y26.1.2.1, y26.1.2.2.1, (wr .i64 (y26.1.2.2.2.1 + 1)), ()), (y26.2.1, ()))))) (fun z27 => (some (.inr (.inr ((z27.1.1, ()), ())))))))))
 (some (.inr (.inl ((), ())))))
def Vg := Nc fun x : ((Unit × Nq) × Ui) => Ql x.1.1 x.1.2.1 x.1.2.2.1 x.1.2.2.2.1 x.2.1
def Oe (a0 : Ca) : Option Fh :=
 (cond (decide (a0.1 < 1))
 (some (false, ()))
 (cond (decide (a0.1 > 32))
 (some (false, ()))
 (cond (decide (((ln a0.2.1 : Nat) : Int) < 1))
 (some (false, ()))
 (cond (decide (((ln a0.2.1 : Nat) : Int) > 4))
 (some (false, ()))
 (ob (Vg (((), a0.2.1, ((ln a0.2.1 : Nat) : Int), 0, ()), (a0, ()))) (se (fun y28 => (some (true, ()))) (fun z29 => (some (z29.1.1, ())))))))))
def Mo (a0 : Zd) : Option Fh :=
 (some ((decide (((ln a0 : Nat) : Int) > 1048576)), ()))
def Po (t0 : Zd) (t3 : Int) (t4 : Int) : Option ((Qa × Unit) ⊕ ((VB × Unit) ⊕ Rk)) :=
 (cond (decide (t4 < ((ln t0 : Nat) : Int)))
 (cond (decide (t4 < 4000))
 (ob (Pb t0 t4) fun x3 =>
 (some (.inl ((t0, (Dr .i64 (wr .i64 ((wr .i64 ((wr .i64 (t3 * 131)) + (wr .i64 x3))) + 7)) 1073741823), (wr .i64 (t4 + 1)), ()), ()))))
 (some (.inr (.inl ((t0, t3, ()), ())))))
 (some (.inr (.inl ((t0, t3, ()), ())))))
def Xl := Nc fun x : (Qa × Unit) => Po x.1.1 x.1.2.1 x.1.2.2.1
def Tn (a0 : Zd) : Option Qa :=
 (ob (Xl ((a0, (wr .i64 (10729 + ((ln a0 : Nat) : Int))), 0, ()), ())) (se (fun y4 => (some (y4.1.1, 0, y4.1.2.1, ()))) (fun z5 => none)))
def Zo (a0 : Zd) (a1 : Int) : Option Qa :=
 (ob (Tn a0) fun r1 =>
 (some (r1.1, r1.2.1, (wr .i64 (r1.2.2.1 + (wr .i64 (7919 * a1)))), r1.2.2.2)))
def Qd (a0 : Qa) : Option (Qa × Dw) :=
 (cond (decide ((0 : Int) ≤ 33))
 (cond (decide ((0 : Int) ≤ 45))
 (cond (decide (a0.2.1 < ((ln a0.1 : Nat) : Int)))
 (ob (Pb a0.1 a0.2.1) fun x1 =>
 (some ((a0.1, (wr .i64 (a0.2.1 + 1)), (wr .i64 ((wr .i64 (a0.2.2.1 * 6364136223846793005)) + 1442695040888963407)), a0.2.2.2), ((Dr .i64 (wr .i64 ((Dr .i64 (Kz .i64 (Qw .i64 (wr .i64 ((wr .i64 (a0.2.2.1 * 6364136223846793005)) + 1442695040888963407)) 33) (Qw .i64 (wr .i64 ((wr .i64 (a0.2.2.1 * 6364136223846793005)) + 1442695040888963407)) 45)) 255) + (wr .i64 x1))) 255), ()))))
 (some ((a0.1, a0.2.1, (wr .i64 ((wr .i64 (a0.2.2.1 * 6364136223846793005)) + 1442695040888963407)), a0.2.2.2), ((Dr .i64 (Kz .i64 (Qw .i64 (wr .i64 ((wr .i64 (a0.2.2.1 * 6364136223846793005)) + 1442695040888963407)) 33) (Qw .i64 (wr .i64 ((wr .i64 (a0.2.2.1 * 6364136223846793005)) + 1442695040888963407)) 45)) 255), ()))))
 none)
 none)
def Na (a0 : Qa) (a1 : Int) : Option (Qa × Dw) :=
 (cond (decide (a1 ≤ 0))
 (some (a0, (0, ())))
 (cond (decide (a1 ≤ 256))
 (ob (Qd a0) fun r1 =>
 (cond (a1 == 0)
 none
 (some (r1.1, ((Int.tmod r1.2.1 a1), ())))))
 (ob (Qd a0) fun r2 =>
 (ob (Qd r2.1) fun r3 =>
 (ob (Qd r3.1) fun r4 =>
 (ob (Qd r4.1) fun r5 =>
 (cond (a1 == 0)
 none
 (some (r5.1, ((Int.tmod (wr .i64 ((wr .i64 ((wr .i64 ((wr .i64 (r2.2.1 * 16777216)) + (wr .i64 (r3.2.1 * 65536)))) + (wr .i64 (r4.2.1 * 256)))) + r5.2.1)) a1), ()))))))))))
def Pe (a0 : Qa) (a1 : Int) : Option (Qa × Fh) :=
 (ob (Na a0 a1) fun r1 =>
 (some (r1.1, ((r1.2.1 == 0), ()))))
def Jf (a0 : Qa) (a1 : Zd) : Option (Qa × Dw) :=
 (ob (Na a0 ((ln a1 : Nat) : Int)) fun r1 =>
 (cond (Ed (ln a1) r1.2.1)
 (ob a1[(tn r1.2.1)]? fun x2 =>
 (some (r1.1, (x2, ()))))
 none))
def Mh (t2 : Unit) (t3 : Unit) (t10 : (List Se)) (t11 : Int) (t12 : Int) (b2 : Ca) (b3 : Ca) : Option (((Unit × (Unit × Nq)) × Pf) ⊕ ((Qx × Pf) ⊕ Rk)) :=
 (cond (decide (t12 < t11))
 (ob (Pb t10 t12) fun x4 =>
 (cond (bl (ln ([] : List Aa) + ln x4) Ge)
 (cond (bl (ln b3.2.1 + ln ([(ap [] x4)] : List Se)) Ge)
 (some (.inl (((), (), t10, t11, (wr .i64 (t12 + 1)), ()), (b2, (b3.1, (ap b3.2.1 ([(ap [] x4)] : List Se)), ()), ()))))
 none)
 none))
 (some (.inr (.inl (((), (), ()), (b2, b3, ()))))))
def Ii := Nc fun x : ((Unit × (Unit × Nq)) × Pf) => Mh x.1.1 x.1.2.1 x.1.2.2.1 x.1.2.2.2.1 x.1.2.2.2.2.1 x.2.1 x.2.2.1
def Kg (a0 : Ca) : Option Ui :=
 (ob (Ii (((), (), a0.2.1, ((ln a0.2.1 : Nat) : Int), 0, ()), ((0, [], ()), (a0.1, [], ()), ()))) (se (fun y5 => (some (y5.2.2.1, ()))) (fun z6 => none)))
def Ai (a0 : Aa) : Option To :=
 (ob (Rg a0) fun r1 =>
 (cond (!r1.1)
 (some ([], ()))
 (some (([(wr .u8 (wr .i64 ((wr .i64 (16 * a0.1)) + a0.2.2.2.1))), (wr .u8 a0.2.1), (wr .u8 a0.2.2.1)] : List Int), ()))))
def Vh (a0 : Aa) : Option To :=
 (ob (Ng a0) fun r1 =>
 (cond (!r1.1)
 (some ([], ()))
 (some (([(wr .u8 (wr .i64 ((wr .i64 (16 * a0.1)) + a0.2.2.2.1))), (wr .u8 a0.2.1), (wr .u8 a0.2.2.1)] : List Int), ()))))
def Zg (t3 : Of) (t4 : Int) (t12 : (List Se)) (t13 : Int) (t14 : Int) (t19 : Se) (t20 : Int) (t21 : Int) : Option (((Of × TB) × Unit) ⊕ (((Of × Nq) × Unit) ⊕ Rk)) :=
 (cond (decide (t21 < t20))
 (ob (Pb t19 t21) fun x48 =>
 (ob (Vh x48) fun r49 =>
 (cond (bl (ln ([3, (wr .u8 t4), (wr .u8 t21)] : List Int) + ln r49.1) Ge)
 (ob (Yb (ap ([3, (wr .u8 t4), (wr .u8 t21)] : List Int) r49.1)) fun r50 =>
 (cond (bl (ln t3 + ln ([r50.1] : List Zd)) Ge)
 (some (.inl (((ap t3 ([r50.1] : List Zd)), t4, t12, t13, t14, t19, t20, (wr .i64 (t21 + 1)), ()), ())))
 none))
 none)))
 (some (.inr (.inl ((t3, t12, t13, t14, ()), ())))))
def Rh := Nc fun x : ((Of × TB) × Unit) => Zg x.1.1 x.1.2.1 x.1.2.2.1 x.1.2.2.2.1 x.1.2.2.2.2.1 x.1.2.2.2.2.2.1 x.1.2.2.2.2.2.2.1 x.1.2.2.2.2.2.2.2.1
def Yg (t3 : Of) (t12 : (List Se)) (t13 : Int) (t14 : Int) : Option (((Of × Nq) × Unit) ⊕ JM) :=
 (cond (decide (t14 < t13))
 (ob (Pb t12 t14) fun x41 =>
 (ob (Rh ((t3, t14, t12, t13, t14, x41, ((ln x41 : Nat) : Int), 0, ()), ())) (se (fun y51 => (some (.inl ((y51.1.1, y51.1.2.1, y51.1.2.2.1, (wr .i64 (y51.1.2.2.2.1 + 1)), ()), ())))) (fun z52 => (some (.inr (.inr ((), ()))))))))
 (some (.inr (.inl ((t3, ()), ())))))
def Qh := Nc fun x : ((Of × Nq) × Unit) => Yg x.1.1 x.1.2.1 x.1.2.2.1 x.1.2.2.2.1
def Mj (a0 : Ca) : Option Rx :=
 (ob (Oe a0) fun r1 =>
 (cond (!r1.1)
 (some ([], ()))
 (ob (Qh (([], a0.2.1, ((ln a0.2.1 : Nat) : Int), 0, ()), ())) (se (fun y53 => (some (y53.1.1, ()))) (fun z54 => none)))))
def Fm (a0 : Qa) (a1 : Int) : Option (Qa × EM) :=
 (ob (Na a0 56) fun r1 =>
 (ob (Na r1.1 15) fun r2 =>
 (ob (Pe r2.1 2) fun r3 =>
 (cond r3.2.1
 (ob (Na r3.1 (max 1 (wr .i64 (a1 - 1)))) fun r4 =>
 (ob (Na r4.1 16) fun r5 =>
 (cond (r5.2.1 == 0)
 (some (r5.1, ((2, (wr .i64 (1 + r1.2.1)), 2, 0, ()), ())))
 (cond (r5.2.1 == 1)
 (some (r5.1, ((2, 0, 2, 0, ()), ())))
 (cond (r5.2.1 == 2)
 (some (r5.1, ((6, (wr .i64 (1 + r1.2.1)), 2, 0, ()), ())))
 (cond (r5.2.1 == 3)
 (some (r5.1, ((6, (wr .i64 (1 + r1.2.1)), 2, 0, ()), ())))
 (cond (r5.2.1 == 4)
 (some (r5.1, ((8, 0, 2, 0, ()), ())))
 (cond (r5.2.1 == 5)
 (ob (Na r5.1 4) fun r6 =>
 (some (r6.1, ((9, 0, 0, r6.2.1, ()), ()))))
 (cond (r5.2.1 == 6)
 (some (r5.1, ((10, 0, 0, 0, ()), ())))
 (cond (r5.2.1 == 7)
 (ob (Na r5.1 (max 1 a1)) fun r7 =>
 (some (r7.1, ((5, 0, 0, r7.2.1, ()), ()))))
 (cond (r5.2.1 == 8)
 (cond (decide (a1 > 1))
 (ob (Na r5.1 3) fun r8 =>
 (cond (Ed (ln ([(3, 0, 0, (wr .i64 (1 + r4.2.1)), ()), (4, 0, 0, (wr .i64 (1 + r4.2.1)), ()), (7, (wr .i64 (1 + r1.2.1)), 0, (wr .i64 (1 + r4.2.1)), ())] : List Aa)) r8.2.1)
 (ob ([(3, 0, 0, (wr .i64 (1 + r4.2.1)), ()), (4, 0, 0, (wr .i64 (1 + r4.2.1)), ()), (7, (wr .i64 (1 + r1.2.1)), 0, (wr .i64 (1 + r4.2.1)), ())] : List Aa)[(tn r8.2.1)]? fun x9 =>
 (some (r8.1, (x9, ()))))
 none))
 (some (r5.1, ((2, (wr .i64 (1 + r1.2.1)), 0, 0, ()), ()))))
 (cond (r5.2.1 == 9)
 (cond (decide (a1 > 1))
 (ob (Na r5.1 3) fun r10 =>
 (cond (Ed (ln ([(3, 0, 0, (wr .i64 (1 + r4.2.1)), ()), (4, 0, 0, (wr .i64 (1 + r4.2.1)), ()), (7, (wr .i64 (1 + r1.2.1)), 0, (wr .i64 (1 + r4.2.1)), ())] : List Aa)) r10.2.1)
 (ob ([(3, 0, 0, (wr .i64 (1 + r4.2.1)), ()), (4, 0, 0, (wr .i64 (1 + r4.2.1)), ()), (7, (wr .i64 (1 + r1.2.1)), 0, (wr .i64 (1 + r4.2.1)), ())] : List Aa)[(tn r10.2.1)]? fun x11 =>
 (some (r10.1, (x11, ()))))
 none))
 (some (r5.1, ((2, (wr .i64 (1 + r1.2.1)), 0, 0, ()), ()))))
 (cond (r5.2.1 == 10)
 (cond (decide (a1 > 1))
 (ob (Na r5.1 3) fun r12 =>
 (cond (Ed (ln ([(3, 0, 0, (wr .i64 (1 + r4.2.1)), ()), (4, 0, 0, (wr .i64 (1 + r4.2.1)), ()), (7, (wr .i64 (1 + r1.2.1)), 0, (wr .i64 (1 + r4.2.1)), ())] : List Aa)) r12.2.1)
 (ob ([(3, 0, 0, (wr .i64 (1 + r4.2.1)), ()), (4, 0, 0, (wr .i64 (1 + r4.2.1)), ()), (7, (wr .i64 (1 + r1.2.1)), 0, (wr .i64 (1 + r4.2.1)), ())] : List Aa)[(tn r12.2.1)]? fun x13 =>
 (some (r12.1, (x13, ()))))
 none))
 (some (r5.1, ((2, (wr .i64 (1 + r1.2.1)), 0, 0, ()), ()))))
 (some (r5.1, ((2, (wr .i64 (1 + r1.2.1)), 0, 0, ()), ()))))))))))))))))
 (ob (Na r3.1 (max 1 (wr .i64 (a1 - 1)))) fun r14 =>
 (ob (Na r14.1 16) fun r15 =>
 (cond (r15.2.1 == 0)
 (some (r15.1, ((2, (wr .i64 (1 + r1.2.1)), (wr .i64 (1 + r2.2.1)), 0, ()), ())))
 (cond (r15.2.1 == 1)
 (some (r15.1, ((2, 0, (wr .i64 (1 + r2.2.1)), 0, ()), ())))
 (cond (r15.2.1 == 2)
 (some (r15.1, ((6, (wr .i64 (1 + r1.2.1)), (wr .i64 (1 + r2.2.1)), 0, ()), ())))
 (cond (r15.2.1 == 3)
 (some (r15.1, ((6, (wr .i64 (1 + r1.2.1)), (wr .i64 (1 + r2.2.1)), 0, ()), ())))
 (cond (r15.2.1 == 4)
 (some (r15.1, ((8, 0, (wr .i64 (1 + r2.2.1)), 0, ()), ())))
 (cond (r15.2.1 == 5)
 (ob (Na r15.1 4) fun r16 =>
 (some (r16.1, ((9, 0, 0, r16.2.1, ()), ()))))
 (cond (r15.2.1 == 6)
 (some (r15.1, ((10, 0, 0, 0, ()), ())))
 (cond (r15.2.1 == 7)
 (ob (Na r15.1 (max 1 a1)) fun r17 =>
 (some (r17.1, ((5, 0, 0, r17.2.1, ()), ()))))
 (cond (r15.2.1 == 8)
 (cond (decide (a1 > 1))
 (ob (Na r15.1 3) fun r18 =>
 (cond (Ed (ln ([(3, 0, 0, (wr .i64 (1 + r14.2.1)), ()), (4, 0, 0, (wr .i64 (1 + r14.2.1)), ()), (7, (wr .i64 (1 + r1.2.1)), 0, (wr .i64 (1 + r14.2.1)), ())] : List Aa)) r18.2.1)
 (ob ([(3, 0, 0, (wr .i64 (1 + r14.2.1)), ()), (4, 0, 0, (wr .i64 (1 + r14.2.1)), ()), (7, (wr .i64 (1 + r1.2.1)), 0, (wr .i64 (1 + r14.2.1)), ())] : List Aa)[(tn r18.2.1)]? fun x19 =>
 (some (r18.1, (x19, ()))))
 none))
 (some (r15.1, ((2, (wr .i64 (1 + r1.2.1)), 0, 0, ()), ()))))
 (cond (r15.2.1 == 9)
 (cond (decide (a1 > 1))
 (ob (Na r15.1 3) fun r20 =>
 (cond (Ed (ln ([(3, 0, 0, (wr .i64 (1 + r14.2.1)), ()), (4, 0, 0, (wr .i64 (1 + r14.2.1)), ()), (7, (wr .i64 (1 + r1.2.1)), 0, (wr .i64 (1 + r14.2.1)), ())] : List Aa)) r20.2.1)
 (ob ([(3, 0, 0, (wr .i64 (1 + r14.2.1)), ()), (4, 0, 0, (wr .i64 (1 + r14.2.1)), ()), (7, (wr .i64 (1 + r1.2.1)), 0, (wr .i64 (1 + r14.2.1)), ())] : List Aa)[(tn r20.2.1)]? fun x21 =>
 (some (r20.1, (x21, ()))))
 none))
 (some (r15.1, ((2, (wr .i64 (1 + r1.2.1)), 0, 0, ()), ()))))
 (cond (r15.2.1 == 10)
 (cond (decide (a1 > 1))
 (ob (Na r15.1 3) fun r22 =>
 (cond (Ed (ln ([(3, 0, 0, (wr .i64 (1 + r14.2.1)), ()), (4, 0, 0, (wr .i64 (1 + r14.2.1)), ()), (7, (wr .i64 (1 + r1.2.1)), 0, (wr .i64 (1 + r14.2.1)), ())] : List Aa)) r22.2.1)
 (ob ([(3, 0, 0, (wr .i64 (1 + r14.2.1)), ()), (4, 0, 0, (wr .i64 (1 + r14.2.1)), ()), (7, (wr .i64 (1 + r1.2.1)), 0, (wr .i64 (1 + r14.2.1)), ())] : List Aa)[(tn r22.2.1)]? fun x23 =>
 (some (r22.1, (x23, ()))))
 none))
 (some (r15.1, ((2, (wr .i64 (1 + r1.2.1)), 0, 0, ()), ()))))
 (some (r15.1, ((2, (wr .i64 (1 + r1.2.1)), 0, 0, ()), ()))))))))))))))))))))
def Wn (t0 : Unit) (t1 : Int) (t4 : Unit) (t5 : Int) (t6 : Unit) (t7 : Int) (t8 : Se) (t9 : Int) (b500000 : Qa) (b4 : Ca) (b6 : Ca) : Option (HM ⊕ (((Unit × (Int × (Unit × (Int × (Unit × (Int × (Se × Unit))))))) × Pq) ⊕ Rk)) :=
 (cond (decide (t9 < t1))
 (ob (Fm b500000 t5) fun r30 =>
 (cond (decide (t7 > 0))
 (ob (Pe r30.1 3) fun r31 =>
 (cond r31.2.1
 (cond (bl (ln t8 + ln ([(1, 0, 0, 0, ())] : List Aa)) Ge)
 (some (.inl (((), t1, (), t5, (), t7, (ap t8 ([(1, 0, 0, 0, ())] : List Aa)), (wr .i64 (t9 + 1)), ()), (r31.1, b4, b6, ()))))
 none)
 (cond (bl (ln t8 + ln ([r30.2.1] : List Aa)) Ge)
 (some (.inl (((), t1, (), t5, (), t7, (ap t8 ([r30.2.1] : List Aa)), (wr .i64 (t9 + 1)), ()), (r31.1, b4, b6, ()))))
 none)))
 (cond (bl (ln t8 + ln ([r30.2.1] : List Aa)) Ge)
 (some (.inl (((), t1, (), t5, (), t7, (ap t8 ([r30.2.1] : List Aa)), (wr .i64 (t9 + 1)), ()), (r30.1, b4, b6, ()))))
 none)))
 (some (.inr (.inl (((), t1, (), t5, (), t7, t8, ()), (b500000, b4, b6, ()))))))
def Dl := Nc fun x : HM => Wn x.1.1 x.1.2.1 x.1.2.2.1 x.1.2.2.2.1 x.1.2.2.2.2.1 x.1.2.2.2.2.2.1 x.1.2.2.2.2.2.2.1 x.1.2.2.2.2.2.2.2.1 x.2.1 x.2.2.1 x.2.2.2.1
def Vn (t0 : Unit) (t1 : Int) (t4 : Unit) (t5 : Int) (t6 : Unit) (t7 : Int) (b500000 : Qa) (b4 : Ca) (b6 : Ca) : Option (((Unit × (Int × (Unit × GM))) × Pq) ⊕ ((KM × Pq) ⊕ Rk)) :=
 (cond (decide (t7 < t5))
 (ob (Dl (((), t1, (), t5, (), t7, [], 0, ()), (b500000, b4, b6, ()))) (se (fun y32 => (cond (bl (ln y32.2.2.2.1.2.1 + ln ([y32.1.2.2.2.2.2.2.1] : List Se)) Ge)
 (some (.inl (((), y32.1.2.1, (), y32.1.2.2.2.1, (), (wr .i64 (y32.1.2.2.2.2.2.1 + 1)), ()), (y32.2.1, y32.2.2.1, (y32.2.2.2.1.1, (ap y32.2.2.2.1.2.1 ([y32.1.2.2.2.2.2.2.1] : List Se)), ()), ()))))
 none)) (fun z33 => (some (.inr (.inr ((), ())))))))
 (some (.inr (.inl (((), (), (), ()), (b500000, b4, b6, ()))))))
def Cl := Nc fun x : ((Unit × (Int × (Unit × GM))) × Pq) => Vn x.1.1 x.1.2.1 x.1.2.2.1 x.1.2.2.2.1 x.1.2.2.2.2.1 x.1.2.2.2.2.2.1 x.2.1 x.2.2.1 x.2.2.2.1
def Gm (a0 : Qa) (a1 : Int) : Option (Qa × Ui) :=
 (ob (Na a0 4) fun r1 =>
 (ob (Cl (((), a1, (), (wr .i64 (1 + r1.2.1)), (), 0, ()), (r1.1, (0, [], ()), (a1, [], ()), ()))) (se (fun y34 => (some (y34.2.1, (y34.2.2.2.1, ())))) (fun z35 => none))))
def Ym (t0 : Unit) (t1 : Int) (t4 : Unit) (t5 : Unit) (t6 : Int) (b500000 : Qa) (b4 : Ca) (b5 : Ca) : Option (((Unit × (Int × Oq)) × Pq) ⊕ ((KM × Pq) ⊕ Rk)) :=
 (cond (decide (t6 > 0))
 (ob (Na b500000 ((ln b5.2.1 : Nat) : Int)) fun r15 =>
 (ob (Na r15.1 t1) fun r16 =>
 (cond (decide (((ln b5.2.1 : Nat) : Int) > 1))
 (cond (Ed (ln b5.2.1) r15.2.1)
 (ob b5.2.1[(tn r15.2.1)]? fun x17 =>
 (ob (Jf r16.1 ([4, 5, 3] : List Int)) fun r18 =>
 (ob (Na r18.1 (wr .i64 (((ln b5.2.1 : Nat) : Int) - 1))) fun r19 =>
 (cond (Ed (ln x17) r16.2.1)
 (ob x17[(tn r16.2.1)]? fun x20 =>
 (some (.inl (((), t1, (), (), (wr .i64 (t6 - 1)), ()), (r19.1, b4, (b5.1, (ls b5.2.1 (tn r15.2.1) (ls x17 (tn r16.2.1) (r18.2.1, 0, 0, (wr .i64 (1 + r19.2.1)), ()))), ()), ())))))
 none))))
 none)
 (some (.inl (((), t1, (), (), (wr .i64 (t6 - 1)), ()), (r16.1, b4, b5, ())))))))
 (some (.inr (.inl (((), (), (), ()), (b500000, b4, b5, ()))))))
def Jk := Nc fun x : ((Unit × (Int × Oq)) × Pq) => Ym x.1.1 x.1.2.1 x.1.2.2.1 x.1.2.2.2.1 x.1.2.2.2.2.1 x.2.1 x.2.2.1 x.2.2.2.1
def Qn (a0 : Qa) (a1 : Int) : Option (Qa × Ui) :=
 (ob (Gm a0 a1) fun r1 =>
 (ob (Na r1.1 6) fun r2 =>
 (ob (Jk (((), a1, (), (), r2.2.1, ()), (r2.1, (0, [], ()), r1.2.1, ()))) (se (fun y21 => (some (y21.2.1, (y21.2.2.2.1, ())))) (fun z22 => none)))))
def Pk (t1 : Unit) (t2 : Unit) (t3 : Unit) (t4 : Int) (b1 : Ca) (b2 : Ca) (b3 : Ca) : Option ((FM × (Ca × Pf)) ⊕ ((Qx × Pf) ⊕ Rk)) :=
 (cond (decide (t4 < ((ln b1.2.1 : Nat) : Int)))
 (ob (Pb b1.2.1 t4) fun x4 =>
 (cond (bl (ln ([] : List Aa) + ln x4) Ge)
 (cond (bl (ln b3.2.1 + ln ([(ap [] x4)] : List Se)) Ge)
 (some (.inl (((), (), (), (wr .i64 (t4 + 1)), ()), (b1, b2, (b3.1, (ap b3.2.1 ([(ap [] x4)] : List Se)), ()), ()))))
 none)
 none))
 (some (.inr (.inl (((), (), ()), (b2, b3, ()))))))
def Pp := Nc fun x : (FM × (Ca × Pf)) => Pk x.1.1 x.1.2.1 x.1.2.2.1 x.1.2.2.2.1 x.2.1 x.2.2.1 x.2.2.2.1
def Ap (a0 : Ca) : Option Ui :=
 (ob (Pp (((), (), (), 0, ()), (a0, (0, [], ()), (a0.1, [], ()), ()))) (se (fun y5 => (some (y5.2.2.1, ()))) (fun z6 => none)))
def Un (a0 : Qa) : Option (Qa × EM) :=
 (ob (Fm a0 4) fun r1 =>
 (ob (Na r1.1 12) fun r2 =>
 (cond (r2.2.1 == 0)
 (ob (Na r2.1 13) fun r3 =>
 (some (r3.1, (((wr .i64 (r3.2.1 - 1)), r1.2.1.2), ()))))
 (cond (r2.2.1 == 1)
 (ob (Jf r2.1 ([(-1), 0, 56, 57] : List Int)) fun r4 =>
 (some (r4.1, ((r1.2.1.1, r4.2.1, r1.2.1.2.2), ()))))
 (cond (r2.2.1 == 2)
 (ob (Jf r2.1 ([(-1), 0, 15, 16] : List Int)) fun r5 =>
 (some (r5.1, ((r1.2.1.1, r1.2.1.2.1, r5.2.1, r1.2.1.2.2.2), ()))))
 (cond (r2.2.1 == 3)
 (ob (Jf r2.1 ([(-1), 0, 3, 4] : List Int)) fun r6 =>
 (some (r6.1, ((r1.2.1.1, r1.2.1.2.1, r1.2.1.2.2.1, r6.2.1, r1.2.1.2.2.2.2), ()))))
 (some (r2.1, (r1.2.1, ())))))))))
def Wp (a0 : Qa) : Option (Qa × Ui) :=
 (ob (Na a0 4) fun r1 =>
 (ob (Gm r1.1 (wr .i64 (1 + r1.2.1))) fun r2 =>
 (ob (Na r2.1 ((ln r2.2.1.2.1 : Nat) : Int)) fun r3 =>
 (ob (Na r3.1 16) fun r4 =>
 (cond (r4.2.1 == 0)
 (ob (Jf r4.1 ([0, (-1), 3, 33] : List Int)) fun r5 =>
 (some (r5.1, ((r5.2.1, r2.2.1.2), ()))))
 (cond (r4.2.1 == 1)
 (cond (Ed (ln r2.2.1.2.1) r3.2.1)
 (ob r2.2.1.2.1[(tn r3.2.1)]? fun x6 =>
 (ob (Un r4.1) fun r7 =>
 (cond (Ed (ln x6) 0)
 (ob x6[(tn 0)]? fun x8 =>
 (some (r7.1, ((r2.2.1.1, (ls r2.2.1.2.1 (tn r3.2.1) (ls x6 (tn 0) r7.2.1)), ()), ()))))
 none)))
 none)
 (cond (r4.2.1 == 2)
 (cond (Ed (ln r2.2.1.2.1) r3.2.1)
 (ob r2.2.1.2.1[(tn r3.2.1)]? fun x9 =>
 (cond (Jc (ln x9) 1 ((ln x9 : Nat) : Int))
 (cond (Ed (ln r2.2.1.2.1) r3.2.1)
 (ob r2.2.1.2.1[(tn r3.2.1)]? fun x10 =>
 (some (r4.1, ((r2.2.1.1, (ls r2.2.1.2.1 (tn r3.2.1) (Tb x9 (tn 1) (tn ((ln x9 : Nat) : Int)))), ()), ()))))
 none)
 none))
 none)
 (cond (r4.2.1 == 3)
 (cond (Ed (ln r2.2.1.2.1) 0)
 (ob r2.2.1.2.1[(tn 0)]? fun x11 =>
 (cond (Ed (ln x11) 0)
 (ob x11[(tn 0)]? fun x12 =>
 (some (r4.1, ((r2.2.1.1, (ls r2.2.1.2.1 (tn 0) (ls x11 (tn 0) (1, 0, 0, 0, ()))), ()), ()))))
 none))
 none)
 (cond (r4.2.1 == 4)
 (cond (Ed (ln r2.2.1.2.1) 0)
 (ob r2.2.1.2.1[(tn 0)]? fun x13 =>
 (cond (Ed (ln r2.2.1.2.1) 0)
 (ob r2.2.1.2.1[(tn 0)]? fun x14 =>
 (cond (bl (ln r2.2.1.2.1 + ln ([x13, x14] : List Se)) Ge)
 (some (r4.1, ((r2.2.1.1, (ap r2.2.1.2.1 ([x13, x14] : List Se)), ()), ())))
 none))
 none))
 none)
 (cond (r4.2.1 == 5)
 (cond (Jc (ln r2.2.1.2.1) 0 r3.2.1)
 (some (r4.1, ((r2.2.1.1, (Tb r2.2.1.2.1 (tn 0) (tn r3.2.1)), ()), ())))
 none)
 (some (r4.1, (r2.2.1, ())))))))))))))
def Sd (a0 : Zd) : Option (Aa × Fh) :=
 (cond (((ln a0 : Nat) : Int) != 3)
 (some ((0, 0, 0, 0, ()), false, ()))
 (ob (Pb a0 0) fun x1 =>
 (cond ((16 : Int) == 0)
 none
 (ob (Pb a0 0) fun x2 =>
 (cond ((16 : Int) == 0)
 none
 (ob (Pb a0 1) fun x3 =>
 (ob (Pb a0 2) fun x4 =>
 (ob (Rg ((wr .i64 (Int.tdiv (wr .i64 x1) 16)), (wr .i64 x3), (wr .i64 x4), (Int.tmod (wr .i64 x2) 16), ())) fun r5 =>
 (cond (!r5.1)
 (some ((0, 0, 0, 0, ()), false, ()))
 (some (((wr .i64 (Int.tdiv (wr .i64 x1) 16)), (wr .i64 x3), (wr .i64 x4), (Int.tmod (wr .i64 x2) 16), ()), true, ())))))))))))
def Xf (t0 : Int) (t1 : Of) (t4 : Unit) (t6 : Unit) (t7 : Se) (t8 : Int) (b4 : Ca) (b6 : Ca) : Option (MM ⊕ (((Unit × (Unit × (Se × Unit))) × Pf) ⊕ ((Unit × Fh) × Ui))) :=
 (cond (decide (t8 < ((ln t1 : Nat) : Int)))
 (ob (Pb t1 t8) fun x19 =>
 (ob (Om x19) fun r20 =>
 (cond (!r20.1)
 (some (.inr (.inr (((), false, ()), ((0, [], ()), ())))))
 (ob (Pb x19 0) fun x21 =>
 (cond (x21 != 2)
 (some (.inr (.inr (((), false, ()), ((0, [], ()), ())))))
 (ob (Pb x19 1) fun x22 =>
 (cond ((wr .i64 x22) != ((ln b6.2.1 : Nat) : Int))
 (some (.inr (.inr (((), false, ()), ((0, [], ()), ())))))
 (ob (Pb x19 2) fun x23 =>
 (cond ((wr .i64 x23) != ((ln t7 : Nat) : Int))
 (some (.inr (.inr (((), false, ()), ((0, [], ()), ())))))
 (cond (Jc (ln x19) 3 6)
 (ob (Sd (Tb x19 (tn 3) (tn 6))) fun r24 =>
 (cond (!r24.2.1)
 (some (.inr (.inr (((), false, ()), ((0, [], ()), ())))))
 (cond (bl (ln t7 + ln ([r24.1] : List Aa)) Ge)
 (cond (((ln (ap t7 ([r24.1] : List Aa)) : Nat) : Int) == t0)
 (cond (bl (ln b6.2.1 + ln ([(ap t7 ([r24.1] : List Aa))] : List Se)) Ge)
 (some (.inl ((t0, t1, (), (), [], (wr .i64 (t8 + 1)), ()), (b4, (b6.1, (ap b6.2.1 ([(ap t7 ([r24.1] : List Aa))] : List Se)), ()), ()))))
 none)
 (some (.inl ((t0, t1, (), (), (ap t7 ([r24.1] : List Aa)), (wr .i64 (t8 + 1)), ()), (b4, b6, ())))))
 none)))
 none))))))))))
 (some (.inr (.inl (((), (), t7, ()), (b4, b6, ()))))))
def Gg := Nc fun x : MM => Xf x.1.1 x.1.2.1 x.1.2.2.1 x.1.2.2.2.1 x.1.2.2.2.2.1 x.1.2.2.2.2.2.1 x.2.1 x.2.2.1
def Ok (a0 : Int) (a1 : Of) : Option (Ca × Fh) :=
 (ob (Gg ((a0, a1, (), (), [], 0, ()), ((0, [], ()), (a0, [], ()), ()))) (se (fun y25 => (cond (decide (((ln y25.1.2.2.1 : Nat) : Int) > 0))
 (some ((0, [], ()), false, ()))
 (ob (Sg y25.2.2.1) fun r27 =>
 (cond (!r27.1)
 (some ((0, [], ()), false, ()))
 (some (y25.2.2.1, true, ())))))) (fun z26 => (some (z26.2.1, z26.1.2.1, ())))))
def Ue (a0 : Zd) : Option (Aa × Fh) :=
 (cond (((ln a0 : Nat) : Int) != 3)
 (some ((0, 0, 0, 0, ()), false, ()))
 (ob (Pb a0 0) fun x1 =>
 (cond ((16 : Int) == 0)
 none
 (ob (Pb a0 1) fun x2 =>
 (ob (Pb a0 2) fun x3 =>
 (ob (Pb a0 0) fun x4 =>
 (cond ((16 : Int) == 0)
 none
 (ob (Ng ((wr .i64 (Int.tdiv (wr .i64 x1) 16)), (wr .i64 x2), (wr .i64 x3), (Int.tmod (wr .i64 x4) 16), ())) fun r5 =>
 (cond (!r5.1)
 (some ((0, 0, 0, 0, ()), false, ()))
 (some (((wr .i64 (Int.tdiv (wr .i64 x1) 16)), (wr .i64 x2), (wr .i64 x3), (Int.tmod (wr .i64 x4) 16), ()), true, ())))))))))))
def Wf (t0 : Int) (t4 : Unit) (t6 : Unit) (t36 : Of) (t37 : Int) (t38 : Int) (b4 : Ca) (b6 : Ca) : Option (((Int × LM) × Pf) ⊕ ((Qx × Pf) ⊕ ((Unit × Fh) × Ui))) :=
 (cond (decide (t38 < t37))
 (ob (Pb t36 t38) fun x24 =>
 (cond (t0 == 0)
 none
 (cond (t0 == 0)
 none
 (ob (Th x24) fun r25 =>
 (cond (!r25.1)
 (some (.inr (.inr (((), false, ()), ((0, [], ()), ())))))
 (ob (Pb x24 0) fun x26 =>
 (cond (x26 != 2)
 (some (.inr (.inr (((), false, ()), ((0, [], ()), ())))))
 (ob (Pb x24 1) fun x27 =>
 (cond ((wr .i64 x27) != (wr .i64 (Int.tdiv t38 t0)))
 (some (.inr (.inr (((), false, ()), ((0, [], ()), ())))))
 (ob (Pb x24 2) fun x28 =>
 (cond ((wr .i64 x28) != (Int.tmod t38 t0))
 (some (.inr (.inr (((), false, ()), ((0, [], ()), ())))))
 (cond (Jc (ln x24) 3 6)
 (ob (Ue (Tb x24 (tn 3) (tn 6))) fun r29 =>
 (cond (!r29.2.1)
 (some (.inr (.inr (((), false, ()), ((0, [], ()), ())))))
 (cond ((Int.tmod t38 t0) == 0)
 (cond (bl (ln b6.2.1 + ln ([[]] : List Se)) Ge)
 (cond (Ed (ln (ap b6.2.1 ([[]] : List Se))) (wr .i64 (Int.tdiv t38 t0)))
 (ob (ap b6.2.1 ([[]] : List Se))[(tn (wr .i64 (Int.tdiv t38 t0)))]? fun x30 =>
 (cond (bl (ln x30 + ln ([r29.1] : List Aa)) Ge)
 (cond (Ed (ln (ap b6.2.1 ([[]] : List Se))) (wr .i64 (Int.tdiv t38 t0)))
 (cond (Nat.beq (tn (wr .i64 (Int.tdiv t38 t0))) (tn (wr .i64 (Int.tdiv t38 t0))))
 (some (.inl ((t0, (), (), t36, t37, (wr .i64 (t38 + 1)), ()), (b4, (b6.1, (ls (ap b6.2.1 ([[]] : List Se)) (tn (wr .i64 (Int.tdiv t38 t0))) (ap x30 ([r29.1] : List Aa))), ()), ()))))
 none)
 none)
 none))
 none)
 none)
 (cond (Ed (ln b6.2.1) (wr .i64 (Int.tdiv t38 t0)))
 (ob b6.2.1[(tn (wr .i64 (Int.tdiv t38 t0)))]? fun x31 =>
 (cond (bl (ln x31 + ln ([r29.1] : List Aa)) Ge)
 (cond (Ed (ln b6.2.1) (wr .i64 (Int.tdiv t38 t0)))
 (cond (Nat.beq (tn (wr .i64 (Int.tdiv t38 t0))) (tn (wr .i64 (Int.tdiv t38 t0))))
 (some (.inl ((t0, (), (), t36, t37, (wr .i64 (t38 + 1)), ()), (b4, (b6.1, (ls b6.2.1 (tn (wr .i64 (Int.tdiv t38 t0))) (ap x31 ([r29.1] : List Aa))), ()), ()))))
 none)
 none)
 none))
 none))))
 none))))))))))))
 (some (.inr (.inl (((), (), ()), (b4, b6, ()))))))
def Ze := Nc fun x : ((Int × LM) × Pf) => Wf x.1.1 x.1.2.1 x.1.2.2.1 x.1.2.2.2.1 x.1.2.2.2.2.1 x.1.2.2.2.2.2.1 x.2.1 x.2.2.1
def Ld (a0 : Int) (a1 : Of) : Option (Ca × Fh) :=
 (cond (decide (a0 < 1))
 (some ((0, [], ()), false, ()))
 (cond (decide (a0 > 32))
 (some ((0, [], ()), false, ()))
 (cond (a0 == 0)
 none
 (cond ((Int.tmod ((ln a1 : Nat) : Int) a0) != 0)
 (some ((0, [], ()), false, ()))
 (cond (a0 == 0)
 none
 (cond (decide ((wr .i64 (Int.tdiv ((ln a1 : Nat) : Int) a0)) > 4))
 (some ((0, [], ()), false, ()))
 (ob (Ze ((a0, (), (), a1, ((ln a1 : Nat) : Int), 0, ()), ((0, [], ()), (a0, [], ()), ()))) (se (fun y32 => (ob (Oe y32.2.2.1) fun r34 =>
 (cond (!r34.1)
 (some ((0, [], ()), false, ()))
 (some (y32.2.2.1, true, ()))))) (fun z33 => (some (z33.2.1, z33.1.2.1, ())))))))))))
def Zh (a0 : Zd) (a1 : Int) (a2 : Int) : Option Ui :=
 (ob (Zo a0 a1) fun r1 =>
 (ob (Qn r1 a2) fun r2 =>
 (some (r2.2.1, ()))))
def Il (a0 : Ca) (a1 : Int) (a2 : Int) (a3 : Aa) : Option (Ca × Fh) :=
 (ob (Oe a0) fun r1 =>
 (cond (!r1.1)
 (some ((0, [], ()), false, ()))
 (cond (decide (a1 < 0))
 (some ((0, [], ()), false, ()))
 (cond (decide (a1 ≥ ((ln a0.2.1 : Nat) : Int)))
 (some ((0, [], ()), false, ()))
 (cond (decide (a2 < 0))
 (some ((0, [], ()), false, ()))
 (cond (decide (a2 ≥ a0.1))
 (some ((0, [], ()), false, ()))
 (ob (Kg a0) fun r2 =>
 (cond (Ed (ln r2.1.2.1) a1)
 (ob r2.1.2.1[(tn a1)]? fun x3 =>
 (cond (Ed (ln x3) a2)
 (ob x3[(tn a2)]? fun x4 =>
 (ob (Oe (r2.1.1, (ls r2.1.2.1 (tn a1) (ls x3 (tn a2) a3)), ())) fun r5 =>
 (cond (!r5.1)
 (some ((0, [], ()), false, ()))
 (some ((r2.1.1, (ls r2.1.2.1 (tn a1) (ls x3 (tn a2) a3)), ()), true, ())))))
 none))
 none))))))))
def Te (a0 : Ca) (a1 : Zd) : Option (Ca × To) :=
 (ob (Kg a0) fun r1 =>
 (ob (Oe a0) fun r2 =>
 (cond (!r2.1)
 (ob (Yb ([255, 1] : List Int)) fun r3 =>
 (some (r1.1, r3.1, ())))
 (ob (Th a1) fun r4 =>
 (cond (!r4.1)
 (ob (Yb ([255, 1] : List Int)) fun r5 =>
 (some (r1.1, r5.1, ())))
 (ob (Pb a1 1) fun x6 =>
 (ob (Pb a1 2) fun x7 =>
 (cond (decide ((wr .i64 x6) < ((ln a0.2.1 : Nat) : Int)))
 (ob (Yb ([255, 3] : List Int)) fun r8 =>
 (ob (Pb a1 0) fun x9 =>
 (cond (x9 == 1)
 (ob (Yb ([1, (wr .u8 a0.1), (wr .u8 ((ln a0.2.1 : Nat) : Int))] : List Int)) fun r10 =>
 (some (r1.1, r10.1, ())))
 (cond (x9 == 2)
 (cond (!(decide ((wr .i64 x7) < a0.1)))
 (some (r1.1, r8.1, ()))
 (ob (Pb a1 0) fun x11 =>
 (ob (Pb a1 1) fun x12 =>
 (ob (Pb a1 2) fun x13 =>
 (ob (Pb a0.2.1 (wr .i64 x6)) fun x14 =>
 (ob (Pb x14 (wr .i64 x7)) fun x15 =>
 (ob (Vh x15) fun r16 =>
 (cond (bl (ln ([x11, x12, x13] : List Int) + ln r16.1) Ge)
 (ob (Yb (ap ([x11, x12, x13] : List Int) r16.1)) fun r17 =>
 (some (r1.1, r17.1, ())))
 none))))))))
 (cond (x9 == 3)
 (cond (Jc (ln a1) 3 6)
 (ob (Ue (Tb a1 (tn 3) (tn 6))) fun r18 =>
 (cond (!(decide ((wr .i64 x7) < a0.1)))
 (some (r1.1, r8.1, ()))
 (cond (!r18.2.1)
 (some (r1.1, r8.1, ()))
 (ob (Il a0 (wr .i64 x6) (wr .i64 x7) r18.1) fun r19 =>
 (cond (!r19.2.1)
 (some (r1.1, r8.1, ()))
 (cond (Jc (ln a1) 0 6)
 (cond (bl (ln ([] : List Int) + ln (Tb a1 (tn 0) (tn 6))) Ge)
 (ob (Yb (ap [] (Tb a1 (tn 0) (tn 6)))) fun r20 =>
 (some (r19.1, r20.1, ())))
 none)
 none))))))
 none)
 (ob (Yb ([255, 2] : List Int)) fun r21 =>
 (some (r1.1, r21.1, ()))))))))
 (ob (Yb ([255, 3] : List Int)) fun r22 =>
 (ob (Pb a1 0) fun x23 =>
 (cond (x23 == 1)
 (ob (Yb ([1, (wr .u8 a0.1), (wr .u8 ((ln a0.2.1 : Nat) : Int))] : List Int)) fun r24 =>
 (some (r1.1, r24.1, ())))
 (cond (x23 == 2)
 (some (r1.1, r22.1, ()))
 (cond (x23 == 3)
 (cond (Jc (ln a1) 3 6)
 (ob (Ue (Tb a1 (tn 3) (tn 6))) fun r25 =>
 (some (r1.1, r22.1, ())))
 none)
 (ob (Yb ([255, 2] : List Int)) fun r26 =>
 (some (r1.1, r26.1, ()))))))))))))))))
def Xg (t4 : Unit) (t6 : Unit) (t7 : Of) (t14 : Of) (t15 : Int) (t16 : Int) (b4 : Ca) (b6 : Ca) : Option (((Unit × (Unit × (Of × UB))) × Pf) ⊕ (((Unit × (Unit × Rx)) × Pf) ⊕ Rk)) :=
 (cond (decide (t16 < t15))
 (ob (Pb t14 t16) fun x8 =>
 (ob (Te b6 x8) fun r9 =>
 (cond (bl (ln t7 + ln ([r9.2.1] : List Zd)) Ge)
 (some (.inl (((), (), (ap t7 ([r9.2.1] : List Zd)), t14, t15, (wr .i64 (t16 + 1)), ()), (b4, r9.1, ()))))
 none)))
 (some (.inr (.inl (((), (), t7, ()), (b4, b6, ()))))))
def Ph := Nc fun x : ((Unit × (Unit × (Of × UB))) × Pf) => Xg x.1.1 x.1.2.1 x.1.2.2.1 x.1.2.2.2.1 x.1.2.2.2.2.1 x.1.2.2.2.2.2.1 x.2.1 x.2.2.1
def Hh (a0 : Ca) (a1 : Of) : Option (Ca × Rx) :=
 (ob (Kg a0) fun r1 =>
 (ob (Ph (((), (), [], a1, ((ln a1 : Nat) : Int), 0, ()), ((0, [], ()), r1.1, ()))) (se (fun y10 => (some (y10.2.2.1, y10.1.2.2.1, ()))) (fun z11 => none))))
def Qj (t2 : Unit) (t3 : Unit) (t5 : Int) (t6 : Int) (b2 : Ca) (b3 : Ca) : Option (((Unit × SB) × Pf) ⊕ ((Oq × Pf) ⊕ Px)) :=
 (ob (Pb b2.2.1 t5) fun x51 =>
 (cond (decide (t6 < ((ln x51 : Nat) : Int)))
 (ob (Pb b2.2.1 t5) fun x52 =>
 (ob (Pb x52 t6) fun x53 =>
 (ob (Pb b3.2.1 t5) fun x54 =>
 (ob (Pb x54 t6) fun x55 =>
 (cond (!(Cn Hb x53 x55))
 (some (.inr (.inr ((false, ()), ()))))
 (some (.inl (((), (), t5, (wr .i64 (t6 + 1)), ()), (b2, b3, ())))))))))
 (some (.inr (.inl (((), (), t5, ()), (b2, b3, ())))))))
def Nh := Nc fun x : ((Unit × SB) × Pf) => Qj x.1.1 x.1.2.1 x.1.2.2.1 x.1.2.2.2.1 x.2.1 x.2.2.1
def Pj (t2 : Unit) (t3 : Unit) (t5 : Int) (b2 : Ca) (b3 : Ca) : Option ((Oq × Pf) ⊕ DM) :=
 (cond (decide (t5 < ((ln b2.2.1 : Nat) : Int)))
 (ob (Pb b2.2.1 t5) fun x39 =>
 (ob (Pb b3.2.1 t5) fun x40 =>
 (cond (((ln x39 : Nat) : Int) != ((ln x40 : Nat) : Int))
 (some (.inr (.inr ((false, ()), ()))))
 (ob (Nh (((), (), t5, 0, ()), (b2, b3, ()))) (se (fun y56 => (some (.inl (((), (), (wr .i64 (y56.1.2.2.1 + 1)), ()), y56.2)))) (fun z57 => (some (.inr (.inr ((z57.1.1, ()), ()))))))))))
 (some (.inr (.inl ((), ())))))
def Ik := Nc fun x : (Oq × Pf) => Pj x.1.1 x.1.2.1 x.1.2.2.1 x.2.1 x.2.2.1
def Ig (a0 : Ca) (a1 : Ca) : Option Fh :=
 (cond (a0.1 != a1.1)
 (some (false, ()))
 (cond (((ln a0.2.1 : Nat) : Int) != ((ln a1.2.1 : Nat) : Int))
 (some (false, ()))
 (ob (Ik (((), (), 0, ()), (a0, a1, ()))) (se (fun y58 => (some (true, ()))) (fun z59 => (some (z59.1.1, ())))))))
def Zm (t0 : Unit) (t5 : Zd) (t6 : Int) (b500000 : Qa) : Option ((IM × (Qa × Unit)) ⊕ (((Unit × To) × (Qa × Unit)) ⊕ Rk)) :=
 (cond (decide (t6 > 0))
 (ob (Qd b500000) fun r4 =>
 (cond (bl (ln t5 + ln ([(wr .u8 r4.2.1)] : List Int)) Ge)
 (some (.inl (((), (ap t5 ([(wr .u8 r4.2.1)] : List Int)), (wr .i64 (t6 - 1)), ()), (r4.1, ()))))
 none))
 (some (.inr (.inl (((), t5, ()), (b500000, ()))))))
def Kk := Nc fun x : (IM × (Qa × Unit)) => Zm x.1.1 x.1.2.1 x.1.2.2.1 x.2.1
def Rn (a0 : Qa) (a1 : Int) : Option (Qa × To) :=
 (ob (Na a0 (wr .i64 (a1 + 1))) fun r1 =>
 (ob (Kk (((), [], r1.2.1, ()), (r1.1, ()))) (se (fun y5 => (some (y5.2.1, (y5.1.2.1, ())))) (fun z6 => none))))
def Nl (a0 : Qa) (a1 : Ca) : Option (Qa × To) :=
 (ob (Na a0 (wr .i64 (((ln a1.2.1 : Nat) : Int) + 1))) fun r1 =>
 (ob (Na r1.1 (max 1 (wr .i64 (a1.1 + 1)))) fun r2 =>
 (ob (Na r2.1 7) fun r3 =>
 (cond (r3.2.1 == 0)
 (ob (Ab ([1] : List Int)) fun r4 =>
 (cond (decide (((ln r4.1 : Nat) : Int) > 0))
 (ob (Pe r3.1 12) fun r5 =>
 (cond r5.2.1
 (ob (Na r5.1 ((ln r4.1 : Nat) : Int)) fun r6 =>
 (ob (Qd r6.1) fun r7 =>
 (cond (Ed (ln r4.1) r6.2.1)
 (ob r4.1[(tn r6.2.1)]? fun x8 =>
 (some (r7.1, ((ls r4.1 (tn r6.2.1) (wr .u8 r7.2.1)), ()))))
 none)))
 (some (r5.1, (r4.1, ())))))
 (some (r3.1, (r4.1, ())))))
 (cond (r3.2.1 == 1)
 (ob (Ab ([2, (wr .u8 r1.2.1), (wr .u8 r2.2.1)] : List Int)) fun r9 =>
 (cond (decide (((ln r9.1 : Nat) : Int) > 0))
 (ob (Pe r3.1 12) fun r10 =>
 (cond r10.2.1
 (ob (Na r10.1 ((ln r9.1 : Nat) : Int)) fun r11 =>
 (ob (Qd r11.1) fun r12 =>
 (cond (Ed (ln r9.1) r11.2.1)
 (ob r9.1[(tn r11.2.1)]? fun x13 =>
 (some (r12.1, ((ls r9.1 (tn r11.2.1) (wr .u8 r12.2.1)), ()))))
 none)))
 (some (r10.1, (r9.1, ())))))
 (some (r3.1, (r9.1, ())))))
 (cond (r3.2.1 == 2)
 (ob (Ab ([2, (wr .u8 r1.2.1), (wr .u8 r2.2.1)] : List Int)) fun r14 =>
 (cond (decide (((ln r14.1 : Nat) : Int) > 0))
 (ob (Pe r3.1 12) fun r15 =>
 (cond r15.2.1
 (ob (Na r15.1 ((ln r14.1 : Nat) : Int)) fun r16 =>
 (ob (Qd r16.1) fun r17 =>
 (cond (Ed (ln r14.1) r16.2.1)
 (ob r14.1[(tn r16.2.1)]? fun x18 =>
 (some (r17.1, ((ls r14.1 (tn r16.2.1) (wr .u8 r17.2.1)), ()))))
 none)))
 (some (r15.1, (r14.1, ())))))
 (some (r3.1, (r14.1, ())))))
 (cond (r3.2.1 == 3)
 (ob (Rn r3.1 7) fun r19 =>
 (ob (Ab r19.2.1) fun r20 =>
 (cond (decide (((ln r20.1 : Nat) : Int) > 0))
 (ob (Pe r19.1 12) fun r21 =>
 (cond r21.2.1
 (ob (Na r21.1 ((ln r20.1 : Nat) : Int)) fun r22 =>
 (ob (Qd r22.1) fun r23 =>
 (cond (Ed (ln r20.1) r22.2.1)
 (ob r20.1[(tn r22.2.1)]? fun x24 =>
 (some (r23.1, ((ls r20.1 (tn r22.2.1) (wr .u8 r23.2.1)), ()))))
 none)))
 (some (r21.1, (r20.1, ())))))
 (some (r19.1, (r20.1, ()))))))
 (ob (Un r3.1) fun r25 =>
 (ob (Ai r25.2.1) fun r26 =>
 (cond (bl (ln ([3, (wr .u8 r1.2.1), (wr .u8 r2.2.1)] : List Int) + ln r26.1) Ge)
 (ob (Ab (ap ([3, (wr .u8 r1.2.1), (wr .u8 r2.2.1)] : List Int) r26.1)) fun r27 =>
 (cond (decide (((ln r27.1 : Nat) : Int) > 0))
 (ob (Pe r25.1 12) fun r28 =>
 (cond r28.2.1
 (ob (Na r28.1 ((ln r27.1 : Nat) : Int)) fun r29 =>
 (ob (Qd r29.1) fun r30 =>
 (cond (Ed (ln r27.1) r29.2.1)
 (ob r27.1[(tn r29.2.1)]? fun x31 =>
 (some (r30.1, ((ls r27.1 (tn r29.2.1) (wr .u8 r30.2.1)), ()))))
 none)))
 (some (r28.1, (r27.1, ())))))
 (some (r25.1, (r27.1, ())))))
 none))))))))))
def Mg (a0 : Zd) : Option (Ca × To) :=
 (ob (Tn a0) fun r1 =>
 (ob (Wp r1) fun r2 =>
 (ob (Nl r2.1 r2.2.1) fun r3 =>
 (some (r2.2.1, r3.2.1, ())))))
def Ri (t0 : Zd) (t3 : Unit) (t4 : Unit) (t5 : Int) (b3 : Ca) (b4 : Ca) : Option (((Zd × Oq) × Pf) ⊕ (((Zd × Qx) × Pf) ⊕ Rk)) :=
 (cond (decide (t5 < ((ln b3.2.1 : Nat) : Int)))
 (cond ((b3.1 == b3.1) && (decide (0 ≤ b3.1) && decide (b3.1 ≤ ((Ge : Nat) : Int))))
 (cond (bl (ln b4.2.1 + ln ([(List.replicate (tn b3.1) (0, 0, 0, 0, ()))] : List Se)) Ge)
 (some (.inl ((t0, (), (), (wr .i64 (t5 + 1)), ()), (b3, (b4.1, (ap b4.2.1 ([(List.replicate (tn b3.1) (0, 0, 0, 0, ()))] : List Se)), ()), ()))))
 none)
 none)
 (some (.inr (.inl ((t0, (), (), ()), (b3, b4, ()))))))
def Oj := Nc fun x : ((Zd × Oq) × Pf) => Ri x.1.1 x.1.2.1 x.1.2.2.1 x.1.2.2.2.1 x.2.1 x.2.2.1
def Ak (a0 : Zd) : Option Fh :=
 (ob (Mo a0) fun r1 =>
 (cond r1.1
 (some (true, ()))
 (ob (Zh a0 140 3) fun r2 =>
 (ob (Oj ((a0, (), (), 0, ()), (r2.1, (r2.1.1, [], ()), ()))) (se (fun y3 => (ob (Mj y3.2.1) fun r5 =>
 (ob (Hh y3.2.2.1 r5.1) fun r6 =>
 (ob (Wh y3.2.1.1 ((ln y3.2.1.2.1 : Nat) : Int)) fun r7 =>
 (ob (Hh r6.1 r7.1) fun r8 =>
 (ob (Ld y3.2.1.1 r8.2.1) fun r9 =>
 (ob (Ig r6.1 y3.2.1) fun r10 =>
 (cond (!r10.1)
 (some (false, ()))
 (ob (Ig r8.1 y3.2.1) fun r11 =>
 (cond (!r11.1)
 (some (false, ()))
 (cond (!r9.2.1)
 (some (false, ()))
 (ob (Ig r9.1 y3.2.1) fun r12 =>
 (cond (!r12.1)
 (some (false, ()))
 (cond (((ln r6.2.1 : Nat) : Int) != (wr .i64 (y3.2.1.1 * ((ln y3.2.1.2.1 : Nat) : Int))))
 (some (false, ()))
 (ob (Mg y3.1.1) fun r13 =>
 (ob (Te y3.2.1 r13.2.1) fun r14 =>
 (ob (Th r14.2.1) fun r15 =>
 (cond r15.1
 (ob (Oe r14.1) fun r16 =>
 (cond r16.1
 (cond (Ed (ln r14.2.1) 0)
 (ob r14.2.1[(tn 0)]? fun x17 =>
 (cond (x17 == 3)
 (some (true, ()))
 (ob (Ig r14.1 y3.2.1) fun r18 =>
 (some (r18.1, ())))))
 none)
 (some (false, ()))))
 (some (false, ())))))))))))))))))))) (fun z4 => none))))))
def Ml (a0 : Ca) (a1 : Int) (a2 : Int) (a3 : Aa) : Option (Ca × Fh) :=
 (ob (Sg a0) fun r1 =>
 (cond (!r1.1)
 (some ((0, [], ()), false, ()))
 (ob (Uf a1 0 (wr .i64 (((ln a0.2.1 : Nat) : Int) - 1))) fun r2 =>
 (cond (!r2.1)
 (some ((0, [], ()), false, ()))
 (ob (Uf a2 0 (wr .i64 (a0.1 - 1))) fun r3 =>
 (cond (!r3.1)
 (some ((0, [], ()), false, ()))
 (ob (Ap a0) fun r4 =>
 (cond (Ed (ln r4.1.2.1) a1)
 (ob r4.1.2.1[(tn a1)]? fun x5 =>
 (cond (Ed (ln x5) a2)
 (ob x5[(tn a2)]? fun x6 =>
 (ob (Sg (r4.1.1, (ls r4.1.2.1 (tn a1) (ls x5 (tn a2) a3)), ())) fun r7 =>
 (cond (!r7.1)
 (some ((0, [], ()), false, ()))
 (some ((r4.1.1, (ls r4.1.2.1 (tn a1) (ls x5 (tn a2) a3)), ()), true, ())))))
 none))
 none))))))))
def Yc (a0 : Ca) (a1 : Zd) : Option (Ca × To) :=
 (ob (Ap a0) fun r1 =>
 (ob (Sg a0) fun r2 =>
 (cond (!r2.1)
 (ob (Ab ([255, 1] : List Int)) fun r3 =>
 (some (r1.1, r3.1, ())))
 (ob (Om a1) fun r4 =>
 (cond (!r4.1)
 (ob (Ab ([255, 1] : List Int)) fun r5 =>
 (some (r1.1, r5.1, ())))
 (ob (Pb a1 1) fun x6 =>
 (ob (Pb a1 2) fun x7 =>
 (cond (decide ((wr .i64 x6) < ((ln a0.2.1 : Nat) : Int)))
 (ob (Pb a1 0) fun x8 =>
 (cond (x8 == 1)
 (ob (Ab ([1, (wr .u8 a0.1), (wr .u8 ((ln a0.2.1 : Nat) : Int))] : List Int)) fun r9 =>
 (some (r1.1, r9.1, ())))
 (cond (x8 == 2)
 (cond (decide ((wr .i64 x7) < a0.1))
 (ob (Pb a1 1) fun x10 =>
 (ob (Pb a1 2) fun x11 =>
 (ob (Pb a0.2.1 (wr .i64 x6)) fun x12 =>
 (ob (Pb x12 (wr .i64 x7)) fun x13 =>
 (ob (Ai x13) fun r14 =>
 (cond (bl (ln ([2, x10, x11] : List Int) + ln r14.1) Ge)
 (ob (Ab (ap ([2, x10, x11] : List Int) r14.1)) fun r15 =>
 (some (r1.1, r15.1, ())))
 none))))))
 (ob (Ab ([255, 3] : List Int)) fun r16 =>
 (some (r1.1, r16.1, ()))))
 (cond (x8 == 3)
 (cond (Jc (ln a1) 3 6)
 (ob (Sd (Tb a1 (tn 3) (tn 6))) fun r17 =>
 (ob (Ml a0 (wr .i64 x6) (wr .i64 x7) r17.1) fun r18 =>
 (cond r17.2.1
 (cond r18.2.1
 (cond (Jc (ln a1) 0 6)
 (ob (Ab (Tb a1 (tn 0) (tn 6))) fun r19 =>
 (some (r18.1, r19.1, ())))
 none)
 (ob (Ab ([255, 3] : List Int)) fun r20 =>
 (some (r1.1, r20.1, ()))))
 (ob (Ab ([255, 3] : List Int)) fun r21 =>
 (some (r1.1, r21.1, ()))))))
 none)
 (ob (Ab ([255, 2] : List Int)) fun r22 =>
 (some (r1.1, r22.1, ())))))))
 (ob (Pb a1 0) fun x23 =>
 (cond (x23 == 1)
 (ob (Ab ([1, (wr .u8 a0.1), (wr .u8 ((ln a0.2.1 : Nat) : Int))] : List Int)) fun r24 =>
 (some (r1.1, r24.1, ())))
 (cond (x23 == 2)
 (ob (Ab ([255, 3] : List Int)) fun r25 =>
 (some (r1.1, r25.1, ())))
 (cond (x23 == 3)
 (cond (Jc (ln a1) 3 6)
 (ob (Sd (Tb a1 (tn 3) (tn 6))) fun r26 =>
 (ob (Ml a0 (wr .i64 x6) (wr .i64 x7) r26.1) fun r27 =>
 (cond r26.2.1
 (cond r27.2.1
 (cond (Jc (ln a1) 0 6)
 (ob (Ab (Tb a1 (tn 0) (tn 6))) fun r28 =>
 (some (r27.1, r28.1, ())))
 none)
 (ob (Ab ([255, 3] : List Int)) fun r29 =>
 (some (r1.1, r29.1, ()))))
 (ob (Ab ([255, 3] : List Int)) fun r30 =>
 (some (r1.1, r30.1, ()))))))
 none)
 (ob (Ab ([255, 2] : List Int)) fun r31 =>
 (some (r1.1, r31.1, ())))))))))))))))
end

def Za (k c m n : Int) : Prop :=
 ((k = 0 ∨ k = 1 ∨ k = 10) ∧ c = 0 ∧ m = 0 ∧ n = 0) ∨
 (k = 2 ∧ n = 0 ∧ (c = 0 ∨ 1 ≤ c ∧ c ≤ 56) ∧ (m = 0 ∨ 1 ≤ m ∧ m ≤ 15) ∧ (c ≠ 0 ∨ m ≠ 0)) ∨
 ((k = 3 ∨ k = 4) ∧ c = 0 ∧ m = 0 ∧ 1 ≤ n ∧ n ≤ 3) ∨
 ((k = 5 ∨ k = 9) ∧ c = 0 ∧ m = 0 ∧ 0 ≤ n ∧ n ≤ 3) ∨
 (k = 6 ∧ 1 ≤ c ∧ c ≤ 56 ∧ 1 ≤ m ∧ m ≤ 15 ∧ n = 0) ∨
 (k = 7 ∧ 1 ≤ c ∧ c ≤ 56 ∧ m = 0 ∧ 1 ≤ n ∧ n ≤ 3) ∨
 (k = 8 ∧ c = 0 ∧ 1 ≤ m ∧ m ≤ 15 ∧ n = 0)
noncomputable def Ib (a : Aa) : Bool := open Classical in decide (Za a.1 a.2.1 a.2.2.1 a.2.2.2.1)
theorem Cb (a : Aa) : Ib a = true ↔ Za a.1 a.2.1 a.2.2.1 a.2.2.2.1 := by simp [Ib]
theorem Rr (c : Int) : Ck c = some (decide (1 ≤ c ∧ c ≤ 56), ()) := by
 simp only [Ck, Fj, Gj]
 apply Sb; simp only [Bc, decide_eq_true_eq, Es, Hs, jr, and_false, false_and, or_false, false_or, and_true, true_and, not_true_eq_false, not_false_eq_true]; try omega
theorem Sr (c : Int) : Ji c = some (decide (1 ≤ c ∧ c ≤ 15), ()) := by
 simp only [Ji, Fj, Gj]
 apply Sb; simp only [Bc, decide_eq_true_eq, Es, Hs, jr, and_false, false_and, or_false, false_or, and_true, true_and, not_true_eq_false, not_false_eq_true]; try omega
theorem Tq (c : Int) : Zi c = some (decide (1 ≤ c ∧ c ≤ 3), ()) := by
 simp only [Zi, Fj, Gj]
 apply Sb; simp only [Bc, decide_eq_true_eq, Es, Hs, jr, and_false, false_and, or_false, false_or, and_true, true_and, not_true_eq_false, not_false_eq_true]; try omega
theorem Sn (c a b : Int) : Uf c a b = some (decide (a ≤ c ∧ c ≤ b), ()) := by
 simp only [Uf, Fj, Gj]
 apply Sb; simp only [Bc, decide_eq_true_eq, Es, Hs, jr, and_false, false_and, or_false, false_or, and_true, true_and, not_true_eq_false, not_false_eq_true]; try omega
theorem Rm (a : Aa) : Ng a = some (Ib a, ()) := by
 obtain ⟨k, c, m, n, u⟩ := a
 have key : ∀ k c m n : Int, Ng (k, c, m, n, u) = some (Ib (k, c, m, n, u), ()) := by
  intro k c m n
  simp only [Ng, Rr, Sr, Tq, Sn, jb, Fj, Gj]
  by_cases h0 : k = 0
  ·subst h0; apply Sb; rw [Cb]; simp [Za, Bc]; try omega
  by_cases h1 : k = 1
  ·subst h1; apply Sb; rw [Cb]; simp [Za, Bc]; try omega
  by_cases h2 : k = 2
  ·subst h2; apply Sb; rw [Cb]; simp [Za, Bc]; intro hn; (repeat' split) <;> omega
  by_cases h3 : k = 3
  ·subst h3; apply Sb; rw [Cb]; simp [Za, Bc]; try omega
  by_cases h4 : k = 4
  ·subst h4; apply Sb; rw [Cb]; simp [Za, Bc]; try omega
  by_cases h5 : k = 5
  ·subst h5; apply Sb; rw [Cb]; simp [Za, Bc]; try omega
  by_cases h6 : k = 6
  ·subst h6; apply Sb; rw [Cb]; simp [Za, Bc]; try omega
  by_cases h7 : k = 7
  ·subst h7; apply Sb; rw [Cb]; simp [Za, Bc]; try omega
  by_cases h8 : k = 8
  ·subst h8; apply Sb; rw [Cb]; simp [Za, Bc]; try omega
  by_cases h9 : k = 9
  ·subst h9; apply Sb; rw [Cb]; simp [Za, Bc]; try omega
  by_cases h10 : k = 10
  ·subst h10; apply Sb; rw [Cb]; simp [Za, Bc]; try omega
  have g : ∀ j : Int, (k == j) = decide (k = j) := fun j => by rw [Bool.eq_iff_iff]; simp
  apply Sb; rw [Cb]; simp [Za, Bc, h0, h1, h2, h3, h4, h5, h6, h7, h8, h9, h10]
 exact key k c m n
theorem Uj (a : Aa) : Rg a = some (Ib a, ()) := by
 obtain ⟨k, c, m, n, u⟩ := a
 have key : ∀ k c m n : Int, Rg (k, c, m, n, u) = some (Ib (k, c, m, n, u), ()) := by
  intro k c m n
  simp only [Rg, Rr, Sr, Tq, Sn, jb, Fj, Gj]
  by_cases h0 : k = 0
  ·subst h0; apply Sb; rw [Cb]; simp [Za, Bc]; try omega
  by_cases h1 : k = 1
  ·subst h1; apply Sb; rw [Cb]; simp [Za, Bc]; try omega
  by_cases h2 : k = 2
  ·subst h2; apply Sb; rw [Cb]; simp [Za, Bc]; intro hn; (repeat' split) <;> omega
  by_cases h3 : k = 3
  ·subst h3; apply Sb; rw [Cb]; simp [Za, Bc]; try omega
  by_cases h4 : k = 4
  ·subst h4; apply Sb; rw [Cb]; simp [Za, Bc]; try omega
  by_cases h5 : k = 5
  ·subst h5; apply Sb; rw [Cb]; simp [Za, Bc]; try omega
  by_cases h6 : k = 6
  ·subst h6; apply Sb; rw [Cb]; simp [Za, Bc]; try omega
  by_cases h7 : k = 7
  ·subst h7; apply Sb; rw [Cb]; simp [Za, Bc]; try omega
  by_cases h8 : k = 8
  ·subst h8; apply Sb; rw [Cb]; simp [Za, Bc]; try omega
  by_cases h9 : k = 9
  ·subst h9; apply Sb; rw [Cb]; simp [Za, Bc]; try omega
  by_cases h10 : k = 10
  ·subst h10; apply Sb; rw [Cb]; simp [Za, Bc]; try omega
  have g : ∀ j : Int, (k == j) = decide (k = j) := fun j => by rw [Bool.eq_iff_iff]; simp
  apply Sb; rw [Cb]; simp [Za, Bc, h0, h1, h2, h3, h4, h5, h6, h7, h8, h9, h10]
 exact key k c m n
noncomputable def Xd (nl : Nat) (i : Nat) (a : Aa) : Bool := Ib a && !(((i : Int) == 0) && (a.1 == 1)) && !((a.1 != 9) && decide (a.2.2.2.1 ≥ (nl : Int)))
noncomputable def Fd (keys : Int) (nl : Nat) (i : Nat) (l : List Aa) : Bool := ((ja l : Int) == keys) && Kf (fun _ a => Xd nl i a) 0 l
noncomputable def Ua (m : Ca) : Bool :=
 decide (1 ≤ m.1 ∧ m.1 ≤ 32) && decide (1 ≤ m.2.1.length ∧ m.2.1.length ≤ 4) && Kf (fun i l => Fd m.1 m.2.1.length i l) 0 m.2.1
theorem Ow (m : Ca) (i : Nat) (l : List Aa) (L : List (List Aa)) (n : Int) (t : Int) (hl : l.length < 9223372036854775807) :
 Wg (((), (i : Int), L, n, t, l, (l.length : Int), (0 : Int), ()), (m, ())) =
  some (cond (Kf (fun _ a => Xd m.2.1.length i a) 0 l) (.inl (((), L, n, t, ()), (m, ()))) (.inr ((false, ()), ()))) := by
 unfold Wg
 refine Hn (step := _) l (fun _ a => Xd m.2.1.length i a) (fun j => (((), (i : Int), L, n, t, l, (l.length : Int), j, ()), (m, ()))) _ _ ?_ ?_ hl
 ·intro k hk
  simp only [Rl]
  rw [Ja (show (k : Int) < (l.length : Int) by omega), Ae hk]
  simp only [cond_true, jb, Xd, Rm]
  cases Ib l[k] <;> cases ((i : Int) == 0) <;> cases (l[k].1 == 1) <;> cases (l[k].1 != 9) <;> cases decide (l[k].2.2.2.1 ≥ (m.2.1.length : Int)) <;> rfl
 ·simp [Rl]
theorem Ag (m : Ca) (hz : Ac Oa m ≤ Db) : Oe m = some (Ua m, ()) := by
 have h20 : Db = 1048576 := rfl
 have hz' : m.2.1.length + (List.map (Ac (.sl Hb)) m.2.1).sum ≤ Db := by
  have : Ac Oa m = Ac (.sl (.sl Hb)) m.2.1 := by simp only [Ac, Nat.add_zero, jt]
  rw [this] at hz; exact hz
 have hl : ∀ k (hk : k < m.2.1.length), m.2.1[k].length ≤ Db := by
  intro k hk
  have := Et (f := Ac (.sl Hb)) hk
  have h2 : m.2.1[k].length ≤ Ac (.sl Hb) m.2.1[k] := Nat.le_add_right _ _
  omega
 have hloop : Vg (((), m.2.1, ((ja m.2.1 : Nat) : Int), (0 : Int), ()), (m, ())) =
  some (cond (Kf (fun i l => Fd m.1 m.2.1.length i l) 0 m.2.1) (.inl ((), ())) (.inr ((false, ()), ()))) := by
  unfold Vg
  refine Hn (step := _) m.2.1 (fun i l => Fd m.1 m.2.1.length i l) (fun j => (((), m.2.1, ((ja m.2.1 : Nat) : Int), j, ()), (m, ()))) _ _ ?_ ?_ (by omega)
  ·intro k hk
   have := hl k hk
   simp only [Ql]
   rw [Ja (show (k : Int) < (m.2.1.length : Int) by omega), Ae hk]
   simp only [cond_true, jb, Fd]
   rw [Ow m k _ _ _ _ (by omega)]
   show (cond (!((m.2.1[k].length : Int) == m.1)) _ _) = _
   cases ((m.2.1[k].length : Int) == m.1) <;> cases Kf (fun _ a => Xd m.2.1.length k a) 0 m.2.1[k] <;> rfl
  ·simp [Ql]
 unfold Oe
 rw [hloop]
 simp only [jb, FA, Fj, Gj]
 apply Sb
 simp only [Bc, Ua, jd, decide_eq_true_eq, jr, and_false, false_or, and_true, or_false]
 generalize Kf (fun i l => Fd m.1 m.2.1.length i l) 0 m.2.1 = b
 constructor
 ·rintro ⟨h1, h2, h3, h4, h5⟩; exact ⟨⟨by omega, by omega⟩, h5⟩
 ·rintro ⟨⟨h1, h2⟩, h5⟩; exact ⟨by omega, by omega, by omega, by omega, h5⟩
theorem Gx (m : Ca) (i : Nat) (hi : i < m.2.1.length) (hl : m.2.1[i].length < 9223372036854775807) :
 Wj (((), (i : Int), (0 : Int), ()), (m, ())) =
  some (cond (Kf (fun _ a => Xd m.2.1.length i a) 0 m.2.1[i]) (.inl (((), (i : Int), ()), (m, ()))) (.inr ((false, ()), ()))) := by
 unfold Wj
 refine Hn (step := _) m.2.1[i] (fun _ a => Xd m.2.1.length i a) (fun j => (((), (i : Int), j, ()), (m, ()))) _ _ ?_ ?_ hl
 ·intro k hk
  simp only [Vl]
  rw [Ae hi]
  simp only [jb]
  rw [Ja (show (k : Int) < (m.2.1[i].length : Int) by omega), Ae hk]
  simp only [cond_true, jb, Xd, Uj]
  cases Ib m.2.1[i][k] <;> cases ((i : Int) == 0) <;> cases (m.2.1[i][k].1 == 1) <;> cases (m.2.1[i][k].1 != 9) <;> cases decide (m.2.1[i][k].2.2.2.1 ≥ (m.2.1.length : Int)) <;> rfl
 ·simp [Vl, Ae hi]
theorem Le (m : Ca) (hz : Ac Oa m ≤ Db) : Sg m = some (Ua m, ()) := by
 have h20 : Db = 1048576 := rfl
 have hz' : m.2.1.length + (List.map (Ac (.sl Hb)) m.2.1).sum ≤ Db := by
  have : Ac Oa m = Ac (.sl (.sl Hb)) m.2.1 := by simp only [Ac, Nat.add_zero, jt]
  rw [this] at hz; exact hz
 have hl : ∀ k (hk : k < m.2.1.length), m.2.1[k].length ≤ Db := by
  intro k hk
  have := Et (f := Ac (.sl Hb)) hk
  have h2 : m.2.1[k].length ≤ Ac (.sl Hb) m.2.1[k] := Nat.le_add_right _ _
  omega
 have hloop : Vj (((), (0 : Int), ()), (m, ())) =
  some (cond (Kf (fun i l => Fd m.1 m.2.1.length i l) 0 m.2.1) (.inl (((), ()), (m, ()))) (.inr ((false, ()), ()))) := by
  unfold Vj
  refine Hn (step := _) m.2.1 (fun i l => Fd m.1 m.2.1.length i l) (fun j => (((), j, ()), (m, ()))) _ _ ?_ ?_ (by omega)
  ·intro k hk
   have := hl k hk
   simp only [Ul]
   rw [Ja (show (k : Int) < (m.2.1.length : Int) by omega), Ae hk]
   simp only [cond_true, jb, Fd]
   rw [Gx m k hk (by omega)]
   show (cond (!((m.2.1[k].length : Int) == m.1)) _ _) = _
   cases ((m.2.1[k].length : Int) == m.1) <;> cases Kf (fun _ a => Xd m.2.1.length k a) 0 m.2.1[k] <;> rfl
  ·simp [Ul]
 unfold Sg
 rw [hloop]
 simp only [jb, FA, Fj, Gj, Sn]
 apply Sb
 simp only [Bc, Ua, jd, decide_eq_true_eq, jr, and_false, false_or, and_true, or_false]
 generalize Kf (fun i l => Fd m.1 m.2.1.length i l) 0 m.2.1 = b
 constructor
 ·rintro ⟨h1, h2, h3⟩; exact ⟨⟨by omega, by omega⟩, h1⟩
 ·rintro ⟨⟨h1, h2⟩, h5⟩; exact ⟨h5, by omega, by omega⟩
def Nk (k : Nat) (s : Int) (x : Int) : Int := j6 .i64 (s + j6 .i64 (j6 .i64 x * j6 .i64 ((k : Int) + 1)))
def Bd (a : List Int) : List Int :=
 if a.length ≥ 8 then [] else (a ++ List.replicate (8 - a.length) 0).set 7 (j6 .u8 (Int.tmod (Kc Nk 0 90 a) 256))
theorem LA {α S T : Type} (g : Nat → S → α → S) (h : Nat → T → α → T) : ∀ (xs : List α) (k : Nat) (s : S) (t : T),
 Kc (fun k (p : S × T) x => (g k p.1 x, h k p.2 x)) k (s, t) xs = (Kc g k s xs, Kc h k t xs)
 | [], _, _, _ => rfl
 | x :: xs, k, s, t => by simp only [Kc]; exact LA g h xs (k + 1) _ _
theorem KA {α : Type} : ∀ (xs : List α) (k : Nat) (o : List α), k + xs.length ≤ o.length → Kc (fun k o x => o.set k x) k o xs = o.take k ++ xs ++ o.drop (k + xs.length)
 | [], k, o, h => by simp [Kc]
 | x :: xs, k, o, h => by
  simp only [jx] at h
  simp only [Kc]
  rw [KA xs (k + 1) (o.set k x) (by simp; omega)]
  have h1 : (o.set k x).take (k + 1) = o.take k ++ [x] := by
   rw [List.take_succ_eq_append_getElem (by simp; omega), List.take_set_of_le (jp _), List.getElem_set_self]
  have h2 : (o.set k x).drop (k + 1 + xs.length) = o.drop (k + (xs.length + 1)) := by
   rw [List.drop_set, if_pos (by omega), show k + 1 + xs.length = k + (xs.length + 1) by omega]
  rw [h1, h2, jx]
  simp
theorem Ff (a : List Int) : Yb a = some (Bd a, ()) := by
 unfold Yb Bd
 by_cases h8 : a.length ≥ 8
 ·rw [Ja (show ((a.length : Nat) : Int) ≥ 8 by omega), if_pos h8]; rfl
 rw [Ka (show ¬ ((a.length : Nat) : Int) ≥ 8 by omega), if_neg h8]
 have hz : (((8 : Int) == (8 : Int)) && (decide ((0 : Int) ≤ (8 : Int)) && decide ((8 : Int) ≤ ((Ge : Nat) : Int)))) = true := by decide
 rw [hz]
 have hb : jy a.length (ja (List.replicate (jz (8 : Int)) (0 : Int))) = true := by
  rw [Nat.ble_eq]; simp; omega
 rw [hb]
 have hl := (Rj (step := fun x : ((List Int) × (Int × ((List Int) × (Int × (Int × Unit))))) × Unit => Lh x.1.1 x.1.2.1 x.1.2.2.1 x.1.2.2.2.1 x.1.2.2.2.2.1) a Nk
  (fun s i => (((jf a (List.drop (ja a) (List.replicate (jz (8 : Int)) (0 : Int)))), s, a, (a.length : Int), i, ()), ())) (fun s => .inl (((jf a (List.drop (ja a) (List.replicate (jz (8 : Int)) (0 : Int)))), s, ()), ())) (fun _ _ => True)
  (by
   intro k hk s _
   refine ⟨?_, trivial⟩
   simp only [Lh]
   rw [Ja (show (k : Int) < (a.length : Int) by omega), Ae hk]
   rfl) (by
   intro s _
   simp only [Lh]
   rw [Ka (by omega)]
   rfl) (by omega) 90 trivial).1
 simp only [cond_true, cond_false]
 unfold Hi
 erw [hl]
 simp only [jb, qk, show ((256 : Int) == 0) = false from rfl, cond_false]
 have hd : jf a (List.drop (ja a) (List.replicate (jz (8 : Int)) (0 : Int))) = a ++ List.replicate (8 - a.length) 0 := by
  show a ++ _ = _
  rw [List.drop_replicate]
  rfl
 rw [hd]
 have hlen : (a ++ List.replicate (8 - a.length) (0 : Int)).length = 8 := by simp; omega
 have h7 : Ed (a ++ List.replicate (8 - a.length) (0 : Int)).length 7 = true := by rw [hlen]; rfl
 rw [h7]
 simp only [cond_true, show jz (7 : Int) = 7 from rfl]
 rw [je (by omega)]
 rfl
theorem Nd (a : List Int) : Ab a = some (Bd a, ()) := by
 unfold Ab Bd
 by_cases h8 : a.length ≥ 8
 ·rw [Ja (show ((a.length : Nat) : Int) ≥ 8 by omega), if_pos h8]; rfl
 rw [Ka (show ¬ ((a.length : Nat) : Int) ≥ 8 by omega), if_neg h8]
 have hz : (((8 : Int) == (8 : Int)) && (decide ((0 : Int) ≤ (8 : Int)) && decide ((8 : Int) ≤ ((Ge : Nat) : Int)))) = true := by decide
 rw [hz]
 have hl := (Rj (step := fun x : ((List Int) × ((List Int) × (Int × (Int × Unit)))) × Unit => Oh x.1.1 x.1.2.1 x.1.2.2.1 x.1.2.2.2.1) a (fun k (p : List Int × Int) x => (p.1.set k x, Nk k p.2 x))
  (fun s i => ((a, s.1, s.2, i, ()), ())) (fun s => .inl ((s.1, s.2, ()), ())) (fun _ s => s.1.length = 8)
  (by
   intro k hk s hs
   refine ⟨?_, by simpa using hs⟩
   simp only [Oh]
   rw [Ja (show (k : Int) < (a.length : Int) by omega), Ae hk, Lg, Ja (show k < s.1.length by omega)]
   simp only [cond_true, jb, jo, je (show k < s.1.length by omega)]
   rw [Int.mul_comm (j6 .i64 ((k : Int) + 1))]
   rfl) (by
   intro s _
   simp only [Oh]
   rw [Ka (by omega)]
   rfl) (by omega) (List.replicate (jz (8 : Int)) (0 : Int), 90) (by simp)).1
 rw [LA (fun k (o : List Int) x => o.set k x) Nk, KA _ _ _ (by simp; omega)] at hl
 simp only [cond_true, cond_false]
 unfold Oi
 erw [hl]
 simp only [jb, qk, show ((256 : Int) == 0) = false from rfl, cond_false, List.take_zero, List.nil_append, jt]
 have hd : a ++ List.drop a.length (List.replicate (jz (8 : Int)) (0 : Int)) = a ++ List.replicate (8 - a.length) 0 := by
  rw [List.drop_replicate]
  rfl
 rw [hd]
 have hlen : (a ++ List.replicate (8 - a.length) (0 : Int)).length = 8 := by simp; omega
 have h7 : Ed (a ++ List.replicate (8 - a.length) (0 : Int)).length 7 = true := by rw [hlen]; rfl
 rw [h7]
 simp only [cond_true, show jz (7 : Int) = 7 from rfl]
 rw [je (by omega)]
 rfl
def Wd (b : List Int) : Bool := ((b.length : Int) == 8) && (Ol (Bd (Tb b 0 7)) == Ol b)
theorem Sm (b : List Int) : Th b = some (Wd b, ()) := by
 unfold Th Wd
 cases h : ((b.length : Int) == 8) with
 | false => rfl
 | true =>
  have h8 : (b.length : Int) = 8 := by simpa using h
  have hc : Jc (ja b) (0 : Int) (7 : Int) = true := by simp [Jc]; omega
  rw [hc, Ff]
  rfl
theorem Ih (b : List Int) : Om b = some (Wd b, ()) := by
 unfold Om Wd
 cases h : ((b.length : Int) == 8) with
 | false => rfl
 | true =>
  have h8 : (b.length : Int) = 8 := by simpa using h
  have hc : Jc (ja b) (0 : Int) (7 : Int) = true := by simp [Jc]; omega
  rw [hc, Nd]
  rfl
theorem XF (a : List Int) : Ac (.sl Zf) a = a.length := DE (e := Zf) rfl a
theorem Hf (a : List Int) : (Bd a).length ≤ 8 := by
 unfold Bd
 split
 ·simp
 ·simp; omega
def Hk {S : Type} (g : Nat → S → S) : Nat → S → S
 | 0, s => s
 | n + 1, s => g n (Hk g n s)
theorem Sv {X R S : Type} {step : X → Option (X ⊕ R)} (n : Nat) (hn : n < 9223372036854775807) (g : Nat → S → S) (s0 : S) (I : S → Int → X) (out : S → R)
 (h : ∀ k, k < n → step (I (Hk g k s0) (k : Int)) = some (.inl (I (g k (Hk g k s0)) (j6 .i64 ((k : Int) + 1))))) (he : step (I (Hk g n s0) (n : Int)) = some (.inr (out (Hk g n s0)))) :
 Nc step (I s0 0) = some (out (Hk g n s0)) := by
 have := FJ (step := step) (fun k => I (Hk g k s0) (k : Int)) n (out (Hk g n s0)) (fun k hk => by
  rw [h k hk, Ei (by omega)]; rfl) he
 exact this
theorem Rw {S : Type} {g : Nat → S → S} {p : Nat → S → Prop} {s0 : S} (h0 : p 0 s0) (hs : ∀ k s, p k s → p (k + 1) (g k s)) : ∀ n, p n (Hk g n s0)
 | 0 => h0
 | n + 1 => hs n _ (Rw h0 hs n)
theorem QH {e : Ty} {c : Nat} : ∀ {w : List (T e)}, (∀ x ∈ w, Ac e x ≤ c) → Ac (.sl e) w ≤ (c + 1) * w.length
 | [], _ => by simp [Ac]
 | x :: r, h => by
  have h1 := h x (by simp)
  have h2 : Ac (.sl e) r ≤ (c + 1) * r.length := QH fun y hy => h y (by simp [hy])
  have h3 : Ac (.sl e) r = ja r + (List.map (Ac e) r).sum := rfl
  have h4 : Ac (.sl e) (x :: r) = (ja r + 1) + (Ac e x + (List.map (Ac e) r).sum) := by simp [Ac]
  rw [h4, jx, Nat.mul_add]
  omega
theorem Bf {n : Nat} (h : n ≤ 1073741824) : jy n Ge = true := jk h
def Si (i k : Nat) : List Int := Bd [2, j6 .u8 (i : Int), j6 .u8 (k : Int)]
def Yo (n i : Nat) (o : List (List Int)) : List (List Int) := Hk (fun k o => jf o [Si i k]) n o
def At (n l : Nat) : List (List Int) := Hk (fun i o => Yo n i o) l []
def Yh (c : Nat) (o : List (List Int)) : Prop := ja o = c ∧ ∀ x ∈ o, ja x ≤ 8
theorem OH {c i k : Nat} {o : List (List Int)} (h : Yh c o) : Yh (c + 1) (jf o [Si i k]) := by
 refine ⟨by simp [h.1], fun x hx => ?_⟩
 rcases jm.1 hx with hx | hx
 ·exact h.2 x hx
 ·simp only [qe] at hx
  subst hx
  exact Hf _
theorem Yv {n i c : Nat} {o : List (List Int)} (h : Yh c o) : Yh (c + n) (Yo n i o) :=
 Rw (p := fun k o => Yh (c + k) o) h (fun k s hs => by rw [← ju]; exact OH hs) n
theorem QE (n : Nat) : ∀ l, Yh (l * n) (At n l) :=
 Rw (p := fun l o => Yh (l * n) o) ⟨by simp, by simp⟩ (fun k s hs => by rw [Nat.succ_mul]; exact Yv hs)
theorem XC {n i c : Nat} (l : Int) {o : List (List Int)} (hn : n ≤ 32) (ho : Yh c o) (hc : c ≤ 1000) :
 Af (((n : Int), o, (i : Int), l, (i : Int), (n : Int), 0, ()), ()) = some (.inl (((n : Int), Yo n i o, l, (i : Int), ()), ())) := by
 unfold Af
 have := Sv (step := fun x : (Int × List (List Int) × Int × Int × Int × Int × Int × Unit) × Unit => Kh x.1.1 x.1.2.1 x.1.2.2.1 x.1.2.2.2.1 x.1.2.2.2.2.1 x.1.2.2.2.2.2.1 x.1.2.2.2.2.2.2.1) n (by omega) (fun k o => jf o [Si i k]) o
  (fun o k => (((n : Int), o, (i : Int), l, (i : Int), (n : Int), k, ()), ())) (fun o => .inl (((n : Int), o, l, (i : Int), ()), ())) (fun k hk => by
   have hs : Yh (c + k) (Yo k i o) := Yv ho
   have hs1 := hs.1
   simp only [Kh]
   rw [Ja (by omega), Ff]
   simp only [cond_true, jb]
   rw [Bf (by
    show ja (Yo k i o) + 1 ≤ _
    omega)]
   rfl) (by
   simp only [Kh]
   rw [Ka (by omega)]
   rfl)
 exact this
theorem TA {l n : Nat} (hl : l ≤ 4) (hn : n ≤ 32) : l * n ≤ 128 := qc (Nat.mul_le_mul hl hn) (by omega)
def UD (n l : Int) : List (List Int) := cond (decide (1 ≤ n ∧ n ≤ 32 ∧ 1 ≤ l ∧ l ≤ 4)) (At n.toNat l.toNat) []
theorem Cu (n l : Int) : Wh n l = some (UD n l, ()) := by
 unfold Wh UD
 by_cases h : 1 ≤ n ∧ n ≤ 32 ∧ 1 ≤ l ∧ l ≤ 4
 case neg =>
  rw [Ka h]
  by_cases h1 : n < 1
  ·rw [Ja h1]; rfl
  by_cases h2 : n > 32
  ·rw [Ka h1, Ja h2]; rfl
  by_cases h3 : l < 1
  ·rw [Ka h1, Ka h2, Ja h3]; rfl
  ·rw [Ka h1, Ka h2, Ka h3, Ja (by omega)]; rfl
 rw [Ja h, Ka (by omega), Ka (by omega), Ka (by omega), Ka (by omega)]
 simp only [cond_true, cond_false]
 obtain ⟨n, rfl⟩ := jw (show 0 ≤ n by omega)
 obtain ⟨l, rfl⟩ := jw (show 0 ≤ l by omega)
 have hl := Sv (step := fun x : (Int × List (List Int) × Int × Int × Unit) × Unit => Jh x.1.1 x.1.2.1 x.1.2.2.1 x.1.2.2.2.1) l (by omega) (fun i o => Yo n i o) []
  (fun o k => (((n : Int), o, (l : Int), k, ()), ())) (fun o => .inl ((o, ()), ())) (fun k hk => by
   have hs : Yh (k * n) (At n k) := QE n k
   simp only [Jh]
   rw [Ja (by omega)]
   simp only [cond_true]
   have hin := XC (i := k) (l : Int) (show n ≤ 32 by omega) hs (by have := TA (show k ≤ 4 by omega) (show n ≤ 32 by omega); omega)
   show j4 (Af (((n : Int), At n k, (k : Int), (l : Int), (k : Int), (n : Int), 0, ()), ())) _ = _
   rw [hin]
   rfl) (by
   simp only [Jh]
   rw [Ka (by omega)]
   rfl)
 unfold Gi
 erw [hl]
 rfl
theorem Ay {α β : Type} (f : α → β) : ∀ (xs : List α) (k : Nat) (o : List β), Kc (fun _ o x => jf o [f x]) k o xs = o ++ xs.map f
 | [], _, o => by simp [Kc]
 | x :: r, k, o => by
  simp only [Kc]
  rw [Ay f r]
  simp
theorem RA {X R α β : Type} {step : X → Option (X ⊕ R)} (xs : List α) (f : α → β) (I : List β → Int → X) (out : List β → R) (hn : xs.length ≤ 1073741824)
 (h : ∀ k (hk : k < xs.length) (o : List β), ja o = k → step (I o (k : Int)) = some (.inl (I (jf o [f xs[k]]) (j6 .i64 ((k : Int) + 1)))))
 (he : ∀ o : List β, step (I o (xs.length : Int)) = some (.inr (out o))) : Nc step (I [] 0) = some (out (xs.map f)) := by
 have := (Rj (step := step) xs (fun _ o x => jf o [f x]) I out (fun k o => ja o = k) (fun k hk o ho => ⟨h k hk o ho, by simp [ho]⟩) (fun o _ => he o) (by omega) [] rfl).1
 rw [this, Ay]
 rfl
theorem Pu (a : List Aa) : Ac (.sl Hb) a = a.length := DE (e := Hb) rfl a
structure IK (m : Ca) : Prop where
 k1 : 1 ≤ m.1
 k2 : m.1 ≤ 32
 l1 : 1 ≤ m.2.1.length
 l2 : m.2.1.length ≤ 4
 row : ∀ i (h : i < m.2.1.length), (m.2.1[i].length : Int) = m.1
 act : ∀ i (h : i < m.2.1.length) k (hk : k < m.2.1[i].length), Xd m.2.1.length i m.2.1[i][k] = true
theorem We {m : Ca} (h : Ua m = true) : IK m := by
 simp only [Ua, jd, decide_eq_true_eq] at h
 obtain ⟨⟨h1, h2⟩, h3⟩ := h
 rw [Ve] at h3
 refine ⟨h1.1, h1.2, h2.1, h2.2, fun i hi => ?_, fun i hi k hk => ?_⟩
 ·have := h3 i hi
  simp only [jt, Fd, jd, beq_iff_eq] at this
  exact this.1
 ·have := h3 i hi
  simp only [jt, Fd, jd, beq_iff_eq] at this
  have := Ve.1 this.2 k hk
  simpa using this
theorem Hu {nl i : Nat} {a : Aa} (h : Xd nl i a = true) : Ib a = true := by
 simp only [Xd, jd] at h
 exact h.1.1
def LK (m k : Int) : Int := Dr .i64 (Qw .i64 m k) 1
def CR : Aa := (0, 0, 0, 0, ())
def WB (L : List (List Aa)) (i k : Nat) : Aa := (L.getD i []).getD k CR
def QA (L : List (List Aa)) (on : Int) (k : Nat) : Nat → Nat
 | 0 => 0
 | n + 1 => cond ((LK on ((n + 1 : Nat) : Int) == 1) && ((WB L (n + 1) k).1 != 1)) (n + 1) (QA L on k n)
def HD (m : Ca) (on : Int) (k : Nat) : Nat := QA m.2.1 on k (m.2.1.length - 1)
theorem Ps {m : Ca} (hz : Ac Oa m ≤ Db) : ja m.2.1 ≤ Db ∧ ∀ k (hk : k < m.2.1.length), m.2.1[k].length ≤ Db := by
 have h0 : Ac Oa m = 0 + (Ac (.sl (.sl Hb)) m.2.1 + 0) := rfl
 have h1 : Ac (.sl (.sl Hb)) m.2.1 = ja m.2.1 + (List.map (Ac (.sl Hb)) m.2.1).sum := rfl
 refine ⟨by omega, fun k hk => ?_⟩
 have h2 := Et (f := Ac (.sl Hb)) hk
 rw [Pu] at h2
 omega
theorem Wk (m : Ca) (hz : Ac Oa m ≤ Db) : Kg m = some (m, ()) := by
 have h20 : Db = 1048576 := rfl
 obtain ⟨h1, h2⟩ := Ps hz
 have hl := RA (step := fun x : (Unit × Unit × List (List Aa) × Int × Int × Unit) × Ca × Ca × Unit => Mh x.1.1 x.1.2.1 x.1.2.2.1 x.1.2.2.2.1 x.1.2.2.2.2.1 x.2.1 x.2.2.1) m.2.1 (fun x => x)
  (fun o k => (((), (), m.2.1, (m.2.1.length : Int), k, ()), ((0, [], ()), (m.1, o, ()), ()))) (fun o => .inl (((), (), ()), ((0, [], ()), (m.1, o, ()), ()))) (by omega) (fun k hk o ho => by
   have := h2 k hk
   simp only [Mh]
   rw [Ja (by omega), Ae hk]
   simp only [cond_true, jb]
   rw [Bf (by simp; omega), Bf (by simp only [jx, j8]; omega)]
   rfl) (fun o => by
   simp only [Mh]
   rw [Ka (by omega)]
   rfl)
 unfold Kg Ii
 erw [hl]
 rw [List.map_id']
 rfl
theorem Dj (m : Ca) (hz : Ac Oa m ≤ Db) : Ap m = some (m, ()) := by
 have h20 : Db = 1048576 := rfl
 obtain ⟨h1, h2⟩ := Ps hz
 have hl := RA (step := fun x : (Unit × Unit × Unit × Int × Unit) × Ca × Ca × Ca × Unit => Pk x.1.1 x.1.2.1 x.1.2.2.1 x.1.2.2.2.1 x.2.1 x.2.2.1 x.2.2.2.1) m.2.1 (fun x => x)
  (fun o k => (((), (), (), k, ()), (m, (0, [], ()), (m.1, o, ()), ()))) (fun o => .inl (((), (), ()), ((0, [], ()), (m.1, o, ()), ()))) (by omega) (fun k hk o ho => by
   have := h2 k hk
   simp only [Pk]
   rw [Ja (by omega), Ae hk]
   simp only [cond_true, jb]
   rw [Bf (by simp; omega), Bf (by simp only [jx, j8]; omega)]
   rfl) (fun o => by
   simp only [Pk]
   rw [Ka (by omega)]
   rfl)
 unfold Ap Pp
 erw [hl]
 rw [List.map_id']
 rfl
noncomputable def Yd (a : Aa) : List Int := cond (Ib a) [j6 .u8 (j6 .i64 (j6 .i64 (16 * a.1) + a.2.2.2.1)), j6 .u8 a.2.1, j6 .u8 a.2.2.1] []
theorem Yk (a : Aa) : (Yd a).length ≤ 3 := by unfold Yd; cases Ib a <;> simp
theorem Gp (a : Aa) : Vh a = some (Yd a, ()) := by
 unfold Vh Yd
 rw [Rm]
 cases Ib a <;> rfl
theorem Bi (a : Aa) : Ai a = some (Yd a, ()) := by
 unfold Ai Yd
 rw [Uj]
 cases Ib a <;> rfl
theorem Lj {α : Type} {l : List α} {n : Nat} (h : l.length = n + 1) : ∃ a r, l = a :: r ∧ r.length = n := by
 cases l with
 | nil => simp at h
 | cons a r => exact ⟨a, r, rfl, by simpa using h⟩
theorem Br (l : List Int) : ∃ a b, Sd l = some (a, b, ()) ∧ Ue l = some (a, b, ()) := by
 unfold Sd Ue
 by_cases h : l.length = 3
 case neg =>
  have : (((ja l : Nat) : Int) != (3 : Int)) = true := by
   rw [bne_iff_ne]; omega
  rw [this]
  exact ⟨_, _, rfl, rfl⟩
 obtain ⟨p, r, rfl, h1⟩ := Lj h
 obtain ⟨q, r, rfl, h2⟩ := Lj h1
 obtain ⟨s, r, rfl, h3⟩ := Lj h2
 have hr : r = [] := List.eq_nil_of_length_eq_zero h3
 subst hr
 rw [show (((ja [p, q, s] : Nat) : Int) != (3 : Int)) = false from rfl, show Pb [p, q, s] 0 = some p from rfl, show Pb [p, q, s] 1 = some q from rfl, show Pb [p, q, s] 2 = some s from rfl,
  show ((16 : Int) == 0) = false from rfl]
 simp only [cond_false, jb, Uj, Rm]
 cases Ib _ <;> exact ⟨_, _, rfl, rfl⟩
def Ni (m : Ca) (i k : Int) (a : Aa) : Ca := (m.1, j7 m.2.1 i.toNat (j7 (m.2.1.getD i.toNat []) k.toNat a), ())
noncomputable def Bl (m : Ca) (i k : Int) (a : Aa) : Bool := (Ua m && decide (0 ≤ i ∧ i < m.2.1.length) && decide (0 ≤ k ∧ k < m.1)) && Ua (Ni m i k a)
theorem VF {α : Type} {f : α → Nat} : ∀ {xs : List α} {i : Nat} {y : α} (hi : i < xs.length), f y = f xs[i] → ((xs.set i y).map f).sum = (xs.map f).sum
 | x :: r, 0, y, _, h => by simpa using h
 | x :: r, i + 1, y, hi, h => by
  have := VF (xs := r) (i := i) (y := y) (by simpa using hi) (by simpa using h)
  rw [List.set_cons_succ, List.map_cons, List.sum_cons, this, List.map_cons, List.sum_cons]
theorem Uz {m : Ca} {i k : Int} (a : Aa) (hi : 0 ≤ i ∧ i < m.2.1.length) : Ac Oa (Ni m i k a) = Ac Oa m := by
 show 0 + ((ja (j7 m.2.1 i.toNat _) + (List.map (Ac (.sl Hb)) (j7 m.2.1 i.toNat _)).sum) + 0) = 0 + ((ja m.2.1 + (List.map (Ac (.sl Hb)) m.2.1).sum) + 0)
 have hi' : i.toNat < m.2.1.length := by omega
 rw [j9, VF hi']
 rw [Pu, Pu, j9, qj, je hi']
 rfl
theorem Wl (m : Ca) (i k : Int) (a : Aa) (hz : Ac Oa m ≤ Db) :
 Ml m i k a = some (cond (Bl m i k a) (Ni m i k a) (0, [], ()), Bl m i k a, ()) := by
 have h20 : Db = 1048576 := rfl
 obtain ⟨h1, h2⟩ := Ps hz
 unfold Ml Bl
 rw [Le m hz]
 cases hv : Ua m with
 | false => rfl
 | true =>
  have hm := We hv
  simp only [jb, jg, cond_false, Sn, jl]
  rw [Mb (by omega) (by omega), Mb (by have := hm.k1; have := hm.k2; omega) (by have := hm.k1; have := hm.k2; omega)]
  by_cases hi : 0 ≤ i ∧ i < m.2.1.length
  case neg => rw [Ka hi, Ka (by omega)]; rfl
  rw [Ja hi, Ja (show 0 ≤ i ∧ i ≤ (m.2.1.length : Int) - 1 by omega)]
  by_cases hk : 0 ≤ k ∧ k < m.1
  case neg => rw [Ka hk, Ka (by omega)]; rfl
  rw [Ja hk, Ja (show 0 ≤ k ∧ k ≤ m.1 - 1 by omega), Dj m hz]
  have hi' : i.toNat < m.2.1.length := by omega
  have hrow := hm.row i.toNat hi'
  have hk' : k.toNat < m.2.1[i.toNat].length := by omega
  have e1 : Ed (ja m.2.1) i = true := by
   rw [show i = ((i.toNat : Nat) : Int) by omega, Lg]; exact Ja hi'
  have e2 : Ed (ja m.2.1[i.toNat]) k = true := by
   rw [show k = ((k.toNat : Nat) : Int) by omega, Lg]; exact Ja hk'
  have e3 : Ni m i k a = (m.1, j7 m.2.1 i.toNat (j7 m.2.1[i.toNat] k.toNat a), ()) := by
   unfold Ni; rw [qj, je hi']; rfl
  have e4 := Uz a hi (k := k)
  simp only [jb, jg, cond_false, cond_true, e1, je hi', e2, je hk']
  rw [← e3, Le _ (by omega)]
  cases Ua (Ni m i k a) <;> rfl
theorem Iv (m : Ca) (i k : Int) (a : Aa) (hz : Ac Oa m ≤ Db) :
 Il m i k a = some (cond (Bl m i k a) (Ni m i k a) (0, [], ()), Bl m i k a, ()) := by
 have h20 : Db = 1048576 := rfl
 obtain ⟨h1, h2⟩ := Ps hz
 unfold Il Bl
 rw [Ag m hz]
 cases hv : Ua m with
 | false => rfl
 | true =>
  have hm := We hv
  simp only [jb, jg, cond_false, jl]
  by_cases hi : 0 ≤ i ∧ i < m.2.1.length
  case neg =>
   rw [Ka hi]
   by_cases hi0 : i < 0
   ·rw [Ja hi0]; rfl
   ·rw [Ka hi0, Ja (by omega)]; rfl
  rw [Ja hi, Ka (show ¬ i < 0 by omega), Ka (show ¬ i ≥ (m.2.1.length : Int) by omega)]
  by_cases hk : 0 ≤ k ∧ k < m.1
  case neg =>
   rw [Ka hk]
   by_cases hk0 : k < 0
   ·rw [Ja hk0]; rfl
   ·rw [Ka hk0, Ja (by omega)]; rfl
  rw [Ja hk, Ka (show ¬ k < 0 by omega), Ka (show ¬ k ≥ m.1 by omega), Wk m hz]
  have hi' : i.toNat < m.2.1.length := by omega
  have hrow := hm.row i.toNat hi'
  have hk' : k.toNat < m.2.1[i.toNat].length := by omega
  have e1 : Ed (ja m.2.1) i = true := by
   rw [show i = ((i.toNat : Nat) : Int) by omega, Lg]; exact Ja hi'
  have e2 : Ed (ja m.2.1[i.toNat]) k = true := by
   rw [show k = ((k.toNat : Nat) : Int) by omega, Lg]; exact Ja hk'
  have e3 : Ni m i k a = (m.1, j7 m.2.1 i.toNat (j7 m.2.1[i.toNat] k.toNat a), ()) := by
   unfold Ni; rw [qj, je hi']; rfl
  have e4 := Uz a hi (k := k)
  simp only [jb, cond_false, cond_true, e1, je hi', e2, je hk']
  rw [← e3, Ag _ (by omega)]
  cases Ua (Ni m i k a) <;> rfl
theorem No {l : List Int} (h : Yl (.sl Zf) l) {k : Nat} (hk : k < l.length) : 0 ≤ l[k] ∧ l[k] ≤ 255 := h.2 k hk
theorem Lx (m : Ca) (b : List Int) (hb : Yl (.sl Zf) b) (hz : Ac Oa m ≤ Db) :
 ∃ m' w, Yc m b = some (m', w, ()) ∧ Te m b = some (m', w, ()) ∧ Ac Oa m' ≤ Db ∧ w.length ≤ 8 := by
 unfold Yc Te
 rw [Dj m hz, Wk m hz, Le m hz, Ag m hz, Ih, Sm]
 cases hv : Ua m with
 | false =>
  simp only [jb, qa, cond_true, Nd, Ff]
  exact ⟨_, _, rfl, rfl, hz, Hf _⟩
 | true =>
  cases hp : Wd b with
  | false =>
   simp only [jb, qa, jg, cond_true, cond_false, Nd, Ff]
   exact ⟨_, _, rfl, rfl, hz, Hf _⟩
  | true =>
   have hm := We hv
   have hlen : b.length = 8 := by
    simp only [Wd, jd, beq_iff_eq] at hp
    omega
   obtain ⟨p0, r, rfl, h1⟩ := Lj hlen
   obtain ⟨p1, r, rfl, h2⟩ := Lj h1
   obtain ⟨p2, r, rfl, h3⟩ := Lj h2
   have hp1 := No hb (show 1 < _ by simp)
   have hp2 := No hb (show 2 < _ by simp)
   simp only [List.getElem_cons_succ, List.getElem_cons_zero] at hp1 hp2
   have i0 : Pb (p0 :: p1 :: p2 :: r) (0 : Int) = some p0 := rfl
   have i1 : Pb (p0 :: p1 :: p2 :: r) (1 : Int) = some p1 := rfl
   have i2 : Pb (p0 :: p1 :: p2 :: r) (2 : Int) = some p2 := rfl
   have c1 : Jc (ja (p0 :: p1 :: p2 :: r)) 3 6 = true := Hj (lo := 3) (hi := 6) (by omega) (by omega)
   have c2 : Jc (ja (p0 :: p1 :: p2 :: r)) 0 6 = true := Hj (lo := 0) (hi := 6) (by omega) (by omega)
   generalize hcut : Tb (p0 :: p1 :: p2 :: r) (jz 3) (jz 6) = q
   obtain ⟨ua, ub, u1, u2⟩ := Br q
   simp only [jb, jg, cond_false, i0, i1, i2, c1, c2, cond_true, u1, u2, Mb (show -9223372036854775808 ≤ p1 by omega) (show p1 ≤ 9223372036854775807 by omega),
    Mb (show -9223372036854775808 ≤ p2 by omega) (show p2 ≤ 9223372036854775807 by omega), Nd, Ff, Wl m p1 p2 ua hz, Iv m p1 p2 ua hz]
   by_cases hl : p1 < (m.2.1.length : Int)
   case neg =>
    have hsb : Bl m p1 p2 ua = false := by
     unfold Bl; rw [Ka (show ¬ (0 ≤ p1 ∧ p1 < (m.2.1.length : Int)) by omega)]; simp
    rw [Ka hl, hsb]
    simp only [cond_false]
    cases (p0 == 1) <;> cases (p0 == 2) <;> cases (p0 == 3) <;> cases ub <;> exact ⟨_, _, rfl, rfl, hz, Hf _⟩
   rw [Ja hl]
   simp only [cond_true]
   cases (p0 == 1) with
   | true => exact ⟨_, _, rfl, rfl, hz, Hf _⟩
   | false =>
    simp only [cond_false]
    cases h02 : (p0 == 2) with
    | true =>
     simp only [cond_true]
     by_cases hk : p2 < m.1
     case neg =>
      rw [Ka hk]
      exact ⟨_, _, rfl, rfl, hz, Hf _⟩
     rw [Ja hk]
     simp only [jg, cond_true, cond_false]
     have hi' : p1.toNat < m.2.1.length := by omega
     have hrow := hm.row p1.toNat hi'
     have hk' : p2.toNat < m.2.1[p1.toNat].length := by omega
     have e1 : Pb m.2.1 p1 = some m.2.1[p1.toNat] := Gy (by omega) hi'
     have e2 : Pb m.2.1[p1.toNat] p2 = some m.2.1[p1.toNat][p2.toNat] := Gy (by omega) hk'
     have e3 : p0 = 2 := by simpa using h02
     subst e3
     have hpl := Yk m.2.1[p1.toNat][p2.toNat]
     rw [e1]
     simp only [jb, e2, Bi, Gp]
     rw [Bf (by simp only [jx, j8]; omega)]
     exact ⟨_, _, rfl, rfl, hz, Hf _⟩
    | false =>
     simp only [cond_false]
     cases (p0 == 3) with
     | false => exact ⟨_, _, rfl, rfl, hz, Hf _⟩
     | true =>
      simp only [cond_true]
      by_cases hk : p2 < m.1
      case neg =>
       have hsb : Bl m p1 p2 ua = false := by
        unfold Bl; rw [Ka (show ¬ (0 ≤ p2 ∧ p2 < m.1) by omega)]; simp
       rw [Ka hk, hsb]
       cases ub <;> exact ⟨_, _, rfl, rfl, hz, Hf _⟩
      rw [Ja hk]
      cases ub with
      | false => exact ⟨_, _, rfl, rfl, hz, Hf _⟩
      | true =>
       cases hsb : Bl m p1 p2 ua with
       | false => exact ⟨_, _, rfl, rfl, hz, Hf _⟩
       | true =>
        simp only [jg, cond_true, cond_false]
        rw [Bf (by
         have : ja (Tb (p0 :: p1 :: p2 :: r) (jz 0) (jz 6)) ≤ 8 := by
          unfold Tb; simp only [qp, qq]; omega
         simp only [j8]; omega)]
        have hs := Uz (m := m) (i := p1) (k := p2) ua (by omega)
        exact ⟨_, _, rfl, rfl, by omega, Hf _⟩
noncomputable def Fk (m : Ca) (b : List Int) : Ca × List Int := match Yc m b with
 | some r => (r.1, r.2.1)
 | none => (m, [])
theorem Bz {m : Ca} {b : List Int} (hb : Yl (.sl Zf) b) (hz : Ac Oa m ≤ Db) :
 Yc m b = some ((Fk m b).1, (Fk m b).2, ()) ∧ Te m b = some ((Fk m b).1, (Fk m b).2, ()) ∧ Ac Oa (Fk m b).1 ≤ Db ∧ (Fk m b).2.length ≤ 8 := by
 obtain ⟨m', w, h1, h2, h3, h4⟩ := Lx m b hb hz
 have e : Fk m b = (m', w) := by unfold Fk; rw [h1]
 rw [e]
 exact ⟨h1, h2, h3, h4⟩
def Xu (k : Nat) (s : Ca × List (List Int)) : Prop := Ac Oa s.1 ≤ Db ∧ Yh k s.2
theorem KL {k : Nat} {s : Ca × List (List Int)} {b : List Int} (hb : Yl (.sl Zf) b) (h : Xu k s) : Xu (k + 1) ((Fk s.1 b).1, jf s.2 [(Fk s.1 b).2]) := by
 obtain ⟨h1, h2⟩ := h
 obtain ⟨_, _, h3, h4⟩ := Bz hb h1
 refine ⟨h3, by simp [h2.1], fun x hx => ?_⟩
 rcases jm.1 hx with hx | hx
 ·exact h2.2 x hx
 ·simp only [qe] at hx
  subst hx
  exact h4
noncomputable def Tg (i k : Nat) (a : Aa) : List Int := Bd (jf [3, j6 .u8 (i : Int), j6 .u8 (k : Int)] (Yd a))
theorem UH {c i k : Nat} {a : Aa} {o : List (List Int)} (h : Yh c o) : Yh (c + 1) (jf o [Tg i k a]) := by
 refine ⟨by simp [h.1], fun x hx => ?_⟩
 rcases jm.1 hx with hx | hx
 ·exact h.2 x hx
 ·simp only [qe] at hx
  subst hx
  exact Hf _
noncomputable def Uu (i : Nat) (o : List (List Int)) (row : List Aa) : List (List Int) := Kc (fun k o a => jf o [Tg i k a]) 0 o row
theorem MB (L : List (List Aa)) (n : Int) (i : Nat) (row : List Aa) (hr : row.length ≤ 32) {c : Nat} {o : List (List Int)} (ho : Yh c o) (hc : c ≤ 1000) :
 Rh ((o, (i : Int), L, n, (i : Int), row, (row.length : Int), 0, ()), ()) = some (.inl ((Uu i o row, L, n, (i : Int), ()), ())) ∧ Yh (c + row.length) (Uu i o row) := by
 have := Rj (step := fun x : (List (List Int) × Int × List (List Aa) × Int × Int × List Aa × Int × Int × Unit) × Unit => Zg x.1.1 x.1.2.1 x.1.2.2.1 x.1.2.2.2.1 x.1.2.2.2.2.1 x.1.2.2.2.2.2.1 x.1.2.2.2.2.2.2.1 x.1.2.2.2.2.2.2.2.1) row
  (fun k o a => jf o [Tg i k a]) (fun o k => ((o, (i : Int), L, n, (i : Int), row, (row.length : Int), k, ()), ())) (fun o => .inl ((o, L, n, (i : Int), ()), ())) (fun k o => Yh (c + k) o) (fun k hk o hs => by
   refine ⟨?_, UH hs⟩
   have hs1 := hs.1
   have hp := Yk row[k]
   simp only [Zg]
   rw [Ja (by omega), Ae hk]
   simp only [cond_true, jb, Gp]
   rw [Bf (by simp only [jx, j8]; omega)]
   simp only [cond_true, jb, Ff]
   rw [Bf (by simp only [jx, j8]; omega)]
   rfl) (fun o _ => by
   simp only [Zg]
   rw [Ka (by omega)]
   rfl) (by omega) o ho
 exact this
noncomputable def Gl (l : List Int) : Aa × Bool := match Sd l with
 | some r => (r.1, r.2.1)
 | none => (CR, false)
theorem Xz (l : List Int) : Sd l = some ((Gl l).1, (Gl l).2, ()) ∧ Ue l = some ((Gl l).1, (Gl l).2, ()) := by
 obtain ⟨a, b, h1, h2⟩ := Br l
 have e : Gl l = (a, b) := by unfold Gl; rw [h1]
 rw [e]
 exact ⟨h1, h2⟩
abbrev Pl : Type := List (List Aa) × List Aa
def Pt (s : Pl) (x : List Int) : Bool :=
 cond (!Wd x) true (cond (x.getD 0 0 != 2) true (cond (j6 .i64 (x.getD 1 0) != (s.1.length : Int)) true (cond (j6 .i64 (x.getD 2 0) != (s.2.length : Int)) true false)))
noncomputable def Ye (keys : Int) (s : Pl) (x : List Int) : Pl ⊕ Unit :=
 cond (Pt s x) (.inr ()) (cond (!(Gl (Tb x 3 6)).2) (.inr ())
  (.inl (cond (((jf s.2 [(Gl (Tb x 3 6)).1]).length : Int) == keys) (jf s.1 [jf s.2 [(Gl (Tb x 3 6)).1]], []) (s.1, jf s.2 [(Gl (Tb x 3 6)).1]))))
theorem Up {x : List Int} (h : Wd x = true) : x.length = 8 := by
 simp only [Wd, jd, beq_iff_eq] at h
 omega
theorem Jo {x : List Int} {k : Nat} (h : k < x.length) : Pb x (k : Int) = some (x.getD k 0) := by
 rw [Ae h, qj, je h]; rfl
def zK : Ca := (0, [], ())
theorem Vz (keys : Int) (l : List (List Int)) (k : Nat) (hk : k < l.length) (s : Pl) (hs : s.1.length ≤ k ∧ s.2.length ≤ k) (hl : l.length ≤ 1048576) :
 Xf keys l () () s.2 (k : Int) zK (keys, s.1, ()) = some ((Ye keys s l[k]).elim
  (fun s' => .inl ((keys, l, (), (), s'.2, j6 .i64 ((k : Int) + 1), ()), (zK, (keys, s'.1, ()), ())))
  (fun _ => .inr (.inr (((), false, ()), (zK, ()))))) := by
 simp only [Xf, Ye, Pt]
 rw [Ja (by omega), Ae hk]
 simp only [cond_true, jb]
 rw [Ih]
 cases hp : Wd l[k] with
 | false => rfl
 | true =>
  have hlen := Up hp
  have i0 := Jo (x := l[k]) (k := 0) (by omega)
  have i1 := Jo (x := l[k]) (k := 1) (by omega)
  have i2 := Jo (x := l[k]) (k := 2) (by omega)
  have hc : Jc (ja l[k]) 3 6 = true := Hj (lo := 3) (hi := 6) (by omega) (by omega)
  generalize hx : l[k] = x at *
  rw [show Pb x (0 : Int) = some (x.getD 0 0) from i0, show Pb x (1 : Int) = some (x.getD 1 0) from i1, show Pb x (2 : Int) = some (x.getD 2 0) from i2]
  simp only [jb, jg, cond_false]
  cases (x.getD 0 0 != 2) with
  | true => rfl
  | false =>
   simp only [cond_false]
   cases (j6 .i64 (x.getD 1 0) != (s.1.length : Int)) with
   | true => rfl
   | false =>
    simp only [cond_false]
    cases (j6 .i64 (x.getD 2 0) != (s.2.length : Int)) with
    | true => rfl
    | false =>
     simp only [cond_false, hc, cond_true]
     rw [show jz 3 = 3 from rfl, show jz 6 = 6 from rfl, (Xz (Tb x 3 6)).1]
     simp only [jb]
     cases (Gl (Tb x 3 6)).2 with
     | false => rfl
     | true =>
      simp only [jg, cond_false]
      rw [Bf (by simp only [jx, j8]; omega)]
      simp only [cond_true]
      cases (((jf s.2 [(Gl (Tb x 3 6)).1]).length : Int) == keys) with
      | true =>
       simp only [cond_true]
       rw [Bf (by simp only [jx, j8]; omega)]
       rfl
      | false => rfl
theorem Ou {keys : Int} {s s' : Pl} {x : List Int} (h : Ye keys s x = .inl s') :
 ∃ a, s' = cond (((jf s.2 [a]).length : Int) == keys) (jf s.1 [jf s.2 [a]], []) (s.1, jf s.2 [a]) := by
 unfold Ye at h
 cases hb : Pt s x with
 | true => rw [hb] at h; simp at h
 | false =>
  rw [hb] at h
  cases hu : (Gl (Tb x 3 6)).2 with
  | false => rw [hu] at h; simp at h
  | true =>
   rw [hu] at h
   simp only [jg, cond_false, Sum.inl.injEq] at h
   exact ⟨_, h.symm⟩
theorem Pn (keys : Int) (l : List (List Int)) (hl : l.length ≤ 1048576) :
 Gg ((keys, l, (), (), [], 0, ()), (zK, (keys, [], ()), ())) = some ((Kd (fun _ s x => Ye keys s x) 0 (([], []) : Pl) l).elim
  (fun s => .inl (((), (), s.2, ()), (zK, (keys, s.1, ()), ())))
  (fun _ => .inr (((), false, ()), (zK, ())))) := by
 unfold Gg
 have := Tv (step := fun x : (Int × List (List Int) × Unit × Unit × List Aa × Int × Unit) × Ca × Ca × Unit => Xf x.1.1 x.1.2.1 x.1.2.2.1 x.1.2.2.2.1 x.1.2.2.2.2.1 x.1.2.2.2.2.2.1 x.2.1 x.2.2.1) l
  (fun _ s x => Ye keys s x) (fun s k => ((keys, l, (), (), s.2, k, ()), (zK, (keys, s.1, ()), ()))) (fun s => .inl (((), (), s.2, ()), (zK, (keys, s.1, ()), ()))) (fun _ => .inr (((), false, ()), (zK, ())))
  (fun k s => s.1.length ≤ k ∧ s.2.length ≤ k) (fun k hk s hs => by
   refine ⟨(Vz keys l k hk s hs hl).trans (by cases Ye keys s l[k] <;> rfl), fun s' h => ?_⟩
   obtain ⟨a, rfl⟩ := Ou h
   cases (((jf s.2 [a]).length : Int) == keys) <;> simp <;> omega) (fun s _ => by
   simp only [Xf]
   rw [Ka (by omega)]
   rfl) (by omega) ([], []) ⟨by simp, by simp⟩
 exact this.trans (by cases Kd (fun _ s x => Ye keys s x) 0 (([], []) : Pl) l <;> rfl)
def Wo (s : Pl) : List (List Aa) := match s.2 with
 | [] => s.1
 | r => jf s.1 [r]
def Yy (n k : Nat) (s : Pl) : Prop := s.1.length = k / n ∧ s.2.length = k % n
theorem ZE {n d r k : Nat} (hr : r < n) (hk : k = n * d + r) : k / n = d ∧ k % n = r := by
 have hn : 0 < n := by omega
 subst hk
 refine ⟨?_, ?_⟩
 ·rw [Nat.mul_add_div hn, Nat.div_eq_of_lt hr]; rfl
 ·rw [Nat.mul_add_mod, Nat.mod_eq_of_lt hr]
theorem EB {n k : Nat} {s s' : Pl} {x : List Int} (hn : 0 < n) (hi : Yy n k s) (h : Ye (n : Int) s x = .inl s') : Yy n (k + 1) s' := by
 obtain ⟨a, rfl⟩ := Ou h
 obtain ⟨h1, h2⟩ := hi
 have hdm := Nat.div_add_mod k n
 have hlt := Nat.mod_lt k hn
 generalize k / n = d at *
 generalize k % n = r at *
 have hlen : (jf s.2 [a]).length = r + 1 := by simp [h2]
 rw [hlen]
 by_cases he : r + 1 = n
 ·have hc : (((r + 1 : Nat) : Int) == (n : Int)) = true := by rw [he]; simp
  rw [hc]
  obtain ⟨e1, e2⟩ := ZE (n := n) (d := d + 1) (r := 0) (k := k + 1) hn (by rw [Nat.mul_add]; omega)
  exact ⟨by simp [h1, e1], by simp [e2]⟩
 ·have hc : (((r + 1 : Nat) : Int) == (n : Int)) = false := by rw [beq_eq_false_iff_ne]; omega
  rw [hc]
  obtain ⟨e1, e2⟩ := ZE (n := n) (d := d) (r := r + 1) (k := k + 1) (by omega) (by omega)
  exact ⟨by simp [h1, e1], by simp [h2, e2]⟩
theorem Jz {n : Nat} (hn : 0 < n) (hn2 : n ≤ 32) (l : List (List Int)) (k : Nat) (hk : k < l.length) (s : Pl) (hs : Yy n k s) (hl : l.length ≤ 1048576) :
 Wf (n : Int) () () l (l.length : Int) (k : Int) zK ((n : Int), Wo s, ()) = some ((Ye (n : Int) s l[k]).elim
  (fun s' => .inl (((n : Int), (), (), l, (l.length : Int), j6 .i64 ((k : Int) + 1), ()), (zK, ((n : Int), Wo s', ()), ())))
  (fun _ => .inr (.inr (((), false, ()), (zK, ()))))) := by
 obtain ⟨h1, h2⟩ := hs
 have hdl : k / n ≤ k := Nat.div_le_self k n
 have hml : k % n ≤ k := Nat.mod_le k n
 have ed : Int.tdiv (k : Int) (n : Int) = (s.1.length : Int) := by rw [h1]; rfl
 have em : Int.tmod (k : Int) (n : Int) = (s.2.length : Int) := by rw [h2]; rfl
 have hn0 : ((n : Int) == 0) = false := by rw [beq_eq_false_iff_ne]; omega
 simp only [Wf, Ye, Pt, ed, em, hn0, cond_false]
 rw [Mb (n := (s.1.length : Int)) (by omega) (by omega), Ja (by omega), Ae hk]
 simp only [cond_true, jb]
 rw [Sm]
 cases hp : Wd l[k] with
 | false => rfl
 | true =>
  have hlen := Up hp
  have i0 := Jo (x := l[k]) (k := 0) (by omega)
  have i1 := Jo (x := l[k]) (k := 1) (by omega)
  have i2 := Jo (x := l[k]) (k := 2) (by omega)
  have hc : Jc (ja l[k]) 3 6 = true := Hj (lo := 3) (hi := 6) (by omega) (by omega)
  generalize hx : l[k] = x at *
  rw [show Pb x (0 : Int) = some (x.getD 0 0) from i0, show Pb x (1 : Int) = some (x.getD 1 0) from i1, show Pb x (2 : Int) = some (x.getD 2 0) from i2]
  simp only [jb, jg, cond_false]
  cases (x.getD 0 0 != 2) with
  | true => rfl
  | false =>
   simp only [cond_false]
   cases (j6 .i64 (x.getD 1 0) != (s.1.length : Int)) with
   | true => rfl
   | false =>
    simp only [cond_false]
    cases (j6 .i64 (x.getD 2 0) != (s.2.length : Int)) with
    | true => rfl
    | false =>
     simp only [cond_false, hc, cond_true]
     rw [show jz 3 = 3 from rfl, show jz 6 = 6 from rfl, (Xz (Tb x 3 6)).2]
     simp only [jb]
     cases (Gl (Tb x 3 6)).2 with
     | false => rfl
     | true =>
      simp only [jg, cond_false]
      generalize (Gl (Tb x 3 6)).1 = a
      have hbeq : Nat.beq s.1.length s.1.length = true := Nat.beq_refl _
      obtain ⟨L, row⟩ := s
      simp only at h1 h2 hbeq ⊢
      cases row with
      | nil =>
       have hg : (L ++ [([] : List Aa)])[L.length]? = some [] := by simp
       have e0 : (((ja ([] : List Aa) : Nat) : Int) == 0) = true := rfl
       rw [e0]
       simp only [cond_true, Wo]
       rw [Bf (by simp only [jx, j8]; omega)]
       simp only [cond_true, List.append_eq, Lg, jo]
       rw [Ja (by simp), hg]
       simp only [cond_true, jb]
       rw [Bf (by simp)]
       simp only [cond_true, hbeq, List.nil_append]
       have hset : (L ++ [([] : List Aa)]).set L.length [a] = L ++ [[a]] := by simp
       rw [hset]
       cases (((ja [a] : Nat) : Int) == (n : Int)) <;> rfl
      | cons r row =>
       have hg : (L ++ [r :: row])[L.length]? = some (r :: row) := by simp
       have e0 : (((ja (r :: row) : Nat) : Int) == 0) = false := by rw [beq_eq_false_iff_ne]; simp; omega
       rw [e0]
       simp only [cond_false, Wo]
       simp only [List.append_eq, Lg, jo]
       rw [Ja (by simp), hg]
       simp only [cond_true, jb]
       rw [Bf (by simp only [jx, j8] at h2 ⊢; omega)]
       simp only [cond_true, hbeq]
       have hset : (L ++ [r :: row]).set L.length (r :: row ++ [a]) = L ++ [r :: row ++ [a]] := by simp
       rw [hset]
       cases (((ja (r :: row ++ [a]) : Nat) : Int) == (n : Int)) <;> rfl
theorem Ks {n : Nat} (hn : 0 < n) (hn2 : n ≤ 32) (l : List (List Int)) (hl : l.length ≤ 1048576) :
 Ze (((n : Int), (), (), l, (l.length : Int), 0, ()), (zK, ((n : Int), [], ()), ())) = some ((Kd (fun _ s x => Ye (n : Int) s x) 0 (([], []) : Pl) l).elim
  (fun s => .inl (((), (), ()), (zK, ((n : Int), Wo s, ()), ())))
  (fun _ => .inr (((), false, ()), (zK, ())))) := by
 unfold Ze
 have := Tv (step := fun x : (Int × Unit × Unit × List (List Int) × Int × Int × Unit) × Ca × Ca × Unit => Wf x.1.1 x.1.2.1 x.1.2.2.1 x.1.2.2.2.1 x.1.2.2.2.2.1 x.1.2.2.2.2.2.1 x.2.1 x.2.2.1) l
  (fun _ s x => Ye (n : Int) s x) (fun s k => (((n : Int), (), (), l, (l.length : Int), k, ()), (zK, ((n : Int), Wo s, ()), ()))) (fun s => .inl (((), (), ()), (zK, ((n : Int), Wo s, ()), ()))) (fun _ => .inr (((), false, ()), (zK, ())))
  (Yy n) (fun k hk s hs => ⟨(Jz hn hn2 l k hk s hs hl).trans (by cases Ye (n : Int) s l[k] <;> rfl), fun s' h => EB hn hs h⟩) (fun s _ => by
   simp only [Wf]
   rw [Ka (by omega)]
   rfl) (by omega) ([], []) ⟨by simp, by simp⟩
 exact this.trans (by cases Kd (fun _ s x => Ye (n : Int) s x) 0 (([], []) : Pl) l <;> rfl)
theorem Au {α S R : Type} {g : Nat → S → α → S ⊕ R} {P : Nat → S → Prop} (hg : ∀ k s x s', P k s → g k s x = .inl s' → P (k + 1) s') : ∀ (xs : List α) (k : Nat) (s s' : S), P k s → Kd g k s xs = .inl s' → P (k + xs.length) s'
 | [], k, s, s', h, he => by
  simp only [Kd, Sum.inl.injEq] at he
  subst he
  exact h
 | x :: r, k, s, s', h, he => by
  simp only [Kd] at he
  split at he
  ·rename_i s1 h1
   have := Au hg r (k + 1) s1 s' (hg k s x s1 h h1) he
   rw [jx, Nat.add_comm r.length 1, ← ju]
   exact this
  ·simp at he
theorem LE {m : Ca} (h : ¬ (1 ≤ m.1 ∧ m.1 ≤ 32)) : Ua m = false := by
 cases hb : Ua m with
 | false => rfl
 | true => have := We hb; exact absurd ⟨this.k1, this.k2⟩ h
theorem ME {m : Ca} (h : m.2.1.length > 4) : Ua m = false := by
 cases hb : Ua m with
 | false => rfl
 | true => have := We hb; exact absurd this.l2 (by omega)
def AM (k : Nat) (s : Pl) : Prop := s.1.length ≤ k ∧ (s.1.map ja).sum + s.2.length ≤ k
theorem UL {keys : Int} {k : Nat} {s s' : Pl} {x : List Int} (hi : AM k s) (h : Ye keys s x = .inl s') : AM (k + 1) s' := by
 obtain ⟨a, rfl⟩ := Ou h
 obtain ⟨h1, h2⟩ := hi
 cases (((jf s.2 [a]).length : Int) == keys) with
 | true =>
  refine ⟨by simp; omega, ?_⟩
  simp only [cond_true, List.append_eq, List.map_append, List.sum_append, List.map_cons, List.map_nil, List.sum_cons, List.sum_nil, qf, jx, j8]
  omega
 | false =>
  refine ⟨by simp; omega, ?_⟩
  simp only [cond_false, List.append_eq, qf, jx, j8]
  omega
theorem IR {keys : Int} {L : List (List Aa)} {k : Nat} (h : L.length ≤ k) (h2 : (L.map ja).sum ≤ k) : Ac Oa (keys, L, ()) ≤ 2 * k := by
 have h0 : Ac Oa (keys, L, ()) = 0 + ((ja L + (List.map (Ac (.sl Hb)) L).sum) + 0) := rfl
 have h1 : List.map (Ac (.sl Hb)) L = L.map ja := List.map_congr_left fun x _ => Pu x
 rw [h0, h1]
 omega
theorem Zx {α S R : Type} {g : Nat → S → α → S ⊕ R} : ∀ (xs : List α) (k : Nat) (s s' : S), Kd g k s xs = .inl s' → ∀ x ∈ xs, ∃ j s1 s2, g j s1 x = .inl s2
 | [], _, _, _, _, x, hx => by simp at hx
 | y :: r, k, s, s', he, x, hx => by
  simp only [Kd] at he
  split at he
  ·rename_i s1 h1
   rcases jq.1 hx with rfl | hx
   ·exact ⟨k, s, s1, h1⟩
   ·exact Zx r (k + 1) s1 s' he x hx
  ·simp at he
theorem RJ {keys : Int} {s s' : Pl} {x : List Int} (h : Ye keys s x = .inl s') : x.length = 8 := by
 unfold Ye at h
 cases hb : Pt s x with
 | true => rw [hb] at h; simp at h
 | false =>
  unfold Pt at hb
  cases hp : Wd x with
  | true => exact Up hp
  | false => rw [hp] at hb; simp at hb
theorem FB {α : Type} {f : α → Nat} {c : Nat} : ∀ {xs : List α}, (∀ x ∈ xs, f x = c) → (xs.map f).sum = xs.length * c
 | [], _ => by simp
 | x :: r, h => by
  rw [List.map_cons, List.sum_cons, h x (by simp), FB fun y hy => h y (by simp [hy]), jx, Nat.add_mul]
  omega
theorem Nx (keys : Int) (l : List (List Int)) (_ : Yl int keys) (_ : Yl (.sl (.sl Zf)) l) (hz : Ac (.sl (.sl Zf)) l ≤ Db) :
 ∃ m b, Ok keys l = some (m, b, ()) ∧ Ld keys l = some (m, b, ()) ∧ Ac Oa m ≤ Db := by
 have h20 : Db = 1048576 := rfl
 have h1 : Ac (.sl (.sl Zf)) l = ja l + (List.map (Ac (.sl Zf)) l).sum := rfl
 have hlen : l.length ≤ 1048576 := by omega
 have hz0 : Ac Oa zK ≤ Db := by
  show 0 + ((0 + 0) + 0) ≤ _
  omega
 unfold Ok
 rw [show Gg ((keys, l, (), (), ([] : List Aa), 0, ()), (0, [], ()), (keys, [], ()), ()) = _ from Pn keys l hlen]
 have himpl : ∀ (R : Pl ⊕ Unit), Kd (fun _ s x => Ye keys s x) 0 (([], []) : Pl) l = R → 1 ≤ keys ∧ keys ≤ 32 → ((l.length : Int).tmod keys != 0) = false → decide (j6 .i64 ((l.length : Int).tdiv keys) > 4) = false →
  Ld keys l = (R.elim (fun s => j4 (Oe (keys, Wo s, ())) fun r => cond (!r.1) (some (zK, false, ())) (some ((keys, Wo s, ()), true, ()))) (fun _ => some (zK, false, ()))) := by
  intro R hR hk hm hd
  obtain ⟨n, rfl⟩ := jw (show 0 ≤ keys by omega)
  have hn0 : ((n : Int) == 0) = false := by rw [beq_eq_false_iff_ne]; omega
  unfold Ld
  rw [Ka (show ¬ (n : Int) < 1 by omega), Ka (show ¬ (n : Int) > 32 by omega), hn0, hm, hd]
  simp only [cond_false]
  rw [show Ze (((n : Int), (), (), l, (l.length : Int), 0, ()), (0, [], ()), ((n : Int), [], ()), ()) = _ from Ks (by omega) (by omega) l hlen, hR]
  cases R <;> rfl
 have hout : ¬ (1 ≤ keys ∧ keys ≤ 32) → Ld keys l = some (zK, false, ()) := by
  intro h
  unfold Ld
  by_cases hk : keys < 1
  ·rw [Ja hk]; rfl
  ·rw [Ka hk, Ja (by omega)]; rfl
 have hm : 1 ≤ keys ∧ keys ≤ 32 → ((l.length : Int).tmod keys != 0) = true → Ld keys l = some (zK, false, ()) := by
  intro hk h
  have hn0 : (keys == 0) = false := by rw [beq_eq_false_iff_ne]; omega
  unfold Ld
  rw [Ka (show ¬ keys < 1 by omega), Ka (show ¬ keys > 32 by omega), hn0, h]
  rfl
 have hd : 1 ≤ keys ∧ keys ≤ 32 → ((l.length : Int).tmod keys != 0) = false → decide (j6 .i64 ((l.length : Int).tdiv keys) > 4) = true → Ld keys l = some (zK, false, ()) := by
  intro hk h h'
  have hn0 : (keys == 0) = false := by rw [beq_eq_false_iff_ne]; omega
  unfold Ld
  rw [Ka (show ¬ keys < 1 by omega), Ka (show ¬ keys > 32 by omega), hn0, h, h']
  rfl
 cases hR : Kd (fun _ s x => Ye keys s x) 0 (([], []) : Pl) l with
 | inr u =>
  refine ⟨zK, false, rfl, ?_, hz0⟩
  by_cases hk : 1 ≤ keys ∧ keys ≤ 32
  case neg => exact hout hk
  cases hmm : ((l.length : Int).tmod keys != 0) with
  | true => exact hm hk hmm
  | false =>
   cases hdd : decide (j6 .i64 ((l.length : Int).tdiv keys) > 4) with
   | true => exact hd hk hmm hdd
   | false => rw [himpl _ hR hk hmm hdd]; rfl
 | inl s =>
  have h8 : (List.map (Ac (.sl Zf)) l).sum = l.length * 8 := FB fun x hx => by
   obtain ⟨j, s1, s2, h⟩ := Zx l 0 _ s hR x hx
   rw [XF]
   exact RJ h
  have hks : AM (0 + l.length) s := Au (P := AM) (fun k s x s' h he => UL h he) l 0 _ s ⟨by simp, by simp⟩ hR
  rw [jt] at hks
  have hsz : Ac Oa (keys, s.1, ()) ≤ Db := by
   have := IR (keys := keys) hks.1 (show (s.1.map ja).sum ≤ l.length by have := hks.2; omega)
   omega
  simp only [qk, jb]
  rw [show Sg ((keys, s.1, ()).1, (keys, s.1, ()).2.1, ()) = _ from Le (keys, s.1, ()) hsz]
  by_cases hk : 1 ≤ keys ∧ keys ≤ 32
  case neg =>
   rw [hout hk, LE (m := (keys, s.1, ())) hk]
   refine ⟨zK, false, ?_, rfl, hz0⟩
   cases decide (((s.2.length : Nat) : Int) > 0) <;> rfl
  obtain ⟨n, rfl⟩ := jw (show 0 ≤ keys by omega)
  have hinv : Yy n (0 + l.length) s := Au (P := Yy n) (fun k s x s' h he => EB (by omega) h he) l 0 _ s ⟨by simp, by simp⟩ hR
  rw [jt] at hinv
  obtain ⟨hi1, hi2⟩ := hinv
  have ed : Int.tdiv (l.length : Int) (n : Int) = (s.1.length : Int) := by rw [hi1]; rfl
  have em : Int.tmod (l.length : Int) (n : Int) = (s.2.length : Int) := by rw [hi2]; rfl
  have hs1 := hks.1
  rw [em] at hm
  rw [ed, em, Mb (by omega) (by omega)] at hd himpl
  by_cases h2 : s.2.length = 0
  case neg =>
   rw [hm hk (by rw [bne_iff_ne]; omega)]
   refine ⟨zK, false, ?_, rfl, hz0⟩
   rw [Ja (by omega)]
   rfl
  have hm0 : ((s.2.length : Int) != 0) = false := by rw [h2]; rfl
  rw [Ka (by omega)]
  simp only [cond_false]
  by_cases h4 : (s.1.length : Int) > 4
  ·rw [hd hk hm0 (Ja h4), ME (m := ((n : Int), s.1, ())) (by show s.1.length > 4; omega)]
   exact ⟨zK, false, rfl, rfl, hz0⟩
  rw [himpl _ hR hk hm0 (Ka h4)]
  have hil : Wo s = s.1 := by
   obtain ⟨L, row⟩ := s
   have : row = [] := List.eq_nil_of_length_eq_zero h2
   subst this
   rfl
  simp only [qk, hil]
  rw [Ag _ hsz]
  cases Ua ((n : Int), s.1, ()) with
  | true => exact ⟨_, _, rfl, rfl, hsz⟩
  | false => exact ⟨_, _, rfl, rfl, hz0⟩
noncomputable def Ky (a : Aa) : Bool := Ib a && ((a.1 == 6) || (a.1 == 7))
noncomputable def TJ (a : Aa) : Aa := cond (Ky a) (2, a.2.1, 0, 0, ()) a
noncomputable def GN (a : Aa) : Aa := cond (Ky a) (cond (a.1 == 6) (2, 0, a.2.2.1, 0, ()) (3, 0, 0, a.2.2.2.1, ())) a
def Pr {α : Type} (p : α → Bool) : Nat → List α → Int
 | _, [] => -1
 | k, x :: xs => cond (p x) (k : Int) (Pr p (k + 1) xs)
theorem Hp {X R : Type} {s : X → Option (X ⊕ R)} (I : Nat → X → Prop) (Q : R → Prop)
 (h : ∀ n x, I n x → (∃ r, s x = some (.inr r) ∧ Q r) ∨ (∃ y m, m < n ∧ s x = some (.inl y) ∧ I m y)) : ∀ n x, I n x → ∃ r, Nc s x = some r ∧ Q r := by
 intro n
 induction n using Nat.strongRecOn with
 | _ n ih =>
  intro x hi
  rcases h n x hi with ⟨r, h1, hq⟩ | ⟨y, m, hm, h1, hi'⟩
  ·exact ⟨r, by rw [Ki h1]; rfl, hq⟩
  ·obtain ⟨r, g1, hq⟩ := ih m hm y hi'
   exact ⟨r, by rw [Ki h1]; exact g1, hq⟩
def PR {α β : Type} : α ⊕ β → Bool
 | .inl _ => true
 | .inr _ => false
noncomputable def LN (s : Int) (x : Td) : Bool := decide (0 ≤ x.1 ∧ x.1 ≤ 31) && (!(LK s x.1 == 1) && (Ib x.2.1 && (!(x.2.1.1 == 1) && (!(x.2.1.1 == 6) && !(x.2.1.1 == 7)))))
noncomputable def FR (s : Int) (x : Td) : Int ⊕ Unit := cond (LN s x) (.inl (Du .i64 s (Pw .i64 1 x.1))) (.inr ())
noncomputable def GR (l : List Td) : Int ⊕ Unit := Kd (fun _ s x => FR s x) 0 0 l
noncomputable def DF (l : List Td) : Bool := PR (GR l)
structure UV (x : Td) : Prop where
 lo : 0 ≤ x.1
 hi : x.1 ≤ 31
 act : Ib x.2.1 = true
 n1 : x.2.1.1 ≠ 1
 n6 : x.2.1.1 ≠ 6
 n7 : x.2.1.1 ≠ 7
def PD (h : Td) : Ti := (h.2.1.2.1, h.2.1.2.2.1, ())
def CD (c m : Int) (h : Td) : Bool := (h.2.1.2.1 == c) && (h.2.1.2.2.1 == m)
def ZN {α : Type} (l : List α) (r : Nat) : List α := jf (Tb l 0 r) (Tb l (r + 1) l.length)
noncomputable def VN (x : Cg) (r : Int) : Bool := Ib (2, x.2.1, x.2.2.1, 0, ()) && (((x.1 == 0) && !decide (r ≥ 0)) || (((x.1 == 1) && !decide (r ≥ 0)) || ((x.1 == 2) && decide (r ≥ 0))))
def HI (x : Cg) : Td := (0, (2, x.2.1, x.2.2.1, 0, ()), ())
def XK (x : Cg) (L : List Td) (r : Int) : List Td := cond (x.1 == 1) (jf L [HI x]) (cond (x.1 == 2) (ZN L r.toNat) L)
noncomputable def OQ (L : List Td) (x : Cg) : List Td ⊕ Unit := cond (VN x (Pr (CD x.2.1 x.2.2.1) 0 L)) (.inl (XK x L (Pr (CD x.2.1 x.2.2.1) 0 L))) (.inr ())
noncomputable def WT (l : List Cg) : List Td ⊕ Unit := Kd (fun _ L x => OQ L x) 0 [] l
noncomputable def UK (l : List Cg) : Bool := decide (l.length ≤ 8) && (match WT l with | .inl L => ((L.length : Int) == 0) | .inr _ => false)
noncomputable def FN (keys : Int) (nl : Nat) (x : Td) : Bool := !decide (x.1 ≥ keys) && !((x.2.1.1 != 9) && decide (x.2.1.2.2.2.1 ≥ (nl : Int)))
def ZC (x : Zl) : Bool := decide (0 ≤ x.1 ∧ x.1 ≤ 1000000) && decide (0 ≤ x.2.1 ∧ x.2.1 ≤ 31)
def QP (s : Int × Int) (x : Zl) : Bool := ZC x && (!decide (s.1 > x.1) && !(x.2.2.1 == (LK s.2 x.2.1 == 1)))
def TT (s : Int × Int) (x : Zl) : (Int × Int) ⊕ Unit := cond (QP s x) (.inl (x.1, Kz .i64 s.2 (Pw .i64 1 x.2.1))) (.inr ())


def cnt : Nat → Nat → Nat
 | 0, _ => 0
 | k + 1, n => n % 2 + cnt k (n / 2)
def u1 (a : Nat) : Nat := ((a / 2) &&& 85) + (a &&& 85)
def u2 (a : Nat) : Nat := ((a / 4) &&& 51) + (a &&& 51)
def M5 : Nat := 6148914691236517205
def M3 : Nat := 3689348814741910323
def MF : Nat := 1085102592571150095
def s1 (n : Nat) : Nat := (n / 2 &&& M5) + (n &&& M5)
def s2 (n : Nat) : Nat := (n / 4 &&& M3) + (n &&& M3)
def s3 (n : Nat) : Nat := (n / 16 + n) &&& MF


def rowN (C m r : Nat) : Nat := (m >>> (r * C)) &&& (2 ^ C - 1)
def MR (C a b m : Nat) : Nat := cond (rowN C m a &&& rowN C m b != 0) (m ||| rowN C m b <<< (a * C)) m
def g3 (C a : Nat) : Nat → Nat → Nat := fun b m => MR C a b m
def g2 (C R : Nat) : Nat → Nat → Nat := fun a m => Hk (g3 C a) R m
def g1 (C R : Nat) : Nat → Nat → Nat := fun _ m => Hk (g2 C R) R m
structure IW (C R : Nat) : Prop where
 c1 : 1 ≤ C
 c2 : C ≤ 6
 r1 : 1 ≤ R
 r2 : R ≤ 4

structure Df (c : Qa) : Prop where
 lo : 0 ≤ c.2.1
 hi : c.2.1 ≤ (c.1.length : Int)
 len : c.1.length ≤ Db
theorem XH (z : Int) : 0 ≤ Dr .i64 z 255 ∧ Dr .i64 z 255 ≤ 255 := by
 have h : (BitVec.ofInt 64 z &&& BitVec.ofInt 64 255).toNat ≤ 255 := by
  rw [BitVec.toNat_and]
  exact Nat.and_le_right
 show 0 ≤ j6 .i64 ((BitVec.ofInt 64 z &&& BitVec.ofInt 64 255).toNat : Int) ∧ j6 .i64 ((BitVec.ofInt 64 z &&& BitVec.ofInt 64 255).toNat : Int) ≤ 255
 rw [Mb (by omega) (by omega)]
 omega
theorem Yp {c : Qa} (h : Df c) : ∃ (c' : Qa) (x : Int), Qd c = some (c', (x, ())) ∧ Df c' ∧ 0 ≤ x ∧ x ≤ 255 := by
 have h20 : Db = 1048576 := rfl
 have h1 := h.lo
 have h2 := h.len
 unfold Qd
 by_cases hi : c.2.1 < ((ja c.1 : Nat) : Int)
 ·obtain ⟨k, hk⟩ := jw h1
  rw [Ja hi, hk, Ae (show k < c.1.length by omega)]
  refine ⟨_, _, rfl, ⟨?_, ?_, h2⟩, XH _⟩
  ·show 0 ≤ j6 .i64 ((k : Int) + 1)
   rw [Ei (by omega)]; omega
  ·show j6 .i64 ((k : Int) + 1) ≤ _
   rw [Ei (by omega)]; show _ ≤ ((ja c.1 : Nat) : Int); omega
 ·rw [Ka hi]
  exact ⟨_, _, rfl, ⟨h1, h.hi, h2⟩, XH _⟩
theorem Ee {c : Qa} (h : Df c) (n : Int) (hn : 0 < n) : ∃ (c' : Qa) (x : Int), Na c n = some (c', (x, ())) ∧ Df c' ∧ 0 ≤ x ∧ x < n := by
 obtain ⟨c1, x1, e1, h1, b1⟩ := Yp h
 unfold Na
 rw [Ka (show ¬ n ≤ 0 by omega), e1, show (n == 0) = false by simp; omega]
 simp only [cond_false, jb]
 by_cases h256 : n ≤ 256
 ·rw [Ja h256]
  exact ⟨_, _, rfl, h1, Int.tmod_nonneg _ (by omega), Int.tmod_lt_of_pos _ hn⟩
 ·obtain ⟨c2, x2, e2, h2, b2⟩ := Yp h1
  obtain ⟨c3, x3, e3, h3, b3⟩ := Yp h2
  obtain ⟨c4, x4, e4, h4, b4⟩ := Yp h3
  rw [Ka h256, e2]
  simp only [cond_false, jb]
  rw [e3]
  simp only [jb]
  rw [e4]
  simp only [jb]
  rw [Mb (n := x1 * 16777216) (by omega) (by omega), Mb (n := x2 * 65536) (by omega) (by omega), Mb (n := x3 * 256) (by omega) (by omega), Mb (n := x1 * 16777216 + x2 * 65536) (by omega) (by omega), Mb (n := x1 * 16777216 + x2 * 65536 + x3 * 256) (by omega) (by omega), Mb (n := x1 * 16777216 + x2 * 65536 + x3 * 256 + x4) (by omega) (by omega)]
  exact ⟨_, _, rfl, h4, Int.tmod_nonneg _ (by omega), Int.tmod_lt_of_pos _ hn⟩
theorem Nz {c : Qa} (h : Df c) (n : Int) (hn : 0 < n) : ∃ (c' : Qa) (b : Bool), Pe c n = some (c', (b, ())) ∧ Df c' := by
 obtain ⟨c1, x1, e1, h1, b1⟩ := Ee h n hn
 unfold Pe
 rw [e1]
 exact ⟨_, _, rfl, h1⟩
theorem Ur {c : Qa} (h : Df c) (l : List Int) (hl : 0 < l.length) (h2 : l.length ≤ 1000) : ∃ (c' : Qa) (x : Int), Jf c l = some (c', (x, ())) ∧ Df c' ∧ x ∈ l := by
 obtain ⟨c1, x1, e1, h1, b1⟩ := Ee h ((ja l : Nat) : Int) (by omega)
 unfold Jf
 rw [e1]
 obtain ⟨k, rfl⟩ := jw b1.1
 have hk : k < l.length := by omega
 simp only [jb]
 rw [Lg, Ja hk, jo, je hk]
 exact ⟨_, _, rfl, h1, qm hk⟩
theorem HJ (a : List Int) (hn : a.length ≤ Db) : ∃ h : Int, Tn a = some (a, (0, (h, ()))) := by
 have h20 : Db = 1048576 := rfl
 have := Hp (s := fun x : (List Int × (Int × (Int × Unit))) × Unit => Po x.1.1 x.1.2.1 x.1.2.2.1) (fun n x => ∃ (h : Int) (k : Nat), x = ((a, h, (k : Int), ()), ()) ∧ n + k = a.length) (fun r => ∃ h : Int, r = .inl ((a, h, ()), ())) (by
  rintro n x ⟨h, k, rfl, hk⟩
  simp only [Po]
  by_cases h1 : (k : Int) < ((ja a : Nat) : Int)
  ·rw [Ja h1]
   by_cases h2 : (k : Int) < 4000
   ·rw [Ja h2, Ae (show k < a.length by omega), Ei (by omega)]
    exact .inr ⟨_, n - 1, by omega, rfl, _, k + 1, rfl, by omega⟩
   ·rw [Ka h2]; exact .inl ⟨_, rfl, _, rfl⟩
  ·rw [Ka h1]; exact .inl ⟨_, rfl, _, rfl⟩) a.length ((a, j6 .i64 (10729 + ((ja a : Nat) : Int)), ((0 : Nat) : Int), ()), ()) ⟨_, 0, rfl, rfl⟩
 obtain ⟨r, h1, h, rfl⟩ := this
 refine ⟨h, ?_⟩
 unfold Tn Xl
 erw [h1]
 rfl
theorem ZK (a : List Int) (n : Int) (hn : a.length ≤ Db) : ∃ c : Qa, Zo a n = some c ∧ Df c := by
 obtain ⟨h, e⟩ := HJ a hn
 unfold Zo
 rw [e]
 exact ⟨_, rfl, ⟨Int.le_refl _, by show (0 : Int) ≤ _; omega, hn⟩⟩
def Bp (n : Int) (a : Aa) : Prop := Ib a = true ∧ a.1 ≠ 1 ∧ (a.1 = 9 ∨ a.2.2.2.1 < n)
theorem Wi {n k c m x : Int} (h : Za k c m x) (h1 : k ≠ 1) (h2 : k = 9 ∨ x < n) : Bp n (k, c, m, x, ()) := ⟨(Cb _).2 h, h1, h2⟩
def Qi (n : Int) (o : Option (Qa × (Aa × Unit))) : Prop := ∃ (c : Qa) (a : Aa), o = some (c, (a, ())) ∧ Df c ∧ Bp n a
theorem Km {n : Int} {c : Qa} {a : Aa} (h : Df c) (ha : Bp n a) : Qi n (some (c, (a, ()))) := ⟨c, a, rfl, h, ha⟩
theorem Yi {n : Int} {b : Bool} {x y : Option (Qa × (Aa × Unit))} (h1 : Qi n x) (h2 : Qi n y) : Qi n (cond b x y) := by cases b <;> assumption
theorem TK {n : Int} {p : Prop} [Decidable p] {x y : Option (Qa × (Aa × Unit))} (h1 : p → Qi n x) (h2 : Qi n y) : Qi n (cond (decide p) x y) := by
 by_cases h : p
 ·rw [Ja h]; exact h1 h
 ·rw [Ka h]; exact h2
theorem Io {n m : Int} {c : Qa} (hc : Df c) (hm : 0 < m) {f : (Qa × (Int × Unit)) → Option (Qa × (Aa × Unit))}
 (h : ∀ (c' : Qa) (x : Int), Df c' → 0 ≤ x → x < m → Qi n (f (c', (x, ())))) : Qi n (j4 (Na c m) f) := by
 obtain ⟨c1, x1, e1, h1, b1⟩ := Ee hc m hm
 rw [e1]
 exact h c1 x1 h1 b1.1 b1.2
theorem EN {n m : Int} {c : Qa} (hc : Df c) (hm : 0 < m) {f : (Qa × (Bool × Unit)) → Option (Qa × (Aa × Unit))}
 (h : ∀ (c' : Qa) (x : Bool), Df c' → Qi n (f (c', (x, ())))) : Qi n (j4 (Pe c m) f) := by
 obtain ⟨c1, x1, e1, h1⟩ := Nz hc m hm
 rw [e1]
 exact h c1 x1 h1
theorem OR {c : Qa} {n x : Int} {a0 a1 a2 : Aa} (hc : Df c) (h0 : 0 ≤ x) (h3 : x < 3) (g0 : Bp n a0) (g1 : Bp n a1) (g2 : Bp n a2) :
 Qi n (cond (Ed (ja [a0, a1, a2]) x) (j4 [a0, a1, a2][(jz x)]? fun y => some (c, (y, ()))) none) := by
 have : x = 0 ∨ x = 1 ∨ x = 2 := by omega
 rcases this with rfl | rfl | rfl
 ·exact Km hc g0
 ·exact Km hc g1
 ·exact Km hc g2
theorem OA {c : Qa} (h : Df c) (n : Int) (hn : 1 ≤ n) (hn4 : n ≤ 4) : Qi n (Fm c n) := by
 unfold Fm
 rw [Mb (n := n - 1) (by omega) (by omega)]
 refine Io h (by omega) fun c1 x1 h1 l1 u1 => ?_
 refine Io h1 (by omega) fun c2 x2 h2 l2 u2 => ?_
 refine EN h2 (by omega) fun c3 x3 h3 => ?_
 simp only
 rw [Mb (n := 1 + x1) (by omega) (by omega), Mb (n := 1 + x2) (by omega) (by omega)]
 have tail : ∀ (md : Int), 1 ≤ md → md ≤ 15 → Qi n (j4 (Na c3 (max (1 : Int) (n - 1))) fun r4 =>
  (j4 (Na r4.1 (16 : Int)) fun r5 =>
  (cond (r5.2.1 == (0 : Int)) (some (r5.1, (((2 : Int), (1 + x1), md, (0 : Int), ()), ())))
  (cond (r5.2.1 == (1 : Int)) (some (r5.1, (((2 : Int), (0 : Int), md, (0 : Int), ()), ())))
  (cond (r5.2.1 == (2 : Int)) (some (r5.1, (((6 : Int), (1 + x1), md, (0 : Int), ()), ())))
  (cond (r5.2.1 == (3 : Int)) (some (r5.1, (((6 : Int), (1 + x1), md, (0 : Int), ()), ())))
  (cond (r5.2.1 == (4 : Int)) (some (r5.1, (((8 : Int), (0 : Int), md, (0 : Int), ()), ())))
  (cond (r5.2.1 == (5 : Int)) (j4 (Na r5.1 (4 : Int)) fun r6 => (some (r6.1, (((9 : Int), (0 : Int), (0 : Int), r6.2.1, ()), ()))))
  (cond (r5.2.1 == (6 : Int)) (some (r5.1, (((10 : Int), (0 : Int), (0 : Int), (0 : Int), ()), ())))
  (cond (r5.2.1 == (7 : Int)) (j4 (Na r5.1 (max (1 : Int) n)) fun r7 => (some (r7.1, (((5 : Int), (0 : Int), (0 : Int), r7.2.1, ()), ()))))
  (cond (r5.2.1 == (8 : Int)) (cond (decide (n > (1 : Int))) (j4 (Na r5.1 (3 : Int)) fun r8 => (cond (Ed (ja ([((3 : Int), (0 : Int), (0 : Int), (j5 .i64 ((1 : Int) + r4.2.1)), ()), ((4 : Int), (0 : Int), (0 : Int), (j5 .i64 ((1 : Int) + r4.2.1)), ()), ((7 : Int), (1 + x1), (0 : Int), (j5 .i64 ((1 : Int) + r4.2.1)), ())] : List Aa)) r8.2.1) (j4 ([((3 : Int), (0 : Int), (0 : Int), (j5 .i64 ((1 : Int) + r4.2.1)), ()), ((4 : Int), (0 : Int), (0 : Int), (j5 .i64 ((1 : Int) + r4.2.1)), ()), ((7 : Int), (1 + x1), (0 : Int), (j5 .i64 ((1 : Int) + r4.2.1)), ())] : List Aa)[(jz r8.2.1)]? fun x9 => (some (r8.1, (x9, ())))) none)) (some (r5.1, (((2 : Int), (1 + x1), (0 : Int), (0 : Int), ()), ()))))
  (cond (r5.2.1 == (9 : Int)) (cond (decide (n > (1 : Int))) (j4 (Na r5.1 (3 : Int)) fun r8 => (cond (Ed (ja ([((3 : Int), (0 : Int), (0 : Int), (j5 .i64 ((1 : Int) + r4.2.1)), ()), ((4 : Int), (0 : Int), (0 : Int), (j5 .i64 ((1 : Int) + r4.2.1)), ()), ((7 : Int), (1 + x1), (0 : Int), (j5 .i64 ((1 : Int) + r4.2.1)), ())] : List Aa)) r8.2.1) (j4 ([((3 : Int), (0 : Int), (0 : Int), (j5 .i64 ((1 : Int) + r4.2.1)), ()), ((4 : Int), (0 : Int), (0 : Int), (j5 .i64 ((1 : Int) + r4.2.1)), ()), ((7 : Int), (1 + x1), (0 : Int), (j5 .i64 ((1 : Int) + r4.2.1)), ())] : List Aa)[(jz r8.2.1)]? fun x9 => (some (r8.1, (x9, ())))) none)) (some (r5.1, (((2 : Int), (1 + x1), (0 : Int), (0 : Int), ()), ()))))
  (cond (r5.2.1 == (10 : Int)) (cond (decide (n > (1 : Int))) (j4 (Na r5.1 (3 : Int)) fun r8 => (cond (Ed (ja ([((3 : Int), (0 : Int), (0 : Int), (j5 .i64 ((1 : Int) + r4.2.1)), ()), ((4 : Int), (0 : Int), (0 : Int), (j5 .i64 ((1 : Int) + r4.2.1)), ()), ((7 : Int), (1 + x1), (0 : Int), (j5 .i64 ((1 : Int) + r4.2.1)), ())] : List Aa)) r8.2.1) (j4 ([((3 : Int), (0 : Int), (0 : Int), (j5 .i64 ((1 : Int) + r4.2.1)), ()), ((4 : Int), (0 : Int), (0 : Int), (j5 .i64 ((1 : Int) + r4.2.1)), ()), ((7 : Int), (1 + x1), (0 : Int), (j5 .i64 ((1 : Int) + r4.2.1)), ())] : List Aa)[(jz r8.2.1)]? fun x9 => (some (r8.1, (x9, ())))) none)) (some (r5.1, (((2 : Int), (1 + x1), (0 : Int), (0 : Int), ()), ()))))
  (some (r5.1, (((2 : Int), (1 + x1), (0 : Int), (0 : Int), ()), ())))))))))))))))) := by
  intro md lm um
  refine Io h3 (by omega) fun c4 x4 h4 l4 u4 => ?_
  refine Io h4 (by omega) fun c5 x5 h5 l5 u5 => ?_
  simp only
  rw [Mb (n := 1 + x4) (by omega) (by omega)]
  have last : Qi n (some (c5, (((2 : Int), (1 + x1), (0 : Int), (0 : Int), ()), ()))) := Km h5 (Wi (by unfold Za; omega) (by omega) (by omega))
  have mid : Qi n (cond (decide (n > (1 : Int))) (j4 (Na c5 (3 : Int)) fun r8 => (cond (Ed (ja ([((3 : Int), (0 : Int), (0 : Int), (1 + x4), ()), ((4 : Int), (0 : Int), (0 : Int), (1 + x4), ()), ((7 : Int), (1 + x1), (0 : Int), (1 + x4), ())] : List Aa)) r8.2.1) (j4 ([((3 : Int), (0 : Int), (0 : Int), (1 + x4), ()), ((4 : Int), (0 : Int), (0 : Int), (1 + x4), ()), ((7 : Int), (1 + x1), (0 : Int), (1 + x4), ())] : List Aa)[(jz r8.2.1)]? fun x9 => (some (r8.1, (x9, ())))) none)) (some (c5, (((2 : Int), (1 + x1), (0 : Int), (0 : Int), ()), ())))) := by
   refine TK (fun hn1 => ?_) last
   have hx : 1 + x4 < n := by omega
   refine Io h5 (by omega) fun c6 x6 h6 l6 u6 => ?_
   exact OR h6 l6 u6 (Wi (by unfold Za; omega) (by omega) (by omega)) (Wi (by unfold Za; omega) (by omega) (by omega)) (Wi (by unfold Za; omega) (by omega) (by omega))
  refine Yi (Km h5 (Wi (by unfold Za; omega) (by omega) (by omega))) ?_
  refine Yi (Km h5 (Wi (by unfold Za; omega) (by omega) (by omega))) ?_
  refine Yi (Km h5 (Wi (by unfold Za; omega) (by omega) (by omega))) ?_
  refine Yi (Km h5 (Wi (by unfold Za; omega) (by omega) (by omega))) ?_
  refine Yi (Km h5 (Wi (by unfold Za; omega) (by omega) (by omega))) ?_
  refine Yi (Io h5 (by omega) fun c6 x6 h6 l6 u6 => by simp only; exact Km h6 (Wi (by unfold Za; omega) (by omega) (by omega))) ?_
  refine Yi (Km h5 (Wi (by unfold Za; omega) (by omega) (by omega))) ?_
  refine Yi (Io h5 (by omega) fun c6 x6 h6 l6 u6 => by simp only; exact Km h6 (Wi (by unfold Za; omega) (by omega) (by omega))) ?_
  exact Yi mid (Yi mid (Yi mid last))
 cases x3 with
 | true => exact tail 2 (by omega) (by omega)
 | false => exact tail (1 + x2) (by omega) (by omega)
structure AG (c : Zz) : Prop where
 a : c.1.length ≤ Db
 q : c.2.2.1.length ≤ Db
 e : c.2.2.2.2.2.2.1.length ≤ Db
 r : ∀ x ∈ c.2.2.2.2.2.2.1, x.2.1 ≤ 9223372036854775807
structure AW (x : Zl) : Prop where
 lo : 0 ≤ x.1
 hi : x.1 ≤ 31
 left : 0 ≤ x.2.1
structure QV (b : JP) : Prop where
 d : b.2.1.2.2.2.2.2.1.length ≤ Db
 c : AG b.2.2.1
 x : Ac XL b.2.2.2.1 ≤ Db


def OC (l : List Td) : Nat → List Int
 | 0 => []
 | n + 1 => cond (l.any fun h => h.2.1.2.1 == ((n + 1 : Nat) : Int)) (OC l n ++ [((n + 1 : Nat) : Int)]) (OC l n)
def JR (l : List Td) : Int := Kc (fun _ s (h : Td) => cond (h.2.1.1 == 2 || h.2.1.1 == 8) (Du .i64 s h.2.1.2.2.1) s) 0 0 l
def TN (l : List Td) : Jg := (JR l, OC l 56, ())
def EF (c : Int) : Bool := decide (1 ≤ c ∧ c ≤ 36) || ((c == 39) || (c == 42))
def YQ (f o : Int) (c : Bool) (a : Aa) : Int × Int × Bool × Aa :=
 cond (a.1 == 2) (cond (a.2.1 == 0) (f, o, c, a) (f, 0, c && EF a.2.1, a.1, a.2.1, cond ((c && EF a.2.1) && (decide (a.2.1 ≤ 26) && (Ey .i64 (Du .i64 a.2.2.1 o) 2 == 0))) 2 (Du .i64 a.2.2.1 o), a.2.2.2))
  (cond (a.1 == 4) (Kz .i64 f (Pw .i64 1 a.2.2.2.1), o, c, a) (cond (a.1 == 5) (Ey .i64 (Pw .i64 1 a.2.2.2.1) 1, o, c, a)
   (cond (a.1 == 8) (f, cond (Dr .i64 o a.2.2.1 == a.2.2.1) (Ey .i64 o a.2.2.1) (Du .i64 o a.2.2.1), c, a) (cond (a.1 == 10) (f, o, !c, a) (f, o, c, a)))))
structure IP (nl : Nat) (f o : Int) : Prop where
 f0 : 0 ≤ f
 f1 : f < ((2 ^ nl : Nat) : Int)
 f2 : f.tmod 2 = 0
 o0 : 0 ≤ o
 o1 : o ≤ 15
structure AO (nl : Nat) (a : Aa) : Prop where
 act : Ib a = true
 n1 : a.1 ≠ 1
 n6 : a.1 ≠ 6
 n7 : a.1 ≠ 7
 n : a.1 ≠ 9 → a.2.2.2.1 < (nl : Int)

noncomputable def QT (m : Ca) (f : Int) (k : Nat) : Aa := TJ (WB m.2.1 (HD m (Du .i64 1 f) k) k)
noncomputable def ZV (m : Ca) (f o : Int) (c : Bool) (k : Nat) : Int × Int × Bool × Aa := YQ f o c (QT m f k)
noncomputable def hK (m : Ca) (f o : Int) (c : Bool) (k : Nat) : List Td := [((k : Int), (ZV m f o c k).2.2.2, ())]
structure BW (m : Ca) : Prop where
 v : Ua m = true
 z : Ac Oa m ≤ Db - 10
abbrev St := (Int × Int × Bool) × List Jg
structure FW (m : Ca) (k : Nat) (s : St) : Prop where
 st : IP m.2.1.length s.1.1 s.1.2.1
 len : s.2.length ≤ 2 * k
 rep : ∀ x ∈ s.2, x.2.1.length ≤ 56
end KF
