/- An evaluator of Go functions on plain data, its soundness, and plain laws on what the functions compute, part 3 (conditions: as each lemma tells). -/
import Derived.Test.YthipacpeljffpaaGreatB
import Derived.LoopN
import Derived.ChangeArms
import Derived.ChangeStays
import Derived.ChangeSame
import Derived.WideShapes
import Derived.RowKit
import Derived.Handed
import Derived.JoinedOf
import Derived.Lib.Split
import Derived.Lib.Join
import Derived.Lib.ItoaNum
import Derived.Lib.IndexMore
import Derived.Lib.Bytealg
import Derived.Lib.Atoi
import Derived.Shelf.Sort.Plain
import Derived.Shelf.Slices.In.SortNone2
import Derived.IntWalk
set_option linter.unusedSimpArgs false
set_option linter.unusedVariables false
namespace KF
open Go
open List renaming length → ja, getElem?_eq_getElem → je, append → jf, mem_append → jl, mem_cons → jp, mem_cons_of_mem → jr, length_cons → jw, set → qa, length_nil → qb, mem_singleton → qg, length_append → qh, getD_eq_getElem?_getD → qj, getElem_mem → qt, getElem_of_mem → qu, mem_map → qv, length_drop → qw, ext_getElem? → q0, drop_drop → q7, toArray → q8, getD → q9, getElem?_eq_none → ya, mem_append_left → yb, mem_append_right → yc, any_eq_true → yf, append_assoc → yh, eq_nil_of_length_eq_zero → yj, getElem?_eq_some_iff → yk, drop → yo, replicate → yp, cons_append → yu, map_cons → yw, nodup_cons → yy, nodup_append → yz, flatten_cons → y0, mem_map_of_mem → ze, map_append → zf, all_eq_true → zg, range → zi, append_eq → zv, not_mem_nil → zw, pairwise_append → zx
open Option renaming bind_some → jb, bind → jz, map_some → qf, bind_eq_some_iff → qi, getD_some → yg, map_eq_some_iff → zh
open Option.some renaming injEq → jc
open Bool renaming and_eq_true → jd, not_true → jg, true_and → jk, false_eq_true → jq, not_false → qc, not_eq_true → qd, false_and → qr, eq_iff_iff → qx, or_eq_true → ye, not_eq_true' → yx, or_eq_false_iff → zb, false_or → zd
open Prod.mk renaming injEq → jh
open Nat renaming ble_eq_true_of_le → ji, mul_le_mul_right → jm, le_refl → jo, zero_add → js, add_assoc → jt, eq_of_beq_eq_true → ju, ble → jx, le_trans → qe, shiftLeft_eq → ql, lt_of_lt_of_le → qn, pow_le_pow_right → qo, testBit_xor → qp, testBit_two_pow → qq, xor_lt_two_pow → qs, beq → yd, le_of_ble_eq_true → yi, add_zero → yl, blt → ym, blt_eq → yq, add_mul → yr, one_mul → yt, succ_mul → y3, zero_le → zj, and_le_left → zm, or_lt_two_pow → zn, shiftRight_eq_div_pow → zo, eq_of_testBit_eq → zp, testBit_or → zq, testBit_and → zr, two_pow_pos → zt, testBit_lt_two_pow → zu, testBit → zy
open Int renaming toNat_natCast → jn, eq_ofNat_of_zero_le → jv, toNat → jy, tmod → yn, le_refl → za
open Go.IntKind renaming wrap → j8, wrap → j9
open Sum renaming elim_inl → qm
open Result renaming andThen_ok → qy
open Sem renaming run_bind → qz
open List.cons renaming injEq → yv
open Sum.inl renaming injEq → zk
open Sum.inr renaming injEq → zl
theorem Aat {p q : Nat → Bool} {i : Nat} (hpq : ∀ j, q j = true → p j = true) (hp : p i = true) (hq : q i = false) : ∀ n, i < n → (zi n).countP q < (zi n).countP p := by
 have hle : ∀ n, (zi n).countP q ≤ (zi n).countP p := fun n => List.countP_mono_left fun j _ h => hpq j h
 intro n
 induction n with
 | zero => intro h; omega
 | succ n ih =>
  intro h
  rw [List.range_succ, List.countP_append, List.countP_append]
  by_cases he : i = n
  ·subst he
   have := hle i
   simp [hp, hq]
   omega
  ·have := ih (by omega)
   have h2 : [n].countP q ≤ [n].countP p := List.countP_mono_left fun j _ h => hpq j h
   omega
section
variable {P : Program} {n0 : Nat} {A : Fx} {O0 : Nat → Prop} {w0 : World} {G : Yf} {ops : Array Oper} {s0 : AS} {E : Nat → Ef} {F : Nat → FP} {anc : Nat → List Nat} {H : List Nat} {Q : Exit → Act → World → Prop}
def Yv (listed : Array Bool) (j : Nat) : Bool := listed.getD j false
def R8 (ops : Array Oper) (L : Nat → Bool) : Prop := ∀ j o, ops[j]? = some o → L j = true → ∀ e, e ∈ o.after.toList → Region.binds .any e = true → L e.on = true
theorem QQ (hPM : ∀ m o, ops[m]? = some o → PM G H ops s0 E F anc m o) {L : Nat → Bool} (hc : R8 ops L) : ∀ (b m : Nat), m < b → m < ops.size → L m = true → ∀ x, x ∈ anc m → L x = true
 | 0, _, h, _, _, _, _ => by omega
 | b + 1, m, hb, hm, hL, x, hx => by
  have hom : ops[m]? = some ops[m] := Array.getElem?_eq_getElem hm
  obtain ⟨e, he, hbn, hxe⟩ := (hPM m _ hom).up x hx
  have h1 := hc m _ hom hL e he hbn
  have h2 := (hPM m _ hom).back e he hbn
  rcases hxe with rfl | hxe
  ·exact h1
  ·exact QQ hPM hc b e.on (by omega) (by omega) h1 x hxe
theorem UU {listed : Array Bool} {i : Nat} : i ∈ Region.ready .any ops listed ↔ i < ops.size ∧ listed.getD i true = false ∧ ∃ o, ops[i]? = some o ∧ ∀ e, e ∈ o.after.toList → Region.binds .any e = true → listed.getD e.on false = true := by
 unfold Region.ready
 rw [List.mem_filter, List.mem_range]
 constructor
 ·rintro ⟨h1, h2⟩
  have hom : ops[i]? = some ops[i] := Array.getElem?_eq_getElem h1
  rw [hom] at h2
  simp only [qf, yg, jd, yx] at h2
  refine ⟨h1, h2.1, _, hom, fun e he hb => ?_⟩
  have h3 := h2.2
  rw [Array.all_eq_true'] at h3
  have := h3 e (Array.mem_toList_iff.1 he)
  rw [hb] at this
  simpa using this
 ·rintro ⟨h1, h2, o, ho, h3⟩
  refine ⟨h1, ?_⟩
  rw [ho]
  simp only [qf, yg, jd, yx]
  refine ⟨h2, ?_⟩
  rw [Array.all_eq_true']
  intro e he
  cases hb : Region.binds .any e with
  | false => rfl
  | true => simpa using h3 e (Array.mem_toList_iff.2 he) hb
theorem W0 (hPM : ∀ m o, ops[m]? = some o → PM G H ops s0 E F anc m o) {listed : Array Bool} (hsz : listed.size = ops.size) (hr : Region.ready .any ops listed = []) : ∀ (b j : Nat), j < b → j < ops.size → Yv listed j = true
 | 0, _, h, _ => by omega
 | b + 1, j, hb, hj => by
  by_cases h : Yv listed j = true
  ·exact h
  ·exfalso
   have hom : ops[j]? = some ops[j] := Array.getElem?_eq_getElem hj
   have : j ∈ Region.ready .any ops listed := by
    refine UU.2 ⟨hj, ?_, _, hom, fun e he hbn => ?_⟩
    ·unfold Yv at h
     simp only [qd] at h
     have hjl : j < listed.size := by omega
     simp [Array.getD, hjl] at h ⊢
     exact h
    ·have := (hPM j _ hom).back e he hbn
     exact W0 hPM hsz hr b e.on (by omega) (by omega)
   rw [hr] at this
   simp at this
theorem T9 {op : Op} (h : AH op = true) : UE op = false := by
 cases op <;> first | rfl | simp [AH] at h
theorem U7 {op : Op} (h : Ki op = true) : UE op = false := by
 cases op <;> first | rfl | simp [Ki] at h
theorem Agr.of_stL (hPM : ∀ m o, ops[m]? = some o → PM G H ops s0 E F anc m o) {L : Nat → Bool} (hc : R8 ops L) {i : Nat} {o : Oper} (hi : ops[i]? = some o) (hLi : L i = false)
 (hready : ∀ e, e ∈ o.after.toList → Region.binds .any e = true → L e.on = true) :
 Agr (Te ops E (fun _ => true) s0 i) (Te ops E L s0 ops.size) o ∧ (∀ t, t ∈ (F i).rt → Sb (Te ops E L s0 ops.size).tm t = Sb (Te ops E (fun _ => true) s0 i).tm t) ∧
  (∀ m, m < ops.size → i < m → L m = true → NH (F m) (F i)) := by
 have hin : i < ops.size := (Array.getElem?_eq_some_iff.1 hi).1
 have hF : ∀ m o, ops[m]? = some o → (F m).wt = o.dst ∧ (F m).wi = (E m).2.map (·.1) ∧ (F m).mi = (E m).1.ids ++ Gu (E m).2 := fun m o ho => ⟨(hPM m o ho).fp.wt, (hPM m o ho).fp.wi, (hPM m o ho).fp.mi⟩
 have hgt : ∀ m, m < ops.size → i < m → L m = true → NH (F m) (F i) := by
  intro m hm him hL
  have hom : ops[m]? = some ops[m] := Array.getElem?_eq_getElem hm
  rcases (hPM m _ hom).ind i him with h | h
  ·have := QQ hPM hc (m + 1) m (by omega) hm hL i h
   rw [hLi] at this; simp at this
  ·exact (Eab h).symm
 have hd : ∀ m, m < ops.size → L m ≠ ym m i → NH (F m) (F i) := by
  intro m hm hne
  rcases Nat.lt_trichotomy m i with h | h | h
  ·have hb : ym m i = true := by rw [yq]; exact h
   have hL : L m = false := by
    rw [hb] at hne
    simpa using hne
   rcases (hPM i _ hi).ind m h with h' | h'
   ·exfalso
    obtain ⟨e, he, hbn, hxe⟩ := (hPM i _ hi).up m h'
    have h1 := hready e he hbn
    rcases hxe with rfl | hxe
    ·rw [hL] at h1; simp at h1
    ·have h2 := (hPM i _ hi).back e he hbn
     have := QQ hPM hc (e.on + 1) e.on (by omega) (by omega) h1 m hxe
     rw [hL] at this; simp at this
   ·exact Eab h'
  ·subst h
   exfalso
   apply hne
   rw [hLi]
   have : ym m m = false := by rw [← qd, yq]; omega
   exact this.symm
  ·have hb : ym m i = false := by
    rw [← qd, yq]; omega
   have hL : L m = true := by
    rw [hb] at hne
    simpa using hne
   exact hgt m hm h hL
 obtain ⟨a1, a2, a3⟩ := T6 (ops := ops) (s0 := s0) (f := F i) hF hd ops.size (jo _)
 have hst : Te ops E (fun j => ym j i) s0 ops.size = Te ops E (fun _ => true) s0 i := by
  rw [OZ (i := i) ops.size (by omega) fun j h1 h2 => by
   show ym j i = false
   rw [← qd, yq]; omega]
  exact YA i fun j hj => ⟨rfl, by rw [yq]; exact hj⟩
 rw [hst] at a1 a2 a3
 have fp := (hPM i _ hi).fp
 refine ⟨⟨fun x hx => Y3 hx fun t ht => a1 t (fp.rt t ht), fun hmv hsp x hx d hd' id hm => a2 id ((fp.ri hmv x hx d hd' id (.inl hm)).resolve_right fun h => by rw [hsp] at h; simp at h),
  fun hsp x hx d hd' id hm => ?_, fun id hid => a3 id (by rw [fp.wt]; exact hid),
  fun hcl hsp x hx bid p hev ρ d hb id hm => a2 id ((fp.ri (T9 hcl) x hx _ hev id (.inr ⟨hcl, by simp only [UK, hb]; exact DL.1 hm⟩)).resolve_right fun h => by rw [hsp] at h; simp at h)⟩, a1, hgt⟩
 rcases fp.ri (U7 hsp) x hx d hd' id (.inl hm) with h | h
 ·rw [a2 id h]
 ·have hh : ∀ j o, ops[j]? = some o → XS H (Te ops E (fun _ => true) s0 j) (E j) := fun j o ho => (hPM j o ho).hard
  rw [NZ ops.size (jo _) (fun j o _ ho => hh j o ho) id h.2, NZ i (Nat.le_of_lt hin) (fun j o _ ho => hh j o ho) id h.2]
theorem IY {s : AS} {dst : Option Tmp} {e : Ef} (hd : ∀ t, dst = some t → t < s.n) {Out : Type} {k : AS → Option Out} : Sg s dst e.1 e.2 k = k (putE s dst e) := by
 cases dst with
 | none => rfl
 | some t =>
  have : ym t s.n = true := by rw [yq]; exact hd t rfl
  simp only [Sg, this, zz, putE]
  rfl
theorem Mau (hG : Dk P A.I G) (hfz : WS G A) (hPM : ∀ m o, ops[m]? = some o → PM G H ops s0 E F anc m o)
 (hQ : ∀ σ φ a w, Bb n0 A O0 w0 (Te ops E (fun _ => true) s0 ops.size) σ φ a w → Q .normal a w) :
 ∀ (fuel : Nat) (listed : Array Bool) (σ : Nat → Value) (φ : Nat → List Nat) (a : Act) (w : World), listed.size = ops.size → (zi ops.size).countP (fun j => !listed.getD j true) ≤ fuel →
  R8 ops (Yv listed) → Bb n0 A O0 w0 (Te ops E (Yv listed) s0 ops.size) σ φ a w → wpAny P .any ops Q fuel listed a w := by
 intro fuel
 have fin' : ∀ (listed : Array Bool) (σ : Nat → Value) (φ : Nat → List Nat) (a : Act) (w : World), listed.size = ops.size → Region.ready .any ops listed = [] →
  Bb n0 A O0 w0 (Te ops E (Yv listed) s0 ops.size) σ φ a w → Q .normal a w := by
  intro listed σ φ a w hsz hr h
  refine hQ σ φ a w ?_
  rw [← YA (L := Yv listed) ops.size fun j hj => ⟨rfl, W0 hPM hsz hr (j + 1) j (by omega) hj⟩]
  exact h
 induction fuel with
 | zero =>
  intro listed σ φ a w hsz hcnt hc h
  have hr : Region.ready .any ops listed = [] := by
   rw [List.eq_nil_iff_forall_not_mem]
   intro i hi
   obtain ⟨h1, h2, _⟩ := UU.1 hi
   have : 0 < (zi ops.size).countP (fun j => !listed.getD j true) := List.countP_pos_iff.2 ⟨i, List.mem_range.2 h1, by rw [h2]; rfl⟩
   omega
  exact ⟨hr, fin' listed σ φ a w hsz hr h⟩
 | succ fuel ih =>
  intro listed σ φ a w hsz hcnt hc h
  refine ⟨fun hr => fin' listed σ φ a w hsz hr h, fun i hi => ?_⟩
  obtain ⟨hin, hun, o, ho, hed⟩ := UU.1 hi
  have hil : i < listed.size := by omega
  have hLi : Yv listed i = false := by
   unfold Yv
   simp [Array.getD, hil] at hun ⊢
   exact hun
  obtain ⟨hag, htm, hgt⟩ := Agr.of_stL hPM hc ho hLi hed
  have pm := hPM i o ho
  have hF : ∀ m o, ops[m]? = some o → (F m).wt = o.dst ∧ (F m).wi = (E m).2.map (·.1) ∧ (F m).mi = (E m).1.ids ++ Gu (E m).2 := fun m o ho => ⟨(hPM m o ho).fp.wt, (hPM m o ho).fp.wi, (hPM m o ho).fp.mi⟩
  have hadd := Cah (s0 := s0) (L := Yv listed) ho hF hLi hgt ops.size hin (jo _)
  have hset : ∀ j, Yv (listed.setIfInBounds i true) j = (Yv listed j || yd j i) := by
   intro j
   unfold Yv
   by_cases hji : j = i
   ·subst hji
    simp [Array.getD, hil]
   ·have hb : yd j i = false := by rw [← qd]; intro e; exact hji (ju e)
    rw [hb, Bool.or_false]
    simp only [Array.getD_eq_getD_getElem?]
    rw [Array.getElem?_setIfInBounds_ne (fun e => hji e.symm)]
  have next : ∀ σ φ a w, Bb n0 A O0 w0 (putE (Te ops E (Yv listed) s0 ops.size) o.dst (E i)) σ φ a w → wpAny P .any ops Q fuel (listed.setIfInBounds i true) a w := by
   intro σ φ a w h
   have h2 := h.eqv hadd
   have h3 : Te ops E (fun j => Yv listed j || yd j i) s0 ops.size = Te ops E (Yv (listed.setIfInBounds i true)) s0 ops.size := YA ops.size fun j _ => ⟨rfl, (hset j).symm⟩
   rw [h3] at h2
   refine ih (listed.setIfInBounds i true) σ φ a w (by simpa using hsz) ?_ ?_ h2
   ·have hlt := Aat (p := fun j => !listed.getD j true) (q := fun j => !(listed.setIfInBounds i true).getD j true) (i := i) ?_ (by simp only [hun, qc]) ?_ ops.size hin
    ·omega
    ·intro j hj
     by_cases hji : j = i
     ·subst hji; simp [hun]
     ·simp only [Array.getD_eq_getD_getElem?] at hj ⊢
      rw [Array.getElem?_setIfInBounds_ne (fun e => hji e.symm)] at hj
      exact hj
    ·simp [Array.getD, hil]
   ·intro j oj hoj hL e he hbn
    rw [hset] at hL ⊢
    cases hLj : Yv listed j with
    | true => rw [hc j oj hoj hLj e he hbn]; rfl
    | false =>
     rw [hLj, zd] at hL
     have := ju hL
     subst this
     rw [ho] at hoj
     simp only [jc] at hoj
     subst hoj
     have := hed e he hbn
     unfold Yv
     rw [this]; rfl
  have hdn : ∀ t, o.dst = some t → t < (Te ops E (Yv listed) s0 ops.size).n := fun t ht => by rw [H3]; exact pm.dst t ht
  have run : XW G (Te ops E (fun _ => true) s0 i) o (E i) → o.wp P a w (wpAny P .any ops Q fuel (listed.setIfInBounds i true)) Q := by
   intro hE
   have hE' := hE.congr hag
   have : Mg G (Te ops E (Yv listed) s0 ops.size) o some = some (putE (Te ops E (Yv listed) s0 ops.size) o.dst (E i)) := by
    unfold Mg
    rw [hE']
    exact IY hdn
   refine Oper.wp_mono ?_ (Iam hG hfz h this)
   rintro a w ⟨s2, σ', φ', h1, h2⟩
   simp only [jc] at h1
   subst h1
   exact next σ' φ' a w h2
  have skp : E i = (.und, []) → wpAny P .any ops Q fuel (listed.setIfInBounds i true) (a.put o.dst undef) w := by
   intro hE
   have := Zag (dst := o.dst) (k := some) (out := putE (Te ops E (Yv listed) s0 ops.size) o.dst (.und, [])) h (IY (e := (.und, [])) hdn)
   obtain ⟨s2, σ', φ', h1, h2⟩ := this
   simp only [jc] at h1
   subst h1
   rw [← hE] at h2
   exact next σ' φ' _ w h2
  have hst := pm.step
  unfold wpOp
  rw [ho]
  simp only []
  unfold DQ at hst
  cases hg : o.guard with
  | none =>
   rw [hg] at hst
   rw [if_pos (by simp [Region.wanted, hg])]
   exact .inl (run hst)
  | some g =>
   obtain ⟨j, want⟩ := g
   rw [hg] at hst
   obtain ⟨t, ht, hst⟩ := hst
   have htr : t ∈ (F i).rt := pm.fp.rg j want t hg ht
   have hlook := htm t htr
   rcases hst with ⟨β, hd, hst⟩ | ⟨hd, hst⟩
   ·rw [hd] at hlook
    have hy := HV h ht hlook
    have hwd : Region.wanted o (yielded ops a.tmps) = (some β == some want) := by simp [Region.wanted, hg, hy]
    rw [hwd]
    by_cases hβ : β = want
    ·subst hβ
     rw [if_pos (by simp)]
     rw [if_pos rfl] at hst
     exact .inl (run hst)
    ·rw [if_neg (by simpa using hβ)]
     rw [if_neg hβ] at hst
     exact skp hst
   ·rw [hd] at hlook
    have hy := QX h ht hlook
    have hwd : Region.wanted o (yielded ops a.tmps) = false := by simp [Region.wanted, hg, hy]
    rw [hwd, if_neg (by simp)]
    exact skp hst
end
structure Ek (s s' : AS) : Prop extends Eqv s s' where
 nw : ∀ id, s'.newOk id = s.newOk id
theorem Ek.refl (s : AS) : Ek s s := ⟨Eqv.refl s, fun _ => rfl⟩
theorem Ek.agr {s s' : AS} (h : Ek s s') (o : Oper) : Agr s s' o :=
 ⟨fun _ hx => Y3 hx fun t _ => h.tm t, fun _ _ _ _ _ _ id _ => h.hp id, fun _ _ _ _ _ id _ => by rw [h.hp id], fun id _ => h.nw id, fun _ _ _ _ _ _ _ _ _ _ id _ => h.hp id⟩
theorem Ek.symm {s s' : AS} (h : Ek s s') : Ek s' s := ⟨h.toEqv.symm, fun id => (h.nw id).symm⟩
theorem Ek.trans {s1 s2 s3 : AS} (h : Ek s1 s2) (h' : Ek s2 s3) : Ek s1 s3 := ⟨h.toEqv.trans h'.toEqv, fun id => (h'.nw id).trans (h.nw id)⟩
theorem Ek.putE {s s' : AS} (h : Ek s s') (dst : Option Tmp) (e : Ef) : Ek (KF.putE s dst e) (KF.putE s' dst e) := by
 refine ⟨⟨h.n, fun t => ?_, fun id => ?_⟩, fun id => ?_⟩
 ·rw [OB, OB, h.tm t]
 ·rw [Zw, Zw, h.hp id]
 ·have e0 := h.nw id
  unfold AS.newOk at e0 ⊢
  simp only [AS.ment, KF.putE, List.any_append] at e0 ⊢
  revert e0
  generalize ((match dst with | some t => [(t, e.1)] | none => []).any fun x => x.2.ment id) = b1
  generalize (e.2.any fun x => (x.2.map (La.ment id)).getD false) = b2
  generalize (s.tm.any fun x => x.2.ment id) = c1
  generalize (s.hp.any fun x => (x.2.map (La.ment id)).getD false) = c2
  generalize (s'.tm.any fun x => x.2.ment id) = d1
  generalize (s'.hp.any fun x => (x.2.map (La.ment id)).getD false) = d2
  generalize ym id 500000 = z
  cases b1 <;> cases b2 <;> cases c1 <;> cases c2 <;> cases d1 <;> cases d2 <;> cases z <;> simp
theorem Ek.refine {s : AS} {t : Nat} {β : Bool} (hd : Sb s.tm t = some (.t .b β)) : Ek s ⟨s.n, (t, .t .b β) :: s.tm, s.hp⟩ := by
 refine ⟨⟨rfl, fun t' => ?_, fun _ => rfl⟩, fun id => ?_⟩
 ·rw [Id]
  split
  ·rename_i e; subst e; exact hd.symm
  ·rfl
 ·simp [AS.newOk, AS.ment, D.ment]
theorem O9 {s s' : AS} (h : ∀ j, s'.heap j = s.heap j) (d : D) : UK s d = UK s' d := by
 cases d with
 | ptr id p => simp only [UK, h id]
 | _ => rfl
def Aax (s : AS) (u : List (Nat × Option La)) : Prop := u = [] ∨ ∃ id b tl, u = (id, some b) :: tl ∧ (s.heap id).map La.kind = some b.kind
theorem L6 {s : AS} {dst : Option Tmp} {τ : Ty} {id i : Nat} {e : Ty} {xs : List (T e)} {k : Nat} {ef : Ef} (hs : (s.heap id).map La.kind = some (none, some (e, ja xs)))
 (h : Zv s dst τ id i e xs k (fun d u => some (d, u)) = some ef) : Aax s ef.2 := by
 unfold Zv at h
 split at h
 ·cases hb : yd i k with
  | false => rw [hb] at h; simp at h
  | true =>
   rw [hb] at h
   simp only [zz, qi] at h
   obtain ⟨x, hx, h⟩ := h
   simp only [Ja, jc] at h
   obtain ⟨_, rfl⟩ := h
   exact .inr ⟨id, _, _, rfl, hs⟩
 ·simp at h
theorem Vaj {α : Type} {c : Bool} {a b : Option α} {x : α} (h : (bif c then a else b) = some x) : a = some x ∨ b = some x := by cases c <;> simp_all
theorem GaB {G : Yf} {s : AS} {o : Oper} {ef : Ef} (hk : EW o.op = true) (h : Zb G s o (fun d u => some (d, u)) = some ef) : Aax s ef.2 := by
 cases ho : o.op with
 | load t x =>
  simp only [Zb, ho] at h
  split at h
  ·split at h
   ·split at h
    ·split at h
     ·simp only [jc] at h; rw [← h]; exact .inl rfl
     ·simp at h
    ·simp at h
   ·simp at h
  ·split at h
   ·simp only [jc] at h; rw [← h]; exact .inl rfl
   ·simp at h
  ·rename_i τ id i path _ _
   cases hml : Nak G o.dst with
   | true =>
    rw [hml] at h
    simp only [zz] at h
    split at h
    ·rename_i hb hz; exact L6 (by rw [hb]; rfl) h
    ·rename_i hb hz; exact L6 (by rw [hb]; rfl) h
    ·simp at h
   | false =>
    rw [hml] at h
    simp only [ua] at h
    split at h
    ·rename_i e dp xs hb
     simp only [qi] at h
     obtain ⟨x, hx, h⟩ := h
     split at h
     ·split at h
      ·rcases Vaj h with h | h
       ·simp only [jc] at h; rw [← h]; exact .inl rfl
       ·split at h
        ·simp only [Ja, jc] at h
         obtain ⟨_, rfl⟩ := h
         exact .inr ⟨id, _, _, rfl, by rw [hb]; rfl⟩
        ·simp at h
      ·simp at h
     ·simp at h
    ·simp at h
  ·simp at h
 | store t x v =>
  simp only [Zb, ho] at h
  split at h
  ·rename_i τ id path dv _ _ _
   split at h
   ·rename_i ρ d hb
    split at h
    ·split at h
     ·simp only [Ja, jc] at h
      obtain ⟨_, rfl⟩ := h
      exact .inr ⟨id, _, _, rfl, by rw [hb]; rfl⟩
     ·simp at h
    ·simp at h
   ·simp at h
  ·rename_i τ id i path dv _ _ _
   split at h
   ·rename_i e dp xs hb
    split at h
    ·split at h
     ·cases hc : (dp || e.flat) with
      | true =>
       rw [hc] at h
       simp only [zz] at h
       split at h
       ·simp only [Ja, qi] at h
        obtain ⟨_, x, hx, h⟩ := h
        split at h
        ·simp only [jc] at h; rw [← h]
         exact .inr ⟨id, _, _, rfl, by rw [hb]; simp [La.kind]⟩
        ·simp at h
       ·simp at h
      | false =>
       rw [hc] at h
       simp only [ua] at h
       split at h
       ·simp only [qi] at h
        obtain ⟨x, hx, h⟩ := h
        split at h
        ·simp only [jc] at h; rw [← h]
         exact .inr ⟨id, _, _, rfl, by rw [hb]; simp [La.kind]⟩
        ·simp at h
       ·simp at h
     ·simp at h
    ·simp at h
   ·rename_i e xs i0 x path0 τ0 d0 hb
    split at h
    ·split at h
     ·split at h
      ·simp only [Ja] at h
       obtain ⟨_, _, h⟩ := h
       split at h
       ·simp only [jc] at h; rw [← h]
        exact .inr ⟨id, _, _, rfl, by rw [hb]; simp [La.kind]⟩
       ·simp at h
      ·simp at h
     ·simp at h
    ·simp at h
   ·simp at h
  ·simp at h
 | _ => rw [ho] at hk; simp [EW] at hk
theorem C4 {G : Yf} {s : AS} {o : Oper} {ef : Ef} {H : List Nat} (h : XW G s o ef) (hb : S1 H o.op ef.2 = true) : XS H s ef := by
 intro id hid hm
 unfold S1 at hb
 split at hb
 ·simp at hid
 ·cases hk : EW o.op with
  | false =>
   rw [hk] at hb
   simp only [ua, yx] at hb
   exact absurd hm (VC hb id hid)
  | true =>
   rw [hk] at hb
   simp only [zz, yx] at hb
   have hkp := GaB hk (h _ fun d u => some (d, u))
   rcases hkp with h0 | ⟨id0, b, tl, h0, h1⟩
   ·rw [h0] at hm; simp at hm
   ·rw [h0] at hm hb ⊢
    rcases jp.1 hm with e | hm
    ·subst e
     simp only [Id, if_true, Option.join_some, qf]
     exact h1.symm
    ·exact absurd hm (VC hb id hid)
theorem L2 {H : List Nat} {x : Nat} : ∀ {l : List Nat}, x ∈ l → x ∈ MU H l ∨ x ∈ H
 | y :: l, h => by
  simp only [MU]
  rcases jp.1 h with e | h
  ·subst e
   cases hm : VF H x with
   | true => exact .inr (UR.1 hm)
   | false => exact .inl (by simp)
  ·refine (L2 h).imp (fun h => ?_) id
   cases VF H y with
   | true => exact h
   | false => exact jr _ h
theorem G6 {s : AS} {c : Bool} : ∀ {l : List Operand} {x : Operand} {d : D} {id : Nat}, x ∈ l → s.ev x = some d → (d.ment id = true ∨ (c = true ∧ id ∈ UK s d)) → id ∈ VM s c l
 | [], _, _, _, h, _, _ => by simp at h
 | y :: l, x, d, id, h, hd, hm => by
  rcases jp.1 h with e | h
  ·subst e
   simp only [VM, hd]
   refine yb _ (jl.2 ?_)
   refine hm.imp DL.1 ?_
   rintro ⟨rfl, h⟩
   exact h
  ·have ih := G6 h hd hm
   simp only [VM]
   split
   ·exact yc _ ih
   ·exact ih
section
variable {P : Program} {n0 : Nat} {A : Fx} {O0 : Nat → Prop} {w0 : World} {G : Yf} {ops : Array Oper} {s0 : AS} {E : Nat → Ef} {F : Nat → FP} {anc : Nat → List Nat} {H : List Nat} {Q : Exit → Act → World → Prop}
variable {Out : Type} {k : AS → Option Out} {out : Out}
theorem PM.congr {E' : Nat → Ef} {F' : Nat → FP} {anc' : Nat → List Nat} {m : Nat} {o : Oper} (h : PM G H ops s0 E F anc m o) (hE : ∀ j, j ≤ m → E j = E' j ∧ F j = F' j ∧ anc j = anc' j) : PM G H ops s0 E' F' anc' m o := by
 have hst : Te ops E (fun _ => true) s0 m = Te ops E' (fun _ => true) s0 m := YA m fun j hj => ⟨(hE j (by omega)).1, rfl⟩
 obtain ⟨e1, e2, e3⟩ := hE m (jo _)
 refine ⟨by rw [← hst, ← e1]; exact h.step, by rw [← hst, ← e1, ← e2]; exact h.fp, h.dst, h.back, ?_, ?_, by rw [← hst, ← e1]; exact h.hard⟩
 ·intro x hx
  rw [← e3] at hx
  obtain ⟨e, he, hb, hxe⟩ := h.up x hx
  refine ⟨e, he, hb, hxe.imp id fun hxe => ?_⟩
  rw [← (hE e.on (Nat.le_of_lt (h.back e he hb))).2.2]
  exact hxe
 ·intro j hj
  rw [← e3, ← e2, ← (hE j (by omega)).2.1]
  exact h.ind j hj
theorem S0 : ∀ {r l : List Nat} {x : Nat}, x ∈ Q0 r l → x ∈ r ∨ x ∈ l
 | [], _, _, h => .inr h
 | y :: r, l, x, h => by
  simp only [Q0] at h
  rcases S0 h with h | h
  ·exact .inl (jr _ h)
  ·cases hm : VF l y with
   | true => rw [hm] at h; exact .inr h
   | false =>
    rw [hm] at h
    rcases jp.1 h with h | h
    ·exact .inl (by rw [h]; simp)
    ·exact .inr h
theorem AT {prev : List (Nat × (List Nat × FP))} : ∀ {es : List Edge} {l : List Nat} {x : Nat}, x ∈ UV prev es l → x ∈ l ∨ ∃ e, e ∈ es ∧ Region.binds .any e = true ∧ (x = e.on ∨ ∃ p, Sb prev e.on = some p ∧ x ∈ p.1)
 | [], l, x, h => .inl h
 | e :: es, l, x, h => by
  simp only [UV] at h
  cases hb : Region.binds .any e with
  | false =>
   rw [hb] at h
   rcases AT h with h | ⟨e', he', hb', hx⟩
   ·exact .inl h
   ·exact .inr ⟨e', jr _ he', hb', hx⟩
  | true =>
   rw [hb] at h
   rcases AT h with h | ⟨e', he', hb', hx⟩
   ·rcases S0 h with h | h
    ·refine .inr ⟨e, by simp, hb, ?_⟩
     rcases jp.1 h with h | h
     ·exact .inl h
     ·split at h
      ·rename_i a f hp; exact .inr ⟨_, hp, h⟩
      ·simp at h
    ·exact .inl h
   ·exact .inr ⟨e', jr _ he', hb', hx⟩
theorem Fah : ∀ (l : List Oper) (i : Nat) (prev : List (Nat × (List Nat × FP))) (s : AS) (E : Nat → Ef) (F : Nat → FP) (anc : Nat → List Nat), ops.toList.drop i = l → EF G H ops l i prev s k = some out →
 Ek (Te ops E (fun _ => true) s0 i) s → (∀ j, j < i → Sb prev j = some (anc j, F j)) → (∀ m o, m < i → ops[m]? = some o → PM G H ops s0 E F anc m o) →
 ∃ E F anc, (∀ m o, ops[m]? = some o → PM G H ops s0 E F anc m o) ∧ ∃ sf, k sf = some out ∧ Eqv (Te ops E (fun _ => true) s0 ops.size) sf
 | [], i, prev, s, E, F, anc, hl, he, hs, hprev, hPM => by
  have hi : ops.size ≤ i := by
   have := congrArg ja hl
   simp at this
   omega
  have hst : Te ops E (fun _ => true) s0 i = Te ops E (fun _ => true) s0 ops.size := by
   clear hs he hl hprev hPM
   induction i with
   | zero =>
    have : ops.size = 0 := by omega
    rw [this]
   | succ i ih =>
    by_cases h : ops.size = i + 1
    ·rw [h]
    ·rw [← ih (by omega)]
     have : ops[i]? = none := Array.getElem?_eq_none (by omega)
     simp only [Te, this]
  refine ⟨E, F, anc, fun m o ho => hPM m o ?_ ho, s, he, by rw [← hst]; exact hs.toEqv⟩
  have := (Array.getElem?_eq_some_iff.1 ho).1
  omega
 | o :: l, i, prev, s, E, F, anc, hl, he, hs, hprev, hPM => by
  have hi : i < ops.size := by
   have := congrArg ja hl
   simp at this
   omega
  have hoi : ops[i]? = some o := by
   have h1 := congrArg (·[0]?) hl
   simpa using h1
  have hl' : ops.toList.drop (i + 1) = l := by
   have h1 := congrArg (yo 1) hl
   simpa [q7, Nat.add_comm] using h1
  have next : ∀ (an : List Nat) (f : FP) (e : Ef) (sx : AS), an = UV prev o.after.toList [] → (∀ e, e ∈ o.after.toList → Region.binds .any e = true → e.on < i) → VI an f prev = true → Ek s sx →
   DQ G ops (Te ops E (fun _ => true) s0 i) o e → Kas H ops (Te ops E (fun _ => true) s0 i) o e f → XS H (Te ops E (fun _ => true) s0 i) e → Sg sx o.dst e.1 e.2 (fun s' => EF G H ops l (i + 1) ((i, (an, f)) :: prev) s' k) = some out →
   ∃ E F anc, (∀ m o, ops[m]? = some o → PM G H ops s0 E F anc m o) ∧ ∃ sf, k sf = some out ∧ Eqv (Te ops E (fun _ => true) s0 ops.size) sf := by
   intro an f e sx han hback hok hsx hstep hfp hhard hfin
   have hdst : ∀ t, o.dst = some t → t < sx.n := by
    intro t ht
    unfold Sg at hfin
    rw [ht] at hfin
    simp only at hfin
    cases hb : ym t sx.n with
    | true => rwa [yq] at hb
    | false => rw [hb] at hfin; simp at hfin
   rw [IY hdst] at hfin
   have hn : sx.n = s0.n := by rw [hsx.n, hs.n, H3]
   have hEi : ∀ j, j < i → E j = (fun j => if j = i then e else E j) j ∧ F j = (fun j => if j = i then f else F j) j ∧ anc j = (fun j => if j = i then an else anc j) j := by
    intro j hj
    have : j ≠ i := by omega
    simp [this]
   have hst : Te ops E (fun _ => true) s0 i = Te ops (fun j => if j = i then e else E j) (fun _ => true) s0 i := YA i fun j hj => ⟨(hEi j hj).1, rfl⟩
   refine Fah l (i + 1) _ _ (fun j => if j = i then e else E j) (fun j => if j = i then f else F j) (fun j => if j = i then an else anc j) hl' hfin ?_ ?_ ?_
   ·have : Te ops (fun j => if j = i then e else E j) (fun _ => true) s0 (i + 1) = putE (Te ops E (fun _ => true) s0 i) o.dst e := by
     rw [hst]
     simp only [Te, hoi, zz, if_true]
    rw [this]
    exact (hs.trans hsx).putE _ _
   ·intro j hj
    rw [Id]
    by_cases hji : i = j
    ·subst hji; simp
    ·have hne : j ≠ i := fun e => hji e.symm
     rw [if_neg hji, hprev j (by omega)]
     simp [hne]
   ·intro m om hm hom
    by_cases hmi : m = i
    ·subst hmi
     rw [hoi] at hom
     simp only [jc] at hom
     subst hom
     refine ⟨?_, ?_, fun t ht => by rw [← hn]; exact hdst t ht, hback, ?_, ?_, by rw [← hst]; simpa using hhard⟩
     ·rw [← hst]; simpa using hstep
     ·rw [← hst]; simpa using hfp
     ·intro x hx
      simp only [if_true] at hx
      rw [han] at hx
      rcases AT hx with hx | ⟨e', he', hb', hx⟩
      ·simp at hx
      ·have hlt := hback e' he' hb'
       refine ⟨e', he', hb', hx.imp id ?_⟩
       rintro ⟨p, hp, hxp⟩
       rw [hprev _ hlt] at hp
       simp only [jc] at hp
       subst hp
       have : e'.on ≠ m := by omega
       simpa [this] using hxp
     ·intro j hj
      have hok' := hok
      unfold VI at hok'
      rw [zg] at hok'
      have hmem := Hz (hprev j hj)
      have h1 := hok' _ hmem
      simp only [ye] at h1
      have hjm : j ≠ m := by omega
      simp only [if_true, hjm, if_false]
      exact h1.imp UR.1 id
    ·exact (hPM m om (by omega) hom).congr fun j hj => hEi j (by omega)
  have hfpOk : ∀ (g : List Nat) (e : Ef), (∀ j want t, o.guard = some (j, want) → (ops[j]?).bind (·.dst) = some t → t ∈ g) → Kas H ops (Te ops E (fun _ => true) s0 i) o e (Z3 H s o g e.1 e.2) := by
   intro g e hg
   refine ⟨rfl, rfl, rfl, fun t ht => yc _ ht, fun j want t hgu ht => yb _ (hg j want t hgu ht), fun hmv x hx d hd id hm => ?_⟩
   have hmem : id ∈ VM s (AH o.op) (Td o.op) := by
    refine G6 hx ?_ (hm.imp (fun h => h) fun h => ⟨h.1, (O9 (fun j => hs.hp j) d) ▸ h.2⟩)
    rw [← hd]
    exact Y3 hx fun t _ => hs.tm t
   show id ∈ (bif UE o.op then [] else bif Ki o.op then _ else _) ∨ _
   rw [hmv]
   cases hsp : Ki o.op with
   | false => exact .inl hmem
   | true => exact (L2 hmem).imp (fun h => h) fun h => ⟨rfl, h⟩
  simp only [EF] at he
  cases hbk : Maj i o.after.toList with
  | false => rw [hbk] at he; simp at he
  | true =>
   rw [hbk] at he
   simp only [zz] at he
   have hback : ∀ e, e ∈ o.after.toList → Region.binds .any e = true → e.on < i := by
    intro e hem hbe
    unfold Maj at hbk
    rw [zg] at hbk
    have := hbk e hem
    rw [hbe] at this
    simp only [jg, zd] at this
    rwa [yq] at this
   have hEff : ∀ (sx : AS) (K : D → List (Nat × Option La) → Option Out), Ek s sx → Zb G sx o K = some out → ∃ e : Ef, K e.1 e.2 = some out ∧ XW G (Te ops E (fun _ => true) s0 i) o e := by
    intro sx K hsx hK
    obtain ⟨d, u, h1, h2⟩ := Pas hK
    refine ⟨(d, u), h1, ?_⟩
    have : XW G sx o (d, u) := h2
    exact this.congr ((hs.trans hsx).symm.agr o)
   cases hg : o.guard with
   | none =>
    rw [hg] at he
    simp only at he
    obtain ⟨e, h1, h2⟩ := hEff s _ (Ek.refl s) he
    simp only [Ja, jd] at h1
    exact next _ _ e s rfl hback h1.1.1 (Ek.refl s) (by unfold DQ; rw [hg]; exact h2) (hfpOk [] e (by intro j want t hgu; rw [hg] at hgu; simp at hgu)) (C4 h2 h1.1.2) h1.2
   | some g =>
    obtain ⟨j, want⟩ := g
    rw [hg] at he
    simp only at he
    split at he
    ·rename_i t ht
     have hgt : ∀ j' want' t', o.guard = some (j', want') → (ops[j']?).bind (·.dst) = some t' → t' ∈ [t] := by
      intro j' want' t' hgu ht'
      rw [hg] at hgu
      simp only [jc, jh] at hgu
      obtain ⟨rfl, rfl⟩ := hgu
      rw [ht] at ht'
      simp only [jc] at ht'
      rw [ht']; simp
     split at he
     ·rename_i β hd
      have hdst : Sb (Te ops E (fun _ => true) s0 i).tm t = some (.t .b β) := by rw [← hs.tm]; exact hd
      have goal1 : ∀ e : Ef, (if β = want then XW G (Te ops E (fun _ => true) s0 i) o e else e = (.und, [])) → DQ G ops (Te ops E (fun _ => true) s0 i) o e := by
       intro e h
       unfold DQ
       rw [hg]
       exact ⟨t, ht, .inl ⟨β, hdst, h⟩⟩
      cases hβ : (show Bool from β) with
      | true =>
       have hβ' : β = true := hβ
       subst hβ'
       simp only [zz] at he
       cases want with
       | true =>
        simp only [zz] at he
        obtain ⟨e, h1, h2⟩ := hEff _ _ (Ek.refine hd) he
        simp only [Ja, jd] at h1
        exact next _ _ e _ rfl hback h1.1.1 (Ek.refine hd) (goal1 e (by rw [if_pos rfl]; exact h2)) (hfpOk [t] e hgt) (C4 h2 h1.1.2) h1.2
       | false =>
        simp only [ua, Ja] at he
        exact next _ _ (.und, []) _ rfl hback he.1 (Ek.refine hd) (goal1 _ (by rw [if_neg (by simp)])) (hfpOk [t] (.und, []) hgt) (by intro id _ hm; simp at hm) he.2
      | false =>
       have hβ' : β = false := hβ
       subst hβ'
       simp only [ua] at he
       cases want with
       | true =>
        simp only [zz, Ja] at he
        exact next _ _ (.und, []) _ rfl hback he.1 (Ek.refine hd) (goal1 _ (by rw [if_neg (by simp)])) (hfpOk [t] (.und, []) hgt) (by intro id _ hm; simp at hm) he.2
       | false =>
        simp only [ua] at he
        obtain ⟨e, h1, h2⟩ := hEff _ _ (Ek.refine hd) he
        simp only [Ja, jd] at h1
        exact next _ _ e _ rfl hback h1.1.1 (Ek.refine hd) (goal1 e (by rw [if_pos rfl]; exact h2)) (hfpOk [t] e hgt) (C4 h2 h1.1.2) h1.2
     ·rename_i hd
      simp only [Ja] at he
      refine next _ _ (.und, []) s rfl hback he.1 (Ek.refl s) ?_ (hfpOk [t] (.und, []) hgt) (by intro id _ hm; simp at hm) he.2
      unfold DQ
      rw [hg]
      exact ⟨t, ht, .inr ⟨by rw [← hs.tm]; exact hd, rfl⟩⟩
     ·simp at he
    ·simp at he
theorem Iag {n j : Nat} : Yv (Array.replicate n false) j = false := by
 unfold Yv
 rw [Array.getD_eq_getD_getElem?, Array.getElem?_replicate]
 split <;> rfl
theorem Kaq (hG : Dk P A.I G) (hfz : WS G A) (hm : P.follows .mixedOrders = true) {id : Nat} {H : List Nat} {draw : Bool} {s : AS} {σ : Nat → Value} {φ : Nat → List Nat} {a : Act} {w : World} (h : Bb n0 A O0 w0 s σ φ a w)
 (he : (bif draw then EF G H ops ops.toList 0 [] s k else OG G id ops ops.toList 0 s k) = some out) (hQ : ∀ a w, Vf n0 A O0 w0 k out a w → Q .normal a w) : (Code.region id ops draw).wp P Q a w := by
 cases draw with
 | false =>
  simp only [ua] at he
  refine wp_region ?_
  have := Tad (P := P) (Q := Q) hG hfz (fun s σ φ a w h1 h2 => hQ a w ⟨s, σ, φ, h1, h2⟩) ops.toList 0 s σ φ a w (by simp) he h
  simpa using this
 | true =>
  simp only [zz] at he
  obtain ⟨E, F, anc, hPM, sf, h1, h2⟩ := Fah (s0 := s) ops.toList 0 [] s (fun _ => (.und, [])) (fun _ => ⟨[], [], none, [], []⟩) (fun _ => []) (by simp) he (Ek.refl s) (by intro j hj; omega) (by intro m o hm; omega)
  refine wp_region_any hm ?_
  refine Mau hG hfz hPM (fun σ φ a w hc => hQ a w ⟨sf, σ, φ, h1, hc.eqv h2⟩) ops.size (Array.replicate ops.size false) σ φ a _ (by simp) ?_ ?_ ?_
  ·have := List.countP_le_length (p := fun j => !(Array.replicate ops.size false).getD j true) (l := zi ops.size)
   simpa using this
  ·intro j o ho hL
   rw [Iag] at hL
   simp at hL
  ·have : Te ops E (Yv (Array.replicate ops.size false)) s ops.size = s := by
    rw [OZ (i := 0) ops.size (zj _) fun j _ _ => Iag]
    rfl
   rw [this]
   exact h.drew
end
theorem Tan {s : AS} : ∀ {td : TD} {d : D} {x : T td.ty} {m : Yk}, Gf s td d = some (x, m) → (Hv td x).isAgg = d.isAgg := by
 intro td
 cases td with
 | data τ =>
  intro d x m h
  simp only [Gf] at h
  split at h
  ·rename_i y hy
   simp only [jc, jh] at h
   obtain ⟨rfl, _⟩ := h
   have hs := (Ai (w := default) (σ := fun _ => undef) (O := fun _ => False) (hp := fun _ => none) hy).1
   rw [hs.isAgg]
   cases τ <;> rfl
  ·simp at h
 | own id e dp =>
  intro d x m h
  cases d <;> simp [Gf] at h <;> rfl
 | ptr id p =>
  intro d x m h
  cases d <;> simp [Gf] at h <;> rfl
 | hol id e p τ td =>
  intro d x m h
  cases d <;> simp [Gf] at h <;> rfl
 | arr id e =>
  intro d x m h
  cases d <;> first | rfl | (simp [Gf] at h; done)
 | mov id e =>
  intro d x m h
  cases d <;> simp [Gf] at h <;> rfl
 | mpo id k v =>
  intro d x m h
  cases d <;> simp [Gf] at h <;> rfl
 | pr a b =>
  intro d x m h
  simp only [Gf] at h
  cases d with
  | t τ v => cases τ <;> simp [D.fst] at h <;> rfl
  | pr u v => rfl
  | _ => simp [D.fst] at h
 | un =>
  intro d x m h
  simp only [Gf] at h
  split at h
  ·rename_i y hy
   have hs := (Ai (w := default) (σ := fun _ => undef) (O := fun _ => False) (hp := fun _ => none) hy).1
   rw [hs.isAgg]
   rfl
  ·simp at h
def IS (m m' : Yk) : Prop := ∀ p, p ∈ m → p ∈ m'
section
variable {w : World} {s : AS} {σ σ' : Nat → Value} {O O' : Nat → Prop} {hp' : Nat → Option La} {m : Yk}
structure TOk (s : AS) (σ σ' : Nat → Value) (hp' : Nat → Option La) (m : Yk) : Prop where
 isS : ∀ j i, (j, some i) ∈ m → σ' j = σ i
 isN : ∀ j, (j, none) ∈ m → σ' j = .slice none 0 0
 isB : ∀ j i ρ d, (j, some i) ∈ m → hp' j = some (.box ρ d) → ∃ d', s.heap i = some (.box ρ d')
 isR : ∀ j i Ia r, (j, some i) ∈ m → hp' j = some Ia → Ia.rowN = some r → ∃ blk', s.heap i = some blk' ∧ blk'.rowN = some r
theorem AW (hT : TOk s σ σ' hp' m) (hO : ∀ b, b < w.heap.size → ¬ O b → ¬ O' b) : ∀ {td : TD} {d : D} {x : T td.ty} {m0 : Yk} {cs : List Value}, Gf s td d = some (x, m0) → IS m0 m → Gb w O s.heap σ d cs →
 Gb w O' hp' σ' (Hv td x) cs := by
 intro td
 induction td with
 | data τ =>
  intro d x m0 cs h hm hr
  simp only [Gf] at h
  split at h
  ·rename_i y hy
   simp only [jc, jh] at h
   obtain ⟨rfl, _⟩ := h
   exact Ta.stable (fun _ _ _ => rfl) hO ((Ai hy).2 _ hr)
  ·simp at h
 | own id' e dp =>
  intro d x m0 cs h hm hr
  cases d with
  | own id =>
   simp only [Gf] at h
   split at h
   ·rename_i e' dp' xs hb
    split at h
    ·rename_i q hq
     subst q
     simp only [Ja] at h
     obtain ⟨_, h⟩ := h
     simp only [jc, jh] at h
     obtain ⟨rfl, rfl⟩ := h
     obtain ⟨v, hcs, h1, hv⟩ := hr
     refine ⟨v, hcs, h1, fun _ _ _ _ => ?_⟩
     rw [hT.isS id' id (hm _ (by simp))]
     exact hv _ _ hb rfl
    ·simp at h
   ·simp at h
  | nil =>
   simp only [Gf, jc, jh] at h
   obtain ⟨rfl, rfl⟩ := h
   simp only [Gb] at hr
   exact ⟨_, hr, rfl, fun _ _ _ _ => (hT.isN id' (hm _ (by simp))).symm⟩
  | _ => simp [Gf] at h
 | mpo id' k v =>
  intro d x m0 cs h hm hr
  cases d with
  | mpo id =>
   simp only [Gf] at h
   split at h
   ·rename_i k' v' xs hb
    split at h
    ·rename_i q1 q2 hq1 hq2
     subst q1
     subst q2
     simp only [jc, jh] at h
     obtain ⟨rfl, rfl⟩ := h
     obtain ⟨u, hcs, h1, hv⟩ := hr
     refine ⟨u, hcs, h1, fun _ _ _ _ => ?_⟩
     rw [hT.isS id' id (hm _ (by simp))]
     exact hv _ _ _ hb
    ·simp at h
   ·simp at h
  | _ => simp [Gf] at h
 | hol id' e p τ td _ =>
  intro d x m0 cs h hm hr
  cases d with
  | own id =>
   simp only [Gf] at h
   split at h
   ·rename_i e' xs i x1 p' τ' d' hb
    split at h
    ·simp only [Ja] at h
     obtain ⟨_, h⟩ := h
     split at h
     ·rename_i y m1 h1
      simp only [Ja] at h
      obtain ⟨_, h⟩ := h
      simp only [jc, jh] at h
      obtain ⟨rfl, rfl⟩ := h
      obtain ⟨v, hcs, h1, hv⟩ := hr
      refine ⟨v, hcs, h1, fun _ _ _ _ => ?_⟩
      rw [hT.isS id' id (hm _ (by simp))]
      exact hv _ _ hb rfl
     ·simp at h
    ·simp at h
   ·simp at h
  | _ => simp [Gf] at h
 | arr id' e =>
  intro d x m0 cs h hm hr
  cases d with
  | eptr id i q =>
   cases i with
   | succ i => simp [Gf] at h
   | zero =>
    cases q with
    | cons _ _ => simp [Gf] at h
    | nil =>
     simp only [Gf] at h
     split at h
     ·rename_i e' xs hb
      split at h
      ·rename_i q hq
       subst q
       simp only [jc, jh] at h
       obtain ⟨rfl, rfl⟩ := h
       obtain ⟨v, hcs, h1, hv⟩ := hr
       refine ⟨v, hcs, h1, fun blk' e2 n2 hb' hr' => ?_⟩
       obtain ⟨blk0, hb0, hr0⟩ := hT.isR id' id blk' _ (hm _ (by simp)) hb' hr'
       rw [hT.isS id' id (hm _ (by simp))]
       exact hv _ _ _ hb0 hr0
      ·simp at h
     ·simp at h
  | _ => simp [Gf] at h
 | mov id' e =>
  intro d x m0 cs h hm hr
  cases d with
  | own id =>
   simp only [Gf] at h
   split at h
   ·rename_i e' xs hb
    split at h
    ·rename_i q hq
     subst q
     simp only [jc, jh] at h
     obtain ⟨rfl, rfl⟩ := h
     obtain ⟨v, hcs, h1, hv⟩ := hr
     refine ⟨v, hcs, h1, fun _ _ _ _ => ?_⟩
     rw [hT.isS id' id (hm _ (by simp))]
     exact hv _ _ hb rfl
    ·simp at h
   ·rename_i e' xs k hb
    split at h
    ·rename_i q hq
     subst q
     simp only [jc, jh] at h
     obtain ⟨rfl, rfl⟩ := h
     obtain ⟨v, hcs, h1, hv⟩ := hr
     refine ⟨v, hcs, h1, fun _ _ _ _ => ?_⟩
     rw [hT.isS id' id (hm _ (by simp))]
     exact hv _ _ hb rfl
    ·simp at h
   ·simp at h
  | _ => simp [Gf] at h
 | ptr id' p =>
  intro d x m0 cs h hm hr
  cases d with
  | ptr id q =>
   simp only [Gf, Ja] at h
   obtain ⟨hpq, h⟩ := h
   simp only [jc, jh] at h
   obtain ⟨_, rfl⟩ := h
   have hpq' : p = q := by simpa using hpq
   subst hpq'
   obtain ⟨v, hcs, h1, hv⟩ := hr
   refine ⟨v, hcs, h1, fun ρ d hb => ?_⟩
   obtain ⟨d', hd'⟩ := hT.isB id' id ρ d (hm _ (by simp)) hb
   rw [hT.isS id' id (hm _ (by simp))]
   exact hv ρ d' hd'
  | _ => simp [Gf] at h
 | pr a b iha ihb =>
  intro d x m0 cs h hm hr
  simp only [Gf] at h
  split at h
  ·rename_i d1 d2 h1 h2
   split at h
   ·rename_i u l v l' h3 h4
    simp only [jc, jh] at h
    obtain ⟨rfl, rfl⟩ := h
    have key : ∃ c1 c2, cs = c1 ++ c2 ∧ Gb w O s.heap σ d1 c1 ∧ Gb w O s.heap σ d2 c2 := by
     cases d with
     | t τ v =>
      cases τ with
      | p t1 t2 =>
       simp only [D.fst, D.snd, jc] at h1 h2
       subst h1; subst h2
       exact hr
      | _ => simp [D.fst] at h1
     | pr d1' d2' =>
      simp only [D.fst, D.snd, jc] at h1 h2
      subst h1; subst h2
      exact hr
     | _ => simp [D.fst] at h1
    obtain ⟨c1, c2, hc, r1, r2⟩ := key
    exact ⟨c1, c2, hc, iha h3 (fun p hp => hm p (yb _ hp)) r1, ihb h4 (fun p hp => hm p (yc _ hp)) r2⟩
   ·simp at h
  ·simp at h
 | un =>
  intro d x m0 cs h hm hr
  simp only [Gf] at h
  split at h
  ·rename_i y hy
   exact (Ai hy).2 _ hr
  ·simp at h
theorem Iat (hT : TOk s σ σ' hp' m) (hO : ∀ b, b < w.heap.size → ¬ O b → ¬ O' b) {td : TD} {d : D} {x : T td.ty} {m0 : Yk} {v : Value} (h : Gf s td d = some (x, m0)) (hm : IS m0 m) (hr : Pd w O s.heap σ d v) :
 Pd w O' hp' σ' (Hv td x) v := by
 have hne : Pf w O s.heap σ d v := by
  cases d with
  | und => cases td <;> simp [Gf, Bk, D.fst] at h
  | anyv => cases td <;> simp [Gf, Bk, D.fst] at h
  | tup ds => cases td <;> simp [Gf, Bk, D.fst] at h
  | _ => exact hr
 refine HA ?_
 unfold Pf at hne ⊢
 rw [Tan h]
 split
 ·rename_i ha
  rw [if_pos ha] at hne
  obtain ⟨cs, h1, h2⟩ := hne
  exact ⟨cs, h1, AW hT hO h hm h2⟩
 ·rename_i ha
  rw [if_neg ha] at hne
  exact AW hT hO h hm hne
def Y7 (s : AS) (m : Yk) (j : Nat) (Ia : La) : Prop :=
 ((j, none) ∈ m ∧ ∃ e dp, Ia = .row e dp ([] : List (T e))) ∨
 ∃ i, (j, some i) ∈ m ∧ ((∃ e dp dp' xs, Ia = .row e dp xs ∧ s.heap i = some (.row e dp' xs) ∧ (dp' = dp ∨ e.flat = true)) ∨
  (∃ ρ d td x m0, Ia = .box ρ (Hv td x) ∧ s.heap i = some (.box ρ d) ∧ Gf s td d = some (x, m0) ∧ IS m0 m ∧ Kb ρ (Hv td x)) ∨
  (∃ e xs k x p τ d td y m0, Ia = .hol e xs k x p τ (Hv td y) ∧ s.heap i = some (.hol e xs k x p τ d) ∧ Gf s td d = some (y, m0) ∧ IS m0 m ∧ Kb τ (Hv td y)) ∨
  (∃ e xs k, Ia = .mov e xs k ∧ (s.heap i = some (.mov e xs k) ∨ (s.heap i = some (.row e true xs) ∧ k = 0))) ∨
  ∃ k v xs, Ia = .mp k v xs ∧ s.heap i = some (.mp k v xs))
theorem NX : ∀ {td : TD} {d : D} {x : T td.ty} {m0 : Yk}, Gf s td d = some (x, m0) → IS m0 m → ∀ p, p ∈ PB td x → ∃ Ia, p.2 = some Ia ∧ Y7 s m p.1 Ia := by
 intro td
 induction td with
 | own id' e dp =>
  intro d x m0 h hm p hp
  simp only [PB, qg] at hp
  subst hp
  cases d with
  | own id =>
   simp only [Gf] at h
   split at h
   ·rename_i e' dp' xs hb
    split at h
    ·rename_i q hq
     subst q
     simp only [Ja] at h
     obtain ⟨hc, h⟩ := h
     simp only [jc, jh] at h
     obtain ⟨rfl, rfl⟩ := h
     refine ⟨_, rfl, .inr ⟨id, hm _ (by simp), .inl ⟨_, dp, dp', _, rfl, hb, ?_⟩⟩⟩
     simpa using hc
    ·simp at h
   ·simp at h
  | nil =>
   simp only [Gf, jc, jh] at h
   obtain ⟨rfl, rfl⟩ := h
   exact ⟨_, rfl, .inl ⟨hm _ (by simp), e, dp, rfl⟩⟩
  | _ => simp [Gf] at h
 | hol id' e pth τ td ih =>
  intro d x m0 h hm p hp
  cases d with
  | own id =>
   simp only [Gf] at h
   split at h
   ·rename_i e' xs i x1 p' τ' d' hb
    split at h
    ·rename_i q1 q2 hq1 hq2
     subst q1
     obtain rfl := Sf hq2
     simp only [Ja] at h
     obtain ⟨hpp, h⟩ := h
     have hpp : pth = p' := by simpa using hpp
     subst hpp
     split at h
     ·rename_i y m1 h1
      simp only [Ja] at h
      obtain ⟨hsh, h⟩ := h
      simp only [jc, jh] at h
      obtain ⟨rfl, rfl⟩ := h
      simp only [PB] at hp
      rcases jp.1 hp with rfl | hp
      ·exact ⟨_, rfl, .inr ⟨id, hm _ (by simp), .inr (.inr (.inl ⟨_, _, i, _, _, _, d', td, y, m1, by simp only [jn], hb, h1, fun p hp => hm p (jr _ hp), Ao hsh⟩))⟩⟩
      ·exact ih h1 (fun p hp => hm p (jr _ hp)) p hp
     ·simp at h
    ·simp at h
   ·simp at h
  | _ => simp [Gf] at h
 | pr a b iha ihb =>
  intro d x m0 h hm p hp
  simp only [Gf] at h
  split at h
  ·split at h
   ·rename_i u l v l' h3 h4
    simp only [jc, jh] at h
    obtain ⟨rfl, rfl⟩ := h
    simp only [PB] at hp
    rcases jl.1 hp with hp | hp
    ·exact iha h3 (fun p hp => hm p (yb _ hp)) p hp
    ·exact ihb h4 (fun p hp => hm p (yc _ hp)) p hp
   ·simp at h
  ·simp at h
 | arr id' e =>
  intro d x m0 h hm p hp
  simp only [PB, qg] at hp
  subst hp
  cases d with
  | eptr id i q =>
   cases i with
   | succ i => simp [Gf] at h
   | zero =>
    cases q with
    | cons _ _ => simp [Gf] at h
    | nil =>
     simp only [Gf] at h
     split at h
     ·rename_i e' xs hb
      split at h
      ·rename_i q hq
       subst q
       simp only [jc, jh] at h
       obtain ⟨rfl, rfl⟩ := h
       exact ⟨_, rfl, .inr ⟨id, hm _ (by simp), .inl ⟨_, true, true, _, rfl, hb, .inl rfl⟩⟩⟩
      ·simp at h
     ·simp at h
  | _ => simp [Gf] at h
 | mpo id' k v =>
  intro d x m0 h hm p hp
  simp only [PB, qg] at hp
  subst hp
  cases d with
  | mpo id =>
   simp only [Gf] at h
   split at h
   ·rename_i k' v' xs hb
    split at h
    ·rename_i q1 q2 hq1 hq2
     subst q1
     subst q2
     simp only [jc, jh] at h
     obtain ⟨rfl, rfl⟩ := h
     exact ⟨_, rfl, .inr ⟨id, hm _ (by simp), .inr (.inr (.inr (.inr ⟨_, _, _, rfl, hb⟩)))⟩⟩
    ·simp at h
   ·simp at h
  | _ => simp [Gf] at h
 | mov id' e =>
  intro d x m0 h hm p hp
  simp only [PB, qg] at hp
  subst hp
  cases d with
  | own id =>
   simp only [Gf] at h
   split at h
   ·rename_i e' xs hb
    split at h
    ·rename_i q hq
     subst q
     simp only [jc, jh] at h
     obtain ⟨rfl, rfl⟩ := h
     exact ⟨_, rfl, .inr ⟨id, hm _ (by simp), .inr (.inr (.inr (.inl ⟨_, _, 0, rfl, .inr ⟨hb, rfl⟩⟩)))⟩⟩
    ·simp at h
   ·rename_i e' xs k hb
    split at h
    ·rename_i q hq
     subst q
     simp only [jc, jh] at h
     obtain ⟨rfl, rfl⟩ := h
     exact ⟨_, rfl, .inr ⟨id, hm _ (by simp), .inr (.inr (.inr (.inl ⟨_, _, k, by simp only [jn], .inl hb⟩)))⟩⟩
    ·simp at h
   ·simp at h
  | _ => simp [Gf] at h
 | _ => intro d x m0 h hm p hp; simp [PB] at hp
theorem Gae : ∀ {l : List (Tmp × TD)} {x : T (KC.tyT l)} {m0 : Yk}, Aak s l = some (x, m0) → IS m0 m →
 (∀ t d', Sb (A2 l x) t = some d' → ∃ td d y m1, Sb s.tm t = some d ∧ Gf s td d = some (y, m1) ∧ IS m1 m ∧ d' = Hv td y) ∧ (∀ p, p ∈ W2 l x → ∃ Ia, p.2 = some Ia ∧ Y7 s m p.1 Ia)
 | [], x, m0, h, hm => ⟨by simp [A2, Sb], by simp [W2]⟩
 | (t0, td) :: r, x, m0, h, hm => by
  simp only [Aak] at h
  split at h
  ·rename_i d hd
   split at h
   ·rename_i y m1 z m2 h1 h2
    simp only [jc, jh] at h
    obtain ⟨rfl, rfl⟩ := h
    have hm1 : IS m1 m := fun p hp => hm p (yb _ hp)
    obtain ⟨i1, i2⟩ := Gae h2 (fun p hp => hm p (yc _ hp))
    refine ⟨fun t d' ht => ?_, fun p hp => ?_⟩
    ·simp only [A2] at ht
     rw [Id] at ht
     split at ht
     ·rename_i e
      subst e
      simp only [jc] at ht
      exact ⟨td, d, y, m1, hd, h1, hm1, ht.symm⟩
     ·exact i1 t d' ht
    ·simp only [W2] at hp
     rcases jl.1 hp with hp | hp
     ·exact NX h1 hm1 p hp
     ·exact i2 p hp
   ·simp at h
  ·simp at h
theorem Fae : ∀ {l : List (Nat × Ty × TD)} {x : T (KC.tyB l)} {m0 m' : Yk}, Laa s l m0 = some (x, m') → IS m' m →
 IS m0 m ∧ ∀ p, p ∈ Z1 l x → ∃ Ia, p.2 = some Ia ∧ Y7 s m p.1 Ia
 | [], x, m0, m', h, hm => by
  simp only [Laa, jc, jh] at h
  obtain ⟨_, rfl⟩ := h
  exact ⟨hm, by simp [Z1]⟩
 | (id', ρ, td) :: r, x, m0, m', h, hm => by
  simp only [Laa] at h
  split at h
  ·rename_i id hid
   split at h
   ·rename_i ρ' d hb
    split at h
    ·rename_i q hq
     obtain rfl := q.down
     split at h
     ·rename_i y m1 h1
      simp only [Ja] at h
      obtain ⟨hsh, h⟩ := h
      split at h
      ·rename_i z m2 h2
       simp only [jc, jh] at h
       obtain ⟨rfl, rfl⟩ := h
       obtain ⟨i1, i2⟩ := Fae h2 hm
       have hm0 : IS m0 m := fun p hp => i1 p (yb _ hp)
       have hm1 : IS m1 m := fun p hp => i1 p (yc _ hp)
       refine ⟨hm0, fun p hp => ?_⟩
       simp only [Z1] at hp
       rcases jp.1 hp with rfl | hp
       ·exact ⟨_, rfl, .inr ⟨id, hm0 _ (Hz hid), .inr (.inl ⟨_, d, td, y, m1, rfl, hb, h1, hm1, Ao hsh⟩)⟩⟩
       ·rcases jl.1 hp with hp | hp
        ·exact NX h1 hm1 p hp
        ·exact i2 p hp
      ·simp at h
     ·simp at h
    ·simp at h
   ·simp at h
  ·simp at h
end
theorem BS : ∀ {m : Yk}, BK m = true → ∀ j i, (j, some i) ∈ m → (j < 500000 ∧ i < 500000) ∨ j = i
 | [], _, _, _, h => by simp at h
 | (j0, some i0) :: r, hp, j, i, h => by
  simp only [BK, jd, ye] at hp
  rcases jp.1 h with e | h
  ·simp only [jh, jc] at e
   obtain ⟨rfl, rfl⟩ := e
   rcases hp.1 with h1 | h1
   ·rw [yq, yq] at h1; exact .inl h1
   ·exact .inr (ju h1)
  ·exact BS hp.2 j i h
 | (j0, none) :: r, hp, j, i, h => by
  simp only [BK, jd] at hp
  rcases jp.1 h with e | h
  ·simp at e
  ·exact BS hp.2 j i h
theorem ZR : ∀ {m : Yk}, BK m = true → ∀ j, (j, none) ∈ m → j < 500000
 | [], _, _, h => by simp at h
 | (j0, some i0) :: r, hp, j, h => by
  simp only [BK, jd] at hp
  rcases jp.1 h with e | h
  ·simp at e
  ·exact ZR hp.2 j h
 | (j0, none) :: r, hp, j, h => by
  simp only [BK, jd] at hp
  rcases jp.1 h with e | h
  ·simp only [jh, and_true] at e
   subst e
   have := hp.1
   rwa [yq] at this
  ·exact ZR hp.2 j h
theorem Sag {m : Yk} (h : (m.all fun x => m.all fun y => XI x y) = true) {x y : Nat × Option Nat} (hx : x ∈ m) (hy : y ∈ m) : XI x y = true :=
 zg.1 (zg.1 h x hx) y hy
theorem Nau {m : Yk} (h : (m.all fun x => m.all fun y => XI x y) = true) {j : Nat} {a c : Option Nat} (hx : (j, a) ∈ m) (hy : (j, c) ∈ m) : a = c := by
 have := Sag h hx hy
 unfold XI at this
 cases a with
 | none => cases c with
  | none => rfl
  | some c => simp at this
 | some a => cases c with
  | none => simp at this
  | some c => simpa [Nat.beq_eq] using this
theorem Oau {m : Yk} (h : (m.all fun x => m.all fun y => XI x y) = true) {j j' i : Nat} (hx : (j, some i) ∈ m) (hy : (j', some i) ∈ m) : j = j' := by
 have := Sag h hx hy
 unfold XI at this
 simpa using this
theorem L5 {α : Type} {j : Nat} {a : α} : ∀ {m : List (Nat × α)}, (j, a) ∈ m → ∃ c, Sb m j = some c ∧ (j, c) ∈ m
 | [], h => by simp at h
 | (j0, a0) :: r, h => by
  rw [Id]
  by_cases hj : j0 = j
  ·subst hj; exact ⟨a0, by simp, by simp⟩
  ·rw [if_neg hj]
   rcases jp.1 h with e | h
   ·simp only [jh] at e
    exact absurd e.1.symm hj
   ·obtain ⟨c, h1, h2⟩ := L5 h
    exact ⟨c, h1, jr _ h2⟩
theorem Iz {m : Yk} (h : (m.all fun x => m.all fun y => XI x y) = true) {j : Nat} {a : Option Nat} (hx : (j, a) ∈ m) : Sb m j = some a := by
 obtain ⟨c, h1, h2⟩ := L5 hx
 rw [h1, Nau h hx h2]
section
variable {n0 : Nat} {A : Fx} {O0 : Nat → Prop} {w0 w : World} {s : AS} {σ : Nat → Value} {φ : Nat → List Nat} {a : Act}
theorem DW (h : Bb n0 A O0 w0 s σ φ a w) {p : KC} {x : p.X} (he : ext p s = some x) : ∃ σ' φ', Bb n0 A O0 w0 (ML p x s.n) σ' φ' a w := by
 unfold ext at he
 split at he
 ·rename_i x1 m1 h1
  split at he
  ·rename_i x2 m h2
   simp only [Ja] at he
   obtain ⟨hmo, he⟩ := he
   simp only [jc] at he
   subst he
   simp only [Day, jd] at hmo
   obtain ⟨hn1, hpo⟩ := hmo
   obtain ⟨hm1, hB⟩ := Fae h2 (fun p hp => hp)
   obtain ⟨hT1, hT2⟩ := Gae h1 hm1
   let σ' : Nat → Value := fun j => match Sb m j with
    | some (some i) => σ i
    | some none => .slice none 0 0
    | none => σ j
   let φ' : Nat → List Nat := fun j => match Sb m j with
    | some (some i) => φ i
    | _ => []
   have hσs : ∀ j i, (j, some i) ∈ m → σ' j = σ i ∧ φ' j = φ i := fun j i hj => by
    have := Iz hn1 hj
    simp only [σ', φ', this, and_self]
   have hσn : ∀ j, (j, none) ∈ m → σ' j = .slice none 0 0 ∧ φ' j = [] := fun j hj => by
    have := Iz hn1 hj
    simp only [σ', φ', this, and_self]
   have hent : ∀ j Ia, (ML p (x1, x2) s.n).heap j = some Ia → Y7 s m j Ia := by
    intro j Ia hj
    have hmem := AS.heap_mem hj
    simp only [ML] at hmem
    rcases jl.1 hmem with hmem | hmem
    ·obtain ⟨blk', e, hE⟩ := hT2 _ hmem
     simp only [jc] at e
     subst e
     exact hE
    ·obtain ⟨blk', e, hE⟩ := hB _ hmem
     simp only [jc] at e
     subst e
     exact hE
   have hlive : ∀ j Ia, (ML p (x1, x2) s.n).heap j = some Ia → φ' j = [] ∨ ∃ i blk0, (j, some i) ∈ m ∧ s.heap i = some blk0 ∧ φ' j = φ i := by
    intro j Ia hj
    rcases hent j Ia hj with ⟨hn, _⟩ | ⟨i, hi, ⟨e, dp, dp', xs, _, hb, _⟩ | ⟨ρ, d, td, y, m0, _, hb, _⟩ | ⟨e, xs, k, x, p, τ, d, td, y, m0, _, hb, _⟩ | ⟨e, xs, k, _, hb | ⟨hb, _⟩⟩ | ⟨_, _, _, _, hb⟩⟩
    ·exact .inl (hσn j hn).2
    ·exact .inr ⟨i, _, hi, hb, (hσs j i hi).2⟩
    ·exact .inr ⟨i, _, hi, hb, (hσs j i hi).2⟩
    ·exact .inr ⟨i, _, hi, hb, (hσs j i hi).2⟩
    ·exact .inr ⟨i, _, hi, hb, (hσs j i hi).2⟩
    ·exact .inr ⟨i, _, hi, hb, (hσs j i hi).2⟩
    ·exact .inr ⟨i, _, hi, hb, (hσs j i hi).2⟩
   have hOO : ∀ b, b < w.heap.size → ¬ OO O0 s φ b → ¬ OO O0 (ML p (x1, x2) s.n) φ' b := by
    rintro b _ hno (ho | ⟨j, Ia, hj, hm⟩)
    ·exact hno (.inl ho)
    ·rcases hlive j Ia hj with hφ | ⟨i, blk0, _, hb, hφ⟩
     ·rw [hφ] at hm; simp at hm
     ·rw [hφ] at hm; exact hno (.inr ⟨i, blk0, hb, hm⟩)
   have hTOk : TOk s σ σ' (ML p (x1, x2) s.n).heap m := by
    refine ⟨fun j i hj => (hσs j i hj).1, fun j hj => (hσn j hj).1, fun j i ρ d hj hb => ?_, fun j i Ia r hj hb hr => ?_⟩
    rcases hent j _ hb with ⟨hn, e, dp, hh⟩ | ⟨i', hi', ⟨e, dp, dp', xs, hh, _⟩ | ⟨ρ', d', td, y, m0, hh, hb', _⟩ | ⟨e, xs, k, x, p, τ, d', td, y, m0, hh, _⟩ | ⟨e, xs, k, hh, _⟩ | ⟨_, _, _, hh, _⟩⟩
    ·simp at hh
    ·simp at hh
    ·simp only [La.box.injEq] at hh
     have e1 := Iz hn1 hj
     have e2 := Iz hn1 hi'
     rw [e1] at e2
     simp only [jc] at e2
     subst e2
     exact ⟨d', by rw [hb', hh.1]⟩
    ·simp at hh
    ·simp at hh
    ·simp at hh
    ·have e1 := Iz hn1 hj
     rcases hent j _ hb with ⟨hn, _⟩ | ⟨i', hi', hx⟩
     ·have e2 := Iz hn1 hn
      rw [e1] at e2
      simp at e2
     ·have e2 := Iz hn1 hi'
      rw [e1] at e2
      simp only [jc] at e2
      subst e2
      rcases hx with ⟨e, dp, dp', xs, rfl, hb', _⟩ | ⟨ρ', d', td, y, m0, rfl, _⟩ | ⟨e, xs, k, x, p, τ, d', td, y, m0, rfl, hb', _⟩ | ⟨e, xs, k, rfl, hb' | ⟨hb', _⟩⟩ | ⟨_, _, _, rfl, _⟩
      ·exact ⟨_, hb', hr⟩
      ·simp [La.rowN] at hr
      ·exact ⟨_, hb', hr⟩
      ·exact ⟨_, hb', hr⟩
      ·exact ⟨_, hb', hr⟩
      ·simp [La.rowN] at hr
   refine ⟨σ', φ', h.sz, h.df, ?_, ?_, ?_, ?_, ?_, h.o0, h.fr, ?_, h.iv0, h.ivw⟩
   ·intro t d' hd
    obtain ⟨td, d, y, m0, g1, g2, g3, g4⟩ := hT1 t d' hd
    obtain ⟨v, hv, hr⟩ := h.tm t d g1
    rw [g4]
    exact ⟨v, hv, Iat hTOk hOO g2 g3 hr⟩
   ·intro j Ia hj
    rcases hent j Ia hj with ⟨hn, e, dp, rfl⟩ | ⟨i, hi, ⟨e, dp, dp', xs, rfl, hb, hd⟩ | ⟨ρ, d, td, y, m0, rfl, hb, hex, hsub, hsh⟩ | ⟨e, xs, k, x, p, τ, d, td, y, m0, rfl, hb, hex, hsub, hsh⟩ | ⟨e, xs, k, rfl, hb⟩ | ⟨kk, vv, xs, rfl, hb⟩⟩
    ·rw [Ym, (hσn j hn).1, (hσn j hn).2]
     exact ⟨by simp, .inl ⟨rfl, rfl, rfl⟩⟩
    ·rw [Ym, (hσs j i hi).1, (hσs j i hi).2]
     have hrow := Ym.1 (h.hp i _ hb)
     have hst : ∀ dq, Fk w (OO O0 s φ) dq e xs (σ i) (φ i) → Fk w (OO O0 (ML p (x1, x2) s.n) φ') dq e xs (σ i) (φ i) := by
      rintro dq ⟨hm, g | ⟨bl, off, cap, cur, et, Fs, g1, hh, g2, g3, g4, hF, hel⟩⟩
      ·exact ⟨hm, .inl g⟩
      ·exact ⟨hm, .inr ⟨bl, off, cap, cur, et, Fs, g1, hh, g2, g3, g4, hF, hel.stable (fun _ _ _ => rfl) hOO (fun _ _ => rfl)⟩⟩
     rcases hd with rfl | hf
     ·exact hst _ hrow
     ·have hup := hrow.up
      rw [hf, Bool.or_true] at hup
      cases dp with
      | true => exact hst _ hup
      | false =>
       cases dp' with
       | false => exact hst _ hrow
       | true =>
        have hown := LW (h.hp i _ hb) (.inl rfl)
        exact hst _ (Ym.1 (R4 (O := OO O0 s φ) (hp := s.heap) hown hf))
    ·rw [(hσs j i hi).2]
     obtain ⟨_, b, cur, et, g1, hh, hF, hr, hsz⟩ := h.hp i _ hb
     exact ⟨hsh, b, cur, et, by rw [(hσs j i hi).1]; exact g1, hh, hF, AW hTOk hOO hex hsub hr, hsz⟩
    ·rw [(hσs j i hi).2]
     obtain ⟨_, g1, g2, g3, bl, off, cap, cur, et, g4, g5, g6, g7, hr, hw⟩ := h.hp i _ hb
     refine ⟨hsh, g1, g2, g3, bl, off, cap, cur, et, by rw [(hσs j i hi).1]; exact g4, g5, g6, g7, AW hTOk hOO hex hsub hr, fun w' c' h1 h2 h3 y Fy x' h4 h5 => ?_⟩
     rw [(hσs j i hi).1]
     exact hw w' c' h1 h2 h3 y Fy x' h4 h5
    ·rw [(hσs j i hi).2]
     have hm0 : Hd w (OO O0 s φ) s.heap σ i (.mov e xs k) (φ i) := by
      rcases hb with hb | ⟨hb, rfl⟩
      ·exact h.hp i _ hb
      ·exact Gac (h.hp i _ hb)
     obtain ⟨hlen, ⟨g1, g2, g3⟩ | ⟨bl, off, cap, cur, et, Fs, g1, g⟩⟩ := hm0
     ·exact ⟨hlen, .inl ⟨by rw [(hσs j i hi).1]; exact g1, g2, g3⟩⟩
     ·exact ⟨hlen, .inr ⟨bl, off, cap, cur, et, Fs, by rw [(hσs j i hi).1]; exact g1, g⟩⟩
    ·rw [(hσs j i hi).2]
     obtain ⟨r, es, clk, g1, g2, g3, g4, g5⟩ := h.hp i _ hb
     exact ⟨r, es, clk, by rw [(hσs j i hi).1]; exact g1, g2, g3, ZW (fun _ _ _ => rfl) hOO ⟨g4, g5⟩⟩
   ·intro j Ia hj
    rcases hlive j Ia hj with hφ | ⟨i, blk0, _, hb, hφ⟩
    ·rw [hφ]; exact List.nodup_nil
    ·rw [hφ]; exact h.nodup i blk0 hb
   ·intro j j' Ia blk' hne hj hj' b hb hb'
    rcases hlive j Ia hj with hφ | ⟨i, blk0, hi, hbi, hφ⟩
    ·rw [hφ] at hb; simp at hb
    ·rcases hlive j' blk' hj' with hφ' | ⟨i', blk0', hi', hbi', hφ'⟩
     ·rw [hφ'] at hb'; simp at hb'
     ·rw [hφ] at hb
      rw [hφ'] at hb'
      by_cases hii : i = i'
      ·subst hii
       exact hne (Oau hn1 hi hi')
      ·exact h.disj i i' blk0 blk0' hii hbi hbi' b hb hb'
   ·intro j Ia hj b hb
    rcases hlive j Ia hj with hφ | ⟨i, blk0, _, hbi, hφ⟩
    ·rw [hφ] at hb; simp at hb
    ·rw [hφ] at hb; exact h.fresh i blk0 hbi b hb
   ·intro j v hv
    have hlow := A.low j v hv
    show σ' j = v
    simp only [σ']
    split
    ·rename_i i hg
     rcases BS hpo j i (Hz hg) with ⟨hj, _⟩ | rfl
     ·omega
     ·exact h.pin _ v hv
    ·rename_i hg
     have := ZR hpo j (Hz hg)
     omega
    ·exact h.pin j v hv
  ·simp at he
 ·simp at he
end
def NaF : Ex → Exit
 | .normal => .normal
 | .exit id => .exit id
 | .ret => .ret
def FJ {X R : Type} (step : X → Option (X ⊕ R)) : Nat → X → R → Prop
 | 0, _, _ => False
 | n + 1, x, r => step x = some (.inr r) ∨ ∃ x', step x = some (.inl x') ∧ FJ step n x' r
def Cf : Code → List Code
 | .seq a b => Cf a ++ Cf b
 | .cond _ a b => Cf a ++ Cf b
 | .block _ c => Cf c
 | .loop c => c :: Cf c
 | _ => []
def Za (G : Yf) (L : List (Nat × Sa)) (b : Code) : Prop :=
 ∀ r ls, Ql b = some r → Sb L r = some ls → ∀ x y, ls.F x = some y → ∃ m, FJ (LN G L ls b) m x y
section
variable {P : Program} {n0 : Nat} {A : Fx} {O0 : Nat → Prop} {w0 : World} {G : Yf} {L : List (Nat × Sa)}
theorem I1 (hG : Dk P A.I G) (hfz : WS G A) (hm : P.follows .mixedOrders = true) : ∀ (c : Code), (∀ b, b ∈ Cf c → Za G L b) → ∀ {Out : Type} {k : Ex → AS → Option Out} {out : Out} {s : AS} {σ : Nat → Value} {φ : Nat → List Nat} {a : Act} {w : World} {Q : Exit → Act → World → Prop},
 Dw G L c s k = some out → Bb n0 A O0 w0 s σ φ a w → (∀ e s σ φ a w, k e s = some out → Bb n0 A O0 w0 s σ φ a w → Q (NaF e) a w) → c.wp P Q a w := by
 intro c
 induction c with
 | skip =>
  intro _ Out k out s σ φ a w Q he h hQ
  simp only [Dw] at he
  exact wp_skip (hQ .normal s σ φ a w he h)
 | region id ops draw =>
  intro _ Out k out s σ φ a w Q he h hQ
  simp only [Dw] at he
  split at he
  ·rename_i s1 h1
   obtain ⟨φ1, hc⟩ := PG hfz h h1
   refine Kaq (k := fun s' => match BO G.fz (JS G.att) G.att (1000 * id + 999) s' with
    | some s' => k .normal s'
    | none => none) hG hfz hm hc he fun a w ⟨s', σ', φ', h2, h3⟩ => ?_
   simp only at h2
   split at h2
   ·rename_i s2 h4
    obtain ⟨φ2, hc2⟩ := PG hfz h3 h4
    exact hQ .normal _ σ' φ2 a w h2 hc2
   ·simp at h2
  ·simp at he
 | seq x y ihx ihy =>
  intro hL Out k out s σ φ a w Q he h hQ
  simp only [Dw] at he
  refine wp_seq (ihx (fun b hb => hL b (by simp [Cf, hb])) he h fun e s' σ' φ' a' w' hk h' => ?_)
  cases e with
  | normal => exact ihy (fun b hb => hL b (by simp [Cf, hb])) hk h' hQ
  | exit j => exact hQ (.exit j) s' σ' φ' a' w' hk h'
  | ret => exact hQ .ret s' σ' φ' a' w' hk h'
 | cond x y z ihy ihz =>
  intro hL Out k out s σ φ a w Q he h hQ
  cases x with
  | tmp t =>
   simp only [Dw] at he
   split at he
   ·rename_i β hd
    have hs := h.same hd
    obtain ⟨v, hv, hr⟩ := h.tm t _ hd
    rw [Yj] at hr
    subst hr
    have hev : a.eval (.tmp t) = .bool β := by
     simp only [Act.eval]
     rw [Array.getD_eq_getD_getElem?, hv]
     rfl
    refine wp_cond_split hev (fun hb => ?_) (fun hb => ?_)
    ·subst hb
     simp only [zz] at he
     exact ihy (fun b hb => hL b (by simp [Cf, hb])) he hs hQ
    ·subst hb
     simp only [ua] at he
     exact ihz (fun b hb => hL b (by simp [Cf, hb])) he hs hQ
   ·simp at he
  | const cv =>
   cases cv with
   | bool β =>
    simp only [Dw] at he
    refine wp_cond_split (show a.eval (.const (.bool β)) = .bool β from rfl) (fun hb => ?_) (fun hb => ?_)
    ·subst hb
     simp only [zz] at he
     exact ihy (fun b hb => hL b (by simp [Cf, hb])) he h hQ
    ·subst hb
     simp only [ua] at he
     exact ihz (fun b hb => hL b (by simp [Cf, hb])) he h hQ
   | _ => simp [Dw] at he
  | _ => simp [Dw] at he
 | block id c ih =>
  intro hL Out k out s σ φ a w Q he h hQ
  simp only [Dw] at he
  refine wp_block (ih (fun b hb => hL b (by simpa [Cf] using hb)) he h fun e s' σ' φ' a' w' hk h' => ?_)
  cases e with
  | normal => exact hQ .normal s' σ' φ' a' w' hk h'
  | exit j =>
   simp only [NaF, Exit.inBlock]
   cases hb : yd j id with
   | true =>
    rw [if_pos (ju hb)]
    simp only [hb, zz] at hk
    exact hQ .normal s' σ' φ' a' w' hk h'
   | false =>
    rw [if_neg (fun e => by rw [e, Nat.beq_refl] at hb; simp at hb)]
    simp only [hb, ua] at hk
    exact hQ (.exit j) s' σ' φ' a' w' hk h'
  | ret => exact hQ .ret s' σ' φ' a' w' hk h'
 | exit id =>
  intro _ Out k out s σ φ a w Q he h hQ
  simp only [Dw] at he
  exact wp_exit (hQ (.exit id) s σ φ a w he h)
 | ret =>
  intro _ Out k out s σ φ a w Q he h hQ
  simp only [Dw] at he
  exact wp_ret (hQ .ret s σ φ a w he h)
 | loop c ih =>
  intro hL Out k out s σ φ a w Q he h hQ
  simp only [Dw] at he
  split at he
  ·rename_i r hr
   split at he
   ·rename_i ls hls
    split at he
    ·rename_i x hx
     simp only [Ja] at he
     obtain ⟨hn, he⟩ := he
     have hn := ju hn
     rw [qi] at he
     obtain ⟨y, hy, he⟩ := he
     obtain ⟨m, hit⟩ := hL c (by simp [Cf]) r ls hr hls x y hy
     obtain ⟨σ1, φ1, h1⟩ := DW h hx
     rw [hn] at h1 he
     refine wp_loop_rounds m ?_
     have key : ∀ (m : Nat) (x : ls.inT.X) (σ : Nat → Value) (φ : Nat → List Nat) (a : Act) (w : World), FJ (LN G L ls c) m x y → Bb n0 A O0 w0 (ML ls.inT x ls.n) σ φ a w → Code.rounds P c Q m a w := by
      intro m
      induction m with
      | zero => intro x σ φ a w hit _; exact hit.elim
      | succ m ihm =>
       intro x σ φ a w hit h
       rw [rounds_succ]
       have body : ∀ z, LN G L ls c x = some z → (z = .inr y ∨ ∃ x', z = .inl x' ∧ FJ (LN G L ls c) m x' y) → c.wp P (Exit.then (Code.rounds P c Q m) Q) a w := by
        intro z hz hzy
        unfold LN at hz
        refine ih (fun b hb => hL b (by simp [Cf, hb])) hz h fun e s' σ' φ' a' w' hk h' => ?_
        simp only [Ja] at hk
        obtain ⟨hn', hk⟩ := hk
        have hn' := ju hn'
        cases e with
        | normal =>
         simp only at hk
         split at hk
         ·rename_i x' hx'
          simp only [jc] at hk
          obtain ⟨σ2, φ2, h2⟩ := DW h' hx'
          rw [hn'] at h2
          rcases hzy with hzy | ⟨x'', hzy, hit'⟩
          ·rw [hzy] at hk; simp at hk
          ·rw [hzy] at hk
           simp only [zk] at hk
           subst hk
           exact ihm x' σ2 φ2 a' w' hit' h2
         ·simp at hk
        | exit j =>
         simp only [Ja] at hk
         obtain ⟨hj, hk⟩ := hk
         have hj := ju hj
         split at hk
         ·rename_i y' hy'
          simp only [jc] at hk
          obtain ⟨σ2, φ2, h2⟩ := DW h' hy'
          rw [hn'] at h2
          rcases hzy with hzy | ⟨x'', hzy, _⟩
          ·rw [hzy] at hk
           simp only [zl] at hk
           subst hk
           simp only [qm] at he
           show Q (.exit j) a' w'
           rw [hj]
           exact hQ (.exit ls.exitId) _ σ2 φ2 a' w' he h2
          ·rw [hzy] at hk; simp at hk
         ·simp at hk
        | ret =>
         simp only at hk
         split at hk
         ·rename_i y' hy'
          simp only [jc] at hk
          obtain ⟨σ2, φ2, h2⟩ := DW h' hy'
          rw [hn'] at h2
          rcases hzy with hzy | ⟨x'', hzy, _⟩
          ·rw [hzy] at hk
           simp only [zl] at hk
           subst hk
           simp only [Sum.elim_inr] at he
           exact hQ .ret _ σ2 φ2 a' w' he h2
          ·rw [hzy] at hk; simp at hk
         ·simp at hk
       rcases hit with hit | ⟨x', hit, hit'⟩
       ·exact body _ hit (.inl rfl)
       ·exact body _ hit (.inr ⟨x', rfl, hit'⟩)
     exact key m x σ1 φ1 a w hit h1
    ·simp at he
   ·simp at he
  ·simp at he
 | _ => intros; rename_i he _ _; simp [Dw] at he
end
theorem Od.mono {w : World} {O O' : Nat → Prop} (hO : ∀ b, O' b → O b) : ∀ {rt : Ty} {r : T rt} {fr : List Bool} {vs : List Value} {F : List Nat}, Od w O rt r fr vs F → Od w O' rt r fr vs F
 | .u, _, [], [], _, h => h
 | .p x y, r, f :: fr, v :: vs, F, h => by
  obtain ⟨cs, F1, F2, hv, hF, h1, h2⟩ := h
  refine ⟨cs, F1, F2, hv, hF, ?_, Od.mono hO h2⟩
  cases f with
  | true => exact h1
  | false =>
   simp only [jq, if_false] at h1 ⊢
   exact ⟨h1.1.weaken hO, h1.2⟩
 | .u, _, _ :: _, _, _, h => by simp [Od] at h
 | .u, _, [], _ :: _, _, h => by simp [Od] at h
 | .p _ _, _, [], _, _, h => by simp [Od] at h
 | .p _ _, _, _ :: _, [], _, h => by simp [Od] at h
 | .i _, _, fr, vs, _, h => by simp [Od] at h
 | .b, _, fr, vs, _, h => by simp [Od] at h
 | .o, _, fr, vs, _, h => by simp [Od] at h
 | .mp _ _, _, fr, vs, _, h => by simp [Od] at h
 | .s, _, fr, vs, _, h => by simp [Od] at h
 | .sl _, _, fr, vs, _, h => by simp [Od] at h
section
variable {P : Program} {n0 : Nat} {A : Fx} {O0 : Nat → Prop} {w0 w : World} {s : AS} {σ : Nat → Value} {φ : Nat → List Nat} {a : Act} {G : Yf} {L : List (Nat × Sa)}
def RU (w : World) (O : Nat → Prop) (hp : Nat → Option La) (σ : Nat → Value) : D → List Value → Prop
 | .pr a b, v :: vs => Pd w O hp σ a v ∧ RU w O hp σ b vs
 | .un, [] => True
 | _, _ => False
def VU (tmps : Array Value) : ResultVar → Sem Value
 | .tmp t => pure (tmps.getD t undef)
 | .cell a t => do loadVar t (← asAddr (tmps.getD a undef))
theorem FH (hG : EnvTy P G) (h : Bb n0 A O0 w0 s σ φ a w) : ∀ {rs : List ResultVar} {d : D}, Uy G s rs = some d → ∃ vs, (rs.mapM (VU a.tmps)).run P w = .ok vs w ∧ RU w (OO O0 s φ) s.heap σ d vs
 | [], d, he => by
  simp only [Uy, jc] at he
  subst he
  exact ⟨[], by simp, trivial⟩
 | .tmp t :: r, d, he => by
  simp only [Uy] at he
  split at he
  ·rename_i d1 d2 h1 h2
   simp only [jc] at he
   subst he
   obtain ⟨vs, hvs, hr⟩ := FH hG h h2
   obtain ⟨v, hv, hru⟩ := h.tm t d1 h1
   have hg : a.tmps.getD t undef = v := by rw [Array.getD_eq_getD_getElem?, hv]; rfl
   refine ⟨v :: vs, ?_, hru, hr⟩
   rw [List.mapM_cons]
   simp only [VU, qz, Sem.run_pure, qy, hvs, hg]
  ·simp at he
 | .cell t ty :: r, d, he => by
  simp only [Uy] at he
  split at he
  ·rename_i id d2 h1 h2
   split at he
   ·rename_i ρ d1 τ hb hty
    split at he
    ·rename_i q hq
     obtain rfl := q.down
     simp only [jc] at he
     subst he
     obtain ⟨vs, hvs, hr⟩ := FH hG h h2
     obtain ⟨v, hv, hru⟩ := h.tm t _ h1
     have hg : a.tmps.getD t undef = v := by rw [Array.getD_eq_getD_getElem?, hv]; rfl
     rw [Pr] at hru
     obtain ⟨b, hσ, hv'⟩ := hru.2 _ _ hb
     obtain ⟨hs, b', cur, et, hσ', hh, hF, hrep, hsz⟩ := h.hp id _ hb
     rw [hσ] at hσ'
     simp at hσ'
     subst hσ'
     have hl := Zt (P := P) (hG.ty _ _ hty) (off := 0) hh (by omega)
     have hseg : Ee cur 0 ρ.size = cur.toList := by rw [← hsz]; exact BaC cur
     rw [hseg] at hl
     refine ⟨Oe ρ cur.toList :: vs, ?_, Qr hs hrep, hr⟩
     rw [List.mapM_cons]
     have hoff : Nb ρ [] = 0 := rfl
     rw [hoff] at hv'
     subst hv'
     simp only [VU, qz, Sem.run_pure, qy, hvs, hg, asAddr, hl]
    ·simp at he
   ·simp at he
  ·simp at he
theorem KW (h : Bb n0 A O0 w0 s σ φ a w) : ∀ {rt : Ty} {fr : List Bool} {d : D} {r : T rt} {l : List Nat} {vs : List Value}, Nh s rt fr d = some (r, l) → RU w (OO O0 s φ) s.heap σ d vs →
 Od w (OO O0 s φ) rt r fr vs (Ha φ l) ∧ ∀ j, j ∈ l → ∃ b, s.heap j = some b
 | .u, [], .un, r, l, vs, he, hr => by
  simp only [Nh, jc, jh] at he
  obtain ⟨_, rfl⟩ := he
  cases vs with
  | nil => exact ⟨by simp [Od, Ha], by simp⟩
  | cons v vs => simp [RU] at hr
 | .p x y, f :: fr, .pr d1 d2, r, l, vs, he, hr => by
  cases vs with
  | nil => simp [RU] at hr
  | cons v vs =>
   simp only [Nh] at he
   split at he
   ·rename_i u l1 z l2 h1 h2
    simp only [jc, jh] at he
    obtain ⟨rfl, rfl⟩ := he
    obtain ⟨g1, g2⟩ := KW h h2 hr.2
    cases f with
    | true =>
     simp only [zz] at h1
     obtain ⟨hrep, hv⟩ := Zf (Wl h1) hr.1
     obtain ⟨ho, hl⟩ := Bq h h1 hrep
     refine ⟨⟨_, Ha φ l1, Ha φ l2, hv, Xe, ?_, g1⟩, ?_⟩
     ·simpa using ho
     ·intro j hj
      rcases jl.1 hj with hj | hj
      ·exact hl j hj
      ·exact g2 j hj
    | false =>
     simp only [ua] at h1
     split at h1
     ·rename_i u' hu
      simp only [jc, jh] at h1
      obtain ⟨rfl, rfl⟩ := h1
      obtain ⟨hs, hvw⟩ := Ai (w := w) (O := OO O0 s φ) (hp := s.heap) (σ := σ) hu
      obtain ⟨hrep, hv⟩ := Zf hs hr.1
      refine ⟨⟨_, [], Ha φ l2, hv, by simp [Ha], ?_, g1⟩, by simpa using g2⟩
      simpa using hvw _ hrep
     ·simp at h1
   ·simp at he
 | .u, _ :: _, d, _, _, _, he, _ => by cases d <;> simp [Nh] at he
 | .u, [], .und, _, _, _, he, _ => by simp [Nh] at he
 | .u, [], .anyv, _, _, _, he, _ => by simp [Nh] at he
 | .u, [], .mpo _, _, _, _, he, _ => by simp [Nh] at he
 | .u, [], .t _ _, _, _, _, he, _ => by simp [Nh] at he
 | .u, [], .nil, _, _, _, he, _ => by simp [Nh] at he
 | .u, [], .own _, _, _, _, he, _ => by simp [Nh] at he
 | .u, [], .ptr _ _, _, _, _, he, _ => by simp [Nh] at he
 | .u, [], .eptr _ _ _, _, _, _, he, _ => by simp [Nh] at he
 | .u, [], .rp _ _, _, _, _, he, _ => by simp [Nh] at he
 | .u, [], .pr _ _, _, _, _, he, _ => by simp [Nh] at he
 | .u, [], .tup _, _, _, _, he, _ => by simp [Nh] at he
 | .p _ _, [], d, _, _, _, he, _ => by cases d <;> simp [Nh] at he
 | .p _ _, _ :: _, .und, _, _, _, he, _ => by simp [Nh] at he
 | .p _ _, _ :: _, .anyv, _, _, _, he, _ => by simp [Nh] at he
 | .p _ _, _ :: _, .mpo _, _, _, _, he, _ => by simp [Nh] at he
 | .p _ _, _ :: _, .t _ _, _, _, _, he, _ => by simp [Nh] at he
 | .p _ _, _ :: _, .nil, _, _, _, he, _ => by simp [Nh] at he
 | .p _ _, _ :: _, .own _, _, _, _, he, _ => by simp [Nh] at he
 | .p _ _, _ :: _, .ptr _ _, _, _, _, he, _ => by simp [Nh] at he
 | .p _ _, _ :: _, .eptr _ _ _, _, _, _, he, _ => by simp [Nh] at he
 | .p _ _, _ :: _, .rp _ _, _, _, _, he, _ => by simp [Nh] at he
 | .p _ _, _ :: _, .un, _, _, _, he, _ => by simp [Nh] at he
 | .p _ _, _ :: _, .tup _, _, _, _, he, _ => by simp [Nh] at he
 | .i _, fr, d, _, _, _, he, _ => by cases fr <;> cases d <;> simp [Nh] at he
 | .b, fr, d, _, _, _, he, _ => by cases fr <;> cases d <;> simp [Nh] at he
 | .o, fr, d, _, _, _, he, _ => by cases fr <;> cases d <;> simp [Nh] at he
 | .mp _ _, fr, d, _, _, _, he, _ => by cases fr <;> cases d <;> simp [Nh] at he
 | .s, fr, d, _, _, _, he, _ => by cases fr <;> cases d <;> simp [Nh] at he
 | .sl _, fr, d, _, _, _, he, _ => by cases fr <;> cases d <;> simp [Nh] at he
theorem AI {fn : Func} {vs : List Value} (h : (fn.results.toList.mapM (VU a.tmps)).run P w = .ok vs w) : (results fn a.tmps).run P w = .ok (JJ vs) w := by
 unfold results
 rw [Array.mapM_eq_mapM_toList]
 simp only [map_eq_pure_bind, bind_assoc, pure_bind, qz, Sem.run_pure]
 show (Sem.run P (List.mapM (VU a.tmps) fn.results.toList) w).andThen (fun vs w' => Result.ok (if h : vs.toArray.size = 1 then vs.toArray[0] else Value.tuple vs.toArray) w') = _
 rw [h]
 simp only [qy]
 congr 1
 cases vs with
 | nil => rfl
 | cons v vs => cases vs <;> rfl
end
def Ty.npar : Ty → Nat
 | .p _ y => y.npar + 1
 | _ => 0
theorem WN {w : World} {O : Nat → Prop} : ∀ {pt : Ty} {x : T pt} {args : List Value}, Xh w O pt x args → args.length = pt.npar
 | .u, _, [], _ => rfl
 | .p x y, v, a :: r, h => by simp [Ty.npar, WN h.2]
 | .u, _, _ :: _, h => by simp [Xh] at h
 | .p _ _, _, [], h => by simp [Xh] at h
 | .i _, _, l, h => by simp [Xh] at h
 | .b, _, l, h => by simp [Xh] at h
 | .o, _, l, h => by simp [Xh] at h
 | .mp _ _, _, l, h => by simp [Xh] at h
 | .s, _, l, h => by simp [Xh] at h
 | .sl _, _, l, h => by simp [Xh] at h
theorem YR {w : World} {O : Nat → Prop} {hp : Nat → Option La} {σ : Nat → Value} : ∀ {pt : Ty} {x : T pt} {args : List Value} {n t : Nat} {d : D}, Xh w O pt x args → Sb (Sy pt x n) t = some d →
 ∃ j v, t = n + j ∧ args[j]? = some v ∧ Pd w O hp σ d v
 | .p x y, v, a :: r, n, t, d, h, hd => by
  simp only [Sy] at hd
  rw [Id] at hd
  split at hd
  ·rename_i e
   simp only [jc] at hd
   subst hd
   obtain ⟨⟨cs, ha, hv⟩, _⟩ := h
   refine ⟨0, a, by omega, rfl, ?_⟩
   rw [ha]
   exact Qr (τ := x) (by simp [Kb]) hv
  ·obtain ⟨j, v', h1, h2, h3⟩ := YR (hp := hp) (σ := σ) h.2 hd
   exact ⟨j + 1, v', by omega, by simpa using h2, h3⟩
 | .p _ _, _, [], _, _, _, h, _ => by simp [Xh] at h
 | .u, _, _, _, _, _, _, hd => by simp [Sy, Sb] at hd
 | .i _, _, _, _, _, _, h, _ => by simp [Xh] at h
 | .b, _, _, _, _, _, h, _ => by simp [Xh] at h
 | .o, _, _, _, _, _, h, _ => by simp [Xh] at h
 | .mp _ _, _, _, _, _, _, h, _ => by simp [Xh] at h
 | .s, _, _, _, _, _, h, _ => by simp [Xh] at h
 | .sl _, _, _, _, _, _, h, _ => by simp [Xh] at h
section
variable {P : Program} {G : Yf} {L : List (Nat × Sa)}
variable {I : Oi}
def P4 (I : Oi) : Fx := ⟨fun _ => False, fun _ => none, fun _ _ h => by simp at h, I, fun _ h => h.elim⟩
theorem Mav (hG : Dk P I G) (hm : P.follows .mixedOrders = true) {f : FuncId} {fn : Func} {c : Code} (hf : P.funcs[f]? = some fn) (hb : fn.body = some c) (hname : (fn.name == "runtime.NumGoroutine") = false)
 (hL : ∀ b, b ∈ Cf c → Za G L b) {pt rt : Ty} {fr : List Bool} {F : T pt → Option (T rt)} (hn : pt.npar ≤ fn.ntmps) (hF : ∀ x r, F x = some r → evF G L fn pt rt fr x = some r) : Zj P I f (.pu pt rt fr F) := by
 refine ⟨⟨fn, hf, hname, by rw [hb]; rfl⟩, ?_⟩
 intro O w x r args hx hargs hO hI hB
 have he := hF x r hx
 unfold evF at he
 rw [hb] at he
 simp only at he
 refine calls_of_wp hf hb ?_
 have hlen := WN hargs
 have hc : Bb w.heap.size (P4 I) O w ⟨fn.ntmps, Sy pt x 0, []⟩ (fun _ => undef) (fun _ => []) { tmps := args.toArray ++ Array.replicate (fn.ntmps - args.toArray.size) undef, defers := [] } w := by
  have hh : ∀ id, AS.heap ⟨fn.ntmps, Sy pt x 0, []⟩ id = none := fun id => rfl
  refine ⟨?_, rfl, ?_, ?_, ?_, ?_, ?_, hO, ⟨rfl, rfl, rfl, jo _, fun _ _ _ => rfl⟩, ?_, hB, hI⟩
  ·simp; omega
  ·intro t d hd
   have hOO : OO O ⟨fn.ntmps, Sy pt x 0, []⟩ (fun _ => []) = O := by
    funext b
    simp [OO, hh]
   rw [hOO]
   obtain ⟨j, v, h1, h2, h3⟩ := YR hargs hd
   refine ⟨v, ?_, h3⟩
   have hj : j < args.length := (yk.1 h2).1
   have : t = j := by omega
   subst this
   rw [Array.getElem?_append_left (by simpa using hj)]
   simpa using h2
  ·intro id Ia hb; rw [hh] at hb; simp at hb
  ·intro id Ia hb; rw [hh] at hb; simp at hb
  ·intro id id' Ia blk' _ hb; rw [hh] at hb; simp at hb
  ·intro id Ia hb; rw [hh] at hb; simp at hb
  ·intro id v hv; simp [P4] at hv
 refine I1 (A := P4 I) hG (fun _ => .inl fun _ h => h) hm c hL he hc ?_
 intro e s σ φ a w' hk h
 have Sg : (match Uy G s fn.results.toList with
  | some d => match Nh s rt fr d with
   | some (r, l) => bif Rh l then some r else none
   | none => none
  | none => none) = some r → a.defers = [] ∧ ∃ v, (results fn a.tmps).run P w' = .ok v w' ∧ Uw (fun v w' => ∃ vs Fr, v = JJ vs ∧ AF w w' (fun _ => False) ∧ Od w' (fun b => O b ∨ b ∈ Fr) rt r fr vs Fr ∧ Fr.Nodup ∧ ∀ b ∈ Fr, w.heap.size ≤ b) (.returned v) w' := by
  intro hk
  split at hk
  ·rename_i d hd
   split at hk
   ·rename_i r' l hr
    simp only [Ja] at hk
    obtain ⟨hnd, hk⟩ := hk
    simp only [jc] at hk
    subst hk
    have hnd := Wj hnd
    obtain ⟨vs, hvs, hru⟩ := FH hG.toEnvTy h hd
    obtain ⟨hR, hlive⟩ := KW h hr hru
    refine ⟨h.df, _, AI hvs, vs, Ha φ l, rfl, ⟨h.fr.size, fun b hb _ => h.fr.block b hb (fun h => h), h.fr.os, h.fr.tape, h.fr.output⟩, hR.mono ?_, Vh h hnd hlive, ?_⟩
    ·rintro b (hb | hb)
     ·exact .inl hb
     ·obtain ⟨j, hj, hm'⟩ := Pb.1 hb
      obtain ⟨Ia, hbj⟩ := hlive j hj
      exact .inr ⟨j, Ia, hbj, hm'⟩
    ·intro b hb
     obtain ⟨j, hj, hm'⟩ := Pb.1 hb
     obtain ⟨Ia, hbj⟩ := hlive j hj
     exact (h.fresh j Ia hbj b hm').resolve_right (fun h => h)
   ·simp at hk
  ·simp at hk
 cases e with
 | normal => exact Sg hk
 | ret => exact Sg hk
 | exit j => simp at hk
end
theorem SK {φ : Nat → List Nat} : ∀ {L : List Nat}, (Ha φ L).Nodup → ∀ {i j b : Nat}, i ∈ L → j ∈ L → i ≠ j → b ∈ φ i → b ∉ φ j
 | [], _, _, _, _, h, _, _, _ => by simp at h
 | x :: L, hn, i, j, b, hi, hj, hne, hb => by
  intro hb'
  have hx : Ha φ (x :: L) = φ x ++ Ha φ L := by simp [Ha]
  rw [hx, yz] at hn
  rcases jp.1 hi with e1 | q1
  ·rcases jp.1 hj with e2 | q2
   ·exact hne (e1.trans e2.symm)
   ·exact hn.2.2 b (e1 ▸ hb) b (Pb.2 ⟨j, q2, hb'⟩) rfl
  ·rcases jp.1 hj with e2 | q2
   ·exact hn.2.2 b (e2 ▸ hb') b (Pb.2 ⟨i, q1, hb⟩) rfl
   ·exact SK hn.2.1 q1 q2 hne hb hb'
section
variable {P : Program} {G : Yf} {L : List (Nat × Sa)} {I : Oi}
end
def AK : (pt : Ty) → T pt → Nat → Nat → List (Nat × D) × List (Nat × Option La) × Nat
 | .p x y, v, t, n => match Ff x v.1 n with
  | (d, l, m) => match AK y v.2 (t + 1) m with
   | (tm, l', m') => ((t, d) :: tm, l ++ l', m')
 | _, _, _, n => ([], [], n)
def L8 (G : Yf) (L : List (Nat × Sa)) (fn : Func) (pt rt : Ty) (fr : List Bool) (x : T pt) : Option (T rt) :=
 match fn.body with
 | some c => match AK pt x 0 400000 with
  | (tm, rows, _) => Dw G L c ⟨fn.ntmps, tm, rows⟩ fun e s => match e with
   | .exit _ => none
   | _ => match Uy G s fn.results.toList with
    | some d => match Nh s rt fr d with
     | some (r, l) => bif Rh l then some r else none
     | none => none
    | none => none
 | none => none
def K8 (G : Yf) (L : List (Nat × Sa)) (fn : Func) (vw cv : Bool) (τ pt rt : Ty) (fr : List Bool) (x0 : T τ) (x : T pt) : Option (T τ × T rt) :=
 match fn.body with
 | some c => match (bif vw then (D.t τ x0, [], 400000) else Ff τ x0 400000) with
  | (d0, rows, m) => match (bif cv then AK pt x 1 m else (Sy pt x 1, [], m)) with
   | (tm, rows2, m2) => bif jx m2 500000 then Dw G L c ⟨fn.ntmps, (0, .ptr 500000 []) :: tm, (500000, some (.box τ d0)) :: (rows ++ rows2)⟩ fun e s => match e with
    | .exit _ => none
    | _ => match s.heap 500000, Uy G s fn.results.toList with
     | some (.box τ' d1), some d => match Ty.dec τ' τ, (bif vw then (match Bk d1 τ with
      | some y => some (y, [])
      | none => none) else Wc s d1 τ), Nh s rt fr d with
      | some _, some (x', l0), some (r, l) => bif Rh (500000 :: (l0 ++ l)) then some (x', r) else none
      | _, _, _ => none
     | _, _ => none
    else none
 | none => none
theorem OU {w : World} : ∀ {pt : Ty} {x : T pt} {args : List Value} {F : List Nat}, Pg w pt x args F → args.length = pt.npar
 | .u, _, [], _, _ => rfl
 | .p x y, v, a :: r, F, h => by
  obtain ⟨cs, F1, F2, _, _, _, h⟩ := h
  simp [Ty.npar, OU h]
 | .u, _, _ :: _, _, h => by simp [Pg] at h
 | .p _ _, _, [], _, h => by simp [Pg] at h
 | .i _, _, l, _, h => by simp [Pg] at h
 | .b, _, l, _, h => by simp [Pg] at h
 | .o, _, l, _, h => by simp [Pg] at h
 | .mp _ _, _, l, _, h => by simp [Pg] at h
 | .s, _, l, _, h => by simp [Pg] at h
 | .sl _, _, l, _, h => by simp [Pg] at h
theorem Pg.lt {w : World} : ∀ {pt : Ty} {x : T pt} {args : List Value} {F : List Nat}, Pg w pt x args F → ∀ b, b ∈ F → b < w.heap.size
 | .u, _, [], F, h, b, hb => by simp only [Pg] at h; subst h; simp at hb
 | .p x y, v, a :: r, F, h, b, hb => by
  obtain ⟨cs, F1, F2, _, rfl, ho, h⟩ := h
  rcases jl.1 hb with hb | hb
  ·exact ho.lt b hb
  ·exact Pg.lt h b hb
 | .u, _, _ :: _, _, h, _, _ => by simp [Pg] at h
 | .p _ _, _, [], _, h, _, _ => by simp [Pg] at h
 | .i _, _, l, _, h, _, _ => by simp [Pg] at h
 | .b, _, l, _, h, _, _ => by simp [Pg] at h
 | .o, _, l, _, h, _, _ => by simp [Pg] at h
 | .mp _ _, _, l, _, h, _, _ => by simp [Pg] at h
 | .s, _, l, _, h, _, _ => by simp [Pg] at h
 | .sl _, _, l, _, h, _, _ => by simp [Pg] at h
theorem YY {w : World} : ∀ {pt : Ty} {x : T pt} {args : List Value} {F : List Nat} {t n m : Nat} {tm : List (Nat × D)} {l : List (Nat × Option La)}, AK pt x t n = (tm, l, m) → Pg w pt x args F →
 n ≤ m ∧ (∀ p, p ∈ l → n ≤ p.1 ∧ p.1 < m) ∧ ∃ (ψ : Nat → List Nat) (ν : Nat → Value), Ha ψ (l.map (·.1)) = F ∧ (∀ p, p ∈ l → ∃ e xs, p.2 = some (.row e true xs) ∧ Kc w (.sl e) xs [ν p.1] (ψ p.1)) ∧
  ∀ (hp' : Nat → Option La) (σ' : Nat → Value) (O' : Nat → Prop), (∀ p, p ∈ l → σ' p.1 = ν p.1) → ∀ t' d, Sb tm t' = some d → ∃ j v, t' = t + j ∧ args[j]? = some v ∧ Pd w O' hp' σ' d v
 | .u, x, [], F, t, n, m, tm, l, he, h => by
  simp only [AK, jh] at he
  obtain ⟨rfl, rfl, rfl⟩ := he
  simp only [Pg] at h
  exact ⟨jo _, by simp, fun _ => [], fun _ => undef, by simp [Ha, h], by simp, fun _ _ _ _ t' d hd => by simp [Sb] at hd⟩
 | .p t1 t2, x, a :: r, F, t, n, m, tm, l, he, h => by
  obtain ⟨cs, F1, F2, ha, hF, ho, hr⟩ := h
  simp only [AK] at he
  rcases ho1 : Ff t1 x.1 n with ⟨d1, l1, m1⟩
  rcases ho2 : AK t2 x.2 (t + 1) m1 with ⟨tm2, l2, m2⟩
  rw [ho1] at he
  simp only at he
  rw [ho2] at he
  simp only [jh] at he
  obtain ⟨rfl, rfl, rfl⟩ := he
  obtain ⟨a1, a2, a3, ψ1, ν1, a4, a5, a6⟩ := FA ho1 ho
  obtain ⟨b1, b2, ψ2, ν2, b4, b5, b6⟩ := YY ho2 hr
  refine ⟨by omega, ?_, fun id => if id < m1 then ψ1 id else ψ2 id, fun id => if id < m1 then ν1 id else ν2 id, ?_, ?_, ?_⟩
  ·intro p hp
   rcases jl.1 hp with hp | hp
   ·have := a2 p hp; omega
   ·have := b2 p hp; omega
  ·rw [zf, Xe, hF, ← a4, ← b4]
   congr 1
   ·exact Yl fun id hid => by
     obtain ⟨p, hp, rfl⟩ := qv.1 hid
     rw [if_pos (a2 p hp).2]
   ·exact Yl fun id hid => by
     obtain ⟨p, hp, rfl⟩ := qv.1 hid
     rw [if_neg (by have := b2 p hp; omega)]
  ·intro p hp
   rcases jl.1 hp with hp | hp
   ·simp only [if_pos (a2 p hp).2]; exact a5 p hp
   ·have : ¬ p.1 < m1 := by have := b2 p hp; omega
    simp only [if_neg this]; exact b5 p hp
  ·intro hp' σ' O' hσ t' d hd
   rw [Id] at hd
   split at hd
   ·rename_i e
    simp only [jc] at hd
    subst hd
    refine ⟨0, a, by omega, rfl, ?_⟩
    rw [ha]
    refine Qr a3 (a6 w hp' σ' O' fun p hp => ?_)
    have h1 := hσ p (yb _ hp)
    simp only [if_pos (a2 p hp).2] at h1
    exact h1
   ·obtain ⟨j, v, h1, h2, h3⟩ := b6 hp' σ' O' (fun p hp => by
     have h1 := hσ p (yc _ hp)
     have h2 : ¬ p.1 < m1 := by have := b2 p hp; omega
     simp only [if_neg h2] at h1
     exact h1) t' d hd
    exact ⟨j + 1, v, by omega, by simpa using h2, h3⟩
 | .u, _, _ :: _, _, _, _, _, _, _, _, h => by simp [Pg] at h
 | .p _ _, _, [], _, _, _, _, _, _, _, h => by simp [Pg] at h
 | .i _, _, l, _, _, _, _, _, _, _, h => by simp [Pg] at h
 | .b, _, l, _, _, _, _, _, _, _, h => by simp [Pg] at h
 | .o, _, l, _, _, _, _, _, _, _, h => by simp [Pg] at h
 | .mp _ _, _, l, _, _, _, _, _, _, _, h => by simp [Pg] at h
 | .s, _, l, _, _, _, _, _, _, _, h => by simp [Pg] at h
 | .sl _, _, l, _, _, _, _, _, _, _, h => by simp [Pg] at h
section
variable {P : Program} {G : Yf} {L : List (Nat × Sa)} {I : Oi}
theorem Kav (hG : Dk P I G) (hfz : G.fz = false) (hm : P.follows .mixedOrders = true) {f : FuncId} {fn : Func} {c : Code} (hf : P.funcs[f]? = some fn) (hb : fn.body = some c) (hname : (fn.name == "runtime.NumGoroutine") = false)
 (hL : ∀ b, b ∈ Cf c → Za G L b) {pt rt : Ty} {fr : List Bool} {F : T pt → Option (T rt)} (hn : pt.npar ≤ fn.ntmps) (hF : ∀ x r, F x = some r → L8 G L fn pt rt fr x = some r) :
 Zj P I f (.co pt rt fr F) := by
 refine ⟨⟨fn, hf, hname, by rw [hb]; rfl⟩, ?_⟩
 intro O w x r F0 args hx hargs hF0 hO hI hB hFB
 have he := hF x r hx
 unfold L8 at he
 rw [hb] at he
 simp only at he
 rcases hop : AK pt x 0 400000 with ⟨tm, rows, m⟩
 rw [hop] at he
 simp only at he
 obtain ⟨_, hids, ψ, ν, hbl, hrows, hrep⟩ := YY hop hargs
 refine calls_of_wp hf hb ?_
 have hlen := OU hargs
 have hmem : ∀ id Ia, AS.heap ⟨fn.ntmps, tm, rows⟩ id = some Ia → id ∈ rows.map (·.1) ∧ ∃ e xs, Ia = .row e true xs ∧ Kc w (.sl e) xs [ν id] (ψ id) := by
  intro id Ia hb
  have hm := AS.heap_mem hb
  obtain ⟨e, xs, h1, h2⟩ := hrows _ hm
  simp only [jc] at h1
  exact ⟨ze (f := (·.1)) hm, e, xs, h1, h2⟩
 have hF0' : (Ha ψ (rows.map (·.1))).Nodup := by rw [hbl]; exact hF0
 let A : Fx := ⟨(· ∈ F0), fun _ => none, fun _ _ h => by simp at h, I, hFB⟩
 have hOO : OO (fun b => O b ∨ b ∈ F0) ⟨fn.ntmps, tm, rows⟩ ψ = (fun b => O b ∨ b ∈ F0) := by
  funext b
  refine propext ⟨fun h => ?_, .inl⟩
  rcases h with h | ⟨id, Ia, hb, hm⟩
  ·exact h
  ·refine .inr ?_
   rw [← hbl]
   exact Pb.2 ⟨id, (hmem id Ia hb).1, hm⟩
 have hc : Bb w.heap.size A (fun b => O b ∨ b ∈ F0) w ⟨fn.ntmps, tm, rows⟩ ν ψ { tmps := args.toArray ++ Array.replicate (fn.ntmps - args.toArray.size) undef, defers := [] } w := by
  refine ⟨?_, rfl, ?_, ?_, ?_, ?_, ?_, ?_, ⟨rfl, rfl, rfl, jo _, fun _ _ _ => rfl⟩, ?_, hB, hI⟩
  ·simp; omega
  ·intro t d hd
   rw [hOO]
   obtain ⟨j, v, h1, h2, h3⟩ := hrep (AS.heap ⟨fn.ntmps, tm, rows⟩) ν (fun b => O b ∨ b ∈ F0) (fun _ _ => rfl) t d hd
   refine ⟨v, ?_, h3⟩
   have hj : j < args.length := (yk.1 h2).1
   have : t = j := by omega
   subst this
   rw [Array.getElem?_append_left (by simpa using hj)]
   simpa using h2
  ·intro id Ia hb
   obtain ⟨_, e, xs, rfl, h2⟩ := hmem id Ia hb
   exact h2
  ·intro id Ia hb
   have hi := (hmem id Ia hb).1
   have : (ψ id).Sublist (Ha ψ (rows.map (·.1))) := by
    unfold Ha
    exact List.sublist_flatten_of_mem (ze hi)
   exact this.nodup hF0'
  ·intro id id' Ia blk' hne hb hb' b hm
   exact SK hF0' (hmem id Ia hb).1 (hmem id' blk' hb').1 hne hm
  ·intro id Ia hb b hm
   refine .inr ?_
   show b ∈ F0
   rw [← hbl]
   exact Pb.2 ⟨id, (hmem id Ia hb).1, hm⟩
  ·rintro b (hb | hb)
   ·exact hO b hb
   ·exact hargs.lt b hb
  ·intro id v hv; simp [A] at hv
 refine I1 (A := A) hG (fun h => by rw [hfz] at h; simp at h) hm c hL he hc ?_
 intro e s σ φ a w' hk h
 have Sg : (match Uy G s fn.results.toList with
  | some d => match Nh s rt fr d with
   | some (r, l) => bif Rh l then some r else none
   | none => none
  | none => none) = some r → a.defers = [] ∧ ∃ v, (results fn a.tmps).run P w' = .ok v w' ∧ Uw (fun v w' => ∃ vs Fr, v = JJ vs ∧ AF w w' (· ∈ F0) ∧
  Od w' (fun b => O b ∨ b ∈ F0 ∨ b ∈ Fr) rt r fr vs Fr ∧ Fr.Nodup ∧ ∀ b ∈ Fr, w.heap.size ≤ b ∨ b ∈ F0) (.returned v) w' := by
  intro hk
  split at hk
  ·rename_i d hd
   split at hk
   ·rename_i r' l hr
    simp only [Ja] at hk
    obtain ⟨hnd, hk⟩ := hk
    simp only [jc] at hk
    subst hk
    have hnd := Wj hnd
    obtain ⟨vs, hvs, hru⟩ := FH hG.toEnvTy h hd
    obtain ⟨hR, hlive⟩ := KW h hr hru
    refine ⟨h.df, _, AI hvs, vs, Ha φ l, rfl, ⟨h.fr.size, fun b hb hno => h.fr.block b hb hno, h.fr.os, h.fr.tape, h.fr.output⟩, hR.mono ?_, Vh h hnd hlive, ?_⟩
    ·rintro b (hb | hb | hb)
     ·exact .inl (.inl hb)
     ·exact .inl (.inr hb)
     ·obtain ⟨j, hj, hm'⟩ := Pb.1 hb
      obtain ⟨Ia, hbj⟩ := hlive j hj
      exact .inr ⟨j, Ia, hbj, hm'⟩
    ·intro b hb
     obtain ⟨j, hj, hm'⟩ := Pb.1 hb
     obtain ⟨Ia, hbj⟩ := hlive j hj
     exact h.fresh j Ia hbj b hm'
   ·simp at hk
  ·simp at hk
 cases e with
 | normal => exact Sg hk
 | ret => exact Sg hk
 | exit j => simp at hk
theorem Jav {vw cv : Bool} (hG : Dk P I G) (hfz : G.fz = false ∨ ((vw && !cv) = true ∧ JS G.att = true)) (hm : P.follows .mixedOrders = true) {f : FuncId} {fn : Func} {c : Code} (hf : P.funcs[f]? = some fn) (hb : fn.body = some c) (hname : (fn.name == "runtime.NumGoroutine") = false)
 (hL : ∀ b, b ∈ Cf c → Za G L b) {τ pt rt : Ty} {fr : List Bool} {F : T τ → T pt → Option (T τ × T rt)} (hn : pt.npar + 1 ≤ fn.ntmps) (hF : ∀ x0 x r, F x0 x = some r → K8 G L fn vw cv τ pt rt fr x0 x = some r) :
 Zj P I f (.bx vw cv τ pt rt fr F) := by
 refine ⟨⟨fn, hf, hname, by rw [hb]; rfl⟩, ?_⟩
 intro O w x0 x r b cur et F0 F2 args hx hh hsz hcont hargs hnd hO hI hB hFB
 have he := hF x0 x r hx
 unfold K8 at he
 rw [hb] at he
 simp only at he
 rcases hop : (bif vw then (D.t τ x0, [], 400000) else Ff τ x0 400000) with ⟨d0, rows, m⟩
 rw [hop] at he
 simp only at he
 rcases hop2 : (bif cv then AK pt x 1 m else (Sy pt x 1, [], m)) with ⟨tm, rows2, m2⟩
 rw [hop2] at he
 simp only [Ja] at he
 obtain ⟨hm2, he⟩ := he
 have hm2 := yi hm2
 have hlt : b < w.heap.size := (Array.getElem?_eq_some_iff.1 hh).1
 have k1 : 400000 ≤ m ∧ (∀ p, p ∈ rows → 400000 ≤ p.1 ∧ p.1 < m) ∧ Kb τ d0 ∧ (∀ c, c ∈ F0 → c < w.heap.size) ∧ ∃ (ψ : Nat → List Nat) (ν : Nat → Value), Ha ψ (rows.map (·.1)) = F0 ∧ (∀ p, p ∈ rows → ∃ e xs, p.2 = some (.row e true xs) ∧ Kc w (.sl e) xs [ν p.1] (ψ p.1)) ∧
  ∀ (hp' : Nat → Option La) (σ' : Nat → Value), (∀ p, p ∈ rows → σ' p.1 = ν p.1) → Gb w (fun c => O c ∨ c ∈ b :: (F0 ++ F2)) hp' σ' d0 cur.toList := by
  cases vw with
  | true =>
   simp only [zz, jh] at hop
   obtain ⟨rfl, rfl, rfl⟩ := hop
   simp only [if_true] at hcont
   obtain ⟨hv, rfl⟩ := hcont
   refine ⟨jo _, by simp, by simp [Kb], by simp, fun _ => [], fun _ => undef, by simp [Ha], by simp, fun hp' σ' _ => Ta.weaken (fun c hc => ?_) hv⟩
   rcases hc with hc | hc
   ·exact .inl hc
   ·rcases jp.1 hc with rfl | hc
    ·exact .inr (.inl rfl)
    ·exact .inr (.inr (by simpa using hc))
  | false =>
   simp only [ua] at hop
   simp only [jq, if_false] at hcont
   obtain ⟨a1, a2, a3, ψ1, ν1, a4, a5, a6⟩ := FA hop hcont
   exact ⟨a1, a2, a3, fun c hc => hcont.lt c hc, ψ1, ν1, a4, a5, fun hp' σ' h => a6 w hp' σ' _ h⟩
 obtain ⟨hnm, hids, hsh, hF0lt, ψ1, ν1, hbl1, hrows1, hrep1⟩ := k1
 have k2 : m ≤ m2 ∧ (∀ p, p ∈ rows2 → m ≤ p.1 ∧ p.1 < m2) ∧ args.length = pt.npar ∧ (∀ c, c ∈ F2 → c < w.heap.size) ∧ ∃ (ψ : Nat → List Nat) (ν : Nat → Value), Ha ψ (rows2.map (·.1)) = F2 ∧ (∀ p, p ∈ rows2 → ∃ e xs, p.2 = some (.row e true xs) ∧ Kc w (.sl e) xs [ν p.1] (ψ p.1)) ∧
  ∀ (hp' : Nat → Option La) (σ' : Nat → Value), (∀ p, p ∈ rows2 → σ' p.1 = ν p.1) → ∀ t' d, Sb tm t' = some d → ∃ j v, t' = 1 + j ∧ args[j]? = some v ∧ Pd w (fun c => O c ∨ c ∈ b :: (F0 ++ F2)) hp' σ' d v := by
  cases cv with
  | true =>
   simp only [zz] at hop2
   simp only [if_true] at hargs
   obtain ⟨a1, a2, ψ2, ν2, a4, a5, a6⟩ := YY hop2 hargs
   exact ⟨a1, a2, OU hargs, hargs.lt, ψ2, ν2, a4, a5, fun hp' σ' h => a6 hp' σ' _ h⟩
  | false =>
   simp only [ua, jh] at hop2
   obtain ⟨rfl, rfl, rfl⟩ := hop2
   simp only [jq, if_false] at hargs
   obtain ⟨hv, rfl⟩ := hargs
   refine ⟨jo _, by simp, WN hv, by simp, fun _ => [], fun _ => undef, by simp [Ha], by simp, fun hp' σ' _ t' d hd => ?_⟩
   have : (fun c => O c ∨ c ∈ b :: (F0 ++ [])) = (fun c => O c ∨ c = b ∨ c ∈ F0) := by
    funext c; simp
   rw [this]
   exact YR hv hd
 obtain ⟨hmm, hids2, hlen, hF2lt, ψ2, ν2, hbl2, hrows2, hrep2⟩ := k2
 refine calls_of_wp hf hb ?_
 let ψ : Nat → List Nat := fun id => if id = 500000 then [b] else if id < m then ψ1 id else ψ2 id
 let ν : Nat → Value := fun id => if id = 500000 then .pointer (some ⟨b, 0, none⟩) else if id < m then ν1 id else ν2 id
 have hψ0 : ψ 500000 = [b] := if_pos rfl
 have hν0 : ν 500000 = .pointer (some ⟨b, 0, none⟩) := if_pos rfl
 have hψ1 : ∀ p, p ∈ rows → ψ p.1 = ψ1 p.1 ∧ ν p.1 = ν1 p.1 := fun p hp => by
  have h1 := hids p hp
  have h2 : ¬ p.1 = 500000 := by omega
  simp only [ψ, ν, if_neg h2, if_pos h1.2, and_self]
 have hψ2 : ∀ p, p ∈ rows2 → ψ p.1 = ψ2 p.1 ∧ ν p.1 = ν2 p.1 := fun p hp => by
  have h1 := hids2 p hp
  have h2 : ¬ p.1 = 500000 := by omega
  have h3 : ¬ p.1 < m := by omega
  simp only [ψ, ν, if_neg h2, if_neg h3, and_self]
 let s0 : AS := ⟨fn.ntmps, (0, .ptr 500000 []) :: tm, (500000, some (.box τ d0)) :: (rows ++ rows2)⟩
 have hbx : s0.heap 500000 = some (.box τ d0) := by simp [s0, AS.heap, Id]
 have hmem : ∀ id Ia, s0.heap id = some Ia → (id = 500000 ∧ Ia = .box τ d0) ∨ (id ≠ 500000 ∧ id ∈ (rows ++ rows2).map (·.1) ∧ ∃ e xs, Ia = .row e true xs ∧ Kc w (.sl e) xs [ν id] (ψ id)) := by
  intro id Ia hb
  by_cases hid : id = 500000
  ·subst hid
   rw [hbx] at hb
   simp only [jc] at hb
   exact .inl ⟨rfl, hb.symm⟩
  ·have hm := AS.heap_mem hb
   simp only [s0, jp, jh, hid, false_and, false_or] at hm
   refine .inr ⟨hid, ze (f := (·.1)) hm, ?_⟩
   rcases jl.1 hm with hm | hm
   ·obtain ⟨e, xs, h1, h2⟩ := hrows1 _ hm
    simp only [jc] at h1
    exact ⟨e, xs, h1, by rw [(hψ1 _ hm).1, (hψ1 _ hm).2]; exact h2⟩
   ·obtain ⟨e, xs, h1, h2⟩ := hrows2 _ hm
    simp only [jc] at h1
    exact ⟨e, xs, h1, by rw [(hψ2 _ hm).1, (hψ2 _ hm).2]; exact h2⟩
 have hblr : Ha ψ ((rows ++ rows2).map (·.1)) = F0 ++ F2 := by
  rw [zf, Xe, ← hbl1, ← hbl2]
  congr 1
  ·exact Yl fun id hid => by
    obtain ⟨p, hp, rfl⟩ := qv.1 hid
    exact (hψ1 p hp).1
  ·exact Yl fun id hid => by
    obtain ⟨p, hp, rfl⟩ := qv.1 hid
    exact (hψ2 p hp).1
 have hbl : Ha ψ (500000 :: (rows ++ rows2).map (·.1)) = b :: (F0 ++ F2) := by
  have : Ha ψ (500000 :: (rows ++ rows2).map (·.1)) = ψ 500000 ++ Ha ψ ((rows ++ rows2).map (·.1)) := by simp only [Ha, yw, y0]
  rw [this, hψ0, hblr]; rfl
 have hndB : (Ha ψ (500000 :: (rows ++ rows2).map (·.1))).Nodup := by rw [hbl]; exact hnd
 have hidin : ∀ id Ia, s0.heap id = some Ia → id ∈ 500000 :: (rows ++ rows2).map (·.1) := by
  intro id Ia hb
  rcases hmem id Ia hb with ⟨rfl, _⟩ | ⟨_, h, _⟩
  ·exact List.mem_cons_self
  ·exact jr _ h
 let A : Fx := ⟨(· ∈ b :: (F0 ++ F2)), fun id => if id = 500000 then some (.pointer (some ⟨b, 0, none⟩)) else none, fun id v h => by
  split at h
  ·omega
  ·simp at h, I, hFB⟩
 have hOO : OO (fun c => O c ∨ c ∈ b :: (F0 ++ F2)) s0 ψ = (fun c => O c ∨ c ∈ b :: (F0 ++ F2)) := by
  funext c
  refine propext ⟨fun h => ?_, .inl⟩
  rcases h with h | ⟨id, Ia, hb, hm⟩
  ·exact h
  ·refine .inr ?_
   rw [← hbl]
   exact Pb.2 ⟨id, hidin id Ia hb, hm⟩
 have hc : Bb w.heap.size A (fun c => O c ∨ c ∈ b :: (F0 ++ F2)) w s0 ν ψ { tmps := (.pointer (some ⟨b, 0, none⟩) :: args).toArray ++ Array.replicate (fn.ntmps - (Value.pointer (some ⟨b, 0, none⟩) :: args).toArray.size) undef, defers := [] } w := by
  refine ⟨?_, rfl, ?_, ?_, ?_, ?_, ?_, ?_, ⟨rfl, rfl, rfl, jo _, fun _ _ _ => rfl⟩, ?_, hB, hI⟩
  ·simp [s0]; omega
  ·intro t d hd
   rw [hOO]
   simp only [s0] at hd
   rw [Id] at hd
   split at hd
   ·rename_i e
    subst e
    simp only [jc] at hd
    subst hd
    refine ⟨.pointer (some ⟨b, 0, none⟩), by rw [Array.getElem?_append_left (by simp)]; simp, ?_⟩
    rw [Pr]
    exact ⟨rfl, fun ρ d _ => ⟨b, hν0, by simp [Nb]⟩⟩
   ·obtain ⟨j, v, h1, h2, h3⟩ := hrep2 s0.heap ν (fun p hp => (hψ2 p hp).2) t d hd
    refine ⟨v, ?_, h3⟩
    have hj : j < args.length := (yk.1 h2).1
    have : t = j + 1 := by omega
    subst this
    rw [Array.getElem?_append_left (by simpa using hj)]
    simpa using h2
  ·intro id Ia hb
   rw [hOO]
   rcases hmem id Ia hb with ⟨rfl, rfl⟩ | ⟨_, _, e, xs, rfl, h2⟩
   ·exact ⟨hsh, b, cur, et, hν0, hh, hψ0, hrep1 _ _ fun p hp => (hψ1 p hp).2, hsz⟩
   ·exact h2
  ·intro id Ia hb
   have hi := hidin id Ia hb
   have : (ψ id).Sublist (Ha ψ (500000 :: (rows ++ rows2).map (·.1))) := by
    unfold Ha
    exact List.sublist_flatten_of_mem (ze hi)
   exact this.nodup hndB
  ·intro id id' Ia blk' hne hb hb' c hm
   exact SK hndB (hidin id Ia hb) (hidin id' blk' hb') hne hm
  ·intro id Ia hb c hm
   refine .inr ?_
   show c ∈ b :: (F0 ++ F2)
   rw [← hbl]
   exact Pb.2 ⟨id, hidin id Ia hb, hm⟩
  ·rintro c (hc | hc)
   ·exact hO c hc
   ·rcases jp.1 hc with rfl | hc
    ·exact hlt
    ·rcases jl.1 hc with hc | hc
     ·exact hF0lt c hc
     ·exact hF2lt c hc
  ·intro id v hv
   simp only [A] at hv
   split at hv
   ·rename_i e
    subst e
    simp only [jc] at hv
    exact hν0.trans hv
   ·simp at hv
 have hFz : WS G A := by
  intro hz
  rcases hfz with h0 | ⟨h1, h2⟩
  ·rw [h0] at hz; simp at hz
  ·simp only [jd, yx] at h1
   obtain ⟨h1, h3⟩ := h1
   subst h1
   subst h3
   simp only [if_true] at hcont
   simp only [jq, if_false] at hargs
   obtain ⟨_, hF0⟩ := hcont
   obtain ⟨_, hF2⟩ := hargs
   refine .inr ⟨h2, fun x hx => ?_⟩
   have hx' : x ∈ b :: (F0 ++ F2) := hx
   rw [hF0, hF2] at hx'
   simp only [List.append_nil, qg] at hx'
   rw [hx']
   show (if (500000 : Nat) = 500000 then some (Value.pointer (some ⟨b, 0, none⟩)) else none) = _
   exact if_pos rfl
 refine I1 (A := A) hG hFz hm c hL he hc ?_
 intro e s σ φ a w' hk h
 have Sg : (match s.heap 500000, Uy G s fn.results.toList with
  | some (.box τ' d1), some d => match Ty.dec τ' τ, (bif vw then (match Bk d1 τ with
   | some y => some (y, [])
   | none => none) else Wc s d1 τ), Nh s rt fr d with
   | some _, some (x', l0), some (r, l) => bif Rh (500000 :: (l0 ++ l)) then some (x', r) else none
   | _, _, _ => none
  | _, _ => none) = some r → a.defers = [] ∧ ∃ v, (results fn a.tmps).run P w' = .ok v w' ∧ Uw (fun v w' => ∃ vs cur' et' F1 Fr, v = JJ vs ∧ AF w w' (· ∈ b :: (F0 ++ F2)) ∧ w'.heap[b]? = some (.cells cur' et' (0, 0)) ∧ cur'.size = τ.size ∧
  (if vw then Ta w' (fun c => O c ∨ c ∈ b :: (F0 ++ F2) ∨ c ∈ Fr) τ r.1 cur'.toList ∧ F1 = [] else Kc w' τ r.1 cur'.toList F1) ∧
  Od w' (fun c => O c ∨ c ∈ b :: (F0 ++ F2) ∨ c ∈ F1 ∨ c ∈ Fr) rt r.2 fr vs Fr ∧ (b :: (F1 ++ Fr)).Nodup ∧ ∀ c ∈ F1 ++ Fr, w.heap.size ≤ c ∨ c ∈ F0 ++ F2) (.returned v) w' := by
  intro hk
  split at hk
  ·rename_i τ' d1 d hbx' hd
   split at hk
   ·rename_i q x' l0 r' l hq hx' hr
    obtain rfl := Sf hq
    simp only [Ja] at hk
    obtain ⟨hnd', hk⟩ := hk
    simp only [jc] at hk
    subst hk
    have hnd' := Wj hnd'
    obtain ⟨hsh', b', cur', et', hσ', hh', hF', hr0, hsz'⟩ := h.hp 500000 _ hbx'
    have hpin : σ 500000 = .pointer (some ⟨b, 0, none⟩) := h.pin 500000 _ (show (if (500000 : Nat) = 500000 then some (Value.pointer (some ⟨b, 0, none⟩)) else none) = _ from if_pos rfl)
    rw [hpin] at hσ'
    simp only [Value.pointer.injEq, jc, Addr.mk.injEq, and_true] at hσ'
    subst hσ'
    have hkl : (∀ j, j ∈ l0 → ∃ Ia, s.heap j = some Ia) ∧ (if vw then Ta w' (OO (fun c => O c ∨ c ∈ b :: (F0 ++ F2)) s φ) τ' x' cur'.toList ∧ l0 = [] else Kc w' τ' x' cur'.toList (Ha φ l0)) := by
     cases vw with
     | true =>
      simp only [zz] at hx'
      split at hx'
      ·rename_i y hy
       simp only [jc, jh] at hx'
       obtain ⟨rfl, rfl⟩ := hx'
       exact ⟨by simp, by simp only [if_true]; exact ⟨(Ai hy).2 _ hr0, trivial⟩⟩
      ·simp at hx'
     | false =>
      simp only [ua] at hx'
      obtain ⟨g1, g2⟩ := Bq h hx' hr0
      exact ⟨g2, by simpa using g1⟩
    obtain ⟨hlive0, hx1⟩ := hkl
    obtain ⟨vs, hvs, hru⟩ := FH hG.toEnvTy h hd
    obtain ⟨hR, hlive⟩ := KW h hr hru
    have hall : ∀ j, j ∈ 500000 :: (l0 ++ l) → ∃ Ia, s.heap j = some Ia := by
     intro j hj
     rcases jp.1 hj with rfl | hj
     ·exact ⟨_, hbx'⟩
     ·rcases jl.1 hj with hj | hj
      ·exact hlive0 j hj
      ·exact hlive j hj
    have hbk : Ha φ (500000 :: (l0 ++ l)) = b :: (Ha φ l0 ++ Ha φ l) := by
     have : Ha φ (500000 :: (l0 ++ l)) = φ 500000 ++ Ha φ (l0 ++ l) := by simp only [Ha, yw, y0]
     rw [this, hF', Xe]; rfl
    have hbn := Vh h hnd' hall
    rw [hbk] at hbn
    have hinOO : ∀ c, c ∈ Ha φ l0 ++ Ha φ l → OO (fun c => O c ∨ c ∈ b :: (F0 ++ F2)) s φ c := by
     intro c hc
     rw [← Xe] at hc
     obtain ⟨j, hj, hm'⟩ := Pb.1 hc
     obtain ⟨Ia, hbj⟩ := hall j (jr _ hj)
     exact .inr ⟨j, Ia, hbj, hm'⟩
    refine ⟨h.df, _, AI hvs, vs, cur', et', Ha φ l0, Ha φ l, rfl, ⟨h.fr.size, fun c hc hno => h.fr.block c hc hno, h.fr.os, h.fr.tape, h.fr.output⟩, hh', hsz', ?_, hR.mono ?_, hbn, ?_⟩
    ·cases vw with
     | true =>
      simp only [if_true] at hx1 ⊢
      refine ⟨hx1.1.weaken ?_, by rw [hx1.2]; simp [Ha]⟩
      rintro c (hc | hc | hc)
      ·exact .inl (.inl hc)
      ·exact .inl (.inr hc)
      ·exact hinOO c (yc _ hc)
     | false => simpa using hx1
    ·rintro c (hc | hc | hc | hc)
     ·exact .inl (.inl hc)
     ·exact .inl (.inr hc)
     ·exact hinOO c (yb _ hc)
     ·exact hinOO c (yc _ hc)
    ·intro c hcm
     have hcb : c ≠ b := by
      rintro rfl
      exact (yy.1 hbn).1 hcm
     rw [← Xe] at hcm
     obtain ⟨j, hj, hm'⟩ := Pb.1 hcm
     obtain ⟨Ia, hbj⟩ := hall j (jr _ hj)
     rcases h.fresh j Ia hbj c hm' with h1 | h1
     ·exact .inl h1
     ·have h1 : c ∈ b :: (F0 ++ F2) := h1
      rcases jp.1 h1 with h1 | h1
      ·exact absurd h1 hcb
      ·exact .inr h1
   ·simp at hk
  ·simp at hk
 cases e with
 | normal => exact Sg hk
 | ret => exact Sg hk
 | exit j => simp at hk
def M8 (G : Yf) (L : List (Nat × Sa)) (fn : Func) (pt τ : Ty) (x : T pt) : Option (T τ) :=
 match fn.body with
 | some c => Dw G L c ⟨fn.ntmps, Sy pt x 0, []⟩ fun e s => match e with
  | .exit _ => none
  | _ => match Uy G s fn.results.toList with
   | some (.pr (.ptr id []) .un) => match s.heap id with
    | some (.box τ' d) => match Ty.dec τ' τ, Bk d τ with
     | some _, some y => some y
     | _, _ => none
    | _ => none
   | _ => none
 | none => none
theorem Lav (hG : Dk P I G) (hm : P.follows .mixedOrders = true) {f : FuncId} {fn : Func} {c : Code} (hf : P.funcs[f]? = some fn) (hb : fn.body = some c) (hname : (fn.name == "runtime.NumGoroutine") = false)
 (hL : ∀ b, b ∈ Cf c → Za G L b) {pt τ : Ty} {F : T pt → Option (T τ)} (hn : pt.npar ≤ fn.ntmps) (hF : ∀ x r, F x = some r → M8 G L fn pt τ x = some r) : Zj P I f (.nw pt τ F) := by
 refine ⟨⟨fn, hf, hname, by rw [hb]; rfl⟩, ?_⟩
 intro O w x r args hx hargs hO hI hB
 have he := hF x r hx
 unfold M8 at he
 rw [hb] at he
 simp only at he
 refine calls_of_wp hf hb ?_
 have hlen := WN hargs
 have hc : Bb w.heap.size (P4 I) O w ⟨fn.ntmps, Sy pt x 0, []⟩ (fun _ => undef) (fun _ => []) { tmps := args.toArray ++ Array.replicate (fn.ntmps - args.toArray.size) undef, defers := [] } w := by
  have hh : ∀ id, AS.heap ⟨fn.ntmps, Sy pt x 0, []⟩ id = none := fun id => rfl
  refine ⟨?_, rfl, ?_, ?_, ?_, ?_, ?_, hO, ⟨rfl, rfl, rfl, jo _, fun _ _ _ => rfl⟩, ?_, hB, hI⟩
  ·simp; omega
  ·intro t d hd
   have hOO : OO O ⟨fn.ntmps, Sy pt x 0, []⟩ (fun _ => []) = O := by
    funext b
    simp [OO, hh]
   rw [hOO]
   obtain ⟨j, v, h1, h2, h3⟩ := YR hargs hd
   refine ⟨v, ?_, h3⟩
   have hj : j < args.length := (yk.1 h2).1
   have : t = j := by omega
   subst this
   rw [Array.getElem?_append_left (by simpa using hj)]
   simpa using h2
  ·intro id Ia hb; rw [hh] at hb; simp at hb
  ·intro id Ia hb; rw [hh] at hb; simp at hb
  ·intro id id' Ia blk' _ hb; rw [hh] at hb; simp at hb
  ·intro id Ia hb; rw [hh] at hb; simp at hb
  ·intro id v hv; simp [P4] at hv
 refine I1 (A := P4 I) hG (fun _ => .inl fun _ h => h) hm c hL he hc ?_
 intro e s σ φ a w' hk h
 have Sg : (match Uy G s fn.results.toList with
  | some (.pr (.ptr id []) .un) => match s.heap id with
   | some (.box τ' d) => match Ty.dec τ' τ, Bk d τ with
    | some _, some y => some y
    | _, _ => none
   | _ => none
  | _ => none) = some r → a.defers = [] ∧ ∃ v, (results fn a.tmps).run P w' = .ok v w' ∧ Uw (fun v w' => ∃ b cur et, v = .pointer (some ⟨b, 0, none⟩) ∧ AF w w' (fun _ => False) ∧ w.heap.size ≤ b ∧ w'.heap[b]? = some (.cells cur et (0, 0)) ∧ cur.size = τ.size ∧ Ta w' (fun c => O c ∨ c = b) τ r cur.toList) (.returned v) w' := by
  intro hk
  split at hk
  ·rename_i id hd
   split at hk
   ·rename_i τ' d hbx
    split at hk
    ·rename_i q y hq hy
     obtain rfl := Sf hq
     simp only [jc] at hk
     subst hk
     obtain ⟨vs, hvs, hru⟩ := FH hG.toEnvTy h hd
     cases vs with
     | nil => simp [RU] at hru
     | cons v vs =>
      obtain ⟨h1, h2⟩ := hru
      cases vs with
      | cons _ _ => simp [RU] at h2
      | nil =>
       obtain ⟨_, b, cur, et, hσ, hh, hφ, hr0, hsz⟩ := h.hp id _ hbx
       rw [Pr] at h1
       obtain ⟨b', hσ', hv⟩ := h1.2 _ _ hbx
       rw [hσ] at hσ'
       simp only [Value.pointer.injEq, jc, Addr.mk.injEq, and_true] at hσ'
       subst hσ'
       have hmem : b ∈ φ id := by rw [hφ]; simp
       refine ⟨h.df, _, AI hvs, b, cur, et, by simp only [JJ, hv, Nb], ⟨h.fr.size, fun b hb _ => h.fr.block b hb (fun h => h), h.fr.os, h.fr.tape, h.fr.output⟩, (h.fresh id _ hbx b hmem).resolve_right (fun h => h), hh, hsz, ?_⟩
       refine Ta.weaken ?_ ((Ai hy).2 _ hr0)
       rintro c (hc | rfl)
       ·exact .inl hc
       ·exact .inr ⟨id, _, hbx, hmem⟩
    ·simp at hk
   ·simp at hk
  ·simp at hk
 cases e with
 | normal => exact Sg hk
 | ret => exact Sg hk
 | exit j => simp at hk
end
open Go Go.WideShapes
def TZ : (τ : Ty) → T τ → Prop
 | .i k, n => k.has n
 | .b, _ => True
 | .o, _ => True
 | .mp _ _, _ => True
 | .s, x => ja x ≤ Xk
 | .sl e, xs => ja xs ≤ Xk ∧ ∀ i (h : i < ja xs), TZ e (List.get xs ⟨i, h⟩)
 | .u, _ => True
 | .p x y, v => TZ x v.1 ∧ TZ y v.2
def Ty.pos : Ty → Bool
 | .sl e => e.pos && ym 0 e.size
 | .p x y => x.pos && y.pos
 | .o => false
 | .mp _ _ => false
 | _ => true
section
variable {H : Type} {enc : TypeId × Value → H} {P : Program} {w : World} {base : Nat} {spare : Nat → Bool} {held : Bool}
theorem Cr {τ : Ty} {t : TypeId} (h : Ke P τ t = true) : P.cellsOf t = τ.size := by
 obtain ⟨i, h1, h2, _⟩ := Tok.size h
 simp [Program.cellsOf, h1, h2]
theorem HaB {k : IntKind} {n : Int} (h : (Lit.int k n).wf = true) : k.has n := by
 simpa [Lit.wf, IntKind.has] using h
theorem YaE {a : Addr} {n : Nat} (h : n ≠ 0) : a.add n = ⟨a.block, a.off + n, none⟩ := by
 simp [Addr.add, h]
theorem HT {a : Addr} {n : Nat} {cs : List Value} (h : w.cells? base a n = some cs) (hn : 0 < n) :
 ∃ cur et fr, a = ⟨a.block, a.off, none⟩ ∧ w.heap[a.block]? = some (.cells cur et fr) ∧ a.off + n ≤ cur.size ∧ cs = Ee cur a.off n := by
 unfold World.cells? at h
 split at h
 ·have hlen : cs.length = n := by simpa using mapM_some_length h
  have hget : ∀ i, i < n → w.cell? (a.add i) = cs[i]? := fun i hi => mapM_some_get h i i (by simp [hi])
  have h0 := hget 0 hn
  have ha : a.add 0 = a := by simp [Addr.add]
  rw [ha] at h0
  have hc0 : cs[0]? = some (cs[0]'(by omega)) := je (by omega)
  rw [hc0] at h0
  unfold World.cell? at h0
  split at h0
  ·rename_i cur et fr hb
   have hsp : a.spot = none := by
    cases hs : a.spot with
    | none => rfl
    | some x => simp [hs] at h0
   have hcell : ∀ i, i < n → cur[a.off + i]? = cs[i]? := by
    intro i hi
    have := hget i hi
    by_cases hi0 : i = 0
    ·subst hi0
     rw [ha] at this
     unfold World.cell? at this
     rw [hb] at this
     simpa [hsp] using this
    ·rw [YaE hi0] at this
     unfold World.cell? at this
     simp only at this
     rw [hb] at this
     simpa using this
   refine ⟨cur, et, fr, by cases a; simp_all, hb, ?_, ?_⟩
   ·have h1 := hcell (n - 1) (by omega)
    rw [je (by omega)] at h1
    have := (Array.getElem?_eq_some_iff.1 h1).1
    omega
   ·apply q0
    intro i
    by_cases hi : i < n
    ·rw [Bg _ _ _ _ hi, hcell i hi]
    ·rw [ya (by omega), ya]
     simp [Ee]; omega
  ·simp at h0
 ·simp at h
theorem Aaz {fs : List Field} {o : Nat} (h : Tg P .u fs o = true) : fs = [] := by
 cases fs <;> simp_all [Tg]
theorem Oaa {x y : Ty} {fs : List Field} {o : Nat} (h : Tg P (.p x y) fs o = true) : ∃ f r, fs = f :: r ∧ f.offset = o ∧ Ke P x f.type = true ∧ Tg P y r (o + x.size) = true := by
 cases fs with
 | nil => simp [Tg] at h
 | cons f r =>
  simp only [Tg, jd] at h
  exact ⟨f, r, rfl, ju h.1.1.1, h.1.2, h.2⟩
theorem O8 {x y : Ty} {t : TypeId} (h : Ke P (.p x y) t = true) : ∃ fs, P.underlying t = some (.struct fs) ∧ Tg P (.p x y) fs.toList 0 = true := by
 simp only [Ke, jd] at h
 obtain ⟨_, h⟩ := h
 split at h
 ·rename_i fs hfs
  refine ⟨fs, hfs, ?_⟩
  split at h
  ·rename_i f r hr
   rw [hr]
   simpa [Tg] using h
  ·simp at h
 ·simp at h
theorem P8 {t : TypeId} (h : Ke P .u t = true) : ∃ fs, P.underlying t = some (.struct fs) ∧ fs.size = 0 := by
 simp only [Ke, jd] at h
 obtain ⟨_, h⟩ := h
 split at h
 ·rename_i fs hfs
  exact ⟨fs, hfs, ju h⟩
 ·simp at h
mutual
theorem GV (hO : ∀ b, ¬ (fun _ : Nat => False) b) : ∀ (τ : Ty) (t : TypeId) (n : Nat) (cs : List Value) (x : DataW H × List MemPlace), Ke P τ t = true → τ.pos = true →
 DataW.trod enc P w base spare held n t cs = some x → ∃ y : T τ, Ta w (fun _ => False) τ y cs ∧ TZ τ y
 | .i k, t, n, cs, x, ht, _, h => by
  obtain ⟨m, h1, _, h2⟩ := DataW.trod_int (Tok.i ht) h
  exact ⟨m, h1, HaB h2⟩
 | .b, t, n, cs, x, ht, _, h => by
  obtain ⟨m, h1, _⟩ := DataW.trod_bool (Tok.b ht) h
  exact ⟨m, h1, trivial⟩
 | .o, t, n, cs, x, ht, hp, h => by simp [Ty.pos] at hp
 | .mp _ _, t, n, cs, x, ht, hp, h => by simp [Ty.pos] at hp
 | .s, t, n, cs, x, ht, _, h => by
  obtain ⟨m, h1, _, h2⟩ := DataW.trod_string (Tok.s ht) h
  refine ⟨m.data.toList, ?_, ?_⟩
  ·show cs = [.string ⟨q8 m.data.toList⟩]
   rw [h1]
  ·show m.data.toList.length ≤ Xk
   have : m.size = m.data.toList.length := Array.length_toList.symm
   unfold maxLen at h2
   unfold Xk
   omega
 | .sl e, t, n, cs, x, ht, hp, h => by
  obtain ⟨et, hu, he⟩ := Tok.sl ht
  simp only [Ty.pos, jd] at hp
  have hpos : 0 < e.size := by simpa using hp.2
  rcases DataW.trod_slice hu h with ⟨h1, _⟩ | ⟨a, len, cap, elems, rest, m, _, h1, _, _, h2, h3, h4, h5, _, _⟩
  ·exact ⟨([] : List (T e)), ⟨none, 0, h1, jo _, zj _, .inl rfl⟩, ⟨zj _, fun i hi => absurd hi (Nat.not_lt_zero i)⟩⟩
  ·rw [Cr he] at h5
   have hone : ∀ i, i < len → ∃ y : T e, ∃ cs', w.cells? base (a.add (i * e.size)) e.size = some cs' ∧ Ta w (fun _ => False) e y cs' ∧ TZ e y := by
    intro i hi
    have := h5 i hi
    rw [je (by omega), qi] at this
    obtain ⟨cs', hc, hy⟩ := this
    obtain ⟨y, hv, hr⟩ := GV hO e et m cs' _ he hp.1 hy
    exact ⟨y, cs', hc, hv, hr⟩
   let ys : List (T e) := List.ofFn fun i : Fin len => Classical.choose (hone i.1 i.2)
   have hlen : ys.length = len := by simp [ys]
   have hy : ∀ i (h : i < ys.length), ∃ cs', w.cells? base (a.add (i * e.size)) e.size = some cs' ∧ Ta w (fun _ => False) e (ys.get ⟨i, h⟩) cs' ∧ TZ e (ys.get ⟨i, h⟩) := by
    intro i hi
    have := Classical.choose_spec (hone i (by omega))
    simpa [ys] using this
   have hmax : len ≤ Xk := by unfold maxLen at h3; unfold Xk; omega
   refine ⟨ys, ⟨some a, cap, by rw [h1, hlen], by rw [hlen]; exact h2, by rw [hlen]; exact hmax, ?_⟩, by rw [hlen]; exact hmax, fun i hi => (hy i hi).choose_spec.2.2⟩
   by_cases hl0 : len = 0
   ·left
    exact yj (by omega)
   ·right
    obtain ⟨cs0, hc0, _⟩ := hy 0 (by omega)
    have ha0 : a.add (0 * e.size) = a := by simp [Addr.add]
    rw [ha0] at hc0
    obtain ⟨cur, et', fr, ha, hb, _, _⟩ := HT hc0 hpos
    have hadd : ∀ i, (a.add (i * e.size)).block = a.block ∧ (a.add (i * e.size)).off = a.off + i * e.size := by
     intro i
     unfold Addr.add
     split
     ·rename_i hz; simp [hz]
     ·exact ⟨rfl, rfl⟩
    refine ⟨a.block, a.off, cur, et', fr, by rw [← ha], fun h => h, hb, ?_, ?_⟩
    ·obtain ⟨cs1, hc1, _⟩ := hy (len - 1) (by omega)
     obtain ⟨cur1, et1, fr1, _, hb1, hs1, _⟩ := HT hc1 hpos
     rw [(hadd _).1, hb] at hb1
     simp only [jc, Obj.cells.injEq] at hb1
     rw [(hadd _).2, ← hb1.1] at hs1
     have : len * e.size = (len - 1) * e.size + e.size := by
      rw [← y3]; congr 1; omega
     show a.off + ys.length * e.size ≤ cur.size
     rw [hlen]
     omega
    ·intro i hi
     obtain ⟨cs1, hc1, hv, _⟩ := hy i hi
     obtain ⟨cur1, et1, fr1, _, hb1, _, hs1⟩ := HT hc1 hpos
     rw [(hadd _).1, hb] at hb1
     simp only [jc, Obj.cells.injEq] at hb1
     rw [(hadd _).2, ← hb1.1] at hs1
     rw [← hs1]
     exact hv
 | .u, t, n, cs, x, ht, _, h => by
  obtain ⟨fs, hu, hz⟩ := P8 ht
  obtain ⟨xs, m, _, _, hl, _⟩ := DataW.trod_struct hu h
  rw [Cr ht] at hl
  exact ⟨(), yj hl, trivial⟩
 | .p a c2, t, n, cs, x, ht, hp, h => by
  obtain ⟨fs, hu, hf⟩ := O8 ht
  obtain ⟨xs, m, _, _, hl, _, hget⟩ := DataW.trod_struct hu h
  rw [Cr ht] at hl
  have := AX hO (.p a c2) fs.toList 0 m cs hf hp (by simpa using hl) (by
   intro i f hi
   have := hget i f (by simpa using hi)
   have hlt : i < xs.length := by
    have : i < fs.toList.length := (yk.1 hi).1
    simp at this; omega
   exact ⟨_, this.trans (je hlt)⟩)
  simpa using this
termination_by τ => (sizeOf τ, 1)
theorem AX (hO : ∀ b, ¬ (fun _ : Nat => False) b) : ∀ (τ : Ty) (fs : List Field) (o m : Nat) (cs : List Value), Tg P τ fs o = true → τ.pos = true → cs.length = o + τ.size →
 (∀ (i : Nat) (f : Field), fs[i]? = some f → ∃ x, DataW.trod enc P w base spare held m f.type ((cs.drop f.offset).take (P.cellsOf f.type)) = some x) →
 ∃ y : T τ, Ta w (fun _ => False) τ y (cs.drop o) ∧ TZ τ y
 | .p a c2, fs, o, m, cs, hf, hp, hl, hx => by
  obtain ⟨f, r, rfl, ho, ht, hr⟩ := Oaa hf
  simp only [Ty.pos, jd] at hp
  simp only [Ty.size] at hl
  obtain ⟨z, hz⟩ := hx 0 f rfl
  rw [Cr ht, ho] at hz
  obtain ⟨y1, hv1, hr1⟩ := GV hO a f.type m _ z ht hp.1 hz
  obtain ⟨y2, hv2, hr2⟩ := AX hO c2 r (o + a.size) m cs hr hp.2 (by omega) (fun i f' hi => hx (i + 1) f' (by simpa using hi))
  refine ⟨(y1, y2), ⟨(cs.drop o).take a.size, cs.drop (o + a.size), ?_, hv1, hv2⟩, hr1, hr2⟩
  rw [← q7, List.take_append_drop]
 | .u, fs, o, m, cs, _, _, hl, _ => ⟨(), by simp only [Ta, Ty.size] at hl ⊢; exact List.drop_of_length_le (by omega), trivial⟩
 | .i _, fs, o, m, cs, hf, _, _, _ => by simp [Tg] at hf
 | .b, fs, o, m, cs, hf, _, _, _ => by simp [Tg] at hf
 | .o, fs, o, m, cs, hf, _, _, _ => by simp [Tg] at hf
 | .mp _ _, fs, o, m, cs, hf, _, _, _ => by simp [Tg] at hf
 | .s, fs, o, m, cs, hf, _, _, _ => by simp [Tg] at hf
 | .sl _, fs, o, m, cs, hf, _, _, _ => by simp [Tg] at hf
termination_by τ => (sizeOf τ, 0)
end
end
open Go Go.WideShapes Go.ChangeShapes
def Xl (P : Program) : Ty → List TypeId → Bool
 | .p x y, t :: ts => Ke P x t && x.pos && Xl P y ts
 | .u, [] => true
 | _, _ => false
section
variable {H : Type} {enc : TypeId × Value → H} {P : Program} {w : World} {base : Nat} {spare : Nat → Bool} {held : Bool}
theorem Sam {τ : Ty} {t : TypeId} {v : Value} {r : Reach} {b0 : Nat} (ht : Ke P τ t = true) (h : Value.okWide P w r b0 t v) : v = Oe τ v.cells.toList := by
 have key : ∀ {τ : Ty}, τ.isAgg = false → v.cells = #[v] → v = Oe τ v.cells.toList := by
  intro τ h1 h2
  rw [h2]; simp [Oe, h1]
 cases τ with
 | i k =>
  obtain ⟨n, rfl⟩ := okWide_int (Tok.i ht) h
  exact key rfl rfl
 | b =>
  obtain ⟨n, rfl⟩ := okWide_bool (Tok.b ht) h
  exact key rfl rfl
 | o =>
  refine key rfl ?_
  obtain ⟨et, hu⟩ := Tok.o ht
  unfold Value.okWide at h
  rw [hu] at h
  cases v with
  | agg cs => simp [Cell.okWide, Cell.ok, hu] at h
  | _ => rfl
 | mp _ _ =>
  refine key rfl ?_
  obtain ⟨kt, et, hu, _⟩ := Tok.mp ht
  unfold Value.okWide at h
  rw [hu] at h
  cases v with
  | agg cs => simp [Cell.okWide, Cell.ok, hu] at h
  | _ => rfl
 | s =>
  refine key rfl ?_
  have hu := Tok.s ht
  unfold Value.okWide at h
  rw [hu] at h
  cases v with
  | agg cs => simp [Cell.okWide, Cell.ok, hu] at h
  | _ => rfl
 | sl e =>
  refine key rfl ?_
  obtain ⟨et, hu, _⟩ := Tok.sl ht
  unfold Value.okWide at h
  rw [hu] at h
  cases v with
  | agg cs => simp [Cell.okWide, Cell.ok, hu] at h
  | _ => rfl
 | u =>
  obtain ⟨fs, hu, _⟩ := P8 ht
  obtain ⟨cs, rfl, _⟩ := okWide_struct hu h
  simp [Oe, Ty.isAgg, Value.cells]
 | p x y =>
  obtain ⟨fs, hu, _⟩ := O8 ht
  obtain ⟨cs, rfl, _⟩ := okWide_struct hu h
  simp [Oe, Ty.isAgg, Value.cells]
theorem FV : ∀ {pt : Ty} {ts : List TypeId} {vs : List Value} {ds : List (DataW H)} {ps : List MemPlace}, Xl P pt ts = true → DataW.TrodAll enc P w 0 spare held ts vs ds ps →
 (∀ (j : Nat) t v, ts[j]? = some t → vs[j]? = some v → Value.okWide P w .any base t v) → ∃ x : T pt, Xh w (fun _ => False) pt x vs ∧ TZ pt x
 | .p x y, t :: ts, v :: vs, d :: ds, ps, hp, h, hv => by
  simp only [Xl, jd] at hp
  obtain ⟨p, q, ⟨n, h1⟩, h2, _⟩ := h
  obtain ⟨a, ha, hra⟩ := GV (fun _ h => h) x t n _ _ hp.1.1 hp.1.2 h1
  obtain ⟨b, hb, hrb⟩ := FV hp.2 h2 fun j t' v' h1 h2 => hv (j + 1) t' v' (by simpa using h1) (by simpa using h2)
  exact ⟨(a, b), ⟨⟨_, Sam hp.1.1 (hv 0 t v rfl rfl), ha⟩, hb⟩, hra, hrb⟩
 | .u, [], [], [], _, _, _, _ => ⟨(), trivial, trivial⟩
 | .p _ _, [], _, _, _, hp, _, _ => by simp [Xl] at hp
 | .u, _ :: _, _, _, _, hp, _, _ => by simp [Xl] at hp
 | .i _, _, _, _, _, hp, _, _ => by simp [Xl] at hp
 | .b, _, _, _, _, hp, _, _ => by simp [Xl] at hp
 | .o, _, _, _, _, hp, _, _ => by simp [Xl] at hp
 | .mp _ _, _, _, _, _, hp, _, _ => by simp [Xl] at hp
 | .s, _, _, _, _, hp, _, _ => by simp [Xl] at hp
 | .sl _, _, _, _, _, hp, _, _ => by simp [Xl] at hp
 | .p _ _, _ :: _, [], _, _, _, h, _ => by simp [DataW.TrodAll] at h
 | .p _ _, _ :: _, _ :: _, [], _, _, h, _ => by simp [DataW.TrodAll] at h
 | .u, [], _ :: _, _, _, _, h, _ => by simp [DataW.TrodAll] at h
 | .u, [], [], _ :: _, _, _, h, _ => by simp [DataW.TrodAll] at h
def JV (P : Program) (t : TypeId) : Prop := ∃ τ : Ty, Ke P τ t = true ∧ τ.pos = true
theorem Paa : ∀ {τ : Ty} {fs : List Field} {o : Nat}, Tg P τ fs o = true → τ.pos = true →
 (∀ f ∈ fs, JV P f.type) ∧ τ.size = (fs.map fun f => P.cellsOf f.type).sum ∧ ∀ (j : Nat) f, fs[j]? = some f → f.offset = o + ((fs.take j).map fun f => P.cellsOf f.type).sum
 | .u, fs, o, h, _ => by
  rw [Aaz h]
  simp [Ty.size]
 | .p x y, fs, o, h, hp => by
  obtain ⟨f, r, rfl, ho, ht, hr⟩ := Oaa h
  simp only [Ty.pos, jd] at hp
  obtain ⟨h1, h2, h3⟩ := Paa hr hp.2
  refine ⟨?_, ?_, ?_⟩
  ·intro g hg
   rcases jp.1 hg with rfl | hg
   ·exact ⟨x, ht, hp.1⟩
   ·exact h1 g hg
  ·simp [Ty.size, Cr ht, h2]
  ·intro j g hj
   cases j with
   | zero => simp at hj; subst hj; simp [ho]
   | succ j =>
    have := h3 j g (by simpa using hj)
    simp [this, Cr ht, jt]
 | .i _, fs, o, h, _ => by simp [Tg] at h
 | .b, fs, o, h, _ => by simp [Tg] at h
 | .o, fs, o, h, _ => by simp [Tg] at h
 | .mp _ _, fs, o, h, _ => by simp [Tg] at h
 | .s, fs, o, h, _ => by simp [Tg] at h
 | .sl _, fs, o, h, _ => by simp [Tg] at h
theorem YI {t : TypeId} {u : TypeDesc} (h : JV P t) (hu : P.underlying t = some u) : (∃ k, u = .int k) ∨ u = .bool ∨ u = .string ∨ (∃ e, u = .slice e ∧ JV P e ∧ 0 < P.cellsOf e) ∨ ∃ fs, u = .struct fs := by
 obtain ⟨τ, ht, hp⟩ := h
 cases τ with
 | i k => rw [Tok.i ht] at hu; exact .inl ⟨k, (Option.some.inj hu).symm⟩
 | b => rw [Tok.b ht] at hu; exact .inr (.inl (Option.some.inj hu).symm)
 | o => simp [Ty.pos] at hp
 | mp _ _ => simp [Ty.pos] at hp
 | s => rw [Tok.s ht] at hu; exact .inr (.inr (.inl (Option.some.inj hu).symm))
 | sl e =>
  obtain ⟨et, h1, h2⟩ := Tok.sl ht
  rw [h1] at hu
  simp only [Ty.pos, jd] at hp
  exact .inr (.inr (.inr (.inl ⟨et, (Option.some.inj hu).symm, ⟨e, h2, hp.1⟩, by rw [Cr h2]; simpa using hp.2⟩)))
 | u => obtain ⟨fs, h1, _⟩ := P8 ht; rw [h1] at hu; exact .inr (.inr (.inr (.inr ⟨fs, (Option.some.inj hu).symm⟩)))
 | p x y => obtain ⟨fs, h1, _⟩ := O8 ht; rw [h1] at hu; exact .inr (.inr (.inr (.inr ⟨fs, (Option.some.inj hu).symm⟩)))
theorem Oak : Kids P (JV P) := by
 refine ⟨?_, ?_, ?_, ?_, ?_⟩
 ·intro t e ht hu
  rcases YI ht hu with ⟨k, h⟩ | h | h | ⟨e', h, _⟩ | ⟨fs, h⟩ <;> simp at h
 ·intro t e ht hu
  rcases YI ht hu with ⟨k, h⟩ | h | h | ⟨e', h, h2, _⟩ | ⟨fs, h⟩ <;> simp at h
  rw [h]; exact h2
 ·intro t e n ht hu
  rcases YI ht hu with ⟨k, h⟩ | h | h | ⟨e', h, _⟩ | ⟨fs, h⟩ <;> simp at h
 ·intro t fs ht hu
  obtain ⟨τ, ht, hp⟩ := ht
  cases τ with
  | i k => rw [Tok.i ht] at hu; simp at hu
  | b => rw [Tok.b ht] at hu; simp at hu
  | o => simp [Ty.pos] at hp
  | mp _ _ => simp [Ty.pos] at hp
  | s => rw [Tok.s ht] at hu; simp at hu
  | sl e => obtain ⟨et, h1, _⟩ := Tok.sl ht; rw [h1] at hu; simp at hu
  | u =>
   obtain ⟨fs', h1, h2⟩ := P8 ht
   rw [h1] at hu
   simp only [jc, TypeDesc.struct.injEq] at hu
   subst hu
   have : fs'.toList = [] := by simpa using h2
   rw [Cr ht, this]
   simp [Ty.size]
  | p x y =>
   obtain ⟨fs', h1, h2⟩ := O8 ht
   rw [h1] at hu
   simp only [jc, TypeDesc.struct.injEq] at hu
   subst hu
   obtain ⟨a, b, c⟩ := Paa h2 hp
   exact ⟨a, by rw [Cr ht, b], fun j f hj => by simpa using c j f hj⟩
 ·intro t k e ht hu
  rcases YI ht hu with ⟨k, h⟩ | h | h | ⟨e', h, _⟩ | ⟨fs, h⟩ <;> simp at h
theorem KX : ∀ {pt : Ty} {ts : List TypeId}, Xl P pt ts = true → ∀ t ∈ ts, JV P t
 | .p x y, t :: ts, h, t', ht => by
  simp only [Xl, jd] at h
  rcases jp.1 ht with rfl | ht
  ·exact ⟨x, h.1.1, h.1.2⟩
  ·exact KX h.2 t' ht
 | .u, [], _, _, ht => by simp at ht
 | .p _ _, [], _, _, ht => by simp at ht
 | .u, _ :: _, h, _, _ => by simp [Xl] at h
 | .i _, _, h, _, _ => by simp [Xl] at h
 | .b, _, h, _, _ => by simp [Xl] at h
 | .o, _, h, _, _ => by simp [Xl] at h
 | .mp _ _, _, h, _, _ => by simp [Xl] at h
 | .s, _, h, _, _ => by simp [Xl] at h
 | .sl _, _, h, _, _ => by simp [Xl] at h
theorem PS {w' : World} {sp' : Nat → Bool} : ∀ {ts : List TypeId} {vs : List Value} {ds : List (DataW H)} {ps : List MemPlace}, (∀ t ∈ ts, JV P t) →
 DataW.TrodAll enc P w 0 (fun _ => true) true ts vs ds ps → (∀ p ∈ ps, w.sameAt w' p) → (∀ p ∈ ps, sp' p.block = true) → DataW.TrodAll enc P w' 0 sp' true ts vs ds ps
 | [], [], [], _, _, h, _, _ => h
 | t :: ts, v :: vs, d :: ds, ps, hp, h, h1, h2 => by
  obtain ⟨p, q, ⟨n, ha⟩, hb, rfl⟩ := h
  refine ⟨p, q, ⟨n, DataW.trod_stays Oak ?_ (fun h => by simp at h) (hp t (by simp)) ha (fun z hz => h1 z (yb _ hz)) (fun z hz => h2 z (yb _ hz))⟩,
   PS (fun t ht => hp t (by simp [ht])) hb (fun z hz => h1 z (yc _ hz)) (fun z hz => h2 z (yc _ hz)), rfl⟩
  intro t e ht hu
  rcases YI ht hu with ⟨k, h⟩ | h | h | ⟨e', h, _, h2⟩ | ⟨fs, h⟩ <;> simp at h
  rw [h]; exact h2
 | [], _ :: _, _, _, _, h, _, _ => by simp [DataW.TrodAll] at h
 | [], [], _ :: _, _, _, h, _, _ => by simp [DataW.TrodAll] at h
 | _ :: _, [], _, _, _, h, _, _ => by simp [DataW.TrodAll] at h
 | _ :: _, _ :: _, [], _, _, h, _, _ => by simp [DataW.TrodAll] at h
theorem OX : ∀ {ts : List TypeId} {vs : List Value} {ds : List (DataW H)} {ps : List MemPlace}, DataW.TrodAll enc P w base spare held ts vs ds ps → ds.length = ts.length
 | [], [], [], _, _ => rfl
 | _ :: _, _ :: _, _ :: _, _, h => by
  obtain ⟨_, _, _, h, _⟩ := h
  simp [OX h]
 | [], _ :: _, _, _, h => by simp [DataW.TrodAll] at h
 | [], [], _ :: _, _, h => by simp [DataW.TrodAll] at h
 | _ :: _, [], _, _, h => by simp [DataW.TrodAll] at h
 | _ :: _, _ :: _, [], _, h => by simp [DataW.TrodAll] at h
theorem AF.but {w w' : World} (h : AF w w' fun _ => False) (may : MemPlace → Prop) : w.keptBut w' may := by
 refine ⟨h.os, h.output, fun i hi => ?_⟩
 rw [h.block i hi (fun h => h)]
 cases w.heap[i]? with
 | none => rfl
 | some o =>
  cases o with
  | cells c t fr => exact ⟨rfl, rfl, rfl, fun _ _ => rfl⟩
  | map es clock => exact .inr ⟨rfl, rfl⟩
  | _ => rfl
def noI : Oi := ⟨0, fun _ => True, fun _ _ _ h => h⟩
theorem Qak {C : Checked} {os : Os} {f : FuncId} {fn : Func} {s : ChangeSpec} {apart fresh handsOn again : Bool} {pt : Ty} {fl : Bool} {F : T pt → Option (Bool × Unit)} {tb : TypeId}
 (own : ownKnob C.prog.godebug = none) (started : os.Started) (noInit : C.prog.inits.idxOf? f = none) (hfn : C.prog.funcs[f]? = some fn)
 (witness : ∃ (w : World) (tape : Tape) (i : Input), w.os = os ∧ (w.forCall tape i).Shaped C.prog ∧ i.vars = [] ∧ Input.okWide C.prog (w.forCall tape i) .any w.heap.size f i ∧
  s.pre6 enc C.prog fn [] apart (w.forCall tape i).memory i.args ∧ ({} : Assume).holds C.prog (lone (Frame.enter C.prog f i.args .normal) [] (w.forCall tape i)))
 (hvars : s.vars = []) (hs : ∀ ds : List (DataW H), ds.length = fn.params.toList.length → s.fn H ds = { results := [.lit (.bool true)], args := ds })
 (hp : Xl C.prog pt fn.params.toList = true) (hr : fn.resultTypes = #[tb]) (htb : C.prog.underlying tb = some .bool)
 (hsound : Zj C.prog noI f (.pu pt (.p .b .u) [fl] F)) (hF : ∀ x, TZ pt x → F x = some (true, ())) :
 ReturnsInHanded {} C os f .any (s.pre6 enc C.prog fn [] apart) (s.post enc C.prog fn apart fresh handsOn again) := by
 refine returnsInHanded_of_change own started noInit hfn witness ?_
 intro W b0 args ds gs before hval hW _ _
 have hW0 := hW
 obtain ⟨p, q, hA, hV, hps, hfz, hnd⟩ := hW
 rw [hvars] at hV
 have hgs : gs = [] ∧ q = [] := by
  cases gs with
  | nil => exact ⟨rfl, hV⟩
  | cons _ _ => exact hV.elim
 obtain ⟨rfl, rfl⟩ := hgs
 simp only [List.append_nil] at hps
 subst hps
 obtain ⟨x, hx, hrx⟩ := FV (base := b0) hp hA fun j t v h1 h2 => hval j t v (by simpa using h1) (by simpa using h2)
 have hcall := hsound.2 (fun _ => False) W x (true, ()) args.toList (hF x hrx) hx (fun _ h => h.elim) trivial (zj _)
 refine hcall.mono fun e W' hret => ?_
 cases e with
 | returned v =>
  obtain ⟨vs, Fr, hv, hk, hR, _, _⟩ := hret
  have hvt : v = .bool true := by
   cases vs with
   | nil => simp [Od] at hR
   | cons a r =>
    obtain ⟨cs, F1, F2, ha, _, hown, hrest⟩ := hR
    cases r with
    | cons _ _ => simp [Od] at hrest
    | nil =>
     have hcs : cs = [.bool true] := by
      cases fl with
      | true => exact hown.1
      | false => exact hown.1
     rw [hv, JJ, ha, hcs]
     rfl
  subst hvt
  refine ⟨_, rfl, ?_⟩
  have hsp := hs ds (OX hA)
  have hlt : ∀ z ∈ before, z.block < W.heap.size := hW0.lt
  have hsame : ∀ z ∈ before, W.sameAt W' z := by
   intro z hz
   have hb := hk.block z.block (hlt z hz) (fun h => h)
   cases z with
   | cell b off =>
    show W'.cell? _ = W.cell? _
    simp only [World.cell?]
    rw [show W'.heap[b]? = W.heap[b]? from hb]
   | map b => exact hb
  have hargs : ∀ sp : Nat → Bool, (∀ z ∈ before, sp z.block = true) → DataW.TrodAll enc C.prog W' 0 sp true fn.params.toList args.toList ds before :=
   fun sp h => PS (KX hp) hA hsame h
  have hres : ∀ (b : Nat) (sp : Nat → Bool) (hd : Bool), DataW.TrodAll enc C.prog W' b sp hd fn.resultTypes.toList ((Value.bool true).resultList fn.resultTypes.size) [.lit (.bool true)] [] := by
   intro b sp hd
   rw [hr]
   exact trodAll_mk1 (Go.RowKit.shut_bool htb true)
  have hold : ∀ z ∈ before, (fun b => decide (b < W.heap.size)) z.block = true := fun z hz => by simpa using hlt z hz
  refine ⟨ds, [], before, [], before, [], hW0, ?_, ?_, ?_, hk.but _, fun _ => ⟨?_, ds.cons (.lit (.bool true)), [], before, ⟨before, [], ?_, ?_, by simp, ?_, ?_⟩, fun z hz _ => hz⟩⟩
  ·rw [List.append_nil, hsp]; exact hres _ _ _
  ·rw [List.append_nil, hsp]; exact hargs _ hold
  ·rw [List.append_nil, hsp, hvars]; rfl
  ·intro j t r hj hv
   rw [hr] at hj hv
   match j, hj, hv with
   | 0, hj, hv =>
    simp only [List.getElem?_toArray, List.getElem?_cons_zero, jc] at hj
    simp [Value.resultList] at hv
    subst hj; subst hv
    exact Go.RowKit.okWide_bool_mk htb true
  ·exact trodAll_append (hargs _ (fun _ _ => rfl)) (hres _ _ _)
  ·rw [hvars]; rfl
  ·intro b off hz
   have := hfz b off hz
   unfold World.frozen? at this ⊢
   rw [show W'.heap[b]? = W.heap[b]? from hk.block b (hlt _ hz) (fun h => h)]
   exact this
  ·exact hnd
 | _ => exact hret.elim
end
noncomputable def Ib {X R : Type} (step : X → Option (X ⊕ R)) (x : X) : Option R :=
 open Classical in if h : ∃ m y, FJ step m x y then some h.choose_spec.choose else none
theorem FJ.det {X R : Type} {step : X → Option (X ⊕ R)} : ∀ {m n : Nat} {x : X} {y z : R}, FJ step m x y → FJ step n x z → y = z
 | 0, _, _, _, _, h, _ => h.elim
 | _ + 1, 0, _, _, _, _, h => h.elim
 | m + 1, n + 1, x, y, z, h, h' => by
  rcases h with h | ⟨x1, h, h1⟩ <;> rcases h' with h' | ⟨x2, h', h2⟩
  ·rw [h] at h'; simpa using h'
  ·rw [h] at h'; simp at h'
  ·rw [h] at h'; simp at h'
  ·rw [h] at h'
   simp only [jc, zk] at h'
   subst h'
   exact FJ.det h1 h2
theorem EN {X R : Type} {step : X → Option (X ⊕ R)} {x : X} {y : R} : Ib step x = some y ↔ ∃ m, FJ step m x y := by
 unfold Ib
 constructor
 ·intro h
  split at h
  ·rename_i hh
   simp only [jc] at h
   exact ⟨_, h ▸ hh.choose_spec.choose_spec⟩
  ·simp at h
 ·rintro ⟨m, h⟩
  have hh : ∃ m y, FJ step m x y := ⟨m, y, h⟩
  rw [dif_pos hh]
  exact congrArg some (FJ.det hh.choose_spec.choose_spec h)
theorem QR {X R : Type} {step : X → Option (X ⊕ R)} (x : X) : Ib step x = (step x).bind (Sum.elim (Ib step) some) := by
 apply Option.ext
 intro y
 rw [EN]
 constructor
 ·rintro ⟨m, h⟩
  cases m with
  | zero => exact h.elim
  | succ m =>
   rcases h with h | ⟨x', h, h'⟩
   ·simp [h]
   ·simp [h, EN.2 ⟨m, h'⟩]
 ·intro h
  rw [qi] at h
  obtain ⟨z, hz, h⟩ := h
  cases z with
  | inl x' =>
   obtain ⟨m, hm⟩ := EN.1 h
   exact ⟨m + 1, .inr ⟨x', hz, hm⟩⟩
  | inr z =>
   simp only [Sum.elim_inr, jc] at h
   subst h
   exact ⟨1, .inl hz⟩
def lp (fn : Func) (i : Nat) : Code := (Cf (fn.body.getD .skip)).getD i .skip
theorem J6 {G : Yf} {L : List (Nat × Sa)} {fn : Func} {i r : Nat} {ls : Sa} {R : ls.inT.X → Option (ls.inT.X ⊕ (ls.outT.X ⊕ ls.retT.X))}
 (h1 : Ql (lp fn i) = some r) (h2 : (Sb L r) = some ls) (h3 : ls.F = Ib R) (h4 : ∀ x, LN G L ls (lp fn i) x = R x) : Za G L (lp fn i) := by
 intro r' ls' hr hl x y hy
 rw [h1] at hr
 simp only [jc] at hr
 subst hr
 rw [h2] at hl
 simp only [jc] at hl
 subst hl
 rw [h3] at hy
 obtain ⟨m, hm⟩ := EN.1 hy
 have : LN G L ls (lp fn i) = R := funext h4
 rw [this]
 exact ⟨m, hm⟩
theorem HN {G : Yf} {L : List (Nat × Sa)} {fn : Func} {k : Nat} (hk : yd (Cf (fn.body.getD .skip)).length k = true) (h : ∀ i, i < k → Za G L (lp fn i)) :
 ∀ b, b ∈ Cf (fn.body.getD .skip) → Za G L b := by
 intro b hb
 obtain ⟨i, hi, rfl⟩ := List.mem_iff_getElem.1 hb
 have := h i (by rw [← ju hk]; exact hi)
 unfold lp at this
 rwa [qj, je hi] at this
theorem Oa {p : Nat → Prop} : ∀ i, i < 0 → p i := fun i h => absurd h (Nat.not_lt_zero i)
theorem Ka {p : Nat → Prop} {k : Nat} (h : p k) (hr : ∀ i, i < k → p i) : ∀ i, i < k + 1 → p i := by
 intro i hi
 rcases Nat.lt_or_eq_of_le (Nat.lt_succ_iff.1 hi) with hi | rfl
 ·exact hr i hi
 ·exact h
section
variable {P : Program}
theorem Gat {l : List (Nat × Ty)} {fs : List (Nat × Qa)} {m : List (Nat × Nat)} {z : Bool} {ar : List (Nat × Ty × Nat)} {mv ml : List Nat}
 (h : ((l.all fun x => Ke P x.2 x.1) && (ar.all fun x => XX P x.1 x.2.1 x.2.2)) = true) : EnvTy P ⟨l, fs, m, z, ar, mv, ml⟩ := by
 simp only [jd] at h
 exact ⟨fun t τ ht => zg.1 h.1 (t, τ) (Hz ht), fun t e n ht => zg.1 h.2 (t, e, n) (Hz ht)⟩
theorem W5 {I : Oi} {l : List (Nat × Ty)} {m : List (Nat × Nat)} {z : Bool} {ar : List (Nat × Ty × Nat)} {mv ml : List Nat}
 (h : ((l.all fun x => Ke P x.2 x.1) && (ar.all fun x => XX P x.1 x.2.1 x.2.2)) = true) : Dk P I ⟨l, [], m, z, ar, mv, ml⟩ :=
 { toEnvTy := Gat h, fn := fun f sem h => by simp [Sb] at h }
theorem Dk.cons {I : Oi} {l : List (Nat × Ty)} {fs : List (Nat × Qa)} {m : List (Nat × Nat)} {z : Bool} {ar : List (Nat × Ty × Nat)} {mv ml : List Nat} {f : Nat} {sem : Qa} (hs : Zj P I f sem)
 (h : Dk P I ⟨l, fs, m, z, ar, mv, ml⟩) : Dk P I ⟨l, (f, sem) :: fs, m, z, ar, mv, ml⟩ :=
 { toEnvTy := ⟨h.ty, h.ar⟩, fn := fun g s hg => by
    simp only [Id] at hg
    split at hg
    ·rename_i e
     simp only [jc] at hg
     subst e; subst hg
     exact hs
    ·exact h.fn g s hg }
theorem NM {fn : Func} (h : fn.body.isSome = true) : fn.body = some (fn.body.getD .skip) := by
 cases hb : fn.body with
 | none => rw [hb] at h; simp at h
 | some c => rfl
variable {I : Oi} {G : Yf} {L : List (Nat × Sa)}
theorem ZU (hG : Dk P I G) (hm : P.follows .mixedOrders = true) {f : FuncId} {fn : Func} {k : Nat} {pt rt : Ty} {fr : List Bool} {F : T pt → Option (T rt)} (hf : P.funcs[f]? = some fn)
 (hb : (fn.body.isSome && !(fn.name == "runtime.NumGoroutine") && jx pt.npar fn.ntmps && yd (Cf (fn.body.getD .skip)).length k) = true)
 (hL : ∀ i, i < k → Za G L (lp fn i)) (hF : ∀ x, evF G L fn pt rt fr x = F x) : Zj P I f (.pu pt rt fr F) := by
 simp only [jd, yx] at hb
 exact Mav hG hm hf (NM hb.1.1.1) hb.1.1.2 (HN hb.2 hL) (yi hb.1.2) fun x r h => (hF x).trans h
theorem Raq (hG : Dk P I G) (hfz : G.fz = false) (hm : P.follows .mixedOrders = true) {f : FuncId} {fn : Func} {k : Nat} {pt rt : Ty} {fr : List Bool} {F : T pt → Option (T rt)} (hf : P.funcs[f]? = some fn)
 (hb : (fn.body.isSome && !(fn.name == "runtime.NumGoroutine") && jx pt.npar fn.ntmps && yd (Cf (fn.body.getD .skip)).length k) = true)
 (hL : ∀ i, i < k → Za G L (lp fn i)) (hF : ∀ x, L8 G L fn pt rt fr x = F x) : Zj P I f (.co pt rt fr F) := by
 simp only [jd, yx] at hb
 exact Kav hG hfz hm hf (NM hb.1.1.1) hb.1.1.2 (HN hb.2 hL) (yi hb.1.2) fun x r h => (hF x).trans h
theorem Paq (hG : Dk P I G) {vw cv : Bool} (hfz : (!G.fz || ((vw && !cv) && JS G.att)) = true) (hm : P.follows .mixedOrders = true) {f : FuncId} {fn : Func} {k : Nat} {τ pt rt : Ty} {fr : List Bool} {F : T τ → T pt → Option (T τ × T rt)} (hf : P.funcs[f]? = some fn)
 (hb : (fn.body.isSome && !(fn.name == "runtime.NumGoroutine") && jx (pt.npar + 1) fn.ntmps && yd (Cf (fn.body.getD .skip)).length k) = true)
 (hL : ∀ i, i < k → Za G L (lp fn i)) (hF : ∀ x0 x, K8 G L fn vw cv τ pt rt fr x0 x = F x0 x) : Zj P I f (.bx vw cv τ pt rt fr F) := by
 simp only [jd, yx] at hb
 have hz : G.fz = false ∨ ((vw && !cv) = true ∧ JS G.att = true) := by
  simp only [ye, yx, jd] at hfz ⊢
  exact hfz
 exact Jav hG hz hm hf (NM hb.1.1.1) hb.1.1.2 (HN hb.2 hL) (yi hb.1.2) fun x0 x r h => (hF x0 x).trans h
theorem Saq (hG : Dk P I G) (hm : P.follows .mixedOrders = true) {f : FuncId} {fn : Func} {k : Nat} {pt τ : Ty} {F : T pt → Option (T τ)} (hf : P.funcs[f]? = some fn)
 (hb : (fn.body.isSome && !(fn.name == "runtime.NumGoroutine") && jx pt.npar fn.ntmps && yd (Cf (fn.body.getD .skip)).length k) = true)
 (hL : ∀ i, i < k → Za G L (lp fn i)) (hF : ∀ x, M8 G L fn pt τ x = F x) : Zj P I f (.nw pt τ F) := by
 simp only [jd, yx] at hb
 exact Lav hG hm hf (NM hb.1.1.1) hb.1.1.2 (HN hb.2 hL) (yi hb.1.2) fun x r h => (hF x).trans h
end
abbrev Ah : Ty := .p (.i .i64) (.p (.sl (.i .i64)) .u)
abbrev Ze : Ty := .p (.i .i64) (.p .o .u)
def hd (h : T .o) : Value := .slice h.1 h.2.1 h.2.2
section
variable {P : Program} {w w' : World}
theorem Daq {x : T Ah} {cs : List Value} {F : List Nat} (h : Kc w Ah x cs F) : ∃ h : T .o, cs = [.int .i64 x.1, hd h] ∧ Kc w (.sl (.i .i64)) x.2.1 [hd h] F := by
 obtain ⟨c1, c2, F1, F2, rfl, rfl, ⟨rfl, rfl⟩, c3, c4, F3, F4, rfl, rfl, h3, rfl, rfl⟩ := h
 have h3' := h3
 obtain ⟨_, ⟨e1, _, _⟩ | ⟨bl, off, cap, cur, et, Fs, e1, _⟩⟩ := h3
 ·subst e1
  exact ⟨(none, 0, 0), rfl, by simpa [hd] using h3'⟩
 ·subst e1
  exact ⟨(some ⟨bl, off, none⟩, ja x.2.1, cap), rfl, by simpa [hd] using h3'⟩
theorem TaF {x : T Ah} {h : T .o} {F : List Nat} (ho : Kc w (.sl (.i .i64)) x.2.1 [hd h] F) : Kc w Ah x [.int .i64 x.1, hd h] F :=
 ⟨[.int .i64 x.1], [hd h], [], F, rfl, rfl, ⟨rfl, rfl⟩, [hd h], [], F, [], by simp, by simp, ho, rfl, rfl⟩
theorem Gah (x : T Ze) (O : Nat → Prop) : Ta w O Ze x [.int .i64 x.1, hd x.2.1] :=
 ⟨[.int .i64 x.1], [hd x.2.1], rfl, rfl, [hd x.2.1], [], by simp, rfl, rfl⟩
theorem D4 {x : T Ze} {O : Nat → Prop} {cs : List Value} (h : Ta w O Ze x cs) : cs = [.int .i64 x.1, hd x.2.1] := by
 obtain ⟨c1, c2, rfl, rfl, c3, c4, rfl, rfl, rfl⟩ := h
 rfl
abbrev UZ := T Ah × T Ze × List Nat
def Wai (w : World) (p : UZ) : Prop := p.2.1.1 = p.1.1 ∧ Kc w (.sl (.i .i64)) p.1.2.1 [hd p.2.1.2.1] p.2.2
theorem Bav {l : List (T Ah)} {cs : List Value} {F : List Nat} (h : Kc w (.sl Ah) l cs F) :
 ∃ Q : List UZ, Q.map (·.1) = l ∧ Ta w (fun _ => False) (.sl Ze) (Q.map (·.2.1)) cs ∧ (∀ p ∈ Q, Wai w p) ∧ (Q.map (·.2.2)).flatten.Sublist F := by
 obtain ⟨hm, ⟨rfl, rfl, rfl⟩ | ⟨bl, off, cap, cur, et, Fs, rfl, hh, h1, h2, h3, rfl, hl, hv⟩⟩ := h
 ·exact ⟨[], rfl, ⟨none, 0, rfl, jo _, hm, .inl rfl⟩, by simp, by simp⟩
 ·have key : ∀ i : Fin (ja l), ∃ h : T .o, Ee cur (off + i.val * Ah.size) Ah.size = [.int .i64 (List.get l i).1, hd h] ∧ Kc w (.sl (.i .i64)) (List.get l i).2.1 [hd h] (Fs.getD i.val []) :=
   fun i => Daq (hv i.val i.isLt)
  have ⟨g, hg⟩ := Classical.axiomOfChoice key
  let Q : List UZ := List.ofFn fun i : Fin (ja l) => (List.get l i, ((List.get l i).1, g i, ()), Fs.getD i.val [])
  have hQ : ∀ i (hi : i < ja l), Q[i]'(by simp [Q]; exact hi) = (List.get l ⟨i, hi⟩, ((List.get l ⟨i, hi⟩).1, g ⟨i, hi⟩, ()), Fs.getD i []) := fun i hi => by simp [Q]
  have hQl : Q.length = ja l := by simp [Q]
  refine ⟨Q, ?_, ?_, ?_, ?_⟩
  ·apply List.ext_getElem
   ·simp [hQl]
   ·intro i h1 h2
    rw [List.getElem_map, hQ i h2]; rfl
  ·have hlen : ja (Q.map (·.2.1)) = ja l := by simp [hQl]
   refine ⟨_, cap, by rw [hlen], by rw [hlen]; exact h1, by rw [hlen]; exact hm, .inr ⟨bl, off, cur, et, _, rfl, fun h => h, hh, ?_, fun i hi => ?_⟩⟩
   ·rw [hlen]
    have := jm Ah.size h1
    exact qe (Nat.add_le_add_left this _) h3
   ·have hi' : i < ja l := by rw [← hlen]; exact hi
    have e : List.get (Q.map (·.2.1)) ⟨i, hi⟩ = ((List.get l ⟨i, hi'⟩).1, g ⟨i, hi'⟩, ()) := by
     show (Q.map (·.2.1))[i] = _
     rw [List.getElem_map, hQ i hi']
    rw [e]
    have := (hg ⟨i, hi'⟩).1
    show Ta w _ Ze _ (Ee cur (off + i * Ah.size) Ah.size)
    rw [this]
    exact Gah (((List.get l ⟨i, hi'⟩).1, g ⟨i, hi'⟩, ()) : T Ze) _
  ·intro p hp
   obtain ⟨i, hi, rfl⟩ := qu hp
   have hi' : i < ja l := by rw [← hQl]; exact hi
   rw [hQ i hi']
   exact ⟨rfl, (hg ⟨i, hi'⟩).2⟩
  ·have e : Q.map (·.2.2) = Fs := by
    apply List.ext_getElem
    ·simp [hQl, hl]
    ·intro i h1 h2
     have hi' : i < ja l := by rw [← hl]; exact h2
     rw [List.getElem_map, hQ i hi']
     simp [q9, je h2]
   rw [e]
   exact List.sublist_cons_self _ _
theorem Rav {Q : List UZ} {cs : List Value} {F : List Nat} (h : Kc w (.sl Ze) (Q.map (·.2.1)) cs F) (hQ : ∀ p ∈ Q, Wai w p) :
 ∃ F', Kc w (.sl Ah) (Q.map (·.1)) cs F' ∧ (∀ b, b ∈ F' → b ∈ F ∨ b ∈ (Q.map (·.2.2)).flatten) ∧ ((∀ b, b ∈ F → b ∉ (Q.map (·.2.2)).flatten) → F.Nodup → (Q.map (·.2.2)).flatten.Nodup → F'.Nodup) := by
 obtain ⟨hm, ⟨rfl, hn, rfl⟩ | ⟨bl, off, cap, cur, et, Fs, rfl, hh, h1, h2, h3, rfl, hl, hv⟩⟩ := h
 ·have : Q = [] := List.map_eq_nil_iff.1 hn
  subst this
  exact ⟨[], ⟨hm, .inl ⟨rfl, rfl, rfl⟩⟩, by simp, by simp⟩
 ·have hlen : ja (Q.map (·.2.1)) = Q.length := by simp
  have hlen1 : ja (Q.map (·.1)) = Q.length := by simp
  rw [hlen] at hm h1 hl
  refine ⟨bl :: (Q.map (·.2.2)).flatten, ⟨by rw [hlen1]; exact hm, .inr ⟨bl, off, cap, cur, et, Q.map (·.2.2), by rw [hlen1]; simp, hh, by rw [hlen1]; exact h1, h2, h3, rfl, by simp, fun i hi => ?_⟩⟩, ?_, ?_⟩
  ·have hi' : i < Q.length := by rw [← hlen1]; exact hi
   have hv' := hv i (by rw [hlen]; exact hi')
   have e0 : List.get (Q.map (·.2.1)) ⟨i, by rw [hlen]; exact hi'⟩ = Q[i].2.1 := by
    show (Q.map (·.2.1))[i]'_ = _
    rw [List.getElem_map]
   have e1 : List.get (Q.map (·.1)) ⟨i, hi⟩ = Q[i].1 := by
    show (Q.map (·.1))[i]'_ = _
    rw [List.getElem_map]
   rw [e0] at hv'
   rw [e1]
   have hF0 : ∀ b, b ∈ Fs.getD i [] → False := by
    intro b hb
    obtain ⟨c1, c2, F1, F2, _, hF, ⟨_, rfl⟩, c3, c4, F3, F4, _, rfl, ⟨_, rfl⟩, _, rfl⟩ := hv'
    rw [hF] at hb; simp at hb
   have hcs := D4 (Kc.view (O := fun _ => False) hv' (fun b hb h => h))
   have hok := hQ Q[i] (qt hi')
   have e2 : (Q.map (·.2.2)).getD i [] = Q[i].2.2 := by
    simp [q9, je hi']
   rw [e2]
   show Kc w Ah _ (Ee cur (off + i * Ze.size) Ze.size) _
   rw [hcs, hok.1]
   exact TaF hok.2
  ·intro b hb
   rcases jp.1 hb with rfl | hb
   ·exact .inl (by simp)
   ·exact .inr hb
  ·intro hdj _ hnd
   exact yy.2 ⟨hdj bl (by simp), hnd⟩
end
def AE (same : T Ah → T Ah → Bool) : T Ah → List (T Ah) → List (T Ah)
 | _, [] => []
 | a, x :: r => cond (same a x) (AE same x r) (x :: AE same x r)
def YK (same : T Ah → T Ah → Bool) : T Ah → List UZ → List UZ
 | _, [] => []
 | a, x :: r => cond (same a x.1) (YK same x.1 r) (x :: YK same x.1 r)
def XQ (c : T Ze → T Ze → Option Bool) : T Ze → List (T Ze) → Option (List (T Ze))
 | _, [] => some []
 | a, x :: r => jz (c a x) fun b => jz (XQ c x r) fun q => some (cond b q (x :: q))
theorem CY (same : T Ah → T Ah → Bool) : ∀ (Q : List UZ) (a : T Ah), (YK same a Q).map (·.1) = AE same a (Q.map (·.1))
 | [], _ => rfl
 | x :: r, a => by
  simp only [YK, AE, yw]
  cases same a x.1 with
  | true => simp only [zz]; exact CY same r x.1
  | false => simp only [ua, yw]; rw [CY same r x.1]
theorem DY (same : T Ah → T Ah → Bool) : ∀ (Q : List UZ) (a : T Ah), (YK same a Q).Sublist Q
 | [], _ => .slnil
 | x :: r, a => by
  simp only [YK]
  cases same a x.1 with
  | true => exact (DY same r x.1).cons x
  | false => exact (DY same r x.1).cons_cons x
theorem Wad {same : T Ah → T Ah → Bool} {c : T Ze → T Ze → Option Bool} {R : T Ah → T Ze → Prop} (hc : ∀ a ao b bo, R a ao → R b bo → c ao bo = some (same a b)) :
 ∀ (Q : List UZ) (a : T Ah) (ao : T Ze), R a ao → (∀ p ∈ Q, R p.1 p.2.1) → XQ c ao (Q.map (·.2.1)) = some ((YK same a Q).map (·.2.1))
 | [], _, _, _, _ => rfl
 | x :: r, a, ao, h, hq => by
  have hx := hq x (by simp)
  simp only [yw, XQ, YK, hc _ _ _ _ h hx, jb]
  rw [Wad hc r x.1 x.2.1 hx (fun p hp => hq p (by simp [hp]))]
  simp only [jb]
  cases same a x.1 <;> rfl
theorem Mad {α : Type} {a b : List (List α)} (h : a.Sublist b) : a.flatten.Sublist b.flatten := by
 induction h with
 | slnil => simp
 | cons x _ ih => rw [y0]; exact ih.trans (List.sublist_append_right _ _)
 | cons_cons x _ ih => rw [y0, y0]; exact (List.Sublist.refl x).append ih
def ZL (x : T Ah) : Bool := jx (ja x.2.1) Xa
noncomputable def Qaj (same : T Ah → T Ah → Bool) (a : T Ah) (l : List (T Ah)) : Option (List (T Ah) × Unit) :=
 bif jx (ja l) Xa && (ZL a && l.all ZL) then some (AE same a l, ()) else none
theorem Haz {w : World} {O O' : Nat → Prop} {xs ys : List Int} {v : Value} (h1 : Ta w O (.sl (.i .i64)) xs [v]) (h2 : Ta w O' (.sl (.i .i64)) ys [v]) : xs = ys := by
 obtain ⟨a, cap, e1, _, _, h1⟩ := h1
 obtain ⟨a', cap', e2, _, _, h2⟩ := h2
 rw [e1] at e2
 simp only [yv, Value.slice.injEq, and_true] at e2
 obtain ⟨rfl, hlen, rfl⟩ := e2
 have hlen' : xs.length = ys.length := hlen
 rcases h1 with h1 | ⟨bl, off, cur, et, fr, ha, _, hh, hs, hv⟩
 ·have h1' : xs = [] := h1
  subst h1'
  exact (yj (by simpa using hlen'.symm)).symm
 ·rcases h2 with h2 | ⟨bl', off', cur', et', fr', ha', _, hh', hs', hv'⟩
  ·have h2' : ys = [] := h2
   subst h2'
   exact yj (by simpa using hlen')
  ·rw [ha] at ha'
   simp only [jc, Addr.mk.injEq, and_true] at ha'
   obtain ⟨rfl, rfl⟩ := ha'
   rw [hh] at hh'
   simp only [jc] at hh'
   injection hh' with e3 _ _
   subst e3
   apply List.ext_getElem hlen'
   intro i h1 h2
   have p1 := hv i h1
   have p2 := hv' i h2
   have p1' : Ee cur (off + i * 1) 1 = [Value.int .i64 xs[i]] := p1
   have p2' : Ee cur (off + i * 1) 1 = [Value.int .i64 ys[i]] := p2
   rw [p1'] at p2'
   simpa using p2'
open Classical in
noncomputable def MT (w : World) (h : T .o) : Option (List Int) :=
 if hx : ∃ xs : List Int, Ta w (fun _ => False) (.sl (.i .i64)) xs [hd h] ∧ ja xs ≤ Xa then some hx.choose else none
theorem T5 {w : World} {h : T .o} {xs : List Int} (hc : MT w h = some xs) : Ta w (fun _ => False) (.sl (.i .i64)) xs [hd h] ∧ ja xs ≤ Xa := by
 unfold MT at hc
 split at hc
 ·rename_i hx
  simp only [jc] at hc
  rw [← hc]; exact hx.choose_spec
 ·simp at hc
theorem Yad {w : World} {h : T .o} {xs : List Int} (hv : Ta w (fun _ => False) (.sl (.i .i64)) xs [hd h]) (hl : ja xs ≤ Xa) : MT w h = some xs := by
 unfold MT
 have hx : ∃ xs : List Int, Ta w (fun _ => False) (.sl (.i .i64)) xs [hd h] ∧ ja xs ≤ Xa := ⟨xs, hv, hl⟩
 rw [dif_pos hx]
 rw [Haz hx.choose_spec.1 hv]
noncomputable def W9 (w : World) (same : T Ah → T Ah → Bool) (a b : T Ze) : Option Bool :=
 jz (MT w a.2.1) fun u => jz (MT w b.2.1) fun v => some (same (a.1, u, ()) (b.1, v, ()))
@[reducible] noncomputable def X4 (c : T Ze → T Ze → Option Bool) : Qa := .pu (.p Ze (.p Ze .u)) (.p .b .u) [true] (fun x => jz (c x.1 x.2.1) fun b => some (b, ()))
theorem Sal {w w2 : World} (h : ∀ b, b < w.heap.size → w2.heap[b]? = w.heap[b]?) {τ : Ty} {x : T τ} {cs : List Value} {O : Nat → Prop} (hv : Ta w O τ x cs) : Ta w2 O τ x cs :=
 Ta.stable (fun b _ hb => h b hb) (fun _ _ h => h) hv
theorem Qaq {P : Program} {I0 : Oi} {f f2 : FuncId} {SR : T (.p Ah (.p Ah .u)) → Option (T (.p .b .u))} {same : T Ah → T Ah → Bool}
 (hSR : ∀ a b : T Ah, ja a.2.1 ≤ Xa → ja b.2.1 ≤ Xa → SR (a, b, ()) = some (same a b, ()))
 (h2 : Zj P I0 f2 (.pu (.p Ah (.p Ah .u)) (.p .b .u) [true] SR))
 (h : ∀ (I : Oi) (c : T Ze → T Ze → Option Bool), Zj P I f2 (X4 c) → ∃ FO, Zj P I f (.pu (.p Ze (.p (.sl Ze) .u)) (.p (.sl Ze) .u) [true] FO) ∧
  ∀ (a : T Ze) (l r : List (T Ze)), ja l ≤ Xa → XQ c a l = some r → FO (a, l, ()) = some (r, ())) :
 Zj P I0 f (.co (.p Ah (.p (.sl Ah) .u)) (.p (.sl Ah) .u) [true] (fun x => Qaj same x.1 x.2.1)) := by
 have hE : LG P f := by
  have hS0 : Zj P I0 f2 (X4 fun _ _ => none) := ⟨h2.1, fun O w x r args hF => by simp at hF⟩
  obtain ⟨FO, hs, _⟩ := h I0 _ hS0
  exact hs.1
 refine ⟨hE, ?_⟩
 intro O w x r F0 args hF hA hnd hO hI hbase hF0
 obtain ⟨a, l, u⟩ := x
 match args, hA with
 | [a1, a2], hA =>
 obtain ⟨cs1, F1, F2', rfl, rfl, ho1, cs2, F2, F3, rfl, rfl, ho2, hF3⟩ := hA
 have hF3' : F3 = [] := hF3
 subst hF3'
 rw [List.append_nil] at *
 simp only [Qaj] at hF
 cases hsm : (jx (ja l) Xa && (ZL a && l.all ZL)) with
 | false => rw [hsm] at hF; simp at hF
 | true =>
 rw [hsm] at hF
 simp only [zz, jc] at hF
 subst hF
 simp only [jd, zg, ZL] at hsm
 have hl1 : ja l ≤ Xa := yi hsm.1
 have hl2 : ja a.2.1 ≤ Xa := yi hsm.2.1
 have hl3 : ∀ x ∈ l, ja x.2.1 ≤ Xa := fun x hx => yi (hsm.2.2 x hx)
 obtain ⟨ah, rfl, hoa⟩ := Daq ho1
 obtain ⟨Q, rfl, hvQ, hokQ, hsub⟩ := Bav ho2
 let I : Oi := ⟨w.heap.size, fun w2 => w.heap.size ≤ w2.heap.size ∧ ∀ b, b < w.heap.size → w2.heap[b]? = w.heap[b]?, fun w1 w2 hb h1 => by
  refine ⟨?_, fun b hlt => (hb b hlt).trans (h1.2 b hlt)⟩
  rcases Nat.eq_zero_or_pos w.heap.size with h0 | h0
  ·omega
  ·have e := (hb (w.heap.size - 1) (by omega)).trans (h1.2 (w.heap.size - 1) (by omega))
   rw [Array.getElem?_eq_getElem (show w.heap.size - 1 < w.heap.size by omega)] at e
   have := (Array.getElem?_eq_some_iff.1 e).1
   omega⟩
 have hS : Zj P I f2 (X4 (W9 w same)) := by
  refine ⟨h2.1, ?_⟩
  intro O2 w2 x2 r2 args2 hF2 hA2 hO2 hI2 hb2
  obtain ⟨p, q, u2⟩ := x2
  match args2, hA2 with
  | [b1, b2], hA2 =>
  obtain ⟨⟨c1, rfl, hv1⟩, ⟨c2, rfl, hv2⟩, _⟩ := hA2
  simp only [W9] at hF2
  cases hu : MT w p.2.1 with
  | none => rw [hu] at hF2; simp at hF2
  | some xu =>
   cases hv : MT w q.2.1 with
   | none => rw [hu, hv] at hF2; simp at hF2
   | some xv =>
    rw [hu, hv] at hF2
    simp only [jb, jc] at hF2
    subst hF2
    obtain ⟨hxu, lxu⟩ := T5 hu
    obtain ⟨hxv, lxv⟩ := T5 hv
    have e1 := D4 hv1
    have e2 := D4 hv2
    subst e1; subst e2
    have mk : ∀ (p : T Ze) (xs : List Int), Ta w (fun _ => False) (.sl (.i .i64)) xs [hd p.2.1] → Ta w2 (fun _ => False) Ah (p.1, xs, ()) [.int .i64 p.1, hd p.2.1] := fun p xs hx =>
     ⟨[.int .i64 p.1], [hd p.2.1], rfl, rfl, [hd p.2.1], [], by simp, Sal hI2.2 hx, rfl⟩
    have hc := h2.2 (fun _ => False) w2 ((p.1, xu, ()), (q.1, xv, ()), ()) (same (p.1, xu, ()) (q.1, xv, ()), ()) [Oe Ze [.int .i64 p.1, hd p.2.1], Oe Ze [.int .i64 q.1, hd q.2.1]]
     (hSR _ _ lxu lxv) ⟨⟨_, rfl, mk p xu hxu⟩, ⟨_, rfl, mk q xv hxv⟩, trivial⟩ (fun b h => h.elim) (I0.st _ _ (fun b hb => hI2.2 b (qn hb hbase)) hI) (qe hbase hI2.1)
    refine hc.mono ?_
    intro e w3 hR
    cases e with
    | returned v =>
     obtain ⟨vs, Fr, hvs, hK, hR, hn, hfr⟩ := hR
     exact ⟨vs, Fr, hvs, hK, hR.all rfl, hn, hfr⟩
    | panicked _ => exact hR
    | outgrown => exact hR
 obtain ⟨FO, hs, hFO⟩ := h I (W9 w same) hS
 have hrel : ∀ a ao b bo, (fun (x : T Ah) (y : T Ze) => y.1 = x.1 ∧ Ta w (fun _ => False) (.sl (.i .i64)) x.2.1 [hd y.2.1] ∧ ja x.2.1 ≤ Xa) a ao →
  (fun (x : T Ah) (y : T Ze) => y.1 = x.1 ∧ Ta w (fun _ => False) (.sl (.i .i64)) x.2.1 [hd y.2.1] ∧ ja x.2.1 ≤ Xa) b bo → W9 w same ao bo = some (same a b) := by
  rintro a ao b bo ⟨e1, v1, l1⟩ ⟨e2, v2, l2⟩
  simp only [W9, Yad v1 l1, Yad v2 l2, jb, e1, e2]
 have hch := Wad (R := fun (x : T Ah) (y : T Ze) => y.1 = x.1 ∧ Ta w (fun _ => False) (.sl (.i .i64)) x.2.1 [hd y.2.1] ∧ ja x.2.1 ≤ Xa) hrel Q a (a.1, ah, ())
  ⟨rfl, Kc.view hoa fun b _ h => h, hl2⟩ (fun p hp => ⟨(hokQ p hp).1, Kc.view (hokQ p hp).2 fun b _ h => h, hl3 p.1 (ze hp)⟩)
 have hFO' := hFO (a.1, ah, ()) (Q.map (·.2.1)) _ (by simpa using hl1) hch
 have hc := hs.2 (fun _ => False) w ((a.1, ah, ()), Q.map (·.2.1), ()) ((YK same a Q).map (·.2.1), ()) [Oe Ze [.int .i64 a.1, hd ah], Oe (.sl Ze) cs2] hFO'
  ⟨⟨_, rfl, Gah ((a.1, ah, ()) : T Ze) _⟩, ⟨_, rfl, hvQ⟩, trivial⟩ (fun b h => h.elim) ⟨jo _, fun _ _ => rfl⟩ (jo _)
 refine hc.mono ?_
 intro e w3 hR
 cases e with
 | panicked _ => exact hR
 | outgrown => exact hR
 | returned v =>
  obtain ⟨vs, Fr, hvs, hK, hR, hn, hfr⟩ := hR
  match vs, hR with
  | [v1], hR =>
  obtain ⟨cs, G1, G2, rfl, rfl, hown, hG2⟩ := hR
  have hG2' : G2 = [] := hG2
  subst hG2'
  rw [List.append_nil] at *
  simp only [if_true] at hown
  have hlt : ∀ b, b ∈ F2 → b < w.heap.size := fun b hb => ho2.lt b hb
  have hsubQ := DY same Q a
  have hok3 : ∀ p ∈ YK same a Q, Wai w3 p := fun p hp => by
   have h0 := hokQ p (hsubQ.mem hp)
   exact ⟨h0.1, Kc.stable h0.2 fun b hb => hK.block b (h0.2.lt b hb) (fun h => h)⟩
  obtain ⟨F', ho', hm', hnd'⟩ := Rav hown hok3
  have hsub2 : ((YK same a Q).map (·.2.2)).flatten.Sublist F2 := by
   refine List.Sublist.trans ?_ hsub
   exact Mad (hsubQ.map _)
  have hndF2 : F2.Nodup := (yz.1 hnd).2.1
  have hnF' : F'.Nodup := hnd' (fun b hb hb2 => by
   have h3 := hfr b hb
   have h4 := hlt b (hsub2.mem hb2)
   omega) hn (hsub2.nodup hndF2)
  refine ⟨[Oe (.sl Ze) cs], F', hvs, ⟨hK.size, fun b hb _ => hK.block b hb (fun h => h), hK.os, hK.tape, hK.output⟩, ⟨cs, F', [], rfl, by simp, ?_, rfl⟩, hnF', ?_⟩
  ·simp only [if_true]
   rw [← CY]
   exact ho'
  ·intro b hb
   rcases hm' b hb with hb | hb
   ·exact .inl (hfr b hb)
   ·exact .inr (yc _ (hsub2.mem hb))
noncomputable def srt (xs : List Int) : Option (List Int × Unit) := bif jx (ja xs) Xa then some (List.mergeSort xs (fun x y => decide (x ≤ y)), ()) else none
theorem CaC {cur : Array Value} {k : Nat} {v : Value} (h : Ee cur k 1 = [v]) : cur[k]? = some v := by
 have := congrArg (·[0]?) h
 simp only [Bg cur k 1 0 (by omega)] at this
 simpa using this
theorem LaB {cur : Array Value} {k : Nat} {v : Value} (h : cur[k]? = some v) : Ee cur k 1 = [v] := by
 apply q0
 intro j
 by_cases hj : j = 0
 ·subst hj; rw [Bg cur k 1 0 (by omega)]; simpa using h
 ·have hk : k < cur.size := (Array.getElem?_eq_some_iff.1 h).1
  have hl : (Ee cur k 1).length = 1 := Ie (by omega)
  rw [ya (by omega), ya (by simp; omega)]
theorem Kal {P : Program} {ρ : Go.Shelf.Ren} {f : FuncId} {I : Oi} (L : Go.Proofs.Lays.n191 P ρ) (hf : ρ.f 191 = f) : Zj P I f (.io (.sl (.i .i64)) .u .u [] (fun x0 _ => srt x0)) := by
 subst hf
 refine ⟨⟨_, L.f191, rfl, rfl⟩, ?_⟩
 intro O w x0 x r cs0 F0 args hF ho hnd hA hO _ _ _
 match args, hA with
 | [], _ =>
 simp only [srt] at hF
 cases hl : jx (ja x0) Xa with
 | false => rw [hl] at hF; simp at hF
 | true =>
 rw [hl] at hF
 simp only [zz, jc] at hF
 subst hF
 have hlim : Xa = 1073741824 := rfl
 have hx : ja x0 ≤ Xa := yi hl
 have ho0 := ho
 obtain ⟨hm, ⟨rfl, hn, rfl⟩ | ⟨bl, off, cap, cur, et, Fs, rfl, hh, h1, h2, h3, rfl, hlen, hv⟩⟩ := ho
 ·have hn' : x0 = [] := hn
  subst hn'
  refine (Go.Proofs.Any.sort_Ints_none L none 0 w).mono ?_
  rintro e w' ⟨rfl, rfl⟩
  refine ⟨[], [], [], rfl, ⟨jo _, fun _ _ _ => rfl, rfl, rfl, rfl⟩, ?_, by simp, rfl, List.nodup_nil, by simp⟩
  show Kc w' (.sl (.i .i64)) (List.mergeSort ([] : List Int) _) _ _
  simpa using ho0
 ·have hcell : ∀ i (hi : i < x0.length), cur[off + i]? = some (.int .i64 x0[i]) := by
   intro i hi
   have := (hv i hi).1
   have e : Ee cur (off + i * 1) 1 = [Value.int .i64 x0[i]] := this
   rw [Nat.mul_one] at e
   exact CaC e
  have hFs : ∀ b, b ∈ Fs.flatten → False := by
   intro b hb
   obtain ⟨l, hl, hb⟩ := List.mem_flatten.1 hb
   obtain ⟨i, hi, rfl⟩ := qu hl
   have := (hv i (by rw [← hlen]; exact hi)).2
   rw [qj, je hi] at this
   simp only [yg] at this
   rw [this] at hb; simp at hb
  have hH : Go.Sort.Holds (Value.int .i64) w bl off x0.toArray := by
   intro j hj
   have hj' : j < x0.length := by simpa using hj
   refine ⟨?_, ?_⟩
   ·unfold World.cell?
    simp only [hh]
    rw [hcell j hj']
    simp [getElem!_pos, hj']
   ·unfold World.frozen?
    simp [hh]
  have hbl : bl < w.heap.size := (Array.getElem?_eq_some_iff.1 hh).1
  refine (Go.Proofs.Any.sort_Ints L bl off cap x0 w hH hbl (by omega)).mono ?_
  rintro e w' ⟨rfl, n, os, rfl⟩
  generalize hzs : (x0.mergeSort fun x y => decide (x ≤ y)) = zs
  have hzl : zs.length = x0.length := by rw [← hzs]; exact List.length_mergeSort _
  have hheap : ∀ b, b < w.heap.size → (Go.Sort.grow (Go.Sort.putRow (Value.int .i64) (Go.Sort.ahead w n) bl off zs.toArray) os).heap[b]? = if bl = b then (w.heap[b]?).map (Go.Sort.onCells (Go.Sort.putCells (Value.int .i64) off zs.toArray)) else w.heap[b]? := by
   intro b hb
   simp only [Go.Sort.grow, Go.Sort.putRow, Go.Sort.mapBlock, Go.Sort.ahead]
   rw [Array.getElem?_append_left (by simpa using hb), Array.getElem?_modify]
  refine ⟨[], bl :: Fs.flatten, [], rfl, ⟨?_, ?_, rfl, rfl, rfl⟩, ?_, fun b hb => .inr hb, rfl, by simpa using hnd, by simp⟩
  ·simp only [Go.Sort.grow, Array.size_append, Go.Sort.size_putRow, Go.Sort.ahead]
   omega
  ·intro b hb hno
   have hne : bl ≠ b := fun e => hno (by rw [e]; simp)
   rw [hheap b hb, if_neg hne]
  ·have hcs : ([.slice (some ⟨bl, off, none⟩) (ja x0) cap] : List Value) = [.slice (some ⟨bl, off, none⟩) (ja (zs : List Int)) cap] := by rw [hzl]
   show Kc _ (.sl (.i .i64)) (zs : List Int) _ _
   rw [hcs]
   refine ⟨by show zs.length ≤ Xk; rw [hzl]; exact hm, .inr ⟨bl, off, cap, _, et, Fs, rfl, (hheap bl hbl).trans (by rw [if_pos rfl, hh]; rfl), by show zs.length ≤ cap; rw [hzl]; exact h1, h2, by simpa [Go.Sort.putCells] using h3, rfl, by show Fs.length = zs.length; rw [hzl]; exact hlen, fun i hi => ?_⟩⟩
   have hi' : i < zs.length := hi
   have hi2 : i < x0.length := by omega
   refine ⟨?_, ?_⟩
   ·show Ee _ (off + i * 1) 1 = [Value.int .i64 zs[i]]
    rw [Nat.mul_one]
    apply LaB
    simp only [Go.Sort.putCells, Array.getElem?_mapIdx, hcell i hi2, qf]
    rw [if_pos ⟨by omega, by simp; omega⟩, show off + i - off = i by omega]
    simp [getElem!_pos, hi']
   ·exact (hv i hi2).2

open Go Go.WideShapes Go.ChangeShapes
section
variable {H : Type} {enc : TypeId × Value → H}
end


def Wa {α S R : Type} (g : Nat → S → α → S ⊕ R) : Nat → S → List α → S ⊕ R
 | _, s, [] => .inl s
 | k, s, x :: xs => match g k s x with
  | .inl s' => Wa g (k + 1) s' xs
  | .inr r => .inr r
section
variable {X R : Type} {step : X → Option (X ⊕ R)}
theorem Mf {x : X} {z : Option (X ⊕ R)} (h : step x = z) : Ib step x = z.bind (Sum.elim (Ib step) some) := by
 rw [QR, h]
theorem HX {α S R' : Type} (xs : List α) (g : Nat → S → α → S ⊕ R') (I : Nat → S → X) (out : S → R) (ex : R' → R) (Oi : Nat → S → Prop)
 (h : ∀ k (hk : k < xs.length) s, Oi k s → step (I k s) = some (match g k s xs[k] with | .inl s' => .inl (I (k + 1) s') | .inr r => .inr (ex r)) ∧ ∀ s', g k s xs[k] = .inl s' → Oi (k + 1) s')
 (he : ∀ s, Oi xs.length s → step (I xs.length s) = some (.inr (out s))) (s0 : S) (h0 : Oi 0 s0) :
 Ib step (I 0 s0) = some (match Wa g 0 s0 xs with | .inl s => out s | .inr r => ex r) := by
 have key : ∀ (ys : List α) (k : Nat) (s : S), xs.drop k = ys → k ≤ xs.length → Oi k s → Ib step (I k s) = some (match Wa g k s ys with | .inl s => out s | .inr r => ex r) := by
  intro ys
  induction ys with
  | nil =>
   intro k s hd hle hi
   have : k = xs.length := by
    have := congrArg ja hd
    simp at this
    omega
   subst this
   rw [Mf (he s hi)]
   rfl
  | cons y ys ih =>
   intro k s hd hle hi
   have hk : k < xs.length := by
    have := congrArg ja hd
    simp at this
    omega
   have hy : xs[k] = y := by
    have := congrArg (·[0]?) hd
    simp [List.getElem?_drop, je hk] at this
    exact this
   obtain ⟨h1, h2⟩ := h k hk s hi
   rw [Mf h1]
   rw [hy] at h2 ⊢
   simp only [Wa]
   cases hg : g k s y with
   | inl s' =>
    simp only [jb, qm]
    refine ih (k + 1) s' ?_ hk (h2 s' hg)
    rw [← q7, hd]
    rfl
   | inr r => rfl
 exact key xs 0 s0 rfl (zj _) h0
theorem GN (I : Nat → X) (n : Nat) (out : R) (h : ∀ k, k < n → step (I k) = some (.inl (I (k + 1)))) (he : step (I n) = some (.inr out)) : Ib step (I 0) = some out := by
 have key : ∀ m k, m + k = n → Ib step (I k) = some out := by
  intro m
  induction m with
  | zero =>
   intro k hk
   have : k = n := by omega
   subst this
   rw [Mf he]; rfl
  | succ m ih =>
   intro k hk
   rw [Mf (h k (by omega))]
   exact ih (k + 1) (by omega)
 exact key n 0 (by omega)
end
theorem Qc {n : Int} (h1 : -9223372036854775808 ≤ n) (h2 : n ≤ 9223372036854775807) : j9 .i64 n = n := IntWalk.i64_in n ⟨h1, h2⟩
theorem Ag {k : Nat} (h : k < 9223372036854775807) : j9 .i64 ((k : Int) + 1) = ((k + 1 : Nat) : Int) := by
 rw [Qc (by omega) (by omega)]; omega
section
variable {α : Type}
theorem Gaz (xs : List α) (k : Nat) : Wb xs (k : Int) = xs[k]? := by simp [Wb]
theorem Ub {xs : List α} {k : Nat} (h : k < xs.length) : Wb xs (k : Int) = some xs[k] := by rw [Gaz, je h]
theorem Rat (x : α) (xs : List α) : Wb (x :: xs) 0 = some x := rfl
theorem Mm (n k : Nat) : Ci n (k : Int) = decide (k < n) := by
 simp [Ci]
theorem Aa {p : Prop} [Decidable p] (h : p) : decide p = true := decide_eq_true h
theorem Ba {p : Prop} [Decidable p] (h : ¬ p) : decide p = false := decide_eq_false h
theorem Xaq {xs : List α} {k : Nat} (h : k < xs.length) : xs.take (k + 1) = xs.take k ++ [xs[k]] := by
 rw [List.take_succ_eq_append_getElem h]
end
theorem Tf : Xa = 1073741824 := rfl
def Jc : (τ : Ty) → T τ → Nat
 | .i _, _ => 0
 | .b, _ => 0
 | .o, _ => 0
 | .mp _ _, _ => 0
 | .s, x => ja x
 | .sl e, xs => ja xs + (List.map (Jc e) xs).sum
 | .u, _ => 0
 | .p a c, v => Jc a v.1 + Jc c v.2
def Ty.hasS : Ty → Bool
 | .s => true
 | .sl e => e.hasS
 | .p x y => x.hasS || y.hasS
 | _ => false
def Ga : Nat := 1048576
theorem FG {α : Type} {f : α → Nat} {xs : List α} {k : Nat} (hk : k < xs.length) : f xs[k] ≤ (xs.map f).sum := by
 induction xs generalizing k with
 | nil => simp at hk
 | cons x xs ih =>
  cases k with
  | zero => simp
  | succ k =>
   have := ih (k := k) (by simpa using hk)
   simp only [List.getElem_cons_succ, yw, List.sum_cons]
   omega
theorem PZ : ∀ {τ : Ty} (_ : (τ.flat && !τ.hasS) = true) {x : T τ}, Jc τ x = 0
 | .i _, _, _ => rfl
 | .b, _, _ => rfl
 | .o, _, _ => rfl
 | .mp _ _, _, _ => rfl
 | .s, h, _ => by simp [Ty.hasS] at h
 | .sl _, h, _ => by simp [Ty.flat] at h
 | .u, _, _ => rfl
 | .p a c, h, x => by
  simp only [Ty.flat, Ty.hasS, jd, yx, zb] at h
  simp only [Jc]
  rw [PZ (τ := a) (by simp [h.1.1, h.2.1]), PZ (τ := c) (by simp [h.1.2, h.2.2])]
theorem Bp {e : Ty} (h : (e.flat && !e.hasS) = true) (xs : List (T e)) : Jc (.sl e) xs = ja xs := by
 simp only [Jc]
 have : List.map (Jc e) xs = yp xs.length 0 := by
  apply List.ext_getElem
  ·simp
  ·intro i h1 h2
   simp [PZ h]
 rw [this]
 simp
theorem Oh {α : Type} (b : Bool) (x y : α) : cond b (some x) (some y) = some (cond b x y) := by cases b <;> rfl
theorem Ph {α : Type} (b : Bool) (x y : α) : cond b (x, ()) (y, ()) = (cond b x y, ()) := by cases b <;> rfl
theorem Dd (b x y : Bool) : (cond b x y = true) ↔ ((b = true ∧ x = true) ∨ (¬ b = true ∧ y = true)) := by cases b <;> simp
theorem Nay {a b : Bool} (h : a = true ↔ b = true) : a = b := qx.2 h
theorem Tc {a b : Bool} (h : a = true ↔ b = true) : some (a, ()) = some (b, ()) := by rw [Nay h]
theorem RQ (a b : Int) : ((a == b) = true) ↔ a = b := by simp
theorem TK (a b : Int) : ((a != b) = true) ↔ ¬ a = b := by simp
def Cd {α : Type} (p : Nat → α → Bool) : Nat → List α → Bool
 | _, [] => true
 | k, x :: xs => p k x && Cd p (k + 1) xs
theorem Re {X R : Type} {step : X → Option (X ⊕ R)} {α : Type} (xs : List α) (p : Nat → α → Bool) (I : Int → X) (yes no : R)
 (h : ∀ k (hk : k < xs.length), step (I (k : Int)) = some (cond (p k xs[k]) (.inl (I (j9 .i64 ((k : Int) + 1)))) (.inr no)))
 (he : step (I (xs.length : Int)) = some (.inr yes)) (hn : xs.length < 9223372036854775807) :
 Ib step (I 0) = some (cond (Cd p 0 xs) yes no) := by
 have key : ∀ (ys : List α) (k : Nat), xs.drop k = ys → k ≤ xs.length → Ib step (I (k : Int)) = some (cond (Cd p k ys) yes no) := by
  intro ys
  induction ys with
  | nil =>
   intro k hd hle
   have : k = xs.length := by
    have := congrArg ja hd
    simp at this
    omega
   subst this
   rw [Mf he]
   rfl
  | cons y ys ih =>
   intro k hd hle
   have hk : k < xs.length := by
    have := congrArg ja hd
    simp at this
    omega
   have hy : xs[k] = y := by
    have := congrArg (·[0]?) hd
    simp [List.getElem?_drop, je hk] at this
    exact this
   have hd' : xs.drop (k + 1) = ys := by rw [← q7, hd]; rfl
   rw [Mf (h k hk), hy]
   simp only [Cd]
   cases hc : p k y with
   | true =>
    simp only [zz, jk, jb, qm]
    rw [← ih (k + 1) hd' hk, Ag (by omega)]
   | false => rfl
 have := key xs 0 rfl (zj _)
 simpa using this
theorem Pk {α : Type} {p : Nat → α → Bool} : ∀ {xs : List α} {k : Nat}, Cd p k xs = true ↔ ∀ j (hj : j < xs.length), p (k + j) xs[j] = true
 | [], _ => by simp [Cd]
 | x :: xs, k => by
  simp only [Cd, jd, Pk (xs := xs)]
  constructor
  ·rintro ⟨h1, h2⟩ j hj
   cases j with
   | zero => exact h1
   | succ j => simpa [jt, Nat.add_comm 1 j] using h2 j (by simpa using hj)
  ·intro h
   refine ⟨h 0 (by simp), fun j hj => ?_⟩
   have := h (j + 1) (by simpa using hj)
   rw [jt, Nat.add_comm 1 j]
   exact this
theorem V5 {α β γ : Type} (b : Bool) (x : α) (y : β) (f : α → γ) (g : β → γ) : Sum.elim f g (cond b (.inl x) (.inr y)) = cond b (f x) (g y) := by cases b <;> rfl
def Bd {α S : Type} (g : Nat → S → α → S) : Nat → S → List α → S
 | _, s, [] => s
 | k, s, x :: xs => Bd g (k + 1) (g k s x) xs
theorem Lz {α : Type} {xs ys : List α} {y : α} {k : Nat} (hd : xs.drop k = y :: ys) : ∃ hk : k < xs.length, xs[k] = y ∧ xs.drop (k + 1) = ys := by
 have hk : k < xs.length := by
  have := congrArg ja hd
  simp at this
  omega
 refine ⟨hk, ?_, by rw [← q7, hd]; rfl⟩
 have := congrArg (·[0]?) hd
 simp [List.getElem?_drop, je hk] at this
 exact this
theorem AL {α : Type} {xs : List α} {k : Nat} (hd : xs.drop k = []) (hk : k ≤ xs.length) : k = xs.length := by
 have := congrArg ja hd
 simp at this
 omega
theorem Kg {X R : Type} {step : X → Option (X ⊕ R)} {α S : Type} (xs : List α) (g : Nat → S → α → S) (I : S → Int → X) (out : S → R) (Oi : Nat → S → Prop)
 (h : ∀ k (hk : k < xs.length) s, Oi k s → step (I s (k : Int)) = some (.inl (I (g k s xs[k]) (j9 .i64 ((k : Int) + 1)))) ∧ Oi (k + 1) (g k s xs[k]))
 (he : ∀ s, Oi xs.length s → step (I s (xs.length : Int)) = some (.inr (out s))) (hn : xs.length < 9223372036854775807) (s0 : S) (h0 : Oi 0 s0) :
 Ib step (I s0 0) = some (out (Bd g 0 s0 xs)) ∧ Oi xs.length (Bd g 0 s0 xs) := by
 have key : ∀ (ys : List α) (k : Nat) (s : S), xs.drop k = ys → k ≤ xs.length → Oi k s → Ib step (I s (k : Int)) = some (out (Bd g k s ys)) ∧ Oi xs.length (Bd g k s ys) := by
  intro ys
  induction ys with
  | nil =>
   intro k s hd hle hi
   have := AL hd hle
   subst this
   rw [Mf (he s hi)]
   exact ⟨rfl, hi⟩
  | cons y ys ih =>
   intro k s hd hle hi
   obtain ⟨hk, hy, hd'⟩ := Lz hd
   obtain ⟨h1, h2⟩ := h k hk s hi
   rw [Mf h1, hy, Ag (by omega)]
   rw [hy] at h2
   exact ih (k + 1) _ hd' hk h2
 have := key xs 0 s0 rfl (zj _) h0
 simpa using this
theorem Wg {X R : Type} {step : X → Option (X ⊕ R)} {α S R' : Type} (xs : List α) (g : Nat → S → α → S ⊕ R') (I : S → Int → X) (out : S → R) (ex : R' → R) (Oi : Nat → S → Prop)
 (h : ∀ k (hk : k < xs.length) s, Oi k s → step (I s (k : Int)) = some (match g k s xs[k] with | .inl s' => .inl (I s' (j9 .i64 ((k : Int) + 1))) | .inr r => .inr (ex r)) ∧ ∀ s', g k s xs[k] = .inl s' → Oi (k + 1) s')
 (he : ∀ s, Oi xs.length s → step (I s (xs.length : Int)) = some (.inr (out s))) (hn : xs.length < 9223372036854775807) (s0 : S) (h0 : Oi 0 s0) :
 Ib step (I s0 0) = some (match Wa g 0 s0 xs with | .inl s => out s | .inr r => ex r) := by
 have := HX (step := step) xs g (fun k s => I s (k : Int)) out ex Oi (fun k hk s hi => by
  obtain ⟨h1, h2⟩ := h k hk s hi
  refine ⟨?_, h2⟩
  rw [h1, Ag (by omega)]) he s0 h0
 simpa using this
theorem z3 : ((3 : Int) == 0) = false := rfl
theorem Iq {n lo hi : Nat} (h1 : lo ≤ hi) (h2 : hi ≤ n) : We n (lo : Int) (hi : Int) = true := by
 simp [We]; omega
section
variable {α β : Type}
end
end KF
