/- An evaluator of Go functions on plain data, its soundness, and plain laws on what the functions compute, part 3 (conditions: as each lemma tells). -/
import Derived.Test.YtidohclodljepaaB
import Derived.Orders
import Derived.LoopN
import Derived.ChangeArms
import Derived.ChangeStays
import Derived.ChangeSame
import Derived.WideShapes
import Derived.RowKit
import Derived.Handed
import Derived.JoinedOf
import Derived.Lib.Split
import Derived.Lib.Join
import Derived.Lib.ItoaNum
import Derived.Lib.IndexMore
import Derived.Lib.Bytealg
import Derived.Lib.Atoi
import Derived.IntWalk
set_option linter.unusedSimpArgs false
set_option linter.unusedVariables false
namespace KF
open Go
open List renaming length → ja, getElem?_eq_getElem → je, append → jf, mem_append → jk, mem_cons → jo, mem_cons_of_mem → jq, set → jz, mem_singleton → j6, getD_eq_getElem?_getD → j8, mem_map → j9, ext_getElem? → qc, toArray → qd, getD → qe, getElem?_eq_none → qf, mem_append_left → qg, mem_append_right → qh, append_assoc → qk, eq_nil_of_length_eq_zero → qm, getElem?_eq_some_iff → qn, length_eq_one_iff → qo, replicate → qr, cons_append → qu, map_cons → qw, nodup_cons → qy, nodup_append → qz, mem_map_of_mem → q6, range → q8, map → ya
open Option renaming bind_some → jb, bind → jx, map_some → j5, bind_eq_some_iff → j7, getD_some → qj, map_eq_some_iff → q7
open Option.some renaming injEq → jc, inj → q9
open Bool renaming and_eq_true → jd, not_true → jg, true_and → ji, false_eq_true → jp, not_eq_true → j4, not_eq_true' → qx
open Prod.mk renaming injEq → jh
open Nat renaming mul_le_mul_right → jl, le_refl → jn, zero_add → jr, add_assoc → js, eq_of_beq_eq_true → jt, ble → jv, beq → qi, le_of_ble_eq_true → ql, add_zero → qp, blt → qq, blt_eq → qs, add_mul → qt, succ_mul → q0
open Int renaming toNat_natCast → jm, eq_ofNat_of_zero_le → ju, toNat → jw
open Go.IntKind renaming wrap → jy
open Result renaming andThen_ok → qa
open Sem renaming run_bind → qb
open List.cons renaming injEq → qv
section
variable {P : Program} {Out : Type} {n0 : Nat} {A : Fx} {O0 : Nat → Prop} {w0 w w' : World} {s s' : AS} {σ σ' : Nat → Value} {φ φ' : Nat → List Nat} {a : Act}
variable {o : Oper} {Q : Exit → Act → World → Prop} {k : AS → Option Out} {out : Out} {d : D} {v : Value} {upd : List (Nat × Option Ba)} {dst : Option Tmp} {G : Nc}
structure Eqv (s s' : AS) : Prop where
 n : s'.n = s.n
 tm : ∀ t, Oa s'.tm t = Oa s.tm t
 hp : ∀ id, s'.heap id = s.heap id
theorem Eqv.refl (s : AS) : Eqv s s := ⟨rfl, fun _ => rfl, fun _ => rfl⟩
theorem Eqv.trans {s1 s2 s3 : AS} (h : Eqv s1 s2) (h' : Eqv s2 s3) : Eqv s1 s3 := ⟨h'.n.trans h.n, fun t => (h'.tm t).trans (h.tm t), fun id => (h'.hp id).trans (h.hp id)⟩
theorem Eqv.symm {s1 s2 : AS} (h : Eqv s1 s2) : Eqv s2 s1 := ⟨h.n.symm, fun t => (h.tm t).symm, fun id => (h.hp id).symm⟩
theorem Ha.eqv (h : Ha n0 A O0 w0 s σ φ a w) (he : Eqv s s') : Ha n0 A O0 w0 s' σ φ a w := by
 have hh : s'.heap = s.heap := funext he.hp
 have hO : OO O0 s' φ = OO O0 s φ := by
  funext b
  simp only [OO, hh]
 refine ⟨by rw [he.n]; exact h.sz, h.df, ?_, ?_, ?_, ?_, ?_, h.o0, h.fr, h.pin, h.iv0, h.ivw, fun id kk e xs hb => by rw [hO]; exact h.shr id kk e xs (by rw [← hh]; exact hb)⟩
 ·intro t d hd
  rw [he.tm] at hd
  rw [hO, hh]
  exact h.tm t d hd
 ·intro id Aa hb
  rw [hh] at hb
  rw [hO, hh]
  exact h.hp id Aa hb
 ·intro id Aa hb
  rw [hh] at hb
  exact h.nodup id Aa hb
 ·intro id id' Aa blk' hne hb hb'
  rw [hh] at hb hb'
  exact h.disj id id' Aa blk' hne hb hb'
 ·intro id Aa hb
  rw [hh] at hb
  exact h.fresh id Aa hb
theorem Ws (h : Ha n0 A O0 w0 s σ φ a w) {ops : Array Oper} {j : Nat} {t : Tmp} {β : Bool} (hj : (ops[j]?).bind (·.dst) = some t) (hd : Oa s.tm t = some (.t .b β)) :
 yielded ops a.tmps j = some β := by
 obtain ⟨v, hv, hr⟩ := h.tm t _ hd
 rw [Ae] at hr
 subst hr
 unfold yielded
 rw [hj, jb, hv]
theorem Ut (h : Ha n0 A O0 w0 s σ φ a w) {ops : Array Oper} {j : Nat} {t : Tmp} (hj : (ops[j]?).bind (·.dst) = some t) (hd : Oa s.tm t = some .und) :
 yielded ops a.tmps j = none := by
 obtain ⟨v, hv, hr⟩ := h.tm t _ hd
 rw [Aj] at hr
 subst hr
 unfold yielded
 rw [hj, jb, hv]
 rfl
theorem Jc.mono {K : Act → World → Prop} (h : ∀ s σ φ a w, k s = some out → Ha n0 A O0 w0 s σ φ a w → K a w) {a : Act} {w : World} (hg : Jc n0 A O0 w0 k out a w) : K a w := by
 obtain ⟨s, σ, φ, h1, h2⟩ := hg
 exact h s σ φ a w h1 h2
theorem CC (h : Ha n0 A O0 w0 s σ φ a w) (he : Ie s dst .und [] k = some out) : Jc n0 A O0 w0 k out (a.put dst undef) w := Za h (Aj.2 rfl) he
theorem KD {n i : Nat} (h : i < n) : (q8 n).drop i = i :: (q8 n).drop (i + 1) := by
 rw [List.drop_eq_getElem_cons (by simpa using h)]
 simp
theorem LB (hG : Jg P A.I G) (hfz : Nr G A) {r : Nat} {ops : Array Oper} (hQ : ∀ s σ φ a w, k s = some out → Ha n0 A O0 w0 s σ φ a w → Q .normal a w) : ∀ (l : List Oper) (i : Nat) (s : AS) (σ : Nat → Value) (φ : Nat → List Nat) (a : Act) (w : World),
 ops.toList.drop i = l → Sl G r ops l i s k = some out → Ha n0 A O0 w0 s σ φ a w → wpOps P ops Q ((q8 ops.size).drop i) a w
 | [], i, s, σ, φ, a, w, hl, he, h => by
  have hi : ops.size ≤ i := by
   have := congrArg ja hl
   simp at this
   omega
  rw [List.drop_eq_nil_of_le (by simpa using hi)]
  exact hQ s σ φ a w he h
 | o :: l, i, s, σ, φ, a, w, hl, he, h => by
  have hi : i < ops.size := by
   have := congrArg ja hl
   simp at this
   omega
  have hoi : ops[i]? = some o := by
   have h1 := congrArg (·[0]?) hl
   simpa using h1
  have hl' : ops.toList.drop (i + 1) = l := by
   have h1 := congrArg (List.drop 1) hl
   simpa [List.drop_drop, Nat.add_comm] using h1
  have next : ∀ a w, Jc n0 A O0 w0 (fun s' => Sl G r ops l (i + 1) s' k) out a w → wpOps P ops Q ((q8 ops.size).drop (i + 1)) a w := by
   rintro a w ⟨s', σ', φ', h1, h2⟩
   exact LB hG hfz hQ l (i + 1) s' σ' φ' a w hl' h1 h2
  simp only [Sl] at he
  split at he
  ·simp at he
  rename_i s1 hat
  obtain ⟨φ1, h⟩ := Tl hfz h hat
  have run : ∀ s, Ha n0 A O0 w0 s σ φ1 a w → Jw G s o (fun s' => Sl G r ops l (i + 1) s' k) = some out → o.wp P a w (wpOps P ops Q ((q8 ops.size).drop (i + 1))) Q := fun s hs hop =>
   Oper.wp_mono next (MI hG hfz hs hop)
  have skp : ∀ s, Ha n0 A O0 w0 s σ φ1 a w → Ie s o.dst .und [] (fun s' => Sl G r ops l (i + 1) s' k) = some out → wpOps P ops Q ((q8 ops.size).drop (i + 1)) (a.put o.dst undef) w := fun s hs hop =>
   next _ _ (CC hs hop)
  rw [KD hi]
  simp only [wpOps, hoi]
  cases hg : o.guard with
  | none =>
   rw [hg] at he
   have hw : Region.wanted o (yielded ops a.tmps) = true := by simp [Region.wanted, hg]
   rw [if_pos hw]
   exact .inl (run s1 h he)
  | some g =>
   obtain ⟨j, want⟩ := g
   rw [hg] at he
   simp only at he
   split at he
   ·rename_i t ht
    split at he
    ·rename_i β hd
     have hy := Ws h ht hd
     have hwd : Region.wanted o (yielded ops a.tmps) = (some β == some want) := by simp [Region.wanted, hg, hy]
     have hs := h.same hd
     rw [hwd]
     cases hβ : (show Bool from β) with
     | true =>
      have hβ' : β = true := hβ
      subst hβ'
      simp only [yb] at he
      cases want with
      | true => rw [if_pos (by rfl)]; exact .inl (run _ hs he)
      | false => rw [if_neg (by simp)]; exact skp _ hs he
     | false =>
      have hβ' : β = false := hβ
      subst hβ'
      simp only [yc] at he
      cases want with
      | true => rw [if_neg (by simp)]; exact skp _ hs he
      | false => rw [if_pos (by rfl)]; exact .inl (run _ hs he)
    ·rename_i hd
     have hy := Ut h ht hd
     have hwd : Region.wanted o (yielded ops a.tmps) = false := by simp [Region.wanted, hg, hy]
     rw [hwd, if_neg (by simp)]
     exact skp _ h he
    ·simp at he
   ·simp at he
end
abbrev Ef := D × List (Nat × Option Ba)
def It (G : Nc) (s : AS) (o : Oper) (e : Ef) : Prop := ∀ (Out' : Type) (K' : D → List (Nat × Option Ba) → Option Out'), Ra G s o K' = K' e.1 e.2
theorem It.congr {G : Nc} {s s' : AS} {o : Oper} {e : Ef} (h : It G s o e) (ha : IB s s' o) : It G s' o e := fun Out' K' => (SC ha).trans (h Out' K')
def putE (s : AS) (dst : Option Tmp) (e : Ef) : AS := ⟨s.n, (match dst with | some t => [(t, e.1)] | none => []) ++ s.tm, e.2 ++ s.hp⟩
def Jq (G : Nc) (ops : Array Oper) (s : AS) (o : Oper) (e : Ef) : Prop :=
 match o.guard with
 | none => It G s o e
 | some (j, want) => ∃ t, (ops[j]?).bind (·.dst) = some t ∧ ((∃ β : Bool, Oa s.tm t = some (.t .b β) ∧ (if β = want then It G s o e else e = (.und, []))) ∨ (Oa s.tm t = some .und ∧ e = (.und, [])))
def Wb (ops : Array Oper) (E : Nat → Ef) (L : Nat → Bool) (s0 : AS) : Nat → AS
 | 0 => s0
 | m + 1 => match ops[m]? with
  | some o => bif L m then putE (Wb ops E L s0 m) o.dst (E m) else Wb ops E L s0 m
  | none => Wb ops E L s0 m
structure LG (H : List Nat) (ops : Array Oper) (s : AS) (o : Oper) (e : Ef) (f : FP) : Prop where
 wt : f.wt = o.dst
 wi : f.wi = e.2.map (·.1)
 mi : f.mi = e.1.ids ++ Ih e.2
 rt : ∀ t, t ∈ Sg (Jb o.op) → t ∈ f.rt
 rg : ∀ j want t, o.guard = some (j, want) → (ops[j]?).bind (·.dst) = some t → t ∈ f.rt
 ri : Yk o.op = false → ∀ x, x ∈ Jb o.op → ∀ d, s.ev x = some d → ∀ id, (d.ment id = true ∨ (Yl o.op = true ∧ id ∈ Qn s d)) → id ∈ f.ri ∨ (Jd o.op = true ∧ id ∈ H)
def Pr (H : List Nat) (s : AS) (e : Ef) : Prop := ∀ id, id ∈ H → id ∈ e.2.map (·.1) → ((Oa e.2 id).join).map Ba.kind = (s.heap id).map Ba.kind
structure PM (G : Nc) (H : List Nat) (ops : Array Oper) (s0 : AS) (E : Nat → Ef) (F : Nat → FP) (anc : Nat → List Nat) (m : Nat) (o : Oper) : Prop where
 step : Jq G ops (Wb ops E (fun _ => true) s0 m) o (E m)
 fp : LG H ops (Wb ops E (fun _ => true) s0 m) o (E m) (F m)
 dst : ∀ t, o.dst = some t → t < s0.n
 back : ∀ e, e ∈ o.after.toList → Region.binds .any e = true → e.on < m
 up : ∀ x, x ∈ anc m → ∃ e, e ∈ o.after.toList ∧ Region.binds .any e = true ∧ (x = e.on ∨ x ∈ anc e.on)
 ind : ∀ j, j < m → j ∈ anc m ∨ Nv (F j) (F m) = true
 hard : Pr H (Wb ops E (fun _ => true) s0 m) (E m)
theorem Uq {l : List Nat} {x : Nat} : Nj l x = true ↔ x ∈ l := by
 unfold Nj
 rw [List.any_eq_true]
 constructor
 ·rintro ⟨y, hy, he⟩
  have := jt he
  exact this ▸ hy
 ·intro h; exact ⟨x, h, Nat.beq_refl x⟩
theorem Yj {l m : List Nat} (h : Xo l m = false) : ∀ x, x ∈ l → x ∉ m := by
 intro x hx hm
 have : Xo l m = true := by
  unfold Xo
  rw [List.any_eq_true]
  exact ⟨x, hx, Uq.2 hm⟩
 rw [h] at this; simp at this
theorem Dr {t : Option Nat} {l : List Nat} (h : QA t l = false) : ∀ x, t = some x → x ∉ l := by
 rintro x rfl hm
 simp only [QA] at h
 rw [Uq.2 hm] at h; simp at h
theorem Qt {dst : Option Nat} {l : List Nat} (h : Wv dst l = false) : ∀ id, Gf dst id → id ∉ l := by
 intro id hn hm
 have : Wv dst l = true := by
  unfold Wv
  cases dst with
  | some t =>
   simp only []
   rw [List.any_eq_true]
   refine ⟨id, hm, ?_⟩
   rcases hn with hn | hn
   ·simp only [jc] at hn
    subst hn
    simp
   ·simp only [qj] at hn
    have h1 : jv (100000 + 64 * t) id = true := Nat.ble_eq_true_of_le hn.1
    have h2 : qq id (100064 + 64 * t) = true := by rw [qs]; exact hn.2
    simp [h1, h2]
  | none =>
   simp only []
   rw [List.any_eq_true]
   refine ⟨id, hm, ?_⟩
   rcases hn with hn | hn
   ·simp at hn
   ·simp only [Option.getD_none] at hn
    have hn1 : 100000 ≤ id := by simpa using hn.1
    have hn2 : id < 100064 := by simpa using hn.2
    have h1 : jv 100000 id = true := Nat.ble_eq_true_of_le hn1
    have h2 : qq id 100064 = true := by rw [qs]; exact hn2
    simp [h1, h2]
 rw [h] at this; simp at this
structure Em (f g : FP) : Prop where
 t1 : ∀ x, f.wt = some x → x ∉ g.rt
 t2 : ∀ x, g.wt = some x → x ∉ f.rt
 t3 : ∀ x, f.wt = some x → g.wt ≠ some x
 i1 : ∀ x, x ∈ f.wi → x ∉ g.ri
 i2 : ∀ x, x ∈ g.wi → x ∉ f.ri
 i3 : ∀ x, x ∈ f.wi → x ∉ g.wi
 n1 : ∀ id, Gf f.wt id → id ∉ g.mi
 n2 : ∀ id, Gf g.wt id → id ∉ f.mi
theorem Em.symm {f g : FP} (h : Em f g) : Em g f :=
 ⟨h.t2, h.t1, fun x hx hf => h.t3 x hf hx, h.i2, h.i1, fun x hx hf => h.i3 x hf hx, h.n2, h.n1⟩
theorem Xz {f g : FP} (h : Nv f g = true) : Em f g := by
 simp only [Nv, jd, qx] at h
 obtain ⟨⟨⟨⟨⟨⟨⟨h1, h2⟩, h3⟩, h4⟩, h5⟩, h6⟩, h7⟩, h8⟩ := h
 refine ⟨Dr h1, Dr h2, fun x hx hg => ?_, Yj h4, Yj h5, Yj h6, Qt h7, Qt h8⟩
 exact Dr h3 x hx (by rw [hg]; simp)
theorem Un : ∀ {d : D} {id : Nat}, d.ment id = true ↔ id ∈ d.ids := by
 intro d
 induction d with
 | pr a b iha ihb => intro id; simp [D.ment, D.ids, iha, ihb]
 | tup d ih => intro id; simp only [D.ment, D.ids]; exact ih
 | own j => intro id; simp only [D.ment, D.ids, j6]; exact ⟨fun h => (jt h).symm, fun h => by rw [h]; exact Nat.beq_refl _⟩
 | mpo j => intro id; simp only [D.ment, D.ids, j6]; exact ⟨fun h => (jt h).symm, fun h => by rw [h]; exact Nat.beq_refl _⟩
 | cut j lo hi => intro id; simp only [D.ment, D.ids, j6]; exact ⟨fun h => (jt h).symm, fun h => by rw [h]; exact Nat.beq_refl _⟩
 | ptr j p => intro id; simp only [D.ment, D.ids, j6]; exact ⟨fun h => (jt h).symm, fun h => by rw [h]; exact Nat.beq_refl _⟩
 | eptr j i p => intro id; simp only [D.ment, D.ids, j6]; exact ⟨fun h => (jt h).symm, fun h => by rw [h]; exact Nat.beq_refl _⟩
 | _ => intro id; simp [D.ment, D.ids]
theorem Pp {id : Nat} : ∀ {u : List (Nat × Option Ba)}, (u.any fun x => (x.2.map (Ba.ment id)).getD false) = true ↔ id ∈ Ih u
 | [] => by simp [Ih]
 | (j, none) :: r => by
  simp only [List.any_cons, Ih, Option.map_none, Option.getD_none, Bool.false_or]
  exact Pp (u := r)
 | (j, some b) :: r => by
  simp only [List.any_cons, Ih, j5, qj, Bool.or_eq_true, jk]
  rw [Pp (u := r)]
  refine or_congr ?_ Iff.rfl
  cases b with
  | box ρ d => simp only [Ba.ment, Ba.ids]; exact Un
  | row e dp xs => simp [Ba.ment, Ba.ids]
  | hol e xs i x p τ d => simp only [Ba.ment, Ba.ids]; exact Un
  | mov e xs k => simp [Ba.ment, Ba.ids]
  | mp k v xs => simp [Ba.ment, Ba.ids]
  | mq k v xs => simp [Ba.ment, Ba.ids]
  | mx k v xs => simp [Ba.ment, Ba.ids]
section
variable {s s' : AS} {e : Ef} {dst : Option Tmp} {G : Nc} {ops : Array Oper}
theorem Fj {t : Nat} : Oa (putE s dst e).tm t = if dst = some t then some e.1 else Oa s.tm t := by
 cases dst with
 | none => simp [putE]
 | some t' => simp [putE, Gb]
theorem RA {α : Type} {l m : List (Nat × α)} {k : Nat} : Oa (l ++ m) k = if k ∈ l.map (·.1) then Oa l k else Oa m k := by
 induction l with
 | nil => simp
 | cons p l ih =>
  obtain ⟨j, a⟩ := p
  rw [qu, Gb, Gb, ih]
  by_cases h : j = k
  ·subst h; simp
  ·have h' : ¬ k = j := fun e => h e.symm
   have hk : k ∈ ((j, a) :: l).map (·.1) ↔ k ∈ l.map (·.1) := by simp [h']
   simp only [hk, if_neg h]
theorem Ei {id : Nat} : (putE s dst e).heap id = if id ∈ e.2.map (·.1) then (Oa e.2 id).join else s.heap id := by
 simp only [AS.heap, putE, RA]
 split <;> rfl
theorem MH {id : Nat} (h : id ∉ e.1.ids ++ Ih e.2) : (putE s dst e).newOk id = s.newOk id := by
 rw [jk, not_or] at h
 have h1 : e.1.ment id = false := by rw [← j4]; exact fun hm => h.1 (Un.1 hm)
 have h2 : (e.2.any fun x => (x.2.map (Ba.ment id)).getD false) = false := by rw [← j4]; exact fun hm => h.2 (Pp.1 hm)
 unfold AS.newOk
 congr 2
 simp only [AS.ment, putE, List.any_append, h2, Bool.false_or]
 cases dst with
 | none => simp
 | some t => simp [h1]
theorem Lw {x : Operand} {l : List Operand} (hx : x ∈ l) (h : ∀ t, t ∈ Sg l → Oa s'.tm t = Oa s.tm t) : s'.ev x = s.ev x := by
 cases x with
 | tmp t =>
  refine h t ?_
  induction l with
  | nil => simp at hx
  | cons y l ih =>
   rcases jo.1 hx with e | hx2
   ·subst e; simp [Sg]
   ·cases y with
    | tmp t' => simp only [Sg]; exact jq _ (ih (fun t ht => h t (by simp only [Sg]; exact jq _ ht)) hx2)
    | const v => simp only [Sg]; exact ih (fun t ht => h t (by simp only [Sg]; exact ht)) hx2
    | global g => simp only [Sg]; exact ih (fun t ht => h t (by simp only [Sg]; exact ht)) hx2
    | func g => simp only [Sg]; exact ih (fun t ht => h t (by simp only [Sg]; exact ht)) hx2
 | _ => rfl
theorem Wx {E : Nat → Ef} {F : Nat → FP} {L L' : Nat → Bool} {s0 : AS} {f : FP}
 (hF : ∀ m o, ops[m]? = some o → (F m).wt = o.dst ∧ (F m).wi = (E m).2.map (·.1) ∧ (F m).mi = (E m).1.ids ++ Ih (E m).2)
 (hd : ∀ m, m < ops.size → L m ≠ L' m → Em (F m) f) : ∀ m, m ≤ ops.size →
 (∀ t, t ∈ f.rt → Oa (Wb ops E L s0 m).tm t = Oa (Wb ops E L' s0 m).tm t) ∧ (∀ id, id ∈ f.ri → (Wb ops E L s0 m).heap id = (Wb ops E L' s0 m).heap id) ∧
  (∀ id, Gf f.wt id → (Wb ops E L s0 m).newOk id = (Wb ops E L' s0 m).newOk id)
 | 0, _ => ⟨fun _ _ => rfl, fun _ _ => rfl, fun _ _ => rfl⟩
 | m + 1, hm => by
  obtain ⟨h1, h2, h3⟩ := Wx hF hd m (by omega)
  have hom : ops[m]? = some ops[m] := Array.getElem?_eq_getElem (by omega)
  obtain ⟨g1, g2, g3⟩ := hF m _ hom
  simp only [Wb, hom]
  have apart : L m ≠ L' m → Em (F m) f := hd m (by omega)
  have p1 : ∀ (S : AS) t, L m ≠ L' m → t ∈ f.rt → Oa (putE S ops[m].dst (E m)).tm t = Oa S.tm t := by
   intro S t hne ht
   rw [Fj, if_neg]
   intro hdst
   exact (apart hne).t1 t (g1.trans hdst) ht
  have p2 : ∀ (S : AS) id, L m ≠ L' m → id ∈ f.ri → (putE S ops[m].dst (E m)).heap id = S.heap id := by
   intro S id hne hid
   rw [Ei, if_neg]
   intro hk
   exact (apart hne).i1 id (by rw [g2]; exact hk) hid
  have p3 : ∀ (S : AS) id, L m ≠ L' m → Gf f.wt id → (putE S ops[m].dst (E m)).newOk id = S.newOk id := by
   intro S id hne hid
   refine MH ?_
   rw [← g3]
   exact (apart hne).n2 id hid
  cases hL : L m <;> cases hL' : L' m <;> simp only [yb, yc]
  ·exact ⟨h1, h2, h3⟩
  ·have hne : L m ≠ L' m := by rw [hL, hL']; simp
   exact ⟨fun t ht => (h1 t ht).trans (p1 _ t hne ht).symm, fun id hid => (h2 id hid).trans (p2 _ id hne hid).symm, fun id hid => (h3 id hid).trans (p3 _ id hne hid).symm⟩
  ·have hne : L m ≠ L' m := by rw [hL, hL']; simp
   exact ⟨fun t ht => (p1 _ t hne ht).trans (h1 t ht), fun id hid => (p2 _ id hne hid).trans (h2 id hid), fun id hid => (p3 _ id hne hid).trans (h3 id hid)⟩
  ·refine ⟨fun t ht => ?_, fun id hid => ?_, fun id hid => ?_⟩
   ·rw [Fj, Fj, h1 t ht]
   ·rw [Ei, Ei, h2 id hid]
   ·have e0 := h3 id hid
    unfold AS.newOk at e0 ⊢
    simp only [AS.ment, putE, List.any_append] at e0 ⊢
    revert e0
    generalize ((match ops[m].dst with | some t => [(t, (E m).1)] | none => []).any fun x => x.2.ment id) = b1
    generalize ((E m).2.any fun x => (x.2.map (Ba.ment id)).getD false) = b2
    generalize ((Wb ops E L s0 m).tm.any fun x => x.2.ment id) = c1
    generalize ((Wb ops E L s0 m).hp.any fun x => (x.2.map (Ba.ment id)).getD false) = c2
    generalize ((Wb ops E L' s0 m).tm.any fun x => x.2.ment id) = d1
    generalize ((Wb ops E L' s0 m).hp.any fun x => (x.2.map (Ba.ment id)).getD false) = d2
    generalize qq id 500000 = z
    cases b1 <;> cases b2 <;> cases c1 <;> cases c2 <;> cases d1 <;> cases d2 <;> cases z <;> simp
theorem Tu {E : Nat → Ef} {H : List Nat} {s0 : AS} : ∀ (m : Nat), m ≤ ops.size → (∀ j o, j < m → ops[j]? = some o → Pr H (Wb ops E (fun _ => true) s0 j) (E j)) → ∀ id, id ∈ H → ∀ L : Nat → Bool, ((Wb ops E L s0 m).heap id).map Ba.kind = (s0.heap id).map Ba.kind
 | 0, _, _, _, _, _ => rfl
 | m + 1, hm, hh, id, hid, L => by
  have ih := Tu m (by omega) (fun j o hj => hh j o (by omega)) id hid
  have hom : ops[m]? = some ops[m] := Array.getElem?_eq_getElem (by omega)
  simp only [Wb, hom]
  cases hL : L m with
  | false => simp only [yc]; exact ih L
  | true =>
   simp only [yb]
   rw [Ei]
   split
   ·rename_i hk
    rw [hh m _ (by omega) hom id hid hk]
    exact ih _
   ·exact ih L
theorem Cw {E : Nat → Ef} {L : Nat → Bool} {s0 : AS} : ∀ m, (Wb ops E L s0 m).n = s0.n
 | 0 => rfl
 | m + 1 => by
  simp only [Wb]
  split
  ·cases L m with
   | true => simp only [yb, putE]; exact Cw m
   | false => simp only [yc]; exact Cw m
  ·exact Cw m
theorem Cj {E E' : Nat → Ef} {L L' : Nat → Bool} {s0 : AS} : ∀ m, (∀ j, j < m → E j = E' j ∧ L j = L' j) → Wb ops E L s0 m = Wb ops E' L' s0 m
 | 0, _ => rfl
 | m + 1, h => by
  have ih := Cj (E := E) (E' := E') (L := L) (L' := L') (s0 := s0) m fun j hj => h j (by omega)
  simp only [Wb, ih, (h m (by omega)).1, (h m (by omega)).2]
theorem Uu {E : Nat → Ef} {L : Nat → Bool} {s0 : AS} {i : Nat} : ∀ m, i ≤ m → (∀ j, i ≤ j → j < m → L j = false) → Wb ops E L s0 m = Wb ops E L s0 i
 | 0, h, _ => by
  have : i = 0 := by omega
  subst this; rfl
 | m + 1, h, hL => by
  by_cases he : i = m + 1
  ·subst he; rfl
  ·rw [← Uu m (by omega) fun j h1 h2 => hL j h1 (by omega)]
   simp only [Wb, hL m (by omega) (by omega)]
   split <;> rfl
theorem FC {E : Nat → Ef} {F : Nat → FP} {L : Nat → Bool} {s0 : AS} {i : Nat} {o : Oper} (hi : ops[i]? = some o)
 (hF : ∀ m o, ops[m]? = some o → (F m).wt = o.dst ∧ (F m).wi = (E m).2.map (·.1) ∧ (F m).mi = (E m).1.ids ++ Ih (E m).2)
 (hLi : L i = false) (hd : ∀ m, m < ops.size → i < m → L m = true → Em (F m) (F i)) : ∀ m, i < m → m ≤ ops.size →
 Eqv (putE (Wb ops E L s0 m) o.dst (E i)) (Wb ops E (fun j => L j || qi j i) s0 m)
 | 0, h, _ => by omega
 | m + 1, h, hm => by
  by_cases he : m = i
  ·subst he
   have h1 : Wb ops E L s0 (m + 1) = Wb ops E L s0 m := by simp only [Wb, hLi]; split <;> rfl
   have h2 : Wb ops E (fun j => L j || qi j m) s0 m = Wb ops E L s0 m := Cj m fun j hj => by
    refine ⟨rfl, ?_⟩
    have : qi j m = false := by rw [← j4]; intro e; have := jt e; omega
    simp [this]
   have h3 : Wb ops E (fun j => L j || qi j m) s0 (m + 1) = putE (Wb ops E L s0 m) o.dst (E m) := by
    simp only [Wb, hi, Nat.beq_refl, Bool.or_true, yb]
    rw [h2]
   rw [h1, h3]
   exact Eqv.refl _
  ·have ih := FC (s0 := s0) hi hF hLi hd m (by omega) (by omega)
   have hom : ops[m]? = some ops[m] := Array.getElem?_eq_getElem (by omega)
   have hb : qi m i = false := by rw [← j4]; intro e; exact he (jt e)
   obtain ⟨g1, g2, g3⟩ := hF m _ hom
   obtain ⟨k1, k2, k3⟩ := hF i _ hi
   simp only [Wb, hom, hb, Bool.or_false]
   cases hL : L m with
   | false => exact ih
   | true =>
    simp only [yb]
    have hind := hd m (by omega) (by omega) hL
    refine ⟨by simp only [putE]; exact ih.n, fun t => ?_, fun id => ?_⟩
    ·rw [Fj, Fj, Fj, ih.tm t, Fj]
     by_cases h1 : ops[m].dst = some t
     ·rw [if_pos h1, if_neg, if_pos h1]
      intro h2
      exact hind.t3 t (g1.trans h1) (k1.trans h2)
     ·rw [if_neg h1, if_neg h1]
    ·rw [Ei, Ei, Ei, ih.hp id, Ei]
     by_cases h1 : id ∈ (E m).2.map (·.1)
     ·rw [if_pos h1, if_neg, if_pos h1]
      intro h2
      exact hind.i3 id (by rw [g2]; exact h1) (by rw [k2]; exact h2)
     ·rw [if_neg h1, if_neg h1]
end
theorem QG {p q : Nat → Bool} {i : Nat} (hpq : ∀ j, q j = true → p j = true) (hp : p i = true) (hq : q i = false) : ∀ n, i < n → (q8 n).countP q < (q8 n).countP p := by
 have hle : ∀ n, (q8 n).countP q ≤ (q8 n).countP p := fun n => List.countP_mono_left fun j _ h => hpq j h
 intro n
 induction n with
 | zero => intro h; omega
 | succ n ih =>
  intro h
  rw [List.range_succ, List.countP_append, List.countP_append]
  by_cases he : i = n
  ·subst he
   have := hle i
   simp [hp, hq]
   omega
  ·have := ih (by omega)
   have h2 : [n].countP q ≤ [n].countP p := List.countP_mono_left fun j _ h => hpq j h
   omega
section
variable {P : Program} {n0 : Nat} {A : Fx} {O0 : Nat → Prop} {w0 : World} {G : Nc} {ops : Array Oper} {s0 : AS} {E : Nat → Ef} {F : Nat → FP} {anc : Nat → List Nat} {H : List Nat} {Q : Exit → Act → World → Prop}
def Vh (listed : Array Bool) (j : Nat) : Bool := listed.getD j false
def Bz (ops : Array Oper) (L : Nat → Bool) : Prop := ∀ j o, ops[j]? = some o → L j = true → ∀ e, e ∈ o.after.toList → Region.binds .any e = true → L e.on = true
theorem Oq (hPM : ∀ m o, ops[m]? = some o → PM G H ops s0 E F anc m o) {L : Nat → Bool} (hc : Bz ops L) : ∀ (b m : Nat), m < b → m < ops.size → L m = true → ∀ x, x ∈ anc m → L x = true
 | 0, _, h, _, _, _, _ => by omega
 | b + 1, m, hb, hm, hL, x, hx => by
  have hom : ops[m]? = some ops[m] := Array.getElem?_eq_getElem hm
  obtain ⟨e, he, hbn, hxe⟩ := (hPM m _ hom).up x hx
  have h1 := hc m _ hom hL e he hbn
  have h2 := (hPM m _ hom).back e he hbn
  rcases hxe with rfl | hxe
  ·exact h1
  ·exact Oq hPM hc b e.on (by omega) (by omega) h1 x hxe
theorem Ms {listed : Array Bool} {i : Nat} : i ∈ Region.ready .any ops listed ↔ i < ops.size ∧ listed.getD i true = false ∧ ∃ o, ops[i]? = some o ∧ ∀ e, e ∈ o.after.toList → Region.binds .any e = true → listed.getD e.on false = true := by
 unfold Region.ready
 rw [List.mem_filter, List.mem_range]
 constructor
 ·rintro ⟨h1, h2⟩
  have hom : ops[i]? = some ops[i] := Array.getElem?_eq_getElem h1
  rw [hom] at h2
  simp only [j5, qj, jd, qx] at h2
  refine ⟨h1, h2.1, _, hom, fun e he hb => ?_⟩
  have h3 := h2.2
  rw [Array.all_eq_true'] at h3
  have := h3 e (Array.mem_toList_iff.1 he)
  rw [hb] at this
  simpa using this
 ·rintro ⟨h1, h2, o, ho, h3⟩
  refine ⟨h1, ?_⟩
  rw [ho]
  simp only [j5, qj, jd, qx]
  refine ⟨h2, ?_⟩
  rw [Array.all_eq_true']
  intro e he
  cases hb : Region.binds .any e with
  | false => rfl
  | true => simpa using h3 e (Array.mem_toList_iff.2 he) hb
theorem Fv (hPM : ∀ m o, ops[m]? = some o → PM G H ops s0 E F anc m o) {listed : Array Bool} (hsz : listed.size = ops.size) (hr : Region.ready .any ops listed = []) : ∀ (b j : Nat), j < b → j < ops.size → Vh listed j = true
 | 0, _, h, _ => by omega
 | b + 1, j, hb, hj => by
  by_cases h : Vh listed j = true
  ·exact h
  ·exfalso
   have hom : ops[j]? = some ops[j] := Array.getElem?_eq_getElem hj
   have : j ∈ Region.ready .any ops listed := by
    refine Ms.2 ⟨hj, ?_, _, hom, fun e he hbn => ?_⟩
    ·unfold Vh at h
     simp only [j4] at h
     have hjl : j < listed.size := by omega
     simp [Array.getD, hjl] at h ⊢
     exact h
    ·have := (hPM j _ hom).back e he hbn
     exact Fv hPM hsz hr b e.on (by omega) (by omega)
   rw [hr] at this
   simp at this
theorem Kz {op : Op} (h : Yl op = true) : Yk op = false := by
 cases op <;> first | rfl | simp [Yl] at h
theorem Gy {op : Op} (h : Jd op = true) : Yk op = false := by
 cases op <;> first | rfl | simp [Jd] at h
theorem IB.of_stL (hPM : ∀ m o, ops[m]? = some o → PM G H ops s0 E F anc m o) {L : Nat → Bool} (hc : Bz ops L) {i : Nat} {o : Oper} (hi : ops[i]? = some o) (hLi : L i = false)
 (hready : ∀ e, e ∈ o.after.toList → Region.binds .any e = true → L e.on = true) :
 IB (Wb ops E (fun _ => true) s0 i) (Wb ops E L s0 ops.size) o ∧ (∀ t, t ∈ (F i).rt → Oa (Wb ops E L s0 ops.size).tm t = Oa (Wb ops E (fun _ => true) s0 i).tm t) ∧
  (∀ m, m < ops.size → i < m → L m = true → Em (F m) (F i)) := by
 have hin : i < ops.size := (Array.getElem?_eq_some_iff.1 hi).1
 have hF : ∀ m o, ops[m]? = some o → (F m).wt = o.dst ∧ (F m).wi = (E m).2.map (·.1) ∧ (F m).mi = (E m).1.ids ++ Ih (E m).2 := fun m o ho => ⟨(hPM m o ho).fp.wt, (hPM m o ho).fp.wi, (hPM m o ho).fp.mi⟩
 have hgt : ∀ m, m < ops.size → i < m → L m = true → Em (F m) (F i) := by
  intro m hm him hL
  have hom : ops[m]? = some ops[m] := Array.getElem?_eq_getElem hm
  rcases (hPM m _ hom).ind i him with h | h
  ·have := Oq hPM hc (m + 1) m (by omega) hm hL i h
   rw [hLi] at this; simp at this
  ·exact (Xz h).symm
 have hd : ∀ m, m < ops.size → L m ≠ qq m i → Em (F m) (F i) := by
  intro m hm hne
  rcases Nat.lt_trichotomy m i with h | h | h
  ·have hb : qq m i = true := by rw [qs]; exact h
   have hL : L m = false := by
    rw [hb] at hne
    simpa using hne
   rcases (hPM i _ hi).ind m h with h' | h'
   ·exfalso
    obtain ⟨e, he, hbn, hxe⟩ := (hPM i _ hi).up m h'
    have h1 := hready e he hbn
    rcases hxe with rfl | hxe
    ·rw [hL] at h1; simp at h1
    ·have h2 := (hPM i _ hi).back e he hbn
     have := Oq hPM hc (e.on + 1) e.on (by omega) (by omega) h1 m hxe
     rw [hL] at this; simp at this
   ·exact Xz h'
  ·subst h
   exfalso
   apply hne
   rw [hLi]
   have : qq m m = false := by rw [← j4, qs]; omega
   exact this.symm
  ·have hb : qq m i = false := by
    rw [← j4, qs]; omega
   have hL : L m = true := by
    rw [hb] at hne
    simpa using hne
   exact hgt m hm h hL
 obtain ⟨a1, a2, a3⟩ := Wx (ops := ops) (s0 := s0) (f := F i) hF hd ops.size (jn _)
 have hst : Wb ops E (fun j => qq j i) s0 ops.size = Wb ops E (fun _ => true) s0 i := by
  rw [Uu (i := i) ops.size (by omega) fun j h1 h2 => by
   show qq j i = false
   rw [← j4, qs]; omega]
  exact Cj i fun j hj => ⟨rfl, by rw [qs]; exact hj⟩
 rw [hst] at a1 a2 a3
 have fp := (hPM i _ hi).fp
 refine ⟨⟨fun x hx => Lw hx fun t ht => a1 t (fp.rt t ht), fun hmv hsp x hx d hd' id hm => a2 id ((fp.ri hmv x hx d hd' id (.inl hm)).resolve_right fun h => by rw [hsp] at h; simp at h),
  fun hsp x hx d hd' id hm => ?_, fun id hid => a3 id (by rw [fp.wt]; exact hid),
  fun hcl hsp x hx bid p hev ρ d hb id hm => a2 id ((fp.ri (Kz hcl) x hx _ hev id (.inr ⟨hcl, by simp only [Qn, hb]; exact Un.1 hm⟩)).resolve_right fun h => by rw [hsp] at h; simp at h)⟩, a1, hgt⟩
 rcases fp.ri (Gy hsp) x hx d hd' id (.inl hm) with h | h
 ·rw [a2 id h]
 ·have hh : ∀ j o, ops[j]? = some o → Pr H (Wb ops E (fun _ => true) s0 j) (E j) := fun j o ho => (hPM j o ho).hard
  rw [Tu ops.size (jn _) (fun j o _ ho => hh j o ho) id h.2, Tu i (Nat.le_of_lt hin) (fun j o _ ho => hh j o ho) id h.2]
theorem Bu {s : AS} {dst : Option Tmp} {e : Ef} (hd : ∀ t, dst = some t → t < s.n) {Out : Type} {k : AS → Option Out} : Ie s dst e.1 e.2 k = k (putE s dst e) := by
 cases dst with
 | none => rfl
 | some t =>
  have : qq t s.n = true := by rw [qs]; exact hd t rfl
  simp only [Ie, this, yb, putE]
  rfl
theorem JH (hG : Jg P A.I G) (hfz : Nr G A) (hPM : ∀ m o, ops[m]? = some o → PM G H ops s0 E F anc m o)
 (hQ : ∀ σ φ a w, Ha n0 A O0 w0 (Wb ops E (fun _ => true) s0 ops.size) σ φ a w → Q .normal a w) :
 ∀ (fuel : Nat) (listed : Array Bool) (σ : Nat → Value) (φ : Nat → List Nat) (a : Act) (w : World), listed.size = ops.size → (q8 ops.size).countP (fun j => !listed.getD j true) ≤ fuel →
  Bz ops (Vh listed) → Ha n0 A O0 w0 (Wb ops E (Vh listed) s0 ops.size) σ φ a w → wpAny P .any ops Q fuel listed a w := by
 intro fuel
 have fin' : ∀ (listed : Array Bool) (σ : Nat → Value) (φ : Nat → List Nat) (a : Act) (w : World), listed.size = ops.size → Region.ready .any ops listed = [] →
  Ha n0 A O0 w0 (Wb ops E (Vh listed) s0 ops.size) σ φ a w → Q .normal a w := by
  intro listed σ φ a w hsz hr h
  refine hQ σ φ a w ?_
  rw [← Cj (L := Vh listed) ops.size fun j hj => ⟨rfl, Fv hPM hsz hr (j + 1) j (by omega) hj⟩]
  exact h
 induction fuel with
 | zero =>
  intro listed σ φ a w hsz hcnt hc h
  have hr : Region.ready .any ops listed = [] := by
   rw [List.eq_nil_iff_forall_not_mem]
   intro i hi
   obtain ⟨h1, h2, _⟩ := Ms.1 hi
   have : 0 < (q8 ops.size).countP (fun j => !listed.getD j true) := List.countP_pos_iff.2 ⟨i, List.mem_range.2 h1, by rw [h2]; rfl⟩
   omega
  exact ⟨hr, fin' listed σ φ a w hsz hr h⟩
 | succ fuel ih =>
  intro listed σ φ a w hsz hcnt hc h
  refine ⟨fun hr => fin' listed σ φ a w hsz hr h, fun i hi => ?_⟩
  obtain ⟨hin, hun, o, ho, hed⟩ := Ms.1 hi
  have hil : i < listed.size := by omega
  have hLi : Vh listed i = false := by
   unfold Vh
   simp [Array.getD, hil] at hun ⊢
   exact hun
  obtain ⟨hag, htm, hgt⟩ := IB.of_stL hPM hc ho hLi hed
  have pm := hPM i o ho
  have hF : ∀ m o, ops[m]? = some o → (F m).wt = o.dst ∧ (F m).wi = (E m).2.map (·.1) ∧ (F m).mi = (E m).1.ids ++ Ih (E m).2 := fun m o ho => ⟨(hPM m o ho).fp.wt, (hPM m o ho).fp.wi, (hPM m o ho).fp.mi⟩
  have hadd := FC (s0 := s0) (L := Vh listed) ho hF hLi hgt ops.size hin (jn _)
  have hset : ∀ j, Vh (listed.setIfInBounds i true) j = (Vh listed j || qi j i) := by
   intro j
   unfold Vh
   by_cases hji : j = i
   ·subst hji
    simp [Array.getD, hil]
   ·have hb : qi j i = false := by rw [← j4]; intro e; exact hji (jt e)
    rw [hb, Bool.or_false]
    simp only [Array.getD_eq_getD_getElem?]
    rw [Array.getElem?_setIfInBounds_ne (fun e => hji e.symm)]
  have next : ∀ σ φ a w, Ha n0 A O0 w0 (putE (Wb ops E (Vh listed) s0 ops.size) o.dst (E i)) σ φ a w → wpAny P .any ops Q fuel (listed.setIfInBounds i true) a w := by
   intro σ φ a w h
   have h2 := h.eqv hadd
   have h3 : Wb ops E (fun j => Vh listed j || qi j i) s0 ops.size = Wb ops E (Vh (listed.setIfInBounds i true)) s0 ops.size := Cj ops.size fun j _ => ⟨rfl, (hset j).symm⟩
   rw [h3] at h2
   refine ih (listed.setIfInBounds i true) σ φ a w (by simpa using hsz) ?_ ?_ h2
   ·have hlt := QG (p := fun j => !listed.getD j true) (q := fun j => !(listed.setIfInBounds i true).getD j true) (i := i) ?_ (by simp only [hun, Bool.not_false]) ?_ ops.size hin
    ·omega
    ·intro j hj
     by_cases hji : j = i
     ·subst hji; simp [hun]
     ·simp only [Array.getD_eq_getD_getElem?] at hj ⊢
      rw [Array.getElem?_setIfInBounds_ne (fun e => hji e.symm)] at hj
      exact hj
    ·simp [Array.getD, hil]
   ·intro j oj hoj hL e he hbn
    rw [hset] at hL ⊢
    cases hLj : Vh listed j with
    | true => rw [hc j oj hoj hLj e he hbn]; rfl
    | false =>
     rw [hLj, Bool.false_or] at hL
     have := jt hL
     subst this
     rw [ho] at hoj
     simp only [jc] at hoj
     subst hoj
     have := hed e he hbn
     unfold Vh
     rw [this]; rfl
  have hdn : ∀ t, o.dst = some t → t < (Wb ops E (Vh listed) s0 ops.size).n := fun t ht => by rw [Cw]; exact pm.dst t ht
  have run : It G (Wb ops E (fun _ => true) s0 i) o (E i) → o.wp P a w (wpAny P .any ops Q fuel (listed.setIfInBounds i true)) Q := by
   intro hE
   have hE' := hE.congr hag
   have : Tc G (Wb ops E (Vh listed) s0 ops.size) o some = some (putE (Wb ops E (Vh listed) s0 ops.size) o.dst (E i)) := by
    unfold Tc
    rw [hE']
    exact Bu hdn
   refine Oper.wp_mono ?_ (WD hG hfz h this)
   rintro a w ⟨s2, σ', φ', h1, h2⟩
   simp only [jc] at h1
   subst h1
   exact next σ' φ' a w h2
  have skp : E i = (.und, []) → wpAny P .any ops Q fuel (listed.setIfInBounds i true) (a.put o.dst undef) w := by
   intro hE
   have := CC (dst := o.dst) (k := some) (out := putE (Wb ops E (Vh listed) s0 ops.size) o.dst (.und, [])) h (Bu (e := (.und, [])) hdn)
   obtain ⟨s2, σ', φ', h1, h2⟩ := this
   simp only [jc] at h1
   subst h1
   rw [← hE] at h2
   exact next σ' φ' _ w h2
  have hst := pm.step
  unfold wpOp
  rw [ho]
  simp only []
  unfold Jq at hst
  cases hg : o.guard with
  | none =>
   rw [hg] at hst
   rw [if_pos (by simp [Region.wanted, hg])]
   exact .inl (run hst)
  | some g =>
   obtain ⟨j, want⟩ := g
   rw [hg] at hst
   obtain ⟨t, ht, hst⟩ := hst
   have htr : t ∈ (F i).rt := pm.fp.rg j want t hg ht
   have hlook := htm t htr
   rcases hst with ⟨β, hd, hst⟩ | ⟨hd, hst⟩
   ·rw [hd] at hlook
    have hy := Ws h ht hlook
    have hwd : Region.wanted o (yielded ops a.tmps) = (some β == some want) := by simp [Region.wanted, hg, hy]
    rw [hwd]
    by_cases hβ : β = want
    ·subst hβ
     rw [if_pos (by simp)]
     rw [if_pos rfl] at hst
     exact .inl (run hst)
    ·rw [if_neg (by simpa using hβ)]
     rw [if_neg hβ] at hst
     exact skp hst
   ·rw [hd] at hlook
    have hy := Ut h ht hlook
    have hwd : Region.wanted o (yielded ops a.tmps) = false := by simp [Region.wanted, hg, hy]
    rw [hwd, if_neg (by simp)]
    exact skp hst
end
structure Ge (s s' : AS) : Prop extends Eqv s s' where
 nw : ∀ id, s'.newOk id = s.newOk id
theorem Ge.refl (s : AS) : Ge s s := ⟨Eqv.refl s, fun _ => rfl⟩
theorem Ge.agr {s s' : AS} (h : Ge s s') (o : Oper) : IB s s' o :=
 ⟨fun _ hx => Lw hx fun t _ => h.tm t, fun _ _ _ _ _ _ id _ => h.hp id, fun _ _ _ _ _ id _ => by rw [h.hp id], fun id _ => h.nw id, fun _ _ _ _ _ _ _ _ _ _ id _ => h.hp id⟩
theorem Ge.symm {s s' : AS} (h : Ge s s') : Ge s' s := ⟨h.toEqv.symm, fun id => (h.nw id).symm⟩
theorem Ge.trans {s1 s2 s3 : AS} (h : Ge s1 s2) (h' : Ge s2 s3) : Ge s1 s3 := ⟨h.toEqv.trans h'.toEqv, fun id => (h'.nw id).trans (h.nw id)⟩
theorem Ge.putE {s s' : AS} (h : Ge s s') (dst : Option Tmp) (e : Ef) : Ge (KF.putE s dst e) (KF.putE s' dst e) := by
 refine ⟨⟨h.n, fun t => ?_, fun id => ?_⟩, fun id => ?_⟩
 ·rw [Fj, Fj, h.tm t]
 ·rw [Ei, Ei, h.hp id]
 ·have e0 := h.nw id
  unfold AS.newOk at e0 ⊢
  simp only [AS.ment, KF.putE, List.any_append] at e0 ⊢
  revert e0
  generalize ((match dst with | some t => [(t, e.1)] | none => []).any fun x => x.2.ment id) = b1
  generalize (e.2.any fun x => (x.2.map (Ba.ment id)).getD false) = b2
  generalize (s.tm.any fun x => x.2.ment id) = c1
  generalize (s.hp.any fun x => (x.2.map (Ba.ment id)).getD false) = c2
  generalize (s'.tm.any fun x => x.2.ment id) = d1
  generalize (s'.hp.any fun x => (x.2.map (Ba.ment id)).getD false) = d2
  generalize qq id 500000 = z
  cases b1 <;> cases b2 <;> cases c1 <;> cases c2 <;> cases d1 <;> cases d2 <;> cases z <;> simp
theorem Ge.refine {s : AS} {t : Nat} {β : Bool} (hd : Oa s.tm t = some (.t .b β)) : Ge s ⟨s.n, (t, .t .b β) :: s.tm, s.hp⟩ := by
 refine ⟨⟨rfl, fun t' => ?_, fun _ => rfl⟩, fun id => ?_⟩
 ·rw [Gb]
  split
  ·rename_i e; subst e; exact hd.symm
  ·rfl
 ·simp [AS.newOk, AS.ment, D.ment]
theorem Iz {s s' : AS} (h : ∀ j, s'.heap j = s.heap j) (d : D) : Qn s d = Qn s' d := by
 cases d with
 | ptr id p => simp only [Qn, h id]
 | _ => rfl
def WH (s : AS) (u : List (Nat × Option Ba)) : Prop := u = [] ∨ ∃ id b tl, u = (id, some b) :: tl ∧ (s.heap id).map Ba.kind = some b.kind
theorem Px {s : AS} {dst : Option Tmp} {τ : Ty} {id i : Nat} {e : Ty} {xs : List (T e)} {k : Nat} {ef : Ef} (hs : (s.heap id).map Ba.kind = some (none, some (e, ja xs)))
 (h : Wh s dst τ id i e xs k (fun d u => some (d, u)) = some ef) : WH s ef.2 := by
 unfold Wh at h
 split at h
 ·cases hb : qi i k with
  | false => rw [hb] at h; simp at h
  | true =>
   rw [hb] at h
   simp only [yb, j7] at h
   obtain ⟨x, hx, h⟩ := h
   simp only [Da, jc] at h
   obtain ⟨_, rfl⟩ := h
   exact .inr ⟨id, _, _, rfl, hs⟩
 ·simp at h
theorem VC {α : Type} {c : Bool} {a b : Option α} {x : α} (h : (bif c then a else b) = some x) : a = some x ∨ b = some x := by cases c <;> simp_all
theorem WI {G : Nc} {s : AS} {o : Oper} {ef : Ef} (hk : Et o.op = true) (h : Ra G s o (fun d u => some (d, u)) = some ef) : WH s ef.2 := by
 cases ho : o.op with
 | load t x =>
  simp only [Ra, ho] at h
  split at h
  ·split at h
   ·split at h
    ·split at h
     ·simp only [jc] at h; rw [← h]; exact .inl rfl
     ·simp at h
    ·simp at h
   ·simp at h
  ·split at h
   ·simp only [jc] at h; rw [← h]; exact .inl rfl
   ·simp at h
  ·rename_i τ id i path _ _
   cases hml : Ow G o.dst with
   | true =>
    rw [hml] at h
    simp only [yb] at h
    split at h
    ·rename_i hb hz; exact Px (by rw [hb]; rfl) h
    ·rename_i hb hz; exact Px (by rw [hb]; rfl) h
    ·simp at h
   | false =>
    rw [hml] at h
    simp only [yc] at h
    split at h
    ·rename_i e dp xs hb
     simp only [j7] at h
     obtain ⟨x, hx, h⟩ := h
     split at h
     ·split at h
      ·rcases VC h with h | h
       ·simp only [jc] at h; rw [← h]; exact .inl rfl
       ·split at h
        ·simp only [Da, jc] at h
         obtain ⟨_, rfl⟩ := h
         exact .inr ⟨id, _, _, rfl, by rw [hb]; rfl⟩
        ·simp at h
      ·simp at h
     ·simp at h
    ·simp at h
  ·simp at h
 | store t x v =>
  simp only [Ra, ho] at h
  split at h
  ·rename_i τ id path dv _ _ _
   split at h
   ·rename_i ρ d hb
    split at h
    ·split at h
     ·simp only [Da, jc] at h
      obtain ⟨_, rfl⟩ := h
      exact .inr ⟨id, _, _, rfl, by rw [hb]; rfl⟩
     ·simp at h
    ·simp at h
   ·simp at h
  ·rename_i τ id i path dv _ _ _
   split at h
   ·rename_i e dp xs hb
    split at h
    ·split at h
     ·cases hc : (dp || e.flat) with
      | true =>
       rw [hc] at h
       simp only [yb] at h
       split at h
       ·simp only [Da, j7] at h
        obtain ⟨_, x, hx, h⟩ := h
        split at h
        ·simp only [jc] at h; rw [← h]
         exact .inr ⟨id, _, _, rfl, by rw [hb]; simp [Ba.kind]⟩
        ·simp at h
       ·simp at h
      | false =>
       rw [hc] at h
       simp only [yc] at h
       split at h
       ·simp only [j7] at h
        obtain ⟨x, hx, h⟩ := h
        split at h
        ·simp only [jc] at h; rw [← h]
         exact .inr ⟨id, _, _, rfl, by rw [hb]; simp [Ba.kind]⟩
        ·simp at h
       ·simp at h
     ·simp at h
    ·simp at h
   ·rename_i e xs i0 x path0 τ0 d0 hb
    split at h
    ·split at h
     ·split at h
      ·simp only [Da] at h
       obtain ⟨_, _, h⟩ := h
       split at h
       ·simp only [jc] at h; rw [← h]
        exact .inr ⟨id, _, _, rfl, by rw [hb]; simp [Ba.kind]⟩
       ·simp at h
      ·simp at h
     ·simp at h
    ·simp at h
   ·simp at h
  ·simp at h
 | _ => rw [ho] at hk; simp [Et] at hk
theorem Nw {G : Nc} {s : AS} {o : Oper} {ef : Ef} {H : List Nat} (h : It G s o ef) (hb : Kv H o.op ef.2 = true) : Pr H s ef := by
 intro id hid hm
 unfold Kv at hb
 split at hb
 ·simp at hid
 ·cases hk : Et o.op with
  | false =>
   rw [hk] at hb
   simp only [yc, qx] at hb
   exact absurd hm (Yj hb id hid)
  | true =>
   rw [hk] at hb
   simp only [yb, qx] at hb
   have hkp := WI hk (h _ fun d u => some (d, u))
   rcases hkp with h0 | ⟨id0, b, tl, h0, h1⟩
   ·rw [h0] at hm; simp at hm
   ·rw [h0] at hm hb ⊢
    rcases jo.1 hm with e | hm
    ·subst e
     simp only [Gb, if_true, Option.join_some, j5]
     exact h1.symm
    ·exact absurd hm (Yj hb id hid)
theorem Uv {H : List Nat} {x : Nat} : ∀ {l : List Nat}, x ∈ l → x ∈ Is H l ∨ x ∈ H
 | y :: l, h => by
  simp only [Is]
  rcases jo.1 h with e | h
  ·subst e
   cases hm : Nj H x with
   | true => exact .inr (Uq.1 hm)
   | false => exact .inl (by simp)
  ·refine (Uv h).imp (fun h => ?_) id
   cases Nj H y with
   | true => exact h
   | false => exact jq _ h
theorem Mx {s : AS} {c : Bool} : ∀ {l : List Operand} {x : Operand} {d : D} {id : Nat}, x ∈ l → s.ev x = some d → (d.ment id = true ∨ (c = true ∧ id ∈ Qn s d)) → id ∈ No s c l
 | [], _, _, _, h, _, _ => by simp at h
 | y :: l, x, d, id, h, hd, hm => by
  rcases jo.1 h with e | h
  ·subst e
   simp only [No, hd]
   refine qg _ (jk.2 ?_)
   refine hm.imp Un.1 ?_
   rintro ⟨rfl, h⟩
   exact h
  ·have ih := Mx h hd hm
   simp only [No]
   split
   ·exact qh _ ih
   ·exact ih
section
variable {P : Program} {n0 : Nat} {A : Fx} {O0 : Nat → Prop} {w0 : World} {G : Nc} {ops : Array Oper} {s0 : AS} {E : Nat → Ef} {F : Nat → FP} {anc : Nat → List Nat} {H : List Nat} {Q : Exit → Act → World → Prop}
variable {Out : Type} {k : AS → Option Out} {out : Out}
theorem PM.congr {E' : Nat → Ef} {F' : Nat → FP} {anc' : Nat → List Nat} {m : Nat} {o : Oper} (h : PM G H ops s0 E F anc m o) (hE : ∀ j, j ≤ m → E j = E' j ∧ F j = F' j ∧ anc j = anc' j) : PM G H ops s0 E' F' anc' m o := by
 have hst : Wb ops E (fun _ => true) s0 m = Wb ops E' (fun _ => true) s0 m := Cj m fun j hj => ⟨(hE j (by omega)).1, rfl⟩
 obtain ⟨e1, e2, e3⟩ := hE m (jn _)
 refine ⟨by rw [← hst, ← e1]; exact h.step, by rw [← hst, ← e1, ← e2]; exact h.fp, h.dst, h.back, ?_, ?_, by rw [← hst, ← e1]; exact h.hard⟩
 ·intro x hx
  rw [← e3] at hx
  obtain ⟨e, he, hb, hxe⟩ := h.up x hx
  refine ⟨e, he, hb, hxe.imp id fun hxe => ?_⟩
  rw [← (hE e.on (Nat.le_of_lt (h.back e he hb))).2.2]
  exact hxe
 ·intro j hj
  rw [← e3, ← e2, ← (hE j (by omega)).2.1]
  exact h.ind j hj
theorem Ev : ∀ {r l : List Nat} {x : Nat}, x ∈ Dv r l → x ∈ r ∨ x ∈ l
 | [], _, _, h => .inr h
 | y :: r, l, x, h => by
  simp only [Dv] at h
  rcases Ev h with h | h
  ·exact .inl (jq _ h)
  ·cases hm : Nj l y with
   | true => rw [hm] at h; exact .inr h
   | false =>
    rw [hm] at h
    rcases jo.1 h with h | h
    ·exact .inl (by rw [h]; simp)
    ·exact .inr h
theorem Tr {prev : List (Nat × (List Nat × FP))} : ∀ {es : List Edge} {l : List Nat} {x : Nat}, x ∈ Bt prev es l → x ∈ l ∨ ∃ e, e ∈ es ∧ Region.binds .any e = true ∧ (x = e.on ∨ ∃ p, Oa prev e.on = some p ∧ x ∈ p.1)
 | [], l, x, h => .inl h
 | e :: es, l, x, h => by
  simp only [Bt] at h
  cases hb : Region.binds .any e with
  | false =>
   rw [hb] at h
   rcases Tr h with h | ⟨e', he', hb', hx⟩
   ·exact .inl h
   ·exact .inr ⟨e', jq _ he', hb', hx⟩
  | true =>
   rw [hb] at h
   rcases Tr h with h | ⟨e', he', hb', hx⟩
   ·rcases Ev h with h | h
    ·refine .inr ⟨e, by simp, hb, ?_⟩
     rcases jo.1 h with h | h
     ·exact .inl h
     ·split at h
      ·rename_i a f hp; exact .inr ⟨_, hp, h⟩
      ·simp at h
    ·exact .inl h
   ·exact .inr ⟨e', jq _ he', hb', hx⟩
theorem HC : ∀ (l : List Oper) (i : Nat) (prev : List (Nat × (List Nat × FP))) (s : AS) (E : Nat → Ef) (F : Nat → FP) (anc : Nat → List Nat), ops.toList.drop i = l → Dl G H ops l i prev s k = some out →
 Ge (Wb ops E (fun _ => true) s0 i) s → (∀ j, j < i → Oa prev j = some (anc j, F j)) → (∀ m o, m < i → ops[m]? = some o → PM G H ops s0 E F anc m o) →
 ∃ E F anc, (∀ m o, ops[m]? = some o → PM G H ops s0 E F anc m o) ∧ ∃ sf, k sf = some out ∧ Eqv (Wb ops E (fun _ => true) s0 ops.size) sf
 | [], i, prev, s, E, F, anc, hl, he, hs, hprev, hPM => by
  have hi : ops.size ≤ i := by
   have := congrArg ja hl
   simp at this
   omega
  have hst : Wb ops E (fun _ => true) s0 i = Wb ops E (fun _ => true) s0 ops.size := by
   clear hs he hl hprev hPM
   induction i with
   | zero =>
    have : ops.size = 0 := by omega
    rw [this]
   | succ i ih =>
    by_cases h : ops.size = i + 1
    ·rw [h]
    ·rw [← ih (by omega)]
     have : ops[i]? = none := Array.getElem?_eq_none (by omega)
     simp only [Wb, this]
  refine ⟨E, F, anc, fun m o ho => hPM m o ?_ ho, s, he, by rw [← hst]; exact hs.toEqv⟩
  have := (Array.getElem?_eq_some_iff.1 ho).1
  omega
 | o :: l, i, prev, s, E, F, anc, hl, he, hs, hprev, hPM => by
  have hi : i < ops.size := by
   have := congrArg ja hl
   simp at this
   omega
  have hoi : ops[i]? = some o := by
   have h1 := congrArg (·[0]?) hl
   simpa using h1
  have hl' : ops.toList.drop (i + 1) = l := by
   have h1 := congrArg (List.drop 1) hl
   simpa [List.drop_drop, Nat.add_comm] using h1
  have next : ∀ (an : List Nat) (f : FP) (e : Ef) (sx : AS), an = Bt prev o.after.toList [] → (∀ e, e ∈ o.after.toList → Region.binds .any e = true → e.on < i) → Rm an f prev = true → Ge s sx →
   Jq G ops (Wb ops E (fun _ => true) s0 i) o e → LG H ops (Wb ops E (fun _ => true) s0 i) o e f → Pr H (Wb ops E (fun _ => true) s0 i) e → Ie sx o.dst e.1 e.2 (fun s' => Dl G H ops l (i + 1) ((i, (an, f)) :: prev) s' k) = some out →
   ∃ E F anc, (∀ m o, ops[m]? = some o → PM G H ops s0 E F anc m o) ∧ ∃ sf, k sf = some out ∧ Eqv (Wb ops E (fun _ => true) s0 ops.size) sf := by
   intro an f e sx han hback hok hsx hstep hfp hhard hfin
   have hdst : ∀ t, o.dst = some t → t < sx.n := by
    intro t ht
    unfold Ie at hfin
    rw [ht] at hfin
    simp only at hfin
    cases hb : qq t sx.n with
    | true => rwa [qs] at hb
    | false => rw [hb] at hfin; simp at hfin
   rw [Bu hdst] at hfin
   have hn : sx.n = s0.n := by rw [hsx.n, hs.n, Cw]
   have hEi : ∀ j, j < i → E j = (fun j => if j = i then e else E j) j ∧ F j = (fun j => if j = i then f else F j) j ∧ anc j = (fun j => if j = i then an else anc j) j := by
    intro j hj
    have : j ≠ i := by omega
    simp [this]
   have hst : Wb ops E (fun _ => true) s0 i = Wb ops (fun j => if j = i then e else E j) (fun _ => true) s0 i := Cj i fun j hj => ⟨(hEi j hj).1, rfl⟩
   refine HC l (i + 1) _ _ (fun j => if j = i then e else E j) (fun j => if j = i then f else F j) (fun j => if j = i then an else anc j) hl' hfin ?_ ?_ ?_
   ·have : Wb ops (fun j => if j = i then e else E j) (fun _ => true) s0 (i + 1) = putE (Wb ops E (fun _ => true) s0 i) o.dst e := by
     rw [hst]
     simp only [Wb, hoi, yb, if_true]
    rw [this]
    exact (hs.trans hsx).putE _ _
   ·intro j hj
    rw [Gb]
    by_cases hji : i = j
    ·subst hji; simp
    ·have hne : j ≠ i := fun e => hji e.symm
     rw [if_neg hji, hprev j (by omega)]
     simp [hne]
   ·intro m om hm hom
    by_cases hmi : m = i
    ·subst hmi
     rw [hoi] at hom
     simp only [jc] at hom
     subst hom
     refine ⟨?_, ?_, fun t ht => by rw [← hn]; exact hdst t ht, hback, ?_, ?_, by rw [← hst]; simpa using hhard⟩
     ·rw [← hst]; simpa using hstep
     ·rw [← hst]; simpa using hfp
     ·intro x hx
      simp only [if_true] at hx
      rw [han] at hx
      rcases Tr hx with hx | ⟨e', he', hb', hx⟩
      ·simp at hx
      ·have hlt := hback e' he' hb'
       refine ⟨e', he', hb', hx.imp id ?_⟩
       rintro ⟨p, hp, hxp⟩
       rw [hprev _ hlt] at hp
       simp only [jc] at hp
       subst hp
       have : e'.on ≠ m := by omega
       simpa [this] using hxp
     ·intro j hj
      have hok' := hok
      unfold Rm at hok'
      rw [List.all_eq_true] at hok'
      have hmem := Pi (hprev j hj)
      have h1 := hok' _ hmem
      simp only [Bool.or_eq_true] at h1
      have hjm : j ≠ m := by omega
      simp only [if_true, hjm, if_false]
      exact h1.imp Uq.1 id
    ·exact (hPM m om (by omega) hom).congr fun j hj => hEi j (by omega)
  have hfpOk : ∀ (g : List Nat) (e : Ef), (∀ j want t, o.guard = some (j, want) → (ops[j]?).bind (·.dst) = some t → t ∈ g) → LG H ops (Wb ops E (fun _ => true) s0 i) o e (Mw H s o g e.1 e.2) := by
   intro g e hg
   refine ⟨rfl, rfl, rfl, fun t ht => qh _ ht, fun j want t hgu ht => qg _ (hg j want t hgu ht), fun hmv x hx d hd id hm => ?_⟩
   have hmem : id ∈ No s (Yl o.op) (Jb o.op) := by
    refine Mx hx ?_ (hm.imp (fun h => h) fun h => ⟨h.1, (Iz (fun j => hs.hp j) d) ▸ h.2⟩)
    rw [← hd]
    exact Lw hx fun t _ => hs.tm t
   show id ∈ (bif Yk o.op then [] else bif Jd o.op then _ else _) ∨ _
   rw [hmv]
   cases hsp : Jd o.op with
   | false => exact .inl hmem
   | true => exact (Uv hmem).imp (fun h => h) fun h => ⟨rfl, h⟩
  simp only [Dl] at he
  cases hbk : TC i o.after.toList with
  | false => rw [hbk] at he; simp at he
  | true =>
   rw [hbk] at he
   simp only [yb] at he
   have hback : ∀ e, e ∈ o.after.toList → Region.binds .any e = true → e.on < i := by
    intro e hem hbe
    unfold TC at hbk
    rw [List.all_eq_true] at hbk
    have := hbk e hem
    rw [hbe] at this
    simp only [jg, Bool.false_or] at this
    rwa [qs] at this
   have hEff : ∀ (sx : AS) (K : D → List (Nat × Option Ba) → Option Out), Ge s sx → Ra G sx o K = some out → ∃ e : Ef, K e.1 e.2 = some out ∧ It G (Wb ops E (fun _ => true) s0 i) o e := by
    intro sx K hsx hK
    obtain ⟨d, u, h1, h2⟩ := OG hK
    refine ⟨(d, u), h1, ?_⟩
    have : It G sx o (d, u) := h2
    exact this.congr ((hs.trans hsx).symm.agr o)
   cases hg : o.guard with
   | none =>
    rw [hg] at he
    simp only at he
    obtain ⟨e, h1, h2⟩ := hEff s _ (Ge.refl s) he
    simp only [Da, jd] at h1
    exact next _ _ e s rfl hback h1.1.1 (Ge.refl s) (by unfold Jq; rw [hg]; exact h2) (hfpOk [] e (by intro j want t hgu; rw [hg] at hgu; simp at hgu)) (Nw h2 h1.1.2) h1.2
   | some g =>
    obtain ⟨j, want⟩ := g
    rw [hg] at he
    simp only at he
    split at he
    ·rename_i t ht
     have hgt : ∀ j' want' t', o.guard = some (j', want') → (ops[j']?).bind (·.dst) = some t' → t' ∈ [t] := by
      intro j' want' t' hgu ht'
      rw [hg] at hgu
      simp only [jc, jh] at hgu
      obtain ⟨rfl, rfl⟩ := hgu
      rw [ht] at ht'
      simp only [jc] at ht'
      rw [ht']; simp
     split at he
     ·rename_i β hd
      have hdst : Oa (Wb ops E (fun _ => true) s0 i).tm t = some (.t .b β) := by rw [← hs.tm]; exact hd
      have goal1 : ∀ e : Ef, (if β = want then It G (Wb ops E (fun _ => true) s0 i) o e else e = (.und, [])) → Jq G ops (Wb ops E (fun _ => true) s0 i) o e := by
       intro e h
       unfold Jq
       rw [hg]
       exact ⟨t, ht, .inl ⟨β, hdst, h⟩⟩
      cases hβ : (show Bool from β) with
      | true =>
       have hβ' : β = true := hβ
       subst hβ'
       simp only [yb] at he
       cases want with
       | true =>
        simp only [yb] at he
        obtain ⟨e, h1, h2⟩ := hEff _ _ (Ge.refine hd) he
        simp only [Da, jd] at h1
        exact next _ _ e _ rfl hback h1.1.1 (Ge.refine hd) (goal1 e (by rw [if_pos rfl]; exact h2)) (hfpOk [t] e hgt) (Nw h2 h1.1.2) h1.2
       | false =>
        simp only [yc, Da] at he
        exact next _ _ (.und, []) _ rfl hback he.1 (Ge.refine hd) (goal1 _ (by rw [if_neg (by simp)])) (hfpOk [t] (.und, []) hgt) (by intro id _ hm; simp at hm) he.2
      | false =>
       have hβ' : β = false := hβ
       subst hβ'
       simp only [yc] at he
       cases want with
       | true =>
        simp only [yb, Da] at he
        exact next _ _ (.und, []) _ rfl hback he.1 (Ge.refine hd) (goal1 _ (by rw [if_neg (by simp)])) (hfpOk [t] (.und, []) hgt) (by intro id _ hm; simp at hm) he.2
       | false =>
        simp only [yc] at he
        obtain ⟨e, h1, h2⟩ := hEff _ _ (Ge.refine hd) he
        simp only [Da, jd] at h1
        exact next _ _ e _ rfl hback h1.1.1 (Ge.refine hd) (goal1 e (by rw [if_pos rfl]; exact h2)) (hfpOk [t] e hgt) (Nw h2 h1.1.2) h1.2
     ·rename_i hd
      simp only [Da] at he
      refine next _ _ (.und, []) s rfl hback he.1 (Ge.refl s) ?_ (hfpOk [t] (.und, []) hgt) (by intro id _ hm; simp at hm) he.2
      unfold Jq
      rw [hg]
      exact ⟨t, ht, .inr ⟨by rw [← hs.tm]; exact hd, rfl⟩⟩
     ·simp at he
    ·simp at he
theorem VB {n j : Nat} : Vh (Array.replicate n false) j = false := by
 unfold Vh
 rw [Array.getD_eq_getD_getElem?, Array.getElem?_replicate]
 split <;> rfl
theorem PF (hG : Jg P A.I G) (hfz : Nr G A) (hm : P.follows .mixedOrders = true) {id : Nat} {H : List Nat} {draw : Bool} {s : AS} {σ : Nat → Value} {φ : Nat → List Nat} {a : Act} {w : World} (h : Ha n0 A O0 w0 s σ φ a w)
 (he : (bif draw then Dl G H ops ops.toList 0 [] s k else Sl G id ops ops.toList 0 s k) = some out) (hQ : ∀ a w, Jc n0 A O0 w0 k out a w → Q .normal a w) : (Code.region id ops draw).wp P Q a w := by
 cases draw with
 | false =>
  simp only [yc] at he
  refine wp_region ?_
  have := LB (P := P) (Q := Q) hG hfz (fun s σ φ a w h1 h2 => hQ a w ⟨s, σ, φ, h1, h2⟩) ops.toList 0 s σ φ a w (by simp) he h
  simpa using this
 | true =>
  simp only [yb] at he
  obtain ⟨E, F, anc, hPM, sf, h1, h2⟩ := HC (s0 := s) ops.toList 0 [] s (fun _ => (.und, [])) (fun _ => ⟨[], [], none, [], []⟩) (fun _ => []) (by simp) he (Ge.refl s) (by intro j hj; omega) (by intro m o hm; omega)
  refine wp_region_any hm ?_
  refine JH hG hfz hPM (fun σ φ a w hc => hQ a w ⟨sf, σ, φ, h1, hc.eqv h2⟩) ops.size (Array.replicate ops.size false) σ φ a _ (by simp) ?_ ?_ ?_
  ·have := List.countP_le_length (p := fun j => !(Array.replicate ops.size false).getD j true) (l := q8 ops.size)
   simpa using this
  ·intro j o ho hL
   rw [VB] at hL
   simp at hL
  ·have : Wb ops E (Vh (Array.replicate ops.size false)) s ops.size = s := by
    rw [Uu (i := 0) ops.size (Nat.zero_le _) fun j _ _ => VB]
    rfl
   rw [this]
   exact h.drew
end
theorem LE {s : AS} : ∀ {td : TD} {d : D} {x : T td.ty} {m : Me}, Sb s td d = some (x, m) → (Sh td x).isAgg = d.isAgg := by
 intro td
 cases td with
 | data τ =>
  intro d x m h
  simp only [Sb] at h
  split at h
  ·rename_i y hy
   simp only [jc, jh] at h
   obtain ⟨rfl, _⟩ := h
   have hs := (Md (w := default) (σ := fun _ => undef) (O := fun _ => False) (hp := fun _ => none) hy).1
   rw [hs.isAgg]
   cases τ <;> rfl
  ·simp at h
 | own id e dp =>
  intro d x m h
  cases d <;> simp [Sb] at h <;> rfl
 | ptr id p =>
  intro d x m h
  cases d <;> simp [Sb] at h <;> rfl
 | hol id e p τ td =>
  intro d x m h
  cases d <;> simp [Sb] at h <;> rfl
 | arr id e =>
  intro d x m h
  cases d <;> first | rfl | (simp [Sb] at h; done)
 | mov id e =>
  intro d x m h
  cases d <;> simp [Sb] at h <;> rfl
 | mpo id k v =>
  intro d x m h
  cases d <;> simp [Sb] at h <;> rfl
 | mqo id kk e =>
  intro d x m h
  cases d <;> simp [Sb] at h <;> rfl
 | pr a b =>
  intro d x m h
  simp only [Sb] at h
  cases d with
  | t τ v => cases τ <;> simp [D.fst] at h <;> rfl
  | pr u v => rfl
  | _ => simp [D.fst] at h
 | un =>
  intro d x m h
  simp only [Sb] at h
  split at h
  ·rename_i y hy
   have hs := (Md (w := default) (σ := fun _ => undef) (O := fun _ => False) (hp := fun _ => none) hy).1
   rw [hs.isAgg]
   rfl
  ·simp at h
def Hr (m m' : Me) : Prop := ∀ p, p ∈ m → p ∈ m'
section
variable {w : World} {s : AS} {σ σ' : Nat → Value} {O O' : Nat → Prop} {hp' : Nat → Option Ba} {m : Me}
structure MK (s : AS) (σ σ' : Nat → Value) (hp' : Nat → Option Ba) (m : Me) : Prop where
 isS : ∀ j i, (j, some i) ∈ m → σ' j = σ i
 isN : ∀ j, (j, none) ∈ m → σ' j = .slice none 0 0
 isB : ∀ j i ρ d, (j, some i) ∈ m → hp' j = some (.box ρ d) → ∃ d', s.heap i = some (.box ρ d')
 isR : ∀ j i Aa r, (j, some i) ∈ m → hp' j = some Aa → Aa.rowN = some r → ∃ blk', s.heap i = some blk' ∧ blk'.rowN = some r
theorem Ct (hT : MK s σ σ' hp' m) (hO : ∀ b, b < w.heap.size → ¬ O b → ¬ O' b) : ∀ {td : TD} {d : D} {x : T td.ty} {m0 : Me} {cs : List Value}, Sb s td d = some (x, m0) → Hr m0 m → Ka w O s.heap σ d cs →
 Ka w O' hp' σ' (Sh td x) cs := by
 intro td
 induction td with
 | data τ =>
  intro d x m0 cs h hm hr
  simp only [Sb] at h
  split at h
  ·rename_i y hy
   simp only [jc, jh] at h
   obtain ⟨rfl, _⟩ := h
   exact Ga.stable (fun _ _ _ => rfl) hO ((Md hy).2 _ hr)
  ·simp at h
 | own id' e dp =>
  intro d x m0 cs h hm hr
  cases d with
  | own id =>
   simp only [Sb] at h
   split at h
   ·rename_i e' dp' xs hb
    split at h
    ·rename_i q hq
     subst q
     simp only [Da] at h
     obtain ⟨_, h⟩ := h
     simp only [jc, jh] at h
     obtain ⟨rfl, rfl⟩ := h
     obtain ⟨v, hcs, h1, hv⟩ := hr
     refine ⟨v, hcs, h1, fun _ _ _ _ => ?_⟩
     rw [hT.isS id' id (hm _ (by simp))]
     exact hv _ _ hb rfl
    ·simp at h
   ·simp at h
  | nil =>
   simp only [Sb, jc, jh] at h
   obtain ⟨rfl, rfl⟩ := h
   simp only [Ka] at hr
   exact ⟨_, hr, rfl, fun _ _ _ _ => (hT.isN id' (hm _ (by simp))).symm⟩
  | _ => simp [Sb] at h
 | mpo id' k v =>
  intro d x m0 cs h hm hr
  cases d with
  | mpo id =>
   simp only [Sb] at h
   split at h
   ·rename_i k' v' xs hb
    split at h
    ·rename_i q1 q2 hq1 hq2
     subst q1
     subst q2
     simp only [jc, jh] at h
     obtain ⟨rfl, rfl⟩ := h
     obtain ⟨u, hcs, h1, hv⟩ := hr
     refine ⟨u, hcs, h1, fun _ _ _ => ?_⟩
     rw [hT.isS id' id (hm _ (by simp))]
     exact hv _ hb rfl
    ·simp at h
   ·simp at h
  | _ => simp [Sb] at h
 | mqo id' kk e =>
  intro d x m0 cs h hm hr
  cases d with
  | mpo id =>
   simp only [Sb] at h
   split at h
   ·rename_i kk' e' xs hb
    split at h
    ·rename_i q hq
     simp only [jc, jh] at h
     obtain ⟨rfl, rfl⟩ := h
     obtain ⟨u, hcs, h1, hv⟩ := hr
     refine ⟨u, hcs, h1, fun _ _ _ => ?_⟩
     rw [hT.isS id' id (hm _ (by simp))]
     exact hv _ hb rfl
    ·simp at h
   ·simp at h
  | _ => simp [Sb] at h
 | hol id' e p τ td _ =>
  intro d x m0 cs h hm hr
  cases d with
  | own id =>
   simp only [Sb] at h
   split at h
   ·rename_i e' xs i x1 p' τ' d' hb
    split at h
    ·simp only [Da] at h
     obtain ⟨_, h⟩ := h
     split at h
     ·rename_i y m1 h1
      simp only [Da] at h
      obtain ⟨_, h⟩ := h
      simp only [jc, jh] at h
      obtain ⟨rfl, rfl⟩ := h
      obtain ⟨v, hcs, h1, hv⟩ := hr
      refine ⟨v, hcs, h1, fun _ _ _ _ => ?_⟩
      rw [hT.isS id' id (hm _ (by simp))]
      exact hv _ _ hb rfl
     ·simp at h
    ·simp at h
   ·simp at h
  | _ => simp [Sb] at h
 | arr id' e =>
  intro d x m0 cs h hm hr
  cases d with
  | eptr id i q =>
   cases i with
   | succ i => simp [Sb] at h
   | zero =>
    cases q with
    | cons _ _ => simp [Sb] at h
    | nil =>
     simp only [Sb] at h
     split at h
     ·rename_i e' xs hb
      split at h
      ·rename_i q hq
       subst q
       simp only [jc, jh] at h
       obtain ⟨rfl, rfl⟩ := h
       obtain ⟨v, hcs, h1, hv⟩ := hr
       refine ⟨v, hcs, h1, fun blk' e2 n2 hb' hr' => ?_⟩
       obtain ⟨blk0, hb0, hr0⟩ := hT.isR id' id blk' _ (hm _ (by simp)) hb' hr'
       rw [hT.isS id' id (hm _ (by simp))]
       exact hv _ _ _ hb0 hr0
      ·simp at h
     ·simp at h
  | _ => simp [Sb] at h
 | mov id' e =>
  intro d x m0 cs h hm hr
  cases d with
  | own id =>
   simp only [Sb] at h
   split at h
   ·rename_i e' xs hb
    split at h
    ·rename_i q hq
     subst q
     simp only [jc, jh] at h
     obtain ⟨rfl, rfl⟩ := h
     obtain ⟨v, hcs, h1, hv⟩ := hr
     refine ⟨v, hcs, h1, fun _ _ _ _ => ?_⟩
     rw [hT.isS id' id (hm _ (by simp))]
     exact hv _ _ hb rfl
    ·simp at h
   ·rename_i e' xs k hb
    split at h
    ·rename_i q hq
     subst q
     simp only [jc, jh] at h
     obtain ⟨rfl, rfl⟩ := h
     obtain ⟨v, hcs, h1, hv⟩ := hr
     refine ⟨v, hcs, h1, fun _ _ _ _ => ?_⟩
     rw [hT.isS id' id (hm _ (by simp))]
     exact hv _ _ hb rfl
    ·simp at h
   ·simp at h
  | _ => simp [Sb] at h
 | ptr id' p =>
  intro d x m0 cs h hm hr
  cases d with
  | ptr id q =>
   simp only [Sb, Da] at h
   obtain ⟨hpq, h⟩ := h
   simp only [jc, jh] at h
   obtain ⟨_, rfl⟩ := h
   have hpq' : p = q := by simpa using hpq
   subst hpq'
   obtain ⟨v, hcs, h1, hv⟩ := hr
   refine ⟨v, hcs, h1, fun ρ d hb => ?_⟩
   obtain ⟨d', hd'⟩ := hT.isB id' id ρ d (hm _ (by simp)) hb
   rw [hT.isS id' id (hm _ (by simp))]
   exact hv ρ d' hd'
  | _ => simp [Sb] at h
 | pr a b iha ihb =>
  intro d x m0 cs h hm hr
  simp only [Sb] at h
  split at h
  ·rename_i d1 d2 h1 h2
   split at h
   ·rename_i u l v l' h3 h4
    simp only [jc, jh] at h
    obtain ⟨rfl, rfl⟩ := h
    have key : ∃ c1 c2, cs = c1 ++ c2 ∧ Ka w O s.heap σ d1 c1 ∧ Ka w O s.heap σ d2 c2 := by
     cases d with
     | t τ v =>
      cases τ with
      | p t1 t2 =>
       simp only [D.fst, D.snd, jc] at h1 h2
       subst h1; subst h2
       exact hr
      | _ => simp [D.fst] at h1
     | pr d1' d2' =>
      simp only [D.fst, D.snd, jc] at h1 h2
      subst h1; subst h2
      exact hr
     | _ => simp [D.fst] at h1
    obtain ⟨c1, c2, hc, r1, r2⟩ := key
    exact ⟨c1, c2, hc, iha h3 (fun p hp => hm p (qg _ hp)) r1, ihb h4 (fun p hp => hm p (qh _ hp)) r2⟩
   ·simp at h
  ·simp at h
 | un =>
  intro d x m0 cs h hm hr
  simp only [Sb] at h
  split at h
  ·rename_i y hy
   exact (Md hy).2 _ hr
  ·simp at h
theorem TG (hT : MK s σ σ' hp' m) (hO : ∀ b, b < w.heap.size → ¬ O b → ¬ O' b) {td : TD} {d : D} {x : T td.ty} {m0 : Me} {v : Value} (h : Sb s td d = some (x, m0)) (hm : Hr m0 m) (hr : Kb w O s.heap σ d v) :
 Kb w O' hp' σ' (Sh td x) v := by
 have hne : Cc w O s.heap σ d v := by
  cases d with
  | und => cases td <;> simp [Sb, Ue, D.fst] at h
  | anyv => cases td <;> simp [Sb, Ue, D.fst] at h
  | tup ds => cases td <;> simp [Sb, Ue, D.fst] at h
  | _ => exact hr
 refine Xi ?_
 unfold Cc at hne ⊢
 rw [LE h]
 split
 ·rename_i ha
  rw [if_pos ha] at hne
  obtain ⟨cs, h1, h2⟩ := hne
  exact ⟨cs, h1, Ct hT hO h hm h2⟩
 ·rename_i ha
  rw [if_neg ha] at hne
  exact Ct hT hO h hm hne
def Ly (s : AS) (m : Me) (j : Nat) (Aa : Ba) : Prop :=
 ((j, none) ∈ m ∧ ∃ e dp, Aa = .row e dp ([] : List (T e))) ∨
 ∃ i, (j, some i) ∈ m ∧ ((∃ e dp dp' xs, Aa = .row e dp xs ∧ s.heap i = some (.row e dp' xs) ∧ (dp' = dp ∨ e.flat = true)) ∨
  (∃ ρ d td x m0, Aa = .box ρ (Sh td x) ∧ s.heap i = some (.box ρ d) ∧ Sb s td d = some (x, m0) ∧ Hr m0 m ∧ La ρ (Sh td x)) ∨
  (∃ e xs k x p τ d td y m0, Aa = .hol e xs k x p τ (Sh td y) ∧ s.heap i = some (.hol e xs k x p τ d) ∧ Sb s td d = some (y, m0) ∧ Hr m0 m ∧ La τ (Sh td y)) ∨
  (∃ e xs k, Aa = .mov e xs k ∧ (s.heap i = some (.mov e xs k) ∨ (s.heap i = some (.row e true xs) ∧ k = 0))) ∨
  (∃ k v xs, Aa = .mp k v xs ∧ s.heap i = some (.mp k v xs)) ∨
  ∃ kk e xs, Aa = .mq kk e xs ∧ s.heap i = some (.mq kk e xs))
theorem St : ∀ {td : TD} {d : D} {x : T td.ty} {m0 : Me}, Sb s td d = some (x, m0) → Hr m0 m → ∀ p, p ∈ Ki td x → ∃ Aa, p.2 = some Aa ∧ Ly s m p.1 Aa := by
 intro td
 induction td with
 | own id' e dp =>
  intro d x m0 h hm p hp
  simp only [Ki, j6] at hp
  subst hp
  cases d with
  | own id =>
   simp only [Sb] at h
   split at h
   ·rename_i e' dp' xs hb
    split at h
    ·rename_i q hq
     subst q
     simp only [Da] at h
     obtain ⟨hc, h⟩ := h
     simp only [jc, jh] at h
     obtain ⟨rfl, rfl⟩ := h
     refine ⟨_, rfl, .inr ⟨id, hm _ (by simp), .inl ⟨_, dp, dp', _, rfl, hb, ?_⟩⟩⟩
     simpa using hc
    ·simp at h
   ·simp at h
  | nil =>
   simp only [Sb, jc, jh] at h
   obtain ⟨rfl, rfl⟩ := h
   exact ⟨_, rfl, .inl ⟨hm _ (by simp), e, dp, rfl⟩⟩
  | _ => simp [Sb] at h
 | hol id' e pth τ td ih =>
  intro d x m0 h hm p hp
  cases d with
  | own id =>
   simp only [Sb] at h
   split at h
   ·rename_i e' xs i x1 p' τ' d' hb
    split at h
    ·rename_i q1 q2 hq1 hq2
     subst q1
     obtain rfl := Ac hq2
     simp only [Da] at h
     obtain ⟨hpp, h⟩ := h
     have hpp : pth = p' := by simpa using hpp
     subst hpp
     split at h
     ·rename_i y m1 h1
      simp only [Da] at h
      obtain ⟨hsh, h⟩ := h
      simp only [jc, jh] at h
      obtain ⟨rfl, rfl⟩ := h
      simp only [Ki] at hp
      rcases jo.1 hp with rfl | hp
      ·exact ⟨_, rfl, .inr ⟨id, hm _ (by simp), .inr (.inr (.inl ⟨_, _, i, _, _, _, d', td, y, m1, by simp only [jm], hb, h1, fun p hp => hm p (jq _ hp), Rf hsh⟩))⟩⟩
      ·exact ih h1 (fun p hp => hm p (jq _ hp)) p hp
     ·simp at h
    ·simp at h
   ·simp at h
  | _ => simp [Sb] at h
 | pr a b iha ihb =>
  intro d x m0 h hm p hp
  simp only [Sb] at h
  split at h
  ·split at h
   ·rename_i u l v l' h3 h4
    simp only [jc, jh] at h
    obtain ⟨rfl, rfl⟩ := h
    simp only [Ki] at hp
    rcases jk.1 hp with hp | hp
    ·exact iha h3 (fun p hp => hm p (qg _ hp)) p hp
    ·exact ihb h4 (fun p hp => hm p (qh _ hp)) p hp
   ·simp at h
  ·simp at h
 | arr id' e =>
  intro d x m0 h hm p hp
  simp only [Ki, j6] at hp
  subst hp
  cases d with
  | eptr id i q =>
   cases i with
   | succ i => simp [Sb] at h
   | zero =>
    cases q with
    | cons _ _ => simp [Sb] at h
    | nil =>
     simp only [Sb] at h
     split at h
     ·rename_i e' xs hb
      split at h
      ·rename_i q hq
       subst q
       simp only [jc, jh] at h
       obtain ⟨rfl, rfl⟩ := h
       exact ⟨_, rfl, .inr ⟨id, hm _ (by simp), .inl ⟨_, true, true, _, rfl, hb, .inl rfl⟩⟩⟩
      ·simp at h
     ·simp at h
  | _ => simp [Sb] at h
 | mpo id' k v =>
  intro d x m0 h hm p hp
  simp only [Ki, j6] at hp
  subst hp
  cases d with
  | mpo id =>
   simp only [Sb] at h
   split at h
   ·rename_i k' v' xs hb
    split at h
    ·rename_i q1 q2 hq1 hq2
     subst q1
     subst q2
     simp only [jc, jh] at h
     obtain ⟨rfl, rfl⟩ := h
     exact ⟨_, rfl, .inr ⟨id, hm _ (by simp), .inr (.inr (.inr (.inr (.inl ⟨_, _, _, rfl, hb⟩))))⟩⟩
    ·simp at h
   ·simp at h
  | _ => simp [Sb] at h
 | mqo id' kk e =>
  intro d x m0 h hm p hp
  simp only [Ki, j6] at hp
  subst hp
  cases d with
  | mpo id =>
   simp only [Sb] at h
   split at h
   ·rename_i kk' e' xs hb
    split at h
    ·rename_i q hq
     have q2 := q
     simp only [Ty.mp.injEq, Ty.i.injEq, Ty.sl.injEq] at q2
     obtain ⟨rfl, rfl⟩ := q2
     simp only [jc, jh] at h
     obtain ⟨rfl, rfl⟩ := h
     exact ⟨_, rfl, .inr ⟨id, hm _ (by simp), .inr (.inr (.inr (.inr (.inr ⟨_, _, _, rfl, hb⟩))))⟩⟩
    ·simp at h
   ·simp at h
  | _ => simp [Sb] at h
 | mov id' e =>
  intro d x m0 h hm p hp
  simp only [Ki, j6] at hp
  subst hp
  cases d with
  | own id =>
   simp only [Sb] at h
   split at h
   ·rename_i e' xs hb
    split at h
    ·rename_i q hq
     subst q
     simp only [jc, jh] at h
     obtain ⟨rfl, rfl⟩ := h
     exact ⟨_, rfl, .inr ⟨id, hm _ (by simp), .inr (.inr (.inr (.inl ⟨_, _, 0, rfl, .inr ⟨hb, rfl⟩⟩)))⟩⟩
    ·simp at h
   ·rename_i e' xs k hb
    split at h
    ·rename_i q hq
     subst q
     simp only [jc, jh] at h
     obtain ⟨rfl, rfl⟩ := h
     exact ⟨_, rfl, .inr ⟨id, hm _ (by simp), .inr (.inr (.inr (.inl ⟨_, _, k, by simp only [jm], .inl hb⟩)))⟩⟩
    ·simp at h
   ·simp at h
  | _ => simp [Sb] at h
 | _ => intro d x m0 h hm p hp; simp [Ki] at hp
theorem PB : ∀ {l : List (Tmp × TD)} {x : T (Qj.tyT l)} {m0 : Me}, XC s l = some (x, m0) → Hr m0 m →
 (∀ t d', Oa (Pv l x) t = some d' → ∃ td d y m1, Oa s.tm t = some d ∧ Sb s td d = some (y, m1) ∧ Hr m1 m ∧ d' = Sh td y) ∧ (∀ p, p ∈ Zv l x → ∃ Aa, p.2 = some Aa ∧ Ly s m p.1 Aa)
 | [], x, m0, h, hm => ⟨by simp [Pv, Oa], by simp [Zv]⟩
 | (t0, td) :: r, x, m0, h, hm => by
  simp only [XC] at h
  split at h
  ·rename_i d hd
   split at h
   ·rename_i y m1 z m2 h1 h2
    simp only [jc, jh] at h
    obtain ⟨rfl, rfl⟩ := h
    have hm1 : Hr m1 m := fun p hp => hm p (qg _ hp)
    obtain ⟨i1, i2⟩ := PB h2 (fun p hp => hm p (qh _ hp))
    refine ⟨fun t d' ht => ?_, fun p hp => ?_⟩
    ·simp only [Pv] at ht
     rw [Gb] at ht
     split at ht
     ·rename_i e
      subst e
      simp only [jc] at ht
      exact ⟨td, d, y, m1, hd, h1, hm1, ht.symm⟩
     ·exact i1 t d' ht
    ·simp only [Zv] at hp
     rcases jk.1 hp with hp | hp
     ·exact St h1 hm1 p hp
     ·exact i2 p hp
   ·simp at h
  ·simp at h
theorem OB : ∀ {l : List (Nat × Ty × TD)} {x : T (Qj.tyB l)} {m0 m' : Me}, Nz s l m0 = some (x, m') → Hr m' m →
 Hr m0 m ∧ ∀ p, p ∈ Ov l x → ∃ Aa, p.2 = some Aa ∧ Ly s m p.1 Aa
 | [], x, m0, m', h, hm => by
  simp only [Nz, jc, jh] at h
  obtain ⟨_, rfl⟩ := h
  exact ⟨hm, by simp [Ov]⟩
 | (id', ρ, td) :: r, x, m0, m', h, hm => by
  simp only [Nz] at h
  split at h
  ·rename_i id hid
   split at h
   ·rename_i ρ' d hb
    split at h
    ·rename_i q hq
     obtain rfl := q.down
     split at h
     ·rename_i y m1 h1
      simp only [Da] at h
      obtain ⟨hsh, h⟩ := h
      split at h
      ·rename_i z m2 h2
       simp only [jc, jh] at h
       obtain ⟨rfl, rfl⟩ := h
       obtain ⟨i1, i2⟩ := OB h2 hm
       have hm0 : Hr m0 m := fun p hp => i1 p (qg _ hp)
       have hm1 : Hr m1 m := fun p hp => i1 p (qh _ hp)
       refine ⟨hm0, fun p hp => ?_⟩
       simp only [Ov] at hp
       rcases jo.1 hp with rfl | hp
       ·exact ⟨_, rfl, .inr ⟨id, hm0 _ (Pi hid), .inr (.inl ⟨_, d, td, y, m1, rfl, hb, h1, hm1, Rf hsh⟩)⟩⟩
       ·rcases jk.1 hp with hp | hp
        ·exact St h1 hm1 p hp
        ·exact i2 p hp
      ·simp at h
     ·simp at h
    ·simp at h
   ·simp at h
  ·simp at h
end
theorem Zq : ∀ {m : Me}, Kn m = true → ∀ j i, (j, some i) ∈ m → (j < 500000 ∧ i < 500000) ∨ j = i
 | [], _, _, _, h => by simp at h
 | (j0, some i0) :: r, hp, j, i, h => by
  simp only [Kn, jd, Bool.or_eq_true] at hp
  rcases jo.1 h with e | h
  ·simp only [jh, jc] at e
   obtain ⟨rfl, rfl⟩ := e
   rcases hp.1 with h1 | h1
   ·rw [qs, qs] at h1; exact .inl h1
   ·exact .inr (jt h1)
  ·exact Zq hp.2 j i h
 | (j0, none) :: r, hp, j, i, h => by
  simp only [Kn, jd] at hp
  rcases jo.1 h with e | h
  ·simp at e
  ·exact Zq hp.2 j i h
theorem Yq : ∀ {m : Me}, Kn m = true → ∀ j, (j, none) ∈ m → j < 500000
 | [], _, _, h => by simp at h
 | (j0, some i0) :: r, hp, j, h => by
  simp only [Kn, jd] at hp
  rcases jo.1 h with e | h
  ·simp at e
  ·exact Yq hp.2 j h
 | (j0, none) :: r, hp, j, h => by
  simp only [Kn, jd] at hp
  rcases jo.1 h with e | h
  ·simp only [jh, and_true] at e
   subst e
   have := hp.1
   rwa [qs] at this
  ·exact Yq hp.2 j h
theorem AC {m : Me} (h : (m.all fun x => m.all fun y => Tm x y) = true) {x y : Nat × Option Nat} (hx : x ∈ m) (hy : y ∈ m) : Tm x y = true :=
 List.all_eq_true.1 (List.all_eq_true.1 h x hx) y hy
theorem KH {m : Me} (h : (m.all fun x => m.all fun y => Tm x y) = true) {j : Nat} {a c : Option Nat} (hx : (j, a) ∈ m) (hy : (j, c) ∈ m) : a = c := by
 have := AC h hx hy
 unfold Tm at this
 cases a with
 | none => cases c with
  | none => rfl
  | some c => simp at this
 | some a => cases c with
  | none => simp at this
  | some c => simpa [Nat.beq_eq] using this
theorem LH {m : Me} (h : (m.all fun x => m.all fun y => Tm x y) = true) {j j' i : Nat} (hx : (j, some i) ∈ m) (hy : (j', some i) ∈ m) : j = j' := by
 have := AC h hx hy
 unfold Tm at this
 simpa using this
theorem Hx {α : Type} {j : Nat} {a : α} : ∀ {m : List (Nat × α)}, (j, a) ∈ m → ∃ c, Oa m j = some c ∧ (j, c) ∈ m
 | [], h => by simp at h
 | (j0, a0) :: r, h => by
  rw [Gb]
  by_cases hj : j0 = j
  ·subst hj; exact ⟨a0, by simp, by simp⟩
  ·rw [if_neg hj]
   rcases jo.1 h with e | h
   ·simp only [jh] at e
    exact absurd e.1.symm hj
   ·obtain ⟨c, h1, h2⟩ := Hx h
    exact ⟨c, h1, jq _ h2⟩
theorem Qi {m : Me} (h : (m.all fun x => m.all fun y => Tm x y) = true) {j : Nat} {a : Option Nat} (hx : (j, a) ∈ m) : Oa m j = some a := by
 obtain ⟨c, h1, h2⟩ := Hx hx
 rw [h1, KH h hx h2]
section
variable {n0 : Nat} {A : Fx} {O0 : Nat → Prop} {w0 w : World} {s : AS} {σ : Nat → Value} {φ : Nat → List Nat} {a : Act}
theorem Dt (h : Ha n0 A O0 w0 s σ φ a w) {p : Qj} {x : p.X} (he : ext p s = some x) : ∃ σ' φ', Ha n0 A O0 w0 (Wn p x s.n) σ' φ' a w := by
 unfold ext at he
 split at he
 ·rename_i x1 m1 h1
  split at he
  ·rename_i x2 m h2
   simp only [Da] at he
   obtain ⟨hmo, he⟩ := he
   simp only [jc] at he
   subst he
   simp only [FI, jd] at hmo
   obtain ⟨hn1, hpo⟩ := hmo
   obtain ⟨hm1, hB⟩ := OB h2 (fun p hp => hp)
   obtain ⟨hT1, hT2⟩ := PB h1 hm1
   let σ' : Nat → Value := fun j => match Oa m j with
    | some (some i) => σ i
    | some none => .slice none 0 0
    | none => σ j
   let φ' : Nat → List Nat := fun j => match Oa m j with
    | some (some i) => φ i
    | _ => []
   have hσs : ∀ j i, (j, some i) ∈ m → σ' j = σ i ∧ φ' j = φ i := fun j i hj => by
    have := Qi hn1 hj
    simp only [σ', φ', this, and_self]
   have hσn : ∀ j, (j, none) ∈ m → σ' j = .slice none 0 0 ∧ φ' j = [] := fun j hj => by
    have := Qi hn1 hj
    simp only [σ', φ', this, and_self]
   have hent : ∀ j Aa, (Wn p (x1, x2) s.n).heap j = some Aa → Ly s m j Aa := by
    intro j Aa hj
    have hmem := AS.heap_mem hj
    simp only [Wn] at hmem
    rcases jk.1 hmem with hmem | hmem
    ·obtain ⟨blk', e, hE⟩ := hT2 _ hmem
     simp only [jc] at e
     subst e
     exact hE
    ·obtain ⟨blk', e, hE⟩ := hB _ hmem
     simp only [jc] at e
     subst e
     exact hE
   have hlive : ∀ j Aa, (Wn p (x1, x2) s.n).heap j = some Aa → φ' j = [] ∨ ∃ i blk0, (j, some i) ∈ m ∧ s.heap i = some blk0 ∧ φ' j = φ i := by
    intro j Aa hj
    rcases hent j Aa hj with ⟨hn, _⟩ | ⟨i, hi, ⟨e, dp, dp', xs, _, hb, _⟩ | ⟨ρ, d, td, y, m0, _, hb, _⟩ | ⟨e, xs, k, x, p, τ, d, td, y, m0, _, hb, _⟩ | ⟨e, xs, k, _, hb | ⟨hb, _⟩⟩ | ⟨_, _, _, _, hb⟩ | ⟨_, _, _, _, hb⟩⟩
    ·exact .inl (hσn j hn).2
    ·exact .inr ⟨i, _, hi, hb, (hσs j i hi).2⟩
    ·exact .inr ⟨i, _, hi, hb, (hσs j i hi).2⟩
    ·exact .inr ⟨i, _, hi, hb, (hσs j i hi).2⟩
    ·exact .inr ⟨i, _, hi, hb, (hσs j i hi).2⟩
    ·exact .inr ⟨i, _, hi, hb, (hσs j i hi).2⟩
    ·exact .inr ⟨i, _, hi, hb, (hσs j i hi).2⟩
    ·exact .inr ⟨i, _, hi, hb, (hσs j i hi).2⟩
   have hOO : ∀ b, b < w.heap.size → ¬ OO O0 s φ b → ¬ OO O0 (Wn p (x1, x2) s.n) φ' b := by
    rintro b _ hno (ho | ⟨j, Aa, hj, hm⟩)
    ·exact hno (.inl ho)
    ·rcases hlive j Aa hj with hφ | ⟨i, blk0, _, hb, hφ⟩
     ·rw [hφ] at hm; simp at hm
     ·rw [hφ] at hm; exact hno (.inr ⟨i, blk0, hb, hm⟩)
   have hTOk : MK s σ σ' (Wn p (x1, x2) s.n).heap m := by
    refine ⟨fun j i hj => (hσs j i hj).1, fun j hj => (hσn j hj).1, fun j i ρ d hj hb => ?_, fun j i Aa r hj hb hr => ?_⟩
    rcases hent j _ hb with ⟨hn, e, dp, hh⟩ | ⟨i', hi', ⟨e, dp, dp', xs, hh, _⟩ | ⟨ρ', d', td, y, m0, hh, hb', _⟩ | ⟨e, xs, k, x, p, τ, d', td, y, m0, hh, _⟩ | ⟨e, xs, k, hh, _⟩ | ⟨_, _, _, hh, _⟩ | ⟨_, _, _, hh, _⟩⟩
    ·simp at hh
    ·simp at hh
    ·simp only [Ba.box.injEq] at hh
     have e1 := Qi hn1 hj
     have e2 := Qi hn1 hi'
     rw [e1] at e2
     simp only [jc] at e2
     subst e2
     exact ⟨d', by rw [hb', hh.1]⟩
    ·simp at hh
    ·simp at hh
    ·simp at hh
    ·simp at hh
    ·have e1 := Qi hn1 hj
     rcases hent j _ hb with ⟨hn, _⟩ | ⟨i', hi', hx⟩
     ·have e2 := Qi hn1 hn
      rw [e1] at e2
      simp at e2
     ·have e2 := Qi hn1 hi'
      rw [e1] at e2
      simp only [jc] at e2
      subst e2
      rcases hx with ⟨e, dp, dp', xs, rfl, hb', _⟩ | ⟨ρ', d', td, y, m0, rfl, _⟩ | ⟨e, xs, k, x, p, τ, d', td, y, m0, rfl, hb', _⟩ | ⟨e, xs, k, rfl, hb' | ⟨hb', _⟩⟩ | ⟨_, _, _, rfl, _⟩ | ⟨_, _, _, rfl, _⟩
      ·exact ⟨_, hb', hr⟩
      ·simp [Ba.rowN] at hr
      ·exact ⟨_, hb', hr⟩
      ·exact ⟨_, hb', hr⟩
      ·exact ⟨_, hb', hr⟩
      ·simp [Ba.rowN] at hr
      ·simp [Ba.rowN] at hr
   refine ⟨σ', φ', h.sz, h.df, ?_, ?_, ?_, ?_, ?_, h.o0, h.fr, ?_, h.iv0, h.ivw, ?_⟩
   ·intro t d' hd
    obtain ⟨td, d, y, m0, g1, g2, g3, g4⟩ := hT1 t d' hd
    obtain ⟨v, hv, hr⟩ := h.tm t d g1
    rw [g4]
    exact ⟨v, hv, TG hTOk hOO g2 g3 hr⟩
   ·intro j Aa hj
    rcases hent j Aa hj with ⟨hn, e, dp, rfl⟩ | ⟨i, hi, ⟨e, dp, dp', xs, rfl, hb, hd⟩ | ⟨ρ, d, td, y, m0, rfl, hb, hex, hsub, hsh⟩ | ⟨e, xs, k, x, p, τ, d, td, y, m0, rfl, hb, hex, hsub, hsh⟩ | ⟨e, xs, k, rfl, hb⟩ | ⟨kk, vv, xs, rfl, hb⟩ | ⟨kk, e, xs, rfl, hb⟩⟩
    ·rw [Jf, (hσn j hn).1, (hσn j hn).2]
     exact ⟨by simp, .inl ⟨rfl, rfl, rfl⟩⟩
    ·rw [Jf, (hσs j i hi).1, (hσs j i hi).2]
     have hrow := Jf.1 (h.hp i _ hb)
     have hst : ∀ dq, He w (OO O0 s φ) dq e xs (σ i) (φ i) → He w (OO O0 (Wn p (x1, x2) s.n) φ') dq e xs (σ i) (φ i) := by
      rintro dq ⟨hm, g | ⟨bl, off, cap, cur, et, Fs, g1, hh, g2, g3, g4, hF, hel⟩⟩
      ·exact ⟨hm, .inl g⟩
      ·exact ⟨hm, .inr ⟨bl, off, cap, cur, et, Fs, g1, hh, g2, g3, g4, hF, hel.stable (fun _ _ _ => rfl) hOO (fun _ _ => rfl)⟩⟩
     rcases hd with rfl | hf
     ·exact hst _ hrow
     ·have hup := hrow.up
      rw [hf, Bool.or_true] at hup
      cases dp with
      | true => exact hst _ hup
      | false =>
       cases dp' with
       | false => exact hst _ hrow
       | true =>
        have hown := Ft (h.hp i _ hb) (.inl rfl)
        exact hst _ (Jf.1 (Xw (O := OO O0 s φ) (hp := s.heap) hown hf))
    ·rw [(hσs j i hi).2]
     obtain ⟨_, b, cur, et, g1, hh, hF, hr, hsz⟩ := h.hp i _ hb
     exact ⟨hsh, b, cur, et, by rw [(hσs j i hi).1]; exact g1, hh, hF, Ct hTOk hOO hex hsub hr, hsz⟩
    ·rw [(hσs j i hi).2]
     obtain ⟨_, g1, g2, g3, bl, off, cap, cur, et, g4, g5, g6, g7, hr, hw⟩ := h.hp i _ hb
     refine ⟨hsh, g1, g2, g3, bl, off, cap, cur, et, by rw [(hσs j i hi).1]; exact g4, g5, g6, g7, Ct hTOk hOO hex hsub hr, fun w' c' h1 h2 h3 y Fy x' h4 h5 => ?_⟩
     rw [(hσs j i hi).1]
     exact hw w' c' h1 h2 h3 y Fy x' h4 h5
    ·rw [(hσs j i hi).2]
     have hm0 : Bb w (OO O0 s φ) s.heap σ i (.mov e xs k) (φ i) := by
      rcases hb with hb | ⟨hb, rfl⟩
      ·exact h.hp i _ hb
      ·exact LA (h.hp i _ hb)
     obtain ⟨hlen, ⟨g1, g2, g3⟩ | ⟨bl, off, cap, cur, et, Fs, g1, g⟩⟩ := hm0
     ·exact ⟨hlen, .inl ⟨by rw [(hσs j i hi).1]; exact g1, g2, g3⟩⟩
     ·exact ⟨hlen, .inr ⟨bl, off, cap, cur, et, Fs, by rw [(hσs j i hi).1]; exact g1, g⟩⟩
    ·rw [(hσs j i hi).2]
     obtain ⟨r, es, clk, g1, g2, g3, g4, g5⟩ := h.hp i _ hb
     exact ⟨r, es, clk, by rw [(hσs j i hi).1]; exact g1, g2, g3, Kt (fun _ _ _ => rfl) hOO ⟨g4, g5⟩⟩
    ·rw [(hσs j i hi).2]
     obtain ⟨r, es, clk, g1, g2⟩ := h.hp i _ hb
     exact ⟨r, es, clk, by rw [(hσs j i hi).1]; exact g1, g2⟩
   ·intro j Aa hj
    rcases hlive j Aa hj with hφ | ⟨i, blk0, _, hb, hφ⟩
    ·rw [hφ]; exact List.nodup_nil
    ·rw [hφ]; exact h.nodup i blk0 hb
   ·intro j j' Aa blk' hne hj hj' b hb hb'
    rcases hlive j Aa hj with hφ | ⟨i, blk0, hi, hbi, hφ⟩
    ·rw [hφ] at hb; simp at hb
    ·rcases hlive j' blk' hj' with hφ' | ⟨i', blk0', hi', hbi', hφ'⟩
     ·rw [hφ'] at hb'; simp at hb'
     ·rw [hφ] at hb
      rw [hφ'] at hb'
      by_cases hii : i = i'
      ·subst hii
       exact hne (LH hn1 hi hi')
      ·exact h.disj i i' blk0 blk0' hii hbi hbi' b hb hb'
   ·intro j Aa hj b hb
    rcases hlive j Aa hj with hφ | ⟨i, blk0, _, hbi, hφ⟩
    ·rw [hφ] at hb; simp at hb
    ·rw [hφ] at hb; exact h.fresh i blk0 hbi b hb
   ·intro j v hv
    have hlow := A.low j v hv
    show σ' j = v
    simp only [σ']
    split
    ·rename_i i hg
     rcases Zq hpo j i (Pi hg) with ⟨hj, _⟩ | rfl
     ·omega
     ·exact h.pin _ v hv
    ·rename_i hg
     have := Yq hpo j (Pi hg)
     omega
    ·exact h.pin j v hv
   ·intro j kk e xs hj
    rcases hent j _ hj with ⟨hn, e, dp, hh⟩ | ⟨i, hi, ⟨e, dp, dp', xs, hh, _⟩ | ⟨ρ', d', td, y, m0, hh, hb', _⟩ | ⟨e, xs, k, x, p, τ, d', td, y, m0, hh, _⟩ | ⟨e, xs, k, hh, _⟩ | ⟨_, _, _, hh, _⟩ | ⟨kk2, e2, xs2, hh, hb⟩⟩
    ·simp at hh
    ·simp at hh
    ·simp at hh
    ·simp at hh
    ·simp at hh
    ·simp at hh
    ·simp only [Ba.mq.injEq] at hh
     obtain ⟨rfl, rfl, hh⟩ := hh
     simp only [heq_eq_eq] at hh
     subst hh
     rw [(hσs j i hi).1]
     exact (h.shr i _ _ _ hb).stable (fun _ _ _ => rfl) hOO (fun _ _ => rfl)
  ·simp at he
 ·simp at he
end
def VK : Ex → Exit
 | .normal => .normal
 | .exit id => .exit id
 | .ret => .ret
def Ym {X R : Type} (step : X → Option (X ⊕ R)) : Nat → X → R → Prop
 | 0, _, _ => False
 | n + 1, x, r => step x = some (.inr r) ∨ ∃ x', step x = some (.inl x') ∧ Ym step n x' r
def Sc : Code → List Code
 | .seq a b => Sc a ++ Sc b
 | .cond _ a b => Sc a ++ Sc b
 | .block _ c => Sc c
 | .loop c => c :: Sc c
 | _ => []
def Rc (G : Nc) (L : List (Nat × Nb)) (b : Code) : Prop :=
 ∀ r ls, Ve b = some r → Oa L r = some ls → ∀ x y, ls.F x = some y → ∃ m, Ym (Yo G L ls b) m x y
section
variable {P : Program} {n0 : Nat} {A : Fx} {O0 : Nat → Prop} {w0 : World} {G : Nc} {L : List (Nat × Nb)}
theorem GE (hG : Jg P A.I G) (hfz : Nr G A) (hm : P.follows .mixedOrders = true) : ∀ (c : Code), (∀ b, b ∈ Sc c → Rc G L b) → ∀ {Out : Type} {k : Ex → AS → Option Out} {out : Out} {s : AS} {σ : Nat → Value} {φ : Nat → List Nat} {a : Act} {w : World} {Q : Exit → Act → World → Prop},
 Si G L c s k = some out → Ha n0 A O0 w0 s σ φ a w → (∀ e s σ φ a w, k e s = some out → Ha n0 A O0 w0 s σ φ a w → Q (VK e) a w) → c.wp P Q a w := by
 intro c
 induction c with
 | skip =>
  intro _ Out k out s σ φ a w Q he h hQ
  simp only [Si] at he
  exact wp_skip (hQ .normal s σ φ a w he h)
 | region id ops draw =>
  intro _ Out k out s σ φ a w Q he h hQ
  simp only [Si] at he
  split at he
  ·rename_i s1 h1
   obtain ⟨φ1, hc⟩ := Tl hfz h h1
   refine PF (k := fun s' => match Gp G.fz (Jt G.att) G.att (1000 * id + 999) s' with
    | some s' => k .normal s'
    | none => none) hG hfz hm hc he fun a w ⟨s', σ', φ', h2, h3⟩ => ?_
   simp only at h2
   split at h2
   ·rename_i s2 h4
    obtain ⟨φ2, hc2⟩ := Tl hfz h3 h4
    exact hQ .normal _ σ' φ2 a w h2 hc2
   ·simp at h2
  ·simp at he
 | seq x y ihx ihy =>
  intro hL Out k out s σ φ a w Q he h hQ
  simp only [Si] at he
  refine wp_seq (ihx (fun b hb => hL b (by simp [Sc, hb])) he h fun e s' σ' φ' a' w' hk h' => ?_)
  cases e with
  | normal => exact ihy (fun b hb => hL b (by simp [Sc, hb])) hk h' hQ
  | exit j => exact hQ (.exit j) s' σ' φ' a' w' hk h'
  | ret => exact hQ .ret s' σ' φ' a' w' hk h'
 | cond x y z ihy ihz =>
  intro hL Out k out s σ φ a w Q he h hQ
  cases x with
  | tmp t =>
   simp only [Si] at he
   split at he
   ·rename_i β hd
    have hs := h.same hd
    obtain ⟨v, hv, hr⟩ := h.tm t _ hd
    rw [Ae] at hr
    subst hr
    have hev : a.eval (.tmp t) = .bool β := by
     simp only [Act.eval]
     rw [Array.getD_eq_getD_getElem?, hv]
     rfl
    refine wp_cond_split hev (fun hb => ?_) (fun hb => ?_)
    ·subst hb
     simp only [yb] at he
     exact ihy (fun b hb => hL b (by simp [Sc, hb])) he hs hQ
    ·subst hb
     simp only [yc] at he
     exact ihz (fun b hb => hL b (by simp [Sc, hb])) he hs hQ
   ·simp at he
  | const cv =>
   cases cv with
   | bool β =>
    simp only [Si] at he
    refine wp_cond_split (show a.eval (.const (.bool β)) = .bool β from rfl) (fun hb => ?_) (fun hb => ?_)
    ·subst hb
     simp only [yb] at he
     exact ihy (fun b hb => hL b (by simp [Sc, hb])) he h hQ
    ·subst hb
     simp only [yc] at he
     exact ihz (fun b hb => hL b (by simp [Sc, hb])) he h hQ
   | _ => simp [Si] at he
  | _ => simp [Si] at he
 | block id c ih =>
  intro hL Out k out s σ φ a w Q he h hQ
  simp only [Si] at he
  refine wp_block (ih (fun b hb => hL b (by simpa [Sc] using hb)) he h fun e s' σ' φ' a' w' hk h' => ?_)
  cases e with
  | normal => exact hQ .normal s' σ' φ' a' w' hk h'
  | exit j =>
   simp only [VK, Exit.inBlock]
   cases hb : qi j id with
   | true =>
    rw [if_pos (jt hb)]
    simp only [hb, yb] at hk
    exact hQ .normal s' σ' φ' a' w' hk h'
   | false =>
    rw [if_neg (fun e => by rw [e, Nat.beq_refl] at hb; simp at hb)]
    simp only [hb, yc] at hk
    exact hQ (.exit j) s' σ' φ' a' w' hk h'
  | ret => exact hQ .ret s' σ' φ' a' w' hk h'
 | exit id =>
  intro _ Out k out s σ φ a w Q he h hQ
  simp only [Si] at he
  exact wp_exit (hQ (.exit id) s σ φ a w he h)
 | ret =>
  intro _ Out k out s σ φ a w Q he h hQ
  simp only [Si] at he
  exact wp_ret (hQ .ret s σ φ a w he h)
 | loop c ih =>
  intro hL Out k out s σ φ a w Q he h hQ
  simp only [Si] at he
  split at he
  ·rename_i r hr
   split at he
   ·rename_i ls hls
    split at he
    ·rename_i x hx
     simp only [Da] at he
     obtain ⟨hn, he⟩ := he
     have hn := jt hn
     rw [j7] at he
     obtain ⟨y, hy, he⟩ := he
     obtain ⟨m, hit⟩ := hL c (by simp [Sc]) r ls hr hls x y hy
     obtain ⟨σ1, φ1, h1⟩ := Dt h hx
     rw [hn] at h1 he
     refine wp_loop_rounds m ?_
     have key : ∀ (m : Nat) (x : ls.inT.X) (σ : Nat → Value) (φ : Nat → List Nat) (a : Act) (w : World), Ym (Yo G L ls c) m x y → Ha n0 A O0 w0 (Wn ls.inT x ls.n) σ φ a w → Code.rounds P c Q m a w := by
      intro m
      induction m with
      | zero => intro x σ φ a w hit _; exact hit.elim
      | succ m ihm =>
       intro x σ φ a w hit h
       rw [rounds_succ]
       have body : ∀ z, Yo G L ls c x = some z → (z = .inr y ∨ ∃ x', z = .inl x' ∧ Ym (Yo G L ls c) m x' y) → c.wp P (Exit.then (Code.rounds P c Q m) Q) a w := by
        intro z hz hzy
        unfold Yo at hz
        refine ih (fun b hb => hL b (by simp [Sc, hb])) hz h fun e s' σ' φ' a' w' hk h' => ?_
        simp only [Da] at hk
        obtain ⟨hn', hk⟩ := hk
        have hn' := jt hn'
        cases e with
        | normal =>
         simp only at hk
         split at hk
         ·rename_i x' hx'
          simp only [jc] at hk
          obtain ⟨σ2, φ2, h2⟩ := Dt h' hx'
          rw [hn'] at h2
          rcases hzy with hzy | ⟨x'', hzy, hit'⟩
          ·rw [hzy] at hk; simp at hk
          ·rw [hzy] at hk
           simp only [Sum.inl.injEq] at hk
           subst hk
           exact ihm x' σ2 φ2 a' w' hit' h2
         ·simp at hk
        | exit j =>
         simp only [Da] at hk
         obtain ⟨hj, hk⟩ := hk
         have hj := jt hj
         split at hk
         ·rename_i y' hy'
          simp only [jc] at hk
          obtain ⟨σ2, φ2, h2⟩ := Dt h' hy'
          rw [hn'] at h2
          rcases hzy with hzy | ⟨x'', hzy, _⟩
          ·rw [hzy] at hk
           simp only [Sum.inr.injEq] at hk
           subst hk
           simp only [Sum.elim_inl] at he
           show Q (.exit j) a' w'
           rw [hj]
           exact hQ (.exit ls.exitId) _ σ2 φ2 a' w' he h2
          ·rw [hzy] at hk; simp at hk
         ·simp at hk
        | ret =>
         simp only at hk
         split at hk
         ·rename_i y' hy'
          simp only [jc] at hk
          obtain ⟨σ2, φ2, h2⟩ := Dt h' hy'
          rw [hn'] at h2
          rcases hzy with hzy | ⟨x'', hzy, _⟩
          ·rw [hzy] at hk
           simp only [Sum.inr.injEq] at hk
           subst hk
           simp only [Sum.elim_inr] at he
           exact hQ .ret _ σ2 φ2 a' w' he h2
          ·rw [hzy] at hk; simp at hk
         ·simp at hk
       rcases hit with hit | ⟨x', hit, hit'⟩
       ·exact body _ hit (.inl rfl)
       ·exact body _ hit (.inr ⟨x', rfl, hit'⟩)
     exact key m x σ1 φ1 a w hit h1
    ·simp at he
   ·simp at he
  ·simp at he
 | _ => intros; rename_i he _ _; simp [Si] at he
end
theorem Eb.mono {w : World} {O O' : Nat → Prop} (hO : ∀ b, O' b → O b) : ∀ {rt : Ty} {r : T rt} {fr : List Bool} {vs : List Value} {F : List Nat}, Eb w O rt r fr vs F → Eb w O' rt r fr vs F
 | .u, _, [], [], _, h => h
 | .p x y, r, f :: fr, v :: vs, F, h => by
  obtain ⟨cs, F1, F2, hv, hF, h1, h2⟩ := h
  refine ⟨cs, F1, F2, hv, hF, ?_, Eb.mono hO h2⟩
  cases f with
  | true => exact h1
  | false =>
   simp only [jp, if_false] at h1 ⊢
   exact ⟨h1.1.weaken hO, h1.2⟩
 | .u, _, _ :: _, _, _, h => by simp [Eb] at h
 | .u, _, [], _ :: _, _, h => by simp [Eb] at h
 | .p _ _, _, [], _, _, h => by simp [Eb] at h
 | .p _ _, _, _ :: _, [], _, h => by simp [Eb] at h
 | .i _, _, fr, vs, _, h => by simp [Eb] at h
 | .b, _, fr, vs, _, h => by simp [Eb] at h
 | .o, _, fr, vs, _, h => by simp [Eb] at h
 | .mp _ _, _, fr, vs, _, h => by simp [Eb] at h
 | .s, _, fr, vs, _, h => by simp [Eb] at h
 | .sl _, _, fr, vs, _, h => by simp [Eb] at h
section
variable {P : Program} {n0 : Nat} {A : Fx} {O0 : Nat → Prop} {w0 w : World} {s : AS} {σ : Nat → Value} {φ : Nat → List Nat} {a : Act} {G : Nc} {L : List (Nat × Nb)}
def RU (w : World) (O : Nat → Prop) (hp : Nat → Option Ba) (σ : Nat → Value) : D → List Value → Prop
 | .pr a b, v :: vs => Kb w O hp σ a v ∧ RU w O hp σ b vs
 | .un, [] => True
 | _, _ => False
def Ns (tmps : Array Value) : ResultVar → Sem Value
 | .tmp t => pure (tmps.getD t undef)
 | .cell a t => do loadVar t (← asAddr (tmps.getD a undef))
theorem Io (hG : EnvTy P G) (h : Ha n0 A O0 w0 s σ φ a w) : ∀ {rs : List ResultVar} {d : D}, Jm G s rs = some d → ∃ vs, (rs.mapM (Ns a.tmps)).run P w = .ok vs w ∧ RU w (OO O0 s φ) s.heap σ d vs
 | [], d, he => by
  simp only [Jm, jc] at he
  subst he
  exact ⟨[], by simp, trivial⟩
 | .tmp t :: r, d, he => by
  simp only [Jm] at he
  split at he
  ·rename_i d1 d2 h1 h2
   simp only [jc] at he
   subst he
   obtain ⟨vs, hvs, hr⟩ := Io hG h h2
   obtain ⟨v, hv, hru⟩ := h.tm t d1 h1
   have hg : a.tmps.getD t undef = v := by rw [Array.getD_eq_getD_getElem?, hv]; rfl
   refine ⟨v :: vs, ?_, hru, hr⟩
   rw [List.mapM_cons]
   simp only [Ns, qb, Sem.run_pure, qa, hvs, hg]
  ·simp at he
 | .cell t ty :: r, d, he => by
  simp only [Jm] at he
  split at he
  ·rename_i id d2 h1 h2
   split at he
   ·rename_i ρ d1 τ hb hty
    split at he
    ·rename_i q hq
     obtain rfl := q.down
     simp only [jc] at he
     subst he
     obtain ⟨vs, hvs, hr⟩ := Io hG h h2
     obtain ⟨v, hv, hru⟩ := h.tm t _ h1
     have hg : a.tmps.getD t undef = v := by rw [Array.getD_eq_getD_getElem?, hv]; rfl
     rw [Zi] at hru
     obtain ⟨b, hσ, hv'⟩ := hru.2 _ _ hb
     obtain ⟨hs, b', cur, et, hσ', hh, hF, hrep, hsz⟩ := h.hp id _ hb
     rw [hσ] at hσ'
     simp at hσ'
     subst hσ'
     have hl := Hh (P := P) (hG.ty _ _ hty) (off := 0) hh (by omega)
     have hseg : Xb cur 0 ρ.size = cur.toList := by rw [← hsz]; exact HJ cur
     rw [hseg] at hl
     refine ⟨Qb ρ cur.toList :: vs, ?_, Vg hs hrep, hr⟩
     rw [List.mapM_cons]
     have hoff : Ma ρ [] = 0 := rfl
     rw [hoff] at hv'
     subst hv'
     simp only [Ns, qb, Sem.run_pure, qa, hvs, hg, asAddr, hl]
    ·simp at he
   ·simp at he
  ·simp at he
theorem Zw (h : Ha n0 A O0 w0 s σ φ a w) : ∀ {rt : Ty} {fr : List Bool} {d : D} {r : T rt} {l : List Nat} {vs : List Value}, Ed s rt fr d = some (r, l) → RU w (OO O0 s φ) s.heap σ d vs →
 Eb w (OO O0 s φ) rt r fr vs (Ca φ l) ∧ ∀ j, j ∈ l → ∃ b, s.heap j = some b
 | .u, [], .un, r, l, vs, he, hr => by
  simp only [Ed, jc, jh] at he
  obtain ⟨_, rfl⟩ := he
  cases vs with
  | nil => exact ⟨by simp [Eb, Ca], by simp⟩
  | cons v vs => simp [RU] at hr
 | .p x y, f :: fr, .pr d1 d2, r, l, vs, he, hr => by
  cases vs with
  | nil => simp [RU] at hr
  | cons v vs =>
   simp only [Ed] at he
   split at he
   ·rename_i u l1 z l2 h1 h2
    simp only [jc, jh] at he
    obtain ⟨rfl, rfl⟩ := he
    obtain ⟨g1, g2⟩ := Zw h h2 hr.2
    cases f with
    | true =>
     simp only [yb] at h1
     obtain ⟨hrep, hv⟩ := Gc (Ke h1) hr.1
     obtain ⟨ho, hl⟩ := Sf h h1 hrep
     refine ⟨⟨_, Ca φ l1, Ca φ l2, hv, Qc, ?_, g1⟩, ?_⟩
     ·simpa using ho
     ·intro j hj
      rcases jk.1 hj with hj | hj
      ·exact hl j hj
      ·exact g2 j hj
    | false =>
     simp only [yc] at h1
     split at h1
     ·rename_i u' hu
      simp only [jc, jh] at h1
      obtain ⟨rfl, rfl⟩ := h1
      obtain ⟨hs, hvw⟩ := Md (w := w) (O := OO O0 s φ) (hp := s.heap) (σ := σ) hu
      obtain ⟨hrep, hv⟩ := Gc hs hr.1
      refine ⟨⟨_, [], Ca φ l2, hv, by simp [Ca], ?_, g1⟩, by simpa using g2⟩
      simpa using hvw _ hrep
     ·simp at h1
   ·simp at he
 | .u, _ :: _, d, _, _, _, he, _ => by cases d <;> simp [Ed] at he
 | .u, [], .und, _, _, _, he, _ => by simp [Ed] at he
 | .u, [], .anyv, _, _, _, he, _ => by simp [Ed] at he
 | .u, [], .mpo _, _, _, _, he, _ => by simp [Ed] at he
 | .u, [], .t _ _, _, _, _, he, _ => by simp [Ed] at he
 | .u, [], .nil, _, _, _, he, _ => by simp [Ed] at he
 | .u, [], .own _, _, _, _, he, _ => by simp [Ed] at he
 | .u, [], .ptr _ _, _, _, _, he, _ => by simp [Ed] at he
 | .u, [], .eptr _ _ _, _, _, _, he, _ => by simp [Ed] at he
 | .u, [], .rp _ _, _, _, _, he, _ => by simp [Ed] at he
 | .u, [], .pr _ _, _, _, _, he, _ => by simp [Ed] at he
 | .u, [], .tup _, _, _, _, he, _ => by simp [Ed] at he
 | .p _ _, [], d, _, _, _, he, _ => by cases d <;> simp [Ed] at he
 | .p _ _, _ :: _, .und, _, _, _, he, _ => by simp [Ed] at he
 | .p _ _, _ :: _, .anyv, _, _, _, he, _ => by simp [Ed] at he
 | .p _ _, _ :: _, .mpo _, _, _, _, he, _ => by simp [Ed] at he
 | .p _ _, _ :: _, .t _ _, _, _, _, he, _ => by simp [Ed] at he
 | .p _ _, _ :: _, .nil, _, _, _, he, _ => by simp [Ed] at he
 | .p _ _, _ :: _, .own _, _, _, _, he, _ => by simp [Ed] at he
 | .p _ _, _ :: _, .ptr _ _, _, _, _, he, _ => by simp [Ed] at he
 | .p _ _, _ :: _, .eptr _ _ _, _, _, _, he, _ => by simp [Ed] at he
 | .p _ _, _ :: _, .rp _ _, _, _, _, he, _ => by simp [Ed] at he
 | .p _ _, _ :: _, .un, _, _, _, he, _ => by simp [Ed] at he
 | .p _ _, _ :: _, .tup _, _, _, _, he, _ => by simp [Ed] at he
 | .i _, fr, d, _, _, _, he, _ => by cases fr <;> cases d <;> simp [Ed] at he
 | .b, fr, d, _, _, _, he, _ => by cases fr <;> cases d <;> simp [Ed] at he
 | .o, fr, d, _, _, _, he, _ => by cases fr <;> cases d <;> simp [Ed] at he
 | .mp _ _, fr, d, _, _, _, he, _ => by cases fr <;> cases d <;> simp [Ed] at he
 | .s, fr, d, _, _, _, he, _ => by cases fr <;> cases d <;> simp [Ed] at he
 | .sl _, fr, d, _, _, _, he, _ => by cases fr <;> cases d <;> simp [Ed] at he
theorem QO (h : Ha n0 A O0 w0 s σ φ a w) {id : Nat} {kk : IntKind} {e : Ty} {xs : List (Int × List (T e))} (hb : s.heap id = some (.mq kk e xs)) :
 ∃ F, Ya w (.mp (.i kk) (.sl e)) xs [σ id] F ∧ F.Nodup ∧ (∀ b, b ∈ F → n0 ≤ b ∨ A.A b) ∧ F.head? = (φ id).head? ∧ ∀ b, b ∈ F.tail → n0 ≤ b ∧ ¬ OO O0 s φ b := by
 obtain ⟨r, es, clk, g1, g2, g3, g4⟩ := h.hp id _ hb
 obtain ⟨r', es', clk', Gs, s1, s2, s3, s4, s5, s6, s7⟩ := h.shr id _ _ _ hb
 rw [g1] at s1
 simp only [Value.map.injEq, jc] at s1
 subst s1
 refine ⟨r :: List.flatten Gs, .inr ⟨r, es', clk', Gs, by rw [g1], s2, s3, rfl, s4, fun i hi => ?_⟩, ?_, ?_, by rw [g3]; rfl, fun b hb' => s6 b hb'⟩
 ·obtain ⟨en, q1, q2, q3⟩ := s7 i hi
  exact ⟨en, [.int kk (List.get xs ⟨i, hi⟩).1], [en.val], q1, q2, rfl, ⟨rfl, rfl⟩, q3⟩
 ·refine qy.2 ⟨fun hm => (s6 r hm).2 (.inr ⟨id, _, hb, by rw [g3]; simp⟩), s5⟩
 ·intro b hm
  rcases jo.1 hm with rfl | hm
  ·exact h.fresh id _ hb _ (by rw [g3]; simp)
  ·exact .inl (s6 b hm).1
theorem GJ (h : Ha n0 A O0 w0 s σ φ a w) {rt : Ty} {fr : List Bool} {d : D} {r : T rt} {vs : List Value} (he : MD s rt fr d = some r) (hr : RU w (OO O0 s φ) s.heap σ d vs) :
 ∃ F, (∀ O', Eb w O' rt r fr vs F) ∧ F.Nodup ∧ (∀ b, b ∈ F → n0 ≤ b ∨ A.A b) := by
 unfold MD at he
 split at he
 ·rename_i k v id
  split at he
  ·rename_i kk e xs hb
   split at he
   ·rename_i q hq
    have q2 := q
    simp only [Ty.mp.injEq] at q2
    obtain ⟨rfl, rfl⟩ := q2
    simp only [jc] at he
    subst he
    obtain ⟨F, h1, h2, h3, _⟩ := QO h hb
    cases vs with
    | nil => simp [RU] at hr
    | cons u vs =>
     obtain ⟨hr1, hr2⟩ := hr
     cases vs with
     | cons _ _ => simp [RU] at hr2
     | nil =>
      have hu : u = σ id := (Wi.1 hr1).2 _ hb rfl
      subst hu
      exact ⟨F, fun _ => ⟨[σ id], F, [], rfl, by simp, h1, rfl⟩, h2, h3⟩
   ·simp at he
  ·simp at he
 ·simp at he
theorem Mp {fn : Func} {vs : List Value} (h : (fn.results.toList.mapM (Ns a.tmps)).run P w = .ok vs w) : (results fn a.tmps).run P w = .ok (Kp vs) w := by
 unfold results
 rw [Array.mapM_eq_mapM_toList]
 simp only [map_eq_pure_bind, bind_assoc, pure_bind, qb, Sem.run_pure]
 show (Sem.run P (List.mapM (Ns a.tmps) fn.results.toList) w).andThen (fun vs w' => Result.ok (if h : vs.toArray.size = 1 then vs.toArray[0] else Value.tuple vs.toArray) w') = _
 rw [h]
 simp only [qa]
 congr 1
 cases vs with
 | nil => rfl
 | cons v vs => cases vs <;> rfl
end
def Ty.npar : Ty → Nat
 | .p _ y => y.npar + 1
 | _ => 0
theorem Vs {w : World} {O : Nat → Prop} : ∀ {pt : Ty} {x : T pt} {args : List Value}, Gd w O pt x args → args.length = pt.npar
 | .u, _, [], _ => rfl
 | .p x y, v, a :: r, h => by simp [Ty.npar, Vs h.2]
 | .u, _, _ :: _, h => by simp [Gd] at h
 | .p _ _, _, [], h => by simp [Gd] at h
 | .i _, _, l, h => by simp [Gd] at h
 | .b, _, l, h => by simp [Gd] at h
 | .o, _, l, h => by simp [Gd] at h
 | .mp _ _, _, l, h => by simp [Gd] at h
 | .s, _, l, h => by simp [Gd] at h
 | .sl _, _, l, h => by simp [Gd] at h
theorem Ju {w : World} {O : Nat → Prop} {hp : Nat → Option Ba} {σ : Nat → Value} : ∀ {pt : Ty} {x : T pt} {args : List Value} {n t : Nat} {d : D}, Gd w O pt x args → Oa (Hk pt x n) t = some d →
 ∃ j v, t = n + j ∧ args[j]? = some v ∧ Kb w O hp σ d v
 | .p x y, v, a :: r, n, t, d, h, hd => by
  simp only [Hk] at hd
  rw [Gb] at hd
  split at hd
  ·rename_i e
   simp only [jc] at hd
   subst hd
   obtain ⟨⟨cs, ha, hv⟩, _⟩ := h
   refine ⟨0, a, by omega, rfl, ?_⟩
   rw [ha]
   exact Vg (τ := x) (by simp [La]) hv
  ·obtain ⟨j, v', h1, h2, h3⟩ := Ju (hp := hp) (σ := σ) h.2 hd
   exact ⟨j + 1, v', by omega, by simpa using h2, h3⟩
 | .p _ _, _, [], _, _, _, h, _ => by simp [Gd] at h
 | .u, _, _, _, _, _, _, hd => by simp [Hk, Oa] at hd
 | .i _, _, _, _, _, _, h, _ => by simp [Gd] at h
 | .b, _, _, _, _, _, h, _ => by simp [Gd] at h
 | .o, _, _, _, _, _, h, _ => by simp [Gd] at h
 | .mp _ _, _, _, _, _, _, h, _ => by simp [Gd] at h
 | .s, _, _, _, _, _, h, _ => by simp [Gd] at h
 | .sl _, _, _, _, _, _, h, _ => by simp [Gd] at h
section
variable {P : Program} {G : Nc} {L : List (Nat × Nb)}
variable {I : Gr}
def AH (I : Gr) : Fx := ⟨fun _ => False, fun _ => none, fun _ _ h => by simp at h, I, fun _ h => h.elim⟩
theorem UH (hG : Jg P I G) (hm : P.follows .mixedOrders = true) {f : FuncId} {fn : Func} {c : Code} (hf : P.funcs[f]? = some fn) (hb : fn.body = some c) (hname : (fn.name == "runtime.NumGoroutine") = false)
 (hL : ∀ b, b ∈ Sc c → Rc G L b) {pt rt : Ty} {fr : List Bool} {F : T pt → Option (T rt)} (hn : pt.npar ≤ fn.ntmps) (hF : ∀ x r, F x = some r → HE G L fn pt rt fr x = some r) : Fm P I f (.pu pt rt fr F) := by
 refine ⟨⟨fn, hf, hname, by rw [hb]; rfl⟩, ?_⟩
 intro O w x r args hx hargs hO hI hB
 have he := hF x r hx
 unfold HE at he
 rw [hb] at he
 simp only at he
 refine calls_of_wp hf hb ?_
 have hlen := Vs hargs
 have hc : Ha w.heap.size (AH I) O w ⟨fn.ntmps, Hk pt x 0, []⟩ (fun _ => undef) (fun _ => []) { tmps := args.toArray ++ Array.replicate (fn.ntmps - args.toArray.size) undef, defers := [] } w := by
  have hh : ∀ id, AS.heap ⟨fn.ntmps, Hk pt x 0, []⟩ id = none := fun id => rfl
  refine ⟨?_, rfl, ?_, ?_, ?_, ?_, ?_, hO, ⟨rfl, rfl, rfl, jn _, fun _ _ _ => rfl⟩, ?_, hB, hI, fun id kk e xs hb => by rw [hh] at hb; simp at hb⟩
  ·simp; omega
  ·intro t d hd
   have hOO : OO O ⟨fn.ntmps, Hk pt x 0, []⟩ (fun _ => []) = O := by
    funext b
    simp [OO, hh]
   rw [hOO]
   obtain ⟨j, v, h1, h2, h3⟩ := Ju hargs hd
   refine ⟨v, ?_, h3⟩
   have hj : j < args.length := (qn.1 h2).1
   have : t = j := by omega
   subst this
   rw [Array.getElem?_append_left (by simpa using hj)]
   simpa using h2
  ·intro id Aa hb; rw [hh] at hb; simp at hb
  ·intro id Aa hb; rw [hh] at hb; simp at hb
  ·intro id id' Aa blk' _ hb; rw [hh] at hb; simp at hb
  ·intro id Aa hb; rw [hh] at hb; simp at hb
  ·intro id v hv; simp [AH] at hv
 refine GE (A := AH I) hG (fun _ => .inl fun _ h => h) hm c hL he hc ?_
 intro e s σ φ a w' hk h
 have Ie : (match Jm G s fn.results.toList with
  | some d => match MD s rt fr d with
   | some r => some r
   | none => match Ed s rt fr d with
    | some (r, l) => bif Zc l then some r else none
    | none => none
  | none => none) = some r → a.defers = [] ∧ ∃ v, (results fn a.tmps).run P w' = .ok v w' ∧ Vk (fun v w' => ∃ vs Fr, v = Kp vs ∧ Zm w w' (fun _ => False) ∧ Eb w' (fun b => O b ∨ b ∈ Fr) rt r fr vs Fr ∧ Fr.Nodup ∧ ∀ b ∈ Fr, w.heap.size ≤ b) (.returned v) w' := by
  intro hk
  split at hk
  ·rename_i d hd
   split at hk
   ·rename_i r' hq
    simp only [jc] at hk
    subst hk
    obtain ⟨vs, hvs, hru⟩ := Io hG.toEnvTy h hd
    obtain ⟨F, hR, hnd, hfr⟩ := GJ h hq hru
    exact ⟨h.df, _, Mp hvs, vs, F, rfl, ⟨h.fr.size, fun b hb _ => h.fr.block b hb (fun h => h), h.fr.os, h.fr.tape, h.fr.output⟩, hR _, hnd, fun b hb => (hfr b hb).resolve_right (fun h => h)⟩
   split at hk
   ·rename_i r' l hr
    simp only [Da] at hk
    obtain ⟨hnd, hk⟩ := hk
    simp only [jc] at hk
    subst hk
    have hnd := Zd hnd
    obtain ⟨vs, hvs, hru⟩ := Io hG.toEnvTy h hd
    obtain ⟨hR, hlive⟩ := Zw h hr hru
    refine ⟨h.df, _, Mp hvs, vs, Ca φ l, rfl, ⟨h.fr.size, fun b hb _ => h.fr.block b hb (fun h => h), h.fr.os, h.fr.tape, h.fr.output⟩, hR.mono ?_, Ad h hnd hlive, ?_⟩
    ·rintro b (hb | hb)
     ·exact .inl hb
     ·obtain ⟨j, hj, hm'⟩ := Na.1 hb
      obtain ⟨Aa, hbj⟩ := hlive j hj
      exact .inr ⟨j, Aa, hbj, hm'⟩
    ·intro b hb
     obtain ⟨j, hj, hm'⟩ := Na.1 hb
     obtain ⟨Aa, hbj⟩ := hlive j hj
     exact (h.fresh j Aa hbj b hm').resolve_right (fun h => h)
   ·simp at hk
  ·simp at hk
 cases e with
 | normal => exact Ie hk
 | ret => exact Ie hk
 | exit j => simp at hk
end
def Wy (G : Nc) (L : List (Nat × Nb)) (fn : Func) (τ pt rt : Ty) (fr : List Bool) (x0 : T τ) (x : T pt) : Option (T τ × T rt) :=
 match fn.body with
 | some c => match Bc τ x0 500000 with
  | (d0, rows, _) => Si G L c ⟨fn.ntmps, (0, d0) :: Hk pt x 1, rows⟩ fun e s => match e with
   | .exit _ => none
   | _ => match Va s d0 τ, Jm G s fn.results.toList with
    | some (x', l0), some d => match Ed s rt fr d with
     | some (r, l) => bif Zc (l0 ++ l) then some (x', r) else none
     | none => none
    | _, _ => none
 | none => none
theorem Ur {φ : Nat → List Nat} : ∀ {L : List Nat}, (Ca φ L).Nodup → ∀ {i j b : Nat}, i ∈ L → j ∈ L → i ≠ j → b ∈ φ i → b ∉ φ j
 | [], _, _, _, _, h, _, _, _ => by simp at h
 | x :: L, hn, i, j, b, hi, hj, hne, hb => by
  intro hb'
  have hx : Ca φ (x :: L) = φ x ++ Ca φ L := by simp [Ca]
  rw [hx, qz] at hn
  rcases jo.1 hi with e1 | q1
  ·rcases jo.1 hj with e2 | q2
   ·exact hne (e1.trans e2.symm)
   ·exact hn.2.2 b (e1 ▸ hb) b (Na.2 ⟨j, q2, hb'⟩) rfl
  ·rcases jo.1 hj with e2 | q2
   ·exact hn.2.2 b (e2 ▸ hb') b (Na.2 ⟨i, q1, hb⟩) rfl
   ·exact Ur hn.2.1 q1 q2 hne hb hb'
section
variable {P : Program} {G : Nc} {L : List (Nat × Nb)} {I : Gr}
theorem TH (hG : Jg P I G) (hfz : G.fz = false) (hm : P.follows .mixedOrders = true) {f : FuncId} {fn : Func} {c : Code} (hf : P.funcs[f]? = some fn) (hb : fn.body = some c) (hname : (fn.name == "runtime.NumGoroutine") = false)
 (hL : ∀ b, b ∈ Sc c → Rc G L b) {τ pt rt : Ty} {fr : List Bool} {F : T τ → T pt → Option (T τ × T rt)} (hn : pt.npar + 1 ≤ fn.ntmps) (hF : ∀ x0 x r, F x0 x = some r → Wy G L fn τ pt rt fr x0 x = some r) :
 Fm P I f (.io τ pt rt fr F) := by
 refine ⟨⟨fn, hf, hname, by rw [hb]; rfl⟩, ?_⟩
 intro O w x0 x r cs0 F0 args hx hown hF0 hargs hO hI hB hFB
 have he := hF x0 x r hx
 unfold Wy at he
 rw [hb] at he
 simp only at he
 rcases hop : Bc τ x0 500000 with ⟨d0, rows, m⟩
 rw [hop] at he
 simp only at he
 obtain ⟨_, hids, hsh, ψ, ν, hbl, hrows, hrep⟩ := Sk hop hown
 refine calls_of_wp hf hb ?_
 have hlen := Vs hargs
 have hmem : ∀ id Aa, AS.heap ⟨fn.ntmps, (0, d0) :: Hk pt x 1, rows⟩ id = some Aa → id ∈ rows.map (·.1) ∧ FB w (some Aa) (ν id) (ψ id) := by
  intro id Aa hb
  have hm := AS.heap_mem hb
  exact ⟨q6 (f := (·.1)) hm, hrows _ hm⟩
 have hF0' : (Ca ψ (rows.map (·.1))).Nodup := by rw [hbl]; exact hF0
 let A : Fx := ⟨(· ∈ F0), fun id => if id ∈ rows.map (·.1) then some (ν id) else none, fun id v h => by
  split at h
  ·rename_i hi
   obtain ⟨p, hp, rfl⟩ := j9.1 hi
   exact (hids p hp).1
  ·simp at h, I, hFB⟩
 have hOO : OO (fun b => O b ∨ b ∈ F0) ⟨fn.ntmps, (0, d0) :: Hk pt x 1, rows⟩ ψ = (fun b => O b ∨ b ∈ F0) := by
  funext b
  refine propext ⟨fun h => ?_, .inl⟩
  rcases h with h | ⟨id, Aa, hb, hm⟩
  ·exact h
  ·refine .inr ?_
   rw [← hbl]
   exact Na.2 ⟨id, (hmem id Aa hb).1, hm⟩
 have hc : Ha w.heap.size A (fun b => O b ∨ b ∈ F0) w ⟨fn.ntmps, (0, d0) :: Hk pt x 1, rows⟩ ν ψ { tmps := (Qb τ cs0 :: args).toArray ++ Array.replicate (fn.ntmps - (Qb τ cs0 :: args).toArray.size) undef, defers := [] } w := by
  refine ⟨?_, rfl, ?_, ?_, ?_, ?_, ?_, ?_, ⟨rfl, rfl, rfl, jn _, fun _ _ _ => rfl⟩, ?_, hB, hI, fun id kk e xs hb => ((hmem id _ hb).2.nq).elim⟩
  ·simp; omega
  ·intro t d hd
   rw [hOO]
   rw [Gb] at hd
   split at hd
   ·rename_i e
    subst e
    simp only [jc] at hd
    subst hd
    exact ⟨Qb τ cs0, by rw [Array.getElem?_append_left (by simp)]; simp, Vg hsh (hrep w _ _ _ fun _ _ => rfl)⟩
   ·obtain ⟨j, v, h1, h2, h3⟩ := Ju hargs hd
    refine ⟨v, ?_, h3⟩
    have hj : j < args.length := (qn.1 h2).1
    have : t = j + 1 := by omega
    subst this
    rw [Array.getElem?_append_left (by simpa using hj)]
    simpa using h2
  ·intro id Aa hb
   exact (hmem id Aa hb).2.rep
  ·intro id Aa hb
   have hi := (hmem id Aa hb).1
   have : (ψ id).Sublist (Ca ψ (rows.map (·.1))) := by
    unfold Ca
    exact List.sublist_flatten_of_mem (q6 hi)
   exact this.nodup hF0'
  ·intro id id' Aa blk' hne hb hb' b hm
   exact Ur hF0' (hmem id Aa hb).1 (hmem id' blk' hb').1 hne hm
  ·intro id Aa hb b hm
   refine .inr ?_
   show b ∈ F0
   rw [← hbl]
   exact Na.2 ⟨id, (hmem id Aa hb).1, hm⟩
  ·rintro b (hb | hb)
   ·exact hO b hb
   ·exact hown.lt b hb
  ·intro id v hv
   simp only [A] at hv
   split at hv
   ·simpa using hv
   ·simp at hv
 refine GE (A := A) hG (fun h => by rw [hfz] at h; simp at h) hm c hL he hc ?_
 intro e s σ φ a w' hk h
 have Ie : (match Va s d0 τ, Jm G s fn.results.toList with
  | some (x', l0), some d => match Ed s rt fr d with
   | some (r, l) => bif Zc (l0 ++ l) then some (x', r) else none
   | none => none
  | _, _ => none) = some r → a.defers = [] ∧ ∃ v, (results fn a.tmps).run P w' = .ok v w' ∧ Vk (fun v w' => ∃ vs F1 Fr, v = Kp vs ∧ Zm w w' (· ∈ F0) ∧ Ya w' τ r.1 cs0 F1 ∧ (∀ b ∈ F1, w.heap.size ≤ b ∨ b ∈ F0) ∧
  Eb w' (fun b => O b ∨ b ∈ F0 ∨ b ∈ F1 ∨ b ∈ Fr) rt r.2 fr vs Fr ∧ (F1 ++ Fr).Nodup ∧ ∀ b ∈ Fr, w.heap.size ≤ b ∨ b ∈ F0) (.returned v) w' := by
  intro hk
  split at hk
  ·rename_i x' l0 d hx' hd
   split at hk
   ·rename_i r' l hr
    simp only [Da] at hk
    obtain ⟨hnd, hk⟩ := hk
    simp only [jc] at hk
    subst hk
    have hnd := Zd hnd
    have hr0 : Ka w' (OO (fun b => O b ∨ b ∈ F0) s φ) s.heap σ d0 cs0 := by
     refine hrep w' _ _ _ fun p hp => h.pin p.1 (ν p.1) ?_
     show (if p.1 ∈ rows.map (·.1) then some (ν p.1) else none) = _
     rw [if_pos (q6 (f := (·.1)) hp)]
    obtain ⟨ho', hlive0⟩ := Sf h hx' hr0
    obtain ⟨vs, hvs, hru⟩ := Io hG.toEnvTy h hd
    obtain ⟨hR, hlive⟩ := Zw h hr hru
    have hall : ∀ j, j ∈ l0 ++ l → ∃ b, s.heap j = some b := by
     intro j hj
     rcases jk.1 hj with hj | hj
     ·exact hlive0 j hj
     ·exact hlive j hj
    have hfr : ∀ b, b ∈ Ca φ (l0 ++ l) → w.heap.size ≤ b ∨ b ∈ F0 := by
     intro b hb
     obtain ⟨j, hj, hm'⟩ := Na.1 hb
     obtain ⟨Aa, hbj⟩ := hall j hj
     exact h.fresh j Aa hbj b hm'
    have hinOO : ∀ b, b ∈ Ca φ (l0 ++ l) → OO (fun b => O b ∨ b ∈ F0) s φ b := by
     intro b hb
     obtain ⟨j, hj, hm'⟩ := Na.1 hb
     obtain ⟨Aa, hbj⟩ := hall j hj
     exact .inr ⟨j, Aa, hbj, hm'⟩
    rw [Qc] at hfr hinOO
    refine ⟨h.df, _, Mp hvs, vs, Ca φ l0, Ca φ l, rfl, ⟨h.fr.size, fun b hb hno => h.fr.block b hb hno, h.fr.os, h.fr.tape, h.fr.output⟩, ho', fun b hb => hfr b (qg _ hb), hR.mono ?_, ?_, fun b hb => hfr b (qh _ hb)⟩
    ·rintro b (hb | hb | hb | hb)
     ·exact .inl (.inl hb)
     ·exact .inl (.inr hb)
     ·exact hinOO b (qg _ hb)
     ·exact hinOO b (qh _ hb)
    ·rw [← Qc]
     exact Ad h hnd hall
   ·simp at hk
  ·simp at hk
 cases e with
 | normal => exact Ie hk
 | ret => exact Ie hk
 | exit j => simp at hk
end
theorem Kg.lt {w : World} : ∀ {pt : Ty} {x : T pt} {args : List Value} {F : List Nat}, Kg w pt x args F → ∀ b, b ∈ F → b < w.heap.size
 | .u, _, [], F, h, b, hb => by simp only [Kg] at h; subst h; simp at hb
 | .p x y, v, a :: r, F, h, b, hb => by
  obtain ⟨cs, F1, F2, _, rfl, ho, h⟩ := h
  rcases jk.1 hb with hb | hb
  ·exact ho.lt b hb
  ·exact Kg.lt h b hb
 | .u, _, _ :: _, _, h, _, _ => by simp [Kg] at h
 | .p _ _, _, [], _, h, _, _ => by simp [Kg] at h
 | .i _, _, l, _, h, _, _ => by simp [Kg] at h
 | .b, _, l, _, h, _, _ => by simp [Kg] at h
 | .o, _, l, _, h, _, _ => by simp [Kg] at h
 | .mp _ _, _, l, _, h, _, _ => by simp [Kg] at h
 | .s, _, l, _, h, _, _ => by simp [Kg] at h
 | .sl _, _, l, _, h, _, _ => by simp [Kg] at h
section
variable {P : Program} {G : Nc} {L : List (Nat × Nb)} {I : Gr}
end
open Go Go.WideShapes
def Ni : (τ : Ty) → T τ → Prop
 | .i k, n => k.has n
 | .b, _ => True
 | .o, _ => True
 | .mp _ _, _ => True
 | .s, x => ja x ≤ Re
 | .sl e, xs => ja xs ≤ Re ∧ ∀ i (h : i < ja xs), Ni e (List.get xs ⟨i, h⟩)
 | .u, _ => True
 | .p x y, v => Ni x v.1 ∧ Ni y v.2
def Ty.pos : Ty → Bool
 | .sl e => e.pos && qq 0 e.size
 | .p x y => x.pos && y.pos
 | .o => false
 | .mp _ _ => false
 | _ => true
section
variable {H : Type} {enc : TypeId × Value → H} {P : Program} {w : World} {base : Nat} {spare : Nat → Bool} {held : Bool}
theorem Tg {τ : Ty} {t : TypeId} (h : Ob P τ t = true) : P.cellsOf t = τ.size := by
 obtain ⟨i, h1, h2, _⟩ := Tok.size h
 simp [Program.cellsOf, h1, h2]
theorem XI {k : IntKind} {n : Int} (h : (Lit.int k n).wf = true) : k.has n := by
 simpa [Lit.wf, IntKind.has] using h
theorem OK {a : Addr} {n : Nat} (h : n ≠ 0) : a.add n = ⟨a.block, a.off + n, none⟩ := by
 simp [Addr.add, h]
theorem Wr {a : Addr} {n : Nat} {cs : List Value} (h : w.cells? base a n = some cs) (hn : 0 < n) :
 ∃ cur et fr, a = ⟨a.block, a.off, none⟩ ∧ w.heap[a.block]? = some (.cells cur et fr) ∧ a.off + n ≤ cur.size ∧ cs = Xb cur a.off n := by
 unfold World.cells? at h
 split at h
 ·have hlen : cs.length = n := by simpa using mapM_some_length h
  have hget : ∀ i, i < n → w.cell? (a.add i) = cs[i]? := fun i hi => mapM_some_get h i i (by simp [hi])
  have h0 := hget 0 hn
  have ha : a.add 0 = a := by simp [Addr.add]
  rw [ha] at h0
  have hc0 : cs[0]? = some (cs[0]'(by omega)) := je (by omega)
  rw [hc0] at h0
  unfold World.cell? at h0
  split at h0
  ·rename_i cur et fr hb
   have hsp : a.spot = none := by
    cases hs : a.spot with
    | none => rfl
    | some x => simp [hs] at h0
   have hcell : ∀ i, i < n → cur[a.off + i]? = cs[i]? := by
    intro i hi
    have := hget i hi
    by_cases hi0 : i = 0
    ·subst hi0
     rw [ha] at this
     unfold World.cell? at this
     rw [hb] at this
     simpa [hsp] using this
    ·rw [OK hi0] at this
     unfold World.cell? at this
     simp only at this
     rw [hb] at this
     simpa using this
   refine ⟨cur, et, fr, by cases a; simp_all, hb, ?_, ?_⟩
   ·have h1 := hcell (n - 1) (by omega)
    rw [je (by omega)] at h1
    have := (Array.getElem?_eq_some_iff.1 h1).1
    omega
   ·apply qc
    intro i
    by_cases hi : i < n
    ·rw [Uc _ _ _ _ hi, hcell i hi]
    ·rw [qf (by omega), qf]
     simp [Xb]; omega
  ·simp at h0
 ·simp at h
theorem PI {fs : List Field} {o : Nat} (h : Vc P .u fs o = true) : fs = [] := by
 cases fs <;> simp_all [Vc]
theorem Rz {x y : Ty} {fs : List Field} {o : Nat} (h : Vc P (.p x y) fs o = true) : ∃ f r, fs = f :: r ∧ f.offset = o ∧ Ob P x f.type = true ∧ Vc P y r (o + x.size) = true := by
 cases fs with
 | nil => simp [Vc] at h
 | cons f r =>
  simp only [Vc, jd] at h
  exact ⟨f, r, rfl, jt h.1.1.1, h.1.2, h.2⟩
theorem Zy {x y : Ty} {t : TypeId} (h : Ob P (.p x y) t = true) : ∃ fs, P.underlying t = some (.struct fs) ∧ Vc P (.p x y) fs.toList 0 = true := by
 simp only [Ob, jd] at h
 obtain ⟨_, h⟩ := h
 split at h
 ·rename_i fs hfs
  refine ⟨fs, hfs, ?_⟩
  split at h
  ·rename_i f r hr
   rw [hr]
   simpa [Vc] using h
  ·simp at h
 ·simp at h
theorem Az {t : TypeId} (h : Ob P .u t = true) : ∃ fs, P.underlying t = some (.struct fs) ∧ fs.size = 0 := by
 simp only [Ob, jd] at h
 obtain ⟨_, h⟩ := h
 split at h
 ·rename_i fs hfs
  exact ⟨fs, hfs, jt h⟩
 ·simp at h
mutual
theorem Us (hO : ∀ b, ¬ (fun _ : Nat => False) b) : ∀ (τ : Ty) (t : TypeId) (n : Nat) (cs : List Value) (x : DataW H × List MemPlace), Ob P τ t = true → τ.pos = true →
 DataW.trod enc P w base spare held n t cs = some x → ∃ y : T τ, Ga w (fun _ => False) τ y cs ∧ Ni τ y
 | .i k, t, n, cs, x, ht, _, h => by
  obtain ⟨m, h1, _, h2⟩ := DataW.trod_int (Tok.i ht) h
  exact ⟨m, h1, XI h2⟩
 | .b, t, n, cs, x, ht, _, h => by
  obtain ⟨m, h1, _⟩ := DataW.trod_bool (Tok.b ht) h
  exact ⟨m, h1, trivial⟩
 | .o, t, n, cs, x, ht, hp, h => by simp [Ty.pos] at hp
 | .mp _ _, t, n, cs, x, ht, hp, h => by simp [Ty.pos] at hp
 | .s, t, n, cs, x, ht, _, h => by
  obtain ⟨m, h1, _, h2⟩ := DataW.trod_string (Tok.s ht) h
  refine ⟨m.data.toList, ?_, ?_⟩
  ·show cs = [.string ⟨qd m.data.toList⟩]
   rw [h1]
  ·show m.data.toList.length ≤ Re
   have : m.size = m.data.toList.length := Array.length_toList.symm
   unfold maxLen at h2
   unfold Re
   omega
 | .sl e, t, n, cs, x, ht, hp, h => by
  obtain ⟨et, hu, he⟩ := Tok.sl ht
  simp only [Ty.pos, jd] at hp
  have hpos : 0 < e.size := by simpa using hp.2
  rcases DataW.trod_slice hu h with ⟨h1, _⟩ | ⟨a, len, cap, elems, rest, m, _, h1, _, _, h2, h3, h4, h5, _, _⟩
  ·exact ⟨([] : List (T e)), ⟨none, 0, h1, jn _, Nat.zero_le _, .inl rfl⟩, ⟨Nat.zero_le _, fun i hi => absurd hi (Nat.not_lt_zero i)⟩⟩
  ·rw [Tg he] at h5
   have hone : ∀ i, i < len → ∃ y : T e, ∃ cs', w.cells? base (a.add (i * e.size)) e.size = some cs' ∧ Ga w (fun _ => False) e y cs' ∧ Ni e y := by
    intro i hi
    have := h5 i hi
    rw [je (by omega), j7] at this
    obtain ⟨cs', hc, hy⟩ := this
    obtain ⟨y, hv, hr⟩ := Us hO e et m cs' _ he hp.1 hy
    exact ⟨y, cs', hc, hv, hr⟩
   let ys : List (T e) := List.ofFn fun i : Fin len => Classical.choose (hone i.1 i.2)
   have hlen : ys.length = len := by simp [ys]
   have hy : ∀ i (h : i < ys.length), ∃ cs', w.cells? base (a.add (i * e.size)) e.size = some cs' ∧ Ga w (fun _ => False) e (ys.get ⟨i, h⟩) cs' ∧ Ni e (ys.get ⟨i, h⟩) := by
    intro i hi
    have := Classical.choose_spec (hone i (by omega))
    simpa [ys] using this
   have hmax : len ≤ Re := by unfold maxLen at h3; unfold Re; omega
   refine ⟨ys, ⟨some a, cap, by rw [h1, hlen], by rw [hlen]; exact h2, by rw [hlen]; exact hmax, ?_⟩, by rw [hlen]; exact hmax, fun i hi => (hy i hi).choose_spec.2.2⟩
   by_cases hl0 : len = 0
   ·left
    exact qm (by omega)
   ·right
    obtain ⟨cs0, hc0, _⟩ := hy 0 (by omega)
    have ha0 : a.add (0 * e.size) = a := by simp [Addr.add]
    rw [ha0] at hc0
    obtain ⟨cur, et', fr, ha, hb, _, _⟩ := Wr hc0 hpos
    have hadd : ∀ i, (a.add (i * e.size)).block = a.block ∧ (a.add (i * e.size)).off = a.off + i * e.size := by
     intro i
     unfold Addr.add
     split
     ·rename_i hz; simp [hz]
     ·exact ⟨rfl, rfl⟩
    refine ⟨a.block, a.off, cur, et', fr, by rw [← ha], fun h => h, hb, ?_, ?_⟩
    ·obtain ⟨cs1, hc1, _⟩ := hy (len - 1) (by omega)
     obtain ⟨cur1, et1, fr1, _, hb1, hs1, _⟩ := Wr hc1 hpos
     rw [(hadd _).1, hb] at hb1
     simp only [jc, Obj.cells.injEq] at hb1
     rw [(hadd _).2, ← hb1.1] at hs1
     have : len * e.size = (len - 1) * e.size + e.size := by
      rw [← q0]; congr 1; omega
     show a.off + ys.length * e.size ≤ cur.size
     rw [hlen]
     omega
    ·intro i hi
     obtain ⟨cs1, hc1, hv, _⟩ := hy i hi
     obtain ⟨cur1, et1, fr1, _, hb1, _, hs1⟩ := Wr hc1 hpos
     rw [(hadd _).1, hb] at hb1
     simp only [jc, Obj.cells.injEq] at hb1
     rw [(hadd _).2, ← hb1.1] at hs1
     rw [← hs1]
     exact hv
 | .u, t, n, cs, x, ht, _, h => by
  obtain ⟨fs, hu, hz⟩ := Az ht
  obtain ⟨xs, m, _, _, hl, _⟩ := DataW.trod_struct hu h
  rw [Tg ht] at hl
  exact ⟨(), qm hl, trivial⟩
 | .p a c2, t, n, cs, x, ht, hp, h => by
  obtain ⟨fs, hu, hf⟩ := Zy ht
  obtain ⟨xs, m, _, _, hl, _, hget⟩ := DataW.trod_struct hu h
  rw [Tg ht] at hl
  have := Lt hO (.p a c2) fs.toList 0 m cs hf hp (by simpa using hl) (by
   intro i f hi
   have := hget i f (by simpa using hi)
   have hlt : i < xs.length := by
    have : i < fs.toList.length := (qn.1 hi).1
    simp at this; omega
   exact ⟨_, this.trans (je hlt)⟩)
  simpa using this
termination_by τ => (sizeOf τ, 1)
theorem Lt (hO : ∀ b, ¬ (fun _ : Nat => False) b) : ∀ (τ : Ty) (fs : List Field) (o m : Nat) (cs : List Value), Vc P τ fs o = true → τ.pos = true → cs.length = o + τ.size →
 (∀ (i : Nat) (f : Field), fs[i]? = some f → ∃ x, DataW.trod enc P w base spare held m f.type ((cs.drop f.offset).take (P.cellsOf f.type)) = some x) →
 ∃ y : T τ, Ga w (fun _ => False) τ y (cs.drop o) ∧ Ni τ y
 | .p a c2, fs, o, m, cs, hf, hp, hl, hx => by
  obtain ⟨f, r, rfl, ho, ht, hr⟩ := Rz hf
  simp only [Ty.pos, jd] at hp
  simp only [Ty.size] at hl
  obtain ⟨z, hz⟩ := hx 0 f rfl
  rw [Tg ht, ho] at hz
  obtain ⟨y1, hv1, hr1⟩ := Us hO a f.type m _ z ht hp.1 hz
  obtain ⟨y2, hv2, hr2⟩ := Lt hO c2 r (o + a.size) m cs hr hp.2 (by omega) (fun i f' hi => hx (i + 1) f' (by simpa using hi))
  refine ⟨(y1, y2), ⟨(cs.drop o).take a.size, cs.drop (o + a.size), ?_, hv1, hv2⟩, hr1, hr2⟩
  rw [← List.drop_drop, List.take_append_drop]
 | .u, fs, o, m, cs, _, _, hl, _ => ⟨(), by simp only [Ga, Ty.size] at hl ⊢; exact List.drop_of_length_le (by omega), trivial⟩
 | .i _, fs, o, m, cs, hf, _, _, _ => by simp [Vc] at hf
 | .b, fs, o, m, cs, hf, _, _, _ => by simp [Vc] at hf
 | .o, fs, o, m, cs, hf, _, _, _ => by simp [Vc] at hf
 | .mp _ _, fs, o, m, cs, hf, _, _, _ => by simp [Vc] at hf
 | .s, fs, o, m, cs, hf, _, _, _ => by simp [Vc] at hf
 | .sl _, fs, o, m, cs, hf, _, _, _ => by simp [Vc] at hf
termination_by τ => (sizeOf τ, 0)
end
end
open Go Go.WideShapes Go.ChangeShapes
def We (P : Program) : Ty → List TypeId → Bool
 | .p x y, t :: ts => Ob P x t && x.pos && We P y ts
 | .u, [] => true
 | _, _ => false
section
variable {H : Type} {enc : TypeId × Value → H} {P : Program} {w : World} {base : Nat} {spare : Nat → Bool} {held : Bool}
theorem BE {τ : Ty} {t : TypeId} {v : Value} {r : Reach} {b0 : Nat} (ht : Ob P τ t = true) (h : Value.okWide P w r b0 t v) : v = Qb τ v.cells.toList := by
 have key : ∀ {τ : Ty}, τ.isAgg = false → v.cells = #[v] → v = Qb τ v.cells.toList := by
  intro τ h1 h2
  rw [h2]; simp [Qb, h1]
 cases τ with
 | i k =>
  obtain ⟨n, rfl⟩ := okWide_int (Tok.i ht) h
  exact key rfl rfl
 | b =>
  obtain ⟨n, rfl⟩ := okWide_bool (Tok.b ht) h
  exact key rfl rfl
 | o =>
  refine key rfl ?_
  obtain ⟨et, hu⟩ := Tok.o ht
  unfold Value.okWide at h
  rw [hu] at h
  cases v with
  | agg cs => simp [Cell.okWide, Cell.ok, hu] at h
  | _ => rfl
 | mp _ _ =>
  refine key rfl ?_
  obtain ⟨kt, et, hu, _⟩ := Tok.mp ht
  unfold Value.okWide at h
  rw [hu] at h
  cases v with
  | agg cs => simp [Cell.okWide, Cell.ok, hu] at h
  | _ => rfl
 | s =>
  refine key rfl ?_
  have hu := Tok.s ht
  unfold Value.okWide at h
  rw [hu] at h
  cases v with
  | agg cs => simp [Cell.okWide, Cell.ok, hu] at h
  | _ => rfl
 | sl e =>
  refine key rfl ?_
  obtain ⟨et, hu, _⟩ := Tok.sl ht
  unfold Value.okWide at h
  rw [hu] at h
  cases v with
  | agg cs => simp [Cell.okWide, Cell.ok, hu] at h
  | _ => rfl
 | u =>
  obtain ⟨fs, hu, _⟩ := Az ht
  obtain ⟨cs, rfl, _⟩ := okWide_struct hu h
  simp [Qb, Ty.isAgg, Value.cells]
 | p x y =>
  obtain ⟨fs, hu, _⟩ := Zy ht
  obtain ⟨cs, rfl, _⟩ := okWide_struct hu h
  simp [Qb, Ty.isAgg, Value.cells]
theorem Ts : ∀ {pt : Ty} {ts : List TypeId} {vs : List Value} {ds : List (DataW H)} {ps : List MemPlace}, We P pt ts = true → DataW.TrodAll enc P w 0 spare held ts vs ds ps →
 (∀ (j : Nat) t v, ts[j]? = some t → vs[j]? = some v → Value.okWide P w .any base t v) → ∃ x : T pt, Gd w (fun _ => False) pt x vs ∧ Ni pt x
 | .p x y, t :: ts, v :: vs, d :: ds, ps, hp, h, hv => by
  simp only [We, jd] at hp
  obtain ⟨p, q, ⟨n, h1⟩, h2, _⟩ := h
  obtain ⟨a, ha, hra⟩ := Us (fun _ h => h) x t n _ _ hp.1.1 hp.1.2 h1
  obtain ⟨b, hb, hrb⟩ := Ts hp.2 h2 fun j t' v' h1 h2 => hv (j + 1) t' v' (by simpa using h1) (by simpa using h2)
  exact ⟨(a, b), ⟨⟨_, BE hp.1.1 (hv 0 t v rfl rfl), ha⟩, hb⟩, hra, hrb⟩
 | .u, [], [], [], _, _, _, _ => ⟨(), trivial, trivial⟩
 | .p _ _, [], _, _, _, hp, _, _ => by simp [We] at hp
 | .u, _ :: _, _, _, _, hp, _, _ => by simp [We] at hp
 | .i _, _, _, _, _, hp, _, _ => by simp [We] at hp
 | .b, _, _, _, _, hp, _, _ => by simp [We] at hp
 | .o, _, _, _, _, hp, _, _ => by simp [We] at hp
 | .mp _ _, _, _, _, _, hp, _, _ => by simp [We] at hp
 | .s, _, _, _, _, hp, _, _ => by simp [We] at hp
 | .sl _, _, _, _, _, hp, _, _ => by simp [We] at hp
 | .p _ _, _ :: _, [], _, _, _, h, _ => by simp [DataW.TrodAll] at h
 | .p _ _, _ :: _, _ :: _, [], _, _, h, _ => by simp [DataW.TrodAll] at h
 | .u, [], _ :: _, _, _, _, h, _ => by simp [DataW.TrodAll] at h
 | .u, [], [], _ :: _, _, _, h, _ => by simp [DataW.TrodAll] at h
def Xs (P : Program) (t : TypeId) : Prop := ∃ τ : Ty, Ob P τ t = true ∧ τ.pos = true
theorem Sz : ∀ {τ : Ty} {fs : List Field} {o : Nat}, Vc P τ fs o = true → τ.pos = true →
 (∀ f ∈ fs, Xs P f.type) ∧ τ.size = (fs.map fun f => P.cellsOf f.type).sum ∧ ∀ (j : Nat) f, fs[j]? = some f → f.offset = o + ((fs.take j).map fun f => P.cellsOf f.type).sum
 | .u, fs, o, h, _ => by
  rw [PI h]
  simp [Ty.size]
 | .p x y, fs, o, h, hp => by
  obtain ⟨f, r, rfl, ho, ht, hr⟩ := Rz h
  simp only [Ty.pos, jd] at hp
  obtain ⟨h1, h2, h3⟩ := Sz hr hp.2
  refine ⟨?_, ?_, ?_⟩
  ·intro g hg
   rcases jo.1 hg with rfl | hg
   ·exact ⟨x, ht, hp.1⟩
   ·exact h1 g hg
  ·simp [Ty.size, Tg ht, h2]
  ·intro j g hj
   cases j with
   | zero => simp at hj; subst hj; simp [ho]
   | succ j =>
    have := h3 j g (by simpa using hj)
    simp [this, Tg ht, js]
 | .i _, fs, o, h, _ => by simp [Vc] at h
 | .b, fs, o, h, _ => by simp [Vc] at h
 | .o, fs, o, h, _ => by simp [Vc] at h
 | .mp _ _, fs, o, h, _ => by simp [Vc] at h
 | .s, fs, o, h, _ => by simp [Vc] at h
 | .sl _, fs, o, h, _ => by simp [Vc] at h
theorem Um {t : TypeId} {u : TypeDesc} (h : Xs P t) (hu : P.underlying t = some u) : (∃ k, u = .int k) ∨ u = .bool ∨ u = .string ∨ (∃ e, u = .slice e ∧ Xs P e ∧ 0 < P.cellsOf e) ∨ ∃ fs, u = .struct fs := by
 obtain ⟨τ, ht, hp⟩ := h
 cases τ with
 | i k => rw [Tok.i ht] at hu; exact .inl ⟨k, (q9 hu).symm⟩
 | b => rw [Tok.b ht] at hu; exact .inr (.inl (q9 hu).symm)
 | o => simp [Ty.pos] at hp
 | mp _ _ => simp [Ty.pos] at hp
 | s => rw [Tok.s ht] at hu; exact .inr (.inr (.inl (q9 hu).symm))
 | sl e =>
  obtain ⟨et, h1, h2⟩ := Tok.sl ht
  rw [h1] at hu
  simp only [Ty.pos, jd] at hp
  exact .inr (.inr (.inr (.inl ⟨et, (q9 hu).symm, ⟨e, h2, hp.1⟩, by rw [Tg h2]; simpa using hp.2⟩)))
 | u => obtain ⟨fs, h1, _⟩ := Az ht; rw [h1] at hu; exact .inr (.inr (.inr (.inr ⟨fs, (q9 hu).symm⟩)))
 | p x y => obtain ⟨fs, h1, _⟩ := Zy ht; rw [h1] at hu; exact .inr (.inr (.inr (.inr ⟨fs, (q9 hu).symm⟩)))
theorem BD : Kids P (Xs P) := by
 refine ⟨?_, ?_, ?_, ?_, ?_⟩
 ·intro t e ht hu
  rcases Um ht hu with ⟨k, h⟩ | h | h | ⟨e', h, _⟩ | ⟨fs, h⟩ <;> simp at h
 ·intro t e ht hu
  rcases Um ht hu with ⟨k, h⟩ | h | h | ⟨e', h, h2, _⟩ | ⟨fs, h⟩ <;> simp at h
  rw [h]; exact h2
 ·intro t e n ht hu
  rcases Um ht hu with ⟨k, h⟩ | h | h | ⟨e', h, _⟩ | ⟨fs, h⟩ <;> simp at h
 ·intro t fs ht hu
  obtain ⟨τ, ht, hp⟩ := ht
  cases τ with
  | i k => rw [Tok.i ht] at hu; simp at hu
  | b => rw [Tok.b ht] at hu; simp at hu
  | o => simp [Ty.pos] at hp
  | mp _ _ => simp [Ty.pos] at hp
  | s => rw [Tok.s ht] at hu; simp at hu
  | sl e => obtain ⟨et, h1, _⟩ := Tok.sl ht; rw [h1] at hu; simp at hu
  | u =>
   obtain ⟨fs', h1, h2⟩ := Az ht
   rw [h1] at hu
   simp only [jc, TypeDesc.struct.injEq] at hu
   subst hu
   have : fs'.toList = [] := by simpa using h2
   rw [Tg ht, this]
   simp [Ty.size]
  | p x y =>
   obtain ⟨fs', h1, h2⟩ := Zy ht
   rw [h1] at hu
   simp only [jc, TypeDesc.struct.injEq] at hu
   subst hu
   obtain ⟨a, b, c⟩ := Sz h2 hp
   exact ⟨a, by rw [Tg ht, b], fun j f hj => by simpa using c j f hj⟩
 ·intro t k e ht hu
  rcases Um ht hu with ⟨k, h⟩ | h | h | ⟨e', h, _⟩ | ⟨fs, h⟩ <;> simp at h
theorem Rt : ∀ {pt : Ty} {ts : List TypeId}, We P pt ts = true → ∀ t ∈ ts, Xs P t
 | .p x y, t :: ts, h, t', ht => by
  simp only [We, jd] at h
  rcases jo.1 ht with rfl | ht
  ·exact ⟨x, h.1.1, h.1.2⟩
  ·exact Rt h.2 t' ht
 | .u, [], _, _, ht => by simp at ht
 | .p _ _, [], _, _, ht => by simp at ht
 | .u, _ :: _, h, _, _ => by simp [We] at h
 | .i _, _, h, _, _ => by simp [We] at h
 | .b, _, h, _, _ => by simp [We] at h
 | .o, _, h, _, _ => by simp [We] at h
 | .mp _ _, _, h, _, _ => by simp [We] at h
 | .s, _, h, _, _ => by simp [We] at h
 | .sl _, _, h, _, _ => by simp [We] at h
theorem Jr {w' : World} {sp' : Nat → Bool} : ∀ {ts : List TypeId} {vs : List Value} {ds : List (DataW H)} {ps : List MemPlace}, (∀ t ∈ ts, Xs P t) →
 DataW.TrodAll enc P w 0 (fun _ => true) true ts vs ds ps → (∀ p ∈ ps, w.sameAt w' p) → (∀ p ∈ ps, sp' p.block = true) → DataW.TrodAll enc P w' 0 sp' true ts vs ds ps
 | [], [], [], _, _, h, _, _ => h
 | t :: ts, v :: vs, d :: ds, ps, hp, h, h1, h2 => by
  obtain ⟨p, q, ⟨n, ha⟩, hb, rfl⟩ := h
  refine ⟨p, q, ⟨n, DataW.trod_stays BD ?_ (fun h => by simp at h) (hp t (by simp)) ha (fun z hz => h1 z (qg _ hz)) (fun z hz => h2 z (qg _ hz))⟩,
   Jr (fun t ht => hp t (by simp [ht])) hb (fun z hz => h1 z (qh _ hz)) (fun z hz => h2 z (qh _ hz)), rfl⟩
  intro t e ht hu
  rcases Um ht hu with ⟨k, h⟩ | h | h | ⟨e', h, _, h2⟩ | ⟨fs, h⟩ <;> simp at h
  rw [h]; exact h2
 | [], _ :: _, _, _, _, h, _, _ => by simp [DataW.TrodAll] at h
 | [], [], _ :: _, _, _, h, _, _ => by simp [DataW.TrodAll] at h
 | _ :: _, [], _, _, _, h, _, _ => by simp [DataW.TrodAll] at h
 | _ :: _, _ :: _, [], _, _, h, _, _ => by simp [DataW.TrodAll] at h
theorem Tt : ∀ {ts : List TypeId} {vs : List Value} {ds : List (DataW H)} {ps : List MemPlace}, DataW.TrodAll enc P w base spare held ts vs ds ps → ds.length = ts.length
 | [], [], [], _, _ => rfl
 | _ :: _, _ :: _, _ :: _, _, h => by
  obtain ⟨_, _, _, h, _⟩ := h
  simp [Tt h]
 | [], _ :: _, _, _, h => by simp [DataW.TrodAll] at h
 | [], [], _ :: _, _, h => by simp [DataW.TrodAll] at h
 | _ :: _, [], _, _, h => by simp [DataW.TrodAll] at h
 | _ :: _, _ :: _, [], _, h => by simp [DataW.TrodAll] at h
theorem Zm.but {w w' : World} (h : Zm w w' fun _ => False) (may : MemPlace → Prop) : w.keptBut w' may := by
 refine ⟨h.os, h.output, fun i hi => ?_⟩
 rw [h.block i hi (fun h => h)]
 cases w.heap[i]? with
 | none => rfl
 | some o =>
  cases o with
  | cells c t fr => exact ⟨rfl, rfl, rfl, fun _ _ => rfl⟩
  | map es clock => exact .inr ⟨rfl, rfl⟩
  | _ => rfl
def QM : Gr := ⟨0, fun _ => True, fun _ _ _ h => h⟩
theorem CD {C : Checked} {os : Os} {f : FuncId} {fn : Func} {s : ChangeSpec} {apart fresh handsOn again : Bool} {pt : Ty} {fl : Bool} {F : T pt → Option (Bool × Unit)} {tb : TypeId}
 (own : ownKnob C.prog.godebug = none) (started : os.Started) (noInit : C.prog.inits.idxOf? f = none) (hfn : C.prog.funcs[f]? = some fn)
 (witness : ∃ (w : World) (tape : Tape) (i : Input), w.os = os ∧ (w.forCall tape i).Shaped C.prog ∧ i.vars = [] ∧ Input.okWide C.prog (w.forCall tape i) .any w.heap.size f i ∧
  s.pre6 enc C.prog fn [] apart (w.forCall tape i).memory i.args ∧ ({} : Assume).holds C.prog (lone (Frame.enter C.prog f i.args .normal) [] (w.forCall tape i)))
 (hvars : s.vars = []) (hs : ∀ ds : List (DataW H), ds.length = fn.params.toList.length → s.fn H ds = { results := [.lit (.bool true)], args := ds })
 (hp : We C.prog pt fn.params.toList = true) (hr : fn.resultTypes = #[tb]) (htb : C.prog.underlying tb = some .bool)
 (hsound : Fm C.prog QM f (.pu pt (.p .b .u) [fl] F)) (hF : ∀ x, Ni pt x → F x = some (true, ())) :
 ReturnsInHanded {} C os f .any (s.pre6 enc C.prog fn [] apart) (s.post enc C.prog fn apart fresh handsOn again) := by
 refine returnsInHanded_of_change own started noInit hfn witness ?_
 intro W b0 args ds gs before hval hW _ _
 have hW0 := hW
 obtain ⟨p, q, hA, hV, hps, hfz, hnd⟩ := hW
 rw [hvars] at hV
 have hgs : gs = [] ∧ q = [] := by
  cases gs with
  | nil => exact ⟨rfl, hV⟩
  | cons _ _ => exact hV.elim
 obtain ⟨rfl, rfl⟩ := hgs
 simp only [List.append_nil] at hps
 subst hps
 obtain ⟨x, hx, hrx⟩ := Ts (base := b0) hp hA fun j t v h1 h2 => hval j t v (by simpa using h1) (by simpa using h2)
 have hcall := hsound.2 (fun _ => False) W x (true, ()) args.toList (hF x hrx) hx (fun _ h => h.elim) trivial (Nat.zero_le _)
 refine hcall.mono fun e W' hret => ?_
 cases e with
 | returned v =>
  obtain ⟨vs, Fr, hv, hk, hR, _, _⟩ := hret
  have hvt : v = .bool true := by
   cases vs with
   | nil => simp [Eb] at hR
   | cons a r =>
    obtain ⟨cs, F1, F2, ha, _, hown, hrest⟩ := hR
    cases r with
    | cons _ _ => simp [Eb] at hrest
    | nil =>
     have hcs : cs = [.bool true] := by
      cases fl with
      | true => exact hown.1
      | false => exact hown.1
     rw [hv, Kp, ha, hcs]
     rfl
  subst hvt
  refine ⟨_, rfl, ?_⟩
  have hsp := hs ds (Tt hA)
  have hlt : ∀ z ∈ before, z.block < W.heap.size := hW0.lt
  have hsame : ∀ z ∈ before, W.sameAt W' z := by
   intro z hz
   have hb := hk.block z.block (hlt z hz) (fun h => h)
   cases z with
   | cell b off =>
    show W'.cell? _ = W.cell? _
    simp only [World.cell?]
    rw [show W'.heap[b]? = W.heap[b]? from hb]
   | map b => exact hb
  have hargs : ∀ sp : Nat → Bool, (∀ z ∈ before, sp z.block = true) → DataW.TrodAll enc C.prog W' 0 sp true fn.params.toList args.toList ds before :=
   fun sp h => Jr (Rt hp) hA hsame h
  have hres : ∀ (b : Nat) (sp : Nat → Bool) (hd : Bool), DataW.TrodAll enc C.prog W' b sp hd fn.resultTypes.toList ((Value.bool true).resultList fn.resultTypes.size) [.lit (.bool true)] [] := by
   intro b sp hd
   rw [hr]
   exact trodAll_mk1 (Go.RowKit.shut_bool htb true)
  have hold : ∀ z ∈ before, (fun b => decide (b < W.heap.size)) z.block = true := fun z hz => by simpa using hlt z hz
  refine ⟨ds, [], before, [], before, [], hW0, ?_, ?_, ?_, hk.but _, fun _ => ⟨?_, ds.cons (.lit (.bool true)), [], before, ⟨before, [], ?_, ?_, by simp, ?_, ?_⟩, fun z hz _ => hz⟩⟩
  ·rw [List.append_nil, hsp]; exact hres _ _ _
  ·rw [List.append_nil, hsp]; exact hargs _ hold
  ·rw [List.append_nil, hsp, hvars]; rfl
  ·intro j t r hj hv
   rw [hr] at hj hv
   match j, hj, hv with
   | 0, hj, hv =>
    simp only [List.getElem?_toArray, List.getElem?_cons_zero, jc] at hj
    simp [Value.resultList] at hv
    subst hj; subst hv
    exact Go.RowKit.okWide_bool_mk htb true
  ·exact trodAll_append (hargs _ (fun _ _ => rfl)) (hres _ _ _)
  ·rw [hvars]; rfl
  ·intro b off hz
   have := hfz b off hz
   unfold World.frozen? at this ⊢
   rw [show W'.heap[b]? = W.heap[b]? from hk.block b (hlt _ hz) (fun h => h)]
   exact this
  ·exact hnd
 | _ => exact hret.elim
end
noncomputable def Vb {X R : Type} (step : X → Option (X ⊕ R)) (x : X) : Option R :=
 open Classical in if h : ∃ m y, Ym step m x y then some h.choose_spec.choose else none
theorem Ym.det {X R : Type} {step : X → Option (X ⊕ R)} : ∀ {m n : Nat} {x : X} {y z : R}, Ym step m x y → Ym step n x z → y = z
 | 0, _, _, _, _, h, _ => h.elim
 | _ + 1, 0, _, _, _, _, h => h.elim
 | m + 1, n + 1, x, y, z, h, h' => by
  rcases h with h | ⟨x1, h, h1⟩ <;> rcases h' with h' | ⟨x2, h', h2⟩
  ·rw [h] at h'; simpa using h'
  ·rw [h] at h'; simp at h'
  ·rw [h] at h'; simp at h'
  ·rw [h] at h'
   simp only [jc, Sum.inl.injEq] at h'
   subst h'
   exact Ym.det h1 h2
theorem Vo {X R : Type} {step : X → Option (X ⊕ R)} {x : X} {y : R} : Vb step x = some y ↔ ∃ m, Ym step m x y := by
 unfold Vb
 constructor
 ·intro h
  split at h
  ·rename_i hh
   simp only [jc] at h
   exact ⟨_, h ▸ hh.choose_spec.choose_spec⟩
  ·simp at h
 ·rintro ⟨m, h⟩
  have hh : ∃ m y, Ym step m x y := ⟨m, y, h⟩
  rw [dif_pos hh]
  exact congrArg some (Ym.det hh.choose_spec.choose_spec h)
theorem Nl {X R : Type} {step : X → Option (X ⊕ R)} (x : X) : Vb step x = (step x).bind (Sum.elim (Vb step) some) := by
 apply Option.ext
 intro y
 rw [Vo]
 constructor
 ·rintro ⟨m, h⟩
  cases m with
  | zero => exact h.elim
  | succ m =>
   rcases h with h | ⟨x', h, h'⟩
   ·simp [h]
   ·simp [h, Vo.2 ⟨m, h'⟩]
 ·intro h
  rw [j7] at h
  obtain ⟨z, hz, h⟩ := h
  cases z with
  | inl x' =>
   obtain ⟨m, hm⟩ := Vo.1 h
   exact ⟨m + 1, .inr ⟨x', hz, hm⟩⟩
  | inr z =>
   simp only [Sum.elim_inr, jc] at h
   subst h
   exact ⟨1, .inl hz⟩
def lp (fn : Func) (i : Nat) : Code := (Sc (fn.body.getD .skip)).getD i .skip
theorem IF {G : Nc} {L : List (Nat × Nb)} {fn : Func} {i r : Nat} {ls : Nb} {R : ls.inT.X → Option (ls.inT.X ⊕ (ls.outT.X ⊕ ls.retT.X))}
 (h1 : Ve (lp fn i) = some r) (h2 : (Oa L r) = some ls) (h3 : ls.F = Vb R) (h4 : ∀ x, Yo G L ls (lp fn i) x = R x) : Rc G L (lp fn i) := by
 intro r' ls' hr hl x y hy
 rw [h1] at hr
 simp only [jc] at hr
 subst hr
 rw [h2] at hl
 simp only [jc] at hl
 subst hl
 rw [h3] at hy
 obtain ⟨m, hm⟩ := Vo.1 hy
 have : Yo G L ls (lp fn i) = R := funext h4
 rw [this]
 exact ⟨m, hm⟩
theorem Nx {G : Nc} {L : List (Nat × Nb)} {fn : Func} {k : Nat} (hk : qi (Sc (fn.body.getD .skip)).length k = true) (h : ∀ i, i < k → Rc G L (lp fn i)) :
 ∀ b, b ∈ Sc (fn.body.getD .skip) → Rc G L b := by
 intro b hb
 obtain ⟨i, hi, rfl⟩ := List.mem_iff_getElem.1 hb
 have := h i (by rw [← jt hk]; exact hi)
 unfold lp at this
 rwa [j8, je hi] at this
theorem Oc {p : Nat → Prop} : ∀ i, i < 0 → p i := fun i h => absurd h (Nat.not_lt_zero i)
theorem Kc {p : Nat → Prop} {k : Nat} (h : p k) (hr : ∀ i, i < k → p i) : ∀ i, i < k + 1 → p i := by
 intro i hi
 rcases Nat.lt_or_eq_of_le (Nat.lt_succ_iff.1 hi) with hi | rfl
 ·exact hr i hi
 ·exact h
section
variable {P : Program}
theorem SG {l : List (Nat × Ty)} {fs : List (Nat × Tb)} {m : List (Nat × Nat)} {z : Bool} {ar : List (Nat × Ty × Nat)} {mv ml : List Nat}
 (h : ((l.all fun x => Ob P x.2 x.1) && (ar.all fun x => Kw P x.1 x.2.1 x.2.2)) = true) : EnvTy P ⟨l, fs, m, z, ar, mv, ml⟩ := by
 simp only [jd] at h
 exact ⟨fun t τ ht => List.all_eq_true.1 h.1 (t, τ) (Pi ht), fun t e n ht => List.all_eq_true.1 h.2 (t, e, n) (Pi ht)⟩
theorem EE {I : Gr} {l : List (Nat × Ty)} {m : List (Nat × Nat)} {z : Bool} {ar : List (Nat × Ty × Nat)} {mv ml : List Nat}
 (h : ((l.all fun x => Ob P x.2 x.1) && (ar.all fun x => Kw P x.1 x.2.1 x.2.2)) = true) : Jg P I ⟨l, [], m, z, ar, mv, ml⟩ :=
 { toEnvTy := SG h, fn := fun f sem h => by simp [Oa] at h }
theorem Jg.cons {I : Gr} {l : List (Nat × Ty)} {fs : List (Nat × Tb)} {m : List (Nat × Nat)} {z : Bool} {ar : List (Nat × Ty × Nat)} {mv ml : List Nat} {f : Nat} {sem : Tb} (hs : Fm P I f sem)
 (h : Jg P I ⟨l, fs, m, z, ar, mv, ml⟩) : Jg P I ⟨l, (f, sem) :: fs, m, z, ar, mv, ml⟩ :=
 { toEnvTy := ⟨h.ty, h.ar⟩, fn := fun g s hg => by
    simp only [Gb] at hg
    split at hg
    ·rename_i e
     simp only [jc] at hg
     subst e; subst hg
     exact hs
    ·exact h.fn g s hg }
theorem Ix {fn : Func} (h : fn.body.isSome = true) : fn.body = some (fn.body.getD .skip) := by
 cases hb : fn.body with
 | none => rw [hb] at h; simp at h
 | some c => rfl
variable {I : Gr} {G : Nc} {L : List (Nat × Nb)}
theorem Ux (hG : Jg P I G) (hm : P.follows .mixedOrders = true) {f : FuncId} {fn : Func} {k : Nat} {pt rt : Ty} {fr : List Bool} {F : T pt → Option (T rt)} (hf : P.funcs[f]? = some fn)
 (hb : (fn.body.isSome && !(fn.name == "runtime.NumGoroutine") && jv pt.npar fn.ntmps && qi (Sc (fn.body.getD .skip)).length k) = true)
 (hL : ∀ i, i < k → Rc G L (lp fn i)) (hF : ∀ x, HE G L fn pt rt fr x = F x) : Fm P I f (.pu pt rt fr F) := by
 simp only [jd, qx] at hb
 exact UH hG hm hf (Ix hb.1.1.1) hb.1.1.2 (Nx hb.2 hL) (ql hb.1.2) fun x r h => (hF x).trans h
theorem SF (hG : Jg P I G) (hfz : G.fz = false) (hm : P.follows .mixedOrders = true) {f : FuncId} {fn : Func} {k : Nat} {τ pt rt : Ty} {fr : List Bool} {F : T τ → T pt → Option (T τ × T rt)} (hf : P.funcs[f]? = some fn)
 (hb : (fn.body.isSome && !(fn.name == "runtime.NumGoroutine") && jv (pt.npar + 1) fn.ntmps && qi (Sc (fn.body.getD .skip)).length k) = true)
 (hL : ∀ i, i < k → Rc G L (lp fn i)) (hF : ∀ x0 x, Wy G L fn τ pt rt fr x0 x = F x0 x) : Fm P I f (.io τ pt rt fr F) := by
 simp only [jd, qx] at hb
 exact TH hG hfz hm hf (Ix hb.1.1.1) hb.1.1.2 (Nx hb.2 hL) (ql hb.1.2) fun x0 x r h => (hF x0 x).trans h
end
def hd (h : T .o) : Value := .slice h.1 h.2.1 h.2.2
section
variable {P : Program} {w w' : World}
end
open Classical in
noncomputable def srt (xs : List Int) : Option (List Int × Unit) := bif jv (ja xs) Eg then some (List.mergeSort xs (fun x y => decide (x ≤ y)), ()) else none


open Go Go.WideShapes Go.ChangeShapes
section
variable {H : Type} {enc : TypeId × Value → H}
end


def Xy {α S R : Type} (g : Nat → S → α → S ⊕ R) : Nat → S → List α → S ⊕ R
 | _, s, [] => .inl s
 | k, s, x :: xs => match g k s x with
  | .inl s' => Xy g (k + 1) s' xs
  | .inr r => .inr r
section
variable {X R : Type} {step : X → Option (X ⊕ R)}
theorem Je {x : X} {z : Option (X ⊕ R)} (h : step x = z) : Vb step x = z.bind (Sum.elim (Vb step) some) := by
 rw [Nl, h]
theorem Wo (I : Nat → X) (n : Nat) (out : R) (h : ∀ k, k < n → step (I k) = some (.inl (I (k + 1)))) (he : step (I n) = some (.inr out)) : Vb step (I 0) = some out := by
 have key : ∀ m k, m + k = n → Vb step (I k) = some out := by
  intro m
  induction m with
  | zero =>
   intro k hk
   have : k = n := by omega
   subst this
   rw [Je he]; rfl
  | succ m ih =>
   intro k hk
   rw [Je (h k (by omega))]
   exact ih (k + 1) (by omega)
 exact key n 0 (by omega)
end
theorem Kh {n : Int} (h1 : -9223372036854775808 ≤ n) (h2 : n ≤ 9223372036854775807) : jy .i64 n = n := IntWalk.i64_in n ⟨h1, h2⟩
theorem Rd {k : Nat} (h : k < 9223372036854775807) : jy .i64 ((k : Int) + 1) = ((k + 1 : Nat) : Int) := by
 rw [Kh (by omega) (by omega)]; omega
section
variable {α : Type}
theorem SI (xs : List α) (k : Nat) : Nd xs (k : Int) = xs[k]? := by simp [Nd]
theorem Vf {xs : List α} {k : Nat} (h : k < xs.length) : Nd xs (k : Int) = some xs[k] := by rw [SI, je h]
theorem Ig (n k : Nat) : Dg n (k : Int) = decide (k < n) := by
 simp [Dg]
theorem Ua {p : Prop} [Decidable p] (h : p) : decide p = true := decide_eq_true h
theorem Dc {p : Prop} [Decidable p] (h : ¬ p) : decide p = false := decide_eq_false h
theorem UF {xs : List α} {k : Nat} (h : k < xs.length) : xs.take (k + 1) = xs.take k ++ [xs[k]] := by
 rw [List.take_succ_eq_append_getElem h]
end
theorem SH {α : Type} {xs : List α} {z : α} {k : Nat} (h : k < xs.length) : (xs.take k ++ qr (xs.length - k) z).set k xs[k] = xs.take (k + 1) ++ qr (xs.length - (k + 1)) z := by
 have h1 : (xs.take k).length = k := by simp; omega
 rw [List.set_append_right _ _ (by omega), h1, Nat.sub_self, show xs.length - k = (xs.length - (k + 1)) + 1 by omega, List.replicate_succ, List.set_cons_zero, UF h, qk]
 rfl
theorem UG {α : Type} {xs : List α} {z : α} {k : Nat} (h : k ≤ xs.length) : (xs.take k ++ qr (xs.length - k) z).length = xs.length := by
 simp; omega
theorem CE {α R : Type} {X : Type} {step : X → Option (X ⊕ R)} (xs : List α) (z : α) (I : List α → Int → X) (out : List α → R)
 (h : ∀ k (hk : k < xs.length) (o : List α), o.length = xs.length → step (I o (k : Int)) = some (.inl (I (o.set k xs[k]) (jy .i64 ((k : Int) + 1)))))
 (he : ∀ o, step (I o (xs.length : Int)) = some (.inr (out o))) (hn : xs.length < 9223372036854775807) :
 Vb step (I (qr xs.length z) 0) = some (out xs) := by
 have := Wo (step := step) (fun k => I (xs.take k ++ qr (xs.length - k) z) (k : Int)) xs.length (out xs) (fun k hk => by
  rw [h k hk _ (UG (by omega)), SH hk, Rd (by omega)]) (by
  rw [List.take_length, Nat.sub_self]
  simpa using he xs)
 simpa using this
theorem YI {n : Nat} (h : n ≤ Eg) : (((n : Int) == (n : Int)) && (decide ((0 : Int) ≤ (n : Int)) && decide ((n : Int) ≤ ((Eg : Nat) : Int)))) = true := by
 simp only [beq_self_eq_true, ji, jd, decide_eq_true_eq]
 omega
theorem AA : Eg = 1073741824 := rfl
def Ab : (τ : Ty) → T τ → Nat
 | .i _, _ => 0
 | .b, _ => 0
 | .o, _ => 0
 | .mp _ _, _ => 0
 | .s, x => ja x
 | .sl e, xs => ja xs + (ya (Ab e) xs).sum
 | .u, _ => 0
 | .p a c, v => Ab a v.1 + Ab c v.2
def Ty.hasS : Ty → Bool
 | .s => true
 | .sl e => e.hasS
 | .p x y => x.hasS || y.hasS
 | _ => false
def Mc : Nat := 1048576
theorem Ln {α : Type} {f : α → Nat} {xs : List α} {k : Nat} (hk : k < xs.length) : f xs[k] ≤ (xs.map f).sum := by
 induction xs generalizing k with
 | nil => simp at hk
 | cons x xs ih =>
  cases k with
  | zero => simp
  | succ k =>
   have := ih (k := k) (by simpa using hk)
   simp only [List.getElem_cons_succ, qw, List.sum_cons]
   omega
def Xx (n l : Nat) : Int := if n ≤ l then ((l - n : Nat) : Int) else -1
theorem Hq {n l : Nat} (h : n ≤ l) : Xx n l = ((l - n : Nat) : Int) := if_pos h
theorem Ko {n l : Nat} (h : ¬ n ≤ l) : Xx n l = -1 := if_neg h
theorem IJ {α X R : Type} {step : X → Option (X ⊕ R)} (xs : List α) (n : α → Nat) (I : Int → Int → X) (yes : Int → R) (no : R)
 (h : ∀ k (hk : k < xs.length) (l : Nat), l ≤ Mc → step (I (l : Int) (k : Int)) = some (if n xs[k] ≤ l then .inl (I ((l - n xs[k] : Nat) : Int) (jy .i64 ((k : Int) + 1))) else .inr no))
 (he : ∀ l : Nat, step (I (l : Int) (xs.length : Int)) = some (.inr (yes (l : Int)))) (hn : xs.length < 9223372036854775807) (l : Nat) (hl : l ≤ Mc) :
 Vb step (I (l : Int) 0) = some (if (xs.map n).sum ≤ l then yes ((l - (xs.map n).sum : Nat) : Int) else no) := by
 have key : ∀ (ys : List α) (k l : Nat), xs.drop k = ys → k ≤ xs.length → l ≤ Mc → Vb step (I (l : Int) (k : Int)) = some (if (ys.map n).sum ≤ l then yes ((l - (ys.map n).sum : Nat) : Int) else no) := by
  intro ys
  induction ys with
  | nil =>
   intro k l hd hle hi
   have : k = xs.length := by
    have := congrArg ja hd
    simp at this
    omega
   subst this
   rw [Je (he l)]
   simp
  | cons y ys ih =>
   intro k l hd hle hi
   have hk : k < xs.length := by
    have := congrArg ja hd
    simp at this
    omega
   have hy : xs[k] = y := by
    have := congrArg (·[0]?) hd
    simp [List.getElem?_drop, je hk] at this
    exact this
   have hd' : xs.drop (k + 1) = ys := by rw [← List.drop_drop, hd]; rfl
   rw [Je (h k hk l hi), hy]
   simp only [qw, List.sum_cons]
   by_cases hc : n y ≤ l
   ·simp only [hc, if_true, jb, Sum.elim_inl]
    rw [Rd (by omega), ih (k + 1) (l - n y) hd' hk (by omega)]
    by_cases hc2 : (ys.map n).sum ≤ l - n y
    ·rw [if_pos hc2, if_pos (by omega)]
     congr 3
     omega
    ·rw [if_neg hc2, if_neg (by omega)]
   ·rw [if_neg hc, if_neg (by omega)]
    rfl
 have := key xs 0 l rfl (Nat.zero_le _) hl
 simpa using this
theorem Xu : ∀ {τ : Ty} (_ : (τ.flat && !τ.hasS) = true) {x : T τ}, Ab τ x = 0
 | .i _, _, _ => rfl
 | .b, _, _ => rfl
 | .o, _, _ => rfl
 | .mp _ _, _, _ => rfl
 | .s, h, _ => by simp [Ty.hasS] at h
 | .sl _, h, _ => by simp [Ty.flat] at h
 | .u, _, _ => rfl
 | .p a c, h, x => by
  simp only [Ty.flat, Ty.hasS, jd, qx, Bool.or_eq_false_iff] at h
  simp only [Ab]
  rw [Xu (τ := a) (by simp [h.1.1, h.2.1]), Xu (τ := c) (by simp [h.1.2, h.2.2])]
theorem Wu {e : Ty} (h : (e.flat && !e.hasS) = true) (xs : List (T e)) : Ab (.sl e) xs = ja xs := by
 simp only [Ab]
 have : ya (Ab e) xs = qr xs.length 0 := by
  apply List.ext_getElem
  ·simp
  ·intro i h1 h2
   simp [Xu h]
 rw [this]
 simp
theorem Lg {α : Type} (b : Bool) (x y : α) : cond b (some x) (some y) = some (cond b x y) := by cases b <;> rfl
theorem Mg {α : Type} (b : Bool) (x y : α) : cond b (x, ()) (y, ()) = (cond b x y, ()) := by cases b <;> rfl
theorem Pb (b x y : Bool) : (cond b x y = true) ↔ ((b = true ∧ x = true) ∨ (¬ b = true ∧ y = true)) := by cases b <;> simp
theorem NI {a b : Bool} (h : a = true ↔ b = true) : a = b := Bool.eq_iff_iff.2 h
theorem Ib {a b : Bool} (h : a = true ↔ b = true) : some (a, ()) = some (b, ()) := by rw [NI h]
theorem Pn (a b : Int) : ((a == b) = true) ↔ a = b := by simp
theorem Pq (a b : Int) : ((a != b) = true) ↔ ¬ a = b := by simp
def Ri {α : Type} (p : Nat → α → Bool) : Nat → List α → Bool
 | _, [] => true
 | k, x :: xs => p k x && Ri p (k + 1) xs
theorem Uo {X R : Type} {step : X → Option (X ⊕ R)} {α : Type} (xs : List α) (p : Nat → α → Bool) (I : Int → X) (yes no : R)
 (h : ∀ k (hk : k < xs.length), step (I (k : Int)) = some (cond (p k xs[k]) (.inl (I (jy .i64 ((k : Int) + 1)))) (.inr no)))
 (he : step (I (xs.length : Int)) = some (.inr yes)) (hn : xs.length < 9223372036854775807) :
 Vb step (I 0) = some (cond (Ri p 0 xs) yes no) := by
 have key : ∀ (ys : List α) (k : Nat), xs.drop k = ys → k ≤ xs.length → Vb step (I (k : Int)) = some (cond (Ri p k ys) yes no) := by
  intro ys
  induction ys with
  | nil =>
   intro k hd hle
   have : k = xs.length := by
    have := congrArg ja hd
    simp at this
    omega
   subst this
   rw [Je he]
   rfl
  | cons y ys ih =>
   intro k hd hle
   have hk : k < xs.length := by
    have := congrArg ja hd
    simp at this
    omega
   have hy : xs[k] = y := by
    have := congrArg (·[0]?) hd
    simp [List.getElem?_drop, je hk] at this
    exact this
   have hd' : xs.drop (k + 1) = ys := by rw [← List.drop_drop, hd]; rfl
   rw [Je (h k hk), hy]
   simp only [Ri]
   cases hc : p k y with
   | true =>
    simp only [yb, ji, jb, Sum.elim_inl]
    rw [← ih (k + 1) hd' hk, Rd (by omega)]
   | false => rfl
 have := key xs 0 rfl (Nat.zero_le _)
 simpa using this
theorem Sr {α : Type} {p : Nat → α → Bool} : ∀ {xs : List α} {k : Nat}, Ri p k xs = true ↔ ∀ j (hj : j < xs.length), p (k + j) xs[j] = true
 | [], _ => by simp [Ri]
 | x :: xs, k => by
  simp only [Ri, jd, Sr (xs := xs)]
  constructor
  ·rintro ⟨h1, h2⟩ j hj
   cases j with
   | zero => exact h1
   | succ j => simpa [js, Nat.add_comm 1 j] using h2 j (by simpa using hj)
  ·intro h
   refine ⟨h 0 (by simp), fun j hj => ?_⟩
   have := h (j + 1) (by simpa using hj)
   rw [js, Nat.add_comm 1 j]
   exact this
theorem Kx {α β γ : Type} (b : Bool) (x : α) (y : β) (f : α → γ) (g : β → γ) : Sum.elim f g (cond b (.inl x) (.inr y)) = cond b (f x) (g y) := by cases b <;> rfl
theorem JF {X R X' R' : Type} {stepM : X → Option (X ⊕ R)} {stepH : X' → Option (X' ⊕ R')} {α : Type} (c : α → Nat) (B : Nat) (IM : List α → Int → Int → X) (outM : List α → Int → R) (IH : List α → Int → Int → X') (outH : List α → Int → R')
 (h : ∀ (o : List α) (k i : Nat) (hi : i < o.length), k + c o[i] ≤ B → ∃ x' k', k ≤ k' ∧ k' ≤ k + c o[i] ∧
  stepM (IM o (k : Int) (i : Int)) = some (.inl (IM (o.set i x') (k' : Int) (jy .i64 ((i : Int) + 1)))) ∧
  ∀ (o2 : List α) (hi2 : i < o2.length), o2[i] = x' → stepH (IH o2 (k : Int) (i : Int)) = some (.inl (IH o2 (k' : Int) (jy .i64 ((i : Int) + 1)))))
 (heM : ∀ (o : List α) (k : Nat), stepM (IM o (k : Int) (o.length : Int)) = some (.inr (outM o (k : Int))))
 (heH : ∀ (o : List α) (k : Nat), stepH (IH o (k : Int) (o.length : Int)) = some (.inr (outH o (k : Int))))
 (xs : List α) (k : Nat) (hB : k + (xs.map c).sum ≤ B) (hn : xs.length < 9223372036854775807) :
 ∃ (o : List α) (k' : Nat), k ≤ k' ∧ k' ≤ k + (xs.map c).sum ∧ o.length = xs.length ∧ Vb stepM (IM xs (k : Int) 0) = some (outM o (k' : Int)) ∧ Vb stepH (IH o (k : Int) 0) = some (outH o (k' : Int)) := by
 have key : ∀ (m i k : Nat) (o : List α), o.length = xs.length → m + i = xs.length → k + ((o.drop i).map c).sum ≤ B →
  ∃ (o' : List α) (k' : Nat), k ≤ k' ∧ k' ≤ k + ((o.drop i).map c).sum ∧ o'.length = xs.length ∧ o'.take i = o.take i ∧ Vb stepM (IM o (k : Int) (i : Int)) = some (outM o' (k' : Int)) ∧ Vb stepH (IH o' (k : Int) (i : Int)) = some (outH o' (k' : Int)) := by
  intro m
  induction m with
  | zero =>
   intro i k o ho hm hk
   have : i = o.length := by omega
   subst this
   refine ⟨o, k, jn _, by omega, ho, rfl, ?_, ?_⟩
   ·rw [Je (heM o k)]; rfl
   ·rw [Je (heH o k)]; rfl
  | succ m ih =>
   intro i k o ho hm hk
   have hi : i < o.length := by omega
   have hdrop : o.drop i = o[i] :: o.drop (i + 1) := List.drop_eq_getElem_cons hi
   rw [hdrop, qw, List.sum_cons] at hk ⊢
   obtain ⟨x', k1, h1, h2, h3, h4⟩ := h o k i hi (by omega)
   have hd1 : (o.set i x').drop (i + 1) = o.drop (i + 1) := by
    rw [List.drop_set]
    simp
   obtain ⟨o', k', g1, g2, g3, g4, g5, g6⟩ := ih (i + 1) k1 (o.set i x') (by simpa using ho) (by omega) (by rw [hd1]; omega)
   rw [hd1] at g2
   have ht : o'.take i = o.take i := by
    have := congrArg (List.take i) g4
    rw [List.take_take, List.take_take, Nat.min_eq_left (by omega), List.take_set_of_le (jn _)] at this
    exact this
   have hx : o'[i]'(by omega) = x' := by
    have := congrArg (·[i]?) g4
    simp [je (show i < o'.length by omega), hi] at this
    exact this
   refine ⟨o', k', by omega, by omega, g3, ht, ?_, ?_⟩
   ·rw [Je h3, Rd (by omega)]
    exact g5
   ·rw [Je (h4 o' (by omega) hx), Rd (by omega)]
    exact g6
 obtain ⟨o, k', h1, h2, h3, _, h5, h6⟩ := key xs.length 0 k xs rfl rfl (by simpa using hB)
 exact ⟨o, k', h1, by simpa using h2, h3, by simpa using h5, by simpa using h6⟩
def Wd : Nat := 1099511627776
theorem BQ (e : Ty) (xs : List (T e)) : (ya (fun x => 8 + 8 * Ab e x) xs).sum = 8 * Ab (.sl e) xs := by
 simp only [Ab]
 induction xs with
 | nil => rfl
 | cons x xs ih =>
  simp only [qw, List.sum_cons, List.length_cons] at ih ⊢
  omega
theorem z3 : ((3 : Int) == 0) = false := rfl
theorem DE {n lo hi : Nat} (h1 : lo ≤ hi) (h2 : hi ≤ n) : Af n (lo : Int) (hi : Int) = true := by
 simp [Af]; omega
def kf : (τ : Ty) → T τ → T τ → Prop
 | .sl _, _, _ => True
 | .p x y, a, c => kf x a.1 c.1 ∧ kf y a.2 c.2
 | .i _, a, c => a = c
 | .b, a, c => a = c
 | .o, a, c => a = c
 | .mp _ _, a, c => a = c
 | .s, a, c => a = c
 | .u, a, c => a = c
theorem Qw : ∀ (τ : Ty) (a : T τ), kf τ a a
 | .sl _, _ => trivial
 | .p x y, a => ⟨Qw x a.1, Qw y a.2⟩
 | .i _, _ => rfl
 | .b, _ => rfl
 | .o, _ => rfl
 | .mp _ _, _ => rfl
 | .s, _ => rfl
 | .u, _ => rfl
section
variable {α β : Type}
def JI (f : α → Option (α × Unit)) (t0 t3 : List α) (t4 : Int) : Option (((List α × (List α × (Int × Unit))) × Unit) ⊕ (((List α × Unit) × Unit) ⊕ β)) :=
 cond (decide (t4 < ((ja t0 : Nat) : Int))) (jx (Nd t0 t4) fun x7 => jx (f x7) fun r8 => cond (Dg (ja t3) t4)
  (jx t3[(jw t4)]? fun x9 => some (.inl ((t0, jz t3 (jw t4) r8.1, jy .i64 (t4 + 1), ()), ()))) none) (some (.inr (.inl ((t3, ()), ()))))
noncomputable def CM (β : Type) (z : α) (f : α → Option (α × Unit)) (a0 : List α) : Option (List α × Unit) :=
 cond ((((ja a0 : Nat) : Int) == ((ja a0 : Nat) : Int)) && (decide ((0 : Int) ≤ ((ja a0 : Nat) : Int)) && decide (((ja a0 : Nat) : Int) ≤ ((Eg : Nat) : Int))))
  (jx (Vb (fun x : (List α × (List α × (Int × Unit))) × Unit => JI (β := β) f x.1.1 x.1.2.1 x.1.2.2.1) ((a0, qr (jw ((ja a0 : Nat) : Int)) z, (0 : Int), ()), ())) (Sum.elim (fun y10 => some (y10.1.1, ())) (fun _ => none))) none
theorem DM (z : α) (f : α → Option (α × Unit)) (a : List α) (hn : a.length ≤ Mc) (hf : ∀ k (h : k < a.length), f a[k] = some (a[k], ())) : CM β z f a = some (a, ()) := by
 have h20 : Mc = 1048576 := rfl
 have hl := CE (step := fun x : (List α × (List α × (Int × Unit))) × Unit => JI (β := β) f x.1.1 x.1.2.1 x.1.2.2.1) a z (fun o i => ((a, o, i, ()), ())) (fun o => .inl ((o, ()), ())) (by
  intro k hk o ho
  simp only [JI]
  rw [Ua (show (k : Int) < (ja a : Int) by omega), Vf hk]
  simp only [yb, jb]
  rw [hf k hk]
  simp only [yb, jb]
  rw [Ig, Ua (show k < ja o by omega)]
  simp [je (show k < ja o by omega)]) (by
  intro o
  simp [JI]) (by omega)
 unfold CM
 rw [YI (by rw [AA]; omega)]
 simp only [yb]
 rw [show jw ((ja a : Nat) : Int) = ja a by simp]
 erw [hl]
 rfl
theorem VM {e : Ty} (β : Type) (z : T e) {f : T e → Option (T e × Unit)} {F : List (T e) → Option (List (T e) × Unit)} (a : List (T e)) (hz : Ab (.sl e) a ≤ Mc) (hf : ∀ x, Ab e x ≤ Mc → f x = some (x, ())) (h : F a = CM β z f a) : F a = some (a, ()) := by
 have hz' : ja a + (ya (Ab e) a).sum ≤ Mc := hz
 rw [h]
 exact DM z f a (by omega) fun k hk => hf _ (by have := Ln (f := Ab e) hk; omega)
def CI (f : α → α → Option (Bool × Unit)) (t0 t1 : List α) (t5 : Int) : Option (((List α × (List α × (Int × Unit))) × Unit) ⊕ ((Unit × Unit) ⊕ ((Bool × Unit) × Unit))) :=
 cond (decide (t5 < ((ja t0 : Nat) : Int))) (jx (Nd t0 t5) fun x7 => jx (Nd t1 t5) fun x8 => jx (f x7 x8) fun r9 => cond (!r9.1) (some (.inr (.inr ((false, ()), ()))))
  (some (.inl ((t0, t1, jy .i64 (t5 + 1), ()), ())))) (some (.inr (.inl ((), ()))))
noncomputable def TK (f : α → α → Option (Bool × Unit)) (a0 a1 : List α) : Option (Bool × Unit) :=
 cond (((ja a0 : Nat) : Int) != ((ja a1 : Nat) : Int)) (some (false, ()))
  (jx (Vb (fun x : (List α × (List α × (Int × Unit))) × Unit => CI f x.1.1 x.1.2.1 x.1.2.2.1) ((a0, a1, (0 : Int), ()), ())) (Sum.elim (fun _ => some (true, ())) (fun z11 => some (z11.1.1, ()))))
theorem UK (f : α → α → Option (Bool × Unit)) (a : List α) (hn : a.length ≤ Wd) (hf : ∀ k (h : k < a.length), f a[k] a[k] = some (true, ())) : TK f a a = some (true, ()) := by
 have h40 : Wd = 1099511627776 := rfl
 have hl := Wo (step := fun x : (List α × (List α × (Int × Unit))) × Unit => CI f x.1.1 x.1.2.1 x.1.2.2.1) (fun k => ((a, a, (k : Int), ()), ())) (ja a) (.inl ((), ())) (by
  intro k hk
  simp only [CI]
  rw [Ua (show (k : Int) < (ja a : Int) by omega), Vf hk]
  simp only [yb, jb]
  rw [hf k hk]
  simp only [jb, jg, yc]
  rw [Rd (by omega)]) (by
  simp [CI])
 unfold TK
 rw [bne_self_eq_false']
 simp only [yc]
 erw [hl]
 rfl
theorem NM {e : Ty} {f : T e → T e → Option (Bool × Unit)} {F : List (T e) → List (T e) → Option (Bool × Unit)} (a : List (T e)) (hz : Ab (.sl e) a ≤ Wd) (hf : ∀ x, Ab e x ≤ Wd → f x x = some (true, ())) (h : F a a = TK f a a) : F a a = some (true, ()) := by
 have hz' : ja a + (ya (Ab e) a).sum ≤ Wd := hz
 rw [h]
 exact UK f a (by omega) fun k hk => hf _ (by have := Ln (f := Ab e) hk; omega)
def RD (f : α → Int → Option (Int × Unit)) (t0 : List α) (t1 t5 : Int) : Option (((List α × (Int × (Int × Unit))) × Unit) ⊕ (((Int × Unit) × Unit) ⊕ ((Int × Unit) × Unit))) :=
 cond (decide (t5 < ((ja t0 : Nat) : Int))) (jx (Nd t0 t5) fun x5 => jx (f x5 t1) fun r6 => cond (decide (r6.1 < (0 : Int))) (some (.inr (.inr (((-1 : Int), ()), ()))))
  (some (.inl ((t0, r6.1, jy .i64 (t5 + 1), ()), ())))) (some (.inr (.inl ((t1, ()), ()))))
noncomputable def UM (f : α → Int → Option (Int × Unit)) (a0 : List α) (a1 : Int) : Option (Int × Unit) :=
 cond (decide ((jy .i64 (a1 - ((ja a0 : Nat) : Int))) < (0 : Int))) (some ((-1 : Int), ()))
  (jx (Vb (fun x : (List α × (Int × (Int × Unit))) × Unit => RD f x.1.1 x.1.2.1 x.1.2.2.1) ((a0, jy .i64 (a1 - ((ja a0 : Nat) : Int)), (0 : Int), ()), ())) (Sum.elim (fun y7 => some (y7.1.1, ())) (fun z8 => some (z8.1.1, ()))))
theorem VQ {e : Ty} {f : T e → Int → Option (Int × Unit)} {F : List (T e) → Int → Option (Int × Unit)} (a : List (T e)) (hr : Ni (.sl e) a) (l : Nat) (hl : l ≤ Mc)
 (hf : ∀ x, Ni e x → ∀ l : Nat, l ≤ Mc → f x (l : Int) = some (Xx (Ab e x) l, ())) (hF : F a (l : Int) = UM f a (l : Int)) : F a (l : Int) = some (Xx (Ab (.sl e) a) l, ()) := by
 have h20 : Mc = 1048576 := rfl
 have hlen : ja a ≤ 9223372036854775807 := hr.1
 rw [hF]
 unfold UM
 rw [Kh (by omega) (by omega)]
 by_cases h : ja a ≤ l
 ·rw [Dc (by omega), show (l : Int) - (ja a : Int) = ((l - ja a : Nat) : Int) by omega]
  simp only [yc]
  have hx := IJ (step := fun x : (List (T e) × (Int × (Int × Unit))) × Unit => RD f x.1.1 x.1.2.1 x.1.2.2.1) a (Ab e) (fun l i => ((a, l, i, ()), ())) (fun l => .inl ((l, ()), ())) (.inr (((-1 : Int), ()), ())) (by
   intro k hk l hl
   simp only [RD]
   rw [Ua (show (k : Int) < (ja a : Int) by omega), Vf hk]
   simp only [yb, jb]
   rw [hf a[k] (hr.2 k hk) l hl]
   simp only [jb]
   by_cases hc : Ab e a[k] ≤ l
   ·rw [Hq hc, Dc (by omega), if_pos hc]; rfl
   ·rw [Ko hc, if_neg hc]; rfl) (by
   intro l
   simp [RD]) (by omega) (l - ja a) (by omega)
  rw [hx]
  simp only [jb]
  have hs : Ab (.sl e) a = ja a + (ya (Ab e) a).sum := rfl
  rw [hs]
  by_cases h2 : (ya (Ab e) a).sum ≤ l - ja a
  ·rw [if_pos h2, Hq (by omega)]; simp only [Sum.elim_inl]; rw [show l - ja a - (ya (Ab e) a).sum = l - (ja a + (ya (Ab e) a).sum) by omega]
  ·rw [if_neg h2, Ko (by omega)]; rfl
 ·rw [Ko (show ¬ Ab (.sl e) a ≤ l by have hs : Ab (.sl e) a = ja a + (ya (Ab e) a).sum := rfl; omega), Ua (by omega)]; rfl
def AM (a0 : List α) (a1 : Int) : Option (Int × Unit) :=
 cond (decide ((jy .i64 (a1 - ((ja a0 : Nat) : Int))) < (0 : Int))) (some ((-1 : Int), ())) (some ((jy .i64 (a1 - ((ja a0 : Nat) : Int))), ()))
theorem CQ {e : Ty} {F : List (T e) → Int → Option (Int × Unit)} (a : List (T e)) (hr : Ni (.sl e) a) (l : Nat) (hl : l ≤ Mc) (he : (e.flat && !e.hasS) = true) (hF : F a (l : Int) = AM a (l : Int)) : F a (l : Int) = some (Xx (Ab (.sl e) a) l, ()) := by
 have h20 : Mc = 1048576 := rfl
 have hlen : ja a ≤ 9223372036854775807 := hr.1
 rw [hF]
 unfold AM
 rw [Kh (by omega) (by omega), Wu he a]
 by_cases h : ja a ≤ l
 ·rw [Hq h, Dc (by omega), show (l : Int) - (ja a : Int) = ((l - ja a : Nat) : Int) by omega]; rfl
 ·rw [Ko h, Ua (by omega)]; rfl
end
theorem ED {e : Ty} {β β' : Type} {RM : List (T e) → Int → Int → Option (((List (T e) × (Int × (Int × Unit))) × Unit) ⊕ (((List (T e) × (Int × Unit)) × Unit) ⊕ β))}
 {RH : List (T e) → Int → Int → Option (((List (T e) × (Int × (Int × Unit))) × Unit) ⊕ (((Int × Unit) × Unit) ⊕ β'))} {M : List (T e) → Int → Option (List (T e) × (Int × Unit))} {Hd : List (T e) → Int → Option (Int × Unit)} {g : β → Option (List (T e) × (Int × Unit))} {g' : β' → Option (Int × Unit)}
 (hM : ∀ o k, M o k = jx (Vb (fun x => RM x.1.1 x.1.2.1 x.1.2.2.1) ((o, k, 0, ()), ())) (Sum.elim (fun y => some (y.1.1, (y.1.2.1, ()))) g))
 (hH : ∀ o k, Hd o k = jx (Vb (fun x => RH x.1.1 x.1.2.1 x.1.2.2.1) ((o, k, 0, ()), ())) (Sum.elim (fun y => some (y.1.1, ())) g'))
 (h : ∀ (o : List (T e)) (k i : Nat) (hi : i < o.length), k + (8 + 8 * Ab e o[i]) ≤ Wd → ∃ (x' : T e) (k' : Nat), k ≤ k' ∧ k' ≤ k + (8 + 8 * Ab e o[i]) ∧
  RM o (k : Int) (i : Int) = some (.inl ((o.set i x', (k' : Int), (jy .i64 ((i : Int) + 1)), ()), ())) ∧
  ∀ (o2 : List (T e)) (hi2 : i < o2.length), o2[i] = x' → RH o2 (k : Int) (i : Int) = some (.inl ((o2, (k' : Int), (jy .i64 ((i : Int) + 1)), ()), ())))
 (heM : ∀ (o : List (T e)) (k : Int), RM o k (o.length : Int) = some (.inr (.inl ((o, k, ()), ()))))
 (heH : ∀ (o : List (T e)) (k : Int), RH o k (o.length : Int) = some (.inr (.inl ((k, ()), ()))))
 (a : List (T e)) (k : Nat) (hk : k + 8 * Ab (.sl e) a ≤ Wd) :
 ∃ (a' : List (T e)) (k' : Nat), k ≤ k' ∧ k' ≤ k + 8 * Ab (.sl e) a ∧ M a (k : Int) = some (a', ((k' : Int), ())) ∧ Hd a' (k : Int) = some ((k' : Int), ()) ∧ kf (.sl e) a a' := by
 have h40 : Wd = 1099511627776 := rfl
 by_cases hlen : ja a < 9223372036854775807
 case neg => exfalso; have h1 : ja a ≤ Ab (.sl e) a := Nat.le_add_right _ _; omega
 have hsum : (ya (fun x => 8 + 8 * Ab e x) a).sum = 8 * Ab (.sl e) a := BQ _ _
 have hx := JF (stepM := fun x : ((List (T e) × (Int × (Int × Unit))) × Unit) => RM x.1.1 x.1.2.1 x.1.2.2.1) (stepH := fun x : ((List (T e) × (Int × (Int × Unit))) × Unit) => RH x.1.1 x.1.2.1 x.1.2.2.1) (fun x => 8 + 8 * Ab e x) Wd (fun o k i => ((o, k, i, ()), ())) (fun o k => .inl ((o, k, ()), ())) (fun o k i => ((o, k, i, ()), ())) (fun _ k => .inl ((k, ()), ())) h
  (fun o k => heM o _) (fun o k => heH o _) a k (by rw [hsum]; exact hk) hlen
 obtain ⟨o, k1, h1, h2, _, h4, h5⟩ := hx
 rw [hsum] at h2
 refine ⟨o, k1, h1, h2, ?_, ?_, trivial⟩
 ·rw [hM]
  erw [h4]
  rfl
 ·rw [hH]
  erw [h5]
  rfl
abbrev int : Ty := .i .i64
abbrev Ew : Ty := (.p int (.p int .u))
abbrev Qp : Type := (Int × (Int × Unit))
abbrev HI : Ty := (.p int Ew)
abbrev Av : Type := (Int × Qp)
abbrev Qa : Ty := (.p int HI)
abbrev Wa : Type := (Int × Av)
abbrev Ys : Type := (Int × (Wa × Unit))
abbrev Sa : Ty := (.p int (.p (.sl (.sl Qa)) .u))
abbrev Ia : Type := (Int × ((List (List Wa)) × Unit))
noncomputable section
open Option renaming bind → ob
open Go.IntKind renaming wrap → wr
open Int renaming toNat → tn
open List renaming length → ln, append → ap, set → ls
open Sum renaming elim → se
open Nat renaming ble → bl
abbrev Tf : Type := Int × Unit
abbrev Nh : Type := Bool × Unit
abbrev Ye : Type := List Int
abbrev An : Type := Unit × Unit
abbrev Gg : Type := List Wa
abbrev Oh : Type := Ia × Unit
abbrev My : Type := Unit × Tf
abbrev Ny : Type := Nh × Unit
abbrev De : Type := List Gg
abbrev En : Type := Tf × Unit
abbrev Gn : Type := List (Int × Ye)
abbrev XH : Type := Unit × Qp
abbrev YH : Type := Ye × Unit
abbrev Kq : Type := List Ye
abbrev Oy : Type := Ye × Qp
abbrev ZH : Type := Int × (Int × (Gg × Qp))
abbrev Hn : Type := De × Qp
abbrev Py : Type := An ⊕ Ny
abbrev Qy : Type := (Int × (Int × My)) × Oh
abbrev Bv : Type := Ye × Tf
abbrev AI : Type := Wa × Unit
abbrev Ry : Type := (De × (De × Tf)) × Unit
abbrev BI : Type := An ⊕ En
abbrev Sy : Type := (Gg × (Gg × Tf)) × Unit
abbrev Lq : Type := List Bool
abbrev MC : Type := (Unit × (Kq × (Lq × Bv))) × Oh
abbrev Uy : Type := (Gg × Qp) × Unit
abbrev NC : Type := (Unit × (Gn × YH)) × Oh
def Ce (a0 : Int) (a1 : Int) (a2 : Int) : Option Nh :=
 (cond (decide (a0 ≥ a1))
 (some ((decide (a0 ≤ a2)), ()))
 (some (false, ())))
def Ck (a0 : Ye) : Option YH :=
 (cond (bl (ln ([] : List Int) + ln a0) Eg)
 (some ((ap [] a0), ()))
 none)
def Hi (t0 : Ye) (t1 : Ye) (t5 : Int) : Option (((Ye × Bv) × Unit) ⊕ Py) :=
 (cond (decide (t5 < ((ln t0 : Nat) : Int)))
 (ob (Nd t0 t5) fun x5 =>
 (ob (Nd t1 t5) fun x6 =>
 (cond (x5 != x6)
 (some (.inr (.inr ((false, ()), ()))))
 (some (.inl ((t0, t1, (wr .i64 (t5 + 1)), ()), ()))))))
 (some (.inr (.inl ((), ())))))
def Ui := Vb fun x : ((Ye × Bv) × Unit) => Hi x.1.1 x.1.2.1 x.1.2.2.1
def Di (a0 : Ye) (a1 : Ye) : Option Nh :=
 (cond (((ln a0 : Nat) : Int) != ((ln a1 : Nat) : Int))
 (some (false, ()))
 (ob (Ui ((a0, a1, 0, ()), ())) (se (fun y7 => (some (true, ()))) (fun z8 => (some (z8.1.1, ()))))))
def Ah (t0 : Ye) (t1 : Int) (t5 : Int) : Option ((Oy × Unit) ⊕ ((Bv × Unit) ⊕ An)) :=
 (cond (decide (t5 < ((ln t0 : Nat) : Int)))
 (cond (Dg (ln t0) t5)
 (ob t0[(tn t5)]? fun x3 =>
 (some (.inl (((ls t0 (tn t5) t1), (wr .i64 (t1 + 1)), (wr .i64 (t5 + 1)), ()), ()))))
 none)
 (some (.inr (.inl ((t0, t1, ()), ())))))
def Ll := Vb fun x : (Oy × Unit) => Ah x.1.1 x.1.2.1 x.1.2.2.1
def Cn (a0 : Ye) (a1 : Int) : Option Bv :=
 (ob (Ll ((a0, a1, 0, ()), ())) (se (fun y4 => (some (y4.1.1, (y4.1.2.1, ())))) (fun z5 => none)))
def Zg (t0 : Ye) (t1 : Int) (t5 : Int) : Option ((Oy × Unit) ⊕ (En ⊕ En)) :=
 (cond (decide (t5 < ((ln t0 : Nat) : Int)))
 (ob (Nd t0 t5) fun x3 =>
 (cond (x3 != t1)
 (some (.inr (.inr (((-1), ()), ()))))
 (some (.inl ((t0, (wr .i64 (t1 + 1)), (wr .i64 (t5 + 1)), ()), ())))))
 (some (.inr (.inl ((t1, ()), ())))))
def Kl := Vb fun x : (Oy × Unit) => Zg x.1.1 x.1.2.1 x.1.2.2.1
def Fk (a0 : Ye) (a1 : Int) : Option Tf :=
 (ob (Kl ((a0, a1, 0, ()), ())) (se (fun y4 => (some (y4.1.1, ()))) (fun z5 => (some (z5.1.1, ())))))
def Fh (a0 : Gg) (a1 : Int) : Option Tf :=
 (cond (decide ((wr .i64 (a1 - ((ln a0 : Nat) : Int))) < 0))
 (some ((-1), ()))
 (some ((wr .i64 (a1 - ((ln a0 : Nat) : Int))), ())))
def Lr (t0 : De) (t1 : Int) (t5 : Int) : Option ((Hn × Unit) ⊕ (En ⊕ En)) :=
 (cond (decide (t5 < ((ln t0 : Nat) : Int)))
 (ob (Nd t0 t5) fun x5 =>
 (ob (Fh x5 t1) fun r6 =>
 (cond (decide (r6.1 < 0))
 (some (.inr (.inr (((-1), ()), ()))))
 (some (.inl ((t0, r6.1, (wr .i64 (t5 + 1)), ()), ()))))))
 (some (.inr (.inl ((t1, ()), ())))))
def Wj := Vb fun x : (Hn × Unit) => Lr x.1.1 x.1.2.1 x.1.2.2.1
def Ji (a0 : De) (a1 : Int) : Option Tf :=
 (cond (decide ((wr .i64 (a1 - ((ln a0 : Nat) : Int))) < 0))
 (some ((-1), ()))
 (ob (Wj ((a0, (wr .i64 (a1 - ((ln a0 : Nat) : Int))), 0, ()), ())) (se (fun y7 => (some (y7.1.1, ()))) (fun z8 => (some (z8.1.1, ()))))))
def Gk (a0 : Ia) (a1 : Int) : Option Tf :=
 (ob (Ji a0.2.1 a1) fun r1 =>
 (cond (decide (r1.1 < 0))
 (some ((-1), ()))
 (some (r1.1, ()))))
def Zh (a0 : Wa) : Option AI :=
 (some (a0, ()))
def Cs (t0 : Gg) (t3 : Gg) (t4 : Int) : Option (Sy ⊕ (((Gg × Unit) × Unit) ⊕ An)) :=
 (cond (decide (t4 < ((ln t0 : Nat) : Int)))
 (ob (Nd t0 t4) fun x7 =>
 (ob (Zh x7) fun r8 =>
 (cond (Dg (ln t3) t4)
 (ob t3[(tn t4)]? fun x9 =>
 (some (.inl ((t0, (ls t3 (tn t4) r8.1), (wr .i64 (t4 + 1)), ()), ()))))
 none)))
 (some (.inr (.inl ((t3, ()), ())))))
def Al := Vb fun x : Sy => Cs x.1.1 x.1.2.1 x.1.2.2.1
def Dj (a0 : Gg) : Option (Gg × Unit) :=
 (cond ((((ln a0 : Nat) : Int) == ((ln a0 : Nat) : Int)) && (decide (0 ≤ ((ln a0 : Nat) : Int)) && decide (((ln a0 : Nat) : Int) ≤ ((Eg : Nat) : Int))))
 (ob (Al ((a0, (qr (tn ((ln a0 : Nat) : Int)) (0, 0, 0, 0, ())), 0, ()), ())) (se (fun y10 => (some (y10.1.1, ()))) (fun z11 => none)))
 none)
def Mr (t0 : De) (t3 : De) (t4 : Int) : Option (Ry ⊕ (((De × Unit) × Unit) ⊕ An)) :=
 (cond (decide (t4 < ((ln t0 : Nat) : Int)))
 (ob (Nd t0 t4) fun x7 =>
 (ob (Dj x7) fun r8 =>
 (cond (Dg (ln t3) t4)
 (ob t3[(tn t4)]? fun x9 =>
 (some (.inl ((t0, (ls t3 (tn t4) r8.1), (wr .i64 (t4 + 1)), ()), ()))))
 none)))
 (some (.inr (.inl ((t3, ()), ())))))
def Xj := Vb fun x : Ry => Mr x.1.1 x.1.2.1 x.1.2.2.1
def Ml (a0 : De) : Option (De × Unit) :=
 (cond ((((ln a0 : Nat) : Int) == ((ln a0 : Nat) : Int)) && (decide (0 ≤ ((ln a0 : Nat) : Int)) && decide (((ln a0 : Nat) : Int) ≤ ((Eg : Nat) : Int))))
 (ob (Xj ((a0, (qr (tn ((ln a0 : Nat) : Int)) []), 0, ()), ())) (se (fun y10 => (some (y10.1.1, ()))) (fun z11 => none)))
 none)
def Ff (a0 : Ia) : Option Oh :=
 (ob (Ml a0.2.1) fun r1 =>
 (some ((a0.1, r1.1, ()), ())))
def Ai (a0 : Wa) : Option Nh :=
 (ob (Ce a0.2.1 1 56) fun r1 =>
 (ob (Ce a0.2.2.1 1 15) fun r2 =>
 (ob (Ce a0.2.2.2.1 1 3) fun r3 =>
 (cond (a0.1 == 0)
 (cond (a0.2.1 == 0)
 (cond (a0.2.2.1 == 0)
 (some ((a0.2.2.2.1 == 0), ()))
 (some (false, ())))
 (some (false, ())))
 (cond (a0.1 == 1)
 (cond (a0.2.1 == 0)
 (cond (a0.2.2.1 == 0)
 (some ((a0.2.2.2.1 == 0), ()))
 (some (false, ())))
 (some (false, ())))
 (cond (a0.1 == 10)
 (cond (a0.2.1 == 0)
 (cond (a0.2.2.1 == 0)
 (some ((a0.2.2.2.1 == 0), ()))
 (some (false, ())))
 (some (false, ())))
 (cond (a0.1 == 2)
 (cond (a0.2.2.2.1 == 0)
 (cond r1.1
 (cond r2.1
 (some (true, ()))
 (some ((a0.2.2.1 == 0), ())))
 (cond (a0.2.1 == 0)
 (cond r2.1
 (cond r2.1
 (some (true, ()))
 (some ((a0.2.2.1 == 0), ())))
 (some (false, ())))
 (some (false, ()))))
 (some (false, ())))
 (cond (a0.1 == 3)
 (cond r3.1
 (cond (a0.2.1 == 0)
 (some ((a0.2.2.1 == 0), ()))
 (some (false, ())))
 (some (false, ())))
 (cond (a0.1 == 4)
 (cond r3.1
 (cond (a0.2.1 == 0)
 (some ((a0.2.2.1 == 0), ()))
 (some (false, ())))
 (some (false, ())))
 (cond (a0.1 == 5)
 (ob (Ce a0.2.2.2.1 0 3) fun r4 =>
 (cond r4.1
 (cond (a0.2.1 == 0)
 (some ((a0.2.2.1 == 0), ()))
 (some (false, ())))
 (some (false, ()))))
 (cond (a0.1 == 9)
 (ob (Ce a0.2.2.2.1 0 3) fun r5 =>
 (cond r5.1
 (cond (a0.2.1 == 0)
 (some ((a0.2.2.1 == 0), ()))
 (some (false, ())))
 (some (false, ()))))
 (cond (a0.1 == 6)
 (cond r1.1
 (cond r2.1
 (some ((a0.2.2.2.1 == 0), ()))
 (some (false, ())))
 (some (false, ())))
 (cond (a0.1 == 7)
 (cond r1.1
 (cond r3.1
 (some ((a0.2.2.1 == 0), ()))
 (some (false, ())))
 (some (false, ())))
 (cond (a0.1 == 8)
 (cond r2.1
 (cond (a0.2.1 == 0)
 (some ((a0.2.2.2.1 == 0), ()))
 (some (false, ())))
 (some (false, ())))
 (some (false, ()))))))))))))))))
def Pj (t1 : Unit) (t3 : Int) (t4 : Int) (b1 : Ia) : Option ((XH × Oh) ⊕ ((My × Oh) ⊕ Ny)) :=
 (ob (Nd b1.2.1 t3) fun x40 =>
 (cond (decide (t4 < ((ln x40 : Nat) : Int)))
 (ob (Nd b1.2.1 t3) fun x41 =>
 (ob (Nd x41 t4) fun x42 =>
 (ob (Ai x42) fun r43 =>
 (cond (!r43.1)
 (some (.inr (.inr ((false, ()), ()))))
 (cond (x42.1 == 1)
 (cond (t3 == 0)
 (some (.inr (.inr ((false, ()), ()))))
 (cond (x42.1 != 9)
 (cond (decide (x42.2.2.2.1 ≥ ((ln b1.2.1 : Nat) : Int)))
 (some (.inr (.inr ((false, ()), ()))))
 (some (.inl (((), t3, (wr .i64 (t4 + 1)), ()), (b1, ())))))
 (some (.inl (((), t3, (wr .i64 (t4 + 1)), ()), (b1, ()))))))
 (cond (x42.1 != 9)
 (cond (decide (x42.2.2.2.1 ≥ ((ln b1.2.1 : Nat) : Int)))
 (some (.inr (.inr ((false, ()), ()))))
 (some (.inl (((), t3, (wr .i64 (t4 + 1)), ()), (b1, ())))))
 (some (.inl (((), t3, (wr .i64 (t4 + 1)), ()), (b1, ()))))))))))
 (some (.inr (.inl (((), t3, ()), (b1, ())))))))
def Qf := Vb fun x : (XH × Oh) => Pj x.1.1 x.1.2.1 x.1.2.2.1 x.2.1
def Oj (t1 : Unit) (t3 : Int) (b1 : Ia) : Option ((My × Oh) ⊕ ((An × Oh) ⊕ Ny)) :=
 (cond (decide (t3 < ((ln b1.2.1 : Nat) : Int)))
 (ob (Nd b1.2.1 t3) fun x31 =>
 (cond (((ln x31 : Nat) : Int) != b1.1)
 (some (.inr (.inr ((false, ()), ()))))
 (ob (Qf (((), t3, 0, ()), (b1, ()))) (se (fun y44 => (some (.inl (((), (wr .i64 (y44.1.2.1 + 1)), ()), (y44.2.1, ()))))) (fun z45 => (some (.inr (.inr ((z45.1.1, ()), ())))))))))
 (some (.inr (.inl (((), ()), (b1, ()))))))
def Pf := Vb fun x : (My × Oh) => Oj x.1.1 x.1.2.1 x.2.1
def Bi (a0 : Ia) : Option Nh :=
 (ob (Pf (((), 0, ()), (a0, ()))) (se (fun y46 => (ob (Ce y46.2.1.1 1 32) fun r48 =>
 (cond r48.1
 (ob (Ce ((ln y46.2.1.2.1 : Nat) : Int) 1 4) fun r49 =>
 (some (r49.1, ())))
 (some (false, ()))))) (fun z47 => (some (z47.1.1, ())))))
def Ze (a0 : Ia) (a1 : Int) : Option Nh :=
 (ob (Bi a0) fun r1 =>
 (cond r1.1
 (cond (decide (0 ≤ ((ln a0.2.1 : Nat) : Int)))
 (ob (Ce a1 0 (wr .i64 ((Xf .i64 1 ((ln a0.2.1 : Nat) : Int)) - 1))) fun r2 =>
 (cond r2.1
 (cond ((2 : Int) == 0)
 none
 (some (((Int.tmod a1 2) == 0), ())))
 (some (false, ()))))
 none)
 (some (false, ()))))
def Ci (a0 : Int) : Option Nh :=
 (cond (decide (a0 ≥ 1))
 (some ((decide (a0 ≤ 56)), ()))
 (some (false, ())))
def Ug (a0 : Int) : Option Nh :=
 (cond (decide (a0 ≥ 1))
 (some ((decide (a0 ≤ 15)), ()))
 (some (false, ())))
def Dh (a0 : Int) : Option Nh :=
 (cond (decide (a0 ≥ 1))
 (some ((decide (a0 ≤ 3)), ()))
 (some (false, ())))
def Xh (a0 : Wa) : Option Nh :=
 (cond (a0.1 == 0)
 (cond (a0.2.1 == 0)
 (cond (a0.2.2.1 == 0)
 (some ((a0.2.2.2.1 == 0), ()))
 (some (false, ())))
 (some (false, ())))
 (cond (a0.1 == 1)
 (cond (a0.2.1 == 0)
 (cond (a0.2.2.1 == 0)
 (some ((a0.2.2.2.1 == 0), ()))
 (some (false, ())))
 (some (false, ())))
 (cond (a0.1 == 10)
 (cond (a0.2.1 == 0)
 (cond (a0.2.2.1 == 0)
 (some ((a0.2.2.2.1 == 0), ()))
 (some (false, ())))
 (some (false, ())))
 (cond (a0.1 == 2)
 (cond (a0.2.2.2.1 == 0)
 (cond (a0.2.1 == 0)
 (cond (a0.2.2.1 == 0)
 (cond (a0.2.1 != 0)
 (some (true, ()))
 (some ((a0.2.2.1 != 0), ())))
 (ob (Ug a0.2.2.1) fun r1 =>
 (cond r1.1
 (cond (a0.2.1 != 0)
 (some (true, ()))
 (some ((a0.2.2.1 != 0), ())))
 (some (false, ())))))
 (ob (Ci a0.2.1) fun r2 =>
 (cond r2.1
 (cond (a0.2.2.1 == 0)
 (cond (a0.2.1 != 0)
 (some (true, ()))
 (some ((a0.2.2.1 != 0), ())))
 (ob (Ug a0.2.2.1) fun r3 =>
 (cond r3.1
 (cond (a0.2.1 != 0)
 (some (true, ()))
 (some ((a0.2.2.1 != 0), ())))
 (some (false, ())))))
 (some (false, ())))))
 (some (false, ())))
 (cond (a0.1 == 3)
 (cond (a0.2.1 == 0)
 (cond (a0.2.2.1 == 0)
 (ob (Dh a0.2.2.2.1) fun r4 =>
 (some (r4.1, ())))
 (some (false, ())))
 (some (false, ())))
 (cond (a0.1 == 4)
 (cond (a0.2.1 == 0)
 (cond (a0.2.2.1 == 0)
 (ob (Dh a0.2.2.2.1) fun r5 =>
 (some (r5.1, ())))
 (some (false, ())))
 (some (false, ())))
 (cond (a0.1 == 5)
 (cond (a0.2.1 == 0)
 (cond (a0.2.2.1 == 0)
 (cond (decide (a0.2.2.2.1 ≥ 0))
 (some ((decide (a0.2.2.2.1 ≤ 3)), ()))
 (some (false, ())))
 (some (false, ())))
 (some (false, ())))
 (cond (a0.1 == 9)
 (cond (a0.2.1 == 0)
 (cond (a0.2.2.1 == 0)
 (cond (decide (a0.2.2.2.1 ≥ 0))
 (some ((decide (a0.2.2.2.1 ≤ 3)), ()))
 (some (false, ())))
 (some (false, ())))
 (some (false, ())))
 (cond (a0.1 == 6)
 (ob (Ci a0.2.1) fun r6 =>
 (cond r6.1
 (ob (Ug a0.2.2.1) fun r7 =>
 (cond r7.1
 (some ((a0.2.2.2.1 == 0), ()))
 (some (false, ()))))
 (some (false, ()))))
 (cond (a0.1 == 7)
 (ob (Ci a0.2.1) fun r8 =>
 (cond r8.1
 (cond (a0.2.2.1 == 0)
 (ob (Dh a0.2.2.2.1) fun r9 =>
 (some (r9.1, ())))
 (some (false, ())))
 (some (false, ()))))
 (cond (a0.1 == 8)
 (cond (a0.2.1 == 0)
 (ob (Ug a0.2.2.1) fun r10 =>
 (cond r10.1
 (some ((a0.2.2.2.1 == 0), ()))
 (some (false, ()))))
 (some (false, ())))
 (some (false, ())))))))))))))
def Lj (t1 : Unit) (t3 : Int) (t28 : De) (t29 : Int) (t30 : Int) (t40 : Gg) (t41 : Int) (t42 : Int) (b1 : Ia) : Option (((Unit × (Int × (De × ZH))) × Oh) ⊕ (((Unit × Hn) × Oh) ⊕ Ny)) :=
 (cond (decide (t42 < t41))
 (ob (Nd t40 t42) fun x24 =>
 (ob (Xh x24) fun r25 =>
 (cond (!r25.1)
 (some (.inr (.inr ((false, ()), ()))))
 (cond (t3 == 0)
 (cond (x24.1 == 1)
 (some (.inr (.inr ((false, ()), ()))))
 (cond (x24.1 != 9)
 (cond (decide (x24.2.2.2.1 ≥ ((ln b1.2.1 : Nat) : Int)))
 (some (.inr (.inr ((false, ()), ()))))
 (some (.inl (((), t3, t28, t29, t30, t40, t41, (wr .i64 (t42 + 1)), ()), (b1, ())))))
 (some (.inl (((), t3, t28, t29, t30, t40, t41, (wr .i64 (t42 + 1)), ()), (b1, ()))))))
 (cond (x24.1 != 9)
 (cond (decide (x24.2.2.2.1 ≥ ((ln b1.2.1 : Nat) : Int)))
 (some (.inr (.inr ((false, ()), ()))))
 (some (.inl (((), t3, t28, t29, t30, t40, t41, (wr .i64 (t42 + 1)), ()), (b1, ())))))
 (some (.inl (((), t3, t28, t29, t30, t40, t41, (wr .i64 (t42 + 1)), ()), (b1, ())))))))))
 (some (.inr (.inl (((), t28, t29, t30, ()), (b1, ()))))))
def Mf := Vb fun x : ((Unit × (Int × (De × ZH))) × Oh) => Lj x.1.1 x.1.2.1 x.1.2.2.1 x.1.2.2.2.1 x.1.2.2.2.2.1 x.1.2.2.2.2.2.1 x.1.2.2.2.2.2.2.1 x.1.2.2.2.2.2.2.2.1 x.2.1
def Kj (t1 : Unit) (t28 : De) (t29 : Int) (t30 : Int) (b1 : Ia) : Option (((Unit × Hn) × Oh) ⊕ Py) :=
 (cond (decide (t30 < t29))
 (ob (Nd t28 t30) fun x19 =>
 (cond (((ln x19 : Nat) : Int) != b1.1)
 (some (.inr (.inr ((false, ()), ()))))
 (ob (Mf (((), t30, t28, t29, t30, x19, ((ln x19 : Nat) : Int), 0, ()), (b1, ()))) (se (fun y26 => (some (.inl (((), y26.1.2.1, y26.1.2.2.1, (wr .i64 (y26.1.2.2.2.1 + 1)), ()), (y26.2.1, ()))))) (fun z27 => (some (.inr (.inr ((z27.1.1, ()), ())))))))))
 (some (.inr (.inl ((), ())))))
def Lf := Vb fun x : ((Unit × Hn) × Oh) => Kj x.1.1 x.1.2.1 x.1.2.2.1 x.1.2.2.2.1 x.2.1
def Bk (a0 : Ia) : Option Nh :=
 (cond (decide (a0.1 < 1))
 (some (false, ()))
 (cond (decide (a0.1 > 32))
 (some (false, ()))
 (cond (decide (((ln a0.2.1 : Nat) : Int) < 1))
 (some (false, ()))
 (cond (decide (((ln a0.2.1 : Nat) : Int) > 4))
 (some (false, ()))
 (ob (Lf (((), a0.2.1, ((ln a0.2.1 : Nat) : Int), 0, ()), (a0, ()))) (se (fun y28 => (some (true, ()))) (fun z29 => (some (z29.1.1, ())))))))))
def Dd (a0 : Ia) (a1 : Int) : Option Nh :=
 (ob (Bk a0) fun r1 =>
 (cond r1.1
 (cond (decide (a1 ≥ 0))
 (cond ((2 : Int) == 0)
 none
 (cond ((Int.tmod a1 2) == 0)
 (cond (decide (0 ≤ ((ln a0.2.1 : Nat) : Int)))
 (some ((decide (a1 < (Xf .i64 1 ((ln a0.2.1 : Nat) : Int)))), ()))
 none)
 (some (false, ()))))
 (some (false, ())))
 (some (false, ()))))
def Yh (a0 : Wa) (a1 : Wa) : Option Nh :=
 (cond (a0.1 != a1.1)
 (some (false, ()))
 (cond (a0.2.1 != a1.2.1)
 (some (false, ()))
 (cond (a0.2.2.1 != a1.2.2.1)
 (some (false, ()))
 (cond (a0.2.2.2.1 != a1.2.2.2.1)
 (some (false, ()))
 (some (true, ()))))))
def Bs (t0 : Gg) (t1 : Gg) (t5 : Int) : Option (Sy ⊕ Py) :=
 (cond (decide (t5 < ((ln t0 : Nat) : Int)))
 (ob (Nd t0 t5) fun x7 =>
 (ob (Nd t1 t5) fun x8 =>
 (ob (Yh x7 x8) fun r9 =>
 (cond (!r9.1)
 (some (.inr (.inr ((false, ()), ()))))
 (some (.inl ((t0, t1, (wr .i64 (t5 + 1)), ()), ())))))))
 (some (.inr (.inl ((), ())))))
def Zk := Vb fun x : Sy => Bs x.1.1 x.1.2.1 x.1.2.2.1
def Eh (a0 : Gg) (a1 : Gg) : Option Nh :=
 (cond (((ln a0 : Nat) : Int) != ((ln a1 : Nat) : Int))
 (some (false, ()))
 (ob (Zk ((a0, a1, 0, ()), ())) (se (fun y10 => (some (true, ()))) (fun z11 => (some (z11.1.1, ()))))))
def Kr (t0 : De) (t1 : De) (t5 : Int) : Option (Ry ⊕ Py) :=
 (cond (decide (t5 < ((ln t0 : Nat) : Int)))
 (ob (Nd t0 t5) fun x7 =>
 (ob (Nd t1 t5) fun x8 =>
 (ob (Eh x7 x8) fun r9 =>
 (cond (!r9.1)
 (some (.inr (.inr ((false, ()), ()))))
 (some (.inl ((t0, t1, (wr .i64 (t5 + 1)), ()), ())))))))
 (some (.inr (.inl ((), ())))))
def Vj := Vb fun x : Ry => Kr x.1.1 x.1.2.1 x.1.2.2.1
def Gi (a0 : De) (a1 : De) : Option Nh :=
 (cond (((ln a0 : Nat) : Int) != ((ln a1 : Nat) : Int))
 (some (false, ()))
 (ob (Vj ((a0, a1, 0, ()), ())) (se (fun y10 => (some (true, ()))) (fun z11 => (some (z11.1.1, ()))))))
def Ek (a0 : Ia) (a1 : Ia) : Option Nh :=
 (cond (a0.1 != a1.1)
 (some (false, ()))
 (ob (Gi a0.2.1 a1.2.1) fun r1 =>
 (cond (!r1.1)
 (some (false, ()))
 (some (true, ())))))
def Sq (a0 : Int) (a1 : Int) : Option Tf :=
 (cond (decide (0 ≤ a1))
 (some ((Hp .i64 (Eu .i64 a0 a1) 1), ()))
 none)
def Vn (t1 : Int) (t2 : Int) (t3 : Unit) (t7 : Int) (b3 : Ia) : Option (Qy ⊕ BI) :=
 (cond (decide (t7 > 0))
 (ob (Sq t1 t7) fun r7 =>
 (cond (r7.1 == 1)
 (ob (Nd b3.2.1 t7) fun x8 =>
 (ob (Nd x8 t2) fun x9 =>
 (cond (x9.1 != 1)
 (some (.inr (.inr ((t7, ()), ()))))
 (some (.inl ((t1, t2, (), (wr .i64 (t7 - 1)), ()), (b3, ())))))))
 (some (.inl ((t1, t2, (), (wr .i64 (t7 - 1)), ()), (b3, ()))))))
 (some (.inr (.inl ((), ())))))
def Sd := Vb fun x : Qy => Vn x.1.1 x.1.2.1 x.1.2.2.1 x.1.2.2.2.1 x.2.1
def Il (a0 : Ia) (a1 : Int) (a2 : Int) : Option Tf :=
 (ob (Sd ((a1, a2, (), (wr .i64 (((ln a0.2.1 : Nat) : Int) - 1)), ()), (a0, ()))) (se (fun y10 => (some (0, ()))) (fun z11 => (some (z11.1.1, ())))))
def Jo (t1 : Int) (t2 : Int) (t3 : Unit) (t7 : Int) (b3 : Ia) : Option (Qy ⊕ BI) :=
 (cond (decide (t7 > 0))
 (cond (decide (0 ≤ t7))
 (cond ((Hp .i64 (Eu .i64 t1 t7) 1) == 1)
 (ob (Nd b3.2.1 t7) fun x7 =>
 (ob (Nd x7 t2) fun x8 =>
 (cond (x8.1 != 1)
 (some (.inr (.inr ((t7, ()), ()))))
 (some (.inl ((t1, t2, (), (wr .i64 (t7 - 1)), ()), (b3, ())))))))
 (some (.inl ((t1, t2, (), (wr .i64 (t7 - 1)), ()), (b3, ())))))
 none)
 (some (.inr (.inl ((), ())))))
def Td := Vb fun x : Qy => Jo x.1.1 x.1.2.1 x.1.2.2.1 x.1.2.2.2.1 x.2.1
def Ol (a0 : Ia) (a1 : Int) (a2 : Int) : Option Tf :=
 (ob (Bi a0) fun r1 =>
 (cond (!r1.1)
 (some ((-1), ()))
 (ob (Ce a2 0 (wr .i64 (a0.1 - 1))) fun r2 =>
 (cond (!r2.1)
 (some ((-1), ()))
 (ob (Td ((a1, a2, (), (wr .i64 (((ln a0.2.1 : Nat) : Int) - 1)), ()), (a0, ()))) (se (fun y9 => (some (0, ()))) (fun z10 => (some (z10.1.1, ())))))))))
def Jk (a0 : Ia) (a1 : Int) (a2 : Int) : Option AI :=
 (ob (Ol a0 a1 a2) fun r1 =>
 (cond (decide (r1.1 < 0))
 (some ((0, 0, 0, 0, ()), ()))
 (ob (Nd a0.2.1 r1.1) fun x2 =>
 (ob (Nd x2 a2) fun x3 =>
 (some (x3, ()))))))
def Li (a0 : Ia) (a1 : Int) (a2 : Int) : Option Tf :=
 (ob (Ze a0 a1) fun r1 =>
 (cond (!r1.1)
 (some ((-1), ()))
 (ob (Ce a2 0 (wr .i64 (a0.1 - 1))) fun r2 =>
 (cond (!r2.1)
 (some ((-1), ()))
 (ob (Jk a0 (Xk .i64 1 a1) a2) fun r3 =>
 (cond (r3.1.1 == 4)
 (cond (decide (0 ≤ r3.1.2.2.2.1))
 (some ((Ip .i64 a1 (Xf .i64 1 r3.1.2.2.2.1)), ()))
 none)
 (cond (r3.1.1 == 5)
 (cond (decide (0 ≤ r3.1.2.2.2.1))
 (some ((Ng .i64 (Xf .i64 1 r3.1.2.2.2.1) 1), ()))
 none)
 (some (a1, ())))))))))
def Pg (a0 : Ia) (a1 : Int) (a2 : Int) : Option Tf :=
 (ob (Il a0 a1 a2) fun r1 =>
 (ob (Nd a0.2.1 r1.1) fun x2 =>
 (ob (Nd x2 a2) fun x3 =>
 (cond (x3.1 == 4)
 (cond (decide (0 ≤ x3.2.2.2.1))
 (some ((Ip .i64 a1 (Xf .i64 1 x3.2.2.2.1)), ()))
 none)
 (cond (x3.1 == 5)
 (cond (decide (0 ≤ x3.2.2.2.1))
 (some ((Ng .i64 (Xf .i64 1 x3.2.2.2.1) 1), ()))
 none)
 (some (a1, ())))))))
def Oo (a0 : Ia) (a1 : Int) (a2 : Int) : Option Tf :=
 (ob (Dd a0 a1) fun r1 =>
 (cond (!r1.1)
 (some ((-1), ()))
 (cond (decide (a2 < 0))
 (some ((-1), ()))
 (cond (decide (a2 ≥ a0.1))
 (some ((-1), ()))
 (ob (Pg a0 a1 a2) fun r2 =>
 (some (r2.1, ())))))))
def Of (t0 : Gg) (t1 : Int) (t5 : Int) : Option (Uy ⊕ (((Gg × Tf) × Unit) ⊕ An)) :=
 (cond (decide (t5 < ((ln t0 : Nat) : Int)))
 (cond (Dg (ln t0) t5)
 (ob t0[(tn t5)]? fun x9 =>
 (cond (Dg (ln (ls t0 (tn t5) (t1, x9.2))) t5)
 (ob (ls t0 (tn t5) (t1, x9.2))[(tn t5)]? fun x10 =>
 (cond (Dg (ln (ls (ls t0 (tn t5) (t1, x9.2)) (tn t5) (x10.1, (wr .i64 (t1 + 1)), x10.2.2))) t5)
 (ob (ls (ls t0 (tn t5) (t1, x9.2)) (tn t5) (x10.1, (wr .i64 (t1 + 1)), x10.2.2))[(tn t5)]? fun x11 =>
 (cond (Dg (ln (ls (ls (ls t0 (tn t5) (t1, x9.2)) (tn t5) (x10.1, (wr .i64 (t1 + 1)), x10.2.2)) (tn t5) (x11.1, x11.2.1, (wr .i64 ((wr .i64 (t1 + 1)) + 1)), x11.2.2.2))) t5)
 (ob (ls (ls (ls t0 (tn t5) (t1, x9.2)) (tn t5) (x10.1, (wr .i64 (t1 + 1)), x10.2.2)) (tn t5) (x11.1, x11.2.1, (wr .i64 ((wr .i64 (t1 + 1)) + 1)), x11.2.2.2))[(tn t5)]? fun x12 =>
 (some (.inl (((ls (ls (ls (ls t0 (tn t5) (t1, x9.2)) (tn t5) (x10.1, (wr .i64 (t1 + 1)), x10.2.2)) (tn t5) (x11.1, x11.2.1, (wr .i64 ((wr .i64 (t1 + 1)) + 1)), x11.2.2.2)) (tn t5) (x12.1, x12.2.1, x12.2.2.1, (wr .i64 ((wr .i64 ((wr .i64 (t1 + 1)) + 1)) + 1)), x12.2.2.2.2)), (wr .i64 ((wr .i64 ((wr .i64 ((wr .i64 (t1 + 1)) + 1)) + 1)) + 1)), (wr .i64 (t5 + 1)), ()), ()))))
 none))
 none))
 none))
 none)
 (some (.inr (.inl ((t0, t1, ()), ())))))
def Hj := Vb fun x : Uy => Of x.1.1 x.1.2.1 x.1.2.2.1
def Pk (a0 : Gg) (a1 : Int) : Option (Gg × Tf) :=
 (ob (Hj ((a0, a1, 0, ()), ())) (se (fun y13 => (some (y13.1.1, (y13.1.2.1, ())))) (fun z14 => none)))
def Cf (t0 : De) (t1 : Int) (t5 : Int) : Option ((Hn × Unit) ⊕ (((De × Tf) × Unit) ⊕ An)) :=
 (cond (decide (t5 < ((ln t0 : Nat) : Int)))
 (cond (Dg (ln t0) t5)
 (ob t0[(tn t5)]? fun x5 =>
 (ob (Pk x5 t1) fun r6 =>
 (some (.inl (((ls t0 (tn t5) r6.1), r6.2.1, (wr .i64 (t5 + 1)), ()), ())))))
 none)
 (some (.inr (.inl ((t0, t1, ()), ())))))
def Vi := Vb fun x : (Hn × Unit) => Cf x.1.1 x.1.2.1 x.1.2.2.1
def Mj (a0 : De) (a1 : Int) : Option (De × Tf) :=
 (ob (Vi ((a0, a1, 0, ()), ())) (se (fun y7 => (some (y7.1.1, (y7.1.2.1, ())))) (fun z8 => none)))
def Ii (a0 : Ia) (a1 : Int) : Option (Ia × Tf) :=
 (ob (Mj a0.2.1 a1) fun r1 =>
 (some ((a0.1, r1.1, ()), (r1.2.1, ()))))
def Nf (t0 : Gg) (t1 : Int) (t5 : Int) : Option (Uy ⊕ (En ⊕ En)) :=
 (cond (decide (t5 < ((ln t0 : Nat) : Int)))
 (ob (Nd t0 t5) fun x9 =>
 (cond (x9.1 != t1)
 (some (.inr (.inr (((-1), ()), ()))))
 (ob (Nd t0 t5) fun x10 =>
 (cond (x10.2.1 != (wr .i64 (t1 + 1)))
 (some (.inr (.inr (((-1), ()), ()))))
 (ob (Nd t0 t5) fun x11 =>
 (cond (x11.2.2.1 != (wr .i64 ((wr .i64 (t1 + 1)) + 1)))
 (some (.inr (.inr (((-1), ()), ()))))
 (ob (Nd t0 t5) fun x12 =>
 (cond (x12.2.2.2.1 != (wr .i64 ((wr .i64 ((wr .i64 (t1 + 1)) + 1)) + 1)))
 (some (.inr (.inr (((-1), ()), ()))))
 (some (.inl ((t0, (wr .i64 ((wr .i64 ((wr .i64 ((wr .i64 (t1 + 1)) + 1)) + 1)) + 1)), (wr .i64 (t5 + 1)), ()), ())))))))))))
 (some (.inr (.inl ((t1, ()), ())))))
def Lo := Vb fun x : Uy => Nf x.1.1 x.1.2.1 x.1.2.2.1
def Yn (a0 : Gg) (a1 : Int) : Option Tf :=
 (ob (Lo ((a0, a1, 0, ()), ())) (se (fun y13 => (some (y13.1.1, ()))) (fun z14 => (some (z14.1.1, ())))))
def Bf (t0 : De) (t1 : Int) (t5 : Int) : Option ((Hn × Unit) ⊕ (En ⊕ En)) :=
 (cond (decide (t5 < ((ln t0 : Nat) : Int)))
 (ob (Nd t0 t5) fun x5 =>
 (ob (Yn x5 t1) fun r6 =>
 (cond (decide (r6.1 < 0))
 (some (.inr (.inr (((-1), ()), ()))))
 (some (.inl ((t0, r6.1, (wr .i64 (t5 + 1)), ()), ()))))))
 (some (.inr (.inl ((t1, ()), ())))))
def Zn := Vb fun x : (Hn × Unit) => Bf x.1.1 x.1.2.1 x.1.2.2.1
def Dn (a0 : De) (a1 : Int) : Option Tf :=
 (ob (Zn ((a0, a1, 0, ()), ())) (se (fun y7 => (some (y7.1.1, ()))) (fun z8 => (some (z8.1.1, ())))))
def So (a0 : Ia) (a1 : Int) : Option Tf :=
 (ob (Dn a0.2.1 a1) fun r1 =>
 (cond (decide (r1.1 < 0))
 (some ((-1), ()))
 (some (r1.1, ()))))
def Bg (t2 : Unit) (t6 : Kq) (t7 : Lq) (t8 : Ye) (t9 : Int) (t10 : Int) (t11 : Int) (b2 : Ia) : Option (((Unit × (Kq × (Lq × (Ye × Av)))) × Oh) ⊕ (MC ⊕ An)) :=
 (cond (decide (t11 < b2.1))
 (ob (Li b2 t10 t11) fun r49 =>
 (cond (decide (r49.1 ≥ 0))
 (cond (Dg (ln t7) r49.1)
 (ob t7[(tn r49.1)]? fun x50 =>
 (cond (!x50)
 (cond (Dg (ln t7) r49.1)
 (ob t7[(tn r49.1)]? fun x51 =>
 (cond (Dg (ln t6) t10)
 (ob t6[(tn t10)]? fun x52 =>
 (cond (bl (ln ([] : List Int) + ln x52) Eg)
 (cond (bl (ln (ap [] x52) + ln ([t11] : List Int)) Eg)
 (cond (Dg (ln t6) r49.1)
 (ob (ls t6 (tn t10) x52)[(tn r49.1)]? fun x53 =>
 (cond (bl (ln t8 + ln ([r49.1] : List Int)) Eg)
 (some (.inl (((), (ls (ls t6 (tn t10) x52) (tn r49.1) (ap (ap [] x52) ([t11] : List Int))), (ls t7 (tn r49.1) true), (ap t8 ([r49.1] : List Int)), t9, t10, (wr .i64 (t11 + 1)), ()), (b2, ()))))
 none))
 none)
 none)
 none))
 none))
 none)
 (some (.inl (((), t6, t7, t8, t9, t10, (wr .i64 (t11 + 1)), ()), (b2, ()))))))
 none)
 (some (.inl (((), t6, t7, t8, t9, t10, (wr .i64 (t11 + 1)), ()), (b2, ()))))))
 (some (.inr (.inl (((), t6, t7, t8, t9, ()), (b2, ()))))))
def Xe := Vb fun x : ((Unit × (Kq × (Lq × (Ye × Av)))) × Oh) => Bg x.1.1 x.1.2.1 x.1.2.2.1 x.1.2.2.2.1 x.1.2.2.2.2.1 x.1.2.2.2.2.2.1 x.1.2.2.2.2.2.2.1 x.2.1
def Bj (t2 : Unit) (t6 : Kq) (t7 : Lq) (t8 : Ye) (t9 : Int) (b2 : Ia) : Option (MC ⊕ (((Kq × (Lq × Unit)) × Unit) ⊕ An)) :=
 (cond (decide (t9 < ((ln t8 : Nat) : Int)))
 (cond (Dg (ln t8) t9)
 (ob t8[(tn t9)]? fun x38 =>
 (ob (Xe (((), t6, t7, t8, t9, x38, 0, ()), (b2, ()))) (se (fun y54 => (some (.inl (((), y54.1.2.1, y54.1.2.2.1, y54.1.2.2.2.1, (wr .i64 (y54.1.2.2.2.2.1 + 1)), ()), (y54.2.1, ()))))) (fun z55 => (some (.inr (.inr ((), ()))))))))
 none)
 (some (.inr (.inl ((t6, t7, ()), ())))))
def Be := Vb fun x : MC => Bj x.1.1 x.1.2.1 x.1.2.2.1 x.1.2.2.2.1 x.1.2.2.2.2.1 x.2.1
def Gj (a0 : Ia) (a1 : Int) : Option (Kq × (Lq × Unit)) :=
 (cond (((16 : Int) == 16) && (decide ((0 : Int) ≤ 16) && decide (16 ≤ ((Eg : Nat) : Int))))
 (cond (((16 : Int) == 16) && (decide ((0 : Int) ≤ 16) && decide (16 ≤ ((Eg : Nat) : Int))))
 (cond (Dg (ln (qr (tn 16) false)) a1)
 (ob (qr (tn 16) false)[(tn a1)]? fun x1 =>
 (ob (Be (((), (qr (tn 16) []), (ls (qr (tn 16) false) (tn a1) true), ([a1] : List Int), 0, ()), (a0, ()))) (se (fun y56 => (some y56.1)) (fun z57 => none))))
 none)
 none)
 none)
def Uh (a0 : Ia) (a1 : Int) (a2 : Int) : Option (Ye × Nh) :=
 (ob (Ze a0 a1) fun r1 =>
 (cond (!r1.1)
 (some ([], false, ()))
 (ob (Ze a0 a2) fun r2 =>
 (cond (!r2.1)
 (some ([], false, ()))
 (ob (Gj a0 a1) fun r3 =>
 (cond (Dg (ln r3.2.1) a2)
 (ob r3.2.1[(tn a2)]? fun x4 =>
 (cond (!x4)
 (some ([], false, ()))
 (cond (Dg (ln r3.1) a2)
 (ob r3.1[(tn a2)]? fun x5 =>
 (cond (bl (ln ([] : List Int) + ln x5) Eg)
 (some ((ap [] x5), true, ()))
 none))
 none)))
 none))))))
def Dk (t2 : Unit) (t5 : Gn) (t6 : Ye) (t7 : Int) (t26 : Int) (t27 : Int) (b2 : Ia) : Option (((Unit × (Gn × (Ye × Av))) × Oh) ⊕ (NC ⊕ An)) :=
 (cond (decide (t27 < t26))
 (ob (Pg b2 t7 t27) fun r24 =>
 (cond (!(Hb t5 r24.1).isSome)
 (ob (Ck ((Hb t5 t7).getD [])) fun r25 =>
 (cond (bl (ln r25.1 + ln ([t27] : List Int)) Eg)
 (cond (Option.isNone (Hb t5 r24.1))
 (cond (bl (ln t6 + ln ([r24.1] : List Int)) Eg)
 (some (.inl (((), (ap t5 [(r24.1, (ap r25.1 ([t27] : List Int)))]), (ap t6 ([r24.1] : List Int)), t7, t26, (wr .i64 (t27 + 1)), ()), (b2, ()))))
 none)
 none)
 none))
 (some (.inl (((), t5, t6, t7, t26, (wr .i64 (t27 + 1)), ()), (b2, ()))))))
 (some (.inr (.inl (((), t5, t6, ()), (b2, ()))))))
def Rh := Vb fun x : ((Unit × (Gn × (Ye × Av))) × Oh) => Dk x.1.1 x.1.2.1 x.1.2.2.1 x.1.2.2.2.1 x.1.2.2.2.2.1 x.1.2.2.2.2.2.1 x.2.1
def Bn (t2 : Unit) (t5 : Gn) (t6 : Ye) (b2 : Ia) : Option (NC ⊕ (((Gn × Unit) × Unit) ⊕ An)) :=
 (cond (decide (((ln t6 : Nat) : Int) > 0))
 (cond (Dg (ln t6) 0)
 (ob t6[(tn 0)]? fun x19 =>
 (cond (Af (ln t6) 1 ((ln t6 : Nat) : Int))
 (ob (Rh (((), t5, (Fe t6 (tn 1) (tn ((ln t6 : Nat) : Int))), x19, b2.1, 0, ()), (b2, ()))) (se (fun y26 => (some (.inl (((), y26.1.2.1, y26.1.2.2.1, ()), (y26.2.1, ()))))) (fun z27 => (some (.inr (.inr ((), ())))))))
 none))
 none)
 (some (.inr (.inl ((t5, ()), ())))))
def Wf := Vb fun x : NC => Bn x.1.1 x.1.2.1 x.1.2.2.1 x.2.1
def Ro (a0 : Ia) (a1 : Int) : Option (Gn × Unit) :=
 (cond (Option.isNone (Hb ([] : Gn) a1))
 (ob (Wf (((), (ap ([] : Gn) [(a1, [])]), ([a1] : List Int), ()), (a0, ()))) (se (fun y28 => (some (y28.1.1, ()))) (fun z29 => none)))
 none)
def Og (a0 : Ia) (a1 : Int) (a2 : Int) : Option (Ye × Nh) :=
 (ob (Dd a0 a1) fun r1 =>
 (cond (!r1.1)
 (some ([], false, ()))
 (ob (Dd a0 a2) fun r2 =>
 (cond (!r2.1)
 (some ([], false, ()))
 (ob (Ro a0 a1) fun r3 =>
 (some (((Hb r3.1 a2).getD []), (Hb r3.1 a2).isSome, ())))))))
def Yg (a0 : Ia) (a1 : Int) (a2 : Int) : Option Nh :=
 (ob (Gk a0 1048576) fun r1 =>
 (cond (decide (r1.1 < 0))
 (some (true, ()))
 (ob (Ff a0) fun r2 =>
 (ob (Uh r2.1 a1 a2) fun r3 =>
 (ob (Ff a0) fun r4 =>
 (ob (Og r4.1 a1 a2) fun r5 =>
 (ob (Di r5.1 r3.1) fun r6 =>
 (cond (!r6.1)
 (some (false, ()))
 (cond (r5.2.1 != r3.2.1)
 (some (false, ()))
 (ob (Ff a0) fun r7 =>
 (ob (Ek r4.1 r7.1) fun r8 =>
 (cond (!r8.1)
 (some (false, ()))
 (ob (Ii r4.1 1) fun r9 =>
 (cond (decide (r9.2.1 < 0))
 (some (false, ()))
 (ob (Di r5.1 r3.1) fun r10 =>
 (cond (!r10.1)
 (some (false, ()))
 (cond (r5.2.1 != r3.2.1)
 (some (false, ()))
 (ob (Cn r5.1 1) fun r11 =>
 (ob (Fk r11.1 1) fun r12 =>
 (cond (decide (r12.1 < 0))
 (some (false, ()))
 (cond (r12.1 != r11.2.1)
 (some (false, ()))
 (ob (Ff a0) fun r13 =>
 (ob (Og r13.1 a1 a2) fun r14 =>
 (ob (Di r14.1 r3.1) fun r15 =>
 (cond (!r15.1)
 (some (false, ()))
 (cond (r14.2.1 != r3.2.1)
 (some (false, ()))
 (ob (Fk r11.1 1) fun r16 =>
 (cond (decide (r16.1 < 0))
 (some (false, ()))
 (cond (r16.1 != r11.2.1)
 (some (false, ()))
 (some (true, ())))))))))))))))))))))))))))))))
end
theorem FE (a : (List Int)) (hz : Ab (.sl int) a ≤ Wd) : Di a a = some (true, ()) := by
 have h40 : Wd = 1099511627776 := rfl
 have hz' : ja a + (ya (Ab int) a).sum ≤ Wd := hz
 have hl := Wo (step := fun x : (((List Int) × ((List Int) × (Int × Unit))) × Unit) => Hi x.1.1 x.1.2.1 x.1.2.2.1) (fun k => ((a, a, (k : Int), ()), ())) (ja a) (.inl ((), ())) (by
  intro k hk
  simp only [Hi]
  rw [Ua (show (k : Int) < (ja a : Int) by omega), Vf hk]
  simp only [yb, jb]
  rw [bne_self_eq_false']
  simp only [yc]
  rw [Rd (by omega)]) (by
  simp [Hi])
 unfold Di Ui
 rw [bne_self_eq_false']
 simp only [yc]
 erw [hl]
 rfl
theorem NA (a : (List Wa)) (hr : Ni (.sl Qa) a) (l : Nat) (hl : l ≤ Mc) : Fh a (l : Int) = some (Xx (Ab (.sl Qa) a) l, ()) := CQ (e := Qa) (F := Fh) a hr l hl rfl rfl
theorem Jy (a : (List (List Wa))) (hr : Ni (.sl (.sl Qa)) a) (l : Nat) (hl : l ≤ Mc) : Ji a (l : Int) = some (Xx (Ab (.sl (.sl Qa)) a) l, ()) := VQ (e := (.sl Qa)) (f := Fh) (F := Ji) a hr l hl NA rfl
theorem EB (a : Ia) (hr : Ni Sa a) (l : Nat) (hl : l ≤ Mc) : Gk a (l : Int) = some (Xx (Ab Sa a) l, ()) := by
 unfold Gk
 have hs : Ab Sa a = Ab (.sl (.sl Qa)) a.2.1 := by simp only [Ab, qp, jr, js]
 rw [Jy a.2.1 hr.2.1 (l) (by omega)]
 simp only [jb]
 by_cases h0 : Ab (.sl (.sl Qa)) a.2.1 ≤ l
 case neg => rw [Ko h0, Ko (by omega)]; rfl
 rw [Hq h0, Dc (by omega)]
 simp only [yc]
 rw [Hq (by omega), hs]
 try simp only [Nat.sub_sub, js]
theorem GB (a : Wa) (hz : Ab Qa a ≤ Mc) : Zh a = some (a, ()) := by
 unfold Zh
 rfl
theorem OA (a : (List Wa)) (hz : Ab (.sl Qa) a ≤ Mc) : Dj a = some (a, ()) := VM (e := Qa) _ _ (f := Zh) a hz GB rfl
theorem Ky (a : (List (List Wa))) (hz : Ab (.sl (.sl Qa)) a ≤ Mc) : Ml a = some (a, ()) := VM (e := (.sl Qa)) _ _ (f := Dj) a hz OA rfl
theorem HB (a : Ia) (hz : Ab Sa a ≤ Mc) : Ff a = some (a, ()) := by
 unfold Ff
 have hs : Ab Sa a = Ab (.sl (.sl Qa)) a.2.1 := by simp only [Ab, qp, jr, js]
 rw [Ky a.2.1 (by omega)]
 simp only [jb]
theorem UA (a : Wa) (hz : Ab Qa a ≤ Wd) : Yh a a = some (true, ()) := by
 unfold Yh
 have hs : Ab Qa a = 0 := by simp only [Ab, qp, jr, js]
 simp only [bne_self_eq_false', yc, jg, jb]
theorem Mz (a : (List Wa)) (hz : Ab (.sl Qa) a ≤ Wd) : Eh a a = some (true, ()) := NM (e := Qa) (f := Yh) (F := Eh) a hz UA rfl
theorem Yx (a : (List (List Wa))) (hz : Ab (.sl (.sl Qa)) a ≤ Wd) : Gi a a = some (true, ()) := NM (e := (.sl Qa)) (f := Eh) (F := Gi) a hz Mz rfl
theorem VA (a : Ia) (hz : Ab Sa a ≤ Wd) : Ek a a = some (true, ()) := by
 unfold Ek
 have hs : Ab Sa a = Ab (.sl (.sl Qa)) a.2.1 := by simp only [Ab, qp, jr, js]
 simp only [bne_self_eq_false', yc, jg, jb, Yx a.2.1 (by omega)]
theorem AB (a : (List Int)) (k : Nat) (hk : k + 8 * Ab (.sl int) a ≤ Wd) : ∃ (a' : (List Int)) (k' : Nat), k ≤ k' ∧ k' ≤ k + 8 * Ab (.sl int) a ∧ Cn a (k : Int) = some (a', ((k' : Int), ())) ∧ Fk a' (k : Int) = some ((k' : Int), ()) ∧ kf (.sl int) a a' := ED (e := int) (RM := Ah) (RH := Zg) (fun _ _ => rfl) (fun _ _ => rfl) (by
 have h40 : Wd = 1099511627776 := rfl
 intro o k i hi hB
 have hw : jy .i64 (((k : Nat) : Int) + 1) = (((k + 1) : Nat) : Int) := Rd (by omega)
 refine ⟨((k : Nat) : Int), k + 1, by omega, by omega, ?_, ?_⟩
 ·simp only [Ah]
  rw [Ua (show (i : Int) < (ja o : Int) by omega)]
  simp only [hw, yb, Ig, List.length_set, Ua hi, jm, je hi, List.getElem?_set_self hi, jb, List.set_set, z3, yc]
 ·intro o2 hi2 h2
  simp only [Zg]
  rw [Ua (show (i : Int) < (ja o2 : Int) by omega), Vf hi2, h2]
  simp only [hw, yb, jb, bne_self_eq_false', yc, z3]) (by
 intro o k
 simp only [Ah]
 rw [Dc (by omega)]
 rfl) (by
 intro o k
 simp only [Zg]
 rw [Dc (by omega)]
 rfl) a k hk
theorem Rw (a : (List Wa)) (k : Nat) (hk : k + 8 * Ab (.sl Qa) a ≤ Wd) : ∃ (a' : (List Wa)) (k' : Nat), k ≤ k' ∧ k' ≤ k + 8 * Ab (.sl Qa) a ∧ Pk a (k : Int) = some (a', ((k' : Int), ())) ∧ Yn a' (k : Int) = some ((k' : Int), ()) ∧ kf (.sl Qa) a a' := ED (e := Qa) (RM := Of) (RH := Nf) (fun _ _ => rfl) (fun _ _ => rfl) (by
 have h40 : Wd = 1099511627776 := rfl
 intro o k i hi hB
 have hw : jy .i64 (((k : Nat) : Int) + 1) = (((k + 1) : Nat) : Int) ∧ jy .i64 ((((k + 1) : Nat) : Int) + 1) = (((k + 2) : Nat) : Int) ∧ jy .i64 ((((k + 2) : Nat) : Int) + 1) = (((k + 3) : Nat) : Int) ∧ jy .i64 ((((k + 3) : Nat) : Int) + 1) = (((k + 4) : Nat) : Int) := ⟨Rd (by omega), Rd (by omega), Rd (by omega), Rd (by omega)⟩
 obtain ⟨w0, w1, w2, w3⟩ := hw
 refine ⟨(((k : Nat) : Int), (((k + 1) : Nat) : Int), (((k + 2) : Nat) : Int), (((k + 3) : Nat) : Int), ()), k + 4, by omega, by omega, ?_, ?_⟩
 ·simp only [Of]
  rw [Ua (show (i : Int) < (ja o : Int) by omega)]
  simp only [w0, w1, w2, w3, yb, Ig, List.length_set, Ua hi, jm, je hi, List.getElem?_set_self hi, jb, List.set_set, z3, yc]
 ·intro o2 hi2 h2
  simp only [Nf]
  rw [Ua (show (i : Int) < (ja o2 : Int) by omega), Vf hi2, h2]
  simp only [w0, w1, w2, w3, yb, jb, bne_self_eq_false', yc, z3]) (by
 intro o k
 simp only [Of]
 rw [Dc (by omega)]
 rfl) (by
 intro o k
 simp only [Nf]
 rw [Dc (by omega)]
 rfl) a k hk
theorem Sv (a : (List (List Wa))) (k : Nat) (hk : k + 8 * Ab (.sl (.sl Qa)) a ≤ Wd) : ∃ (a' : (List (List Wa))) (k' : Nat), k ≤ k' ∧ k' ≤ k + 8 * Ab (.sl (.sl Qa)) a ∧ Mj a (k : Int) = some (a', ((k' : Int), ())) ∧ Dn a' (k : Int) = some ((k' : Int), ()) ∧ kf (.sl (.sl Qa)) a a' := ED (e := (.sl Qa)) (RM := Cf) (RH := Bf) (fun _ _ => rfl) (fun _ _ => rfl) (by
 have h40 : Wd = 1099511627776 := rfl
 intro o k i hi hB
 obtain ⟨y0, k0, g0, i0, m0, n0, _⟩ := Rw o[i] k (by omega)
 have d0 : decide ((k0 : Int) < 0) = false := Dc (by omega)
 refine ⟨y0, k0, by omega, by omega, ?_, ?_⟩
 ·simp only [Cf]
  rw [Ua (show (i : Int) < (ja o : Int) by omega)]
  simp only [m0, yb, Ig, List.length_set, Ua hi, jm, je hi, List.getElem?_set_self hi, jb, List.set_set, z3, yc]
 ·intro o2 hi2 h2
  simp only [Bf]
  rw [Ua (show (i : Int) < (ja o2 : Int) by omega), Vf hi2, h2]
  simp only [n0, d0, yb, jb, bne_self_eq_false', yc, z3]) (by
 intro o k
 simp only [Cf]
 rw [Dc (by omega)]
 rfl) (by
 intro o k
 simp only [Bf]
 rw [Dc (by omega)]
 rfl) a k hk
theorem Dy (a : Ia) (k : Nat) (hk : k + 8 * Ab Sa a ≤ Wd) : ∃ (a' : Ia) (k' : Nat), k ≤ k' ∧ k' ≤ k + 8 * Ab Sa a ∧ Ii a (k : Int) = some (a', ((k' : Int), ())) ∧ So a' (k : Int) = some ((k' : Int), ()) ∧ kf Sa a a' := by
 have h40 : Wd = 1099511627776 := rfl
 have hs : Ab Sa a = Ab (.sl (.sl Qa)) a.2.1 := by simp only [Ab, qp, jr, js]
 obtain ⟨x0, k0, g0, i0, m0, n0, f0⟩ := Sv a.2.1 k (by omega)
 refine ⟨(a.1, x0, ()), k0, by omega, by omega, ?_, ?_, Qw _ _, f0, rfl⟩
 ·unfold Ii
  simp only [m0, jb]
 ·unfold So
  simp only [n0, jb]
  rw [Dc (by omega)]
  simp only [yc]
def Mb (k c m n : Int) : Prop :=
 ((k = 0 ∨ k = 1 ∨ k = 10) ∧ c = 0 ∧ m = 0 ∧ n = 0) ∨
 (k = 2 ∧ n = 0 ∧ (c = 0 ∨ 1 ≤ c ∧ c ≤ 56) ∧ (m = 0 ∨ 1 ≤ m ∧ m ≤ 15) ∧ (c ≠ 0 ∨ m ≠ 0)) ∨
 ((k = 3 ∨ k = 4) ∧ c = 0 ∧ m = 0 ∧ 1 ≤ n ∧ n ≤ 3) ∨
 ((k = 5 ∨ k = 9) ∧ c = 0 ∧ m = 0 ∧ 0 ≤ n ∧ n ≤ 3) ∨
 (k = 6 ∧ 1 ≤ c ∧ c ≤ 56 ∧ 1 ≤ m ∧ m ≤ 15 ∧ n = 0) ∨
 (k = 7 ∧ 1 ≤ c ∧ c ≤ 56 ∧ m = 0 ∧ 1 ≤ n ∧ n ≤ 3) ∨
 (k = 8 ∧ c = 0 ∧ 1 ≤ m ∧ m ≤ 15 ∧ n = 0)
noncomputable def Od (a : Wa) : Bool := open Classical in decide (Mb a.1 a.2.1 a.2.2.1 a.2.2.2.1)
theorem Xa (a : Wa) : Od a = true ↔ Mb a.1 a.2.1 a.2.2.1 a.2.2.2.1 := by simp [Od]
theorem Yp (c : Int) : Ci c = some (decide (1 ≤ c ∧ c ≤ 56), ()) := by
 simp only [Ci, Lg, Mg]
 apply Ib; simp only [Pb, decide_eq_true_eq, Pn, Pq, jp, and_false, false_and, or_false, false_or, and_true, true_and, not_true_eq_false, not_false_eq_true]; try omega
theorem Zp (c : Int) : Ug c = some (decide (1 ≤ c ∧ c ≤ 15), ()) := by
 simp only [Ug, Lg, Mg]
 apply Ib; simp only [Pb, decide_eq_true_eq, Pn, Pq, jp, and_false, false_and, or_false, false_or, and_true, true_and, not_true_eq_false, not_false_eq_true]; try omega
theorem Po (c : Int) : Dh c = some (decide (1 ≤ c ∧ c ≤ 3), ()) := by
 simp only [Dh, Lg, Mg]
 apply Ib; simp only [Pb, decide_eq_true_eq, Pn, Pq, jp, and_false, false_and, or_false, false_or, and_true, true_and, not_true_eq_false, not_false_eq_true]; try omega
theorem Zf (c a b : Int) : Ce c a b = some (decide (a ≤ c ∧ c ≤ b), ()) := by
 simp only [Ce, Lg, Mg]
 apply Ib; simp only [Pb, decide_eq_true_eq, Pn, Pq, jp, and_false, false_and, or_false, false_or, and_true, true_and, not_true_eq_false, not_false_eq_true]; try omega
theorem Cu (a : Wa) : Xh a = some (Od a, ()) := by
 obtain ⟨k, c, m, n, u⟩ := a
 have key : ∀ k c m n : Int, Xh (k, c, m, n, u) = some (Od (k, c, m, n, u), ()) := by
  intro k c m n
  simp only [Xh, Yp, Zp, Po, Zf, jb, Lg, Mg]
  by_cases h0 : k = 0
  ·subst h0; apply Ib; rw [Xa]; simp [Mb, Pb]; try omega
  by_cases h1 : k = 1
  ·subst h1; apply Ib; rw [Xa]; simp [Mb, Pb]; try omega
  by_cases h2 : k = 2
  ·subst h2; apply Ib; rw [Xa]; simp [Mb, Pb]; intro hn; (repeat' split) <;> omega
  by_cases h3 : k = 3
  ·subst h3; apply Ib; rw [Xa]; simp [Mb, Pb]; try omega
  by_cases h4 : k = 4
  ·subst h4; apply Ib; rw [Xa]; simp [Mb, Pb]; try omega
  by_cases h5 : k = 5
  ·subst h5; apply Ib; rw [Xa]; simp [Mb, Pb]; try omega
  by_cases h6 : k = 6
  ·subst h6; apply Ib; rw [Xa]; simp [Mb, Pb]; try omega
  by_cases h7 : k = 7
  ·subst h7; apply Ib; rw [Xa]; simp [Mb, Pb]; try omega
  by_cases h8 : k = 8
  ·subst h8; apply Ib; rw [Xa]; simp [Mb, Pb]; try omega
  by_cases h9 : k = 9
  ·subst h9; apply Ib; rw [Xa]; simp [Mb, Pb]; try omega
  by_cases h10 : k = 10
  ·subst h10; apply Ib; rw [Xa]; simp [Mb, Pb]; try omega
  have g : ∀ j : Int, (k == j) = decide (k = j) := fun j => by rw [Bool.eq_iff_iff]; simp
  apply Ib; rw [Xa]; simp [Mb, Pb, h0, h1, h2, h3, h4, h5, h6, h7, h8, h9, h10]
 exact key k c m n
theorem Qu (a : Wa) : Ai a = some (Od a, ()) := by
 obtain ⟨k, c, m, n, u⟩ := a
 have key : ∀ k c m n : Int, Ai (k, c, m, n, u) = some (Od (k, c, m, n, u), ()) := by
  intro k c m n
  simp only [Ai, Yp, Zp, Po, Zf, jb, Lg, Mg]
  by_cases h0 : k = 0
  ·subst h0; apply Ib; rw [Xa]; simp [Mb, Pb]; try omega
  by_cases h1 : k = 1
  ·subst h1; apply Ib; rw [Xa]; simp [Mb, Pb]; try omega
  by_cases h2 : k = 2
  ·subst h2; apply Ib; rw [Xa]; simp [Mb, Pb]; intro hn; (repeat' split) <;> omega
  by_cases h3 : k = 3
  ·subst h3; apply Ib; rw [Xa]; simp [Mb, Pb]; try omega
  by_cases h4 : k = 4
  ·subst h4; apply Ib; rw [Xa]; simp [Mb, Pb]; try omega
  by_cases h5 : k = 5
  ·subst h5; apply Ib; rw [Xa]; simp [Mb, Pb]; try omega
  by_cases h6 : k = 6
  ·subst h6; apply Ib; rw [Xa]; simp [Mb, Pb]; try omega
  by_cases h7 : k = 7
  ·subst h7; apply Ib; rw [Xa]; simp [Mb, Pb]; try omega
  by_cases h8 : k = 8
  ·subst h8; apply Ib; rw [Xa]; simp [Mb, Pb]; try omega
  by_cases h9 : k = 9
  ·subst h9; apply Ib; rw [Xa]; simp [Mb, Pb]; try omega
  by_cases h10 : k = 10
  ·subst h10; apply Ib; rw [Xa]; simp [Mb, Pb]; try omega
  have g : ∀ j : Int, (k == j) = decide (k = j) := fun j => by rw [Bool.eq_iff_iff]; simp
  apply Ib; rw [Xa]; simp [Mb, Pb, h0, h1, h2, h3, h4, h5, h6, h7, h8, h9, h10]
 exact key k c m n
noncomputable def Pe (nl : Nat) (i : Nat) (a : Wa) : Bool := Od a && !(((i : Int) == 0) && (a.1 == 1)) && !((a.1 != 9) && decide (a.2.2.2.1 ≥ (nl : Int)))
noncomputable def Yf (keys : Int) (nl : Nat) (i : Nat) (l : List Wa) : Bool := ((ja l : Int) == keys) && Ri (fun _ a => Pe nl i a) 0 l
noncomputable def Id (m : Ia) : Bool :=
 decide (1 ≤ m.1 ∧ m.1 ≤ 32) && decide (1 ≤ m.2.1.length ∧ m.2.1.length ≤ 4) && Ri (fun i l => Yf m.1 m.2.1.length i l) 0 m.2.1
theorem Du (m : Ia) (i : Nat) (l : List Wa) (L : List (List Wa)) (n : Int) (t : Int) (hl : l.length < 9223372036854775807) :
 Mf (((), (i : Int), L, n, t, l, (l.length : Int), (0 : Int), ()), (m, ())) =
  some (cond (Ri (fun _ a => Pe m.2.1.length i a) 0 l) (.inl (((), L, n, t, ()), (m, ()))) (.inr ((false, ()), ()))) := by
 unfold Mf
 refine Uo (step := _) l (fun _ a => Pe m.2.1.length i a) (fun j => (((), (i : Int), L, n, t, l, (l.length : Int), j, ()), (m, ()))) _ _ ?_ ?_ hl
 ·intro k hk
  simp only [Lj]
  rw [Ua (show (k : Int) < (l.length : Int) by omega), Vf hk]
  simp only [yb, jb, Pe, Cu]
  cases Od l[k] <;> cases ((i : Int) == 0) <;> cases (l[k].1 == 1) <;> cases (l[k].1 != 9) <;> cases decide (l[k].2.2.2.1 ≥ (m.2.1.length : Int)) <;> rfl
 ·simp [Lj]
theorem Qh (m : Ia) (hz : Ab Sa m ≤ Mc) : Bk m = some (Id m, ()) := by
 have h20 : Mc = 1048576 := rfl
 have hz' : m.2.1.length + (ya (Ab (.sl Qa)) m.2.1).sum ≤ Mc := by
  have : Ab Sa m = Ab (.sl (.sl Qa)) m.2.1 := by simp only [Ab, qp, jr]
  rw [this] at hz; exact hz
 have hl : ∀ k (hk : k < m.2.1.length), m.2.1[k].length ≤ Mc := by
  intro k hk
  have := Ln (f := Ab (.sl Qa)) hk
  have h2 : m.2.1[k].length ≤ Ab (.sl Qa) m.2.1[k] := Nat.le_add_right _ _
  omega
 have hloop : Lf (((), m.2.1, ((ja m.2.1 : Nat) : Int), (0 : Int), ()), (m, ())) =
  some (cond (Ri (fun i l => Yf m.1 m.2.1.length i l) 0 m.2.1) (.inl ((), ())) (.inr ((false, ()), ()))) := by
  unfold Lf
  refine Uo (step := _) m.2.1 (fun i l => Yf m.1 m.2.1.length i l) (fun j => (((), m.2.1, ((ja m.2.1 : Nat) : Int), j, ()), (m, ()))) _ _ ?_ ?_ (by omega)
  ·intro k hk
   have := hl k hk
   simp only [Kj]
   rw [Ua (show (k : Int) < (m.2.1.length : Int) by omega), Vf hk]
   simp only [yb, jb, Yf]
   rw [Du m k _ _ _ _ (by omega)]
   show (cond (!((m.2.1[k].length : Int) == m.1)) _ _) = _
   cases ((m.2.1[k].length : Int) == m.1) <;> cases Ri (fun _ a => Pe m.2.1.length k a) 0 m.2.1[k] <;> rfl
  ·simp [Kj]
 unfold Bk
 rw [hloop]
 simp only [jb, Kx, Lg, Mg]
 apply Ib
 simp only [Pb, Id, jd, decide_eq_true_eq, jp, and_false, false_or, and_true, or_false]
 generalize Ri (fun i l => Yf m.1 m.2.1.length i l) 0 m.2.1 = b
 constructor
 ·rintro ⟨h1, h2, h3, h4, h5⟩; exact ⟨⟨by omega, by omega⟩, h5⟩
 ·rintro ⟨⟨h1, h2⟩, h5⟩; exact ⟨by omega, by omega, by omega, by omega, h5⟩
theorem Ru (m : Ia) (i : Nat) (hi : i < m.2.1.length) (hl : m.2.1[i].length < 9223372036854775807) :
 Qf (((), (i : Int), (0 : Int), ()), (m, ())) =
  some (cond (Ri (fun _ a => Pe m.2.1.length i a) 0 m.2.1[i]) (.inl (((), (i : Int), ()), (m, ()))) (.inr ((false, ()), ()))) := by
 unfold Qf
 refine Uo (step := _) m.2.1[i] (fun _ a => Pe m.2.1.length i a) (fun j => (((), (i : Int), j, ()), (m, ()))) _ _ ?_ ?_ hl
 ·intro k hk
  simp only [Pj]
  rw [Vf hi]
  simp only [jb]
  rw [Ua (show (k : Int) < (m.2.1[i].length : Int) by omega), Vf hk]
  simp only [yb, jb, Pe, Qu]
  cases Od m.2.1[i][k] <;> cases ((i : Int) == 0) <;> cases (m.2.1[i][k].1 == 1) <;> cases (m.2.1[i][k].1 != 9) <;> cases decide (m.2.1[i][k].2.2.2.1 ≥ (m.2.1.length : Int)) <;> rfl
 ·simp [Pj, Vf hi]
theorem Tk (m : Ia) (hz : Ab Sa m ≤ Mc) : Bi m = some (Id m, ()) := by
 have h20 : Mc = 1048576 := rfl
 have hz' : m.2.1.length + (ya (Ab (.sl Qa)) m.2.1).sum ≤ Mc := by
  have : Ab Sa m = Ab (.sl (.sl Qa)) m.2.1 := by simp only [Ab, qp, jr]
  rw [this] at hz; exact hz
 have hl : ∀ k (hk : k < m.2.1.length), m.2.1[k].length ≤ Mc := by
  intro k hk
  have := Ln (f := Ab (.sl Qa)) hk
  have h2 : m.2.1[k].length ≤ Ab (.sl Qa) m.2.1[k] := Nat.le_add_right _ _
  omega
 have hloop : Pf (((), (0 : Int), ()), (m, ())) =
  some (cond (Ri (fun i l => Yf m.1 m.2.1.length i l) 0 m.2.1) (.inl (((), ()), (m, ()))) (.inr ((false, ()), ()))) := by
  unfold Pf
  refine Uo (step := _) m.2.1 (fun i l => Yf m.1 m.2.1.length i l) (fun j => (((), j, ()), (m, ()))) _ _ ?_ ?_ (by omega)
  ·intro k hk
   have := hl k hk
   simp only [Oj]
   rw [Ua (show (k : Int) < (m.2.1.length : Int) by omega), Vf hk]
   simp only [yb, jb, Yf]
   rw [Ru m k hk (by omega)]
   show (cond (!((m.2.1[k].length : Int) == m.1)) _ _) = _
   cases ((m.2.1[k].length : Int) == m.1) <;> cases Ri (fun _ a => Pe m.2.1.length k a) 0 m.2.1[k] <;> rfl
  ·simp [Oj]
 unfold Bi
 rw [hloop]
 simp only [jb, Kx, Lg, Mg, Zf]
 apply Ib
 simp only [Pb, Id, jd, decide_eq_true_eq, jp, and_false, false_or, and_true, or_false]
 generalize Ri (fun i l => Yf m.1 m.2.1.length i l) 0 m.2.1 = b
 constructor
 ·rintro ⟨h1, h2, h3⟩; exact ⟨⟨by omega, by omega⟩, h1⟩
 ·rintro ⟨⟨h1, h2⟩, h5⟩; exact ⟨h5, by omega, by omega⟩
theorem Gt {n : Nat} (h : n ≤ 62) : Xf .i64 1 (n : Int) = ((2 ^ n : Nat) : Int) := by
 unfold Xf
 have h1 : min (jw (n : Int)) (IntKind.bits .i64) = n := by
  show min (jw (n : Int)) 64 = n
  rw [jm]; omega
 rw [h1, Int.one_mul]
 have h2 : (2 : Int) ^ n = ((2 ^ n : Nat) : Int) := by simp
 have h3 : 2 ^ n ≤ 2 ^ 62 := Nat.pow_le_pow_right (by omega) h
 rw [h2]
 clear h1 h2
 generalize 2 ^ n = z at h3
 rw [Kh (by omega) (by omega)]
theorem Qr (m : Ia) (f : Int) (_ : Ni Sa m) (_ : Ni int f) (hz : Ab Sa m ≤ Mc) :
 ∃ b, Ze m f = some (b, ()) ∧ Dd m f = some (b, ()) := by
 unfold Ze Dd
 rw [Tk m hz, Qh m hz]
 simp only [jb, Zf]
 cases hk : Id m with
 | false => exact ⟨false, rfl, rfl⟩
 | true =>
  simp only [yb]
  have hn : 1 ≤ m.2.1.length ∧ m.2.1.length ≤ 4 := by
   simp only [Id, jd, decide_eq_true_eq] at hk
   exact hk.1.2
  rw [Gt (by omega), Ua (show (0 : Int) ≤ (m.2.1.length : Int) by omega)]
  have hp : 1 ≤ 2 ^ m.2.1.length ∧ 2 ^ m.2.1.length ≤ 16 := by
   obtain ⟨h1, h2⟩ := hn
   generalize m.2.1.length = n at *
   have : n = 1 ∨ n = 2 ∨ n = 3 ∨ n = 4 := by omega
   rcases this with rfl | rfl | rfl | rfl <;> decide
  rw [Kh (by omega) (by omega)]
  simp only [yb, Lg, Mg, show ((2 : Int) == 0) = false from rfl, yc]
  refine ⟨_, rfl, ?_⟩
  apply Ib
  simp only [Pb, decide_eq_true_eq, jp, and_false, or_false, Pn]
  omega
structure Lk (m : Ia) : Prop where
 k1 : 1 ≤ m.1
 k2 : m.1 ≤ 32
 l1 : 1 ≤ m.2.1.length
 l2 : m.2.1.length ≤ 4
 row : ∀ i (h : i < m.2.1.length), (m.2.1[i].length : Int) = m.1
 act : ∀ i (h : i < m.2.1.length) k (hk : k < m.2.1[i].length), Pe m.2.1.length i m.2.1[i][k] = true
theorem Yd {m : Ia} (h : Id m = true) : Lk m := by
 simp only [Id, jd, decide_eq_true_eq] at h
 obtain ⟨⟨h1, h2⟩, h3⟩ := h
 rw [Sr] at h3
 refine ⟨h1.1, h1.2, h2.1, h2.2, fun i hi => ?_, fun i hi k hk => ?_⟩
 ·have := h3 i hi
  simp only [jr, Yf, jd, beq_iff_eq] at this
  exact this.1
 ·have := h3 i hi
  simp only [jr, Yf, jd, beq_iff_eq] at this
  have := Sr.1 this.2 k hk
  simpa using this
theorem Co {nl i : Nat} {a : Wa} (h : Pe nl i a = true) : Od a = true := by
 simp only [Pe, jd] at h
 exact h.1.1
theorem Vw {nl i : Nat} {a : Wa} (h : Pe nl i a = true) (hk : a.1 ≠ 9) : a.2.2.2.1 < (nl : Int) := by
 simp only [Pe, jd, qx, Bool.and_eq_false_iff] at h
 rcases h.2 with h | h
 ·simp at h; exact absurd h hk
 ·simpa using h
def Ok (m k : Int) : Int := Hp .i64 (Eu .i64 m k) 1
theorem ZA (m : Int) {k : Int} (h : 0 ≤ k) : Sq m k = some (Ok m k, ()) := by
 unfold Sq
 rw [Ua h]; rfl
def FQ : Wa := (0, 0, 0, 0, ())
def Kf (L : List (List Wa)) (i k : Nat) : Wa := (L.getD i []).getD k FQ
theorem Rl {L : List (List Wa)} {i k : Nat} (hi : i < L.length) (hk : k < L[i].length) : Kf L i k = L[i][k] := by
 simp [Kf, j8, hi, hk]
theorem AD {α : Type} {L : List (List Wa)} {i k : Nat} (hi : i < L.length) (hk : k < L[i].length) (K : Wa → Option α) :
 (jx (Nd L (i : Int)) fun x => jx (Nd x (k : Int)) K) = K (Kf L i k) := by
 rw [Vf hi]
 simp only [jb]
 rw [Vf hk, Rl hi hk]
 rfl
def Zb (L : List (List Wa)) (on : Int) (k : Nat) : Nat → Nat
 | 0 => 0
 | n + 1 => cond ((Ok on ((n + 1 : Nat) : Int) == 1) && ((Kf L (n + 1) k).1 != 1)) (n + 1) (Zb L on k n)
theorem Ds {L : List (List Wa)} {on : Int} {k : Nat} : ∀ n, Zb L on k n ≤ n
 | 0 => jn _
 | n + 1 => by
  simp only [Zb]
  cases ((Ok on ((n + 1 : Nat) : Int) == 1) && ((Kf L (n + 1) k).1 != 1)) with
  | true => exact jn _
  | false => exact Nat.le_succ_of_le (Ds n)
theorem Qo {m : Ia} (hm : Lk m) (on : Int) {k : Nat} (hk : (k : Int) < m.1) : ∀ n : Nat, n < m.2.1.length →
 Sd ((on, (k : Int), (), (n : Int), ()), (m, ())) = some (cond (Zb m.2.1 on k n == 0) (.inl ((), ())) (.inr ((((Zb m.2.1 on k n : Nat) : Int), ()), ())))
 | 0, _ => by
  unfold Sd
  rw [Nl]
  rfl
 | n + 1, h => by
  have hrow := hm.row (n + 1) h
  unfold Sd
  rw [Nl]
  simp only [Vn]
  rw [Ua (show (((n + 1 : Nat) : Int)) > 0 by omega), ZA on (show (0 : Int) ≤ ((n + 1 : Nat) : Int) by omega)]
  simp only [yb, jb]
  rw [AD h (by omega), Kh (by have := hm.l2; omega) (by have := hm.l2; omega), show (((n + 1 : Nat) : Int) - 1) = (n : Int) by omega]
  have ih := Qo hm on hk n (by omega)
  unfold Sd at ih
  simp only [Zb]
  cases h1 : (Ok on ((n + 1 : Nat) : Int) == 1) with
  | false =>
   simp only [Bool.false_and, yc, jb, Sum.elim_inl]
   exact ih
  | true =>
   cases h2 : ((Kf m.2.1 (n + 1) k).1 != 1) with
   | true => rfl
   | false =>
    simp only [Bool.and_false, yb, yc, jb, Sum.elim_inl]
    exact ih
theorem Mv {m : Ia} (hm : Lk m) (on : Int) {k : Nat} (hk : (k : Int) < m.1) :
 Il m on (k : Int) = some (((Zb m.2.1 on k (m.2.1.length - 1) : Nat) : Int), ()) := by
 have h1 := hm.l1
 have h2 := hm.l2
 unfold Il
 rw [Kh (by omega) (by omega), show ((m.2.1.length : Int) - 1) = ((m.2.1.length - 1 : Nat) : Int) by omega, Qo hm on hk _ (by omega)]
 cases h : (Zb m.2.1 on k (m.2.1.length - 1) == 0) with
 | false => rfl
 | true =>
  have h' : Zb m.2.1 on k (m.2.1.length - 1) = 0 := by simpa using h
  rw [h']; rfl
theorem Ap {m : Ia} (hm : Lk m) (on : Int) {k : Nat} (hk : (k : Int) < m.1) : ∀ n : Nat, n < m.2.1.length →
 Td ((on, (k : Int), (), (n : Int), ()), (m, ())) = some (cond (Zb m.2.1 on k n == 0) (.inl ((), ())) (.inr ((((Zb m.2.1 on k n : Nat) : Int), ()), ())))
 | 0, _ => by
  unfold Td
  rw [Nl]
  rfl
 | n + 1, h => by
  have hrow := hm.row (n + 1) h
  unfold Td
  rw [Nl]
  simp only [Jo]
  rw [Ua (show (((n + 1 : Nat) : Int)) > 0 by omega), Ua (show (0 : Int) ≤ ((n + 1 : Nat) : Int) by omega)]
  simp only [yb]
  rw [AD h (by omega), Kh (by have := hm.l2; omega) (by have := hm.l2; omega), show (((n + 1 : Nat) : Int) - 1) = (n : Int) by omega]
  have ih := Ap hm on hk n (by omega)
  unfold Td at ih
  simp only [Zb]
  show jx (cond (Ok on ((n + 1 : Nat) : Int) == 1) _ _) _ = _
  cases h1 : (Ok on ((n + 1 : Nat) : Int) == 1) with
  | false =>
   simp only [Bool.false_and, yc, jb, Sum.elim_inl]
   exact ih
  | true =>
   cases h2 : ((Kf m.2.1 (n + 1) k).1 != 1) with
   | true => rfl
   | false =>
    simp only [Bool.and_false, yb, yc, jb, Sum.elim_inl]
    exact ih
def Ud (m : Ia) (on : Int) (k : Nat) : Nat := Zb m.2.1 on k (m.2.1.length - 1)
theorem Qm {m : Ia} (hm : Lk m) (on : Int) (k : Nat) : Ud m on k < m.2.1.length := by
 have := Ds (L := m.2.1) (on := on) (k := k) (m.2.1.length - 1)
 have := hm.l1
 unfold Ud
 omega
theorem Aw {m : Ia} (hz : Ab Sa m ≤ Mc) (hv : Id m = true) (on : Int) {k : Nat} (hk : (k : Int) < m.1) :
 Ol m on (k : Int) = some (((Ud m on k : Nat) : Int), ()) := by
 have hm := Yd hv
 have h1 := hm.l1
 have h2 := hm.l2
 have h3 := hm.k2
 unfold Ol
 rw [Tk m hz, hv, Kh (n := m.1 - 1) (by omega) (by omega)]
 simp only [jb, jg, yc, Zf]
 rw [Ua (show (0 : Int) ≤ (k : Int) ∧ (k : Int) ≤ m.1 - 1 by omega), Kh (by omega) (by omega), show ((m.2.1.length : Int) - 1) = ((m.2.1.length - 1 : Nat) : Int) by omega, Ap hm on hk _ (by omega)]
 simp only [jg, yc, jb]
 show _ = some (((Zb m.2.1 on k (m.2.1.length - 1) : Nat) : Int), ())
 cases h : (Zb m.2.1 on k (m.2.1.length - 1) == 0) with
 | false => rfl
 | true =>
  have h' : Zb m.2.1 on k (m.2.1.length - 1) = 0 := by simpa using h
  rw [h']; rfl
theorem Pu {m : Ia} (hz : Ab Sa m ≤ Mc) (hv : Id m = true) (on : Int) {k : Nat} (hk : (k : Int) < m.1) :
 Jk m on (k : Int) = some (Kf m.2.1 (Ud m on k) k, ()) := by
 have hm := Yd hv
 have hl := Qm hm on k
 have hrow := hm.row _ hl
 unfold Jk
 rw [Aw hz hv on hk]
 simp only [jb]
 rw [Dc (by omega)]
 simp only [yc]
 rw [AD hl (by omega)]
def Cl (f : Int) (a : Wa) : Int := cond (a.1 == 4) (Ip .i64 f (Xf .i64 1 a.2.2.2.1)) (cond (a.1 == 5) (Ng .i64 (Xf .i64 1 a.2.2.2.1) 1) f)
theorem Vy {nl i : Nat} {a : Wa} (h : Pe nl i a = true) (hk : a.1 = 3 ∨ a.1 = 4 ∨ a.1 = 5 ∨ a.1 = 7) : 0 ≤ a.2.2.2.1 ∧ a.2.2.2.1 < (nl : Int) ∧ a.2.2.2.1 ≤ 3 := by
 have h1 := Co h
 rw [Xa] at h1
 have h2 := Vw h (by rcases hk with hk | hk | hk | hk <;> rw [hk] <;> decide)
 unfold Mb at h1
 omega
theorem Pm {m : Ia} (hm : Lk m) (f : Int) {k : Nat} (hk : (k : Int) < m.1) :
 Pg m f (k : Int) = some (Cl f (Kf m.2.1 (Ud m f k) k), ()) := by
 have hl := Qm hm f k
 have hrow := hm.row _ hl
 have hact := hm.act _ hl k (by omega)
 rw [← Rl hl (by omega)] at hact
 unfold Pg
 rw [Mv hm f hk]
 simp only [jb]
 rw [show Zb m.2.1 f k (m.2.1.length - 1) = Ud m f k from rfl, AD hl (by omega)]
 generalize Kf m.2.1 (Ud m f k) k = a at hact
 unfold Cl
 cases h4 : (a.1 == 4) with
 | true =>
  rw [Ua (Vy hact (.inr (.inl (by simpa using h4)))).1]; rfl
 | false =>
  cases h5 : (a.1 == 5) with
  | true => rw [Ua (Vy hact (.inr (.inr (.inl (by simpa using h5))))).1]; rfl
  | false => rfl
theorem Hv {f : Int} (h0 : 0 ≤ f) (h1 : f < 16) (h2 : f.tmod 2 = 0) : ∀ n : Nat, n < 4 → Ok (Xk .i64 1 f) ((n + 1 : Nat) : Int) = Ok f ((n + 1 : Nat) : Int) := by
 have : f = 0 ∨ f = 1 ∨ f = 2 ∨ f = 3 ∨ f = 4 ∨ f = 5 ∨ f = 6 ∨ f = 7 ∨ f = 8 ∨ f = 9 ∨ f = 10 ∨ f = 11 ∨ f = 12 ∨ f = 13 ∨ f = 14 ∨ f = 15 := by omega
 clear h0 h1 h2
 rcases this with rfl | rfl | rfl | rfl | rfl | rfl | rfl | rfl | rfl | rfl | rfl | rfl | rfl | rfl | rfl | rfl <;> decide
theorem Jp {L : List (List Wa)} {on on' : Int} {k : Nat} : ∀ n : Nat, (∀ j : Nat, j < n → Ok on ((j + 1 : Nat) : Int) = Ok on' ((j + 1 : Nat) : Int)) → Zb L on k n = Zb L on' k n
 | 0, _ => rfl
 | n + 1, h => by
  simp only [Zb]
  rw [h n (by omega), Jp n fun j hj => h j (by omega)]
theorem WA {m : Ia} {f : Int} {b : Bool} (hz : Ab Sa m ≤ Mc) (h : Dd m f = some (b, ())) (hb : b = true) : Id m = true ∧ 0 ≤ f ∧ f < 16 ∧ f.tmod 2 = 0 := by
 unfold Dd at h
 rw [Qh m hz] at h
 cases hk : Id m with
 | false => rw [hk] at h; simp at h; rw [hb] at h; simp at h
 | true =>
  have hm := Yd hk
  rw [hk] at h
  simp only [jb, yb, show ((2 : Int) == 0) = false from rfl, yc] at h
  by_cases h1 : f ≥ 0
  case neg => rw [Dc h1] at h; simp at h; rw [hb] at h; simp at h
  rw [Ua h1] at h
  cases h2 : (f.tmod 2 == 0) with
  | false => rw [h2] at h; simp at h; rw [hb] at h; simp at h
  | true =>
   rw [h2, Ua (show (0 : Int) ≤ (m.2.1.length : Int) by omega), Gt (by have := hm.l2; omega)] at h
   simp only [yb, jc, jh, and_true] at h
   rw [hb, decide_eq_true_eq] at h
   have h3 := hm.l2
   have h4 : 2 ^ m.2.1.length ≤ 2 ^ 4 := Nat.pow_le_pow_right (by omega) h3
   exact ⟨rfl, h1, by omega, by simpa using h2⟩
noncomputable def Jn (a : Wa) : Bool := Od a && ((a.1 == 6) || (a.1 == 7))
noncomputable def Ss (a : Wa) : Wa := cond (Jn a) (2, a.2.1, 0, 0, ()) a

def XK {α β : Type} : α ⊕ β → Bool
 | .inl _ => true
 | .inr _ => false
noncomputable def Ww (s : Int) (x : Ys) : Bool := decide (0 ≤ x.1 ∧ x.1 ≤ 31) && (!(Ok s x.1 == 1) && (Od x.2.1 && (!(x.2.1.1 == 1) && (!(x.2.1.1 == 6) && !(x.2.1.1 == 7)))))
noncomputable def DI (s : Int) (x : Ys) : Int ⊕ Unit := cond (Ww s x) (.inl (Xk .i64 s (Xf .i64 1 x.1))) (.inr ())
noncomputable def FM (l : List Ys) : Int ⊕ Unit := Xy (fun _ s x => DI s x) 0 0 l
noncomputable def SB (l : List Ys) : Bool := XK (FM l)

noncomputable def RB (keys : Int) (nl : Nat) (x : Ys) : Bool := !decide (x.1 ≥ keys) && !((x.2.1.1 != 9) && decide (x.2.1.2.2.2.1 ≥ (nl : Int)))


def Xn {S : Type} (g : Nat → S → S) : Nat → S → S
 | 0, s => s
 | n + 1, s => g n (Xn g n s)
theorem Pt {X R S : Type} {step : X → Option (X ⊕ R)} (n : Nat) (hn : n < 9223372036854775807) (g : Nat → S → S) (s0 : S) (I : S → Int → X) (out : S → R)
 (h : ∀ k, k < n → step (I (Xn g k s0) (k : Int)) = some (.inl (I (g k (Xn g k s0)) (jy .i64 ((k : Int) + 1))))) (he : step (I (Xn g n s0) (n : Int)) = some (.inr (out (Xn g n s0)))) :
 Vb step (I s0 0) = some (out (Xn g n s0)) := by
 have := Wo (step := step) (fun k => I (Xn g k s0) (k : Int)) n (out (Xn g n s0)) (fun k hk => by
  rw [h k hk, Rd (by omega)]; rfl) he
 exact this
theorem GI {e : Ty} {c : Nat} : ∀ {w : List (T e)}, (∀ x ∈ w, Ab e x ≤ c) → Ab (.sl e) w ≤ (c + 1) * w.length
 | [], _ => by simp [Ab]
 | x :: r, h => by
  have h1 := h x (by simp)
  have h2 : Ab (.sl e) r ≤ (c + 1) * r.length := GI fun y hy => h y (by simp [hy])
  have h3 : Ab (.sl e) r = ja r + (ya (Ab e) r).sum := rfl
  have h4 : Ab (.sl e) (x :: r) = (ja r + 1) + (Ab e x + (ya (Ab e) r).sum) := by simp [Ab]
  rw [h4, List.length_cons, Nat.mul_add]
  omega
theorem Ao {n : Nat} (h : n ≤ 1073741824) : jv n Eg = true := Nat.ble_eq_true_of_le h
theorem ZL (a : List Wa) : Ab (.sl Qa) a = a.length := Wu (e := Qa) rfl a

theorem SM : (2 : Nat) ^ 63 = 9223372036854775808 := rfl
theorem AE {a : Nat} (ha : a < 2 ^ 63) : (BitVec.ofInt 64 (a : Int)).toNat = a := by
 rw [BitVec.ofInt_natCast, BitVec.toNat_ofNat, Nat.mod_eq_of_lt (by omega)]
theorem XG {a b : Nat} (ha : a < 2 ^ 63) (hb : b < 2 ^ 63) : Hp .i64 (a : Int) (b : Int) = ((a &&& b : Nat) : Int) := by
 have h : (BitVec.ofInt (IntKind.bits .i64) (a : Int) &&& BitVec.ofInt (IntKind.bits .i64) (b : Int)).toNat = a &&& b := by
  rw [BitVec.toNat_and]; erw [AE ha, AE hb]
 unfold Hp
 rw [h]
 have h2 : a &&& b ≤ a := Nat.and_le_left
 have h3 := SM
 exact Kh (by omega) (by omega)
theorem YG (a : Nat) {k : Nat} (hk : k ≤ 64) : Eu .i64 (a : Int) (k : Int) = ((a >>> k : Nat) : Int) := by
 unfold Eu
 have h1 : min (jw (k : Int)) (IntKind.bits .i64) = k := by
  show min (jw (k : Int)) 64 = k
  rw [jm]; omega
 rw [h1, Nat.shiftRight_eq_div_pow]
 have h2 : (2 : Int) ^ k = ((2 ^ k : Nat) : Int) := by simp
 rw [h2]
 exact (Int.fdiv_eq_ediv_of_nonneg _ (Int.natCast_nonneg _)).trans (by simp)
theorem PG {a k : Nat} (ha : a < 2 ^ 63) (hk : k ≤ 64) : (Ok (a : Int) (k : Int) == 1) = a.testBit k := by
 unfold Ok
 have h1 : a >>> k ≤ a := by rw [Nat.shiftRight_eq_div_pow]; exact Nat.div_le_self _ _
 have h3 := SM
 rw [YG a hk]
 show (Hp .i64 ((a >>> k : Nat) : Int) ((1 : Nat) : Int) == 1) = _
 rw [XG (by omega) (by omega), Nat.and_one_is_mod, Nat.testBit_eq_decide_div_mod_eq, Nat.shiftRight_eq_div_pow]
 have : a / 2 ^ k % 2 = 0 ∨ a / 2 ^ k % 2 = 1 := by omega
 rcases this with h | h <;> rw [h] <;> rfl
def cnt : Nat → Nat → Nat
 | 0, _ => 0
 | k + 1, n => n % 2 + cnt k (n / 2)
def u1 (a : Nat) : Nat := ((a / 2) &&& 85) + (a &&& 85)
def u2 (a : Nat) : Nat := ((a / 4) &&& 51) + (a &&& 51)
def M5 : Nat := 6148914691236517205
def M3 : Nat := 3689348814741910323
def MF : Nat := 1085102592571150095
def s1 (n : Nat) : Nat := (n / 2 &&& M5) + (n &&& M5)
def s2 (n : Nat) : Nat := (n / 4 &&& M3) + (n &&& M3)
def s3 (n : Nat) : Nat := (n / 16 + n) &&& MF








def Pw (c : Int) : Bool := decide (1 ≤ c ∧ c ≤ 36) || ((c == 39) || (c == 42))
def Ps (f o : Int) (c : Bool) (a : Wa) : Int × Int × Bool × Wa :=
 cond (a.1 == 2) (cond (a.2.1 == 0) (f, o, c, a) (f, 0, c && Pw a.2.1, a.1, a.2.1, cond ((c && Pw a.2.1) && (decide (a.2.1 ≤ 26) && (Ng .i64 (Xk .i64 a.2.2.1 o) 2 == 0))) 2 (Xk .i64 a.2.2.1 o), a.2.2.2))
  (cond (a.1 == 4) (Ip .i64 f (Xf .i64 1 a.2.2.2.1), o, c, a) (cond (a.1 == 5) (Ng .i64 (Xf .i64 1 a.2.2.2.1) 1, o, c, a)
   (cond (a.1 == 8) (f, cond (Hp .i64 o a.2.2.1 == a.2.2.1) (Ng .i64 o a.2.2.1) (Xk .i64 o a.2.2.1), c, a) (cond (a.1 == 10) (f, o, !c, a) (f, o, c, a)))))
theorem QI : ∀ f : Fin 16, ∀ n : Fin 4, ∀ l : Fin 5, 1 ≤ n.val → n.val < l.val → f.val < 2 ^ l.val → f.val % 2 = 0 →
 0 ≤ Ip .i64 (f.val : Int) (Xf .i64 1 (n.val : Int)) ∧ Ip .i64 (f.val : Int) (Xf .i64 1 (n.val : Int)) < ((2 ^ l.val : Nat) : Int) ∧ (Ip .i64 (f.val : Int) (Xf .i64 1 (n.val : Int))).tmod 2 = 0 := by decide +kernel
theorem LJ : ∀ n : Fin 4, ∀ l : Fin 5, n.val < l.val →
 0 ≤ Ng .i64 (Xf .i64 1 (n.val : Int)) 1 ∧ Ng .i64 (Xf .i64 1 (n.val : Int)) 1 < ((2 ^ l.val : Nat) : Int) ∧ (Ng .i64 (Xf .i64 1 (n.val : Int)) 1).tmod 2 = 0 := by decide +kernel
theorem YB : ∀ o m : Fin 16, (0 ≤ Ng .i64 (o.val : Int) (m.val : Int) ∧ Ng .i64 (o.val : Int) (m.val : Int) ≤ 15) ∧ (0 ≤ Xk .i64 (o.val : Int) (m.val : Int) ∧ Xk .i64 (o.val : Int) (m.val : Int) ≤ 15) := by decide +kernel
structure Fg (nl : Nat) (f o : Int) : Prop where
 f0 : 0 ≤ f
 f1 : f < ((2 ^ nl : Nat) : Int)
 f2 : f.tmod 2 = 0
 o0 : 0 ≤ o
 o1 : o ≤ 15
structure Gw (nl : Nat) (a : Wa) : Prop where
 act : Od a = true
 n1 : a.1 ≠ 1
 n6 : a.1 ≠ 6
 n7 : a.1 ≠ 7
 n : a.1 ≠ 9 → a.2.2.2.1 < (nl : Int)
theorem XL {a b : Int} (ha : 0 ≤ a ∧ a ≤ 15) (hb : 0 ≤ b ∧ b ≤ 15) : 0 ≤ Xk .i64 a b ∧ Xk .i64 a b ≤ 15 := by
 obtain ⟨n, rfl⟩ := ju ha.1
 obtain ⟨m, rfl⟩ := ju hb.1
 exact (YB ⟨n, by omega⟩ ⟨m, by omega⟩).2
theorem QK {a b : Int} (ha : 0 ≤ a ∧ a ≤ 15) (hb : 0 ≤ b ∧ b ≤ 15) : 0 ≤ Ng .i64 a b ∧ Ng .i64 a b ≤ 15 := by
 obtain ⟨n, rfl⟩ := ju ha.1
 obtain ⟨m, rfl⟩ := ju hb.1
 exact (YB ⟨n, by omega⟩ ⟨m, by omega⟩).1
theorem RO {nl : Nat} (h : nl ≤ 4) : 2 ^ nl ≤ 16 := Nat.pow_le_pow_right (n := 2) (by omega) h
theorem YL {nl : Nat} (hnl : nl ≤ 4) {f o : Int} {c : Bool} {a : Wa} (hs : Fg nl f o) (ha : Gw nl a) :
 Fg nl (Ps f o c a).1 (Ps f o c a).2.1 ∧ Gw nl (Ps f o c a).2.2.2 := by
 have hP := ha.act
 rw [Xa] at hP
 unfold Mb at hP
 have h16 := RO hnl
 obtain ⟨k, code, mods, n, u⟩ := a
 have hn1 := ha.n1; have hn6 := ha.n6; have hn7 := ha.n7; have hnn := ha.n
 simp only at hP hn1 hn6 hn7 hnn
 have hf1 := hs.f1
 unfold Ps
 simp only
 by_cases h2 : k = 2
 ·subst h2
  by_cases h0 : code = 0
  ·subst h0; exact ⟨hs, ha⟩
  ·rw [show ((2 : Int) == 2) = true from rfl, show (code == 0) = false by simp [h0]]
   simp only [yb, yc]
   refine ⟨⟨hs.f0, hs.f1, hs.f2, by decide, by decide⟩, ?_⟩
   have hm := XL (a := mods) (b := o) (by omega) ⟨hs.o0, hs.o1⟩
   refine ⟨?_, hn1, hn6, hn7, hnn⟩
   have hn0 : n = 0 := by omega
   have hcd : 1 ≤ code ∧ code ≤ 56 := by omega
   rw [Xa]
   cases ((c && Pw code) && (decide (code ≤ 26) && (Ng .i64 (Xk .i64 mods o) 2 == 0))) with
   | true => exact .inr (.inl ⟨rfl, hn0, .inr hcd, .inr ⟨by show (1 : Int) ≤ 2; decide, by show (2 : Int) ≤ 15; decide⟩, .inl (by show code ≠ 0; omega)⟩)
   | false =>
    refine .inr (.inl ⟨rfl, hn0, .inr hcd, ?_, .inl (by show code ≠ 0; omega)⟩)
    show Xk .i64 mods o = 0 ∨ 1 ≤ Xk .i64 mods o ∧ Xk .i64 mods o ≤ 15
    omega
 ·rw [show (k == 2) = false by simp [h2]]
  simp only [yc]
  by_cases h4 : k = 4
  ·subst h4
   have hr : 1 ≤ n ∧ n ≤ 3 := by omega
   have hlt := hnn (by omega)
   obtain ⟨fn, hfn⟩ := ju hs.f0
   obtain ⟨nn, hnn'⟩ := ju (show 0 ≤ n by omega)
   have hf2 := hs.f2
   rw [hfn] at hf1 hf2
   have hfl : fn < 2 ^ nl := Int.ofNat_lt.1 hf1
   have := QI ⟨fn, by omega⟩ ⟨nn, by omega⟩ ⟨nl, by omega⟩ (by show 1 ≤ nn; omega) (by show nn < nl; omega) hfl (by
    rw [Int.tmod_eq_emod_of_nonneg (by omega)] at hf2; show fn % 2 = 0; omega)
   simp only [show ((4 : Int) == 4) = true from rfl, yb]
   rw [hfn, hnn']
   exact ⟨⟨this.1, this.2.1, this.2.2, hs.o0, hs.o1⟩, by rw [← hnn']; exact ha⟩
  ·rw [show (k == 4) = false by simp [h4]]
   simp only [yc]
   by_cases h5 : k = 5
   ·subst h5
    have hr : 0 ≤ n ∧ n ≤ 3 := by omega
    have hlt := hnn (by omega)
    obtain ⟨nn, hnn'⟩ := ju (show 0 ≤ n by omega)
    have := LJ ⟨nn, by omega⟩ ⟨nl, by omega⟩ (by show nn < nl; omega)
    simp only [show ((5 : Int) == 5) = true from rfl, yb]
    rw [hnn']
    exact ⟨⟨this.1, this.2.1, this.2.2, hs.o0, hs.o1⟩, by rw [← hnn']; exact ha⟩
   ·rw [show (k == 5) = false by simp [h5]]
    simp only [yc]
    by_cases h8 : k = 8
    ·subst h8
     have hm : 0 ≤ mods ∧ mods ≤ 15 := by omega
     simp only [show ((8 : Int) == 8) = true from rfl, yb]
     cases Hp .i64 o mods == mods with
     | true => have := QK ⟨hs.o0, hs.o1⟩ hm; exact ⟨⟨hs.f0, hs.f1, hs.f2, this.1, this.2⟩, ha⟩
     | false => have := XL ⟨hs.o0, hs.o1⟩ hm; exact ⟨⟨hs.f0, hs.f1, hs.f2, this.1, this.2⟩, ha⟩
    ·rw [show (k == 8) = false by simp [h8]]
     simp only [yc]
     cases k == 10 <;> exact ⟨hs, ha⟩
theorem GF {m : Ia} (hm : Lk m) (on : Int) {k : Nat} (hk : (k : Int) < m.1) : Pe m.2.1.length (Ud m on k) (Kf m.2.1 (Ud m on k) k) = true ∧ (Kf m.2.1 (Ud m on k) k).1 ≠ 1 := by
 have hl := Qm hm on k
 have hrow := hm.row _ hl
 have hk' : k < m.2.1[Ud m on k].length := by omega
 have hact := hm.act _ hl k hk'
 rw [Rl hl hk']
 refine ⟨hact, ?_⟩
 have key : ∀ n, Zb m.2.1 on k n = 0 ∨ (Kf m.2.1 (Zb m.2.1 on k n) k).1 ≠ 1 := by
  intro n
  induction n with
  | zero => exact .inl rfl
  | succ n ih =>
   simp only [Zb]
   cases hc : ((Ok on ((n + 1 : Nat) : Int) == 1) && ((Kf m.2.1 (n + 1) k).1 != 1)) with
   | true =>
    simp only [jd, bne_iff_ne] at hc
    exact .inr hc.2
   | false => exact ih
 rcases key (m.2.1.length - 1) with h0 | h1
 ·have h0' : Ud m on k = 0 := h0
  intro h1
  simp only [Pe, jd, qx, Bool.and_eq_false_iff, beq_eq_false_iff_ne] at hact
  rcases hact.1.2 with h2 | h2
  ·exact h2 (by rw [h0']; rfl)
  ·exact h2 h1
 ·have e : Kf m.2.1 (Zb m.2.1 on k (m.2.1.length - 1)) k = m.2.1[Ud m on k][k] := Rl hl hk'
  rw [e] at h1
  exact h1
theorem JJ {nl i : Nat} {a : Wa} (h : Pe nl i a = true) (h1 : a.1 ≠ 1) : Gw nl (Ss a) := by
 have ha := Co h
 have hP := ha
 rw [Xa] at hP
 unfold Mb at hP
 unfold Ss Jn
 rw [ha]
 by_cases h67 : a.1 = 6 ∨ a.1 = 7
 ·have e : (true && ((a.1 == 6) || (a.1 == 7))) = true := by rcases h67 with h | h <;> rw [h] <;> rfl
  rw [e]
  simp only [yb]
  refine ⟨?_, by show (2 : Int) ≠ 1; decide, by show (2 : Int) ≠ 6; decide, by show (2 : Int) ≠ 7; decide, fun _ => ?_⟩
  ·rw [Xa]
   exact .inr (.inl ⟨rfl, rfl, .inr (by show 1 ≤ a.2.1 ∧ a.2.1 ≤ 56; omega), .inl rfl, .inl (by show a.2.1 ≠ 0; omega)⟩)
  ·show (0 : Int) < (nl : Int)
   have := Vw h (by omega)
   omega
 ·have e : (true && ((a.1 == 6) || (a.1 == 7))) = false := by
   rw [ji, Bool.or_eq_false_iff, beq_eq_false_iff_ne, beq_eq_false_iff_ne]; omega
  rw [e]
  exact ⟨ha, h1, fun h => h67 (.inl h), fun h => h67 (.inr h), fun hk => Vw h hk⟩
theorem RI {nl : Nat} {k : Nat} (hk : k ≤ 31) {a : Wa} (ha : Gw nl a) : SB [((k : Int), a, ())] = true := by
 have e : Ww 0 ((k : Int), a, ()) = true := by
  simp only [Ww, ha.act, ji]
  rw [Ua (show 0 ≤ (k : Int) ∧ (k : Int) ≤ 31 by omega)]
  have hb : (Ok 0 (k : Int) == 1) = false := by
   have := PG (a := 0) (k := k) (by decide) (by omega)
   rw [Nat.zero_testBit] at this
   exact this
  rw [hb]
  simp [ha.n1, ha.n6, ha.n7]
 show XK (Xy _ 0 0 [_]) = true
 simp only [Xy, DI, e, yb, XK]
noncomputable def MG (m : Ia) (f : Int) (k : Nat) : Wa := Ss (Kf m.2.1 (Ud m (Xk .i64 1 f) k) k)
noncomputable def Vx (m : Ia) (f o : Int) (c : Bool) (k : Nat) : Int × Int × Bool × Wa := Ps f o c (MG m f k)
noncomputable def hK (m : Ia) (f o : Int) (c : Bool) (k : Nat) : List Ys := [((k : Int), (Vx m f o c k).2.2.2, ())]
structure Ag (m : Ia) : Prop where
 v : Id m = true
 z : Ab Sa m ≤ Mc - 10
theorem VI {m : Ia} (hM : Ag m) {f o : Int} {c : Bool} (hs : Fg m.2.1.length f o) {k : Nat} (hk : (k : Int) < m.1) :
 Gw m.2.1.length (MG m f k) ∧ Fg m.2.1.length (Vx m f o c k).1 (Vx m f o c k).2.1 ∧ Gw m.2.1.length (Vx m f o c k).2.2.2 ∧ SB (hK m f o c k) = true ∧
  (∀ x ∈ hK m f o c k, RB m.1 m.2.1.length x = true) := by
 have hm := Yd hM.v
 have h1 := GF hm (Xk .i64 1 f) hk
 have h2 := JJ h1.1 h1.2
 have h3 := YL (c := c) hm.l2 hs h2
 refine ⟨h2, h3.1, h3.2, RI (by have := hm.k2; omega) h3.2, fun x hx => ?_⟩
 simp only [hK, jo, List.not_mem_nil, or_false] at hx
 subst hx
 simp only [RB, jd, qx, Bool.and_eq_false_iff, decide_eq_false_iff_not]
 refine ⟨by omega, ?_⟩
 by_cases h9 : (Vx m f o c k).2.2.2.1 = 9
 ·exact .inl (by show ((Vx m f o c k).2.2.2.1 != 9) = false; simp [h9])
 ·exact .inr (Int.not_le.2 (h3.2.n h9))
theorem Rv {m : Ia} (hv : Id m = true) : Ag m := by
 have hm := Yd hv
 refine ⟨hv, ?_⟩
 have h20 : Mc = 1048576 := rfl
 have h1 : Ab Sa m = 0 + (Ab (.sl (.sl Qa)) m.2.1 + 0) := rfl
 have h2 : Ab (.sl (.sl Qa)) m.2.1 ≤ (32 + 1) * ja m.2.1 := GI (e := .sl Qa) (c := 32) fun x hx => by
  obtain ⟨i, hi, rfl⟩ := List.getElem_of_mem hx
  rw [ZL]
  have := hm.row i hi
  have := hm.k2
  omega
 have := hm.l2
 omega


theorem Aa {n m : Nat} (h : n ≤ 1000) (hm : m ≤ 10) : jv (n + m) Eg = true := Nat.ble_eq_true_of_le (by rw [AA]; omega)


theorem CA : ∀ (n : Nat) (l : List Nat), l.Nodup → (∀ x ∈ l, x < n) → l.length ≤ n
 | 0, l, _, h => by
  cases l with
  | nil => exact jn _
  | cons x l => exact absurd (h x (List.mem_cons_self ..)) (Nat.not_lt_zero _)
 | n + 1, l, hn, h => by
  have := CA n (l.erase n) (hn.erase n) (fun x hx => by
   have h1 := (hn.mem_erase_iff).1 hx
   have := h x h1.2
   have := h1.1
   omega)
  have h2 := List.length_erase (a := n) (l := l)
  split at h2 <;> omega
abbrev Ld := List (Int × List Int)
theorem Bo {α : Type} : ∀ {W : List (Int × α)} {x : Int} {w : α}, Hb W x = some w → (x, w) ∈ W
 | [], x, w, h => by simp [Hb] at h
 | (k, y) :: r, x, w, h => by
  simp only [Hb] at h
  cases hk : x == k with
  | true => rw [hk] at h; simp at h hk; subst h; subst hk; simp
  | false => rw [hk] at h; exact jq _ (Bo h)
theorem Ox {α : Type} : ∀ {W : List (Int × α)} {x : Int}, Hb W x = none ↔ ∀ e ∈ W, e.1 ≠ x
 | [], x => by simp [Hb]
 | (k, y) :: r, x => by
  simp only [Hb]
  cases hk : x == k with
  | true => simp at hk; subst hk; simp
  | false =>
   simp at hk
   simp only [yc, Ox (W := r), List.forall_mem_cons]
   exact ⟨fun h => ⟨fun e => hk e.symm, h⟩, fun h => h.2⟩
theorem WB {α : Type} : ∀ {W : List (Int × α)} {x : Int} {w : α}, (W.map Prod.fst).Nodup → (x, w) ∈ W → Hb W x = some w
 | [], x, w, _, h => by simp at h
 | (k, y) :: r, x, w, hn, h => by
  simp only [qw, qy] at hn
  simp only [Hb]
  rcases jo.1 h with h | h
  ·simp only [jh] at h
   rw [h.1, h.2]; simp
  ·have : x ≠ k := fun e => hn.1 (j9.2 ⟨(x, w), h, e⟩)
   rw [show (x == k) = false by simpa using this]
   exact WB hn.2 h
section
variable (nx : Int → Nat → Int) (K : Nat) (fr : Int) (P : Int → Prop)
def Fp (x : Int) (w : List Int) (k : Nat) (W : Ld) : Ld := cond (Hb W (nx x k)).isSome W (W ++ [(nx x k, w ++ [(k : Int)])])
def Ch (x : Int) (w : List Int) (n : Nat) (W : Ld) : Ld := Xn (Fp nx x w) n W
def Tp : Nat → Nat → Ld → Ld
 | 0, _, W => W
 | n + 1, i, W => match W[i]? with
  | none => W
  | some e => Tp n (i + 1) (Ch nx e.1 e.2 K W)
def Yy (f : Int) (w : List Int) : Int := w.foldl (fun f k => nx f k.toNat) f
structure BIn (W : Ld) : Prop where
 fst : W[0]? = some (fr, [])
 nd : (W.map Prod.fst).Nodup
 ok : ∀ e ∈ W, P e.1
 way : ∀ e ∈ W, Yy nx fr e.2 = e.1 ∧ ∀ k ∈ e.2, 0 ≤ k ∧ k < (K : Int)
 srt : ∀ (i j : Nat) (hj : j < W.length) (hi : i ≤ j), (W[i]'(by omega)).2.length ≤ W[j].2.length
 ln : ∀ (j : Nat) (hj : j < W.length), W[j].2.length ≤ j
structure Zu (i k : Nat) (W : Ld) : Prop extends BIn nx K fr P W where
 lvl : ∀ (h : i < W.length) (j : Nat) (hj : j < W.length), W[j].2.length ≤ W[i].2.length + 1
 cls : ∀ (j : Nat) (hj : j < W.length) (k' : Nat), j < i ∧ k' < K ∨ j = i ∧ k' < k → ∃ (q : Nat) (hq : q < W.length), W[q].1 = nx W[j].1 k' ∧ W[q].2.length ≤ W[j].2.length + 1
end
section
variable {nx : Int → Nat → Int} {K : Nat} {fr : Int} {P : Int → Prop}
theorem YC (f : Int) (w : List Int) (k : Nat) : Yy nx f (w ++ [(k : Int)]) = nx (Yy nx f w) k := by simp [Yy]
theorem PK (hP : ∀ x k, P x → k < K → P (nx x k)) {i k : Nat} {W : Ld} (h : Zu nx K fr P i k W) (hi : i < W.length) (hk : k < K) : Zu nx K fr P i (k + 1) (Fp nx W[i].1 W[i].2 k W) ∧ W <+: Fp nx W[i].1 W[i].2 k W := by
 unfold Fp
 cases hg : Hb W (nx W[i].1 k) with
 | some w =>
  simp only [Option.isSome_some, yb]
  refine ⟨{ toBIn := h.toBIn, lvl := h.lvl, cls := fun j hj k' hjk => ?_ }, List.prefix_refl _⟩
  by_cases hlast : j = i ∧ k' = k
  ·obtain ⟨rfl, rfl⟩ := hlast
   obtain ⟨q, hq, he⟩ := List.getElem_of_mem (Bo hg)
   refine ⟨q, hq, by rw [he], ?_⟩
   exact h.lvl hj q hq
  ·exact h.cls j hj k' (by omega)
 | none =>
  simp only [Option.isSome_none, yc]
  have hlen : (W ++ [(nx W[i].1 k, W[i].2 ++ [(k : Int)])]).length = W.length + 1 := by simp
  have hget : ∀ (j : Nat) (hj : j < W.length), (W ++ [(nx W[i].1 k, W[i].2 ++ [(k : Int)])])[j]'(by omega) = W[j] := fun j hj => List.getElem_append_left hj
  have hnew : (W ++ [(nx W[i].1 k, W[i].2 ++ [(k : Int)])])[W.length]'(by omega) = (nx W[i].1 k, W[i].2 ++ [(k : Int)]) := by simp
  have hcase : ∀ j : Nat, j < (W ++ [(nx W[i].1 k, W[i].2 ++ [(k : Int)])]).length → j < W.length ∨ j = W.length := fun j hj => by omega
  have hw := h.way W[i] (List.getElem_mem hi)
  refine ⟨{ fst := ?_, nd := ?_, ok := ?_, way := ?_, srt := ?_, ln := ?_, lvl := ?_, cls := ?_ }, List.prefix_append _ _⟩
  ·have h0 := h.fst
   rw [List.getElem?_append_left (by omega)]
   exact h0
  ·rw [List.map_append, qz]
   refine ⟨h.nd, by simp, ?_⟩
   intro a ha b hb
   simp only [qw, List.map_nil, j6] at hb
   subst hb
   obtain ⟨e, he, rfl⟩ := j9.1 ha
   exact Ox.1 hg e he
  ·intro e he
   rcases jk.1 he with he | he
   ·exact h.ok e he
   ·simp only [j6] at he
    subst he
    exact hP _ _ (h.ok _ (List.getElem_mem hi)) hk
  ·intro e he
   rcases jk.1 he with he | he
   ·exact h.way e he
   ·simp only [j6] at he
    subst he
    refine ⟨by rw [YC, hw.1], fun q hq => ?_⟩
    rcases jk.1 hq with hq | hq
    ·exact hw.2 q hq
    ·simp only [j6] at hq
     subst hq
     omega
  ·intro a b hb hab
   rcases hcase b hb with hb' | rfl
   ·rw [hget a (by omega), hget b hb']
    exact h.srt a b hb' hab
   ·rcases hcase a (by omega) with ha | rfl
    ·rw [hget a ha, hnew]
     have := h.lvl hi a ha
     simpa using this
    ·exact jn _
  ·intro j hj
   rcases hcase j hj with hj' | rfl
   ·rw [hget j hj']; exact h.ln j hj'
   ·rw [hnew]
    have := h.ln i hi
    simp
    omega
  ·intro _ j hj
   rw [hget i hi]
   rcases hcase j hj with hj' | rfl
   ·rw [hget j hj']; exact h.lvl hi j hj'
   ·rw [hnew]; simp
  ·intro j hj k' hjk
   have hj' : j < W.length := by omega
   rw [hget j hj']
   by_cases hlast : j = i ∧ k' = k
   ·obtain ⟨rfl, rfl⟩ := hlast
    exact ⟨W.length, by omega, by rw [hnew], by rw [hnew]; simp⟩
   ·obtain ⟨q, hq, h1, h2⟩ := h.cls j hj' k' (by omega)
    exact ⟨q, by omega, by rw [hget q hq]; exact h1, by rw [hget q hq]; exact h2⟩
theorem Wp (hP : ∀ x k, P x → k < K → P (nx x k)) {i : Nat} {W : Ld} (h : Zu nx K fr P i 0 W) (hi : i < W.length) : ∀ n, n ≤ K → Zu nx K fr P i n (Ch nx W[i].1 W[i].2 n W) ∧ W <+: Ch nx W[i].1 W[i].2 n W
 | 0, _ => ⟨h, List.prefix_refl _⟩
 | n + 1, hn => by
  obtain ⟨h1, h2⟩ := Wp hP h hi n (by omega)
  have hi' : i < (Ch nx W[i].1 W[i].2 n W).length := Nat.lt_of_lt_of_le hi h2.length_le
  have he : (Ch nx W[i].1 W[i].2 n W)[i] = W[i] := by
   obtain ⟨t, ht⟩ := h2
   have : (W ++ t)[i]? = some W[i] := by rw [List.getElem?_append_left hi, je hi]
   rw [ht, je hi'] at this
   exact q9 this
  obtain ⟨g1, g2⟩ := PK hP h1 hi' (by omega)
  rw [he] at g1 g2
  exact ⟨g1, h2.trans g2⟩
theorem Tw {i : Nat} {W : Ld} (h : Zu nx K fr P i K W) (hi : i < W.length) : Zu nx K fr P (i + 1) 0 W where
 toBIn := h.toBIn
 lvl := fun h1 j hj => by
  have := h.lvl hi j hj
  have := h.srt i (i + 1) h1 (by omega)
  omega
 cls := fun j hj k' hjk => h.cls j hj k' (by omega)
structure NJ (nx : Int → Nat → Int) (K : Nat) (fr : Int) (P : Int → Prop) (W : Ld) : Prop extends BIn nx K fr P W where
 len : W.length ≤ 16
 cls : ∀ e ∈ W, ∀ k, k < K → ∃ e' ∈ W, e'.1 = nx e.1 k ∧ e'.2.length ≤ e.2.length + 1
theorem Ul (hB : ∀ x, P x → 0 ≤ x ∧ x < 16) {W : Ld} (h : BIn nx K fr P W) : W.length ≤ 16 := by
 have hn : (W.map fun e => e.1.toNat).Nodup := by
  have := h.nd
  rw [List.Nodup, List.pairwise_map] at this ⊢
  refine (List.Pairwise.and_mem.1 this).imp ?_
  rintro x y ⟨hx, hy, hxy⟩ he
  have h1 := hB _ (h.ok x hx); have h2 := hB _ (h.ok y hy)
  omega
 have := CA 16 _ hn (by
  intro y hy
  obtain ⟨x, hx, rfl⟩ := j9.1 hy
  have := hB _ (h.ok x hx)
  omega)
 simpa using this
theorem ZD (hB : ∀ x, P x → 0 ≤ x ∧ x < 16) (hP : ∀ x k, P x → k < K → P (nx x k)) : ∀ (n i : Nat) (W : Ld), Zu nx K fr P i 0 W → 17 ≤ n + i → NJ nx K fr P (Tp nx K n i W)
 | 0, i, W, h, hn => by
  have hl := Ul hB h.toBIn
  refine { toBIn := h.toBIn, len := hl, cls := fun e he k hk => ?_ }
  obtain ⟨j, hj, rfl⟩ := List.getElem_of_mem (l := W) he
  obtain ⟨q, hq, h1, h2⟩ := h.cls j hj k (.inl ⟨by omega, hk⟩)
  exact ⟨_, List.getElem_mem hq, h1, h2⟩
 | n + 1, i, W, h, hn => by
  simp only [Tp]
  by_cases hi : i < W.length
  ·rw [je hi]
   obtain ⟨h1, h2⟩ := Wp hP h hi K (jn _)
   exact ZD hB hP n (i + 1) _ (Tw h1 (Nat.lt_of_lt_of_le hi h2.length_le)) (by omega)
  ·rw [qf (by omega)]
   have hl := Ul hB h.toBIn
   refine { toBIn := h.toBIn, len := hl, cls := fun e he k hk => ?_ }
   obtain ⟨j, hj, rfl⟩ := List.getElem_of_mem (l := W) he
   obtain ⟨q, hq, g1, g2⟩ := h.cls j hj k (.inl ⟨by omega, hk⟩)
   exact ⟨_, List.getElem_mem hq, g1, g2⟩
theorem Vu (h : P fr) : Zu nx K fr P 0 0 [(fr, [])] where
 fst := rfl
 nd := by simp
 ok := fun e he => by simp at he; subst he; exact h
 way := fun e he => by simp at he; subst he; exact ⟨rfl, by simp⟩
 srt := fun i j hj hi => by
  have : j = 0 := by simpa using hj
  have : i = 0 := by omega
  subst i; subst j; exact jn _
 ln := fun j hj => by
  have : j = 0 := by simpa using hj
  subst j; simp
 lvl := fun _ j hj => by
  have : j = 0 := by simpa using hj
  subst j; simp
 cls := fun j hj k' h => by omega
end
def Te (m : Ia) (f : Int) (k : Nat) : Int := Cl f (Kf m.2.1 (Ud m f k) k)
theorem RF (f o : Int) (c : Bool) (a : Wa) (ha : Od a = true) : (Ps f o c (Ss a)).1 = Cl f a := by
 have h0 : ∀ b : Wa, (Ps f o c b).1 = Cl f b := fun b => by
  unfold Ps Cl
  by_cases h2 : b.1 = 2
  ·simp only [h2, Int.reduceBEq, yb, yc]
   cases b.2.1 == 0 <;> simp only [yb, yc]
  ·simp only [show (b.1 == 2) = false by simpa using h2, yc]
   generalize Ip .i64 f (Xf .i64 1 b.2.2.2.1) = X
   generalize Ng .i64 (Xf .i64 1 b.2.2.2.1) 1 = Y
   cases b.1 == 4 with
   | true => simp only [yb]
   | false =>
    simp only [yc]
    cases b.1 == 5 with
    | true => simp only [yb]
    | false =>
     simp only [yc]
     cases b.1 == 8 with
     | true => simp only [yb]
     | false =>
      simp only [yc]
      cases b.1 == 10 <;> simp only [yb, yc]
 rw [h0]
 unfold Ss
 cases ht : Jn a with
 | false => rfl
 | true =>
  unfold Jn at ht
  simp only [jd, Bool.or_eq_true, beq_iff_eq] at ht
  rw [yb]
  unfold Cl
  rcases ht.2 with h | h <;> simp only [h, Int.reduceBEq, yc]
theorem RL {m : Ia} (hM : Ag m) {f o : Int} (hs : Fg m.2.1.length f o) (c : Bool) {k : Nat} (hk : (k : Int) < m.1) : (Vx m f o c k).1 = Te m f k := by
 have hm := Yd hM.v
 have hl2 := hm.l2
 have hf1 := hs.f1
 have hp : 2 ^ m.2.1.length ≤ 2 ^ 4 := Nat.pow_le_pow_right (by omega) hl2
 have hsame : Ud m (Xk .i64 1 f) k = Ud m f k := Jp _ fun j hj => Hv hs.f0 (by omega) hs.f2 j (by omega)
 have hl := Qm hm f k
 have hrow := hm.row _ hl
 have hact := hm.act _ hl k (by omega)
 rw [← Rl hl (by omega)] at hact
 unfold Vx MG Te
 rw [hsame]
 exact RF f o c _ (Co hact)
theorem HM {m : Ia} (hM : Ag m) {f : Int} {k : Nat} (hs : Fg m.2.1.length f 0) (hk : (k : Int) < m.1) : Fg m.2.1.length (Te m f k) 0 := by
 have h1 := (VI (c := false) hM hs hk).2.1
 rw [RL hM hs false hk] at h1
 exact ⟨h1.f0, h1.f1, h1.f2, by omega, by omega⟩
theorem Pl {m : Ia} (hM : Ag m) {x : Int} (hs : Fg m.2.1.length x 0) : 0 ≤ x ∧ x < 16 := by
 have hl2 := (Yd hM.v).l2
 have hf1 := hs.f1
 have hp : 2 ^ m.2.1.length ≤ 2 ^ 4 := Nat.pow_le_pow_right (by omega) hl2
 exact ⟨hs.f0, by omega⟩
def Pd (m : Ia) : Nat := m.1.toNat
def Km (m : Ia) (fr : Int) : Ld := Tp (Te m) (Pd m) 17 0 [(fr, [])]
abbrev BT (m : Ia) (fr : Int) := Zu (Te m) (Pd m) fr (fun x => Fg m.2.1.length x 0)
theorem Hu {m : Ia} (hM : Ag m) : (Pd m : Int) = m.1 ∧ Pd m ≤ 32 := by
 have hm := Yd hM.v
 have := hm.k1
 have := hm.k2
 unfold Pd
 omega
theorem QB {m : Ia} (hM : Ag m) : ∀ x k, Fg m.2.1.length x 0 → k < Pd m → Fg m.2.1.length (Te m x k) 0 := fun x k hx hk => HM hM hx (by have := Hu hM; omega)
theorem PA {m : Ia} (hM : Ag m) {fr : Int} (h : Fg m.2.1.length fr 0) : NJ (Te m) (Pd m) fr (fun x => Fg m.2.1.length x 0) (Km m fr) :=
 ZD (fun x hx => Pl hM hx) (QB hM) 17 0 _ (Vu h) (by omega)
theorem RK {m : Ia} {fr : Int} {W W' : Ld} {i k : Nat} (h : BT m fr i k W') (hi : i < W.length) (hp : W <+: W') : Hb W' W[i].1 = some W[i].2 :=
 WB h.nd (hp.subset (List.getElem_mem hi))
theorem MB {m : Ia} (hM : Ag m) {fr : Int} {i k : Nat} {W : Ld} (h : BT m fr i k W) {x : Int} {w : List Int} (hx : Hb W x = some w) : w.length ≤ 16 := by
 obtain ⟨j, hj, he⟩ := List.getElem_of_mem (Bo hx)
 have h1 := h.ln j hj
 rw [he] at h1
 have := Ul (fun x hx => Pl hM hx) h.toBIn
 simp only at h1
 omega
def Ee (i : Nat) (W : Ld) : List Int := (W.map Prod.fst).drop i
theorem XF {i : Nat} {W : Ld} (x : Int) (w : List Int) (h : i ≤ W.length) : Ee i (W ++ [(x, w)]) = Ee i W ++ [x] := by
 unfold Ee
 rw [List.map_append, List.drop_append_of_le_length (by simpa using h)]
 rfl
theorem Yu (i : Nat) (W : Ld) : (Ee i W).length = W.length - i := by simp [Ee]
theorem Lv {l : List Int} (h : l.length ≤ 1000) : Ck l = some (l, ()) := by
 unfold Ck
 rw [Ao (by simp; omega)]
 rfl
theorem Vz {m : Ia} (hM : Ag m) {fr : Int} {i : Nat} {W : Ld} (h : BT m fr i 0 W) (hi : i < W.length) :
 Rh (((), W, Ee (i + 1) W, W[i].1, m.1, (0 : Int), ()), (m, ())) = some (.inl (((), Ch (Te m) W[i].1 W[i].2 (Pd m) W, Ee (i + 1) (Ch (Te m) W[i].1 W[i].2 (Pd m) W), ()), (m, ()))) := by
 have hm := Yd hM.v
 obtain ⟨k1, k2⟩ := Hu hM
 have hl := Pt (step := fun x : (Unit × Ld × List Int × Int × Int × Int × Unit) × Ia × Unit => Dk x.1.1 x.1.2.1 x.1.2.2.1 x.1.2.2.2.1 x.1.2.2.2.2.1 x.1.2.2.2.2.2.1 x.2.1) (Pd m) (by omega)
  (Fp (Te m) W[i].1 W[i].2) W (fun W' k => (((), W', Ee (i + 1) W', W[i].1, m.1, k, ()), (m, ()))) (fun W' => .inl (((), W', Ee (i + 1) W', ()), (m, ()))) (by
   intro k hk
   obtain ⟨g1, g2⟩ := Wp (QB hM) h hi k (by omega)
   have hgt := RK g1 hi g2
   have hln := MB hM g1 hgt
   have hlen := Ul (fun x hx => Pl hM hx) g1.toBIn
   have hle := g2.length_le
   have htl := Yu (i + 1) (Ch (Te m) W[i].1 W[i].2 k W)
   have hit : Xn (Fp (Te m) W[i].1 W[i].2) k W = Ch (Te m) W[i].1 W[i].2 k W := rfl
   rw [hit]
   generalize hW' : Ch (Te m) W[i].1 W[i].2 k W = W' at hgt hlen hle htl g1
   simp only [Dk]
   rw [Ua (by omega), Pm hm W[i].1 (by omega)]
   simp only [yb, jb]
   rw [show Cl W[i].1 (Kf m.2.1 (Ud m W[i].1 k) k) = Te m W[i].1 k from rfl]
   unfold Fp
   cases hg : Hb W' (Te m W[i].1 k) with
   | some w => rfl
   | none =>
    simp only [Option.isSome_none, Bool.not_false, yb, yc]
    rw [hgt]
    simp only [qj]
    rw [Lv (by omega)]
    simp only [jb]
    rw [Ao (by simp; omega), Ao (by rw [htl]; simp; omega), XF _ _ (by omega)]
    simp only [Option.isNone_none, yb]
    rfl) (by
   simp only [Dk]
   rw [Dc (by omega)]; rfl)
 unfold Rh
 exact hl
theorem VF {i : Nat} {W : Ld} (h : i < W.length) : Ee i W = W[i].1 :: Ee (i + 1) W := by
 unfold Ee
 rw [List.drop_eq_getElem_cons (by simpa using h)]
 simp
theorem Ir {m : Ia} (hM : Ag m) {fr : Int} : ∀ (n i : Nat) (W : Ld), BT m fr i 0 W → 17 ≤ n + i →
 Wf (((), W, Ee i W, ()), (m, ())) = some (.inl ((Tp (Te m) (Pd m) n i W, ()), ()))
 | n, i, W, h, hn => by
  have hlen := Ul (fun x hx => Pl hM hx) h.toBIn
  by_cases hi : i < W.length
  ·obtain ⟨n', rfl⟩ : ∃ n', n = n' + 1 := ⟨n - 1, by omega⟩
   obtain ⟨h1, h2⟩ := Wp (QB hM) h hi (Pd m) (jn _)
   have ih := Ir hM n' (i + 1) _ (Tw h1 (Nat.lt_of_lt_of_le hi h2.length_le)) (by omega)
   unfold Wf at ih ⊢
   rw [Tp, je hi]
   simp only
   refine (Je (z := some (Sum.inl (((), Ch (Te m) W[i].1 W[i].2 (Pd m) W, Ee (i + 1) (Ch (Te m) W[i].1 W[i].2 (Pd m) W), ()), (m, ())))) ?_).trans ih
   have htl := Yu i W
   have hcons := VF hi
   have hl1 : (Ee i W).length = (Ee (i + 1) W).length + 1 := by rw [hcons]; simp
   simp only [Bn]
   rw [Ua (by omega), show Dg (Ee i W).length 0 = true by rw [show (0 : Int) = ((0 : Nat) : Int) from rfl, Ig]; simp; omega]
   simp only [yb]
   rw [show (Ee i W)[jw 0]? = some W[i].1 by rw [hcons]; rfl]
   simp only [jb]
   rw [show Af (Ee i W).length 1 (((Ee i W).length : Nat) : Int) = true from DE (lo := 1) (by omega) (jn _)]
   simp only [yb, jb]
   rw [show Fe (Ee i W) (jw 1) (jw (((Ee i W).length : Nat) : Int)) = Ee (i + 1) W by
    rw [jm, show jw 1 = 1 from rfl, hcons]
    unfold Fe
    rw [List.take_length]; rfl]
   rw [Vz hM h hi]
   rfl
  ·have hb : Tp (Te m) (Pd m) n i W = W := by
    cases n with
    | zero => rfl
    | succ n => rw [Tp, qf (by omega)]
   rw [hb]
   unfold Wf
   refine (Je (z := some (Sum.inr (.inl ((W, ()), ())))) ?_).trans rfl
   have htl := Yu i W
   simp only [Bn]
   rw [Dc (by omega)]; rfl
theorem Wz {m : Ia} (hM : Ag m) {fr : Int} (h : Fg m.2.1.length fr 0) : Ro m fr = some (Km m fr, ()) := by
 have := Ir hM 17 0 [(fr, [])] (Vu h) (by omega)
 unfold Ro
 rw [show Option.isNone (Hb ([] : List (Int × List Int)) fr) = true from rfl, yb]
 rw [show (jf ([] : List (Int × List Int)) [(fr, ([] : List Int))]) = [(fr, [])] from rfl]
 rw [show ([fr] : List Int) = Ee 0 [(fr, [])] from rfl, this]
 rfl
theorem Jl {m : Ia} (hv : Id m = true) {f : Int} (h : Fg m.2.1.length f 0) : Dd m f = some (true, ()) ∧ Ze m f = some (true, ()) := by
 have hM := Rv hv
 have hz := hM.z
 have hl := Yd hv
 have hl2 := hl.l2
 have hp : 1 ≤ 2 ^ m.2.1.length ∧ 2 ^ m.2.1.length ≤ 2 ^ 4 := ⟨Nat.one_le_two_pow, Nat.pow_le_pow_right (by omega) hl2⟩
 have f0 := h.f0; have f1 := h.f1; have f2 := h.f2
 unfold Dd Ze
 rw [Qh m (by omega), Tk m (by omega), hv]
 simp only [jb, yb, Zf]
 rw [Gt (by omega), Ua (show (0 : Int) ≤ (m.2.1.length : Int) by omega), Ua (show f ≥ 0 by omega), show ((2 : Int) == 0) = false from rfl, show (f.tmod 2 == 0) = true by simpa using f2]
 simp only [yb, yc]
 rw [Kh (by omega) (by omega), Ua (show f < ((2 ^ m.2.1.length : Nat) : Int) from f1), Ua (show 0 ≤ f ∧ f ≤ ((2 ^ m.2.1.length : Nat) : Int) - 1 by omega)]
 exact ⟨rfl, rfl⟩
theorem Pz {m : Ia} (hz : Ab Sa m ≤ Mc) {f : Int} (h : Dd m f = some (true, ())) : Id m = true ∧ Fg m.2.1.length f 0 := by
 obtain ⟨hv, f0, _, f2⟩ := WA hz h rfl
 refine ⟨hv, f0, ?_, f2, by omega, by omega⟩
 have hl := Yd hv
 have hl2 := hl.l2
 unfold Dd at h
 rw [Qh m hz, hv] at h
 simp only [jb, yb, show ((2 : Int) == 0) = false from rfl, yc] at h
 rw [Ua (show f ≥ 0 by omega), show (f.tmod 2 == 0) = true by simpa using f2, Ua (show (0 : Int) ≤ (m.2.1.length : Int) by omega), Gt (by omega)] at h
 simpa using h
theorem NG {m : Ia} (hM : Ag m) {f : Int} (h : Fg m.2.1.length f 0) {k : Nat} (hk : (k : Int) < m.1) : Li m f (k : Int) = some (Te m f k, ()) ∧ Oo m f (k : Int) = some (Te m f k, ()) := by
 have hv := hM.v
 have hz := hM.z
 have hm := Yd hv
 have hk1 := hm.k1
 have hk2 := hm.k2
 have hl2 := hm.l2
 obtain ⟨i1, i2⟩ := Jl hv h
 obtain ⟨g0, g1⟩ := Pl hM h
 have hsame : Ud m (Xk .i64 1 f) k = Ud m f k := Jp _ fun j hj => Hv g0 g1 h.f2 j (by omega)
 have hl := Qm hm f k
 have hrow := hm.row _ hl
 have hact := hm.act _ hl k (by omega)
 rw [← Rl hl (by omega)] at hact
 constructor
 ·unfold Li
  rw [i2]
  simp only [jb, jg, yc, Zf]
  rw [Kh (n := m.1 - 1) (by omega) (by omega), Ua (show (0 : Int) ≤ (k : Int) ∧ (k : Int) ≤ m.1 - 1 by omega), Pu (by omega) hv _ hk, hsame]
  simp only [jb, jg, yc]
  unfold Te
  generalize Kf m.2.1 (Ud m f k) k = a at hact ⊢
  unfold Cl
  cases h4 : (a.1 == 4) with
  | true => rw [Ua (Vy hact (.inr (.inl (by simpa using h4)))).1]; rfl
  | false =>
   cases h5 : (a.1 == 5) with
   | true => rw [Ua (Vy hact (.inr (.inr (.inl (by simpa using h5))))).1]; rfl
   | false => rfl
 ·unfold Oo
  rw [i1]
  simp only [jb, jg, yc]
  rw [Dc (show ¬ (k : Int) < 0 by omega), Dc (show ¬ (k : Int) ≥ m.1 by omega), Pm hm f hk]
  rfl
theorem Hs {α : Type} : ∀ (W : List (Int × α)) (y : Int) (w : α) (x : Int), Hb W y = none → Hb (W ++ [(y, w)]) x = if x = y then some w else Hb W x
 | [], y, w, x, _ => by
  by_cases h : x = y
  ·subst h; simp [Hb]
  ·simp only [List.nil_append, Hb, if_neg h, show (x == y) = false by simpa using h, yc]
 | (k, z) :: r, y, w, x, hn => by
  simp only [Hb] at hn
  have hyk : (y == k) = false := by
   cases hk : y == k with
   | true => rw [hk] at hn; simp at hn
   | false => rfl
  rw [hyk] at hn
  simp only [yc] at hn
  simp only [qu, Hb]
  cases hx : x == k with
  | true =>
   have : x = k := by simpa using hx
   have hne : x ≠ y := fun e => by rw [← e, this] at hyk; simp at hyk
   simp [hne]
  | false => simp only [yc]; exact Hs r y w x hn
def Fi (W : Ld) : List (List Int) := (q8 16).map fun x => (Hb W ((x : Nat) : Int)).getD []
def Jj (W : Ld) : List Bool := (q8 16).map fun x => (Hb W ((x : Nat) : Int)).isSome
theorem Nk (W : Ld) : (Fi W).length = 16 := by simp [Fi]
theorem Wl (W : Ld) : (Jj W).length = 16 := by simp [Jj]
theorem Mk (W : Ld) {x : Nat} (h : x < 16) : (Fi W)[x]? = some ((Hb W ((x : Nat) : Int)).getD []) := by simp [Fi, List.getElem?_map, List.getElem?_range h]
theorem Tn (W : Ld) {x : Nat} (h : x < 16) : (Jj W)[x]? = some (Hb W ((x : Nat) : Int)).isSome := by simp [Jj, List.getElem?_map, List.getElem?_range h]
theorem XD {W : Ld} {y : Nat} (hy : y < 16) (w : List Int) (hn : Hb W ((y : Nat) : Int) = none) : (Fi W).set y w = Fi (W ++ [((y : Int), w)]) := by
 apply qc
 intro x
 by_cases hx : x < 16
 ·rw [Mk _ hx, Hs W (y : Int) w _ hn, List.getElem?_set]
  by_cases hxy : y = x
  ·subst hxy
   rw [if_pos rfl, if_pos rfl, if_pos (by rw [Nk]; omega)]; rfl
  ·rw [if_neg hxy, Mk _ hx, if_neg (by omega)]
 ·rw [qf (by rw [List.length_set, Nk]; omega), qf (by rw [Nk]; omega)]
theorem IE {W : Ld} {y : Nat} (hy : y < 16) (w : List Int) (hn : Hb W ((y : Nat) : Int) = none) : (Jj W).set y true = Jj (W ++ [((y : Int), w)]) := by
 apply qc
 intro x
 by_cases hx : x < 16
 ·rw [Tn _ hx, Hs W (y : Int) w _ hn, List.getElem?_set]
  by_cases hxy : y = x
  ·subst hxy
   rw [if_pos rfl, if_pos rfl, if_pos (by rw [Wl]; omega)]; rfl
  ·rw [if_neg hxy, Tn _ hx, if_neg (by omega)]
 ·rw [qf (by rw [List.length_set, Wl]; omega), qf (by rw [Wl]; omega)]
theorem Bx {m : Ia} (hM : Ag m) {fr : Int} {i : Nat} {W : Ld} (h : BT m fr i 0 W) (hi : i < W.length) :
 Xe (((), Fi W, Jj W, W.map Prod.fst, (i : Int), W[i].1, (0 : Int), ()), (m, ())) =
  some (.inl (((), Fi (Ch (Te m) W[i].1 W[i].2 (Pd m) W), Jj (Ch (Te m) W[i].1 W[i].2 (Pd m) W), (Ch (Te m) W[i].1 W[i].2 (Pd m) W).map Prod.fst, (i : Int), ()), (m, ()))) := by
 have hm := Yd hM.v
 obtain ⟨k1, k2⟩ := Hu hM
 have hx := h.ok _ (List.getElem_mem hi)
 obtain ⟨x0, x1⟩ := Pl hM hx
 have hl := Pt (step := fun x : (Unit × List (List Int) × List Bool × List Int × Int × Int × Int × Unit) × Ia × Unit => Bg x.1.1 x.1.2.1 x.1.2.2.1 x.1.2.2.2.1 x.1.2.2.2.2.1 x.1.2.2.2.2.2.1 x.1.2.2.2.2.2.2.1 x.2.1) (Pd m) (by omega)
  (Fp (Te m) W[i].1 W[i].2) W (fun W' k => (((), Fi W', Jj W', W'.map Prod.fst, (i : Int), W[i].1, k, ()), (m, ()))) (fun W' => .inl (((), Fi W', Jj W', W'.map Prod.fst, (i : Int), ()), (m, ()))) (by
   intro k hk
   obtain ⟨g1, g2⟩ := Wp (QB hM) h hi k (by omega)
   have hgt := RK g1 hi g2
   have hln := MB hM g1 hgt
   have hlen := Ul (fun x hx => Pl hM hx) g1.toBIn
   have hny := QB hM _ k hx hk
   obtain ⟨y0, y1⟩ := Pl hM hny
   have hit : Xn (Fp (Te m) W[i].1 W[i].2) k W = Ch (Te m) W[i].1 W[i].2 k W := rfl
   rw [hit]
   generalize hW' : Ch (Te m) W[i].1 W[i].2 k W = W' at hgt hlen g1
   simp only [Bg]
   rw [Ua (by omega), (NG hM hx (by omega)).1]
   simp only [yb, jb]
   obtain ⟨y, hy⟩ := ju y0
   obtain ⟨xn, hxn⟩ := ju x0
   rw [Ua (by omega)]
   unfold Fp
   rw [hy, Ig, Wl, Ua (by omega), jm, Tn W' (by omega)]
   simp only [yb, jb]
   cases hg : Hb W' (y : Int) with
   | some w => rfl
   | none =>
    simp only [Option.isSome_none, Bool.not_false, yb, yc]
    rw [hxn] at hgt ⊢
    rw [Ig, Ig, Nk, Ua (show xn < 16 by omega), Ua (show y < 16 by omega), jm, Mk W' (by omega), hgt]
    simp only [yb, jb, qj]
    have hset : jz (Fi W') xn W[i].2 = Fi W' := by
     apply qc
     intro z
     rw [List.getElem?_set]
     by_cases hz : xn = z
     ·subst hz
      rw [if_pos rfl, if_pos (by rw [Nk]; omega), Mk W' (by omega), hgt]; rfl
     ·rw [if_neg hz]
    rw [hset, Mk W' (by omega)]
    simp only [jb]
    rw [Ao (by simp; omega), Ao (by simp; omega), Ao (by simp; omega)]
    simp only [yb]
    rw [show jf (jf ([] : List Int) W[i].2) [(k : Int)] = W[i].2 ++ [(k : Int)] from rfl, XD (by omega) _ hg, IE (by omega) (W[i].2 ++ [(k : Int)]) hg]
    simp only [List.map_append, qw, List.map_nil, List.append_eq]) (by
   simp only [Bg]
   rw [Dc (by omega)]; rfl)
 unfold Xe
 exact hl
theorem Bp {m : Ia} (hM : Ag m) {fr : Int} : ∀ (n i : Nat) (W : Ld), BT m fr i 0 W → 17 ≤ n + i →
 Be (((), Fi W, Jj W, W.map Prod.fst, (i : Int), ()), (m, ())) = some (.inl ((Fi (Tp (Te m) (Pd m) n i W), Jj (Tp (Te m) (Pd m) n i W), ()), ()))
 | n, i, W, h, hn => by
  have hlen := Ul (fun x hx => Pl hM hx) h.toBIn
  by_cases hi : i < W.length
  ·obtain ⟨n', rfl⟩ : ∃ n', n = n' + 1 := ⟨n - 1, by omega⟩
   obtain ⟨h1, h2⟩ := Wp (QB hM) h hi (Pd m) (jn _)
   have ih := Bp hM n' (i + 1) _ (Tw h1 (Nat.lt_of_lt_of_le hi h2.length_le)) (by omega)
   unfold Be at ih ⊢
   rw [Tp, je hi]
   simp only
   refine (Je (z := some (Sum.inl (((), Fi (Ch (Te m) W[i].1 W[i].2 (Pd m) W), Jj (Ch (Te m) W[i].1 W[i].2 (Pd m) W), (Ch (Te m) W[i].1 W[i].2 (Pd m) W).map Prod.fst, ((i + 1 : Nat) : Int), ()), (m, ())))) ?_).trans ih
   simp only [Bj]
   rw [Ua (by simp; omega), Ig, Ua (by simpa using hi), jm]
   simp only [yb]
   rw [show (W.map Prod.fst)[i]? = some W[i].1 by rw [List.getElem?_map, je hi]; rfl]
   simp only [jb]
   rw [Bx hM h hi]
   simp only [jb, Sum.elim_inl]
   rw [Rd (by omega)]
  ·have hb : Tp (Te m) (Pd m) n i W = W := by
    cases n with
    | zero => rfl
    | succ n => rw [Tp, qf (by omega)]
   rw [hb]
   unfold Be
   refine (Je (z := some (Sum.inr (.inl ((Fi W, Jj W, ()), ())))) ?_).trans rfl
   simp only [Bj]
   rw [Dc (by simp; omega)]; rfl
theorem Cx {m : Ia} (hM : Ag m) {fr : Int} (h : Fg m.2.1.length fr 0) : Gj m fr = some (Fi (Km m fr), Jj (Km m fr), ()) := by
 have hs := Bp hM 17 0 [(fr, [])] (Vu h) (by omega)
 obtain ⟨x0, x1⟩ := Pl hM h
 obtain ⟨x, rfl⟩ := ju x0
 have e1 : Fi [((x : Int), [])] = qr 16 ([] : List Int) := by
  apply qc
  intro z
  by_cases hz : z < 16
  ·rw [Mk _ hz, List.getElem?_replicate, if_pos hz]
   simp only [Hb]
   cases ((z : Int) == (x : Int)) <;> rfl
  ·rw [qf (by rw [Nk]; omega), qf (by simp; omega)]
 have e2 : Jj [((x : Int), [])] = jz (qr 16 false) x true := by
  apply qc
  intro z
  by_cases hz : z < 16
  ·rw [Tn _ hz, List.getElem?_set]
   simp only [Hb]
   by_cases hxz : x = z
   ·subst hxz
    rw [if_pos rfl, if_pos (by simp; omega)]; simp
   ·rw [if_neg hxz, List.getElem?_replicate, if_pos hz, show ((z : Int) == (x : Int)) = false by simp; omega]; rfl
  ·rw [qf (by rw [Wl]; omega), qf (by simp; omega)]
 rw [e1, e2] at hs
 unfold Gj
 rw [show (((16 : Int) == (16 : Int)) && (decide ((0 : Int) ≤ (16 : Int)) && decide ((16 : Int) ≤ ((Eg : Nat) : Int)))) = true by rw [AA]; rfl]
 simp only [yb]
 rw [show jw 16 = 16 from rfl, Ig, Ua (by simp; omega), jm, List.getElem?_replicate, if_pos (by omega)]
 simp only [yb, jb]
 rw [show ([((x : Nat) : Int)] : List Int) = ya Prod.fst [(((x : Nat) : Int), ([] : List Int))] from rfl, show (0 : Int) = ((0 : Nat) : Int) from rfl, hs]
 rfl
theorem Ay {m : Ia} (hM : Ag m) {f t : Int} (h : Fg m.2.1.length f 0) (ht : Fg m.2.1.length t 0) : Og m f t = some ((Hb (Km m f) t).getD [], (Hb (Km m f) t).isSome, ()) := by
 unfold Og
 rw [(Jl hM.v h).1, (Jl hM.v ht).1]
 simp only [jb, jg, yc]
 rw [Wz hM h]
 rfl
theorem Hy {m : Ia} (hM : Ag m) {f t : Int} (h : Fg m.2.1.length f 0) (ht : Fg m.2.1.length t 0) : Uh m f t = some ((Hb (Km m f) t).getD [], (Hb (Km m f) t).isSome, ()) := by
 unfold Uh
 rw [(Jl hM.v h).2, (Jl hM.v ht).2]
 simp only [jb, jg, yc]
 rw [Cx hM h]
 have h16 := Pl hM ht
 obtain ⟨n, rfl⟩ : ∃ n : Nat, t = (n : Int) := ⟨t.toNat, by omega⟩
 have hn : n < 16 := by omega
 simp only [jb]
 rw [Ig, Wl, Ua hn, jm, Tn _ hn, Ig, Nk, Ua hn, Mk _ hn]
 simp only [yb, jb]
 cases hg : Hb (Km m f) (n : Int) with
 | none => rfl
 | some w =>
  simp only [Option.isSome_some, jg, yc, qj]
  obtain ⟨j, hj, he⟩ := List.getElem_of_mem (Bo hg)
  have hw := PA hM h
  have h1 := hw.ln j hj
  rw [he] at h1
  have h2 := hw.len
  simp only at h1
  rw [Ao (by simp; omega)]
  rfl
theorem OC (m : Ia) (f t : Int) (hr0 : Ni Sa m) (hr1 : Ni int f) (hr2 : Ni int t) (hz : Ab Sa m ≤ Mc) :
 ∃ w v, Uh m f t = some (w, v, ()) ∧ Og m f t = some (w, v, ()) ∧ Ab (.sl int) w ≤ 1 * Mc := by
 have h20 : Mc = 1048576 := rfl
 obtain ⟨b, e1, e2⟩ := Qr m f hr0 hr1 hz
 cases b with
 | false =>
  refine ⟨[], false, ?_, ?_, by decide⟩
  ·unfold Uh; rw [e1]; rfl
  ·unfold Og; rw [e2]; rfl
 | true =>
  obtain ⟨b2, q1, q2⟩ := Qr m t hr0 hr2 hz
  cases b2 with
  | false =>
   refine ⟨[], false, ?_, ?_, by decide⟩
   ·unfold Uh; rw [e1]; simp only [jb, jg, yc]; rw [q1]; rfl
   ·unfold Og; rw [e2]; simp only [jb, jg, yc]; rw [q2]; rfl
  | true =>
   obtain ⟨hv, hs⟩ := Pz hz e2
   obtain ⟨_, ht⟩ := Pz hz q2
   refine ⟨_, _, Hy (Rv hv) hs ht, Ay (Rv hv) hs ht, ?_⟩
   rw [Wu (e := int) rfl]
   cases hg : Hb (Km m f) t with
   | none => exact Nat.zero_le _
   | some w =>
    obtain ⟨j, hj, he⟩ := List.getElem_of_mem (Bo hg)
    have hw := PA (Rv hv) hs
    have h1 := hw.ln j hj
    rw [he] at h1
    have h2 := hw.len
    simp only at h1
    show w.length ≤ _
    omega
theorem FF (a0 : Ia) (a1 : Int) (a2 : Int) (hr0 : Ni Sa a0) (hr1 : Ni int a1) (hr2 : Ni int a2) : Yg a0 a1 a2 = some (true, ()) := by
 have h20 : Mc = 1048576 := rfl
 have h40 : Wd = 1099511627776 := rfl
 unfold Yg
 have s0 := EB a0 hr0 (1048576) (by omega)
 rw [show ((1048576 : Nat) : Int) = 1048576 from rfl] at s0
 rw [s0]
 simp only [jb]
 by_cases z0 : Ab Sa a0 ≤ 1048576
 case neg => rw [Ko z0]; rfl
 rw [Hq z0, Dc (by omega)]
 simp only [yc]
 have hz0 : Ab Sa a0 ≤ Mc := by omega
 obtain ⟨w0, w1, e1, e2, b0⟩ := OC a0 a1 a2 hr0 hr1 hr2 hz0
 obtain ⟨x0, k0, g0, i0, m0, n0, _⟩ := Dy a0 1 (by omega)
 rw [show ((1 : Nat) : Int) = 1 from rfl] at m0 n0
 have d0 : decide ((k0 : Int) < 0) = false := Dc (by omega)
 obtain ⟨x1, k1, g1, i1, m1, n1, _⟩ := AB w0 1 (by omega)
 rw [show ((1 : Nat) : Int) = 1 from rfl] at m1 n1
 have d1 : decide ((k1 : Int) < 0) = false := Dc (by omega)
 simp only [e1, e2, HB a0 hz0, VA a0 (by omega), FE w0 (by omega), m0, d0, m1, d1, n1, jb, bne_self_eq_false', bne_self_eq_false, jg, yc]
end KF
