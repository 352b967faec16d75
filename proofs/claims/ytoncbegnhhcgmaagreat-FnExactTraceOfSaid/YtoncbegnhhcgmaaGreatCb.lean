/- An evaluator of Go functions on plain data, and its soundness: third part, and the lift to a law (no condition). -/
import Derived.Test.YtoncbegnhhcgmaaGreatCm
import Derived.Orders
import Derived.LoopN
import Derived.ChangeArms
import Derived.ChangeStays
import Derived.ChangeSame
import Derived.WideShapes
import Derived.RowKit
import Derived.Handed
import Derived.JoinedOf
import Derived.Shelf.Sort.Plain
import Derived.Shelf.Slices.In.SortNone2
set_option linter.unusedSimpArgs false
set_option linter.unusedVariables false
namespace KF
open Go

section
variable {P : Program} {Out : Type} {n0 : Nat} {A : Fx} {O0 : Nat → Prop} {w0 w w' : World} {s s' : AS} {σ σ' : Nat → Value} {φ φ' : Nat → List Nat} {a : Act}
variable {o : Oper} {Q : Exit → Act → World → Prop} {k : AS → Option Out} {out : Out} {d : D} {v : Value} {upd : List (Nat × Option Blk)} {dst : Option Tmp} {G : Env}

/-- two states that say the same -/
structure Eqv (s s' : AS) : Prop where
  n : s'.n = s.n
  tm : ∀ t, aget s'.tm t = aget s.tm t
  hp : ∀ id, s'.heap id = s.heap id

theorem Eqv.refl (s : AS) : Eqv s s := ⟨rfl, fun _ => rfl, fun _ => rfl⟩
theorem Eqv.trans {s1 s2 s3 : AS} (h : Eqv s1 s2) (h' : Eqv s2 s3) : Eqv s1 s3 := ⟨h'.n.trans h.n, fun t => (h'.tm t).trans (h.tm t), fun id => (h'.hp id).trans (h.hp id)⟩
theorem Eqv.symm {s1 s2 : AS} (h : Eqv s1 s2) : Eqv s2 s1 := ⟨h.n.symm, fun t => (h.tm t).symm, fun id => (h.hp id).symm⟩

theorem Conc.eqv (h : Conc n0 A O0 w0 s σ φ a w) (he : Eqv s s') : Conc n0 A O0 w0 s' σ φ a w := by
  have hh : s'.heap = s.heap := funext he.hp
  have hO : OO O0 s' φ = OO O0 s φ := by
    funext b
    simp only [OO, hh]
  refine ⟨by rw [he.n]; exact h.sz, h.df, ?_, ?_, ?_, ?_, ?_, h.o0, h.fr, h.pin, h.iv0, h.ivw⟩
  · intro t d hd
    rw [he.tm] at hd
    rw [hO, hh]
    exact h.tm t d hd
  · intro id blk hb
    rw [hh] at hb
    rw [hO, hh]
    exact h.hp id blk hb
  · intro id blk hb
    rw [hh] at hb
    exact h.nodup id blk hb
  · intro id id' blk blk' hne hb hb'
    rw [hh] at hb hb'
    exact h.disj id id' blk blk' hne hb hb'
  · intro id blk hb
    rw [hh] at hb
    exact h.fresh id blk hb

theorem yielded_bool (h : Conc n0 A O0 w0 s σ φ a w) {ops : Array Oper} {j : Nat} {t : Tmp} {β : Bool} (hj : (ops[j]?).bind (·.dst) = some t) (hd : aget s.tm t = some (.t .b β)) :
    yielded ops a.tmps j = some β := by
  obtain ⟨v, hv, hr⟩ := h.tm t _ hd
  rw [repU_bool] at hr
  subst hr
  unfold yielded
  rw [hj, Option.bind_some, hv]

theorem yielded_und (h : Conc n0 A O0 w0 s σ φ a w) {ops : Array Oper} {j : Nat} {t : Tmp} (hj : (ops[j]?).bind (·.dst) = some t) (hd : aget s.tm t = some .und) :
    yielded ops a.tmps j = none := by
  obtain ⟨v, hv, hr⟩ := h.tm t _ hd
  rw [repU_und] at hr
  subst hr
  unfold yielded
  rw [hj, Option.bind_some, hv]
  rfl

theorem Good.mono {K : Act → World → Prop} (h : ∀ s σ φ a w, k s = some out → Conc n0 A O0 w0 s σ φ a w → K a w) {a : Act} {w : World} (hg : Good n0 A O0 w0 k out a w) : K a w := by
  obtain ⟨s, σ, φ, h1, h2⟩ := hg
  exact h s σ φ a w h1 h2

/-- a guard that is not met -/
theorem skip_ok (h : Conc n0 A O0 w0 s σ φ a w) (he : fin s dst .und [] k = some out) : Good n0 A O0 w0 k out (a.put dst undef) w := fin_pure h (repU_und.2 rfl) he

theorem range_drop {n i : Nat} (h : i < n) : (List.range n).drop i = i :: (List.range n).drop (i + 1) := by
  rw [List.drop_eq_getElem_cons (by simpa using h)]
  simp

/-- a region whose order is that of the text -/
theorem aops_ok (hG : EnvOk P A.I G) (hfz : G.fz = true → ∀ b, ¬ A.A b) {r : Nat} {ops : Array Oper} (hQ : ∀ s σ φ a w, k s = some out → Conc n0 A O0 w0 s σ φ a w → Q .normal a w) : ∀ (l : List Oper) (i : Nat) (s : AS) (σ : Nat → Value) (φ : Nat → List Nat) (a : Act) (w : World),
    ops.toList.drop i = l → aops G r ops l i s k = some out → Conc n0 A O0 w0 s σ φ a w → wpOps P ops Q ((List.range ops.size).drop i) a w
  | [], i, s, σ, φ, a, w, hl, he, h => by
    have hi : ops.size ≤ i := by
      have := congrArg List.length hl
      simp at this
      omega
    rw [List.drop_eq_nil_of_le (by simpa using hi)]
    exact hQ s σ φ a w he h
  | o :: l, i, s, σ, φ, a, w, hl, he, h => by
    have hi : i < ops.size := by
      have := congrArg List.length hl
      simp at this
      omega
    have hoi : ops[i]? = some o := by
      have h1 := congrArg (·[0]?) hl
      simpa using h1
    have hl' : ops.toList.drop (i + 1) = l := by
      have h1 := congrArg (List.drop 1) hl
      simpa [List.drop_drop, Nat.add_comm] using h1
    have next : ∀ a w, Good n0 A O0 w0 (fun s' => aops G r ops l (i + 1) s' k) out a w → wpOps P ops Q ((List.range ops.size).drop (i + 1)) a w := by
      rintro a w ⟨s', σ', φ', h1, h2⟩
      exact aops_ok hG hfz hQ l (i + 1) s' σ' φ' a w hl' h1 h2
    simp only [aops] at he
    split at he
    · simp at he
    rename_i s1 hat
    obtain ⟨φ1, h⟩ := attL_ok hfz h hat
    have run : ∀ s, Conc n0 A O0 w0 s σ φ1 a w → aop G s o (fun s' => aops G r ops l (i + 1) s' k) = some out → o.wp P a w (wpOps P ops Q ((List.range ops.size).drop (i + 1))) Q := fun s hs hop =>
      Oper.wp_mono next (aop_ok hG hfz hs hop)
    have skp : ∀ s, Conc n0 A O0 w0 s σ φ1 a w → fin s o.dst .und [] (fun s' => aops G r ops l (i + 1) s' k) = some out → wpOps P ops Q ((List.range ops.size).drop (i + 1)) (a.put o.dst undef) w := fun s hs hop =>
      next _ _ (skip_ok hs hop)
    rw [range_drop hi]
    simp only [wpOps, hoi]
    cases hg : o.guard with
    | none =>
      rw [hg] at he
      have hw : Region.wanted o (yielded ops a.tmps) = true := by simp [Region.wanted, hg]
      rw [if_pos hw]
      exact .inl (run s1 h he)
    | some g =>
      obtain ⟨j, want⟩ := g
      rw [hg] at he
      simp only at he
      split at he
      · rename_i t ht
        split at he
        · rename_i β hd
          have hy := yielded_bool h ht hd
          have hwd : Region.wanted o (yielded ops a.tmps) = (some β == some want) := by simp [Region.wanted, hg, hy]
          have hs := h.same hd
          rw [hwd]
          cases hβ : (show Bool from β) with
          | true =>
            have hβ' : β = true := hβ
            subst hβ'
            simp only [cond_true] at he
            cases want with
            | true => rw [if_pos (by rfl)]; exact .inl (run _ hs he)
            | false => rw [if_neg (by simp)]; exact skp _ hs he
          | false =>
            have hβ' : β = false := hβ
            subst hβ'
            simp only [cond_false] at he
            cases want with
            | true => rw [if_neg (by simp)]; exact skp _ hs he
            | false => rw [if_pos (by rfl)]; exact .inl (run _ hs he)
        · rename_i hd
          have hy := yielded_und h ht hd
          have hwd : Region.wanted o (yielded ops a.tmps) = false := by simp [Region.wanted, hg, hy]
          rw [hwd, if_neg (by simp)]
          exact skp _ h he
        · simp at he
      · simp at he
end
end KF

namespace KF
open Go

abbrev Ef := D × List (Nat × Option Blk)

def Eff (G : Env) (s : AS) (o : Oper) (e : Ef) : Prop := ∀ (Out' : Type) (K' : D → List (Nat × Option Blk) → Option Out'), aopK G s o K' = K' e.1 e.2

theorem Eff.congr {G : Env} {s s' : AS} {o : Oper} {e : Ef} (h : Eff G s o e) (ha : Agr s s' o) : Eff G s' o e := fun Out' K' => (aopK_congr ha).trans (h Out' K')

def putE (s : AS) (dst : Option Tmp) (e : Ef) : AS := ⟨s.n, (match dst with | some t => [(t, e.1)] | none => []) ++ s.tm, e.2 ++ s.hp⟩

def GStep (G : Env) (ops : Array Oper) (s : AS) (o : Oper) (e : Ef) : Prop :=
  match o.guard with
  | none => Eff G s o e
  | some (j, want) => ∃ t, (ops[j]?).bind (·.dst) = some t ∧ ((∃ β : Bool, aget s.tm t = some (.t .b β) ∧ (if β = want then Eff G s o e else e = (.und, []))) ∨ (aget s.tm t = some .und ∧ e = (.und, [])))

/-- the state behind those operations of the first m that L holds -/
def stL (ops : Array Oper) (E : Nat → Ef) (L : Nat → Bool) (s0 : AS) : Nat → AS
  | 0 => s0
  | m + 1 => match ops[m]? with
    | some o => bif L m then putE (stL ops E L s0 m) o.dst (E m) else stL ops E L s0 m
    | none => stL ops E L s0 m

structure FpOk (ops : Array Oper) (s : AS) (o : Oper) (e : Ef) (f : FP) : Prop where
  wt : f.wt = o.dst
  wi : f.wi = e.2.map (·.1)
  mi : f.mi = e.1.ids ++ updIds e.2
  rt : ∀ t, t ∈ tmpsOf (opnds o.op) → t ∈ f.rt
  rg : ∀ j want t, o.guard = some (j, want) → (ops[j]?).bind (·.dst) = some t → t ∈ f.rt
  ri : isMoveB o.op = false → ∀ x, x ∈ opnds o.op → ∀ d, s.ev x = some d → ∀ id, (d.ment id = true ∨ (isCallB o.op = true ∧ id ∈ boxIds s d)) → id ∈ f.ri

structure PM (G : Env) (ops : Array Oper) (s0 : AS) (E : Nat → Ef) (F : Nat → FP) (anc : Nat → List Nat) (m : Nat) (o : Oper) : Prop where
  step : GStep G ops (stL ops E (fun _ => true) s0 m) o (E m)
  fp : FpOk ops (stL ops E (fun _ => true) s0 m) o (E m) (F m)
  dst : ∀ t, o.dst = some t → t < s0.n
  back : ∀ e, e ∈ o.after.toList → Region.binds .any e = true → e.on < m
  up : ∀ x, x ∈ anc m → ∃ e, e ∈ o.after.toList ∧ Region.binds .any e = true ∧ (x = e.on ∨ x ∈ anc e.on)
  ind : ∀ j, j < m → j ∈ anc m ∨ indepB (F j) (F m) = true

/-! ### The Bools -/
theorem memB_iff {l : List Nat} {x : Nat} : memB l x = true ↔ x ∈ l := by
  unfold memB
  rw [List.any_eq_true]
  constructor
  · rintro ⟨y, hy, he⟩
    have := Nat.eq_of_beq_eq_true he
    exact this ▸ hy
  · intro h; exact ⟨x, h, Nat.beq_refl x⟩

theorem meetB_false {l m : List Nat} (h : meetB l m = false) : ∀ x, x ∈ l → x ∉ m := by
  intro x hx hm
  have : meetB l m = true := by
    unfold meetB
    rw [List.any_eq_true]
    exact ⟨x, hx, memB_iff.2 hm⟩
  rw [h] at this; simp at this

theorem wtIn_false {t : Option Nat} {l : List Nat} (h : wtIn t l = false) : ∀ x, t = some x → x ∉ l := by
  rintro x rfl hm
  simp only [wtIn] at h
  rw [memB_iff.2 hm] at h; simp at h

theorem newIn_false {dst : Option Nat} {l : List Nat} (h : newIn dst l = false) : ∀ id, newIdsOf dst id → id ∉ l := by
  intro id hn hm
  have : newIn dst l = true := by
    unfold newIn
    cases dst with
    | some t =>
      simp only []
      rw [List.any_eq_true]
      refine ⟨id, hm, ?_⟩
      rcases hn with hn | hn
      · simp only [Option.some.injEq] at hn
        subst hn
        simp
      · simp only [Option.getD_some] at hn
        have h1 : Nat.ble (100000 + 64 * t) id = true := Nat.ble_eq_true_of_le hn.1
        have h2 : Nat.blt id (100064 + 64 * t) = true := by rw [Nat.blt_eq]; exact hn.2
        simp [h1, h2]
    | none =>
      simp only []
      rw [List.any_eq_true]
      refine ⟨id, hm, ?_⟩
      rcases hn with hn | hn
      · simp at hn
      · simp only [Option.getD_none] at hn
        have hn1 : 100000 ≤ id := by simpa using hn.1
        have hn2 : id < 100064 := by simpa using hn.2
        have h1 : Nat.ble 100000 id = true := Nat.ble_eq_true_of_le hn1
        have h2 : Nat.blt id 100064 = true := by rw [Nat.blt_eq]; exact hn2
        simp [h1, h2]
  rw [h] at this; simp at this

structure Indep (f g : FP) : Prop where
  t1 : ∀ x, f.wt = some x → x ∉ g.rt
  t2 : ∀ x, g.wt = some x → x ∉ f.rt
  t3 : ∀ x, f.wt = some x → g.wt ≠ some x
  i1 : ∀ x, x ∈ f.wi → x ∉ g.ri
  i2 : ∀ x, x ∈ g.wi → x ∉ f.ri
  i3 : ∀ x, x ∈ f.wi → x ∉ g.wi
  n1 : ∀ id, newIdsOf f.wt id → id ∉ g.mi
  n2 : ∀ id, newIdsOf g.wt id → id ∉ f.mi

theorem Indep.symm {f g : FP} (h : Indep f g) : Indep g f :=
  ⟨h.t2, h.t1, fun x hx hf => h.t3 x hf hx, h.i2, h.i1, fun x hx hf => h.i3 x hf hx, h.n2, h.n1⟩

theorem indep_ok {f g : FP} (h : indepB f g = true) : Indep f g := by
  simp only [indepB, Bool.and_eq_true, Bool.not_eq_true'] at h
  obtain ⟨⟨⟨⟨⟨⟨⟨h1, h2⟩, h3⟩, h4⟩, h5⟩, h6⟩, h7⟩, h8⟩ := h
  refine ⟨wtIn_false h1, wtIn_false h2, fun x hx hg => ?_, meetB_false h4, meetB_false h5, meetB_false h6, newIn_false h7, newIn_false h8⟩
  exact wtIn_false h3 x hx (by rw [hg]; simp)

theorem ids_ment : ∀ {d : D} {id : Nat}, d.ment id = true ↔ id ∈ d.ids := by
  intro d
  induction d with
  | pr a b iha ihb => intro id; simp [D.ment, D.ids, iha, ihb]
  | tup d ih => intro id; simp only [D.ment, D.ids]; exact ih
  | own j => intro id; simp only [D.ment, D.ids, List.mem_singleton]; exact ⟨fun h => (Nat.eq_of_beq_eq_true h).symm, fun h => by rw [h]; exact Nat.beq_refl _⟩
  | cut j lo hi => intro id; simp only [D.ment, D.ids, List.mem_singleton]; exact ⟨fun h => (Nat.eq_of_beq_eq_true h).symm, fun h => by rw [h]; exact Nat.beq_refl _⟩
  | ptr j p => intro id; simp only [D.ment, D.ids, List.mem_singleton]; exact ⟨fun h => (Nat.eq_of_beq_eq_true h).symm, fun h => by rw [h]; exact Nat.beq_refl _⟩
  | eptr j i p => intro id; simp only [D.ment, D.ids, List.mem_singleton]; exact ⟨fun h => (Nat.eq_of_beq_eq_true h).symm, fun h => by rw [h]; exact Nat.beq_refl _⟩
  | _ => intro id; simp [D.ment, D.ids]

theorem updIds_ment {id : Nat} : ∀ {u : List (Nat × Option Blk)}, (u.any fun x => (x.2.map (Blk.ment id)).getD false) = true ↔ id ∈ updIds u
  | [] => by simp [updIds]
  | (j, none) :: r => by
    simp only [List.any_cons, updIds, Option.map_none, Option.getD_none, Bool.false_or]
    exact updIds_ment (u := r)
  | (j, some b) :: r => by
    simp only [List.any_cons, updIds, Option.map_some, Option.getD_some, Bool.or_eq_true, List.mem_append]
    rw [updIds_ment (u := r)]
    refine or_congr ?_ Iff.rfl
    cases b with
    | box ρ d => simp only [Blk.ment, Blk.ids]; exact ids_ment
    | row e dp xs => simp [Blk.ment, Blk.ids]
    | hol e xs i x p τ d => simp only [Blk.ment, Blk.ids]; exact ids_ment
    | mov e xs k => simp [Blk.ment, Blk.ids]

section
variable {s s' : AS} {e : Ef} {dst : Option Tmp} {G : Env} {ops : Array Oper}

theorem putE_tm {t : Nat} : aget (putE s dst e).tm t = if dst = some t then some e.1 else aget s.tm t := by
  cases dst with
  | none => simp [putE]
  | some t' => simp [putE, aget_cons]

theorem aget_append {α : Type} {l m : List (Nat × α)} {k : Nat} : aget (l ++ m) k = if k ∈ l.map (·.1) then aget l k else aget m k := by
  induction l with
  | nil => simp
  | cons p l ih =>
    obtain ⟨j, a⟩ := p
    rw [List.cons_append, aget_cons, aget_cons, ih]
    by_cases h : j = k
    · subst h; simp
    · have h' : ¬ k = j := fun e => h e.symm
      have hk : k ∈ ((j, a) :: l).map (·.1) ↔ k ∈ l.map (·.1) := by simp [h']
      simp only [hk, if_neg h]

theorem putE_hp {id : Nat} : (putE s dst e).heap id = if id ∈ e.2.map (·.1) then (aget e.2 id).join else s.heap id := by
  simp only [AS.heap, putE, aget_append]
  split <;> rfl

theorem putE_new {id : Nat} (h : id ∉ e.1.ids ++ updIds e.2) : (putE s dst e).newOk id = s.newOk id := by
  rw [List.mem_append, not_or] at h
  have h1 : e.1.ment id = false := by rw [← Bool.not_eq_true]; exact fun hm => h.1 (ids_ment.1 hm)
  have h2 : (e.2.any fun x => (x.2.map (Blk.ment id)).getD false) = false := by rw [← Bool.not_eq_true]; exact fun hm => h.2 (updIds_ment.1 hm)
  unfold AS.newOk
  congr 2
  simp only [AS.ment, putE, List.any_append, h2, Bool.false_or]
  cases dst with
  | none => simp
  | some t => simp [h1]

theorem ev_tmps {x : Operand} {l : List Operand} (hx : x ∈ l) (h : ∀ t, t ∈ tmpsOf l → aget s'.tm t = aget s.tm t) : s'.ev x = s.ev x := by
  cases x with
  | tmp t =>
    refine h t ?_
    induction l with
    | nil => simp at hx
    | cons y l ih =>
      rcases List.mem_cons.1 hx with e | hx2
      · subst e; simp [tmpsOf]
      · cases y with
        | tmp t' => simp only [tmpsOf]; exact List.mem_cons_of_mem _ (ih (fun t ht => h t (by simp only [tmpsOf]; exact List.mem_cons_of_mem _ ht)) hx2)
        | const v => simp only [tmpsOf]; exact ih (fun t ht => h t (by simp only [tmpsOf]; exact ht)) hx2
        | global g => simp only [tmpsOf]; exact ih (fun t ht => h t (by simp only [tmpsOf]; exact ht)) hx2
        | func g => simp only [tmpsOf]; exact ih (fun t ht => h t (by simp only [tmpsOf]; exact ht)) hx2
  | _ => rfl

/-- TWO SETS OF OPERATIONS, APART IN SUCH ALONE AS i DOES NOT MEET: alike to i. -/
theorem stL_agree {E : Nat → Ef} {F : Nat → FP} {L L' : Nat → Bool} {s0 : AS} {f : FP}
    (hF : ∀ m o, ops[m]? = some o → (F m).wt = o.dst ∧ (F m).wi = (E m).2.map (·.1) ∧ (F m).mi = (E m).1.ids ++ updIds (E m).2)
    (hd : ∀ m, m < ops.size → L m ≠ L' m → Indep (F m) f) : ∀ m, m ≤ ops.size →
    (∀ t, t ∈ f.rt → aget (stL ops E L s0 m).tm t = aget (stL ops E L' s0 m).tm t) ∧ (∀ id, id ∈ f.ri → (stL ops E L s0 m).heap id = (stL ops E L' s0 m).heap id) ∧
      (∀ id, newIdsOf f.wt id → (stL ops E L s0 m).newOk id = (stL ops E L' s0 m).newOk id)
  | 0, _ => ⟨fun _ _ => rfl, fun _ _ => rfl, fun _ _ => rfl⟩
  | m + 1, hm => by
    obtain ⟨h1, h2, h3⟩ := stL_agree hF hd m (by omega)
    have hom : ops[m]? = some ops[m] := Array.getElem?_eq_getElem (by omega)
    obtain ⟨g1, g2, g3⟩ := hF m _ hom
    simp only [stL, hom]
    have apart : L m ≠ L' m → Indep (F m) f := hd m (by omega)
    have p1 : ∀ (S : AS) t, L m ≠ L' m → t ∈ f.rt → aget (putE S ops[m].dst (E m)).tm t = aget S.tm t := by
      intro S t hne ht
      rw [putE_tm, if_neg]
      intro hdst
      exact (apart hne).t1 t (g1.trans hdst) ht
    have p2 : ∀ (S : AS) id, L m ≠ L' m → id ∈ f.ri → (putE S ops[m].dst (E m)).heap id = S.heap id := by
      intro S id hne hid
      rw [putE_hp, if_neg]
      intro hk
      exact (apart hne).i1 id (by rw [g2]; exact hk) hid
    have p3 : ∀ (S : AS) id, L m ≠ L' m → newIdsOf f.wt id → (putE S ops[m].dst (E m)).newOk id = S.newOk id := by
      intro S id hne hid
      refine putE_new ?_
      rw [← g3]
      exact (apart hne).n2 id hid
    cases hL : L m <;> cases hL' : L' m <;> simp only [cond_true, cond_false]
    · exact ⟨h1, h2, h3⟩
    · have hne : L m ≠ L' m := by rw [hL, hL']; simp
      exact ⟨fun t ht => (h1 t ht).trans (p1 _ t hne ht).symm, fun id hid => (h2 id hid).trans (p2 _ id hne hid).symm, fun id hid => (h3 id hid).trans (p3 _ id hne hid).symm⟩
    · have hne : L m ≠ L' m := by rw [hL, hL']; simp
      exact ⟨fun t ht => (p1 _ t hne ht).trans (h1 t ht), fun id hid => (p2 _ id hne hid).trans (h2 id hid), fun id hid => (p3 _ id hne hid).trans (h3 id hid)⟩
    · refine ⟨fun t ht => ?_, fun id hid => ?_, fun id hid => ?_⟩
      · rw [putE_tm, putE_tm, h1 t ht]
      · rw [putE_hp, putE_hp, h2 id hid]
      · have e0 := h3 id hid
        unfold AS.newOk at e0 ⊢
        simp only [AS.ment, putE, List.any_append] at e0 ⊢
        revert e0
        generalize ((match ops[m].dst with | some t => [(t, (E m).1)] | none => []).any fun x => x.2.ment id) = b1
        generalize ((E m).2.any fun x => (x.2.map (Blk.ment id)).getD false) = b2
        generalize ((stL ops E L s0 m).tm.any fun x => x.2.ment id) = c1
        generalize ((stL ops E L s0 m).hp.any fun x => (x.2.map (Blk.ment id)).getD false) = c2
        generalize ((stL ops E L' s0 m).tm.any fun x => x.2.ment id) = d1
        generalize ((stL ops E L' s0 m).hp.any fun x => (x.2.map (Blk.ment id)).getD false) = d2
        generalize Nat.blt id 500000 = z
        cases b1 <;> cases b2 <;> cases c1 <;> cases c2 <;> cases d1 <;> cases d2 <;> cases z <;> simp

theorem stL_n {E : Nat → Ef} {L : Nat → Bool} {s0 : AS} : ∀ m, (stL ops E L s0 m).n = s0.n
  | 0 => rfl
  | m + 1 => by
    simp only [stL]
    split
    · cases L m with
      | true => simp only [cond_true, putE]; exact stL_n m
      | false => simp only [cond_false]; exact stL_n m
    · exact stL_n m

theorem stL_congr {E E' : Nat → Ef} {L L' : Nat → Bool} {s0 : AS} : ∀ m, (∀ j, j < m → E j = E' j ∧ L j = L' j) → stL ops E L s0 m = stL ops E' L' s0 m
  | 0, _ => rfl
  | m + 1, h => by
    have ih := stL_congr (E := E) (E' := E') (L := L) (L' := L') (s0 := s0) m fun j hj => h j (by omega)
    simp only [stL, ih, (h m (by omega)).1, (h m (by omega)).2]

theorem stL_none {E : Nat → Ef} {L : Nat → Bool} {s0 : AS} {i : Nat} : ∀ m, i ≤ m → (∀ j, i ≤ j → j < m → L j = false) → stL ops E L s0 m = stL ops E L s0 i
  | 0, h, _ => by have : i = 0 := by omega
                  subst this; rfl
  | m + 1, h, hL => by
    by_cases he : i = m + 1
    · subst he; rfl
    · rw [← stL_none m (by omega) fun j h1 h2 => hL j h1 (by omega)]
      simp only [stL, hL m (by omega) (by omega)]
      split <;> rfl

/-- an operation done last stands as if it had been done in its place -/
theorem stL_add {E : Nat → Ef} {F : Nat → FP} {L : Nat → Bool} {s0 : AS} {i : Nat} {o : Oper} (hi : ops[i]? = some o)
    (hF : ∀ m o, ops[m]? = some o → (F m).wt = o.dst ∧ (F m).wi = (E m).2.map (·.1) ∧ (F m).mi = (E m).1.ids ++ updIds (E m).2)
    (hLi : L i = false) (hd : ∀ m, m < ops.size → i < m → L m = true → Indep (F m) (F i)) : ∀ m, i < m → m ≤ ops.size →
    Eqv (putE (stL ops E L s0 m) o.dst (E i)) (stL ops E (fun j => L j || Nat.beq j i) s0 m)
  | 0, h, _ => by omega
  | m + 1, h, hm => by
    by_cases he : m = i
    · subst he
      have h1 : stL ops E L s0 (m + 1) = stL ops E L s0 m := by simp only [stL, hLi]; split <;> rfl
      have h2 : stL ops E (fun j => L j || Nat.beq j m) s0 m = stL ops E L s0 m := stL_congr m fun j hj => by
        refine ⟨rfl, ?_⟩
        have : Nat.beq j m = false := by rw [← Bool.not_eq_true]; intro e; have := Nat.eq_of_beq_eq_true e; omega
        simp [this]
      have h3 : stL ops E (fun j => L j || Nat.beq j m) s0 (m + 1) = putE (stL ops E L s0 m) o.dst (E m) := by
        simp only [stL, hi, Nat.beq_refl, Bool.or_true, cond_true]
        rw [h2]
      rw [h1, h3]
      exact Eqv.refl _
    · have ih := stL_add (s0 := s0) hi hF hLi hd m (by omega) (by omega)
      have hom : ops[m]? = some ops[m] := Array.getElem?_eq_getElem (by omega)
      have hb : Nat.beq m i = false := by rw [← Bool.not_eq_true]; intro e; exact he (Nat.eq_of_beq_eq_true e)
      obtain ⟨g1, g2, g3⟩ := hF m _ hom
      obtain ⟨k1, k2, k3⟩ := hF i _ hi
      simp only [stL, hom, hb, Bool.or_false]
      cases hL : L m with
      | false => exact ih
      | true =>
        simp only [cond_true]
        have hind := hd m (by omega) (by omega) hL
        refine ⟨by simp only [putE]; exact ih.n, fun t => ?_, fun id => ?_⟩
        · rw [putE_tm, putE_tm, putE_tm, ih.tm t, putE_tm]
          by_cases h1 : ops[m].dst = some t
          · rw [if_pos h1, if_neg, if_pos h1]
            intro h2
            exact hind.t3 t (g1.trans h1) (k1.trans h2)
          · rw [if_neg h1, if_neg h1]
        · rw [putE_hp, putE_hp, putE_hp, ih.hp id, putE_hp]
          by_cases h1 : id ∈ (E m).2.map (·.1)
          · rw [if_pos h1, if_neg, if_pos h1]
            intro h2
            exact hind.i3 id (by rw [g2]; exact h1) (by rw [k2]; exact h2)
          · rw [if_neg h1, if_neg h1]
end
end KF

namespace KF
open Go

theorem count_lt {p q : Nat → Bool} {i : Nat} (hpq : ∀ j, q j = true → p j = true) (hp : p i = true) (hq : q i = false) : ∀ n, i < n → (List.range n).countP q < (List.range n).countP p := by
  have hle : ∀ n, (List.range n).countP q ≤ (List.range n).countP p := fun n => List.countP_mono_left fun j _ h => hpq j h
  intro n
  induction n with
  | zero => intro h; omega
  | succ n ih =>
    intro h
    rw [List.range_succ, List.countP_append, List.countP_append]
    by_cases he : i = n
    · subst he
      have := hle i
      simp [hp, hq]
      omega
    · have := ih (by omega)
      have h2 : [n].countP q ≤ [n].countP p := List.countP_mono_left fun j _ h => hpq j h
      omega

section
variable {P : Program} {n0 : Nat} {A : Fx} {O0 : Nat → Prop} {w0 : World} {G : Env} {ops : Array Oper} {s0 : AS} {E : Nat → Ef} {F : Nat → FP} {anc : Nat → List Nat} {Q : Exit → Act → World → Prop}

def Lof (listed : Array Bool) (j : Nat) : Bool := listed.getD j false

def Closed (ops : Array Oper) (L : Nat → Bool) : Prop := ∀ j o, ops[j]? = some o → L j = true → ∀ e, e ∈ o.after.toList → Region.binds .any e = true → L e.on = true

theorem anc_closed (hPM : ∀ m o, ops[m]? = some o → PM G ops s0 E F anc m o) {L : Nat → Bool} (hc : Closed ops L) : ∀ (b m : Nat), m < b → m < ops.size → L m = true → ∀ x, x ∈ anc m → L x = true
  | 0, _, h, _, _, _, _ => by omega
  | b + 1, m, hb, hm, hL, x, hx => by
    have hom : ops[m]? = some ops[m] := Array.getElem?_eq_getElem hm
    obtain ⟨e, he, hbn, hxe⟩ := (hPM m _ hom).up x hx
    have h1 := hc m _ hom hL e he hbn
    have h2 := (hPM m _ hom).back e he hbn
    rcases hxe with rfl | hxe
    · exact h1
    · exact anc_closed hPM hc b e.on (by omega) (by omega) h1 x hxe

theorem ready_iff {listed : Array Bool} {i : Nat} : i ∈ Region.ready .any ops listed ↔ i < ops.size ∧ listed.getD i true = false ∧ ∃ o, ops[i]? = some o ∧ ∀ e, e ∈ o.after.toList → Region.binds .any e = true → listed.getD e.on false = true := by
  unfold Region.ready
  rw [List.mem_filter, List.mem_range]
  constructor
  · rintro ⟨h1, h2⟩
    have hom : ops[i]? = some ops[i] := Array.getElem?_eq_getElem h1
    rw [hom] at h2
    simp only [Option.map_some, Option.getD_some, Bool.and_eq_true, Bool.not_eq_true'] at h2
    refine ⟨h1, h2.1, _, hom, fun e he hb => ?_⟩
    have h3 := h2.2
    rw [Array.all_eq_true'] at h3
    have := h3 e (Array.mem_toList_iff.1 he)
    rw [hb] at this
    simpa using this
  · rintro ⟨h1, h2, o, ho, h3⟩
    refine ⟨h1, ?_⟩
    rw [ho]
    simp only [Option.map_some, Option.getD_some, Bool.and_eq_true, Bool.not_eq_true']
    refine ⟨h2, ?_⟩
    rw [Array.all_eq_true']
    intro e he
    cases hb : Region.binds .any e with
    | false => rfl
    | true => simpa using h3 e (Array.mem_toList_iff.2 he) hb

theorem all_listed (hPM : ∀ m o, ops[m]? = some o → PM G ops s0 E F anc m o) {listed : Array Bool} (hsz : listed.size = ops.size) (hr : Region.ready .any ops listed = []) : ∀ (b j : Nat), j < b → j < ops.size → Lof listed j = true
  | 0, _, h, _ => by omega
  | b + 1, j, hb, hj => by
    by_cases h : Lof listed j = true
    · exact h
    · exfalso
      have hom : ops[j]? = some ops[j] := Array.getElem?_eq_getElem hj
      have : j ∈ Region.ready .any ops listed := by
        refine ready_iff.2 ⟨hj, ?_, _, hom, fun e he hbn => ?_⟩
        · unfold Lof at h
          simp only [Bool.not_eq_true] at h
          have hjl : j < listed.size := by omega
          simp [Array.getD, hjl] at h ⊢
          exact h
        · have := (hPM j _ hom).back e he hbn
          exact all_listed hPM hsz hr b e.on (by omega) (by omega)
      rw [hr] at this
      simp at this

theorem call_no_move {op : Op} (h : isCallB op = true) : isMoveB op = false := by
  cases op <;> first | rfl | simp [isCallB] at h
theorem Agr.of_stL (hPM : ∀ m o, ops[m]? = some o → PM G ops s0 E F anc m o) {L : Nat → Bool} (hc : Closed ops L) {i : Nat} {o : Oper} (hi : ops[i]? = some o) (hLi : L i = false)
    (hready : ∀ e, e ∈ o.after.toList → Region.binds .any e = true → L e.on = true) :
    Agr (stL ops E (fun _ => true) s0 i) (stL ops E L s0 ops.size) o ∧ (∀ t, t ∈ (F i).rt → aget (stL ops E L s0 ops.size).tm t = aget (stL ops E (fun _ => true) s0 i).tm t) ∧
      (∀ m, m < ops.size → i < m → L m = true → Indep (F m) (F i)) := by
  have hin : i < ops.size := (Array.getElem?_eq_some_iff.1 hi).1
  have hF : ∀ m o, ops[m]? = some o → (F m).wt = o.dst ∧ (F m).wi = (E m).2.map (·.1) ∧ (F m).mi = (E m).1.ids ++ updIds (E m).2 := fun m o ho => ⟨(hPM m o ho).fp.wt, (hPM m o ho).fp.wi, (hPM m o ho).fp.mi⟩
  have hgt : ∀ m, m < ops.size → i < m → L m = true → Indep (F m) (F i) := by
    intro m hm him hL
    have hom : ops[m]? = some ops[m] := Array.getElem?_eq_getElem hm
    rcases (hPM m _ hom).ind i him with h | h
    · have := anc_closed hPM hc (m + 1) m (by omega) hm hL i h
      rw [hLi] at this; simp at this
    · exact (indep_ok h).symm
  have hd : ∀ m, m < ops.size → L m ≠ Nat.blt m i → Indep (F m) (F i) := by
    intro m hm hne
    rcases Nat.lt_trichotomy m i with h | h | h
    · have hb : Nat.blt m i = true := by rw [Nat.blt_eq]; exact h
      have hL : L m = false := by
        rw [hb] at hne
        simpa using hne
      rcases (hPM i _ hi).ind m h with h' | h'
      · exfalso
        obtain ⟨e, he, hbn, hxe⟩ := (hPM i _ hi).up m h'
        have h1 := hready e he hbn
        rcases hxe with rfl | hxe
        · rw [hL] at h1; simp at h1
        · have h2 := (hPM i _ hi).back e he hbn
          have := anc_closed hPM hc (e.on + 1) e.on (by omega) (by omega) h1 m hxe
          rw [hL] at this; simp at this
      · exact indep_ok h'
    · subst h
      exfalso
      apply hne
      rw [hLi]
      have : Nat.blt m m = false := by rw [← Bool.not_eq_true, Nat.blt_eq]; omega
      exact this.symm
    · have hb : Nat.blt m i = false := by
        rw [← Bool.not_eq_true, Nat.blt_eq]; omega
      have hL : L m = true := by
        rw [hb] at hne
        simpa using hne
      exact hgt m hm h hL
  obtain ⟨a1, a2, a3⟩ := stL_agree (ops := ops) (s0 := s0) (f := F i) hF hd ops.size (Nat.le_refl _)
  have hst : stL ops E (fun j => Nat.blt j i) s0 ops.size = stL ops E (fun _ => true) s0 i := by
    rw [stL_none (i := i) ops.size (by omega) fun j h1 h2 => by
      show Nat.blt j i = false
      rw [← Bool.not_eq_true, Nat.blt_eq]; omega]
    exact stL_congr i fun j hj => ⟨rfl, by rw [Nat.blt_eq]; exact hj⟩
  rw [hst] at a1 a2 a3
  have fp := (hPM i _ hi).fp
  refine ⟨⟨fun x hx => ev_tmps hx fun t ht => a1 t (fp.rt t ht), fun hmv x hx d hd' id hm => a2 id (fp.ri hmv x hx d hd' id (.inl hm)), fun id hid => a3 id (by rw [fp.wt]; exact hid),
    fun hcl x hx bid p hev ρ d hb id hm => a2 id (fp.ri (call_no_move hcl) x hx _ hev id (.inr ⟨hcl, by simp only [boxIds, hb]; exact ids_ment.1 hm⟩))⟩, a1, hgt⟩

theorem fin_putE {s : AS} {dst : Option Tmp} {e : Ef} (hd : ∀ t, dst = some t → t < s.n) {Out : Type} {k : AS → Option Out} : fin s dst e.1 e.2 k = k (putE s dst e) := by
  cases dst with
  | none => rfl
  | some t =>
    have : Nat.blt t s.n = true := by rw [Nat.blt_eq]; exact hd t rfl
    simp only [fin, this, cond_true, putE]
    rfl

theorem order_ok (hG : EnvOk P A.I G) (hfz : G.fz = true → ∀ b, ¬ A.A b) (hPM : ∀ m o, ops[m]? = some o → PM G ops s0 E F anc m o)
    (hQ : ∀ σ φ a w, Conc n0 A O0 w0 (stL ops E (fun _ => true) s0 ops.size) σ φ a w → Q .normal a w) :
    ∀ (fuel : Nat) (listed : Array Bool) (σ : Nat → Value) (φ : Nat → List Nat) (a : Act) (w : World), listed.size = ops.size → (List.range ops.size).countP (fun j => !listed.getD j true) ≤ fuel →
      Closed ops (Lof listed) → Conc n0 A O0 w0 (stL ops E (Lof listed) s0 ops.size) σ φ a w → wpAny P .any ops Q fuel listed a w := by
  intro fuel
  have fin' : ∀ (listed : Array Bool) (σ : Nat → Value) (φ : Nat → List Nat) (a : Act) (w : World), listed.size = ops.size → Region.ready .any ops listed = [] →
      Conc n0 A O0 w0 (stL ops E (Lof listed) s0 ops.size) σ φ a w → Q .normal a w := by
    intro listed σ φ a w hsz hr h
    refine hQ σ φ a w ?_
    rw [← stL_congr (L := Lof listed) ops.size fun j hj => ⟨rfl, all_listed hPM hsz hr (j + 1) j (by omega) hj⟩]
    exact h
  induction fuel with
  | zero =>
    intro listed σ φ a w hsz hcnt hc h
    have hr : Region.ready .any ops listed = [] := by
      rw [List.eq_nil_iff_forall_not_mem]
      intro i hi
      obtain ⟨h1, h2, _⟩ := ready_iff.1 hi
      have : 0 < (List.range ops.size).countP (fun j => !listed.getD j true) := List.countP_pos_iff.2 ⟨i, List.mem_range.2 h1, by rw [h2]; rfl⟩
      omega
    exact ⟨hr, fin' listed σ φ a w hsz hr h⟩
  | succ fuel ih =>
    intro listed σ φ a w hsz hcnt hc h
    refine ⟨fun hr => fin' listed σ φ a w hsz hr h, fun i hi => ?_⟩
    obtain ⟨hin, hun, o, ho, hed⟩ := ready_iff.1 hi
    have hil : i < listed.size := by omega
    have hLi : Lof listed i = false := by
      unfold Lof
      simp [Array.getD, hil] at hun ⊢
      exact hun
    obtain ⟨hag, htm, hgt⟩ := Agr.of_stL hPM hc ho hLi hed
    have pm := hPM i o ho
    have hF : ∀ m o, ops[m]? = some o → (F m).wt = o.dst ∧ (F m).wi = (E m).2.map (·.1) ∧ (F m).mi = (E m).1.ids ++ updIds (E m).2 := fun m o ho => ⟨(hPM m o ho).fp.wt, (hPM m o ho).fp.wi, (hPM m o ho).fp.mi⟩
    have hadd := stL_add (s0 := s0) (L := Lof listed) ho hF hLi hgt ops.size hin (Nat.le_refl _)
    have hset : ∀ j, Lof (listed.setIfInBounds i true) j = (Lof listed j || Nat.beq j i) := by
      intro j
      unfold Lof
      by_cases hji : j = i
      · subst hji
        simp [Array.getD, hil]
      · have hb : Nat.beq j i = false := by rw [← Bool.not_eq_true]; intro e; exact hji (Nat.eq_of_beq_eq_true e)
        rw [hb, Bool.or_false]
        simp only [Array.getD_eq_getD_getElem?]
        rw [Array.getElem?_setIfInBounds_ne (fun e => hji e.symm)]
    have next : ∀ σ φ a w, Conc n0 A O0 w0 (putE (stL ops E (Lof listed) s0 ops.size) o.dst (E i)) σ φ a w → wpAny P .any ops Q fuel (listed.setIfInBounds i true) a w := by
      intro σ φ a w h
      have h2 := h.eqv hadd
      have h3 : stL ops E (fun j => Lof listed j || Nat.beq j i) s0 ops.size = stL ops E (Lof (listed.setIfInBounds i true)) s0 ops.size := stL_congr ops.size fun j _ => ⟨rfl, (hset j).symm⟩
      rw [h3] at h2
      refine ih (listed.setIfInBounds i true) σ φ a w (by simpa using hsz) ?_ ?_ h2
      · have hlt := count_lt (p := fun j => !listed.getD j true) (q := fun j => !(listed.setIfInBounds i true).getD j true) (i := i) ?_ (by simp only [hun, Bool.not_false]) ?_ ops.size hin
        · omega
        · intro j hj
          by_cases hji : j = i
          · subst hji; simp [hun]
          · simp only [Array.getD_eq_getD_getElem?] at hj ⊢
            rw [Array.getElem?_setIfInBounds_ne (fun e => hji e.symm)] at hj
            exact hj
        · simp [Array.getD, hil]
      · intro j oj hoj hL e he hbn
        rw [hset] at hL ⊢
        cases hLj : Lof listed j with
        | true => rw [hc j oj hoj hLj e he hbn]; rfl
        | false =>
          rw [hLj, Bool.false_or] at hL
          have := Nat.eq_of_beq_eq_true hL
          subst this
          rw [ho] at hoj
          simp only [Option.some.injEq] at hoj
          subst hoj
          have := hed e he hbn
          unfold Lof
          rw [this]; rfl
    have hdn : ∀ t, o.dst = some t → t < (stL ops E (Lof listed) s0 ops.size).n := fun t ht => by rw [stL_n]; exact pm.dst t ht
    have run : Eff G (stL ops E (fun _ => true) s0 i) o (E i) → o.wp P a w (wpAny P .any ops Q fuel (listed.setIfInBounds i true)) Q := by
      intro hE
      have hE' := hE.congr hag
      have : aop G (stL ops E (Lof listed) s0 ops.size) o some = some (putE (stL ops E (Lof listed) s0 ops.size) o.dst (E i)) := by
        unfold aop
        rw [hE']
        exact fin_putE hdn
      refine Oper.wp_mono ?_ (aop_ok hG hfz h this)
      rintro a w ⟨s2, σ', φ', h1, h2⟩
      simp only [Option.some.injEq] at h1
      subst h1
      exact next σ' φ' a w h2
    have skp : E i = (.und, []) → wpAny P .any ops Q fuel (listed.setIfInBounds i true) (a.put o.dst undef) w := by
      intro hE
      have := skip_ok (dst := o.dst) (k := some) (out := putE (stL ops E (Lof listed) s0 ops.size) o.dst (.und, [])) h (fin_putE (e := (.und, [])) hdn)
      obtain ⟨s2, σ', φ', h1, h2⟩ := this
      simp only [Option.some.injEq] at h1
      subst h1
      rw [← hE] at h2
      exact next σ' φ' _ w h2
    have hst := pm.step
    unfold wpOp
    rw [ho]
    simp only []
    unfold GStep at hst
    cases hg : o.guard with
    | none =>
      rw [hg] at hst
      rw [if_pos (by simp [Region.wanted, hg])]
      exact .inl (run hst)
    | some g =>
      obtain ⟨j, want⟩ := g
      rw [hg] at hst
      obtain ⟨t, ht, hst⟩ := hst
      have htr : t ∈ (F i).rt := pm.fp.rg j want t hg ht
      have hlook := htm t htr
      rcases hst with ⟨β, hd, hst⟩ | ⟨hd, hst⟩
      · rw [hd] at hlook
        have hy := yielded_bool h ht hlook
        have hwd : Region.wanted o (yielded ops a.tmps) = (some β == some want) := by simp [Region.wanted, hg, hy]
        rw [hwd]
        by_cases hβ : β = want
        · subst hβ
          rw [if_pos (by simp)]
          rw [if_pos rfl] at hst
          exact .inl (run hst)
        · rw [if_neg (by simpa using hβ)]
          rw [if_neg hβ] at hst
          exact skp hst
      · rw [hd] at hlook
        have hy := yielded_und h ht hlook
        have hwd : Region.wanted o (yielded ops a.tmps) = false := by simp [Region.wanted, hg, hy]
        rw [hwd, if_neg (by simp)]
        exact skp hst
end
end KF

namespace KF
open Go

structure EqvN (s s' : AS) : Prop extends Eqv s s' where
  nw : ∀ id, s'.newOk id = s.newOk id

theorem EqvN.refl (s : AS) : EqvN s s := ⟨Eqv.refl s, fun _ => rfl⟩

theorem EqvN.agr {s s' : AS} (h : EqvN s s') (o : Oper) : Agr s s' o :=
  ⟨fun _ hx => ev_tmps hx fun t _ => h.tm t, fun _ _ _ _ _ id _ => h.hp id, fun id _ => h.nw id, fun _ _ _ _ _ _ _ _ _ id _ => h.hp id⟩
theorem EqvN.symm {s s' : AS} (h : EqvN s s') : EqvN s' s := ⟨h.toEqv.symm, fun id => (h.nw id).symm⟩
theorem EqvN.trans {s1 s2 s3 : AS} (h : EqvN s1 s2) (h' : EqvN s2 s3) : EqvN s1 s3 := ⟨h.toEqv.trans h'.toEqv, fun id => (h'.nw id).trans (h.nw id)⟩

theorem EqvN.putE {s s' : AS} (h : EqvN s s') (dst : Option Tmp) (e : Ef) : EqvN (KF.putE s dst e) (KF.putE s' dst e) := by
  refine ⟨⟨h.n, fun t => ?_, fun id => ?_⟩, fun id => ?_⟩
  · rw [putE_tm, putE_tm, h.tm t]
  · rw [putE_hp, putE_hp, h.hp id]
  · have e0 := h.nw id
    unfold AS.newOk at e0 ⊢
    simp only [AS.ment, KF.putE, List.any_append] at e0 ⊢
    revert e0
    generalize ((match dst with | some t => [(t, e.1)] | none => []).any fun x => x.2.ment id) = b1
    generalize (e.2.any fun x => (x.2.map (Blk.ment id)).getD false) = b2
    generalize (s.tm.any fun x => x.2.ment id) = c1
    generalize (s.hp.any fun x => (x.2.map (Blk.ment id)).getD false) = c2
    generalize (s'.tm.any fun x => x.2.ment id) = d1
    generalize (s'.hp.any fun x => (x.2.map (Blk.ment id)).getD false) = d2
    generalize Nat.blt id 500000 = z
    cases b1 <;> cases b2 <;> cases c1 <;> cases c2 <;> cases d1 <;> cases d2 <;> cases z <;> simp

theorem EqvN.refine {s : AS} {t : Nat} {β : Bool} (hd : aget s.tm t = some (.t .b β)) : EqvN s ⟨s.n, (t, .t .b β) :: s.tm, s.hp⟩ := by
  refine ⟨⟨rfl, fun t' => ?_, fun _ => rfl⟩, fun id => ?_⟩
  · rw [aget_cons]
    split
    · rename_i e; subst e; exact hd.symm
    · rfl
  · simp [AS.newOk, AS.ment, D.ment]

theorem boxIds_congr {s s' : AS} (h : ∀ j, s'.heap j = s.heap j) (d : D) : boxIds s d = boxIds s' d := by
  cases d with
  | ptr id p => simp only [boxIds, h id]
  | _ => rfl

theorem idsOf_mem {s : AS} {c : Bool} : ∀ {l : List Operand} {x : Operand} {d : D} {id : Nat}, x ∈ l → s.ev x = some d → (d.ment id = true ∨ (c = true ∧ id ∈ boxIds s d)) → id ∈ idsOf s c l
  | [], _, _, _, h, _, _ => by simp at h
  | y :: l, x, d, id, h, hd, hm => by
    rcases List.mem_cons.1 h with e | h
    · subst e
      simp only [idsOf, hd]
      refine List.mem_append_left _ (List.mem_append.2 ?_)
      refine hm.imp ids_ment.1 ?_
      rintro ⟨rfl, h⟩
      exact h
    · have ih := idsOf_mem h hd hm
      simp only [idsOf]
      split
      · exact List.mem_append_right _ ih
      · exact ih

section
variable {P : Program} {n0 : Nat} {A : Fx} {O0 : Nat → Prop} {w0 : World} {G : Env} {ops : Array Oper} {s0 : AS} {E : Nat → Ef} {F : Nat → FP} {anc : Nat → List Nat} {Q : Exit → Act → World → Prop}
variable {Out : Type} {k : AS → Option Out} {out : Out}

theorem PM.congr {E' : Nat → Ef} {F' : Nat → FP} {anc' : Nat → List Nat} {m : Nat} {o : Oper} (h : PM G ops s0 E F anc m o) (hE : ∀ j, j ≤ m → E j = E' j ∧ F j = F' j ∧ anc j = anc' j) : PM G ops s0 E' F' anc' m o := by
  have hst : stL ops E (fun _ => true) s0 m = stL ops E' (fun _ => true) s0 m := stL_congr m fun j hj => ⟨(hE j (by omega)).1, rfl⟩
  obtain ⟨e1, e2, e3⟩ := hE m (Nat.le_refl _)
  refine ⟨by rw [← hst, ← e1]; exact h.step, by rw [← hst, ← e1, ← e2]; exact h.fp, h.dst, h.back, ?_, ?_⟩
  · intro x hx
    rw [← e3] at hx
    obtain ⟨e, he, hb, hxe⟩ := h.up x hx
    refine ⟨e, he, hb, hxe.imp id fun hxe => ?_⟩
    rw [← (hE e.on (Nat.le_of_lt (h.back e he hb))).2.2]
    exact hxe
  · intro j hj
    rw [← e3, ← e2, ← (hE j (by omega)).2.1]
    exact h.ind j hj

theorem addNew_mem : ∀ {r l : List Nat} {x : Nat}, x ∈ addNew r l → x ∈ r ∨ x ∈ l
  | [], _, _, h => .inr h
  | y :: r, l, x, h => by
    simp only [addNew] at h
    rcases addNew_mem h with h | h
    · exact .inl (List.mem_cons_of_mem _ h)
    · cases hm : memB l y with
      | true => rw [hm] at h; exact .inr h
      | false =>
        rw [hm] at h
        rcases List.mem_cons.1 h with h | h
        · exact .inl (by rw [h]; simp)
        · exact .inr h

theorem ancOf_mem {prev : List (Nat × (List Nat × FP))} : ∀ {es : List Edge} {l : List Nat} {x : Nat}, x ∈ ancOf prev es l → x ∈ l ∨ ∃ e, e ∈ es ∧ Region.binds .any e = true ∧ (x = e.on ∨ ∃ p, aget prev e.on = some p ∧ x ∈ p.1)
  | [], l, x, h => .inl h
  | e :: es, l, x, h => by
    simp only [ancOf] at h
    cases hb : Region.binds .any e with
    | false =>
      rw [hb] at h
      rcases ancOf_mem h with h | ⟨e', he', hb', hx⟩
      · exact .inl h
      · exact .inr ⟨e', List.mem_cons_of_mem _ he', hb', hx⟩
    | true =>
      rw [hb] at h
      rcases ancOf_mem h with h | ⟨e', he', hb', hx⟩
      · rcases addNew_mem h with h | h
        · refine .inr ⟨e, by simp, hb, ?_⟩
          rcases List.mem_cons.1 h with h | h
          · exact .inl h
          · split at h
            · rename_i a f hp; exact .inr ⟨_, hp, h⟩
            · simp at h
        · exact .inl h
      · exact .inr ⟨e', List.mem_cons_of_mem _ he', hb', hx⟩

theorem text_ok : ∀ (l : List Oper) (i : Nat) (prev : List (Nat × (List Nat × FP))) (s : AS) (E : Nat → Ef) (F : Nat → FP) (anc : Nat → List Nat), ops.toList.drop i = l → aopsD G ops l i prev s k = some out →
    EqvN (stL ops E (fun _ => true) s0 i) s → (∀ j, j < i → aget prev j = some (anc j, F j)) → (∀ m o, m < i → ops[m]? = some o → PM G ops s0 E F anc m o) →
    ∃ E F anc, (∀ m o, ops[m]? = some o → PM G ops s0 E F anc m o) ∧ ∃ sf, k sf = some out ∧ Eqv (stL ops E (fun _ => true) s0 ops.size) sf
  | [], i, prev, s, E, F, anc, hl, he, hs, hprev, hPM => by
    have hi : ops.size ≤ i := by
      have := congrArg List.length hl
      simp at this
      omega
    have hst : stL ops E (fun _ => true) s0 i = stL ops E (fun _ => true) s0 ops.size := by
      clear hs he hl hprev hPM
      induction i with
      | zero => have : ops.size = 0 := by omega
                rw [this]
      | succ i ih =>
        by_cases h : ops.size = i + 1
        · rw [h]
        · rw [← ih (by omega)]
          have : ops[i]? = none := Array.getElem?_eq_none (by omega)
          simp only [stL, this]
    refine ⟨E, F, anc, fun m o ho => hPM m o ?_ ho, s, he, by rw [← hst]; exact hs.toEqv⟩
    have := (Array.getElem?_eq_some_iff.1 ho).1
    omega
  | o :: l, i, prev, s, E, F, anc, hl, he, hs, hprev, hPM => by
    have hi : i < ops.size := by
      have := congrArg List.length hl
      simp at this
      omega
    have hoi : ops[i]? = some o := by
      have h1 := congrArg (·[0]?) hl
      simpa using h1
    have hl' : ops.toList.drop (i + 1) = l := by
      have h1 := congrArg (List.drop 1) hl
      simpa [List.drop_drop, Nat.add_comm] using h1
    -- one operation done: on to the next
    have next : ∀ (an : List Nat) (f : FP) (e : Ef) (sx : AS), an = ancOf prev o.after.toList [] → (∀ e, e ∈ o.after.toList → Region.binds .any e = true → e.on < i) → okPrev an f prev = true → EqvN s sx →
        GStep G ops (stL ops E (fun _ => true) s0 i) o e → FpOk ops (stL ops E (fun _ => true) s0 i) o e f → fin sx o.dst e.1 e.2 (fun s' => aopsD G ops l (i + 1) ((i, (an, f)) :: prev) s' k) = some out →
        ∃ E F anc, (∀ m o, ops[m]? = some o → PM G ops s0 E F anc m o) ∧ ∃ sf, k sf = some out ∧ Eqv (stL ops E (fun _ => true) s0 ops.size) sf := by
      intro an f e sx han hback hok hsx hstep hfp hfin
      have hdst : ∀ t, o.dst = some t → t < sx.n := by
        intro t ht
        unfold fin at hfin
        rw [ht] at hfin
        simp only at hfin
        cases hb : Nat.blt t sx.n with
        | true => rwa [Nat.blt_eq] at hb
        | false => rw [hb] at hfin; simp at hfin
      rw [fin_putE hdst] at hfin
      have hn : sx.n = s0.n := by rw [hsx.n, hs.n, stL_n]
      have hEi : ∀ j, j < i → E j = (fun j => if j = i then e else E j) j ∧ F j = (fun j => if j = i then f else F j) j ∧ anc j = (fun j => if j = i then an else anc j) j := by
        intro j hj
        have : j ≠ i := by omega
        simp [this]
      have hst : stL ops E (fun _ => true) s0 i = stL ops (fun j => if j = i then e else E j) (fun _ => true) s0 i := stL_congr i fun j hj => ⟨(hEi j hj).1, rfl⟩
      refine text_ok l (i + 1) _ _ (fun j => if j = i then e else E j) (fun j => if j = i then f else F j) (fun j => if j = i then an else anc j) hl' hfin ?_ ?_ ?_
      · have : stL ops (fun j => if j = i then e else E j) (fun _ => true) s0 (i + 1) = putE (stL ops E (fun _ => true) s0 i) o.dst e := by
          rw [hst]
          simp only [stL, hoi, cond_true, if_true]
        rw [this]
        exact (hs.trans hsx).putE _ _
      · intro j hj
        rw [aget_cons]
        by_cases hji : i = j
        · subst hji; simp
        · have hne : j ≠ i := fun e => hji e.symm
          rw [if_neg hji, hprev j (by omega)]
          simp [hne]
      · intro m om hm hom
        by_cases hmi : m = i
        · subst hmi
          rw [hoi] at hom
          simp only [Option.some.injEq] at hom
          subst hom
          refine ⟨?_, ?_, fun t ht => by rw [← hn]; exact hdst t ht, hback, ?_, ?_⟩
          · rw [← hst]; simpa using hstep
          · rw [← hst]; simpa using hfp
          · intro x hx
            simp only [if_true] at hx
            rw [han] at hx
            rcases ancOf_mem hx with hx | ⟨e', he', hb', hx⟩
            · simp at hx
            · have hlt := hback e' he' hb'
              refine ⟨e', he', hb', hx.imp id ?_⟩
              rintro ⟨p, hp, hxp⟩
              rw [hprev _ hlt] at hp
              simp only [Option.some.injEq] at hp
              subst hp
              have : e'.on ≠ m := by omega
              simpa [this] using hxp
          · intro j hj
            have hok' := hok
            unfold okPrev at hok'
            rw [List.all_eq_true] at hok'
            have hmem := aget_mem (hprev j hj)
            have h1 := hok' _ hmem
            simp only [Bool.or_eq_true] at h1
            have hjm : j ≠ m := by omega
            simp only [if_true, hjm, if_false]
            exact h1.imp memB_iff.1 id
        · exact (hPM m om (by omega) hom).congr fun j hj => hEi j (by omega)
    have hfpOk : ∀ (g : List Nat) (e : Ef), (∀ j want t, o.guard = some (j, want) → (ops[j]?).bind (·.dst) = some t → t ∈ g) → FpOk ops (stL ops E (fun _ => true) s0 i) o e (fpOf s o g e.1 e.2) := by
      intro g e hg
      refine ⟨rfl, rfl, rfl, fun t ht => List.mem_append_right _ ht, fun j want t hgu ht => List.mem_append_left _ (hg j want t hgu ht), fun hmv x hx d hd id hm => ?_⟩
      show id ∈ (bif isMoveB o.op then [] else _)
      rw [hmv]
      refine idsOf_mem hx ?_ (hm.imp (fun h => h) fun h => ⟨h.1, (boxIds_congr (fun j => hs.hp j) d) ▸ h.2⟩)
      rw [← hd]
      exact ev_tmps hx fun t _ => hs.tm t
    simp only [aopsD] at he
    cases hbk : backB i o.after.toList with
    | false => rw [hbk] at he; simp at he
    | true =>
      rw [hbk] at he
      simp only [cond_true] at he
      have hback : ∀ e, e ∈ o.after.toList → Region.binds .any e = true → e.on < i := by
        intro e hem hbe
        unfold backB at hbk
        rw [List.all_eq_true] at hbk
        have := hbk e hem
        rw [hbe] at this
        simp only [Bool.not_true, Bool.false_or] at this
        rwa [Nat.blt_eq] at this
      have hEff : ∀ (sx : AS) (K : D → List (Nat × Option Blk) → Option Out), EqvN s sx → aopK G sx o K = some out → ∃ e : Ef, K e.1 e.2 = some out ∧ Eff G (stL ops E (fun _ => true) s0 i) o e := by
        intro sx K hsx hK
        obtain ⟨d, u, h1, h2⟩ := aopK_nat hK
        refine ⟨(d, u), h1, ?_⟩
        have : Eff G sx o (d, u) := h2
        exact this.congr ((hs.trans hsx).symm.agr o)
      cases hg : o.guard with
      | none =>
        rw [hg] at he
        simp only at he
        obtain ⟨e, h1, h2⟩ := hEff s _ (EqvN.refl s) he
        simp only [cond_none_some] at h1
        exact next _ _ e s rfl hback h1.1 (EqvN.refl s) (by unfold GStep; rw [hg]; exact h2) (hfpOk [] e (by intro j want t hgu; rw [hg] at hgu; simp at hgu)) h1.2
      | some g =>
        obtain ⟨j, want⟩ := g
        rw [hg] at he
        simp only at he
        split at he
        · rename_i t ht
          have hgt : ∀ j' want' t', o.guard = some (j', want') → (ops[j']?).bind (·.dst) = some t' → t' ∈ [t] := by
            intro j' want' t' hgu ht'
            rw [hg] at hgu
            simp only [Option.some.injEq, Prod.mk.injEq] at hgu
            obtain ⟨rfl, rfl⟩ := hgu
            rw [ht] at ht'
            simp only [Option.some.injEq] at ht'
            rw [ht']; simp
          split at he
          · rename_i β hd
            have hdst : aget (stL ops E (fun _ => true) s0 i).tm t = some (.t .b β) := by rw [← hs.tm]; exact hd
            have goal1 : ∀ e : Ef, (if β = want then Eff G (stL ops E (fun _ => true) s0 i) o e else e = (.und, [])) → GStep G ops (stL ops E (fun _ => true) s0 i) o e := by
              intro e h
              unfold GStep
              rw [hg]
              exact ⟨t, ht, .inl ⟨β, hdst, h⟩⟩
            cases hβ : (show Bool from β) with
            | true =>
              have hβ' : β = true := hβ
              subst hβ'
              simp only [cond_true] at he
              cases want with
              | true =>
                simp only [cond_true] at he
                obtain ⟨e, h1, h2⟩ := hEff _ _ (EqvN.refine hd) he
                simp only [cond_none_some] at h1
                exact next _ _ e _ rfl hback h1.1 (EqvN.refine hd) (goal1 e (by rw [if_pos rfl]; exact h2)) (hfpOk [t] e hgt) h1.2
              | false =>
                simp only [cond_false, cond_none_some] at he
                exact next _ _ (.und, []) _ rfl hback he.1 (EqvN.refine hd) (goal1 _ (by rw [if_neg (by simp)])) (hfpOk [t] (.und, []) hgt) he.2
            | false =>
              have hβ' : β = false := hβ
              subst hβ'
              simp only [cond_false] at he
              cases want with
              | true =>
                simp only [cond_true, cond_none_some] at he
                exact next _ _ (.und, []) _ rfl hback he.1 (EqvN.refine hd) (goal1 _ (by rw [if_neg (by simp)])) (hfpOk [t] (.und, []) hgt) he.2
              | false =>
                simp only [cond_false] at he
                obtain ⟨e, h1, h2⟩ := hEff _ _ (EqvN.refine hd) he
                simp only [cond_none_some] at h1
                exact next _ _ e _ rfl hback h1.1 (EqvN.refine hd) (goal1 e (by rw [if_pos rfl]; exact h2)) (hfpOk [t] e hgt) h1.2
          · rename_i hd
            simp only [cond_none_some] at he
            refine next _ _ (.und, []) s rfl hback he.1 (EqvN.refl s) ?_ (hfpOk [t] (.und, []) hgt) he.2
            unfold GStep
            rw [hg]
            exact ⟨t, ht, .inr ⟨by rw [← hs.tm]; exact hd, rfl⟩⟩
          · simp at he
        · simp at he

theorem lof_rep {n j : Nat} : Lof (Array.replicate n false) j = false := by
  unfold Lof
  rw [Array.getD_eq_getD_getElem?, Array.getElem?_replicate]
  split <;> rfl

theorem region_ok (hG : EnvOk P A.I G) (hfz : G.fz = true → ∀ b, ¬ A.A b) (hm : P.follows .mixedOrders = true) {id : Nat} {draw : Bool} {s : AS} {σ : Nat → Value} {φ : Nat → List Nat} {a : Act} {w : World} (h : Conc n0 A O0 w0 s σ φ a w)
    (he : (bif draw then aopsD G ops ops.toList 0 [] s k else aops G id ops ops.toList 0 s k) = some out) (hQ : ∀ a w, Good n0 A O0 w0 k out a w → Q .normal a w) : (Code.region id ops draw).wp P Q a w := by
  cases draw with
  | false =>
    simp only [cond_false] at he
    refine wp_region ?_
    have := aops_ok (P := P) (Q := Q) hG hfz (fun s σ φ a w h1 h2 => hQ a w ⟨s, σ, φ, h1, h2⟩) ops.toList 0 s σ φ a w (by simp) he h
    simpa using this
  | true =>
    simp only [cond_true] at he
    obtain ⟨E, F, anc, hPM, sf, h1, h2⟩ := text_ok (s0 := s) ops.toList 0 [] s (fun _ => (.und, [])) (fun _ => ⟨[], [], none, [], []⟩) (fun _ => []) (by simp) he (EqvN.refl s) (by intro j hj; omega) (by intro m o hm; omega)
    refine wp_region_any hm ?_
    refine order_ok hG hfz hPM (fun σ φ a w hc => hQ a w ⟨sf, σ, φ, h1, hc.eqv h2⟩) ops.size (Array.replicate ops.size false) σ φ a _ (by simp) ?_ ?_ ?_
    · have := List.countP_le_length (p := fun j => !(Array.replicate ops.size false).getD j true) (l := List.range ops.size)
      simpa using this
    · intro j o ho hL
      rw [lof_rep] at hL
      simp at hL
    · have : stL ops E (Lof (Array.replicate ops.size false)) s ops.size = s := by
        rw [stL_none (i := 0) ops.size (Nat.zero_le _) fun j _ _ => lof_rep]
        rfl
      rw [this]
      exact h.drew
end
end KF

namespace KF
open Go

/-! ### Templates -/
theorem instD_agg {s : AS} : ∀ {td : TD} {d : D} {x : T td.ty} {m : IdMap}, extD s td d = some (x, m) → (instD td x).isAgg = d.isAgg := by
  intro td
  cases td with
  | data τ =>
    intro d x m h
    simp only [extD] at h
    split at h
    · rename_i y hy
      simp only [Option.some.injEq, Prod.mk.injEq] at h
      obtain ⟨rfl, _⟩ := h
      have hs := (toT_view (w := default) (σ := fun _ => undef) (O := fun _ => False) (hp := fun _ => none) hy).1
      rw [hs.isAgg]
      cases τ <;> rfl
    · simp at h
  | own id e dp =>
    intro d x m h
    cases d <;> simp [extD] at h <;> rfl
  | ptr id p =>
    intro d x m h
    cases d <;> simp [extD] at h <;> rfl
  | hol id e p τ td =>
    intro d x m h
    cases d <;> simp [extD] at h <;> rfl
  | arr id e =>
    intro d x m h
    cases d <;> first | rfl | (simp [extD] at h; done)
  | mov id e =>
    intro d x m h
    cases d <;> simp [extD] at h <;> rfl
  | pr a b =>
    intro d x m h
    simp only [extD] at h
    cases d with
    | t τ v => cases τ <;> simp [D.fst] at h <;> rfl
    | pr u v => rfl
    | _ => simp [D.fst] at h
  | un =>
    intro d x m h
    simp only [extD] at h
    split at h
    · rename_i y hy
      have hs := (toT_view (w := default) (σ := fun _ => undef) (O := fun _ => False) (hp := fun _ => none) hy).1
      rw [hs.isAgg]
      rfl
    · simp at h

def Sub (m m' : IdMap) : Prop := ∀ p, p ∈ m → p ∈ m'

section
variable {w : World} {s : AS} {σ σ' : Nat → Value} {O O' : Nat → Prop} {hp' : Nat → Option Blk} {m : IdMap}

/-- what the new values and the new rows must be -/
structure TOk (s : AS) (σ σ' : Nat → Value) (hp' : Nat → Option Blk) (m : IdMap) : Prop where
  isS : ∀ j i, (j, some i) ∈ m → σ' j = σ i
  isN : ∀ j, (j, none) ∈ m → σ' j = .slice none 0 0
  isB : ∀ j i ρ d, (j, some i) ∈ m → hp' j = some (.box ρ d) → ∃ d', s.heap i = some (.box ρ d')
  isR : ∀ j i blk r, (j, some i) ∈ m → hp' j = some blk → blk.rowN = some r → ∃ blk', s.heap i = some blk' ∧ blk'.rowN = some r

theorem extD_ok (hT : TOk s σ σ' hp' m) (hO : ∀ b, b < w.heap.size → ¬ O b → ¬ O' b) : ∀ {td : TD} {d : D} {x : T td.ty} {m0 : IdMap} {cs : List Value}, extD s td d = some (x, m0) → Sub m0 m → Rep w O s.heap σ d cs →
    Rep w O' hp' σ' (instD td x) cs := by
  intro td
  induction td with
  | data τ =>
    intro d x m0 cs h hm hr
    simp only [extD] at h
    split at h
    · rename_i y hy
      simp only [Option.some.injEq, Prod.mk.injEq] at h
      obtain ⟨rfl, _⟩ := h
      exact View.stable (fun _ _ _ => rfl) hO ((toT_view hy).2 _ hr)
    · simp at h
  | own id' e dp =>
    intro d x m0 cs h hm hr
    cases d with
    | own id =>
      simp only [extD] at h
      split at h
      · rename_i e' dp' xs hb
        split at h
        · rename_i q hq
          subst q
          simp only [cond_none_some] at h
          obtain ⟨_, h⟩ := h
          simp only [Option.some.injEq, Prod.mk.injEq] at h
          obtain ⟨rfl, rfl⟩ := h
          obtain ⟨v, hcs, h1, hv⟩ := hr
          refine ⟨v, hcs, h1, fun _ _ _ _ => ?_⟩
          rw [hT.isS id' id (hm _ (by simp))]
          exact hv _ _ hb rfl
        · simp at h
      · simp at h
    | nil =>
      simp only [extD, Option.some.injEq, Prod.mk.injEq] at h
      obtain ⟨rfl, rfl⟩ := h
      simp only [Rep] at hr
      exact ⟨_, hr, rfl, fun _ _ _ _ => (hT.isN id' (hm _ (by simp))).symm⟩
    | _ => simp [extD] at h
  | hol id' e p τ td _ =>
    intro d x m0 cs h hm hr
    cases d with
    | own id =>
      simp only [extD] at h
      split at h
      · rename_i e' xs i x1 p' τ' d' hb
        split at h
        · simp only [cond_none_some] at h
          obtain ⟨_, h⟩ := h
          split at h
          · rename_i y m1 h1
            simp only [cond_none_some] at h
            obtain ⟨_, h⟩ := h
            simp only [Option.some.injEq, Prod.mk.injEq] at h
            obtain ⟨rfl, rfl⟩ := h
            obtain ⟨v, hcs, h1, hv⟩ := hr
            refine ⟨v, hcs, h1, fun _ _ _ _ => ?_⟩
            rw [hT.isS id' id (hm _ (by simp))]
            exact hv _ _ hb rfl
          · simp at h
        · simp at h
      · simp at h
    | _ => simp [extD] at h
  | arr id' e =>
    intro d x m0 cs h hm hr
    cases d with
    | eptr id i q =>
      cases i with
      | succ i => simp [extD] at h
      | zero =>
        cases q with
        | cons _ _ => simp [extD] at h
        | nil =>
          simp only [extD] at h
          split at h
          · rename_i e' xs hb
            split at h
            · rename_i q hq
              subst q
              simp only [Option.some.injEq, Prod.mk.injEq] at h
              obtain ⟨rfl, rfl⟩ := h
              obtain ⟨v, hcs, h1, hv⟩ := hr
              refine ⟨v, hcs, h1, fun blk' e2 n2 hb' hr' => ?_⟩
              obtain ⟨blk0, hb0, hr0⟩ := hT.isR id' id blk' _ (hm _ (by simp)) hb' hr'
              rw [hT.isS id' id (hm _ (by simp))]
              exact hv _ _ _ hb0 hr0
            · simp at h
          · simp at h
    | _ => simp [extD] at h
  | mov id' e =>
    intro d x m0 cs h hm hr
    cases d with
    | own id =>
      simp only [extD] at h
      split at h
      · rename_i e' xs hb
        split at h
        · rename_i q hq
          subst q
          simp only [Option.some.injEq, Prod.mk.injEq] at h
          obtain ⟨rfl, rfl⟩ := h
          obtain ⟨v, hcs, h1, hv⟩ := hr
          refine ⟨v, hcs, h1, fun _ _ _ _ => ?_⟩
          rw [hT.isS id' id (hm _ (by simp))]
          exact hv _ _ hb rfl
        · simp at h
      · rename_i e' xs k hb
        split at h
        · rename_i q hq
          subst q
          simp only [Option.some.injEq, Prod.mk.injEq] at h
          obtain ⟨rfl, rfl⟩ := h
          obtain ⟨v, hcs, h1, hv⟩ := hr
          refine ⟨v, hcs, h1, fun _ _ _ _ => ?_⟩
          rw [hT.isS id' id (hm _ (by simp))]
          exact hv _ _ hb rfl
        · simp at h
      · simp at h
    | _ => simp [extD] at h
  | ptr id' p =>
    intro d x m0 cs h hm hr
    cases d with
    | ptr id q =>
      simp only [extD, cond_none_some] at h
      obtain ⟨hpq, h⟩ := h
      simp only [Option.some.injEq, Prod.mk.injEq] at h
      obtain ⟨_, rfl⟩ := h
      have hpq' : p = q := by simpa using hpq
      subst hpq'
      obtain ⟨v, hcs, h1, hv⟩ := hr
      refine ⟨v, hcs, h1, fun ρ d hb => ?_⟩
      obtain ⟨d', hd'⟩ := hT.isB id' id ρ d (hm _ (by simp)) hb
      rw [hT.isS id' id (hm _ (by simp))]
      exact hv ρ d' hd'
    | _ => simp [extD] at h
  | pr a b iha ihb =>
    intro d x m0 cs h hm hr
    simp only [extD] at h
    split at h
    · rename_i d1 d2 h1 h2
      split at h
      · rename_i u l v l' h3 h4
        simp only [Option.some.injEq, Prod.mk.injEq] at h
        obtain ⟨rfl, rfl⟩ := h
        have key : ∃ c1 c2, cs = c1 ++ c2 ∧ Rep w O s.heap σ d1 c1 ∧ Rep w O s.heap σ d2 c2 := by
          cases d with
          | t τ v =>
            cases τ with
            | p t1 t2 =>
              simp only [D.fst, D.snd, Option.some.injEq] at h1 h2
              subst h1; subst h2
              exact hr
            | _ => simp [D.fst] at h1
          | pr d1' d2' =>
            simp only [D.fst, D.snd, Option.some.injEq] at h1 h2
            subst h1; subst h2
            exact hr
          | _ => simp [D.fst] at h1
        obtain ⟨c1, c2, hc, r1, r2⟩ := key
        exact ⟨c1, c2, hc, iha h3 (fun p hp => hm p (List.mem_append_left _ hp)) r1, ihb h4 (fun p hp => hm p (List.mem_append_right _ hp)) r2⟩
      · simp at h
    · simp at h
  | un =>
    intro d x m0 cs h hm hr
    simp only [extD] at h
    split at h
    · rename_i y hy
      exact (toT_view hy).2 _ hr
    · simp at h

theorem extD_okU (hT : TOk s σ σ' hp' m) (hO : ∀ b, b < w.heap.size → ¬ O b → ¬ O' b) {td : TD} {d : D} {x : T td.ty} {m0 : IdMap} {v : Value} (h : extD s td d = some (x, m0)) (hm : Sub m0 m) (hr : RepU w O s.heap σ d v) :
    RepU w O' hp' σ' (instD td x) v := by
  have hne : RepV w O s.heap σ d v := by
    cases d with
    | und => cases td <;> simp [extD, toT, D.fst] at h
    | anyv => cases td <;> simp [extD, toT, D.fst] at h
    | tup ds => cases td <;> simp [extD, toT, D.fst] at h
    | _ => exact hr
  refine repU_of_repV ?_
  unfold RepV at hne ⊢
  rw [instD_agg h]
  split
  · rename_i ha
    rw [if_pos ha] at hne
    obtain ⟨cs, h1, h2⟩ := hne
    exact ⟨cs, h1, extD_ok hT hO h hm h2⟩
  · rename_i ha
    rw [if_neg ha] at hne
    exact extD_ok hT hO h hm hne

/-- what an entry of the new memory is -/
def Entry (s : AS) (m : IdMap) (j : Nat) (blk : Blk) : Prop :=
  ((j, none) ∈ m ∧ ∃ e dp, blk = .row e dp ([] : List (T e))) ∨
  ∃ i, (j, some i) ∈ m ∧ ((∃ e dp dp' xs, blk = .row e dp xs ∧ s.heap i = some (.row e dp' xs) ∧ (dp' = dp ∨ e.flat = true)) ∨
    (∃ ρ d td x m0, blk = .box ρ (instD td x) ∧ s.heap i = some (.box ρ d) ∧ extD s td d = some (x, m0) ∧ Sub m0 m ∧ Shape ρ (instD td x)) ∨
    (∃ e xs k x p τ d td y m0, blk = .hol e xs k x p τ (instD td y) ∧ s.heap i = some (.hol e xs k x p τ d) ∧ extD s td d = some (y, m0) ∧ Sub m0 m ∧ Shape τ (instD td y)) ∨
    ∃ e xs k, blk = .mov e xs k ∧ (s.heap i = some (.mov e xs k) ∨ (s.heap i = some (.row e true xs) ∧ k = 0)))

theorem rowsD_entry : ∀ {td : TD} {d : D} {x : T td.ty} {m0 : IdMap}, extD s td d = some (x, m0) → Sub m0 m → ∀ p, p ∈ rowsD td x → ∃ blk, p.2 = some blk ∧ Entry s m p.1 blk := by
  intro td
  induction td with
  | own id' e dp =>
    intro d x m0 h hm p hp
    simp only [rowsD, List.mem_singleton] at hp
    subst hp
    cases d with
    | own id =>
      simp only [extD] at h
      split at h
      · rename_i e' dp' xs hb
        split at h
        · rename_i q hq
          subst q
          simp only [cond_none_some] at h
          obtain ⟨hc, h⟩ := h
          simp only [Option.some.injEq, Prod.mk.injEq] at h
          obtain ⟨rfl, rfl⟩ := h
          refine ⟨_, rfl, .inr ⟨id, hm _ (by simp), .inl ⟨_, dp, dp', _, rfl, hb, ?_⟩⟩⟩
          simpa using hc
        · simp at h
      · simp at h
    | nil =>
      simp only [extD, Option.some.injEq, Prod.mk.injEq] at h
      obtain ⟨rfl, rfl⟩ := h
      exact ⟨_, rfl, .inl ⟨hm _ (by simp), e, dp, rfl⟩⟩
    | _ => simp [extD] at h
  | hol id' e pth τ td ih =>
    intro d x m0 h hm p hp
    cases d with
    | own id =>
      simp only [extD] at h
      split at h
      · rename_i e' xs i x1 p' τ' d' hb
        split at h
        · rename_i q1 q2 hq1 hq2
          subst q1
          obtain rfl := dec_eq hq2
          simp only [cond_none_some] at h
          obtain ⟨hpp, h⟩ := h
          have hpp : pth = p' := by simpa using hpp
          subst hpp
          split at h
          · rename_i y m1 h1
            simp only [cond_none_some] at h
            obtain ⟨hsh, h⟩ := h
            simp only [Option.some.injEq, Prod.mk.injEq] at h
            obtain ⟨rfl, rfl⟩ := h
            simp only [rowsD] at hp
            rcases List.mem_cons.1 hp with rfl | hp
            · exact ⟨_, rfl, .inr ⟨id, hm _ (by simp), .inr (.inr (.inl ⟨_, _, i, _, _, _, d', td, y, m1, by simp only [Int.toNat_natCast], hb, h1, fun p hp => hm p (List.mem_cons_of_mem _ hp), shapeB_ok hsh⟩))⟩⟩
            · exact ih h1 (fun p hp => hm p (List.mem_cons_of_mem _ hp)) p hp
          · simp at h
        · simp at h
      · simp at h
    | _ => simp [extD] at h
  | pr a b iha ihb =>
    intro d x m0 h hm p hp
    simp only [extD] at h
    split at h
    · split at h
      · rename_i u l v l' h3 h4
        simp only [Option.some.injEq, Prod.mk.injEq] at h
        obtain ⟨rfl, rfl⟩ := h
        simp only [rowsD] at hp
        rcases List.mem_append.1 hp with hp | hp
        · exact iha h3 (fun p hp => hm p (List.mem_append_left _ hp)) p hp
        · exact ihb h4 (fun p hp => hm p (List.mem_append_right _ hp)) p hp
      · simp at h
    · simp at h
  | arr id' e =>
    intro d x m0 h hm p hp
    simp only [rowsD, List.mem_singleton] at hp
    subst hp
    cases d with
    | eptr id i q =>
      cases i with
      | succ i => simp [extD] at h
      | zero =>
        cases q with
        | cons _ _ => simp [extD] at h
        | nil =>
          simp only [extD] at h
          split at h
          · rename_i e' xs hb
            split at h
            · rename_i q hq
              subst q
              simp only [Option.some.injEq, Prod.mk.injEq] at h
              obtain ⟨rfl, rfl⟩ := h
              exact ⟨_, rfl, .inr ⟨id, hm _ (by simp), .inl ⟨_, true, true, _, rfl, hb, .inl rfl⟩⟩⟩
            · simp at h
          · simp at h
    | _ => simp [extD] at h
  | mov id' e =>
    intro d x m0 h hm p hp
    simp only [rowsD, List.mem_singleton] at hp
    subst hp
    cases d with
    | own id =>
      simp only [extD] at h
      split at h
      · rename_i e' xs hb
        split at h
        · rename_i q hq
          subst q
          simp only [Option.some.injEq, Prod.mk.injEq] at h
          obtain ⟨rfl, rfl⟩ := h
          exact ⟨_, rfl, .inr ⟨id, hm _ (by simp), .inr (.inr (.inr ⟨_, _, 0, rfl, .inr ⟨hb, rfl⟩⟩))⟩⟩
        · simp at h
      · rename_i e' xs k hb
        split at h
        · rename_i q hq
          subst q
          simp only [Option.some.injEq, Prod.mk.injEq] at h
          obtain ⟨rfl, rfl⟩ := h
          exact ⟨_, rfl, .inr ⟨id, hm _ (by simp), .inr (.inr (.inr ⟨_, _, k, by simp only [Int.toNat_natCast], .inl hb⟩))⟩⟩
        · simp at h
      · simp at h
    | _ => simp [extD] at h
  | _ => intro d x m0 h hm p hp; simp [rowsD] at hp

theorem extT_ok : ∀ {l : List (Tmp × TD)} {x : T (Tpl.tyT l)} {m0 : IdMap}, extT s l = some (x, m0) → Sub m0 m →
    (∀ t d', aget (instT l x) t = some d' → ∃ td d y m1, aget s.tm t = some d ∧ extD s td d = some (y, m1) ∧ Sub m1 m ∧ d' = instD td y) ∧ (∀ p, p ∈ rowsT l x → ∃ blk, p.2 = some blk ∧ Entry s m p.1 blk)
  | [], x, m0, h, hm => ⟨by simp [instT, aget], by simp [rowsT]⟩
  | (t0, td) :: r, x, m0, h, hm => by
    simp only [extT] at h
    split at h
    · rename_i d hd
      split at h
      · rename_i y m1 z m2 h1 h2
        simp only [Option.some.injEq, Prod.mk.injEq] at h
        obtain ⟨rfl, rfl⟩ := h
        have hm1 : Sub m1 m := fun p hp => hm p (List.mem_append_left _ hp)
        obtain ⟨i1, i2⟩ := extT_ok h2 (fun p hp => hm p (List.mem_append_right _ hp))
        refine ⟨fun t d' ht => ?_, fun p hp => ?_⟩
        · simp only [instT] at ht
          rw [aget_cons] at ht
          split at ht
          · rename_i e
            subst e
            simp only [Option.some.injEq] at ht
            exact ⟨td, d, y, m1, hd, h1, hm1, ht.symm⟩
          · exact i1 t d' ht
        · simp only [rowsT] at hp
          rcases List.mem_append.1 hp with hp | hp
          · exact rowsD_entry h1 hm1 p hp
          · exact i2 p hp
      · simp at h
    · simp at h

theorem extB_ok : ∀ {l : List (Nat × Ty × TD)} {x : T (Tpl.tyB l)} {m0 m' : IdMap}, extB s l m0 = some (x, m') → Sub m' m →
    Sub m0 m ∧ ∀ p, p ∈ instB l x → ∃ blk, p.2 = some blk ∧ Entry s m p.1 blk
  | [], x, m0, m', h, hm => by
    simp only [extB, Option.some.injEq, Prod.mk.injEq] at h
    obtain ⟨_, rfl⟩ := h
    exact ⟨hm, by simp [instB]⟩
  | (id', ρ, td) :: r, x, m0, m', h, hm => by
    simp only [extB] at h
    split at h
    · rename_i id hid
      split at h
      · rename_i ρ' d hb
        split at h
        · rename_i q hq
          obtain rfl := q.down
          split at h
          · rename_i y m1 h1
            simp only [cond_none_some] at h
            obtain ⟨hsh, h⟩ := h
            split at h
            · rename_i z m2 h2
              simp only [Option.some.injEq, Prod.mk.injEq] at h
              obtain ⟨rfl, rfl⟩ := h
              obtain ⟨i1, i2⟩ := extB_ok h2 hm
              have hm0 : Sub m0 m := fun p hp => i1 p (List.mem_append_left _ hp)
              have hm1 : Sub m1 m := fun p hp => i1 p (List.mem_append_right _ hp)
              refine ⟨hm0, fun p hp => ?_⟩
              simp only [instB] at hp
              rcases List.mem_cons.1 hp with rfl | hp
              · exact ⟨_, rfl, .inr ⟨id, hm0 _ (aget_mem hid), .inr (.inl ⟨_, d, td, y, m1, rfl, hb, h1, hm1, shapeB_ok hsh⟩)⟩⟩
              · rcases List.mem_append.1 hp with hp | hp
                · exact rowsD_entry h1 hm1 p hp
                · exact i2 p hp
            · simp at h
          · simp at h
        · simp at h
      · simp at h
    · simp at h
end
end KF

namespace KF
open Go

theorem pinOk_some : ∀ {m : IdMap}, pinOk m = true → ∀ j i, (j, some i) ∈ m → (j < 500000 ∧ i < 500000) ∨ j = i
  | [], _, _, _, h => by simp at h
  | (j0, some i0) :: r, hp, j, i, h => by
    simp only [pinOk, Bool.and_eq_true, Bool.or_eq_true] at hp
    rcases List.mem_cons.1 h with e | h
    · simp only [Prod.mk.injEq, Option.some.injEq] at e
      obtain ⟨rfl, rfl⟩ := e
      rcases hp.1 with h1 | h1
      · rw [Nat.blt_eq, Nat.blt_eq] at h1; exact .inl h1
      · exact .inr (Nat.eq_of_beq_eq_true h1)
    · exact pinOk_some hp.2 j i h
  | (j0, none) :: r, hp, j, i, h => by
    simp only [pinOk, Bool.and_eq_true] at hp
    rcases List.mem_cons.1 h with e | h
    · simp at e
    · exact pinOk_some hp.2 j i h
theorem pinOk_none : ∀ {m : IdMap}, pinOk m = true → ∀ j, (j, none) ∈ m → j < 500000
  | [], _, _, h => by simp at h
  | (j0, some i0) :: r, hp, j, h => by
    simp only [pinOk, Bool.and_eq_true] at hp
    rcases List.mem_cons.1 h with e | h
    · simp at e
    · exact pinOk_none hp.2 j h
  | (j0, none) :: r, hp, j, h => by
    simp only [pinOk, Bool.and_eq_true] at hp
    rcases List.mem_cons.1 h with e | h
    · simp only [Prod.mk.injEq, and_true] at e
      subst e
      have := hp.1
      rwa [Nat.blt_eq] at this
    · exact pinOk_none hp.2 j h

theorem pair_ok {m : IdMap} (h : (m.all fun x => m.all fun y => pairOk x y) = true) {x y : Nat × Option Nat} (hx : x ∈ m) (hy : y ∈ m) : pairOk x y = true :=
  List.all_eq_true.1 (List.all_eq_true.1 h x hx) y hy
theorem pair_fun {m : IdMap} (h : (m.all fun x => m.all fun y => pairOk x y) = true) {j : Nat} {a c : Option Nat} (hx : (j, a) ∈ m) (hy : (j, c) ∈ m) : a = c := by
  have := pair_ok h hx hy
  unfold pairOk at this
  cases a with
  | none => cases c with
    | none => rfl
    | some c => simp at this
  | some a => cases c with
    | none => simp at this
    | some c => simpa [Nat.beq_eq] using this
theorem pair_inj {m : IdMap} (h : (m.all fun x => m.all fun y => pairOk x y) = true) {j j' i : Nat} (hx : (j, some i) ∈ m) (hy : (j', some i) ∈ m) : j = j' := by
  have := pair_ok h hx hy
  unfold pairOk at this
  simpa using this
theorem aget_some {α : Type} {j : Nat} {a : α} : ∀ {m : List (Nat × α)}, (j, a) ∈ m → ∃ c, aget m j = some c ∧ (j, c) ∈ m
  | [], h => by simp at h
  | (j0, a0) :: r, h => by
    rw [aget_cons]
    by_cases hj : j0 = j
    · subst hj; exact ⟨a0, by simp, by simp⟩
    · rw [if_neg hj]
      rcases List.mem_cons.1 h with e | h
      · simp only [Prod.mk.injEq] at e
        exact absurd e.1.symm hj
      · obtain ⟨c, h1, h2⟩ := aget_some h
        exact ⟨c, h1, List.mem_cons_of_mem _ h2⟩
theorem aget_pair {m : IdMap} (h : (m.all fun x => m.all fun y => pairOk x y) = true) {j : Nat} {a : Option Nat} (hx : (j, a) ∈ m) : aget m j = some a := by
  obtain ⟨c, h1, h2⟩ := aget_some hx
  rw [h1, pair_fun h hx h2]

section
variable {n0 : Nat} {A : Fx} {O0 : Nat → Prop} {w0 w : World} {s : AS} {σ : Nat → Value} {φ : Nat → List Nat} {a : Act}

theorem inst_ok (h : Conc n0 A O0 w0 s σ φ a w) {p : Tpl} {x : p.X} (he : ext p s = some x) : ∃ σ' φ', Conc n0 A O0 w0 (inst p x s.n) σ' φ' a w := by
  unfold ext at he
  split at he
  · rename_i x1 m1 h1
    split at he
    · rename_i x2 m h2
      simp only [cond_none_some] at he
      obtain ⟨hmo, he⟩ := he
      simp only [Option.some.injEq] at he
      subst he
      simp only [mapOk, Bool.and_eq_true] at hmo
      obtain ⟨hn1, hpo⟩ := hmo
      obtain ⟨hm1, hB⟩ := extB_ok h2 (fun p hp => hp)
      obtain ⟨hT1, hT2⟩ := extT_ok h1 hm1
      let σ' : Nat → Value := fun j => match aget m j with
        | some (some i) => σ i
        | some none => .slice none 0 0
        | none => σ j
      let φ' : Nat → List Nat := fun j => match aget m j with
        | some (some i) => φ i
        | _ => []
      have hσs : ∀ j i, (j, some i) ∈ m → σ' j = σ i ∧ φ' j = φ i := fun j i hj => by
        have := aget_pair hn1 hj
        simp only [σ', φ', this, and_self]
      have hσn : ∀ j, (j, none) ∈ m → σ' j = .slice none 0 0 ∧ φ' j = [] := fun j hj => by
        have := aget_pair hn1 hj
        simp only [σ', φ', this, and_self]
      have hent : ∀ j blk, (inst p (x1, x2) s.n).heap j = some blk → Entry s m j blk := by
        intro j blk hj
        have hmem := AS.heap_mem hj
        simp only [inst] at hmem
        rcases List.mem_append.1 hmem with hmem | hmem
        · obtain ⟨blk', e, hE⟩ := hT2 _ hmem
          simp only [Option.some.injEq] at e
          subst e
          exact hE
        · obtain ⟨blk', e, hE⟩ := hB _ hmem
          simp only [Option.some.injEq] at e
          subst e
          exact hE
      have hlive : ∀ j blk, (inst p (x1, x2) s.n).heap j = some blk → φ' j = [] ∨ ∃ i blk0, (j, some i) ∈ m ∧ s.heap i = some blk0 ∧ φ' j = φ i := by
        intro j blk hj
        rcases hent j blk hj with ⟨hn, _⟩ | ⟨i, hi, ⟨e, dp, dp', xs, _, hb, _⟩ | ⟨ρ, d, td, y, m0, _, hb, _⟩ | ⟨e, xs, k, x, p, τ, d, td, y, m0, _, hb, _⟩ | ⟨e, xs, k, _, hb | ⟨hb, _⟩⟩⟩
        · exact .inl (hσn j hn).2
        · exact .inr ⟨i, _, hi, hb, (hσs j i hi).2⟩
        · exact .inr ⟨i, _, hi, hb, (hσs j i hi).2⟩
        · exact .inr ⟨i, _, hi, hb, (hσs j i hi).2⟩
        · exact .inr ⟨i, _, hi, hb, (hσs j i hi).2⟩
        · exact .inr ⟨i, _, hi, hb, (hσs j i hi).2⟩
      have hOO : ∀ b, b < w.heap.size → ¬ OO O0 s φ b → ¬ OO O0 (inst p (x1, x2) s.n) φ' b := by
        rintro b _ hno (ho | ⟨j, blk, hj, hm⟩)
        · exact hno (.inl ho)
        · rcases hlive j blk hj with hφ | ⟨i, blk0, _, hb, hφ⟩
          · rw [hφ] at hm; simp at hm
          · rw [hφ] at hm; exact hno (.inr ⟨i, blk0, hb, hm⟩)
      have hTOk : TOk s σ σ' (inst p (x1, x2) s.n).heap m := by
        refine ⟨fun j i hj => (hσs j i hj).1, fun j hj => (hσn j hj).1, fun j i ρ d hj hb => ?_, fun j i blk r hj hb hr => ?_⟩
        rcases hent j _ hb with ⟨hn, e, dp, hh⟩ | ⟨i', hi', ⟨e, dp, dp', xs, hh, _⟩ | ⟨ρ', d', td, y, m0, hh, hb', _⟩ | ⟨e, xs, k, x, p, τ, d', td, y, m0, hh, _⟩ | ⟨e, xs, k, hh, _⟩⟩
        · simp at hh
        · simp at hh
        · simp only [Blk.box.injEq] at hh
          have e1 := aget_pair hn1 hj
          have e2 := aget_pair hn1 hi'
          rw [e1] at e2
          simp only [Option.some.injEq] at e2
          subst e2
          exact ⟨d', by rw [hb', hh.1]⟩
        · simp at hh
        · simp at hh
        · have e1 := aget_pair hn1 hj
          rcases hent j _ hb with ⟨hn, _⟩ | ⟨i', hi', hx⟩
          · have e2 := aget_pair hn1 hn
            rw [e1] at e2
            simp at e2
          · have e2 := aget_pair hn1 hi'
            rw [e1] at e2
            simp only [Option.some.injEq] at e2
            subst e2
            rcases hx with ⟨e, dp, dp', xs, rfl, hb', _⟩ | ⟨ρ', d', td, y, m0, rfl, _⟩ | ⟨e, xs, k, x, p, τ, d', td, y, m0, rfl, hb', _⟩ | ⟨e, xs, k, rfl, hb' | ⟨hb', _⟩⟩
            · exact ⟨_, hb', hr⟩
            · simp [Blk.rowN] at hr
            · exact ⟨_, hb', hr⟩
            · exact ⟨_, hb', hr⟩
            · exact ⟨_, hb', hr⟩
      refine ⟨σ', φ', h.sz, h.df, ?_, ?_, ?_, ?_, ?_, h.o0, h.fr, ?_, h.iv0, h.ivw⟩
      · intro t d' hd
        obtain ⟨td, d, y, m0, g1, g2, g3, g4⟩ := hT1 t d' hd
        obtain ⟨v, hv, hr⟩ := h.tm t d g1
        rw [g4]
        exact ⟨v, hv, extD_okU hTOk hOO g2 g3 hr⟩
      · intro j blk hj
        rcases hent j blk hj with ⟨hn, e, dp, rfl⟩ | ⟨i, hi, ⟨e, dp, dp', xs, rfl, hb, hd⟩ | ⟨ρ, d, td, y, m0, rfl, hb, hex, hsub, hsh⟩ | ⟨e, xs, k, x, p, τ, d, td, y, m0, rfl, hb, hex, hsub, hsh⟩ | ⟨e, xs, k, rfl, hb⟩⟩
        · rw [rowV_iff, (hσn j hn).1, (hσn j hn).2]
          exact ⟨by simp, .inl ⟨rfl, rfl, rfl⟩⟩
        · rw [rowV_iff, (hσs j i hi).1, (hσs j i hi).2]
          have hrow := rowV_iff.1 (h.hp i _ hb)
          have hst : ∀ dq, RowV w (OO O0 s φ) dq e xs (σ i) (φ i) → RowV w (OO O0 (inst p (x1, x2) s.n) φ') dq e xs (σ i) (φ i) := by
            rintro dq ⟨hm, g | ⟨bl, off, cap, cur, et, Fs, g1, hh, g2, g3, g4, hF, hel⟩⟩
            · exact ⟨hm, .inl g⟩
            · exact ⟨hm, .inr ⟨bl, off, cap, cur, et, Fs, g1, hh, g2, g3, g4, hF, hel.stable (fun _ _ _ => rfl) hOO (fun _ _ => rfl)⟩⟩
          rcases hd with rfl | hf
          · exact hst _ hrow
          · have hup := hrow.up
            rw [hf, Bool.or_true] at hup
            cases dp with
            | true => exact hst _ hup
            | false =>
              cases dp' with
              | false => exact hst _ hrow
              | true =>
                have hown := row_own (h.hp i _ hb) (.inl rfl)
                exact hst _ (rowV_iff.1 (own_row (O := OO O0 s φ) (hp := s.heap) hown hf))
        · rw [(hσs j i hi).2]
          obtain ⟨_, b, cur, et, g1, hh, hF, hr, hsz⟩ := h.hp i _ hb
          exact ⟨hsh, b, cur, et, by rw [(hσs j i hi).1]; exact g1, hh, hF, extD_ok hTOk hOO hex hsub hr, hsz⟩
        · rw [(hσs j i hi).2]
          obtain ⟨_, g1, g2, g3, bl, off, cap, cur, et, g4, g5, g6, g7, hr, hw⟩ := h.hp i _ hb
          refine ⟨hsh, g1, g2, g3, bl, off, cap, cur, et, by rw [(hσs j i hi).1]; exact g4, g5, g6, g7, extD_ok hTOk hOO hex hsub hr, fun w' c' h1 h2 h3 y Fy x' h4 h5 => ?_⟩
          rw [(hσs j i hi).1]
          exact hw w' c' h1 h2 h3 y Fy x' h4 h5
        · rw [(hσs j i hi).2]
          have hm0 : BlkRep w (OO O0 s φ) s.heap σ i (.mov e xs k) (φ i) := by
            rcases hb with hb | ⟨hb, rfl⟩
            · exact h.hp i _ hb
            · exact row_mov0 (h.hp i _ hb)
          obtain ⟨hlen, ⟨g1, g2, g3⟩ | ⟨bl, off, cap, cur, et, Fs, g1, g⟩⟩ := hm0
          · exact ⟨hlen, .inl ⟨by rw [(hσs j i hi).1]; exact g1, g2, g3⟩⟩
          · exact ⟨hlen, .inr ⟨bl, off, cap, cur, et, Fs, by rw [(hσs j i hi).1]; exact g1, g⟩⟩
      · intro j blk hj
        rcases hlive j blk hj with hφ | ⟨i, blk0, _, hb, hφ⟩
        · rw [hφ]; exact List.nodup_nil
        · rw [hφ]; exact h.nodup i blk0 hb
      · intro j j' blk blk' hne hj hj' b hb hb'
        rcases hlive j blk hj with hφ | ⟨i, blk0, hi, hbi, hφ⟩
        · rw [hφ] at hb; simp at hb
        · rcases hlive j' blk' hj' with hφ' | ⟨i', blk0', hi', hbi', hφ'⟩
          · rw [hφ'] at hb'; simp at hb'
          · rw [hφ] at hb
            rw [hφ'] at hb'
            by_cases hii : i = i'
            · subst hii
              exact hne (pair_inj hn1 hi hi')
            · exact h.disj i i' blk0 blk0' hii hbi hbi' b hb hb'
      · intro j blk hj b hb
        rcases hlive j blk hj with hφ | ⟨i, blk0, _, hbi, hφ⟩
        · rw [hφ] at hb; simp at hb
        · rw [hφ] at hb; exact h.fresh i blk0 hbi b hb
      · intro j v hv
        have hlow := A.low j v hv
        show σ' j = v
        simp only [σ']
        split
        · rename_i i hg
          rcases pinOk_some hpo j i (aget_mem hg) with ⟨hj, _⟩ | rfl
          · omega
          · exact h.pin _ v hv
        · rename_i hg
          have := pinOk_none hpo j (aget_mem hg)
          omega
        · exact h.pin j v hv
    · simp at he
  · simp at he
end
end KF

namespace KF
open Go

def exOf : Ex → Exit
  | .normal => .normal
  | .exit id => .exit id
  | .ret => .ret

def Iter {X R : Type} (step : X → Option (X ⊕ R)) : Nat → X → R → Prop
  | 0, _, _ => False
  | n + 1, x, r => step x = some (.inr r) ∨ ∃ x', step x = some (.inl x') ∧ Iter step n x' r

/-- the bodies of the loops within a piece of code -/
def loopsOf : Code → List Code
  | .seq a b => loopsOf a ++ loopsOf b
  | .cond _ a b => loopsOf a ++ loopsOf b
  | .block _ c => loopsOf c
  | .loop c => c :: loopsOf c
  | _ => []

def LoopOk (G : Env) (L : List (Nat × LoopSem)) (b : Code) : Prop :=
  ∀ r ls, firstRegion b = some r → aget L r = some ls → ∀ x y, ls.F x = some y → ∃ m, Iter (round G L ls b) m x y

section
variable {P : Program} {n0 : Nat} {A : Fx} {O0 : Nat → Prop} {w0 : World} {G : Env} {L : List (Nat × LoopSem)}

theorem evC_ok (hG : EnvOk P A.I G) (hfz : G.fz = true → ∀ b, ¬ A.A b) (hm : P.follows .mixedOrders = true) : ∀ (c : Code), (∀ b, b ∈ loopsOf c → LoopOk G L b) → ∀ {Out : Type} {k : Ex → AS → Option Out} {out : Out} {s : AS} {σ : Nat → Value} {φ : Nat → List Nat} {a : Act} {w : World} {Q : Exit → Act → World → Prop},
    evC G L c s k = some out → Conc n0 A O0 w0 s σ φ a w → (∀ e s σ φ a w, k e s = some out → Conc n0 A O0 w0 s σ φ a w → Q (exOf e) a w) → c.wp P Q a w := by
  intro c
  induction c with
  | skip =>
    intro _ Out k out s σ φ a w Q he h hQ
    simp only [evC] at he
    exact wp_skip (hQ .normal s σ φ a w he h)
  | region id ops draw =>
    intro _ Out k out s σ φ a w Q he h hQ
    simp only [evC] at he
    split at he
    · rename_i s1 h1
      obtain ⟨φ1, hc⟩ := attL_ok hfz h h1
      refine region_ok (k := fun s' => match attL G.fz G.att (1000 * id + 999) s' with
        | some s' => k .normal s'
        | none => none) hG hfz hm hc he fun a w ⟨s', σ', φ', h2, h3⟩ => ?_
      simp only at h2
      split at h2
      · rename_i s2 h4
        obtain ⟨φ2, hc2⟩ := attL_ok hfz h3 h4
        exact hQ .normal _ σ' φ2 a w h2 hc2
      · simp at h2
    · simp at he
  | seq x y ihx ihy =>
    intro hL Out k out s σ φ a w Q he h hQ
    simp only [evC] at he
    refine wp_seq (ihx (fun b hb => hL b (by simp [loopsOf, hb])) he h fun e s' σ' φ' a' w' hk h' => ?_)
    cases e with
    | normal => exact ihy (fun b hb => hL b (by simp [loopsOf, hb])) hk h' hQ
    | exit j => exact hQ (.exit j) s' σ' φ' a' w' hk h'
    | ret => exact hQ .ret s' σ' φ' a' w' hk h'
  | cond x y z ihy ihz =>
    intro hL Out k out s σ φ a w Q he h hQ
    cases x with
    | tmp t =>
      simp only [evC] at he
      split at he
      · rename_i β hd
        have hs := h.same hd
        obtain ⟨v, hv, hr⟩ := h.tm t _ hd
        rw [repU_bool] at hr
        subst hr
        have hev : a.eval (.tmp t) = .bool β := by
          simp only [Act.eval]
          rw [Array.getD_eq_getD_getElem?, hv]
          rfl
        refine wp_cond_split hev (fun hb => ?_) (fun hb => ?_)
        · subst hb
          simp only [cond_true] at he
          exact ihy (fun b hb => hL b (by simp [loopsOf, hb])) he hs hQ
        · subst hb
          simp only [cond_false] at he
          exact ihz (fun b hb => hL b (by simp [loopsOf, hb])) he hs hQ
      · simp at he
    | const cv =>
      cases cv with
      | bool β =>
        simp only [evC] at he
        refine wp_cond_split (show a.eval (.const (.bool β)) = .bool β from rfl) (fun hb => ?_) (fun hb => ?_)
        · subst hb
          simp only [cond_true] at he
          exact ihy (fun b hb => hL b (by simp [loopsOf, hb])) he h hQ
        · subst hb
          simp only [cond_false] at he
          exact ihz (fun b hb => hL b (by simp [loopsOf, hb])) he h hQ
      | _ => simp [evC] at he
    | _ => simp [evC] at he
  | block id c ih =>
    intro hL Out k out s σ φ a w Q he h hQ
    simp only [evC] at he
    refine wp_block (ih (fun b hb => hL b (by simpa [loopsOf] using hb)) he h fun e s' σ' φ' a' w' hk h' => ?_)
    cases e with
    | normal => exact hQ .normal s' σ' φ' a' w' hk h'
    | exit j =>
      simp only [exOf, Exit.inBlock]
      cases hb : Nat.beq j id with
      | true =>
        rw [if_pos (Nat.eq_of_beq_eq_true hb)]
        simp only [hb, cond_true] at hk
        exact hQ .normal s' σ' φ' a' w' hk h'
      | false =>
        rw [if_neg (fun e => by rw [e, Nat.beq_refl] at hb; simp at hb)]
        simp only [hb, cond_false] at hk
        exact hQ (.exit j) s' σ' φ' a' w' hk h'
    | ret => exact hQ .ret s' σ' φ' a' w' hk h'
  | exit id =>
    intro _ Out k out s σ φ a w Q he h hQ
    simp only [evC] at he
    exact wp_exit (hQ (.exit id) s σ φ a w he h)
  | ret =>
    intro _ Out k out s σ φ a w Q he h hQ
    simp only [evC] at he
    exact wp_ret (hQ .ret s σ φ a w he h)
  | loop c ih =>
    intro hL Out k out s σ φ a w Q he h hQ
    simp only [evC] at he
    split at he
    · rename_i r hr
      split at he
      · rename_i ls hls
        split at he
        · rename_i x hx
          simp only [cond_none_some] at he
          obtain ⟨hn, he⟩ := he
          have hn := Nat.eq_of_beq_eq_true hn
          rw [Option.bind_eq_some_iff] at he
          obtain ⟨y, hy, he⟩ := he
          obtain ⟨m, hit⟩ := hL c (by simp [loopsOf]) r ls hr hls x y hy
          obtain ⟨σ1, φ1, h1⟩ := inst_ok h hx
          rw [hn] at h1 he
          refine wp_loop_rounds m ?_
          have key : ∀ (m : Nat) (x : ls.inT.X) (σ : Nat → Value) (φ : Nat → List Nat) (a : Act) (w : World), Iter (round G L ls c) m x y → Conc n0 A O0 w0 (inst ls.inT x ls.n) σ φ a w → Code.rounds P c Q m a w := by
            intro m
            induction m with
            | zero => intro x σ φ a w hit _; exact hit.elim
            | succ m ihm =>
              intro x σ φ a w hit h
              rw [rounds_succ]
              have body : ∀ z, round G L ls c x = some z → (z = .inr y ∨ ∃ x', z = .inl x' ∧ Iter (round G L ls c) m x' y) → c.wp P (Exit.then (Code.rounds P c Q m) Q) a w := by
                intro z hz hzy
                unfold round at hz
                refine ih (fun b hb => hL b (by simp [loopsOf, hb])) hz h fun e s' σ' φ' a' w' hk h' => ?_
                simp only [cond_none_some] at hk
                obtain ⟨hn', hk⟩ := hk
                have hn' := Nat.eq_of_beq_eq_true hn'
                cases e with
                | normal =>
                  simp only at hk
                  split at hk
                  · rename_i x' hx'
                    simp only [Option.some.injEq] at hk
                    obtain ⟨σ2, φ2, h2⟩ := inst_ok h' hx'
                    rw [hn'] at h2
                    rcases hzy with hzy | ⟨x'', hzy, hit'⟩
                    · rw [hzy] at hk; simp at hk
                    · rw [hzy] at hk
                      simp only [Sum.inl.injEq] at hk
                      subst hk
                      exact ihm x' σ2 φ2 a' w' hit' h2
                  · simp at hk
                | exit j =>
                  simp only [cond_none_some] at hk
                  obtain ⟨hj, hk⟩ := hk
                  have hj := Nat.eq_of_beq_eq_true hj
                  split at hk
                  · rename_i y' hy'
                    simp only [Option.some.injEq] at hk
                    obtain ⟨σ2, φ2, h2⟩ := inst_ok h' hy'
                    rw [hn'] at h2
                    rcases hzy with hzy | ⟨x'', hzy, _⟩
                    · rw [hzy] at hk
                      simp only [Sum.inr.injEq] at hk
                      subst hk
                      simp only [Sum.elim_inl] at he
                      show Q (.exit j) a' w'
                      rw [hj]
                      exact hQ (.exit ls.exitId) _ σ2 φ2 a' w' he h2
                    · rw [hzy] at hk; simp at hk
                  · simp at hk
                | ret =>
                  simp only at hk
                  split at hk
                  · rename_i y' hy'
                    simp only [Option.some.injEq] at hk
                    obtain ⟨σ2, φ2, h2⟩ := inst_ok h' hy'
                    rw [hn'] at h2
                    rcases hzy with hzy | ⟨x'', hzy, _⟩
                    · rw [hzy] at hk
                      simp only [Sum.inr.injEq] at hk
                      subst hk
                      simp only [Sum.elim_inr] at he
                      exact hQ .ret _ σ2 φ2 a' w' he h2
                    · rw [hzy] at hk; simp at hk
                  · simp at hk
              rcases hit with hit | ⟨x', hit, hit'⟩
              · exact body _ hit (.inl rfl)
              · exact body _ hit (.inr ⟨x', rfl, hit'⟩)
          exact key m x σ1 φ1 a w hit h1
        · simp at he
      · simp at he
    · simp at he
  | _ => intros; rename_i he _ _; simp [evC] at he
end
end KF

namespace KF
open Go

theorem RParts.mono {w : World} {O O' : Nat → Prop} (hO : ∀ b, O' b → O b) : ∀ {rt : Ty} {r : T rt} {fr : List Bool} {vs : List Value} {F : List Nat}, RParts w O rt r fr vs F → RParts w O' rt r fr vs F
  | .u, _, [], [], _, h => h
  | .p x y, r, f :: fr, v :: vs, F, h => by
    obtain ⟨cs, F1, F2, hv, hF, h1, h2⟩ := h
    refine ⟨cs, F1, F2, hv, hF, ?_, RParts.mono hO h2⟩
    cases f with
    | true => exact h1
    | false =>
      simp only [Bool.false_eq_true, if_false] at h1 ⊢
      exact ⟨h1.1.weaken hO, h1.2⟩
  | .u, _, _ :: _, _, _, h => by simp [RParts] at h
  | .u, _, [], _ :: _, _, h => by simp [RParts] at h
  | .p _ _, _, [], _, _, h => by simp [RParts] at h
  | .p _ _, _, _ :: _, [], _, h => by simp [RParts] at h
  | .i _, _, fr, vs, _, h => by simp [RParts] at h
  | .b, _, fr, vs, _, h => by simp [RParts] at h
  | .o, _, fr, vs, _, h => by simp [RParts] at h
  | .s, _, fr, vs, _, h => by simp [RParts] at h
  | .sl _, _, fr, vs, _, h => by simp [RParts] at h

section
variable {P : Program} {n0 : Nat} {A : Fx} {O0 : Nat → Prop} {w0 w : World} {s : AS} {σ : Nat → Value} {φ : Nat → List Nat} {a : Act} {G : Env} {L : List (Nat × LoopSem)}

def RU (w : World) (O : Nat → Prop) (hp : Nat → Option Blk) (σ : Nat → Value) : D → List Value → Prop
  | .pr a b, v :: vs => RepU w O hp σ a v ∧ RU w O hp σ b vs
  | .un, [] => True
  | _, _ => False

def resOne (tmps : Array Value) : ResultVar → Sem Value
  | .tmp t => pure (tmps.getD t undef)
  | .cell a t => do loadVar t (← asAddr (tmps.getD a undef))

theorem resDs_ok (hG : EnvTy P G) (h : Conc n0 A O0 w0 s σ φ a w) : ∀ {rs : List ResultVar} {d : D}, resDs G s rs = some d → ∃ vs, (rs.mapM (resOne a.tmps)).run P w = .ok vs w ∧ RU w (OO O0 s φ) s.heap σ d vs
  | [], d, he => by
    simp only [resDs, Option.some.injEq] at he
    subst he
    exact ⟨[], by simp, trivial⟩
  | .tmp t :: r, d, he => by
    simp only [resDs] at he
    split at he
    · rename_i d1 d2 h1 h2
      simp only [Option.some.injEq] at he
      subst he
      obtain ⟨vs, hvs, hr⟩ := resDs_ok hG h h2
      obtain ⟨v, hv, hru⟩ := h.tm t d1 h1
      have hg : a.tmps.getD t undef = v := by rw [Array.getD_eq_getD_getElem?, hv]; rfl
      refine ⟨v :: vs, ?_, hru, hr⟩
      rw [List.mapM_cons]
      simp only [resOne, Sem.run_bind, Sem.run_pure, Result.andThen_ok, hvs, hg]
    · simp at he
  | .cell t ty :: r, d, he => by
    simp only [resDs] at he
    split at he
    · rename_i id d2 h1 h2
      split at he
      · rename_i ρ d1 τ hb hty
        split at he
        · rename_i q hq
          obtain rfl := q.down
          simp only [Option.some.injEq] at he
          subst he
          obtain ⟨vs, hvs, hr⟩ := resDs_ok hG h h2
          obtain ⟨v, hv, hru⟩ := h.tm t _ h1
          have hg : a.tmps.getD t undef = v := by rw [Array.getD_eq_getD_getElem?, hv]; rfl
          rw [repU_ptr] at hru
          obtain ⟨b, hσ, hv'⟩ := hru.2 _ _ hb
          obtain ⟨hs, b', cur, et, hσ', hh, hF, hrep, hsz⟩ := h.hp id _ hb
          rw [hσ] at hσ'
          simp at hσ'
          subst hσ'
          have hl := run_loadVar' (P := P) (hG.ty _ _ hty) (off := 0) hh (by omega)
          have hseg : seg cur 0 ρ.size = cur.toList := by rw [← hsz]; exact seg_all cur
          rw [hseg] at hl
          refine ⟨vof ρ cur.toList :: vs, ?_, repU_vof hs hrep, hr⟩
          rw [List.mapM_cons]
          have hoff : offAt ρ [] = 0 := rfl
          rw [hoff] at hv'
          subst hv'
          simp only [resOne, Sem.run_bind, Sem.run_pure, Result.andThen_ok, hvs, hg, asAddr, hl]
        · simp at he
      · simp at he
    · simp at he

theorem resT_ok (h : Conc n0 A O0 w0 s σ φ a w) : ∀ {rt : Ty} {fr : List Bool} {d : D} {r : T rt} {l : List Nat} {vs : List Value}, resT s rt fr d = some (r, l) → RU w (OO O0 s φ) s.heap σ d vs →
    RParts w (OO O0 s φ) rt r fr vs (blocks φ l) ∧ ∀ j, j ∈ l → ∃ b, s.heap j = some b
  | .u, [], .un, r, l, vs, he, hr => by
    simp only [resT, Option.some.injEq, Prod.mk.injEq] at he
    obtain ⟨_, rfl⟩ := he
    cases vs with
    | nil => exact ⟨by simp [RParts, blocks], by simp⟩
    | cons v vs => simp [RU] at hr
  | .p x y, f :: fr, .pr d1 d2, r, l, vs, he, hr => by
    cases vs with
    | nil => simp [RU] at hr
    | cons v vs =>
      simp only [resT] at he
      split at he
      · rename_i u l1 z l2 h1 h2
        simp only [Option.some.injEq, Prod.mk.injEq] at he
        obtain ⟨rfl, rfl⟩ := he
        obtain ⟨g1, g2⟩ := resT_ok h h2 hr.2
        cases f with
        | true =>
          simp only [cond_true] at h1
          obtain ⟨hrep, hv⟩ := rep_cells (ownT_shape h1) hr.1
          obtain ⟨ho, hl⟩ := ownT_ok h h1 hrep
          refine ⟨⟨_, blocks φ l1, blocks φ l2, hv, blocks_append, ?_, g1⟩, ?_⟩
          · simpa using ho
          · intro j hj
            rcases List.mem_append.1 hj with hj | hj
            · exact hl j hj
            · exact g2 j hj
        | false =>
          simp only [cond_false] at h1
          split at h1
          · rename_i u' hu
            simp only [Option.some.injEq, Prod.mk.injEq] at h1
            obtain ⟨rfl, rfl⟩ := h1
            obtain ⟨hs, hvw⟩ := toT_view (w := w) (O := OO O0 s φ) (hp := s.heap) (σ := σ) hu
            obtain ⟨hrep, hv⟩ := rep_cells hs hr.1
            refine ⟨⟨_, [], blocks φ l2, hv, by simp [blocks], ?_, g1⟩, by simpa using g2⟩
            simpa using hvw _ hrep
          · simp at h1
      · simp at he
  | .u, _ :: _, d, _, _, _, he, _ => by cases d <;> simp [resT] at he
  | .u, [], .und, _, _, _, he, _ => by simp [resT] at he
  | .u, [], .anyv, _, _, _, he, _ => by simp [resT] at he
  | .u, [], .t _ _, _, _, _, he, _ => by simp [resT] at he
  | .u, [], .nil, _, _, _, he, _ => by simp [resT] at he
  | .u, [], .own _, _, _, _, he, _ => by simp [resT] at he
  | .u, [], .ptr _ _, _, _, _, he, _ => by simp [resT] at he
  | .u, [], .eptr _ _ _, _, _, _, he, _ => by simp [resT] at he
  | .u, [], .rp _ _, _, _, _, he, _ => by simp [resT] at he
  | .u, [], .pr _ _, _, _, _, he, _ => by simp [resT] at he
  | .u, [], .tup _, _, _, _, he, _ => by simp [resT] at he
  | .p _ _, [], d, _, _, _, he, _ => by cases d <;> simp [resT] at he
  | .p _ _, _ :: _, .und, _, _, _, he, _ => by simp [resT] at he
  | .p _ _, _ :: _, .anyv, _, _, _, he, _ => by simp [resT] at he
  | .p _ _, _ :: _, .t _ _, _, _, _, he, _ => by simp [resT] at he
  | .p _ _, _ :: _, .nil, _, _, _, he, _ => by simp [resT] at he
  | .p _ _, _ :: _, .own _, _, _, _, he, _ => by simp [resT] at he
  | .p _ _, _ :: _, .ptr _ _, _, _, _, he, _ => by simp [resT] at he
  | .p _ _, _ :: _, .eptr _ _ _, _, _, _, he, _ => by simp [resT] at he
  | .p _ _, _ :: _, .rp _ _, _, _, _, he, _ => by simp [resT] at he
  | .p _ _, _ :: _, .un, _, _, _, he, _ => by simp [resT] at he
  | .p _ _, _ :: _, .tup _, _, _, _, he, _ => by simp [resT] at he
  | .i _, fr, d, _, _, _, he, _ => by cases fr <;> cases d <;> simp [resT] at he
  | .b, fr, d, _, _, _, he, _ => by cases fr <;> cases d <;> simp [resT] at he
  | .o, fr, d, _, _, _, he, _ => by cases fr <;> cases d <;> simp [resT] at he
  | .s, fr, d, _, _, _, he, _ => by cases fr <;> cases d <;> simp [resT] at he
  | .sl _, fr, d, _, _, _, he, _ => by cases fr <;> cases d <;> simp [resT] at he

theorem run_results {fn : Func} {vs : List Value} (h : (fn.results.toList.mapM (resOne a.tmps)).run P w = .ok vs w) : (results fn a.tmps).run P w = .ok (oneV vs) w := by
  unfold results
  rw [Array.mapM_eq_mapM_toList]
  simp only [map_eq_pure_bind, bind_assoc, pure_bind, Sem.run_bind, Sem.run_pure]
  show (Sem.run P (List.mapM (resOne a.tmps) fn.results.toList) w).andThen (fun vs w' => Result.ok (if h : vs.toArray.size = 1 then vs.toArray[0] else Value.tuple vs.toArray) w') = _
  rw [h]
  simp only [Result.andThen_ok]
  congr 1
  cases vs with
  | nil => rfl
  | cons v vs => cases vs <;> rfl
end
end KF

namespace KF
open Go

/-- how many parameters -/
def Ty.npar : Ty → Nat
  | .p _ y => y.npar + 1
  | _ => 0

theorem vargs_len {w : World} {O : Nat → Prop} : ∀ {pt : Ty} {x : T pt} {args : List Value}, VArgs w O pt x args → args.length = pt.npar
  | .u, _, [], _ => rfl
  | .p x y, v, a :: r, h => by simp [Ty.npar, vargs_len h.2]
  | .u, _, _ :: _, h => by simp [VArgs] at h
  | .p _ _, _, [], h => by simp [VArgs] at h
  | .i _, _, l, h => by simp [VArgs] at h
  | .b, _, l, h => by simp [VArgs] at h
  | .o, _, l, h => by simp [VArgs] at h
  | .s, _, l, h => by simp [VArgs] at h
  | .sl _, _, l, h => by simp [VArgs] at h

theorem parsD_ok {w : World} {O : Nat → Prop} {hp : Nat → Option Blk} {σ : Nat → Value} : ∀ {pt : Ty} {x : T pt} {args : List Value} {n t : Nat} {d : D}, VArgs w O pt x args → aget (parsD pt x n) t = some d →
    ∃ j v, t = n + j ∧ args[j]? = some v ∧ RepU w O hp σ d v
  | .p x y, v, a :: r, n, t, d, h, hd => by
    simp only [parsD] at hd
    rw [aget_cons] at hd
    split at hd
    · rename_i e
      simp only [Option.some.injEq] at hd
      subst hd
      obtain ⟨⟨cs, ha, hv⟩, _⟩ := h
      refine ⟨0, a, by omega, rfl, ?_⟩
      rw [ha]
      exact repU_vof (τ := x) (by simp [Shape]) hv
    · obtain ⟨j, v', h1, h2, h3⟩ := parsD_ok (hp := hp) (σ := σ) h.2 hd
      exact ⟨j + 1, v', by omega, by simpa using h2, h3⟩
  | .p _ _, _, [], _, _, _, h, _ => by simp [VArgs] at h
  | .u, _, _, _, _, _, _, hd => by simp [parsD, aget] at hd
  | .i _, _, _, _, _, _, h, _ => by simp [VArgs] at h
  | .b, _, _, _, _, _, h, _ => by simp [VArgs] at h
  | .o, _, _, _, _, _, h, _ => by simp [VArgs] at h
  | .s, _, _, _, _, _, h, _ => by simp [VArgs] at h
  | .sl _, _, _, _, _, _, h, _ => by simp [VArgs] at h

section
variable {P : Program} {G : Env} {L : List (Nat × LoopSem)}

variable {I : Inv}

def noFx (I : Inv) : Fx := ⟨fun _ => False, fun _ => none, fun _ _ h => by simp at h, I, fun _ h => h.elim⟩

theorem sound_pu (hG : EnvOk P I G) (hm : P.follows .mixedOrders = true) {f : FuncId} {fn : Func} {c : Code} (hf : P.funcs[f]? = some fn) (hb : fn.body = some c) (hname : (fn.name == "runtime.NumGoroutine") = false)
    (hL : ∀ b, b ∈ loopsOf c → LoopOk G L b) {pt rt : Ty} {fr : List Bool} {F : T pt → Option (T rt)} (hn : pt.npar ≤ fn.ntmps) (hF : ∀ x r, F x = some r → evF G L fn pt rt fr x = some r) : Sound P I f (.pu pt rt fr F) := by
  refine ⟨⟨fn, hf, hname, by rw [hb]; rfl⟩, ?_⟩
  intro O w x r args hx hargs hO hI hB
  have he := hF x r hx
  unfold evF at he
  rw [hb] at he
  simp only at he
  refine calls_of_wp hf hb ?_
  have hlen := vargs_len hargs
  have hc : Conc w.heap.size (noFx I) O w ⟨fn.ntmps, parsD pt x 0, []⟩ (fun _ => undef) (fun _ => []) { tmps := args.toArray ++ Array.replicate (fn.ntmps - args.toArray.size) undef, defers := [] } w := by
    have hh : ∀ id, AS.heap ⟨fn.ntmps, parsD pt x 0, []⟩ id = none := fun id => rfl
    refine ⟨?_, rfl, ?_, ?_, ?_, ?_, ?_, hO, ⟨rfl, rfl, rfl, Nat.le_refl _, fun _ _ _ => rfl⟩, ?_, hB, hI⟩
    · simp; omega
    · intro t d hd
      have hOO : OO O ⟨fn.ntmps, parsD pt x 0, []⟩ (fun _ => []) = O := by
        funext b
        simp [OO, hh]
      rw [hOO]
      obtain ⟨j, v, h1, h2, h3⟩ := parsD_ok hargs hd
      refine ⟨v, ?_, h3⟩
      have hj : j < args.length := (List.getElem?_eq_some_iff.1 h2).1
      have : t = j := by omega
      subst this
      rw [Array.getElem?_append_left (by simpa using hj)]
      simpa using h2
    · intro id blk hb; rw [hh] at hb; simp at hb
    · intro id blk hb; rw [hh] at hb; simp at hb
    · intro id id' blk blk' _ hb; rw [hh] at hb; simp at hb
    · intro id blk hb; rw [hh] at hb; simp at hb
    · intro id v hv; simp [noFx] at hv
  refine evC_ok (A := noFx I) hG (fun _ _ h => h) hm c hL he hc ?_
  intro e s σ φ a w' hk h
  have fin : (match resDs G s fn.results.toList with
        | some d => match resT s rt fr d with
          | some (r, l) => bif nodupB l then some r else none
          | none => none
        | none => none) = some r → a.defers = [] ∧ ∃ v, (results fn a.tmps).run P w' = .ok v w' ∧ Returns (fun v w' => ∃ vs Fr, v = oneV vs ∧ Kept w w' (fun _ => False) ∧ RParts w' (fun b => O b ∨ b ∈ Fr) rt r fr vs Fr ∧ Fr.Nodup ∧ ∀ b ∈ Fr, w.heap.size ≤ b) (.returned v) w' := by
    intro hk
    split at hk
    · rename_i d hd
      split at hk
      · rename_i r' l hr
        simp only [cond_none_some] at hk
        obtain ⟨hnd, hk⟩ := hk
        simp only [Option.some.injEq] at hk
        subst hk
        have hnd := nodupB_ok hnd
        obtain ⟨vs, hvs, hru⟩ := resDs_ok hG.toEnvTy h hd
        obtain ⟨hR, hlive⟩ := resT_ok h hr hru
        refine ⟨h.df, _, run_results hvs, vs, blocks φ l, rfl, ⟨h.fr.size, fun b hb _ => h.fr.block b hb (fun h => h), h.fr.os, h.fr.tape, h.fr.output⟩, hR.mono ?_, blocks_nodup h hnd hlive, ?_⟩
        · rintro b (hb | hb)
          · exact .inl hb
          · obtain ⟨j, hj, hm'⟩ := mem_blocks.1 hb
            obtain ⟨blk, hbj⟩ := hlive j hj
            exact .inr ⟨j, blk, hbj, hm'⟩
        · intro b hb
          obtain ⟨j, hj, hm'⟩ := mem_blocks.1 hb
          obtain ⟨blk, hbj⟩ := hlive j hj
          exact (h.fresh j blk hbj b hm').resolve_right (fun h => h)
      · simp at hk
    · simp at hk
  cases e with
  | normal => exact fin hk
  | ret => exact fin hk
  | exit j => simp at hk
end
end KF

namespace KF
open Go

/-- a function's body, its first argument handed over -/
def evFio (G : Env) (L : List (Nat × LoopSem)) (fn : Func) (τ pt rt : Ty) (fr : List Bool) (x0 : T τ) (x : T pt) : Option (T τ × T rt) :=
  match fn.body with
  | some c => match openD τ x0 500000 with
    | (d0, rows, _) => evC G L c ⟨fn.ntmps, (0, d0) :: parsD pt x 1, rows⟩ fun e s => match e with
      | .exit _ => none
      | _ => match ownT s d0 τ, resDs G s fn.results.toList with
        | some (x', l0), some d => match resT s rt fr d with
          | some (r, l) => bif nodupB (l0 ++ l) then some (x', r) else none
          | none => none
        | _, _ => none
  | none => none

theorem blocks_apart {φ : Nat → List Nat} : ∀ {L : List Nat}, (blocks φ L).Nodup → ∀ {i j b : Nat}, i ∈ L → j ∈ L → i ≠ j → b ∈ φ i → b ∉ φ j
  | [], _, _, _, _, h, _, _, _ => by simp at h
  | x :: L, hn, i, j, b, hi, hj, hne, hb => by
    intro hb'
    have hx : blocks φ (x :: L) = φ x ++ blocks φ L := by simp [blocks]
    rw [hx, List.nodup_append] at hn
    rcases List.mem_cons.1 hi with e1 | q1
    · rcases List.mem_cons.1 hj with e2 | q2
      · exact hne (e1.trans e2.symm)
      · exact hn.2.2 b (e1 ▸ hb) b (mem_blocks.2 ⟨j, q2, hb'⟩) rfl
    · rcases List.mem_cons.1 hj with e2 | q2
      · exact hn.2.2 b (e2 ▸ hb') b (mem_blocks.2 ⟨i, q1, hb⟩) rfl
      · exact blocks_apart hn.2.1 q1 q2 hne hb hb'

section
variable {P : Program} {G : Env} {L : List (Nat × LoopSem)} {I : Inv}

theorem sound_io (hG : EnvOk P I G) (hfz : G.fz = false) (hm : P.follows .mixedOrders = true) {f : FuncId} {fn : Func} {c : Code} (hf : P.funcs[f]? = some fn) (hb : fn.body = some c) (hname : (fn.name == "runtime.NumGoroutine") = false)
    (hL : ∀ b, b ∈ loopsOf c → LoopOk G L b) {τ pt rt : Ty} {fr : List Bool} {F : T τ → T pt → Option (T τ × T rt)} (hn : pt.npar + 1 ≤ fn.ntmps) (hF : ∀ x0 x r, F x0 x = some r → evFio G L fn τ pt rt fr x0 x = some r) :
    Sound P I f (.io τ pt rt fr F) := by
  refine ⟨⟨fn, hf, hname, by rw [hb]; rfl⟩, ?_⟩
  intro O w x0 x r cs0 F0 args hx hown hF0 hargs hO hI hB hFB
  have he := hF x0 x r hx
  unfold evFio at he
  rw [hb] at he
  simp only at he
  rcases hop : openD τ x0 500000 with ⟨d0, rows, m⟩
  rw [hop] at he
  simp only at he
  obtain ⟨_, hids, hsh, ψ, ν, hbl, hrows, hrep⟩ := openD_ok hop hown
  refine calls_of_wp hf hb ?_
  have hlen := vargs_len hargs
  have hmem : ∀ id blk, AS.heap ⟨fn.ntmps, (0, d0) :: parsD pt x 1, rows⟩ id = some blk → id ∈ rows.map (·.1) ∧ ∃ e xs, blk = .row e true xs ∧ Own w (.sl e) xs [ν id] (ψ id) := by
    intro id blk hb
    have hm := AS.heap_mem hb
    obtain ⟨e, xs, h1, h2⟩ := hrows _ hm
    simp only [Option.some.injEq] at h1
    exact ⟨List.mem_map_of_mem (f := (·.1)) hm, e, xs, h1, h2⟩
  have hF0' : (blocks ψ (rows.map (·.1))).Nodup := by rw [hbl]; exact hF0
  let A : Fx := ⟨(· ∈ F0), fun id => if id ∈ rows.map (·.1) then some (ν id) else none, fun id v h => by
    split at h
    · rename_i hi
      obtain ⟨p, hp, rfl⟩ := List.mem_map.1 hi
      exact (hids p hp).1
    · simp at h, I, hFB⟩
  have hOO : OO (fun b => O b ∨ b ∈ F0) ⟨fn.ntmps, (0, d0) :: parsD pt x 1, rows⟩ ψ = (fun b => O b ∨ b ∈ F0) := by
    funext b
    refine propext ⟨fun h => ?_, .inl⟩
    rcases h with h | ⟨id, blk, hb, hm⟩
    · exact h
    · refine .inr ?_
      rw [← hbl]
      exact mem_blocks.2 ⟨id, (hmem id blk hb).1, hm⟩
  have hc : Conc w.heap.size A (fun b => O b ∨ b ∈ F0) w ⟨fn.ntmps, (0, d0) :: parsD pt x 1, rows⟩ ν ψ { tmps := (vof τ cs0 :: args).toArray ++ Array.replicate (fn.ntmps - (vof τ cs0 :: args).toArray.size) undef, defers := [] } w := by
    refine ⟨?_, rfl, ?_, ?_, ?_, ?_, ?_, ?_, ⟨rfl, rfl, rfl, Nat.le_refl _, fun _ _ _ => rfl⟩, ?_, hB, hI⟩
    · simp; omega
    · intro t d hd
      rw [hOO]
      rw [aget_cons] at hd
      split at hd
      · rename_i e
        subst e
        simp only [Option.some.injEq] at hd
        subst hd
        exact ⟨vof τ cs0, by rw [Array.getElem?_append_left (by simp)]; simp, repU_vof hsh (hrep w _ _ _ fun _ _ => rfl)⟩
      · obtain ⟨j, v, h1, h2, h3⟩ := parsD_ok hargs hd
        refine ⟨v, ?_, h3⟩
        have hj : j < args.length := (List.getElem?_eq_some_iff.1 h2).1
        have : t = j + 1 := by omega
        subst this
        rw [Array.getElem?_append_left (by simpa using hj)]
        simpa using h2
    · intro id blk hb
      obtain ⟨_, e, xs, rfl, h2⟩ := hmem id blk hb
      exact h2
    · intro id blk hb
      have hi := (hmem id blk hb).1
      have : (ψ id).Sublist (blocks ψ (rows.map (·.1))) := by
        unfold blocks
        exact List.sublist_flatten_of_mem (List.mem_map_of_mem hi)
      exact this.nodup hF0'
    · intro id id' blk blk' hne hb hb' b hm
      exact blocks_apart hF0' (hmem id blk hb).1 (hmem id' blk' hb').1 hne hm
    · intro id blk hb b hm
      refine .inr ?_
      show b ∈ F0
      rw [← hbl]
      exact mem_blocks.2 ⟨id, (hmem id blk hb).1, hm⟩
    · rintro b (hb | hb)
      · exact hO b hb
      · exact hown.lt b hb
    · intro id v hv
      simp only [A] at hv
      split at hv
      · simpa using hv
      · simp at hv
  refine evC_ok (A := A) hG (fun h => by rw [hfz] at h; simp at h) hm c hL he hc ?_
  intro e s σ φ a w' hk h
  have fin : (match ownT s d0 τ, resDs G s fn.results.toList with
        | some (x', l0), some d => match resT s rt fr d with
          | some (r, l) => bif nodupB (l0 ++ l) then some (x', r) else none
          | none => none
        | _, _ => none) = some r → a.defers = [] ∧ ∃ v, (results fn a.tmps).run P w' = .ok v w' ∧ Returns (fun v w' => ∃ vs F1 Fr, v = oneV vs ∧ Kept w w' (· ∈ F0) ∧ Own w' τ r.1 cs0 F1 ∧ (∀ b ∈ F1, w.heap.size ≤ b ∨ b ∈ F0) ∧
        RParts w' (fun b => O b ∨ b ∈ F0 ∨ b ∈ F1 ∨ b ∈ Fr) rt r.2 fr vs Fr ∧ (F1 ++ Fr).Nodup ∧ ∀ b ∈ Fr, w.heap.size ≤ b ∨ b ∈ F0) (.returned v) w' := by
    intro hk
    split at hk
    · rename_i x' l0 d hx' hd
      split at hk
      · rename_i r' l hr
        simp only [cond_none_some] at hk
        obtain ⟨hnd, hk⟩ := hk
        simp only [Option.some.injEq] at hk
        subst hk
        have hnd := nodupB_ok hnd
        have hr0 : Rep w' (OO (fun b => O b ∨ b ∈ F0) s φ) s.heap σ d0 cs0 := by
          refine hrep w' _ _ _ fun p hp => h.pin p.1 (ν p.1) ?_
          show (if p.1 ∈ rows.map (·.1) then some (ν p.1) else none) = _
          rw [if_pos (List.mem_map_of_mem (f := (·.1)) hp)]
        obtain ⟨ho', hlive0⟩ := ownT_ok h hx' hr0
        obtain ⟨vs, hvs, hru⟩ := resDs_ok hG.toEnvTy h hd
        obtain ⟨hR, hlive⟩ := resT_ok h hr hru
        have hall : ∀ j, j ∈ l0 ++ l → ∃ b, s.heap j = some b := by
          intro j hj
          rcases List.mem_append.1 hj with hj | hj
          · exact hlive0 j hj
          · exact hlive j hj
        have hfr : ∀ b, b ∈ blocks φ (l0 ++ l) → w.heap.size ≤ b ∨ b ∈ F0 := by
          intro b hb
          obtain ⟨j, hj, hm'⟩ := mem_blocks.1 hb
          obtain ⟨blk, hbj⟩ := hall j hj
          exact h.fresh j blk hbj b hm'
        have hinOO : ∀ b, b ∈ blocks φ (l0 ++ l) → OO (fun b => O b ∨ b ∈ F0) s φ b := by
          intro b hb
          obtain ⟨j, hj, hm'⟩ := mem_blocks.1 hb
          obtain ⟨blk, hbj⟩ := hall j hj
          exact .inr ⟨j, blk, hbj, hm'⟩
        rw [blocks_append] at hfr hinOO
        refine ⟨h.df, _, run_results hvs, vs, blocks φ l0, blocks φ l, rfl, ⟨h.fr.size, fun b hb hno => h.fr.block b hb hno, h.fr.os, h.fr.tape, h.fr.output⟩, ho', fun b hb => hfr b (List.mem_append_left _ hb), hR.mono ?_, ?_, fun b hb => hfr b (List.mem_append_right _ hb)⟩
        · rintro b (hb | hb | hb | hb)
          · exact .inl (.inl hb)
          · exact .inl (.inr hb)
          · exact hinOO b (List.mem_append_left _ hb)
          · exact hinOO b (List.mem_append_right _ hb)
        · rw [← blocks_append]
          exact blocks_nodup h hnd hall
      · simp at hk
    · simp at hk
  cases e with
  | normal => exact fin hk
  | ret => exact fin hk
  | exit j => simp at hk
end
end KF

namespace KF
open Go

/-- the parameters, handed over: their slices are rows -/
def parsO : (pt : Ty) → T pt → Nat → Nat → List (Nat × D) × List (Nat × Option Blk) × Nat
  | .p x y, v, t, n => match openD x v.1 n with
    | (d, l, m) => match parsO y v.2 (t + 1) m with
      | (tm, l', m') => ((t, d) :: tm, l ++ l', m')
  | _, _, _, n => ([], [], n)

/-- a function's body, all its arguments handed over -/
def evFco (G : Env) (L : List (Nat × LoopSem)) (fn : Func) (pt rt : Ty) (fr : List Bool) (x : T pt) : Option (T rt) :=
  match fn.body with
  | some c => match parsO pt x 0 400000 with
    | (tm, rows, _) => evC G L c ⟨fn.ntmps, tm, rows⟩ fun e s => match e with
      | .exit _ => none
      | _ => match resDs G s fn.results.toList with
        | some d => match resT s rt fr d with
          | some (r, l) => bif nodupB l then some r else none
          | none => none
        | none => none
  | none => none

/-- a function's body, its first argument a variable that it may turn -/
def evFbx (G : Env) (L : List (Nat × LoopSem)) (fn : Func) (vw cv : Bool) (τ pt rt : Ty) (fr : List Bool) (x0 : T τ) (x : T pt) : Option (T τ × T rt) :=
  match fn.body with
  | some c => match (bif vw then (D.t τ x0, [], 400000) else openD τ x0 400000) with
    | (d0, rows, m) => match (bif cv then parsO pt x 1 m else (parsD pt x 1, [], m)) with
      | (tm, rows2, m2) => bif Nat.ble m2 500000 then evC G L c ⟨fn.ntmps, (0, .ptr 500000 []) :: tm, (500000, some (.box τ d0)) :: (rows ++ rows2)⟩ fun e s => match e with
        | .exit _ => none
        | _ => match s.heap 500000, resDs G s fn.results.toList with
          | some (.box τ' d1), some d => match Ty.dec τ' τ, (bif vw then (match toT d1 τ with
              | some y => some (y, [])
              | none => none) else ownT s d1 τ), resT s rt fr d with
            | some _, some (x', l0), some (r, l) => bif nodupB (500000 :: (l0 ++ l)) then some (x', r) else none
            | _, _, _ => none
          | _, _ => none
        else none
  | none => none

theorem oargs_len {w : World} : ∀ {pt : Ty} {x : T pt} {args : List Value} {F : List Nat}, OArgs w pt x args F → args.length = pt.npar
  | .u, _, [], _, _ => rfl
  | .p x y, v, a :: r, F, h => by
    obtain ⟨cs, F1, F2, _, _, _, h⟩ := h
    simp [Ty.npar, oargs_len h]
  | .u, _, _ :: _, _, h => by simp [OArgs] at h
  | .p _ _, _, [], _, h => by simp [OArgs] at h
  | .i _, _, l, _, h => by simp [OArgs] at h
  | .b, _, l, _, h => by simp [OArgs] at h
  | .o, _, l, _, h => by simp [OArgs] at h
  | .s, _, l, _, h => by simp [OArgs] at h
  | .sl _, _, l, _, h => by simp [OArgs] at h

theorem OArgs.lt {w : World} : ∀ {pt : Ty} {x : T pt} {args : List Value} {F : List Nat}, OArgs w pt x args F → ∀ b, b ∈ F → b < w.heap.size
  | .u, _, [], F, h, b, hb => by simp only [OArgs] at h; subst h; simp at hb
  | .p x y, v, a :: r, F, h, b, hb => by
    obtain ⟨cs, F1, F2, _, rfl, ho, h⟩ := h
    rcases List.mem_append.1 hb with hb | hb
    · exact ho.lt b hb
    · exact OArgs.lt h b hb
  | .u, _, _ :: _, _, h, _, _ => by simp [OArgs] at h
  | .p _ _, _, [], _, h, _, _ => by simp [OArgs] at h
  | .i _, _, l, _, h, _, _ => by simp [OArgs] at h
  | .b, _, l, _, h, _, _ => by simp [OArgs] at h
  | .o, _, l, _, h, _, _ => by simp [OArgs] at h
  | .s, _, l, _, h, _, _ => by simp [OArgs] at h
  | .sl _, _, l, _, h, _, _ => by simp [OArgs] at h

theorem parsO_ok {w : World} : ∀ {pt : Ty} {x : T pt} {args : List Value} {F : List Nat} {t n m : Nat} {tm : List (Nat × D)} {l : List (Nat × Option Blk)}, parsO pt x t n = (tm, l, m) → OArgs w pt x args F →
    n ≤ m ∧ (∀ p, p ∈ l → n ≤ p.1 ∧ p.1 < m) ∧ ∃ (ψ : Nat → List Nat) (ν : Nat → Value), blocks ψ (l.map (·.1)) = F ∧ (∀ p, p ∈ l → ∃ e xs, p.2 = some (.row e true xs) ∧ Own w (.sl e) xs [ν p.1] (ψ p.1)) ∧
      ∀ (hp' : Nat → Option Blk) (σ' : Nat → Value) (O' : Nat → Prop), (∀ p, p ∈ l → σ' p.1 = ν p.1) → ∀ t' d, aget tm t' = some d → ∃ j v, t' = t + j ∧ args[j]? = some v ∧ RepU w O' hp' σ' d v
  | .u, x, [], F, t, n, m, tm, l, he, h => by
    simp only [parsO, Prod.mk.injEq] at he
    obtain ⟨rfl, rfl, rfl⟩ := he
    simp only [OArgs] at h
    exact ⟨Nat.le_refl _, by simp, fun _ => [], fun _ => undef, by simp [blocks, h], by simp, fun _ _ _ _ t' d hd => by simp [aget] at hd⟩
  | .p t1 t2, x, a :: r, F, t, n, m, tm, l, he, h => by
    obtain ⟨cs, F1, F2, ha, hF, ho, hr⟩ := h
    simp only [parsO] at he
    rcases ho1 : openD t1 x.1 n with ⟨d1, l1, m1⟩
    rcases ho2 : parsO t2 x.2 (t + 1) m1 with ⟨tm2, l2, m2⟩
    rw [ho1] at he
    simp only at he
    rw [ho2] at he
    simp only [Prod.mk.injEq] at he
    obtain ⟨rfl, rfl, rfl⟩ := he
    obtain ⟨a1, a2, a3, ψ1, ν1, a4, a5, a6⟩ := openD_ok ho1 ho
    obtain ⟨b1, b2, ψ2, ν2, b4, b5, b6⟩ := parsO_ok ho2 hr
    refine ⟨by omega, ?_, fun id => if id < m1 then ψ1 id else ψ2 id, fun id => if id < m1 then ν1 id else ν2 id, ?_, ?_, ?_⟩
    · intro p hp
      rcases List.mem_append.1 hp with hp | hp
      · have := a2 p hp; omega
      · have := b2 p hp; omega
    · rw [List.map_append, blocks_append, hF, ← a4, ← b4]
      congr 1
      · exact blocks_congr fun id hid => by
          obtain ⟨p, hp, rfl⟩ := List.mem_map.1 hid
          rw [if_pos (a2 p hp).2]
      · exact blocks_congr fun id hid => by
          obtain ⟨p, hp, rfl⟩ := List.mem_map.1 hid
          rw [if_neg (by have := b2 p hp; omega)]
    · intro p hp
      rcases List.mem_append.1 hp with hp | hp
      · simp only [if_pos (a2 p hp).2]; exact a5 p hp
      · have : ¬ p.1 < m1 := by have := b2 p hp; omega
        simp only [if_neg this]; exact b5 p hp
    · intro hp' σ' O' hσ t' d hd
      rw [aget_cons] at hd
      split at hd
      · rename_i e
        simp only [Option.some.injEq] at hd
        subst hd
        refine ⟨0, a, by omega, rfl, ?_⟩
        rw [ha]
        refine repU_vof a3 (a6 w hp' σ' O' fun p hp => ?_)
        have h1 := hσ p (List.mem_append_left _ hp)
        simp only [if_pos (a2 p hp).2] at h1
        exact h1
      · obtain ⟨j, v, h1, h2, h3⟩ := b6 hp' σ' O' (fun p hp => by
          have h1 := hσ p (List.mem_append_right _ hp)
          have h2 : ¬ p.1 < m1 := by have := b2 p hp; omega
          simp only [if_neg h2] at h1
          exact h1) t' d hd
        exact ⟨j + 1, v, by omega, by simpa using h2, h3⟩
  | .u, _, _ :: _, _, _, _, _, _, _, _, h => by simp [OArgs] at h
  | .p _ _, _, [], _, _, _, _, _, _, _, h => by simp [OArgs] at h
  | .i _, _, l, _, _, _, _, _, _, _, h => by simp [OArgs] at h
  | .b, _, l, _, _, _, _, _, _, _, h => by simp [OArgs] at h
  | .o, _, l, _, _, _, _, _, _, _, h => by simp [OArgs] at h
  | .s, _, l, _, _, _, _, _, _, _, h => by simp [OArgs] at h
  | .sl _, _, l, _, _, _, _, _, _, _, h => by simp [OArgs] at h

section
variable {P : Program} {G : Env} {L : List (Nat × LoopSem)} {I : Inv}

theorem sound_co (hG : EnvOk P I G) (hfz : G.fz = false) (hm : P.follows .mixedOrders = true) {f : FuncId} {fn : Func} {c : Code} (hf : P.funcs[f]? = some fn) (hb : fn.body = some c) (hname : (fn.name == "runtime.NumGoroutine") = false)
    (hL : ∀ b, b ∈ loopsOf c → LoopOk G L b) {pt rt : Ty} {fr : List Bool} {F : T pt → Option (T rt)} (hn : pt.npar ≤ fn.ntmps) (hF : ∀ x r, F x = some r → evFco G L fn pt rt fr x = some r) :
    Sound P I f (.co pt rt fr F) := by
  refine ⟨⟨fn, hf, hname, by rw [hb]; rfl⟩, ?_⟩
  intro O w x r F0 args hx hargs hF0 hO hI hB hFB
  have he := hF x r hx
  unfold evFco at he
  rw [hb] at he
  simp only at he
  rcases hop : parsO pt x 0 400000 with ⟨tm, rows, m⟩
  rw [hop] at he
  simp only at he
  obtain ⟨_, hids, ψ, ν, hbl, hrows, hrep⟩ := parsO_ok hop hargs
  refine calls_of_wp hf hb ?_
  have hlen := oargs_len hargs
  have hmem : ∀ id blk, AS.heap ⟨fn.ntmps, tm, rows⟩ id = some blk → id ∈ rows.map (·.1) ∧ ∃ e xs, blk = .row e true xs ∧ Own w (.sl e) xs [ν id] (ψ id) := by
    intro id blk hb
    have hm := AS.heap_mem hb
    obtain ⟨e, xs, h1, h2⟩ := hrows _ hm
    simp only [Option.some.injEq] at h1
    exact ⟨List.mem_map_of_mem (f := (·.1)) hm, e, xs, h1, h2⟩
  have hF0' : (blocks ψ (rows.map (·.1))).Nodup := by rw [hbl]; exact hF0
  let A : Fx := ⟨(· ∈ F0), fun _ => none, fun _ _ h => by simp at h, I, hFB⟩
  have hOO : OO (fun b => O b ∨ b ∈ F0) ⟨fn.ntmps, tm, rows⟩ ψ = (fun b => O b ∨ b ∈ F0) := by
    funext b
    refine propext ⟨fun h => ?_, .inl⟩
    rcases h with h | ⟨id, blk, hb, hm⟩
    · exact h
    · refine .inr ?_
      rw [← hbl]
      exact mem_blocks.2 ⟨id, (hmem id blk hb).1, hm⟩
  have hc : Conc w.heap.size A (fun b => O b ∨ b ∈ F0) w ⟨fn.ntmps, tm, rows⟩ ν ψ { tmps := args.toArray ++ Array.replicate (fn.ntmps - args.toArray.size) undef, defers := [] } w := by
    refine ⟨?_, rfl, ?_, ?_, ?_, ?_, ?_, ?_, ⟨rfl, rfl, rfl, Nat.le_refl _, fun _ _ _ => rfl⟩, ?_, hB, hI⟩
    · simp; omega
    · intro t d hd
      rw [hOO]
      obtain ⟨j, v, h1, h2, h3⟩ := hrep (AS.heap ⟨fn.ntmps, tm, rows⟩) ν (fun b => O b ∨ b ∈ F0) (fun _ _ => rfl) t d hd
      refine ⟨v, ?_, h3⟩
      have hj : j < args.length := (List.getElem?_eq_some_iff.1 h2).1
      have : t = j := by omega
      subst this
      rw [Array.getElem?_append_left (by simpa using hj)]
      simpa using h2
    · intro id blk hb
      obtain ⟨_, e, xs, rfl, h2⟩ := hmem id blk hb
      exact h2
    · intro id blk hb
      have hi := (hmem id blk hb).1
      have : (ψ id).Sublist (blocks ψ (rows.map (·.1))) := by
        unfold blocks
        exact List.sublist_flatten_of_mem (List.mem_map_of_mem hi)
      exact this.nodup hF0'
    · intro id id' blk blk' hne hb hb' b hm
      exact blocks_apart hF0' (hmem id blk hb).1 (hmem id' blk' hb').1 hne hm
    · intro id blk hb b hm
      refine .inr ?_
      show b ∈ F0
      rw [← hbl]
      exact mem_blocks.2 ⟨id, (hmem id blk hb).1, hm⟩
    · rintro b (hb | hb)
      · exact hO b hb
      · exact hargs.lt b hb
    · intro id v hv; simp [A] at hv
  refine evC_ok (A := A) hG (fun h => by rw [hfz] at h; simp at h) hm c hL he hc ?_
  intro e s σ φ a w' hk h
  have fin : (match resDs G s fn.results.toList with
        | some d => match resT s rt fr d with
          | some (r, l) => bif nodupB l then some r else none
          | none => none
        | none => none) = some r → a.defers = [] ∧ ∃ v, (results fn a.tmps).run P w' = .ok v w' ∧ Returns (fun v w' => ∃ vs Fr, v = oneV vs ∧ Kept w w' (· ∈ F0) ∧
        RParts w' (fun b => O b ∨ b ∈ F0 ∨ b ∈ Fr) rt r fr vs Fr ∧ Fr.Nodup ∧ ∀ b ∈ Fr, w.heap.size ≤ b ∨ b ∈ F0) (.returned v) w' := by
    intro hk
    split at hk
    · rename_i d hd
      split at hk
      · rename_i r' l hr
        simp only [cond_none_some] at hk
        obtain ⟨hnd, hk⟩ := hk
        simp only [Option.some.injEq] at hk
        subst hk
        have hnd := nodupB_ok hnd
        obtain ⟨vs, hvs, hru⟩ := resDs_ok hG.toEnvTy h hd
        obtain ⟨hR, hlive⟩ := resT_ok h hr hru
        refine ⟨h.df, _, run_results hvs, vs, blocks φ l, rfl, ⟨h.fr.size, fun b hb hno => h.fr.block b hb hno, h.fr.os, h.fr.tape, h.fr.output⟩, hR.mono ?_, blocks_nodup h hnd hlive, ?_⟩
        · rintro b (hb | hb | hb)
          · exact .inl (.inl hb)
          · exact .inl (.inr hb)
          · obtain ⟨j, hj, hm'⟩ := mem_blocks.1 hb
            obtain ⟨blk, hbj⟩ := hlive j hj
            exact .inr ⟨j, blk, hbj, hm'⟩
        · intro b hb
          obtain ⟨j, hj, hm'⟩ := mem_blocks.1 hb
          obtain ⟨blk, hbj⟩ := hlive j hj
          exact h.fresh j blk hbj b hm'
      · simp at hk
    · simp at hk
  cases e with
  | normal => exact fin hk
  | ret => exact fin hk
  | exit j => simp at hk

theorem sound_bx (hG : EnvOk P I G) (hfz : G.fz = false) (hm : P.follows .mixedOrders = true) {f : FuncId} {fn : Func} {c : Code} (hf : P.funcs[f]? = some fn) (hb : fn.body = some c) (hname : (fn.name == "runtime.NumGoroutine") = false)
    (hL : ∀ b, b ∈ loopsOf c → LoopOk G L b) {vw cv : Bool} {τ pt rt : Ty} {fr : List Bool} {F : T τ → T pt → Option (T τ × T rt)} (hn : pt.npar + 1 ≤ fn.ntmps) (hF : ∀ x0 x r, F x0 x = some r → evFbx G L fn vw cv τ pt rt fr x0 x = some r) :
    Sound P I f (.bx vw cv τ pt rt fr F) := by
  refine ⟨⟨fn, hf, hname, by rw [hb]; rfl⟩, ?_⟩
  intro O w x0 x r b cur et F0 F2 args hx hh hsz hcont hargs hnd hO hI hB hFB
  have he := hF x0 x r hx
  unfold evFbx at he
  rw [hb] at he
  simp only at he
  rcases hop : (bif vw then (D.t τ x0, [], 400000) else openD τ x0 400000) with ⟨d0, rows, m⟩
  rw [hop] at he
  simp only at he
  rcases hop2 : (bif cv then parsO pt x 1 m else (parsD pt x 1, [], m)) with ⟨tm, rows2, m2⟩
  rw [hop2] at he
  simp only [cond_none_some] at he
  obtain ⟨hm2, he⟩ := he
  have hm2 := Nat.le_of_ble_eq_true hm2
  have hlt : b < w.heap.size := (Array.getElem?_eq_some_iff.1 hh).1
  -- what the new ids stand for
  have k1 : 400000 ≤ m ∧ (∀ p, p ∈ rows → 400000 ≤ p.1 ∧ p.1 < m) ∧ Shape τ d0 ∧ (∀ c, c ∈ F0 → c < w.heap.size) ∧ ∃ (ψ : Nat → List Nat) (ν : Nat → Value), blocks ψ (rows.map (·.1)) = F0 ∧ (∀ p, p ∈ rows → ∃ e xs, p.2 = some (.row e true xs) ∧ Own w (.sl e) xs [ν p.1] (ψ p.1)) ∧
      ∀ (hp' : Nat → Option Blk) (σ' : Nat → Value), (∀ p, p ∈ rows → σ' p.1 = ν p.1) → Rep w (fun c => O c ∨ c ∈ b :: (F0 ++ F2)) hp' σ' d0 cur.toList := by
    cases vw with
    | true =>
      simp only [cond_true, Prod.mk.injEq] at hop
      obtain ⟨rfl, rfl, rfl⟩ := hop
      simp only [if_true] at hcont
      obtain ⟨hv, rfl⟩ := hcont
      refine ⟨Nat.le_refl _, by simp, by simp [Shape], by simp, fun _ => [], fun _ => undef, by simp [blocks], by simp, fun hp' σ' _ => View.weaken (fun c hc => ?_) hv⟩
      rcases hc with hc | hc
      · exact .inl hc
      · rcases List.mem_cons.1 hc with rfl | hc
        · exact .inr (.inl rfl)
        · exact .inr (.inr (by simpa using hc))
    | false =>
      simp only [cond_false] at hop
      simp only [Bool.false_eq_true, if_false] at hcont
      obtain ⟨a1, a2, a3, ψ1, ν1, a4, a5, a6⟩ := openD_ok hop hcont
      exact ⟨a1, a2, a3, fun c hc => hcont.lt c hc, ψ1, ν1, a4, a5, fun hp' σ' h => a6 w hp' σ' _ h⟩
  obtain ⟨hnm, hids, hsh, hF0lt, ψ1, ν1, hbl1, hrows1, hrep1⟩ := k1
  have k2 : m ≤ m2 ∧ (∀ p, p ∈ rows2 → m ≤ p.1 ∧ p.1 < m2) ∧ args.length = pt.npar ∧ (∀ c, c ∈ F2 → c < w.heap.size) ∧ ∃ (ψ : Nat → List Nat) (ν : Nat → Value), blocks ψ (rows2.map (·.1)) = F2 ∧ (∀ p, p ∈ rows2 → ∃ e xs, p.2 = some (.row e true xs) ∧ Own w (.sl e) xs [ν p.1] (ψ p.1)) ∧
      ∀ (hp' : Nat → Option Blk) (σ' : Nat → Value), (∀ p, p ∈ rows2 → σ' p.1 = ν p.1) → ∀ t' d, aget tm t' = some d → ∃ j v, t' = 1 + j ∧ args[j]? = some v ∧ RepU w (fun c => O c ∨ c ∈ b :: (F0 ++ F2)) hp' σ' d v := by
    cases cv with
    | true =>
      simp only [cond_true] at hop2
      simp only [if_true] at hargs
      obtain ⟨a1, a2, ψ2, ν2, a4, a5, a6⟩ := parsO_ok hop2 hargs
      exact ⟨a1, a2, oargs_len hargs, hargs.lt, ψ2, ν2, a4, a5, fun hp' σ' h => a6 hp' σ' _ h⟩
    | false =>
      simp only [cond_false, Prod.mk.injEq] at hop2
      obtain ⟨rfl, rfl, rfl⟩ := hop2
      simp only [Bool.false_eq_true, if_false] at hargs
      obtain ⟨hv, rfl⟩ := hargs
      refine ⟨Nat.le_refl _, by simp, vargs_len hv, by simp, fun _ => [], fun _ => undef, by simp [blocks], by simp, fun hp' σ' _ t' d hd => ?_⟩
      have : (fun c => O c ∨ c ∈ b :: (F0 ++ [])) = (fun c => O c ∨ c = b ∨ c ∈ F0) := by
        funext c; simp
      rw [this]
      exact parsD_ok hv hd
  obtain ⟨hmm, hids2, hlen, hF2lt, ψ2, ν2, hbl2, hrows2, hrep2⟩ := k2
  refine calls_of_wp hf hb ?_
  let ψ : Nat → List Nat := fun id => if id = 500000 then [b] else if id < m then ψ1 id else ψ2 id
  let ν : Nat → Value := fun id => if id = 500000 then .pointer (some ⟨b, 0, none⟩) else if id < m then ν1 id else ν2 id
  have hψ0 : ψ 500000 = [b] := if_pos rfl
  have hν0 : ν 500000 = .pointer (some ⟨b, 0, none⟩) := if_pos rfl
  have hψ1 : ∀ p, p ∈ rows → ψ p.1 = ψ1 p.1 ∧ ν p.1 = ν1 p.1 := fun p hp => by
    have h1 := hids p hp
    have h2 : ¬ p.1 = 500000 := by omega
    simp only [ψ, ν, if_neg h2, if_pos h1.2, and_self]
  have hψ2 : ∀ p, p ∈ rows2 → ψ p.1 = ψ2 p.1 ∧ ν p.1 = ν2 p.1 := fun p hp => by
    have h1 := hids2 p hp
    have h2 : ¬ p.1 = 500000 := by omega
    have h3 : ¬ p.1 < m := by omega
    simp only [ψ, ν, if_neg h2, if_neg h3, and_self]
  let s0 : AS := ⟨fn.ntmps, (0, .ptr 500000 []) :: tm, (500000, some (.box τ d0)) :: (rows ++ rows2)⟩
  have hbx : s0.heap 500000 = some (.box τ d0) := by simp [s0, AS.heap, aget_cons]
  have hmem : ∀ id blk, s0.heap id = some blk → (id = 500000 ∧ blk = .box τ d0) ∨ (id ≠ 500000 ∧ id ∈ (rows ++ rows2).map (·.1) ∧ ∃ e xs, blk = .row e true xs ∧ Own w (.sl e) xs [ν id] (ψ id)) := by
    intro id blk hb
    by_cases hid : id = 500000
    · subst hid
      rw [hbx] at hb
      simp only [Option.some.injEq] at hb
      exact .inl ⟨rfl, hb.symm⟩
    · have hm := AS.heap_mem hb
      simp only [s0, List.mem_cons, Prod.mk.injEq, hid, false_and, false_or] at hm
      refine .inr ⟨hid, List.mem_map_of_mem (f := (·.1)) hm, ?_⟩
      rcases List.mem_append.1 hm with hm | hm
      · obtain ⟨e, xs, h1, h2⟩ := hrows1 _ hm
        simp only [Option.some.injEq] at h1
        exact ⟨e, xs, h1, by rw [(hψ1 _ hm).1, (hψ1 _ hm).2]; exact h2⟩
      · obtain ⟨e, xs, h1, h2⟩ := hrows2 _ hm
        simp only [Option.some.injEq] at h1
        exact ⟨e, xs, h1, by rw [(hψ2 _ hm).1, (hψ2 _ hm).2]; exact h2⟩
  have hblr : blocks ψ ((rows ++ rows2).map (·.1)) = F0 ++ F2 := by
    rw [List.map_append, blocks_append, ← hbl1, ← hbl2]
    congr 1
    · exact blocks_congr fun id hid => by
        obtain ⟨p, hp, rfl⟩ := List.mem_map.1 hid
        exact (hψ1 p hp).1
    · exact blocks_congr fun id hid => by
        obtain ⟨p, hp, rfl⟩ := List.mem_map.1 hid
        exact (hψ2 p hp).1
  have hbl : blocks ψ (500000 :: (rows ++ rows2).map (·.1)) = b :: (F0 ++ F2) := by
    have : blocks ψ (500000 :: (rows ++ rows2).map (·.1)) = ψ 500000 ++ blocks ψ ((rows ++ rows2).map (·.1)) := by simp only [blocks, List.map_cons, List.flatten_cons]
    rw [this, hψ0, hblr]; rfl
  have hndB : (blocks ψ (500000 :: (rows ++ rows2).map (·.1))).Nodup := by rw [hbl]; exact hnd
  have hidin : ∀ id blk, s0.heap id = some blk → id ∈ 500000 :: (rows ++ rows2).map (·.1) := by
    intro id blk hb
    rcases hmem id blk hb with ⟨rfl, _⟩ | ⟨_, h, _⟩
    · exact List.mem_cons_self
    · exact List.mem_cons_of_mem _ h
  let A : Fx := ⟨(· ∈ b :: (F0 ++ F2)), fun id => if id = 500000 then some (.pointer (some ⟨b, 0, none⟩)) else none, fun id v h => by
    split at h
    · omega
    · simp at h, I, hFB⟩
  have hOO : OO (fun c => O c ∨ c ∈ b :: (F0 ++ F2)) s0 ψ = (fun c => O c ∨ c ∈ b :: (F0 ++ F2)) := by
    funext c
    refine propext ⟨fun h => ?_, .inl⟩
    rcases h with h | ⟨id, blk, hb, hm⟩
    · exact h
    · refine .inr ?_
      rw [← hbl]
      exact mem_blocks.2 ⟨id, hidin id blk hb, hm⟩
  have hc : Conc w.heap.size A (fun c => O c ∨ c ∈ b :: (F0 ++ F2)) w s0 ν ψ { tmps := (.pointer (some ⟨b, 0, none⟩) :: args).toArray ++ Array.replicate (fn.ntmps - (Value.pointer (some ⟨b, 0, none⟩) :: args).toArray.size) undef, defers := [] } w := by
    refine ⟨?_, rfl, ?_, ?_, ?_, ?_, ?_, ?_, ⟨rfl, rfl, rfl, Nat.le_refl _, fun _ _ _ => rfl⟩, ?_, hB, hI⟩
    · simp [s0]; omega
    · intro t d hd
      rw [hOO]
      simp only [s0] at hd
      rw [aget_cons] at hd
      split at hd
      · rename_i e
        subst e
        simp only [Option.some.injEq] at hd
        subst hd
        refine ⟨.pointer (some ⟨b, 0, none⟩), by rw [Array.getElem?_append_left (by simp)]; simp, ?_⟩
        rw [repU_ptr]
        exact ⟨rfl, fun ρ d _ => ⟨b, hν0, by simp [offAt]⟩⟩
      · obtain ⟨j, v, h1, h2, h3⟩ := hrep2 s0.heap ν (fun p hp => (hψ2 p hp).2) t d hd
        refine ⟨v, ?_, h3⟩
        have hj : j < args.length := (List.getElem?_eq_some_iff.1 h2).1
        have : t = j + 1 := by omega
        subst this
        rw [Array.getElem?_append_left (by simpa using hj)]
        simpa using h2
    · intro id blk hb
      rw [hOO]
      rcases hmem id blk hb with ⟨rfl, rfl⟩ | ⟨_, _, e, xs, rfl, h2⟩
      · exact ⟨hsh, b, cur, et, hν0, hh, hψ0, hrep1 _ _ fun p hp => (hψ1 p hp).2, hsz⟩
      · exact h2
    · intro id blk hb
      have hi := hidin id blk hb
      have : (ψ id).Sublist (blocks ψ (500000 :: (rows ++ rows2).map (·.1))) := by
        unfold blocks
        exact List.sublist_flatten_of_mem (List.mem_map_of_mem hi)
      exact this.nodup hndB
    · intro id id' blk blk' hne hb hb' c hm
      exact blocks_apart hndB (hidin id blk hb) (hidin id' blk' hb') hne hm
    · intro id blk hb c hm
      refine .inr ?_
      show c ∈ b :: (F0 ++ F2)
      rw [← hbl]
      exact mem_blocks.2 ⟨id, hidin id blk hb, hm⟩
    · rintro c (hc | hc)
      · exact hO c hc
      · rcases List.mem_cons.1 hc with rfl | hc
        · exact hlt
        · rcases List.mem_append.1 hc with hc | hc
          · exact hF0lt c hc
          · exact hF2lt c hc
    · intro id v hv
      simp only [A] at hv
      split at hv
      · rename_i e
        subst e
        simp only [Option.some.injEq] at hv
        exact hν0.trans hv
      · simp at hv
  refine evC_ok (A := A) hG (fun h => by rw [hfz] at h; simp at h) hm c hL he hc ?_
  intro e s σ φ a w' hk h
  have fin : (match s.heap 500000, resDs G s fn.results.toList with
          | some (.box τ' d1), some d => match Ty.dec τ' τ, (bif vw then (match toT d1 τ with
              | some y => some (y, [])
              | none => none) else ownT s d1 τ), resT s rt fr d with
            | some _, some (x', l0), some (r, l) => bif nodupB (500000 :: (l0 ++ l)) then some (x', r) else none
            | _, _, _ => none
          | _, _ => none) = some r → a.defers = [] ∧ ∃ v, (results fn a.tmps).run P w' = .ok v w' ∧ Returns (fun v w' => ∃ vs cur' et' F1 Fr, v = oneV vs ∧ Kept w w' (· ∈ b :: (F0 ++ F2)) ∧ w'.heap[b]? = some (.cells cur' et' (0, 0)) ∧ cur'.size = τ.size ∧
        (if vw then View w' (fun c => O c ∨ c ∈ b :: (F0 ++ F2) ∨ c ∈ Fr) τ r.1 cur'.toList ∧ F1 = [] else Own w' τ r.1 cur'.toList F1) ∧
        RParts w' (fun c => O c ∨ c ∈ b :: (F0 ++ F2) ∨ c ∈ F1 ∨ c ∈ Fr) rt r.2 fr vs Fr ∧ (b :: (F1 ++ Fr)).Nodup ∧ ∀ c ∈ F1 ++ Fr, w.heap.size ≤ c ∨ c ∈ F0 ++ F2) (.returned v) w' := by
    intro hk
    split at hk
    · rename_i τ' d1 d hbx' hd
      split at hk
      · rename_i q x' l0 r' l hq hx' hr
        obtain rfl := dec_eq hq
        simp only [cond_none_some] at hk
        obtain ⟨hnd', hk⟩ := hk
        simp only [Option.some.injEq] at hk
        subst hk
        have hnd' := nodupB_ok hnd'
        obtain ⟨hsh', b', cur', et', hσ', hh', hF', hr0, hsz'⟩ := h.hp 500000 _ hbx'
        have hpin : σ 500000 = .pointer (some ⟨b, 0, none⟩) := h.pin 500000 _ (show (if (500000 : Nat) = 500000 then some (Value.pointer (some ⟨b, 0, none⟩)) else none) = _ from if_pos rfl)
        rw [hpin] at hσ'
        simp only [Value.pointer.injEq, Option.some.injEq, Addr.mk.injEq, and_true] at hσ'
        subst hσ'
        have hkl : (∀ j, j ∈ l0 → ∃ blk, s.heap j = some blk) ∧ (if vw then View w' (OO (fun c => O c ∨ c ∈ b :: (F0 ++ F2)) s φ) τ' x' cur'.toList ∧ l0 = [] else Own w' τ' x' cur'.toList (blocks φ l0)) := by
          cases vw with
          | true =>
            simp only [cond_true] at hx'
            split at hx'
            · rename_i y hy
              simp only [Option.some.injEq, Prod.mk.injEq] at hx'
              obtain ⟨rfl, rfl⟩ := hx'
              exact ⟨by simp, by simp only [if_true]; exact ⟨(toT_view hy).2 _ hr0, trivial⟩⟩
            · simp at hx'
          | false =>
            simp only [cond_false] at hx'
            obtain ⟨g1, g2⟩ := ownT_ok h hx' hr0
            exact ⟨g2, by simpa using g1⟩
        obtain ⟨hlive0, hx1⟩ := hkl
        obtain ⟨vs, hvs, hru⟩ := resDs_ok hG.toEnvTy h hd
        obtain ⟨hR, hlive⟩ := resT_ok h hr hru
        have hall : ∀ j, j ∈ 500000 :: (l0 ++ l) → ∃ blk, s.heap j = some blk := by
          intro j hj
          rcases List.mem_cons.1 hj with rfl | hj
          · exact ⟨_, hbx'⟩
          · rcases List.mem_append.1 hj with hj | hj
            · exact hlive0 j hj
            · exact hlive j hj
        have hbk : blocks φ (500000 :: (l0 ++ l)) = b :: (blocks φ l0 ++ blocks φ l) := by
          have : blocks φ (500000 :: (l0 ++ l)) = φ 500000 ++ blocks φ (l0 ++ l) := by simp only [blocks, List.map_cons, List.flatten_cons]
          rw [this, hF', blocks_append]; rfl
        have hbn := blocks_nodup h hnd' hall
        rw [hbk] at hbn
        have hinOO : ∀ c, c ∈ blocks φ l0 ++ blocks φ l → OO (fun c => O c ∨ c ∈ b :: (F0 ++ F2)) s φ c := by
          intro c hc
          rw [← blocks_append] at hc
          obtain ⟨j, hj, hm'⟩ := mem_blocks.1 hc
          obtain ⟨blk, hbj⟩ := hall j (List.mem_cons_of_mem _ hj)
          exact .inr ⟨j, blk, hbj, hm'⟩
        refine ⟨h.df, _, run_results hvs, vs, cur', et', blocks φ l0, blocks φ l, rfl, ⟨h.fr.size, fun c hc hno => h.fr.block c hc hno, h.fr.os, h.fr.tape, h.fr.output⟩, hh', hsz', ?_, hR.mono ?_, hbn, ?_⟩
        · cases vw with
          | true =>
            simp only [if_true] at hx1 ⊢
            refine ⟨hx1.1.weaken ?_, by rw [hx1.2]; simp [blocks]⟩
            rintro c (hc | hc | hc)
            · exact .inl (.inl hc)
            · exact .inl (.inr hc)
            · exact hinOO c (List.mem_append_right _ hc)
          | false => simpa using hx1
        · rintro c (hc | hc | hc | hc)
          · exact .inl (.inl hc)
          · exact .inl (.inr hc)
          · exact hinOO c (List.mem_append_left _ hc)
          · exact hinOO c (List.mem_append_right _ hc)
        · intro c hcm
          have hcb : c ≠ b := by
            rintro rfl
            exact (List.nodup_cons.1 hbn).1 hcm
          rw [← blocks_append] at hcm
          obtain ⟨j, hj, hm'⟩ := mem_blocks.1 hcm
          obtain ⟨blk, hbj⟩ := hall j (List.mem_cons_of_mem _ hj)
          rcases h.fresh j blk hbj c hm' with h1 | h1
          · exact .inl h1
          · have h1 : c ∈ b :: (F0 ++ F2) := h1
            rcases List.mem_cons.1 h1 with h1 | h1
            · exact absurd h1 hcb
            · exact .inr h1
      · simp at hk
    · simp at hk
  cases e with
  | normal => exact fin hk
  | ret => exact fin hk
  | exit j => simp at hk

/-- a function's body that hands a new variable back -/
def evFnw (G : Env) (L : List (Nat × LoopSem)) (fn : Func) (pt τ : Ty) (x : T pt) : Option (T τ) :=
  match fn.body with
  | some c => evC G L c ⟨fn.ntmps, parsD pt x 0, []⟩ fun e s => match e with
    | .exit _ => none
    | _ => match resDs G s fn.results.toList with
      | some (.pr (.ptr id []) .un) => match s.heap id with
        | some (.box τ' d) => match Ty.dec τ' τ, toT d τ with
          | some _, some y => some y
          | _, _ => none
        | _ => none
      | _ => none
  | none => none

theorem sound_nw (hG : EnvOk P I G) (hm : P.follows .mixedOrders = true) {f : FuncId} {fn : Func} {c : Code} (hf : P.funcs[f]? = some fn) (hb : fn.body = some c) (hname : (fn.name == "runtime.NumGoroutine") = false)
    (hL : ∀ b, b ∈ loopsOf c → LoopOk G L b) {pt τ : Ty} {F : T pt → Option (T τ)} (hn : pt.npar ≤ fn.ntmps) (hF : ∀ x r, F x = some r → evFnw G L fn pt τ x = some r) : Sound P I f (.nw pt τ F) := by
  refine ⟨⟨fn, hf, hname, by rw [hb]; rfl⟩, ?_⟩
  intro O w x r args hx hargs hO hI hB
  have he := hF x r hx
  unfold evFnw at he
  rw [hb] at he
  simp only at he
  refine calls_of_wp hf hb ?_
  have hlen := vargs_len hargs
  have hc : Conc w.heap.size (noFx I) O w ⟨fn.ntmps, parsD pt x 0, []⟩ (fun _ => undef) (fun _ => []) { tmps := args.toArray ++ Array.replicate (fn.ntmps - args.toArray.size) undef, defers := [] } w := by
    have hh : ∀ id, AS.heap ⟨fn.ntmps, parsD pt x 0, []⟩ id = none := fun id => rfl
    refine ⟨?_, rfl, ?_, ?_, ?_, ?_, ?_, hO, ⟨rfl, rfl, rfl, Nat.le_refl _, fun _ _ _ => rfl⟩, ?_, hB, hI⟩
    · simp; omega
    · intro t d hd
      have hOO : OO O ⟨fn.ntmps, parsD pt x 0, []⟩ (fun _ => []) = O := by
        funext b
        simp [OO, hh]
      rw [hOO]
      obtain ⟨j, v, h1, h2, h3⟩ := parsD_ok hargs hd
      refine ⟨v, ?_, h3⟩
      have hj : j < args.length := (List.getElem?_eq_some_iff.1 h2).1
      have : t = j := by omega
      subst this
      rw [Array.getElem?_append_left (by simpa using hj)]
      simpa using h2
    · intro id blk hb; rw [hh] at hb; simp at hb
    · intro id blk hb; rw [hh] at hb; simp at hb
    · intro id id' blk blk' _ hb; rw [hh] at hb; simp at hb
    · intro id blk hb; rw [hh] at hb; simp at hb
    · intro id v hv; simp [noFx] at hv
  refine evC_ok (A := noFx I) hG (fun _ _ h => h) hm c hL he hc ?_
  intro e s σ φ a w' hk h
  have fin : (match resDs G s fn.results.toList with
      | some (.pr (.ptr id []) .un) => match s.heap id with
        | some (.box τ' d) => match Ty.dec τ' τ, toT d τ with
          | some _, some y => some y
          | _, _ => none
        | _ => none
      | _ => none) = some r → a.defers = [] ∧ ∃ v, (results fn a.tmps).run P w' = .ok v w' ∧ Returns (fun v w' => ∃ b cur et, v = .pointer (some ⟨b, 0, none⟩) ∧ Kept w w' (fun _ => False) ∧ w.heap.size ≤ b ∧ w'.heap[b]? = some (.cells cur et (0, 0)) ∧ cur.size = τ.size ∧ View w' (fun c => O c ∨ c = b) τ r cur.toList) (.returned v) w' := by
    intro hk
    split at hk
    · rename_i id hd
      split at hk
      · rename_i τ' d hbx
        split at hk
        · rename_i q y hq hy
          obtain rfl := dec_eq hq
          simp only [Option.some.injEq] at hk
          subst hk
          obtain ⟨vs, hvs, hru⟩ := resDs_ok hG.toEnvTy h hd
          cases vs with
          | nil => simp [RU] at hru
          | cons v vs =>
            obtain ⟨h1, h2⟩ := hru
            cases vs with
            | cons _ _ => simp [RU] at h2
            | nil =>
              obtain ⟨_, b, cur, et, hσ, hh, hφ, hr0, hsz⟩ := h.hp id _ hbx
              rw [repU_ptr] at h1
              obtain ⟨b', hσ', hv⟩ := h1.2 _ _ hbx
              rw [hσ] at hσ'
              simp only [Value.pointer.injEq, Option.some.injEq, Addr.mk.injEq, and_true] at hσ'
              subst hσ'
              have hmem : b ∈ φ id := by rw [hφ]; simp
              refine ⟨h.df, _, run_results hvs, b, cur, et, by simp only [oneV, hv, offAt], ⟨h.fr.size, fun b hb _ => h.fr.block b hb (fun h => h), h.fr.os, h.fr.tape, h.fr.output⟩, (h.fresh id _ hbx b hmem).resolve_right (fun h => h), hh, hsz, ?_⟩
              refine View.weaken ?_ ((toT_view hy).2 _ hr0)
              rintro c (hc | rfl)
              · exact .inl hc
              · exact .inr ⟨id, _, hbx, hmem⟩
        · simp at hk
      · simp at hk
    · simp at hk
  cases e with
  | normal => exact fin hk
  | ret => exact fin hk
  | exit j => simp at hk
end
end KF

namespace KF
open Go Go.WideShapes

/-- all numbers within their kinds, all lengths within the largest -/
def Rng : (τ : Ty) → T τ → Prop
  | .i k, n => k.has n
  | .b, _ => True
  | .o, _ => True
  | .s, x => List.length x ≤ maxN
  | .sl e, xs => List.length xs ≤ maxN ∧ ∀ i (h : i < List.length xs), Rng e (List.get xs ⟨i, h⟩)
  | .u, _ => True
  | .p x y, v => Rng x v.1 ∧ Rng y v.2

/-- slices have elements of at least one cell -/
def Ty.pos : Ty → Bool
  | .sl e => e.pos && Nat.blt 0 e.size
  | .p x y => x.pos && y.pos
  | .o => false
  | _ => true

section
variable {H : Type} {enc : TypeId × Value → H} {P : Program} {w : World} {base : Nat} {spare : Nat → Bool} {held : Bool}

theorem tok_cells {τ : Ty} {t : TypeId} (h : tokB P τ t = true) : P.cellsOf t = τ.size := by
  obtain ⟨i, h1, h2, _⟩ := Tok.size h
  simp [Program.cellsOf, h1, h2]

theorem lit_has {k : IntKind} {n : Int} (h : (Lit.int k n).wf = true) : k.has n := by
  simpa [Lit.wf, IntKind.has] using h

theorem add_ne {a : Addr} {n : Nat} (h : n ≠ 0) : a.add n = ⟨a.block, a.off + n, none⟩ := by
  simp [Addr.add, h]

theorem cells_seg {a : Addr} {n : Nat} {cs : List Value} (h : w.cells? base a n = some cs) (hn : 0 < n) :
    ∃ cur et fr, a = ⟨a.block, a.off, none⟩ ∧ w.heap[a.block]? = some (.cells cur et fr) ∧ a.off + n ≤ cur.size ∧ cs = seg cur a.off n := by
  unfold World.cells? at h
  split at h
  · have hlen : cs.length = n := by simpa using mapM_some_length h
    have hget : ∀ i, i < n → w.cell? (a.add i) = cs[i]? := fun i hi => mapM_some_get h i i (by simp [hi])
    have h0 := hget 0 hn
    have ha : a.add 0 = a := by simp [Addr.add]
    rw [ha] at h0
    have hc0 : cs[0]? = some (cs[0]'(by omega)) := List.getElem?_eq_getElem (by omega)
    rw [hc0] at h0
    unfold World.cell? at h0
    split at h0
    · rename_i cur et fr hb
      have hsp : a.spot = none := by
        cases hs : a.spot with
        | none => rfl
        | some x => simp [hs] at h0
      have hcell : ∀ i, i < n → cur[a.off + i]? = cs[i]? := by
        intro i hi
        have := hget i hi
        by_cases hi0 : i = 0
        · subst hi0
          rw [ha] at this
          unfold World.cell? at this
          rw [hb] at this
          simpa [hsp] using this
        · rw [add_ne hi0] at this
          unfold World.cell? at this
          simp only at this
          rw [hb] at this
          simpa using this
      refine ⟨cur, et, fr, by cases a; simp_all, hb, ?_, ?_⟩
      · have h1 := hcell (n - 1) (by omega)
        rw [List.getElem?_eq_getElem (by omega)] at h1
        have := (Array.getElem?_eq_some_iff.1 h1).1
        omega
      · apply List.ext_getElem?
        intro i
        by_cases hi : i < n
        · rw [seg_getElem? _ _ _ _ hi, hcell i hi]
        · rw [List.getElem?_eq_none (by omega), List.getElem?_eq_none]
          simp [seg]; omega
    · simp at h0
  · simp at h

theorem fok_nil {fs : List Field} {o : Nat} (h : fokB P .u fs o = true) : fs = [] := by
  cases fs <;> simp_all [fokB]
theorem fok_cons {x y : Ty} {fs : List Field} {o : Nat} (h : fokB P (.p x y) fs o = true) : ∃ f r, fs = f :: r ∧ f.offset = o ∧ tokB P x f.type = true ∧ fokB P y r (o + x.size) = true := by
  cases fs with
  | nil => simp [fokB] at h
  | cons f r =>
    simp only [fokB, Bool.and_eq_true] at h
    exact ⟨f, r, rfl, Nat.eq_of_beq_eq_true h.1.1.1, h.1.2, h.2⟩
theorem tok_p {x y : Ty} {t : TypeId} (h : tokB P (.p x y) t = true) : ∃ fs, P.underlying t = some (.struct fs) ∧ fokB P (.p x y) fs.toList 0 = true := by
  simp only [tokB, Bool.and_eq_true] at h
  obtain ⟨_, h⟩ := h
  split at h
  · rename_i fs hfs
    refine ⟨fs, hfs, ?_⟩
    split at h
    · rename_i f r hr
      rw [hr]
      simpa [fokB] using h
    · simp at h
  · simp at h
theorem tok_u {t : TypeId} (h : tokB P .u t = true) : ∃ fs, P.underlying t = some (.struct fs) ∧ fs.size = 0 := by
  simp only [tokB, Bool.and_eq_true] at h
  obtain ⟨_, h⟩ := h
  split at h
  · rename_i fs hfs
    exact ⟨fs, hfs, Nat.eq_of_beq_eq_true h⟩
  · simp at h

mutual
theorem trod_view (hO : ∀ b, ¬ (fun _ : Nat => False) b) : ∀ (τ : Ty) (t : TypeId) (n : Nat) (cs : List Value) (x : DataW H × List MemPlace), tokB P τ t = true → τ.pos = true →
    DataW.trod enc P w base spare held n t cs = some x → ∃ y : T τ, View w (fun _ => False) τ y cs ∧ Rng τ y
  | .i k, t, n, cs, x, ht, _, h => by
    obtain ⟨m, h1, _, h2⟩ := DataW.trod_int (Tok.i ht) h
    exact ⟨m, h1, lit_has h2⟩
  | .b, t, n, cs, x, ht, _, h => by
    obtain ⟨m, h1, _⟩ := DataW.trod_bool (Tok.b ht) h
    exact ⟨m, h1, trivial⟩
  | .o, t, n, cs, x, ht, hp, h => by simp [Ty.pos] at hp
  | .s, t, n, cs, x, ht, _, h => by
    obtain ⟨m, h1, _, h2⟩ := DataW.trod_string (Tok.s ht) h
    refine ⟨m.data.toList, ?_, ?_⟩
    · show cs = [.string ⟨List.toArray m.data.toList⟩]
      rw [h1]
    · show m.data.toList.length ≤ maxN
      have : m.size = m.data.toList.length := Array.length_toList.symm
      unfold maxLen at h2
      unfold maxN
      omega
  | .sl e, t, n, cs, x, ht, hp, h => by
    obtain ⟨et, hu, he⟩ := Tok.sl ht
    simp only [Ty.pos, Bool.and_eq_true] at hp
    have hpos : 0 < e.size := by simpa using hp.2
    rcases DataW.trod_slice hu h with ⟨h1, _⟩ | ⟨a, len, cap, elems, rest, m, _, h1, _, _, h2, h3, h4, h5, _, _⟩
    · exact ⟨([] : List (T e)), ⟨none, 0, h1, Nat.le_refl _, Nat.zero_le _, .inl rfl⟩, ⟨Nat.zero_le _, fun i hi => absurd hi (Nat.not_lt_zero i)⟩⟩
    · rw [tok_cells he] at h5
      have hone : ∀ i, i < len → ∃ y : T e, ∃ cs', w.cells? base (a.add (i * e.size)) e.size = some cs' ∧ View w (fun _ => False) e y cs' ∧ Rng e y := by
        intro i hi
        have := h5 i hi
        rw [List.getElem?_eq_getElem (by omega), Option.bind_eq_some_iff] at this
        obtain ⟨cs', hc, hy⟩ := this
        obtain ⟨y, hv, hr⟩ := trod_view hO e et m cs' _ he hp.1 hy
        exact ⟨y, cs', hc, hv, hr⟩
      let ys : List (T e) := List.ofFn fun i : Fin len => Classical.choose (hone i.1 i.2)
      have hlen : ys.length = len := by simp [ys]
      have hy : ∀ i (h : i < ys.length), ∃ cs', w.cells? base (a.add (i * e.size)) e.size = some cs' ∧ View w (fun _ => False) e (ys.get ⟨i, h⟩) cs' ∧ Rng e (ys.get ⟨i, h⟩) := by
        intro i hi
        have := Classical.choose_spec (hone i (by omega))
        simpa [ys] using this
      have hmax : len ≤ maxN := by unfold maxLen at h3; unfold maxN; omega
      refine ⟨ys, ⟨some a, cap, by rw [h1, hlen], by rw [hlen]; exact h2, by rw [hlen]; exact hmax, ?_⟩, by rw [hlen]; exact hmax, fun i hi => (hy i hi).choose_spec.2.2⟩
      by_cases hl0 : len = 0
      · left
        exact List.eq_nil_of_length_eq_zero (by omega)
      · right
        obtain ⟨cs0, hc0, _⟩ := hy 0 (by omega)
        have ha0 : a.add (0 * e.size) = a := by simp [Addr.add]
        rw [ha0] at hc0
        obtain ⟨cur, et', fr, ha, hb, _, _⟩ := cells_seg hc0 hpos
        have hadd : ∀ i, (a.add (i * e.size)).block = a.block ∧ (a.add (i * e.size)).off = a.off + i * e.size := by
          intro i
          unfold Addr.add
          split
          · rename_i hz; simp [hz]
          · exact ⟨rfl, rfl⟩
        refine ⟨a.block, a.off, cur, et', fr, by rw [← ha], fun h => h, hb, ?_, ?_⟩
        · obtain ⟨cs1, hc1, _⟩ := hy (len - 1) (by omega)
          obtain ⟨cur1, et1, fr1, _, hb1, hs1, _⟩ := cells_seg hc1 hpos
          rw [(hadd _).1, hb] at hb1
          simp only [Option.some.injEq, Obj.cells.injEq] at hb1
          rw [(hadd _).2, ← hb1.1] at hs1
          have : len * e.size = (len - 1) * e.size + e.size := by
            rw [← Nat.succ_mul]; congr 1; omega
          show a.off + ys.length * e.size ≤ cur.size
          rw [hlen]
          omega
        · intro i hi
          obtain ⟨cs1, hc1, hv, _⟩ := hy i hi
          obtain ⟨cur1, et1, fr1, _, hb1, _, hs1⟩ := cells_seg hc1 hpos
          rw [(hadd _).1, hb] at hb1
          simp only [Option.some.injEq, Obj.cells.injEq] at hb1
          rw [(hadd _).2, ← hb1.1] at hs1
          rw [← hs1]
          exact hv
  | .u, t, n, cs, x, ht, _, h => by
    obtain ⟨fs, hu, hz⟩ := tok_u ht
    obtain ⟨xs, m, _, _, hl, _⟩ := DataW.trod_struct hu h
    rw [tok_cells ht] at hl
    exact ⟨(), List.eq_nil_of_length_eq_zero hl, trivial⟩
  | .p a c2, t, n, cs, x, ht, hp, h => by
    obtain ⟨fs, hu, hf⟩ := tok_p ht
    obtain ⟨xs, m, _, _, hl, _, hget⟩ := DataW.trod_struct hu h
    rw [tok_cells ht] at hl
    have := fields_view hO (.p a c2) fs.toList 0 m cs hf hp (by simpa using hl) (by
      intro i f hi
      have := hget i f (by simpa using hi)
      have hlt : i < xs.length := by
        have : i < fs.toList.length := (List.getElem?_eq_some_iff.1 hi).1
        simp at this; omega
      exact ⟨_, this.trans (List.getElem?_eq_getElem hlt)⟩)
    simpa using this
termination_by τ => (sizeOf τ, 1)
theorem fields_view (hO : ∀ b, ¬ (fun _ : Nat => False) b) : ∀ (τ : Ty) (fs : List Field) (o m : Nat) (cs : List Value), fokB P τ fs o = true → τ.pos = true → cs.length = o + τ.size →
    (∀ (i : Nat) (f : Field), fs[i]? = some f → ∃ x, DataW.trod enc P w base spare held m f.type ((cs.drop f.offset).take (P.cellsOf f.type)) = some x) →
    ∃ y : T τ, View w (fun _ => False) τ y (cs.drop o) ∧ Rng τ y
  | .p a c2, fs, o, m, cs, hf, hp, hl, hx => by
    obtain ⟨f, r, rfl, ho, ht, hr⟩ := fok_cons hf
    simp only [Ty.pos, Bool.and_eq_true] at hp
    simp only [Ty.size] at hl
    obtain ⟨z, hz⟩ := hx 0 f rfl
    rw [tok_cells ht, ho] at hz
    obtain ⟨y1, hv1, hr1⟩ := trod_view hO a f.type m _ z ht hp.1 hz
    obtain ⟨y2, hv2, hr2⟩ := fields_view hO c2 r (o + a.size) m cs hr hp.2 (by omega) (fun i f' hi => hx (i + 1) f' (by simpa using hi))
    refine ⟨(y1, y2), ⟨(cs.drop o).take a.size, cs.drop (o + a.size), ?_, hv1, hv2⟩, hr1, hr2⟩
    rw [← List.drop_drop, List.take_append_drop]
  | .u, fs, o, m, cs, _, _, hl, _ => ⟨(), by simp only [View, Ty.size] at hl ⊢; exact List.drop_of_length_le (by omega), trivial⟩
  | .i _, fs, o, m, cs, hf, _, _, _ => by simp [fokB] at hf
  | .b, fs, o, m, cs, hf, _, _, _ => by simp [fokB] at hf
  | .o, fs, o, m, cs, hf, _, _, _ => by simp [fokB] at hf
  | .s, fs, o, m, cs, hf, _, _, _ => by simp [fokB] at hf
  | .sl _, fs, o, m, cs, hf, _, _, _ => by simp [fokB] at hf
termination_by τ => (sizeOf τ, 0)
end
end
end KF

namespace KF
open Go Go.WideShapes Go.ChangeShapes

def parsB (P : Program) : Ty → List TypeId → Bool
  | .p x y, t :: ts => tokB P x t && x.pos && parsB P y ts
  | .u, [] => true
  | _, _ => false

section
variable {H : Type} {enc : TypeId × Value → H} {P : Program} {w : World} {base : Nat} {spare : Nat → Bool} {held : Bool}

theorem cells_vof {τ : Ty} {t : TypeId} {v : Value} {r : Reach} {b0 : Nat} (ht : tokB P τ t = true) (h : Value.okWide P w r b0 t v) : v = vof τ v.cells.toList := by
  have key : ∀ {τ : Ty}, τ.isAgg = false → v.cells = #[v] → v = vof τ v.cells.toList := by
    intro τ h1 h2
    rw [h2]; simp [vof, h1]
  cases τ with
  | i k =>
    obtain ⟨n, rfl⟩ := okWide_int (Tok.i ht) h
    exact key rfl rfl
  | b =>
    obtain ⟨n, rfl⟩ := okWide_bool (Tok.b ht) h
    exact key rfl rfl
  | o =>
    refine key rfl ?_
    obtain ⟨et, hu⟩ := Tok.o ht
    unfold Value.okWide at h
    rw [hu] at h
    cases v with
    | agg cs => simp [Cell.okWide, Cell.ok, hu] at h
    | _ => rfl
  | s =>
    refine key rfl ?_
    have hu := Tok.s ht
    unfold Value.okWide at h
    rw [hu] at h
    cases v with
    | agg cs => simp [Cell.okWide, Cell.ok, hu] at h
    | _ => rfl
  | sl e =>
    refine key rfl ?_
    obtain ⟨et, hu, _⟩ := Tok.sl ht
    unfold Value.okWide at h
    rw [hu] at h
    cases v with
    | agg cs => simp [Cell.okWide, Cell.ok, hu] at h
    | _ => rfl
  | u =>
    obtain ⟨fs, hu, _⟩ := tok_u ht
    obtain ⟨cs, rfl, _⟩ := okWide_struct hu h
    simp [vof, Ty.isAgg, Value.cells]
  | p x y =>
    obtain ⟨fs, hu, _⟩ := tok_p ht
    obtain ⟨cs, rfl, _⟩ := okWide_struct hu h
    simp [vof, Ty.isAgg, Value.cells]

theorem trodAll_args : ∀ {pt : Ty} {ts : List TypeId} {vs : List Value} {ds : List (DataW H)} {ps : List MemPlace}, parsB P pt ts = true → DataW.TrodAll enc P w 0 spare held ts vs ds ps →
    (∀ (j : Nat) t v, ts[j]? = some t → vs[j]? = some v → Value.okWide P w .any base t v) → ∃ x : T pt, VArgs w (fun _ => False) pt x vs ∧ Rng pt x
  | .p x y, t :: ts, v :: vs, d :: ds, ps, hp, h, hv => by
    simp only [parsB, Bool.and_eq_true] at hp
    obtain ⟨p, q, ⟨n, h1⟩, h2, _⟩ := h
    obtain ⟨a, ha, hra⟩ := trod_view (fun _ h => h) x t n _ _ hp.1.1 hp.1.2 h1
    obtain ⟨b, hb, hrb⟩ := trodAll_args hp.2 h2 fun j t' v' h1 h2 => hv (j + 1) t' v' (by simpa using h1) (by simpa using h2)
    exact ⟨(a, b), ⟨⟨_, cells_vof hp.1.1 (hv 0 t v rfl rfl), ha⟩, hb⟩, hra, hrb⟩
  | .u, [], [], [], _, _, _, _ => ⟨(), trivial, trivial⟩
  | .p _ _, [], _, _, _, hp, _, _ => by simp [parsB] at hp
  | .u, _ :: _, _, _, _, hp, _, _ => by simp [parsB] at hp
  | .i _, _, _, _, _, hp, _, _ => by simp [parsB] at hp
  | .b, _, _, _, _, hp, _, _ => by simp [parsB] at hp
  | .o, _, _, _, _, hp, _, _ => by simp [parsB] at hp
  | .s, _, _, _, _, hp, _, _ => by simp [parsB] at hp
  | .sl _, _, _, _, _, hp, _, _ => by simp [parsB] at hp
  | .p _ _, _ :: _, [], _, _, _, h, _ => by simp [DataW.TrodAll] at h
  | .p _ _, _ :: _, _ :: _, [], _, _, h, _ => by simp [DataW.TrodAll] at h
  | .u, [], _ :: _, _, _, _, h, _ => by simp [DataW.TrodAll] at h
  | .u, [], [], _ :: _, _, _, h, _ => by simp [DataW.TrodAll] at h

/-- types of data alone -/
def Plain (P : Program) (t : TypeId) : Prop := ∃ τ : Ty, tokB P τ t = true ∧ τ.pos = true

theorem fok_rows : ∀ {τ : Ty} {fs : List Field} {o : Nat}, fokB P τ fs o = true → τ.pos = true →
    (∀ f ∈ fs, Plain P f.type) ∧ τ.size = (fs.map fun f => P.cellsOf f.type).sum ∧ ∀ (j : Nat) f, fs[j]? = some f → f.offset = o + ((fs.take j).map fun f => P.cellsOf f.type).sum
  | .u, fs, o, h, _ => by
    rw [fok_nil h]
    simp [Ty.size]
  | .p x y, fs, o, h, hp => by
    obtain ⟨f, r, rfl, ho, ht, hr⟩ := fok_cons h
    simp only [Ty.pos, Bool.and_eq_true] at hp
    obtain ⟨h1, h2, h3⟩ := fok_rows hr hp.2
    refine ⟨?_, ?_, ?_⟩
    · intro g hg
      rcases List.mem_cons.1 hg with rfl | hg
      · exact ⟨x, ht, hp.1⟩
      · exact h1 g hg
    · simp [Ty.size, tok_cells ht, h2]
    · intro j g hj
      cases j with
      | zero => simp at hj; subst hj; simp [ho]
      | succ j =>
        have := h3 j g (by simpa using hj)
        simp [this, tok_cells ht, Nat.add_assoc]
  | .i _, fs, o, h, _ => by simp [fokB] at h
  | .b, fs, o, h, _ => by simp [fokB] at h
  | .o, fs, o, h, _ => by simp [fokB] at h
  | .s, fs, o, h, _ => by simp [fokB] at h
  | .sl _, fs, o, h, _ => by simp [fokB] at h

theorem plain_und {t : TypeId} {u : TypeDesc} (h : Plain P t) (hu : P.underlying t = some u) : (∃ k, u = .int k) ∨ u = .bool ∨ u = .string ∨ (∃ e, u = .slice e ∧ Plain P e ∧ 0 < P.cellsOf e) ∨ ∃ fs, u = .struct fs := by
  obtain ⟨τ, ht, hp⟩ := h
  cases τ with
  | i k => rw [Tok.i ht] at hu; exact .inl ⟨k, (Option.some.inj hu).symm⟩
  | b => rw [Tok.b ht] at hu; exact .inr (.inl (Option.some.inj hu).symm)
  | o => simp [Ty.pos] at hp
  | s => rw [Tok.s ht] at hu; exact .inr (.inr (.inl (Option.some.inj hu).symm))
  | sl e =>
    obtain ⟨et, h1, h2⟩ := Tok.sl ht
    rw [h1] at hu
    simp only [Ty.pos, Bool.and_eq_true] at hp
    exact .inr (.inr (.inr (.inl ⟨et, (Option.some.inj hu).symm, ⟨e, h2, hp.1⟩, by rw [tok_cells h2]; simpa using hp.2⟩)))
  | u => obtain ⟨fs, h1, _⟩ := tok_u ht; rw [h1] at hu; exact .inr (.inr (.inr (.inr ⟨fs, (Option.some.inj hu).symm⟩)))
  | p x y => obtain ⟨fs, h1, _⟩ := tok_p ht; rw [h1] at hu; exact .inr (.inr (.inr (.inr ⟨fs, (Option.some.inj hu).symm⟩)))

theorem kids_plain : Kids P (Plain P) := by
  refine ⟨?_, ?_, ?_, ?_, ?_⟩
  · intro t e ht hu
    rcases plain_und ht hu with ⟨k, h⟩ | h | h | ⟨e', h, _⟩ | ⟨fs, h⟩ <;> simp at h
  · intro t e ht hu
    rcases plain_und ht hu with ⟨k, h⟩ | h | h | ⟨e', h, h2, _⟩ | ⟨fs, h⟩ <;> simp at h
    rw [h]; exact h2
  · intro t e n ht hu
    rcases plain_und ht hu with ⟨k, h⟩ | h | h | ⟨e', h, _⟩ | ⟨fs, h⟩ <;> simp at h
  · intro t fs ht hu
    obtain ⟨τ, ht, hp⟩ := ht
    cases τ with
    | i k => rw [Tok.i ht] at hu; simp at hu
    | b => rw [Tok.b ht] at hu; simp at hu
    | o => simp [Ty.pos] at hp
    | s => rw [Tok.s ht] at hu; simp at hu
    | sl e => obtain ⟨et, h1, _⟩ := Tok.sl ht; rw [h1] at hu; simp at hu
    | u =>
      obtain ⟨fs', h1, h2⟩ := tok_u ht
      rw [h1] at hu
      simp only [Option.some.injEq, TypeDesc.struct.injEq] at hu
      subst hu
      have : fs'.toList = [] := by simpa using h2
      rw [tok_cells ht, this]
      simp [Ty.size]
    | p x y =>
      obtain ⟨fs', h1, h2⟩ := tok_p ht
      rw [h1] at hu
      simp only [Option.some.injEq, TypeDesc.struct.injEq] at hu
      subst hu
      obtain ⟨a, b, c⟩ := fok_rows h2 hp
      exact ⟨a, by rw [tok_cells ht, b], fun j f hj => by simpa using c j f hj⟩
  · intro t k e ht hu
    rcases plain_und ht hu with ⟨k, h⟩ | h | h | ⟨e', h, _⟩ | ⟨fs, h⟩ <;> simp at h

theorem parsB_plain : ∀ {pt : Ty} {ts : List TypeId}, parsB P pt ts = true → ∀ t ∈ ts, Plain P t
  | .p x y, t :: ts, h, t', ht => by
    simp only [parsB, Bool.and_eq_true] at h
    rcases List.mem_cons.1 ht with rfl | ht
    · exact ⟨x, h.1.1, h.1.2⟩
    · exact parsB_plain h.2 t' ht
  | .u, [], _, _, ht => by simp at ht
  | .p _ _, [], _, _, ht => by simp at ht
  | .u, _ :: _, h, _, _ => by simp [parsB] at h
  | .i _, _, h, _, _ => by simp [parsB] at h
  | .b, _, h, _, _ => by simp [parsB] at h
  | .o, _, h, _, _ => by simp [parsB] at h
  | .s, _, h, _, _ => by simp [parsB] at h
  | .sl _, _, h, _, _ => by simp [parsB] at h

theorem trodAll_stays {w' : World} {sp' : Nat → Bool} : ∀ {ts : List TypeId} {vs : List Value} {ds : List (DataW H)} {ps : List MemPlace}, (∀ t ∈ ts, Plain P t) →
    DataW.TrodAll enc P w 0 (fun _ => true) true ts vs ds ps → (∀ p ∈ ps, w.sameAt w' p) → (∀ p ∈ ps, sp' p.block = true) → DataW.TrodAll enc P w' 0 sp' true ts vs ds ps
  | [], [], [], _, _, h, _, _ => h
  | t :: ts, v :: vs, d :: ds, ps, hp, h, h1, h2 => by
    obtain ⟨p, q, ⟨n, ha⟩, hb, rfl⟩ := h
    refine ⟨p, q, ⟨n, DataW.trod_stays kids_plain ?_ (fun h => by simp at h) (hp t (by simp)) ha (fun z hz => h1 z (List.mem_append_left _ hz)) (fun z hz => h2 z (List.mem_append_left _ hz))⟩,
      trodAll_stays (fun t ht => hp t (by simp [ht])) hb (fun z hz => h1 z (List.mem_append_right _ hz)) (fun z hz => h2 z (List.mem_append_right _ hz)), rfl⟩
    intro t e ht hu
    rcases plain_und ht hu with ⟨k, h⟩ | h | h | ⟨e', h, _, h2⟩ | ⟨fs, h⟩ <;> simp at h
    rw [h]; exact h2
  | [], _ :: _, _, _, _, h, _, _ => by simp [DataW.TrodAll] at h
  | [], [], _ :: _, _, _, h, _, _ => by simp [DataW.TrodAll] at h
  | _ :: _, [], _, _, _, h, _, _ => by simp [DataW.TrodAll] at h
  | _ :: _, _ :: _, [], _, _, h, _, _ => by simp [DataW.TrodAll] at h

theorem trodAll_len : ∀ {ts : List TypeId} {vs : List Value} {ds : List (DataW H)} {ps : List MemPlace}, DataW.TrodAll enc P w base spare held ts vs ds ps → ds.length = ts.length
  | [], [], [], _, _ => rfl
  | _ :: _, _ :: _, _ :: _, _, h => by
    obtain ⟨_, _, _, h, _⟩ := h
    simp [trodAll_len h]
  | [], _ :: _, _, _, h => by simp [DataW.TrodAll] at h
  | [], [], _ :: _, _, h => by simp [DataW.TrodAll] at h
  | _ :: _, [], _, _, h => by simp [DataW.TrodAll] at h
  | _ :: _, _ :: _, [], _, h => by simp [DataW.TrodAll] at h

theorem Kept.but {w w' : World} (h : Kept w w' fun _ => False) (may : MemPlace → Prop) : w.keptBut w' may := by
  refine ⟨h.os, h.output, fun i hi => ?_⟩
  rw [h.block i hi (fun h => h)]
  cases w.heap[i]? with
  | none => rfl
  | some o =>
    cases o with
    | cells c t fr => exact ⟨rfl, rfl, rfl, fun _ _ => rfl⟩
    | map es clock => exact .inr ⟨rfl, rfl⟩
    | _ => rfl

/-- nothing is known of old blocks -/
def noI : Inv := ⟨0, fun _ => True, fun _ _ _ h => h⟩

/-- a law: whatever the input, it answers true, and the input reads as it did -/
theorem law_lifted {C : Checked} {os : Os} {f : FuncId} {fn : Func} {s : ChangeSpec} {apart fresh handsOn again : Bool} {pt : Ty} {fl : Bool} {F : T pt → Option (Bool × Unit)} {tb : TypeId}
    (own : ownKnob C.prog.godebug = none) (started : os.Started) (noInit : C.prog.inits.idxOf? f = none) (hfn : C.prog.funcs[f]? = some fn)
    (witness : ∃ (w : World) (tape : Tape) (i : Input), w.os = os ∧ (w.forCall tape i).Shaped C.prog ∧ i.vars = [] ∧ Input.okWide C.prog (w.forCall tape i) .any w.heap.size f i ∧
      s.pre6 enc C.prog fn [] apart (w.forCall tape i).memory i.args ∧ ({} : Assume).holds C.prog (lone (Frame.enter C.prog f i.args .normal) [] (w.forCall tape i)))
    (hvars : s.vars = []) (hs : ∀ ds : List (DataW H), ds.length = fn.params.toList.length → s.fn H ds = { results := [.lit (.bool true)], args := ds })
    (hp : parsB C.prog pt fn.params.toList = true) (hr : fn.resultTypes = #[tb]) (htb : C.prog.underlying tb = some .bool)
    (hsound : Sound C.prog noI f (.pu pt (.p .b .u) [fl] F)) (hF : ∀ x, Rng pt x → F x = some (true, ())) :
    ReturnsInHanded {} C os f .any (s.pre6 enc C.prog fn [] apart) (s.post enc C.prog fn apart fresh handsOn again) := by
  refine returnsInHanded_of_change own started noInit hfn witness ?_
  intro W b0 args ds gs before hval hW _ _
  have hW0 := hW
  obtain ⟨p, q, hA, hV, hps, hfz, hnd⟩ := hW
  rw [hvars] at hV
  have hgs : gs = [] ∧ q = [] := by
    cases gs with
    | nil => exact ⟨rfl, hV⟩
    | cons _ _ => exact hV.elim
  obtain ⟨rfl, rfl⟩ := hgs
  simp only [List.append_nil] at hps
  subst hps
  obtain ⟨x, hx, hrx⟩ := trodAll_args (base := b0) hp hA fun j t v h1 h2 => hval j t v (by simpa using h1) (by simpa using h2)
  have hcall := hsound.2 (fun _ => False) W x (true, ()) args.toList (hF x hrx) hx (fun _ h => h.elim) trivial (Nat.zero_le _)
  refine hcall.mono fun e W' hret => ?_
  cases e with
  | returned v =>
    obtain ⟨vs, Fr, hv, hk, hR, _, _⟩ := hret
    have hvt : v = .bool true := by
      cases vs with
      | nil => simp [RParts] at hR
      | cons a r =>
        obtain ⟨cs, F1, F2, ha, _, hown, hrest⟩ := hR
        cases r with
        | cons _ _ => simp [RParts] at hrest
        | nil =>
          have hcs : cs = [.bool true] := by
            cases fl with
            | true => exact hown.1
            | false => exact hown.1
          rw [hv, oneV, ha, hcs]
          rfl
    subst hvt
    refine ⟨_, rfl, ?_⟩
    have hsp := hs ds (trodAll_len hA)
    have hlt : ∀ z ∈ before, z.block < W.heap.size := hW0.lt
    have hsame : ∀ z ∈ before, W.sameAt W' z := by
      intro z hz
      have hb := hk.block z.block (hlt z hz) (fun h => h)
      cases z with
      | cell b off =>
        show W'.cell? _ = W.cell? _
        simp only [World.cell?]
        rw [show W'.heap[b]? = W.heap[b]? from hb]
      | map b => exact hb
    have hargs : ∀ sp : Nat → Bool, (∀ z ∈ before, sp z.block = true) → DataW.TrodAll enc C.prog W' 0 sp true fn.params.toList args.toList ds before :=
      fun sp h => trodAll_stays (parsB_plain hp) hA hsame h
    have hres : ∀ (b : Nat) (sp : Nat → Bool) (hd : Bool), DataW.TrodAll enc C.prog W' b sp hd fn.resultTypes.toList ((Value.bool true).resultList fn.resultTypes.size) [.lit (.bool true)] [] := by
      intro b sp hd
      rw [hr]
      exact trodAll_mk1 (Go.RowKit.shut_bool htb true)
    have hold : ∀ z ∈ before, (fun b => decide (b < W.heap.size)) z.block = true := fun z hz => by simpa using hlt z hz
    refine ⟨ds, [], before, [], before, [], hW0, ?_, ?_, ?_, hk.but _, fun _ => ⟨?_, ds.cons (.lit (.bool true)), [], before, ⟨before, [], ?_, ?_, by simp, ?_, ?_⟩, fun z hz _ => hz⟩⟩
    · rw [List.append_nil, hsp]; exact hres _ _ _
    · rw [List.append_nil, hsp]; exact hargs _ hold
    · rw [List.append_nil, hsp, hvars]; rfl
    · intro j t r hj hv
      rw [hr] at hj hv
      match j, hj, hv with
      | 0, hj, hv =>
        simp only [List.getElem?_toArray, List.getElem?_cons_zero, Option.some.injEq] at hj
        simp [Value.resultList] at hv
        subst hj; subst hv
        exact Go.RowKit.okWide_bool_mk htb true
    · exact trodAll_append (hargs _ (fun _ _ => rfl)) (hres _ _ _)
    · rw [hvars]; rfl
    · intro b off hz
      have := hfz b off hz
      unfold World.frozen? at this ⊢
      rw [show W'.heap[b]? = W.heap[b]? from hk.block b (hlt _ hz) (fun h => h)]
      exact this
    · exact hnd
  | _ => exact hret.elim
end
end KF

namespace KF
open Go

/-- what a loop computes from its rounds -/
noncomputable def loopF {X R : Type} (step : X → Option (X ⊕ R)) (x : X) : Option R :=
  open Classical in if h : ∃ m y, Iter step m x y then some h.choose_spec.choose else none

theorem Iter.det {X R : Type} {step : X → Option (X ⊕ R)} : ∀ {m n : Nat} {x : X} {y z : R}, Iter step m x y → Iter step n x z → y = z
  | 0, _, _, _, _, h, _ => h.elim
  | _ + 1, 0, _, _, _, _, h => h.elim
  | m + 1, n + 1, x, y, z, h, h' => by
    rcases h with h | ⟨x1, h, h1⟩ <;> rcases h' with h' | ⟨x2, h', h2⟩
    · rw [h] at h'; simpa using h'
    · rw [h] at h'; simp at h'
    · rw [h] at h'; simp at h'
    · rw [h] at h'
      simp only [Option.some.injEq, Sum.inl.injEq] at h'
      subst h'
      exact Iter.det h1 h2

theorem loopF_iff {X R : Type} {step : X → Option (X ⊕ R)} {x : X} {y : R} : loopF step x = some y ↔ ∃ m, Iter step m x y := by
  unfold loopF
  constructor
  · intro h
    split at h
    · rename_i hh
      simp only [Option.some.injEq] at h
      exact ⟨_, h ▸ hh.choose_spec.choose_spec⟩
    · simp at h
  · rintro ⟨m, h⟩
    have hh : ∃ m y, Iter step m x y := ⟨m, y, h⟩
    rw [dif_pos hh]
    exact congrArg some (Iter.det hh.choose_spec.choose_spec h)

/-- one round of a loop -/
theorem loopF_step {X R : Type} {step : X → Option (X ⊕ R)} (x : X) : loopF step x = (step x).bind (Sum.elim (loopF step) some) := by
  apply Option.ext
  intro y
  rw [loopF_iff]
  constructor
  · rintro ⟨m, h⟩
    cases m with
    | zero => exact h.elim
    | succ m =>
      rcases h with h | ⟨x', h, h'⟩
      · simp [h]
      · simp [h, loopF_iff.2 ⟨m, h'⟩]
  · intro h
    rw [Option.bind_eq_some_iff] at h
    obtain ⟨z, hz, h⟩ := h
    cases z with
    | inl x' =>
      obtain ⟨m, hm⟩ := loopF_iff.1 h
      exact ⟨m + 1, .inr ⟨x', hz, hm⟩⟩
    | inr z =>
      simp only [Sum.elim_inr, Option.some.injEq] at h
      subst h
      exact ⟨1, .inl hz⟩

/-- the i-th loop of a function -/
def lp (fn : Func) (i : Nat) : Code := (loopsOf (fn.body.getD .skip)).getD i .skip

theorem loopOk_of {G : Env} {L : List (Nat × LoopSem)} {fn : Func} {i r : Nat} {ls : LoopSem} {R : ls.inT.X → Option (ls.inT.X ⊕ (ls.outT.X ⊕ ls.retT.X))}
    (h1 : firstRegion (lp fn i) = some r) (h2 : (aget L r) = some ls) (h3 : ls.F = loopF R) (h4 : ∀ x, round G L ls (lp fn i) x = R x) : LoopOk G L (lp fn i) := by
  intro r' ls' hr hl x y hy
  rw [h1] at hr
  simp only [Option.some.injEq] at hr
  subst hr
  rw [h2] at hl
  simp only [Option.some.injEq] at hl
  subst hl
  rw [h3] at hy
  obtain ⟨m, hm⟩ := loopF_iff.1 hy
  have : round G L ls (lp fn i) = R := funext h4
  rw [this]
  exact ⟨m, hm⟩

theorem loops_all {G : Env} {L : List (Nat × LoopSem)} {fn : Func} {k : Nat} (hk : Nat.beq (loopsOf (fn.body.getD .skip)).length k = true) (h : ∀ i, i < k → LoopOk G L (lp fn i)) :
    ∀ b, b ∈ loopsOf (fn.body.getD .skip) → LoopOk G L b := by
  intro b hb
  obtain ⟨i, hi, rfl⟩ := List.mem_iff_getElem.1 hb
  have := h i (by rw [← Nat.eq_of_beq_eq_true hk]; exact hi)
  unfold lp at this
  rwa [List.getD_eq_getElem?_getD, List.getElem?_eq_getElem hi] at this

theorem below_zero {p : Nat → Prop} : ∀ i, i < 0 → p i := fun i h => absurd h (Nat.not_lt_zero i)
theorem below_succ {p : Nat → Prop} {k : Nat} (h : p k) (hr : ∀ i, i < k → p i) : ∀ i, i < k + 1 → p i := by
  intro i hi
  rcases Nat.lt_or_eq_of_le (Nat.lt_succ_iff.1 hi) with hi | rfl
  · exact hr i hi
  · exact h

section
variable {P : Program}

theorem aget_in {α : Type} {l : List (Nat × α)} {t : Nat} {a : α} (h : aget l t = some a) : (t, a) ∈ l := aget_mem h

theorem envTy_of {l : List (Nat × Ty)} {fs : List (Nat × FnSem)} {m : List (Nat × Nat)} {z : Bool} {ar : List (Nat × Ty × Nat)} {mv ml : List Nat}
    (h : ((l.all fun x => tokB P x.2 x.1) && (ar.all fun x => arrB P x.1 x.2.1 x.2.2)) = true) : EnvTy P ⟨l, fs, m, z, ar, mv, ml⟩ := by
  simp only [Bool.and_eq_true] at h
  exact ⟨fun t τ ht => List.all_eq_true.1 h.1 (t, τ) (aget_mem ht), fun t e n ht => List.all_eq_true.1 h.2 (t, e, n) (aget_mem ht)⟩

theorem envOk_nil {I : Inv} {l : List (Nat × Ty)} {m : List (Nat × Nat)} {z : Bool} {ar : List (Nat × Ty × Nat)} {mv ml : List Nat}
    (h : ((l.all fun x => tokB P x.2 x.1) && (ar.all fun x => arrB P x.1 x.2.1 x.2.2)) = true) : EnvOk P I ⟨l, [], m, z, ar, mv, ml⟩ :=
  { toEnvTy := envTy_of h, fn := fun f sem h => by simp [aget] at h }
theorem EnvOk.cons {I : Inv} {l : List (Nat × Ty)} {fs : List (Nat × FnSem)} {m : List (Nat × Nat)} {z : Bool} {ar : List (Nat × Ty × Nat)} {mv ml : List Nat} {f : Nat} {sem : FnSem} (hs : Sound P I f sem)
    (h : EnvOk P I ⟨l, fs, m, z, ar, mv, ml⟩) : EnvOk P I ⟨l, (f, sem) :: fs, m, z, ar, mv, ml⟩ :=
  { toEnvTy := ⟨h.ty, h.ar⟩, fn := fun g s hg => by
      simp only [aget_cons] at hg
      split at hg
      · rename_i e
        simp only [Option.some.injEq] at hg
        subst e; subst hg
        exact hs
      · exact h.fn g s hg }

theorem body_some {fn : Func} (h : fn.body.isSome = true) : fn.body = some (fn.body.getD .skip) := by
  cases hb : fn.body with
  | none => rw [hb] at h; simp at h
  | some c => rfl

variable {I : Inv} {G : Env} {L : List (Nat × LoopSem)}

theorem sound_pu' (hG : EnvOk P I G) (hm : P.follows .mixedOrders = true) {f : FuncId} {fn : Func} {k : Nat} {pt rt : Ty} {fr : List Bool} {F : T pt → Option (T rt)} (hf : P.funcs[f]? = some fn)
    (hb : (fn.body.isSome && !(fn.name == "runtime.NumGoroutine") && Nat.ble pt.npar fn.ntmps && Nat.beq (loopsOf (fn.body.getD .skip)).length k) = true)
    (hL : ∀ i, i < k → LoopOk G L (lp fn i)) (hF : ∀ x, evF G L fn pt rt fr x = F x) : Sound P I f (.pu pt rt fr F) := by
  simp only [Bool.and_eq_true, Bool.not_eq_true'] at hb
  exact sound_pu hG hm hf (body_some hb.1.1.1) hb.1.1.2 (loops_all hb.2 hL) (Nat.le_of_ble_eq_true hb.1.2) fun x r h => (hF x).trans h

theorem sound_io' (hG : EnvOk P I G) (hfz : G.fz = false) (hm : P.follows .mixedOrders = true) {f : FuncId} {fn : Func} {k : Nat} {τ pt rt : Ty} {fr : List Bool} {F : T τ → T pt → Option (T τ × T rt)} (hf : P.funcs[f]? = some fn)
    (hb : (fn.body.isSome && !(fn.name == "runtime.NumGoroutine") && Nat.ble (pt.npar + 1) fn.ntmps && Nat.beq (loopsOf (fn.body.getD .skip)).length k) = true)
    (hL : ∀ i, i < k → LoopOk G L (lp fn i)) (hF : ∀ x0 x, evFio G L fn τ pt rt fr x0 x = F x0 x) : Sound P I f (.io τ pt rt fr F) := by
  simp only [Bool.and_eq_true, Bool.not_eq_true'] at hb
  exact sound_io hG hfz hm hf (body_some hb.1.1.1) hb.1.1.2 (loops_all hb.2 hL) (Nat.le_of_ble_eq_true hb.1.2) fun x0 x r h => (hF x0 x).trans h

theorem sound_co' (hG : EnvOk P I G) (hfz : G.fz = false) (hm : P.follows .mixedOrders = true) {f : FuncId} {fn : Func} {k : Nat} {pt rt : Ty} {fr : List Bool} {F : T pt → Option (T rt)} (hf : P.funcs[f]? = some fn)
    (hb : (fn.body.isSome && !(fn.name == "runtime.NumGoroutine") && Nat.ble pt.npar fn.ntmps && Nat.beq (loopsOf (fn.body.getD .skip)).length k) = true)
    (hL : ∀ i, i < k → LoopOk G L (lp fn i)) (hF : ∀ x, evFco G L fn pt rt fr x = F x) : Sound P I f (.co pt rt fr F) := by
  simp only [Bool.and_eq_true, Bool.not_eq_true'] at hb
  exact sound_co hG hfz hm hf (body_some hb.1.1.1) hb.1.1.2 (loops_all hb.2 hL) (Nat.le_of_ble_eq_true hb.1.2) fun x r h => (hF x).trans h

theorem sound_bx' (hG : EnvOk P I G) (hfz : G.fz = false) (hm : P.follows .mixedOrders = true) {f : FuncId} {fn : Func} {k : Nat} {vw cv : Bool} {τ pt rt : Ty} {fr : List Bool} {F : T τ → T pt → Option (T τ × T rt)} (hf : P.funcs[f]? = some fn)
    (hb : (fn.body.isSome && !(fn.name == "runtime.NumGoroutine") && Nat.ble (pt.npar + 1) fn.ntmps && Nat.beq (loopsOf (fn.body.getD .skip)).length k) = true)
    (hL : ∀ i, i < k → LoopOk G L (lp fn i)) (hF : ∀ x0 x, evFbx G L fn vw cv τ pt rt fr x0 x = F x0 x) : Sound P I f (.bx vw cv τ pt rt fr F) := by
  simp only [Bool.and_eq_true, Bool.not_eq_true'] at hb
  exact sound_bx hG hfz hm hf (body_some hb.1.1.1) hb.1.1.2 (loops_all hb.2 hL) (Nat.le_of_ble_eq_true hb.1.2) fun x0 x r h => (hF x0 x).trans h

theorem sound_nw' (hG : EnvOk P I G) (hm : P.follows .mixedOrders = true) {f : FuncId} {fn : Func} {k : Nat} {pt τ : Ty} {F : T pt → Option (T τ)} (hf : P.funcs[f]? = some fn)
    (hb : (fn.body.isSome && !(fn.name == "runtime.NumGoroutine") && Nat.ble pt.npar fn.ntmps && Nat.beq (loopsOf (fn.body.getD .skip)).length k) = true)
    (hL : ∀ i, i < k → LoopOk G L (lp fn i)) (hF : ∀ x, evFnw G L fn pt τ x = F x) : Sound P I f (.nw pt τ F) := by
  simp only [Bool.and_eq_true, Bool.not_eq_true'] at hb
  exact sound_nw hG hm hf (body_some hb.1.1.1) hb.1.1.2 (loops_all hb.2 hL) (Nat.le_of_ble_eq_true hb.1.2) fun x r h => (hF x).trans h
end
end KF

namespace KF
open Go
set_option linter.unusedSimpArgs false
set_option linter.unusedVariables false

/-! ### Reports that are picked out of a list that was handed over: they are owned -/
abbrev rpT : Ty := .p (.i .i64) (.p (.sl (.i .i64)) .u)
abbrev rpO : Ty := .p (.i .i64) (.p .o .u)
def hd (h : T .o) : Value := .slice h.1 h.2.1 h.2.2
section
variable {P : Program} {w w' : World}

theorem own_hd {x : T rpT} {cs : List Value} {F : List Nat} (h : Own w rpT x cs F) : ∃ h : T .o, cs = [.int .i64 x.1, hd h] ∧ Own w (.sl (.i .i64)) x.2.1 [hd h] F := by
  obtain ⟨c1, c2, F1, F2, rfl, rfl, ⟨rfl, rfl⟩, c3, c4, F3, F4, rfl, rfl, h3, rfl, rfl⟩ := h
  have h3' := h3
  obtain ⟨_, ⟨e1, _, _⟩ | ⟨bl, off, cap, cur, et, Fs, e1, _⟩⟩ := h3
  · subst e1
    exact ⟨(none, 0, 0), rfl, by simpa [hd] using h3'⟩
  · subst e1
    exact ⟨(some ⟨bl, off, none⟩, List.length x.2.1, cap), rfl, by simpa [hd] using h3'⟩
theorem hd_own {x : T rpT} {h : T .o} {F : List Nat} (ho : Own w (.sl (.i .i64)) x.2.1 [hd h] F) : Own w rpT x [.int .i64 x.1, hd h] F :=
  ⟨[.int .i64 x.1], [hd h], [], F, rfl, rfl, ⟨rfl, rfl⟩, [hd h], [], F, [], by simp, by simp, ho, rfl, rfl⟩
theorem view_hd (x : T rpO) (O : Nat → Prop) : View w O rpO x [.int .i64 x.1, hd x.2.1] :=
  ⟨[.int .i64 x.1], [hd x.2.1], rfl, rfl, [hd x.2.1], [], by simp, rfl, rfl⟩
theorem hd_view {x : T rpO} {O : Nat → Prop} {cs : List Value} (h : View w O rpO x cs) : cs = [.int .i64 x.1, hd x.2.1] := by
  obtain ⟨c1, c2, rfl, rfl, c3, c4, rfl, rfl, rfl⟩ := h
  rfl

/-- a report, its veiled twin, its blocks -/
abbrev Tri := T rpT × T rpO × List Nat
def TriOk (w : World) (p : Tri) : Prop := p.2.1.1 = p.1.1 ∧ Own w (.sl (.i .i64)) p.1.2.1 [hd p.2.1.2.1] p.2.2

theorem rows_tri {l : List (T rpT)} {cs : List Value} {F : List Nat} (h : Own w (.sl rpT) l cs F) :
    ∃ Q : List Tri, Q.map (·.1) = l ∧ View w (fun _ => False) (.sl rpO) (Q.map (·.2.1)) cs ∧ (∀ p ∈ Q, TriOk w p) ∧ (Q.map (·.2.2)).flatten.Sublist F := by
  obtain ⟨hm, ⟨rfl, rfl, rfl⟩ | ⟨bl, off, cap, cur, et, Fs, rfl, hh, h1, h2, h3, rfl, hl, hv⟩⟩ := h
  · exact ⟨[], rfl, ⟨none, 0, rfl, Nat.le_refl _, hm, .inl rfl⟩, by simp, by simp⟩
  · have key : ∀ i : Fin (List.length l), ∃ h : T .o, seg cur (off + i.val * rpT.size) rpT.size = [.int .i64 (List.get l i).1, hd h] ∧ Own w (.sl (.i .i64)) (List.get l i).2.1 [hd h] (Fs.getD i.val []) :=
      fun i => own_hd (hv i.val i.isLt)
    have ⟨g, hg⟩ := Classical.axiomOfChoice key
    let Q : List Tri := List.ofFn fun i : Fin (List.length l) => (List.get l i, ((List.get l i).1, g i, ()), Fs.getD i.val [])
    have hQ : ∀ i (hi : i < List.length l), Q[i]'(by simp [Q]; exact hi) = (List.get l ⟨i, hi⟩, ((List.get l ⟨i, hi⟩).1, g ⟨i, hi⟩, ()), Fs.getD i []) := fun i hi => by simp [Q]
    have hQl : Q.length = List.length l := by simp [Q]
    refine ⟨Q, ?_, ?_, ?_, ?_⟩
    · apply List.ext_getElem
      · simp [hQl]
      · intro i h1 h2
        rw [List.getElem_map, hQ i h2]; rfl
    · have hlen : List.length (Q.map (·.2.1)) = List.length l := by simp [hQl]
      refine ⟨_, cap, by rw [hlen], by rw [hlen]; exact h1, by rw [hlen]; exact hm, .inr ⟨bl, off, cur, et, _, rfl, fun h => h, hh, ?_, fun i hi => ?_⟩⟩
      · rw [hlen]
        have := Nat.mul_le_mul_right rpT.size h1
        exact Nat.le_trans (Nat.add_le_add_left this _) h3
      · have hi' : i < List.length l := by rw [← hlen]; exact hi
        have e : List.get (Q.map (·.2.1)) ⟨i, hi⟩ = ((List.get l ⟨i, hi'⟩).1, g ⟨i, hi'⟩, ()) := by
          show (Q.map (·.2.1))[i] = _
          rw [List.getElem_map, hQ i hi']
        rw [e]
        have := (hg ⟨i, hi'⟩).1
        show View w _ rpO _ (seg cur (off + i * rpT.size) rpT.size)
        rw [this]
        exact view_hd (((List.get l ⟨i, hi'⟩).1, g ⟨i, hi'⟩, ()) : T rpO) _
    · intro p hp
      obtain ⟨i, hi, rfl⟩ := List.getElem_of_mem hp
      have hi' : i < List.length l := by rw [← hQl]; exact hi
      rw [hQ i hi']
      exact ⟨rfl, (hg ⟨i, hi'⟩).2⟩
    · have e : Q.map (·.2.2) = Fs := by
        apply List.ext_getElem
        · simp [hQl, hl]
        · intro i h1 h2
          have hi' : i < List.length l := by rw [← hl]; exact h2
          rw [List.getElem_map, hQ i hi']
          simp [List.getD, List.getElem?_eq_getElem h2]
      rw [e]
      exact List.sublist_cons_self _ _

/-- the other way: rows of twins in a new block, blocks that are still as they were -/
theorem tri_rows {Q : List Tri} {cs : List Value} {F : List Nat} (h : Own w (.sl rpO) (Q.map (·.2.1)) cs F) (hQ : ∀ p ∈ Q, TriOk w p) :
    ∃ F', Own w (.sl rpT) (Q.map (·.1)) cs F' ∧ (∀ b, b ∈ F' → b ∈ F ∨ b ∈ (Q.map (·.2.2)).flatten) ∧ ((∀ b, b ∈ F → b ∉ (Q.map (·.2.2)).flatten) → F.Nodup → (Q.map (·.2.2)).flatten.Nodup → F'.Nodup) := by
  obtain ⟨hm, ⟨rfl, hn, rfl⟩ | ⟨bl, off, cap, cur, et, Fs, rfl, hh, h1, h2, h3, rfl, hl, hv⟩⟩ := h
  · have : Q = [] := List.map_eq_nil_iff.1 hn
    subst this
    exact ⟨[], ⟨hm, .inl ⟨rfl, rfl, rfl⟩⟩, by simp, by simp⟩
  · have hlen : List.length (Q.map (·.2.1)) = Q.length := by simp
    have hlen1 : List.length (Q.map (·.1)) = Q.length := by simp
    rw [hlen] at hm h1 hl
    refine ⟨bl :: (Q.map (·.2.2)).flatten, ⟨by rw [hlen1]; exact hm, .inr ⟨bl, off, cap, cur, et, Q.map (·.2.2), by rw [hlen1]; simp, hh, by rw [hlen1]; exact h1, h2, h3, rfl, by simp, fun i hi => ?_⟩⟩, ?_, ?_⟩
    · have hi' : i < Q.length := by rw [← hlen1]; exact hi
      have hv' := hv i (by rw [hlen]; exact hi')
      have e0 : List.get (Q.map (·.2.1)) ⟨i, by rw [hlen]; exact hi'⟩ = Q[i].2.1 := by
        show (Q.map (·.2.1))[i]'_ = _
        rw [List.getElem_map]
      have e1 : List.get (Q.map (·.1)) ⟨i, hi⟩ = Q[i].1 := by
        show (Q.map (·.1))[i]'_ = _
        rw [List.getElem_map]
      rw [e0] at hv'
      rw [e1]
      have hF0 : ∀ b, b ∈ Fs.getD i [] → False := by
        intro b hb
        obtain ⟨c1, c2, F1, F2, _, hF, ⟨_, rfl⟩, c3, c4, F3, F4, _, rfl, ⟨_, rfl⟩, _, rfl⟩ := hv'
        rw [hF] at hb; simp at hb
      have hcs := hd_view (Own.view (O := fun _ => False) hv' (fun b hb h => h))
      have hok := hQ Q[i] (List.getElem_mem hi')
      have e2 : (Q.map (·.2.2)).getD i [] = Q[i].2.2 := by
        simp [List.getD, List.getElem?_eq_getElem hi']
      rw [e2]
      show Own w rpT _ (seg cur (off + i * rpO.size) rpO.size) _
      rw [hcs, hok.1]
      exact hd_own hok.2
    · intro b hb
      rcases List.mem_cons.1 hb with rfl | hb
      · exact .inl (by simp)
      · exact .inr hb
    · intro hdj _ hnd
      exact List.nodup_cons.2 ⟨hdj bl (by simp), hnd⟩
end

/-! ### The plain functions -/
def chgL (same : T rpT → T rpT → Bool) : T rpT → List (T rpT) → List (T rpT)
  | _, [] => []
  | a, x :: r => cond (same a x) (chgL same x r) (x :: chgL same x r)
def chgQ (same : T rpT → T rpT → Bool) : T rpT → List Tri → List Tri
  | _, [] => []
  | a, x :: r => cond (same a x.1) (chgQ same x.1 r) (x :: chgQ same x.1 r)
def chgO (c : T rpO → T rpO → Option Bool) : T rpO → List (T rpO) → Option (List (T rpO))
  | _, [] => some []
  | a, x :: r => Option.bind (c a x) fun b => Option.bind (chgO c x r) fun q => some (cond b q (x :: q))
theorem chgQ_fst (same : T rpT → T rpT → Bool) : ∀ (Q : List Tri) (a : T rpT), (chgQ same a Q).map (·.1) = chgL same a (Q.map (·.1))
  | [], _ => rfl
  | x :: r, a => by
    simp only [chgQ, chgL, List.map_cons]
    cases same a x.1 with
    | true => simp only [cond_true]; exact chgQ_fst same r x.1
    | false => simp only [cond_false, List.map_cons]; rw [chgQ_fst same r x.1]
theorem chgQ_sub (same : T rpT → T rpT → Bool) : ∀ (Q : List Tri) (a : T rpT), (chgQ same a Q).Sublist Q
  | [], _ => .slnil
  | x :: r, a => by
    simp only [chgQ]
    cases same a x.1 with
    | true => exact (chgQ_sub same r x.1).cons x
    | false => exact (chgQ_sub same r x.1).cons_cons x
theorem chgO_ok {same : T rpT → T rpT → Bool} {c : T rpO → T rpO → Option Bool} {R : T rpT → T rpO → Prop} (hc : ∀ a ao b bo, R a ao → R b bo → c ao bo = some (same a b)) :
    ∀ (Q : List Tri) (a : T rpT) (ao : T rpO), R a ao → (∀ p ∈ Q, R p.1 p.2.1) → chgO c ao (Q.map (·.2.1)) = some ((chgQ same a Q).map (·.2.1))
  | [], _, _, _, _ => rfl
  | x :: r, a, ao, h, hq => by
    have hx := hq x (by simp)
    simp only [List.map_cons, chgO, chgQ, hc _ _ _ _ h hx, Option.bind_some]
    rw [chgO_ok hc r x.1 x.2.1 hx (fun p hp => hq p (by simp [hp]))]
    simp only [Option.bind_some]
    cases same a x.1 <;> rfl
theorem sub_flatten {α : Type} {a b : List (List α)} (h : a.Sublist b) : a.flatten.Sublist b.flatten := by
  induction h with
  | slnil => simp
  | cons x _ ih => rw [List.flatten_cons]; exact ih.trans (List.sublist_append_right _ _)
  | cons_cons x _ ih => rw [List.flatten_cons, List.flatten_cons]; exact (List.Sublist.refl x).append ih
def smallR (x : T rpT) : Bool := Nat.ble (List.length x.2.1) lim
noncomputable def chgF (same : T rpT → T rpT → Bool) (a : T rpT) (l : List (T rpT)) : Option (List (T rpT) × Unit) :=
  bif Nat.ble (List.length l) lim && (smallR a && l.all smallR) then some (chgL same a l, ()) else none

/-! ### What the headers hold -/
theorem ints_eq {w : World} {O O' : Nat → Prop} {xs ys : List Int} {v : Value} (h1 : View w O (.sl (.i .i64)) xs [v]) (h2 : View w O' (.sl (.i .i64)) ys [v]) : xs = ys := by
  obtain ⟨a, cap, e1, _, _, h1⟩ := h1
  obtain ⟨a', cap', e2, _, _, h2⟩ := h2
  rw [e1] at e2
  simp only [List.cons.injEq, Value.slice.injEq, and_true] at e2
  obtain ⟨rfl, hlen, rfl⟩ := e2
  have hlen' : xs.length = ys.length := hlen
  rcases h1 with h1 | ⟨bl, off, cur, et, fr, ha, _, hh, hs, hv⟩
  · have h1' : xs = [] := h1
    subst h1'
    exact (List.eq_nil_of_length_eq_zero (by simpa using hlen'.symm)).symm
  · rcases h2 with h2 | ⟨bl', off', cur', et', fr', ha', _, hh', hs', hv'⟩
    · have h2' : ys = [] := h2
      subst h2'
      exact List.eq_nil_of_length_eq_zero (by simpa using hlen')
    · rw [ha] at ha'
      simp only [Option.some.injEq, Addr.mk.injEq, and_true] at ha'
      obtain ⟨rfl, rfl⟩ := ha'
      rw [hh] at hh'
      simp only [Option.some.injEq] at hh'
      injection hh' with e3 _ _
      subst e3
      apply List.ext_getElem hlen'
      intro i h1 h2
      have p1 := hv i h1
      have p2 := hv' i h2
      have p1' : seg cur (off + i * 1) 1 = [Value.int .i64 xs[i]] := p1
      have p2' : seg cur (off + i * 1) 1 = [Value.int .i64 ys[i]] := p2
      rw [p1'] at p2'
      simpa using p2'
open Classical in
noncomputable def cont (w : World) (h : T .o) : Option (List Int) :=
  if hx : ∃ xs : List Int, View w (fun _ => False) (.sl (.i .i64)) xs [hd h] ∧ List.length xs ≤ lim then some hx.choose else none
theorem cont_view {w : World} {h : T .o} {xs : List Int} (hc : cont w h = some xs) : View w (fun _ => False) (.sl (.i .i64)) xs [hd h] ∧ List.length xs ≤ lim := by
  unfold cont at hc
  split at hc
  · rename_i hx
    simp only [Option.some.injEq] at hc
    rw [← hc]; exact hx.choose_spec
  · simp at hc
theorem cont_eq {w : World} {h : T .o} {xs : List Int} (hv : View w (fun _ => False) (.sl (.i .i64)) xs [hd h]) (hl : List.length xs ≤ lim) : cont w h = some xs := by
  unfold cont
  have hx : ∃ xs : List Int, View w (fun _ => False) (.sl (.i .i64)) xs [hd h] ∧ List.length xs ≤ lim := ⟨xs, hv, hl⟩
  rw [dif_pos hx]
  rw [ints_eq hx.choose_spec.1 hv]
noncomputable def cmpO (w : World) (same : T rpT → T rpT → Bool) (a b : T rpO) : Option Bool :=
  Option.bind (cont w a.2.1) fun u => Option.bind (cont w b.2.1) fun v => some (same (a.1, u, ()) (b.1, v, ()))
@[reducible] noncomputable def semS (c : T rpO → T rpO → Option Bool) : FnSem := .pu (.p rpO (.p rpO .u)) (.p .b .u) [true] (fun x => Option.bind (c x.1 x.2.1) fun b => some (b, ()))

theorem view_world {w w2 : World} (h : ∀ b, b < w.heap.size → w2.heap[b]? = w.heap[b]?) {τ : Ty} {x : T τ} {cs : List Value} {O : Nat → Prop} (hv : View w O τ x cs) : View w2 O τ x cs :=
  View.stable (fun b _ hb => h b hb) (fun _ _ h => h) hv

theorem sound_chg {P : Program} {f f2 : FuncId} {SR : T (.p rpT (.p rpT .u)) → Option (T (.p .b .u))} {same : T rpT → T rpT → Bool}
    (hSR : ∀ a b : T rpT, List.length a.2.1 ≤ lim → List.length b.2.1 ≤ lim → SR (a, b, ()) = some (same a b, ()))
    (h2 : Sound P noI f2 (.pu (.p rpT (.p rpT .u)) (.p .b .u) [true] SR))
    (h : ∀ (I : Inv) (c : T rpO → T rpO → Option Bool), Sound P I f2 (semS c) → ∃ FO, Sound P I f (.pu (.p rpO (.p (.sl rpO) .u)) (.p (.sl rpO) .u) [true] FO) ∧
      ∀ (a : T rpO) (l r : List (T rpO)), List.length l ≤ lim → chgO c a l = some r → FO (a, l, ()) = some (r, ())) :
    Sound P noI f (.co (.p rpT (.p (.sl rpT) .u)) (.p (.sl rpT) .u) [true] (fun x => chgF same x.1 x.2.1)) := by
  have hE : Entered P f := by
    have hS0 : Sound P noI f2 (semS fun _ _ => none) := ⟨h2.1, fun O w x r args hF => by simp at hF⟩
    obtain ⟨FO, hs, _⟩ := h noI _ hS0
    exact hs.1
  refine ⟨hE, ?_⟩
  intro O w x r F0 args hF hA hnd hO hI hbase hF0
  obtain ⟨a, l, u⟩ := x
  -- the arguments
  match args, hA with
  | [a1, a2], hA =>
  obtain ⟨cs1, F1, F2', rfl, rfl, ho1, cs2, F2, F3, rfl, rfl, ho2, hF3⟩ := hA
  have hF3' : F3 = [] := hF3
  subst hF3'
  rw [List.append_nil] at *
  simp only [chgF] at hF
  cases hsm : (Nat.ble (List.length l) lim && (smallR a && l.all smallR)) with
  | false => rw [hsm] at hF; simp at hF
  | true =>
  rw [hsm] at hF
  simp only [cond_true, Option.some.injEq] at hF
  subst hF
  simp only [Bool.and_eq_true, List.all_eq_true, smallR] at hsm
  have hl1 : List.length l ≤ lim := Nat.le_of_ble_eq_true hsm.1
  have hl2 : List.length a.2.1 ≤ lim := Nat.le_of_ble_eq_true hsm.2.1
  have hl3 : ∀ x ∈ l, List.length x.2.1 ≤ lim := fun x hx => Nat.le_of_ble_eq_true (hsm.2.2 x hx)
  obtain ⟨ah, rfl, hoa⟩ := own_hd ho1
  obtain ⟨Q, rfl, hvQ, hokQ, hsub⟩ := rows_tri ho2
  -- what is known of the world
  let I : Inv := ⟨w.heap.size, fun w2 => w.heap.size ≤ w2.heap.size ∧ ∀ b, b < w.heap.size → w2.heap[b]? = w.heap[b]?, fun w1 w2 hb h1 => by
    refine ⟨?_, fun b hlt => (hb b hlt).trans (h1.2 b hlt)⟩
    rcases Nat.eq_zero_or_pos w.heap.size with h0 | h0
    · omega
    · have e := (hb (w.heap.size - 1) (by omega)).trans (h1.2 (w.heap.size - 1) (by omega))
      rw [Array.getElem?_eq_getElem (show w.heap.size - 1 < w.heap.size by omega)] at e
      have := (Array.getElem?_eq_some_iff.1 e).1
      omega⟩
  have hS : Sound P I f2 (semS (cmpO w same)) := by
    refine ⟨h2.1, ?_⟩
    intro O2 w2 x2 r2 args2 hF2 hA2 hO2 hI2 hb2
    obtain ⟨p, q, u2⟩ := x2
    match args2, hA2 with
    | [b1, b2], hA2 =>
    obtain ⟨⟨c1, rfl, hv1⟩, ⟨c2, rfl, hv2⟩, _⟩ := hA2
    simp only [cmpO] at hF2
    cases hu : cont w p.2.1 with
    | none => rw [hu] at hF2; simp at hF2
    | some xu =>
      cases hv : cont w q.2.1 with
      | none => rw [hu, hv] at hF2; simp at hF2
      | some xv =>
        rw [hu, hv] at hF2
        simp only [Option.bind_some, Option.some.injEq] at hF2
        subst hF2
        obtain ⟨hxu, lxu⟩ := cont_view hu
        obtain ⟨hxv, lxv⟩ := cont_view hv
        have e1 := hd_view hv1
        have e2 := hd_view hv2
        subst e1; subst e2
        have mk : ∀ (p : T rpO) (xs : List Int), View w (fun _ => False) (.sl (.i .i64)) xs [hd p.2.1] → View w2 (fun _ => False) rpT (p.1, xs, ()) [.int .i64 p.1, hd p.2.1] := fun p xs hx =>
          ⟨[.int .i64 p.1], [hd p.2.1], rfl, rfl, [hd p.2.1], [], by simp, view_world hI2.2 hx, rfl⟩
        have hc := h2.2 (fun _ => False) w2 ((p.1, xu, ()), (q.1, xv, ()), ()) (same (p.1, xu, ()) (q.1, xv, ()), ()) [vof rpO [.int .i64 p.1, hd p.2.1], vof rpO [.int .i64 q.1, hd q.2.1]]
          (hSR _ _ lxu lxv) ⟨⟨_, rfl, mk p xu hxu⟩, ⟨_, rfl, mk q xv hxv⟩, trivial⟩ (fun b h => h.elim) trivial (Nat.zero_le _)
        refine hc.mono ?_
        intro e w3 hR
        cases e with
        | returned v =>
          obtain ⟨vs, Fr, hvs, hK, hR, hn, hfr⟩ := hR
          exact ⟨vs, Fr, hvs, hK, hR.all rfl, hn, hfr⟩
        | panicked _ => exact hR
        | outgrown => exact hR
  obtain ⟨FO, hs, hFO⟩ := h I (cmpO w same) hS
  -- the twins
  have hrel : ∀ a ao b bo, (fun (x : T rpT) (y : T rpO) => y.1 = x.1 ∧ View w (fun _ => False) (.sl (.i .i64)) x.2.1 [hd y.2.1] ∧ List.length x.2.1 ≤ lim) a ao →
      (fun (x : T rpT) (y : T rpO) => y.1 = x.1 ∧ View w (fun _ => False) (.sl (.i .i64)) x.2.1 [hd y.2.1] ∧ List.length x.2.1 ≤ lim) b bo → cmpO w same ao bo = some (same a b) := by
    rintro a ao b bo ⟨e1, v1, l1⟩ ⟨e2, v2, l2⟩
    simp only [cmpO, cont_eq v1 l1, cont_eq v2 l2, Option.bind_some, e1, e2]
  have hch := chgO_ok (R := fun (x : T rpT) (y : T rpO) => y.1 = x.1 ∧ View w (fun _ => False) (.sl (.i .i64)) x.2.1 [hd y.2.1] ∧ List.length x.2.1 ≤ lim) hrel Q a (a.1, ah, ())
    ⟨rfl, Own.view hoa fun b _ h => h, hl2⟩ (fun p hp => ⟨(hokQ p hp).1, Own.view (hokQ p hp).2 fun b _ h => h, hl3 p.1 (List.mem_map_of_mem hp)⟩)
  have hFO' := hFO (a.1, ah, ()) (Q.map (·.2.1)) _ (by simpa using hl1) hch
  have hc := hs.2 (fun _ => False) w ((a.1, ah, ()), Q.map (·.2.1), ()) ((chgQ same a Q).map (·.2.1), ()) [vof rpO [.int .i64 a.1, hd ah], vof (.sl rpO) cs2] hFO'
    ⟨⟨_, rfl, view_hd ((a.1, ah, ()) : T rpO) _⟩, ⟨_, rfl, hvQ⟩, trivial⟩ (fun b h => h.elim) ⟨Nat.le_refl _, fun _ _ => rfl⟩ (Nat.le_refl _)
  refine hc.mono ?_
  intro e w3 hR
  cases e with
  | panicked _ => exact hR
  | outgrown => exact hR
  | returned v =>
    obtain ⟨vs, Fr, hvs, hK, hR, hn, hfr⟩ := hR
    match vs, hR with
    | [v1], hR =>
    obtain ⟨cs, G1, G2, rfl, rfl, hown, hG2⟩ := hR
    have hG2' : G2 = [] := hG2
    subst hG2'
    rw [List.append_nil] at *
    simp only [if_true] at hown
    have hlt : ∀ b, b ∈ F2 → b < w.heap.size := fun b hb => ho2.lt b hb
    have hsubQ := chgQ_sub same Q a
    have hok3 : ∀ p ∈ chgQ same a Q, TriOk w3 p := fun p hp => by
      have h0 := hokQ p (hsubQ.mem hp)
      exact ⟨h0.1, Own.stable h0.2 fun b hb => hK.block b (h0.2.lt b hb) (fun h => h)⟩
    obtain ⟨F', ho', hm', hnd'⟩ := tri_rows hown hok3
    have hsub2 : ((chgQ same a Q).map (·.2.2)).flatten.Sublist F2 := by
      refine List.Sublist.trans ?_ hsub
      exact sub_flatten (hsubQ.map _)
    have hndF2 : F2.Nodup := (List.nodup_append.1 hnd).2.1
    have hnF' : F'.Nodup := hnd' (fun b hb hb2 => by
      have h3 := hfr b hb
      have h4 := hlt b (hsub2.mem hb2)
      omega) hn (hsub2.nodup hndF2)
    refine ⟨[vof (.sl rpO) cs], F', hvs, ⟨hK.size, fun b hb _ => hK.block b hb (fun h => h), hK.os, hK.tape, hK.output⟩, ⟨cs, F', [], rfl, by simp, ?_, rfl⟩, hnF', ?_⟩
    · simp only [if_true]
      rw [← chgQ_fst]
      exact ho'
    · intro b hb
      rcases hm' b hb with hb | hb
      · exact .inl (hfr b hb)
      · exact .inr (List.mem_append_right _ (hsub2.mem hb))
end KF

namespace KF
open Go
set_option linter.unusedSimpArgs false
set_option linter.unusedVariables false

/-! ### sort.Ints, out of the library's contract -/
noncomputable def srt (xs : List Int) : Option (List Int × Unit) := bif Nat.ble (List.length xs) lim then some (List.mergeSort xs (fun x y => decide (x ≤ y)), ()) else none
theorem seg_one {cur : Array Value} {k : Nat} {v : Value} (h : seg cur k 1 = [v]) : cur[k]? = some v := by
  have := congrArg (·[0]?) h
  simp only [seg_getElem? cur k 1 0 (by omega)] at this
  simpa using this
theorem one_seg {cur : Array Value} {k : Nat} {v : Value} (h : cur[k]? = some v) : seg cur k 1 = [v] := by
  apply List.ext_getElem?
  intro j
  by_cases hj : j = 0
  · subst hj; rw [seg_getElem? cur k 1 0 (by omega)]; simpa using h
  · have hk : k < cur.size := (Array.getElem?_eq_some_iff.1 h).1
    have hl : (seg cur k 1).length = 1 := seg_length (by omega)
    rw [List.getElem?_eq_none (by omega), List.getElem?_eq_none (by simp; omega)]
theorem sort_sound {P : Program} {ρ : Go.Shelf.Ren} {f : FuncId} (L : Go.Proofs.Lays.n191 P ρ) (hf : ρ.f 191 = f) : Sound P noI f (.io (.sl (.i .i64)) .u .u [] (fun x0 _ => srt x0)) := by
  subst hf
  refine ⟨⟨_, L.f191, rfl, rfl⟩, ?_⟩
  intro O w x0 x r cs0 F0 args hF ho hnd hA hO _ _ _
  match args, hA with
  | [], _ =>
  simp only [srt] at hF
  cases hl : Nat.ble (List.length x0) lim with
  | false => rw [hl] at hF; simp at hF
  | true =>
  rw [hl] at hF
  simp only [cond_true, Option.some.injEq] at hF
  subst hF
  have hlim : lim = 1073741824 := rfl
  have hx : List.length x0 ≤ lim := Nat.le_of_ble_eq_true hl
  have ho0 := ho
  obtain ⟨hm, ⟨rfl, hn, rfl⟩ | ⟨bl, off, cap, cur, et, Fs, rfl, hh, h1, h2, h3, rfl, hlen, hv⟩⟩ := ho
  · have hn' : x0 = [] := hn
    subst hn'
    refine (Go.Proofs.Any.sort_Ints_none L none 0 w).mono ?_
    rintro e w' ⟨rfl, rfl⟩
    refine ⟨[], [], [], rfl, ⟨Nat.le_refl _, fun _ _ _ => rfl, rfl, rfl, rfl⟩, ?_, by simp, rfl, List.nodup_nil, by simp⟩
    show Own w' (.sl (.i .i64)) (List.mergeSort ([] : List Int) _) _ _
    simpa using ho0
  · have hcell : ∀ i (hi : i < x0.length), cur[off + i]? = some (.int .i64 x0[i]) := by
      intro i hi
      have := (hv i hi).1
      have e : seg cur (off + i * 1) 1 = [Value.int .i64 x0[i]] := this
      rw [Nat.mul_one] at e
      exact seg_one e
    have hFs : ∀ b, b ∈ Fs.flatten → False := by
      intro b hb
      obtain ⟨l, hl, hb⟩ := List.mem_flatten.1 hb
      obtain ⟨i, hi, rfl⟩ := List.getElem_of_mem hl
      have := (hv i (by rw [← hlen]; exact hi)).2
      rw [List.getD_eq_getElem?_getD, List.getElem?_eq_getElem hi] at this
      simp only [Option.getD_some] at this
      rw [this] at hb; simp at hb
    have hH : Go.Sort.Holds (Value.int .i64) w bl off x0.toArray := by
      intro j hj
      have hj' : j < x0.length := by simpa using hj
      refine ⟨?_, ?_⟩
      · unfold World.cell?
        simp only [hh]
        rw [hcell j hj']
        simp [getElem!_pos, hj']
      · unfold World.frozen?
        simp [hh]
    have hbl : bl < w.heap.size := (Array.getElem?_eq_some_iff.1 hh).1
    refine (Go.Proofs.Any.sort_Ints L bl off cap x0 w hH hbl (by omega)).mono ?_
    rintro e w' ⟨rfl, n, os, rfl⟩
    generalize hzs : (x0.mergeSort fun x y => decide (x ≤ y)) = zs
    have hzl : zs.length = x0.length := by rw [← hzs]; exact List.length_mergeSort _
    have hheap : ∀ b, b < w.heap.size → (Go.Sort.grow (Go.Sort.putRow (Value.int .i64) (Go.Sort.ahead w n) bl off zs.toArray) os).heap[b]? = if bl = b then (w.heap[b]?).map (Go.Sort.onCells (Go.Sort.putCells (Value.int .i64) off zs.toArray)) else w.heap[b]? := by
      intro b hb
      simp only [Go.Sort.grow, Go.Sort.putRow, Go.Sort.mapBlock, Go.Sort.ahead]
      rw [Array.getElem?_append_left (by simpa using hb), Array.getElem?_modify]
    refine ⟨[], bl :: Fs.flatten, [], rfl, ⟨?_, ?_, rfl, rfl, rfl⟩, ?_, fun b hb => .inr hb, rfl, by simpa using hnd, by simp⟩
    · simp only [Go.Sort.grow, Array.size_append, Go.Sort.size_putRow, Go.Sort.ahead]
      omega
    · intro b hb hno
      have hne : bl ≠ b := fun e => hno (by rw [e]; simp)
      rw [hheap b hb, if_neg hne]
    · have hcs : ([.slice (some ⟨bl, off, none⟩) (List.length x0) cap] : List Value) = [.slice (some ⟨bl, off, none⟩) (List.length (zs : List Int)) cap] := by rw [hzl]
      show Own _ (.sl (.i .i64)) (zs : List Int) _ _
      rw [hcs]
      refine ⟨by show zs.length ≤ maxN; rw [hzl]; exact hm, .inr ⟨bl, off, cap, _, et, Fs, rfl, (hheap bl hbl).trans (by rw [if_pos rfl, hh]; rfl), by show zs.length ≤ cap; rw [hzl]; exact h1, h2, by simpa [Go.Sort.putCells] using h3, rfl, by show Fs.length = zs.length; rw [hzl]; exact hlen, fun i hi => ?_⟩⟩
      have hi' : i < zs.length := hi
      have hi2 : i < x0.length := by omega
      refine ⟨?_, ?_⟩
      · show seg _ (off + i * 1) 1 = [Value.int .i64 zs[i]]
        rw [Nat.mul_one]
        apply one_seg
        simp only [Go.Sort.putCells, Array.getElem?_mapIdx, hcell i hi2, Option.map_some]
        rw [if_pos ⟨by omega, by simp; omega⟩, show off + i - off = i by omega]
        simp [getElem!_pos, hi']
      · exact (hv i hi2).2
end KF
