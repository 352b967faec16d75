/- An evaluator of Go functions on plain data, its soundness, and plain laws on what the functions compute, part 6 (conditions: as each lemma tells). -/
import Derived.Test.YtoncbegnhhcgmaaGreatE
set_option linter.unusedSimpArgs false
set_option linter.unusedVariables false
namespace KF
open Go
open List renaming length → ja, getElem?_eq_getElem → je, append → jf, mem_append → jl, mem_cons → jp, mem_cons_of_mem → jr, length_cons → jw, set → j6, length_nil → j8, length_set → j9, mem_singleton → qe, length_append → qf, getElem?_append_left → qh, getElem?_append_right → qi, getD_eq_getElem?_getD → qj, getElem_mem → qr, mem_of_mem_drop → qs, getElem_of_mem → qt, mem_map → qu, getElem?_set_self → qv, length_drop → qw, mem_cons_self → qy
open Option renaming bind_some → jb, bind → jz, map_some → qd, bind_eq_some_iff → qg
open Option.some renaming injEq → jc
open Bool renaming and_eq_true → jd, not_true → jg, true_and → jk, false_eq_true → jq, not_false → qa, not_eq_true → qb, false_and → qp, eq_iff_iff → qx
open Prod.mk renaming injEq → jh
open Nat renaming ble_eq_true_of_le → ji, mul_le_mul_right → jm, le_refl → jo, zero_add → js, add_assoc → jt, eq_of_beq_eq_true → ju, ble → jx, le_trans → qc, lt_of_lt_of_le → ql, pow_le_pow_right → qm, testBit_xor → qn, testBit_two_pow → qo, xor_lt_two_pow → qq
open Int renaming toNat_natCast → jn, eq_ofNat_of_zero_le → jv, toNat → jy
open Go.IntKind renaming wrap → j5
open Sum renaming elim → j7, elim_inl → qk
open Result renaming andThen_ok → qz
open Sem renaming run_bind → q0
theorem Dac {a : Nat} {k : Nat} (ha : a < 2 ^ 63) (hk : k ≤ 64) : Bd (a : Int) (k : Int) = cond (a.testBit k) 1 0 := by
 have h := Jr ha hk
 rcases Vas ha hk with h1 | h1
 ·rw [h1] at h ⊢
  cases ht : a.testBit k with
  | true => rw [ht] at h; exact absurd h (by decide)
  | false => rfl
 ·rw [h1] at h ⊢
  cases ht : a.testBit k with
  | true => rfl
  | false => rw [ht] at h; exact absurd h (by decide)
theorem D4 {a b k : Nat} (ha : a < 2 ^ 63) (hb : b < 2 ^ 63) (hk : k ≤ 64) : (Bd (a : Int) (k : Int) != Bd (b : Int) (k : Int)) = (a ^^^ b).testBit k := by
 rw [Dac ha hk, Dac hb hk, qn]
 cases a.testBit k <;> cases b.testBit k <;> rfl
theorem L1 {a b k : Nat} (ha : a < 2 ^ 63) (hb : b < 2 ^ 63) (hk : k ≤ 64) : (Wa .i64 (Zb .i64 (Me .i64 (a : Int) (b : Int)) (k : Int)) 1 == 1) = (Bd (a : Int) (k : Int) != Bd (b : Int) (k : Int)) := by
 rw [D4 ha hb hk, QL ha hb]
 exact Jr (qq ha hb) hk
def Kaq (d : Ob) (raw : Int) (k : Nat) (x : Int) : Int :=
 cond ((d.1 == 0) && (Bd raw (k : Int) != Bd d.2.2.2.2.1 (k : Int))) 1 (cond ((d.1 == 1) && (raw != d.2.2.2.2.1)) 1 (min (j5 .i64 (x + 1)) 99))
def Qac (d : Ob) (raw : Int) (k : Nat) (x : Int) : Bool := decide (Kaq d raw k x ≥ d.2.1) && (Bd raw (k : Int) != Bd d.2.2.2.1 (k : Int))
def LH (d : Ob) (raw : Int) (k : Nat) (s : Int × List Int) (x : Int) : Int × List Int :=
 (cond (Qac d raw k x) (Me .i64 s.1 (Ta .i64 1 (k : Int))) s.1, jf s.2 [cond (Qac d raw k x && (d.1 == 2)) 0 (Kaq d raw k x)])
def M6 (d : Ob) (raw : Int) : Int × List Int := Jd (fun k s x => LH d raw k s x) 0 (d.2.2.2.1, []) d.2.2.2.2.2.1
def MV : Ob := ((0 : Int), (0 : Int), (0 : Int), (0 : Int), (0 : Int), ([] : List Int), ())
def MW (d : Ob) (raw : Int) : Bool := Sg d && Hf d.2.2.1 raw
def U1 (d : Ob) (raw : Int) : Ob × (Bool × Unit) := cond (MW d raw) ((d.1, d.2.1, d.2.2.1, (M6 d raw).1, raw, (M6 d raw).2, ()), true, ()) (MV, false, ())
structure Dam (d : Ob) : Prop where
 k1 : 1 ≤ d.2.2.1
 k2 : d.2.2.1 ≤ 24
 len : ((ja d.2.2.2.2.2.1 : Nat) : Int) = d.2.2.1
 sh : Hf d.2.2.1 d.2.2.2.1 = true
 la : Hf d.2.2.1 d.2.2.2.2.1 = true
theorem Eab {d : Ob} (h : Sg d = true) : Dam d := by
 simp only [Sg, jd, decide_eq_true_eq, beq_iff_eq] at h
 exact ⟨h.2.2.1.1, h.2.2.1.2, h.2.2.2.1, h.2.2.2.2.1, h.2.2.2.2.2.1⟩
theorem YS {k x : Int} (h : Hf k x = true) : ∃ n : Nat, x = (n : Int) ∧ n < 2 ^ k.toNat := by
 simp only [Hf, decide_eq_true_eq] at h
 obtain ⟨n, rfl⟩ := jv h.1
 exact ⟨n, rfl, by exact_mod_cast h.2⟩
theorem K5 {k : Int} {n : Nat} (hk : k ≤ 24) (h : n < 2 ^ k.toNat) : n < 2 ^ 63 :=
 ql h (qm (by omega) (by omega))
theorem J9 (d : Ob) (raw : Int) (k : Nat) (hk : k < d.2.2.2.2.2.1.length) (s : Int × List Int) (hs : s.2.length = k) (hn : d.2.2.2.2.2.1.length ≤ 24) :
 Xi raw () () () d.2.2.2.2.2.1 ((ja d.2.2.2.2.2.1 : Nat) : Int) (k : Int) d MV (d.1, d.2.1, d.2.2.1, s.1, d.2.2.2.2.1, s.2, ()) =
  some (.inl ((raw, (), (), (), d.2.2.2.2.2.1, ((ja d.2.2.2.2.2.1 : Nat) : Int), j5 .i64 ((k : Int) + 1), ()), (d, MV, (d.1, d.2.1, d.2.2.1, (LH d raw k s d.2.2.2.2.2.1[k]).1, d.2.2.2.2.1, (LH d raw k s d.2.2.2.2.2.1[k]).2, ()), ()))) := by
 have hb : ∀ x : Int, jx (ja s.2 + ja ([x] : List Int)) Sa = true := fun x => ji (by rw [Be]; simp only [jw, j8]; omega)
 have hbit : ∀ m : Int, Le m (k : Int) = some (Bd m (k : Int), ()) := fun m => Uk m (by omega)
 unfold Xi
 rw [Aa (show (k : Int) < ((ja d.2.2.2.2.2.1 : Nat) : Int) by omega), Kb hk, Aa (show (0 : Int) ≤ (k : Int) by omega)]
 simp only [cond_true, jb, hb, hbit]
 unfold LH Qac Kaq
 generalize d.2.2.2.2.2.1[k] = x
 cases d.1 == 0 <;> (try simp only [cond_true, cond_false, jk, qp]) <;>
  cases Bd raw (k : Int) != Bd d.2.2.2.2.1 (k : Int) <;> (try simp only [cond_true, cond_false]) <;>
  cases d.1 == 1 <;> (try simp only [cond_true, cond_false, jk, qp]) <;>
  cases raw != d.2.2.2.2.1 <;> (try simp only [cond_true, cond_false]) <;>
  cases decide ((1 : Int) ≥ d.2.1) <;> (try simp only [cond_true, cond_false, jk, qp]) <;>
  cases decide (min (j5 .i64 (x + 1)) 99 ≥ d.2.1) <;> (try simp only [cond_true, cond_false, jk, qp]) <;>
  cases Bd raw (k : Int) != Bd d.2.2.2.1 (k : Int) <;> (try simp only [cond_true, cond_false, jk, qp]) <;>
  cases d.1 == 2 <;> rfl
theorem V9 (d : Ob) (hd : Dam d) (raw : Int) (hraw : Hf d.2.2.1 raw = true) (k : Nat) (hk : k < d.2.2.2.2.2.1.length) (s : Int × List Int) (hs : s.2.length = k) :
 Fj raw () () () (k : Int) d MV (d.1, d.2.1, d.2.2.1, s.1, d.2.2.2.2.1, s.2, ()) =
  some (.inl ((raw, (), (), (), j5 .i64 ((k : Int) + 1), ()), (d, MV, (d.1, d.2.1, d.2.2.1, (LH d raw k s d.2.2.2.2.2.1[k]).1, d.2.2.2.2.1, (LH d raw k s d.2.2.2.2.2.1[k]).2, ()), ()))) := by
 have h1 := hd.k2
 have h2 := hd.len
 obtain ⟨r, hr, hr2⟩ := YS hraw
 obtain ⟨a, ha, ha2⟩ := YS hd.sh
 obtain ⟨b, hb', hb2⟩ := YS hd.la
 have e1 : (Wa .i64 (Zb .i64 (Me .i64 raw d.2.2.2.2.1) (k : Int)) 1 == 1) = (Bd raw (k : Int) != Bd d.2.2.2.2.1 (k : Int)) := by
  rw [hr, hb']; exact L1 (K5 h1 hr2) (K5 h1 hb2) (by omega)
 have e2 : (Wa .i64 (Zb .i64 (Me .i64 raw d.2.2.2.1) (k : Int)) 1 == 1) = (Bd raw (k : Int) != Bd d.2.2.2.1 (k : Int)) := by
  rw [hr, ha]; exact L1 (K5 h1 hr2) (K5 h1 ha2) (by omega)
 have hb : ∀ x : Int, jx (ja s.2 + ja ([x] : List Int)) Sa = true := fun x => ji (by rw [Be]; simp only [jw, j8]; omega)
 have hmin : ∀ x : Int, min (99 : Int) x = min x 99 := fun x => by omega
 unfold Fj
 rw [Aa (show (k : Int) < d.2.2.1 by omega), Kb hk, Aa (show (0 : Int) ≤ (k : Int) by omega)]
 simp only [cond_true, jb, hb, e1, e2, hmin]
 unfold LH Qac Kaq
 generalize d.2.2.2.2.2.1[k] = x
 cases d.1 == 0 <;> (try simp only [cond_true, cond_false, jk, qp]) <;>
  cases Bd raw (k : Int) != Bd d.2.2.2.2.1 (k : Int) <;> (try simp only [cond_true, cond_false]) <;>
  cases d.1 == 1 <;> (try simp only [cond_true, cond_false, jk, qp]) <;>
  cases raw != d.2.2.2.2.1 <;> (try simp only [cond_true, cond_false]) <;>
  cases decide ((1 : Int) ≥ d.2.1) <;> (try simp only [cond_true, cond_false, jk, qp]) <;>
  cases decide (min (j5 .i64 (x + 1)) 99 ≥ d.2.1) <;> (try simp only [cond_true, cond_false, jk, qp]) <;>
  cases Bd raw (k : Int) != Bd d.2.2.2.1 (k : Int) <;> (try simp only [cond_true, cond_false, jk, qp]) <;>
  cases d.1 == 2 <;> rfl
structure Pab (d : Ob) (k : Nat) (s : Int × List Int) : Prop where
 len : s.2.length = k
 sh : Hf d.2.2.1 s.1 = true
theorem Jax {d : Ob} (hd : Dam d) (raw : Int) {k : Nat} (hk : k < d.2.2.2.2.2.1.length) {s : Int × List Int} (hs : Pab d k s) (x : Int) : Pab d (k + 1) (LH d raw k s x) := by
 have h1 := hd.k2
 have h2 := hd.len
 refine ⟨by simp [LH, hs.len], ?_⟩
 obtain ⟨a, ha, ha2⟩ := YS hs.sh
 unfold LH
 cases Qac d raw k x with
 | false => exact hs.sh
 | true =>
  show Hf d.2.2.1 (Me .i64 s.1 (Ta .i64 1 (k : Int))) = true
  rw [ha, Lk (by omega), QL (K5 h1 ha2) (Pi (by omega))]
  have hk2 : 2 ^ k < 2 ^ d.2.2.1.toNat := Nat.pow_lt_pow_right (by omega) (by omega)
  have := qq ha2 hk2
  simp only [Hf, decide_eq_true_eq]
  exact ⟨by omega, by exact_mod_cast this⟩
theorem Yag {d : Ob} (hd : Dam d) (raw : Int) : Pab d d.2.2.2.2.2.1.length (M6 d raw) := by
 have h : ∀ (l : List Int) (k : Nat) (s : Int × List Int), d.2.2.2.2.2.1.drop k = l → k ≤ d.2.2.2.2.2.1.length → Pab d k s → Pab d d.2.2.2.2.2.1.length (Jd (fun k s x => LH d raw k s x) k s l) := by
  intro l
  induction l with
  | nil =>
   intro k s hl hk hs
   have := KU hl hk
   rw [← this]; exact hs
  | cons y l ih =>
   intro k s hl hk hs
   obtain ⟨hk', hy, hl'⟩ := BN hl
   exact ih (k + 1) _ hl' hk' (Jax hd raw hk' hs y)
 exact h _ 0 _ rfl (Nat.zero_le _) ⟨rfl, hd.sh⟩
theorem Vaf (d : Ob) (raw : Int) (hn : d.2.2.2.2.2.1.length ≤ Ea) : Gm d raw = some (U1 d raw) := by
 unfold Gm U1 MW
 rw [QK d hn]
 cases hv : Sg d with
 | false => rfl
 | true =>
  have hd := Eab hv
  have h1 := hd.k1
  have h2 := hd.k2
  have h3 := hd.len
  simp only [jb, jg, cond_false, jk]
  rw [Aa (show (0 : Int) ≤ d.2.2.1 by omega), IZ (show 0 ≤ d.2.2.1 ∧ d.2.2.1 ≤ 62 by omega)]
  simp only [cond_true]
  by_cases h0 : raw < 0
  ·rw [Aa h0, show Hf d.2.2.1 raw = false by unfold Hf; exact Ba (by omega)]; rfl
  ·by_cases h9 : raw ≥ ((2 ^ d.2.2.1.toNat : Nat) : Int)
   ·rw [Ba h0, Aa h9, show Hf d.2.2.1 raw = false by unfold Hf; exact Ba (by omega)]; rfl
   ·rw [Ba h0, Ba h9, show Hf d.2.2.1 raw = true by unfold Hf; exact Aa (by omega)]
    simp only [cond_false, cond_true]
    have hl := (Qe (step := fun x => Xi x.1.1 x.1.2.1 x.1.2.2.1 x.1.2.2.2.1 x.1.2.2.2.2.1 x.1.2.2.2.2.2.1 x.1.2.2.2.2.2.2.1 x.2.1 x.2.2.1 x.2.2.2.1) d.2.2.2.2.2.1 (fun k s x => LH d raw k s x)
     (fun s i => ((raw, (), (), (), d.2.2.2.2.2.1, ((ja d.2.2.2.2.2.1 : Nat) : Int), i, ()), (d, MV, (d.1, d.2.1, d.2.2.1, s.1, d.2.2.2.2.1, s.2, ()), ())))
     (fun s => .inl ((raw, (), (), ()), (MV, (d.1, d.2.1, d.2.2.1, s.1, d.2.2.2.2.1, s.2, ()), ()))) (fun k s => s.2.length = k) (by
      intro k hk s hs
      exact ⟨J9 d raw k hk s hs (by omega), by simp [LH, hs]⟩) (by
      intro s hs
      simp only [Xi]
      rw [Ba (by omega)]; rfl) (by omega) (d.2.2.2.1, []) rfl).1
    unfold Wn
    erw [hl]
    rfl
theorem Zaf (d : Ob) (raw : Int) (hn : d.2.2.2.2.2.1.length ≤ Ea) : Jm d raw = some (U1 d raw) := by
 unfold Jm U1 MW
 rw [YK d hn]
 cases hv : Sg d with
 | false => rfl
 | true =>
  have hd := Eab hv
  have h1 := hd.k1
  have h2 := hd.k2
  have h3 := hd.len
  simp only [jb, jg, cond_false, jk]
  rw [Aa (show (0 : Int) ≤ d.2.2.1 by omega), Xc, YY _ _ (show 0 ≤ d.2.2.1 ∧ d.2.2.1 ≤ 62 by omega)]
  simp only [cond_true, jb]
  cases hraw : Hf d.2.2.1 raw with
  | false => rfl
  | true =>
   simp only [jg, cond_false, cond_true]
   have hl := (Qe (step := fun x => Fj x.1.1 x.1.2.1 x.1.2.2.1 x.1.2.2.2.1 x.1.2.2.2.2.1 x.2.1 x.2.2.1 x.2.2.2.1) d.2.2.2.2.2.1 (fun k s x => LH d raw k s x)
    (fun s i => ((raw, (), (), (), i, ()), (d, MV, (d.1, d.2.1, d.2.2.1, s.1, d.2.2.2.2.1, s.2, ()), ())))
    (fun s => .inl ((raw, (), (), ()), (MV, (d.1, d.2.1, d.2.2.1, s.1, d.2.2.2.2.1, s.2, ()), ()))) (fun k s => s.2.length = k) (by
     intro k hk s hs
     exact ⟨V9 d hd raw hraw k hk s hs, by simp [LH, hs]⟩) (by
     intro s hs
     simp only [Fj]
     rw [Ba (by omega)]; rfl) (by omega) (d.2.2.2.1, []) rfl).1
   unfold Io
   erw [hl]
   rfl
def Up (L : List Va) (set : Int) : Bool := !Yd (fun _ (c : Va) => !(Jb .i64 set c.1 == 0)) 0 L
theorem XS (L : List Va) (set : Int) (hn : L.length ≤ Ea) : FF L set = some (Up L set, ()) := by
 have h20 : Ea = 1048576 := rfl
 have hl := Bf (step := fun x => Sz x.1.1 x.1.2.1 x.1.2.2.1 x.1.2.2.2.1) L (fun _ (c : Va) => !(Jb .i64 set c.1 == 0)) (fun i => ((set, L, ((ja L : Nat) : Int), i, ()), ()))
  (.inl ((), ())) (.inr ((true, ()), ())) (by
   intro k hk
   simp only [Sz]
   rw [Aa (by omega), Kb hk]
   simp only [cond_true, jb]
   cases Jb .i64 set L[k].1 == 0 <;> rfl) (by
   simp only [Sz]
   rw [Ba (by omega)]; rfl) (by omega)
 unfold FF TB Up
 erw [hl]
 cases Yd (fun _ (c : Va) => !(Jb .i64 set c.1 == 0)) 0 L <;> rfl
theorem MT (L : List Va) (set : Int) (hn : L.length ≤ Ea) : MC L set = some (Up L set, ()) := by
 have h20 : Ea = 1048576 := rfl
 have hl := Bf (step := fun x => Vw x.1.1 x.1.2.1 x.1.2.2.1) L (fun _ (c : Va) => !(Jb .i64 set c.1 == 0)) (fun i => ((L, set, i, ()), ()))
  (.inl ((), ())) (.inr ((true, ()), ())) (by
   intro k hk
   simp only [Vw]
   rw [Aa (by omega), Kb hk]
   simp only [cond_true, jb]
   cases Jb .i64 set L[k].1 == 0 <;> rfl) (by
   simp only [Vw]
   rw [Ba (by omega)]; rfl) (by omega)
 unfold MC Zy Up
 erw [hl]
 cases Yd (fun _ (c : Va) => !(Jb .i64 set c.1 == 0)) 0 L <;> rfl
def X0 (set : Int) (s : Int × Bool) (c : Va) : Int × Bool := cond (c.1 == set) (c.2.1, s.2) (cond (Jb .i64 set c.1 == 0) (s.1, true) s)
def Ng (L : List Va) (set : Int) : Int × Bool := Jd (fun _ s c => X0 set s c) 0 (-1, false) L
theorem WN (L : List Va) (set : Int) (hn : L.length ≤ Ea) : Pl L set = some ((Ng L set).1, (Ng L set).2, ()) := by
 have h20 : Ea = 1048576 := rfl
 have hl := (Qe (step := fun x => Qo x.1.1 x.1.2.1 x.1.2.2.1 x.1.2.2.2.1 x.1.2.2.2.2.1 x.1.2.2.2.2.2.1) L (fun _ s c => X0 set s c) (fun s i => ((set, s.1, s.2, L, ((ja L : Nat) : Int), i, ()), ()))
  (fun s => .inl ((s.1, s.2, ()), ())) (fun _ _ => True) (by
   intro k hk s _
   refine ⟨?_, trivial⟩
   simp only [Qo]
   rw [Aa (by omega), Kb hk]
   simp only [cond_true, jb]
   unfold X0
   cases L[k].1 == set <;> cases Jb .i64 set L[k].1 == 0 <;> rfl) (by
   intro s _
   simp only [Qo]
   rw [Ba (by omega)]; rfl) (by omega) (-1, false) trivial).1
 unfold Pl Rr Ng
 erw [hl]
 rfl
theorem BO (L : List Va) (set : Int) (hn : L.length ≤ Ea) : YF L set = some ((Ng L set).1, (Ng L set).2, ()) := by
 have h20 : Ea = 1048576 := rfl
 have hl := (Qe (step := fun x => QA x.1.1 x.1.2.1 x.1.2.2.1 x.1.2.2.2.1 x.1.2.2.2.2.1) L (fun _ s c => X0 set s c) (fun s i => ((L, set, s.1, s.2, i, ()), ()))
  (fun s => .inl ((s.1, s.2, ()), ())) (fun _ _ => True) (by
   intro k hk s _
   refine ⟨?_, trivial⟩
   simp only [QA]
   rw [Aa (by omega), Kb hk]
   simp only [cond_true, jb]
   unfold X0
   rw [show (set == L[k].1) = (L[k].1 == set) by rw [qx, beq_iff_eq, beq_iff_eq]; exact eq_comm]
   cases L[k].1 == set <;> cases Jb .i64 set L[k].1 == 0 <;> rfl) (by
   intro s _
   simp only [QA]
   rw [Ba (by omega)]; rfl) (by omega) (-1, false) trivial).1
 unfold YF OC Ng
 erw [hl]
 rfl
theorem Aaw {L : List Va} (hL : Yg L = true) (set : Int) : (Ng L set).1 = -1 ∨ 24 ≤ (Ng L set).1 ∧ (Ng L set).1 ≤ 31 := by
 have hx : ∀ c ∈ L, 24 ≤ c.2.1 ∧ c.2.1 ≤ 31 := by
  simp only [Yg, jd] at hL
  intro c hc
  obtain ⟨i, hi, rfl⟩ := qt hc
  have := (DB.1 hL.2) i hi
  simp only [Kv, jd, decide_eq_true_eq] at this
  omega
 have key : ∀ (l : List Va) (k : Nat) (s : Int × Bool), (∀ c ∈ l, 24 ≤ c.2.1 ∧ c.2.1 ≤ 31) → (s.1 = -1 ∨ 24 ≤ s.1 ∧ s.1 ≤ 31) → ((Jd (fun _ s c => X0 set s c) k s l).1 = -1 ∨ 24 ≤ (Jd (fun _ s c => X0 set s c) k s l).1 ∧ (Jd (fun _ s c => X0 set s c) k s l).1 ≤ 31) := by
  intro l
  induction l with
  | nil => intro k s _ hs; exact hs
  | cons c l ih =>
   intro k s hc hs
   refine ih (k + 1) (X0 set s c) (fun d hd => hc d (by simp [hd])) ?_
   unfold X0
   cases c.1 == set with
   | true => exact .inr (hc c (by simp))
   | false => cases Jb .i64 set c.1 == 0 <;> exact hs
 exact key L 0 _ hx (.inl rfl)
def YA (x : Ca) : Bool := Gh x && decide (x.2.1 < 24)
theorem BX (x : Ca) : Dl x = some (YA x, ()) := by
 unfold Dl YA
 rw [KJ]
 cases Gh x <;> rfl
theorem AY (x : Ca) : Vu x = some (YA x, ()) := by
 unfold Vu YA
 rw [JK]
 cases Gh x <;> rfl
def ZP (L : List Va) (e : Int) (k : Nat) (set : Int) (x : Ca) : Int ⊕ ((Int × Nat × Int) ⊕ (Int × Int × Int)) :=
 cond (YA x) (cond (decide (x.1 ≥ e)) (.inr (.inl (set, k + 1, e))) (cond x.2.2.1
  (cond (Up L (Rc .i64 set (Ta .i64 1 x.2.1))) (cond (decide ((Ng L (Rc .i64 set (Ta .i64 1 x.2.1))).1 ≥ 0) && !(Ng L (Rc .i64 set (Ta .i64 1 x.2.1))).2)
   (.inr (.inr (((k + 2 : Nat) : Int), x.1, (Ng L (Rc .i64 set (Ta .i64 1 x.2.1))).1))) (.inl (Rc .i64 set (Ta .i64 1 x.2.1))))
   (.inr (.inl (set, k + 1, x.1))))
  (.inr (.inl (set, k + 1, x.1))))) (.inr (.inr (0, 0, -1)))
def YP (L : List Va) (set : Int) (n : Nat) (at_ : Int) : Int × Int × Int := cond (decide ((Ng L set).1 ≥ 0)) ((n : Int), at_, (Ng L set).1) (1, at_, -1)
def Gar (L : List Va) (e now : Int) (set : Int) (r : List Ca) : Int × Int × Int :=
 match Nc (fun k s x => ZP L e k s x) 0 set r with
 | .inl s => cond (decide (now < e)) (0, 0, -1) (YP L s (r.length + 1) e)
 | .inr (.inl b) => YP L b.1 b.2.1 b.2.2
 | .inr (.inr b) => b
def Oi (L : List Va) (term : Int) (q : List Ca) (now : Int) : Int × Int × Int :=
 match q with
 | [] => (0, 0, -1)
 | f :: r => cond (Yg L && (decide (1 ≤ term ∧ term ≤ 200) && (YA f && f.2.2.1)))
  (cond (Up L (Ta .i64 1 f.2.1)) (Gar L (j5 .i64 (f.1 + term)) now (Ta .i64 1 f.2.1) r) (1, f.1, -1)) (0, 0, -1)
theorem A6 {x : Ca} (h : YA x = true) : 0 ≤ x.1 ∧ x.1 ≤ 1000000 ∧ 0 ≤ x.2.1 ∧ x.2.1 < 24 := by
 simp only [YA, jd, decide_eq_true_eq] at h
 have := Vj h.1
 omega
theorem V4 (L : List Va) (term now : Int) (f : Ca) (e : Int) (he : j5 .i64 (f.1 + term) = e) (set : Int) (r : List Ca) (hn : L.length ≤ Ea) (hr : r.length ≤ Ea) :
 Dk ((L, term, now, (), set, e, (1 : Int), true, r, ((ja r : Nat) : Int), (0 : Int), ()), (f, ())) =
  some (match Nc (fun k s x => ZP L e k s x) 0 set r with
   | .inl s => .inl ((L, now, s, e, ((r.length + 1 : Nat) : Int), true, ()), ())
   | .inr (.inl b) => .inl ((L, now, b.1, b.2.2, (b.2.1 : Int), false, ()), ())
   | .inr (.inr b) => .inr ((b.1, b.2.1, b.2.2, ()), ())) := by
 have h20 : Ea = 1048576 := rfl
 have hl := HS (step := fun x => Sm x.1.1 x.1.2.1 x.1.2.2.1 x.1.2.2.2.1 x.1.2.2.2.2.1 x.1.2.2.2.2.2.1 x.1.2.2.2.2.2.2.1 x.1.2.2.2.2.2.2.2.1 x.1.2.2.2.2.2.2.2.2.1 x.1.2.2.2.2.2.2.2.2.2.1 x.1.2.2.2.2.2.2.2.2.2.2.1 x.2.1) r (fun k s x => ZP L e k s x)
  (fun k s => ((L, term, now, (), s, e, ((k + 1 : Nat) : Int), true, r, ((ja r : Nat) : Int), (k : Int), ()), (f, ())))
  (fun s => .inl ((L, now, s, e, ((r.length + 1 : Nat) : Int), true, ()), ()))
  (fun b => match b with | .inl b => .inl ((L, now, b.1, b.2.2, (b.2.1 : Int), false, ()), ()) | .inr b => .inr ((b.1, b.2.1, b.2.2, ()), ())) (fun _ _ => True) (by
   intro k hk s _
   refine ⟨?_, fun _ _ => trivial⟩
   simp only [Sm]
   rw [Aa (show (k : Int) < ((ja r : Nat) : Int) by omega), Kb hk, he]
   simp only [cond_true, jb]
   rw [BX]
   simp only [jb]
   unfold ZP
   generalize r[k] = x
   cases hx : YA x with
   | false => rfl
   | true =>
    have hk' := A6 hx
    rw [Aa hk'.2.2.1, XS _ _ hn, WN _ _ hn, Hc (show k + 1 < _ by omega), Hc (show k < _ by omega)]
    simp only [jg, cond_false, cond_true, jb]
    by_cases h1 : x.1 ≥ e
    ·rw [Aa h1, show min e x.1 = e by omega]; rfl
    ·rw [Ba h1, show min e x.1 = x.1 by omega]
     simp only [cond_false]
     cases x.2.2.1 with
     | false => rfl
     | true =>
      simp only [jg, cond_false, cond_true]
      cases Up L (Rc .i64 s (Ta .i64 1 x.2.1)) with
      | false => rfl
      | true =>
       simp only [jg, cond_false, cond_true]
       cases decide ((Ng L (Rc .i64 s (Ta .i64 1 x.2.1))).1 ≥ 0) <;> cases (Ng L (Rc .i64 s (Ta .i64 1 x.2.1))).2 <;> rfl) (by
   intro s _
   simp only [Sm]
   rw [Ba (by omega)]; rfl) set trivial
 unfold Dk
 refine hl.trans ?_
 cases Nc (fun k s x => ZP L e k s x) 0 set r with
 | inl s => rfl
 | inr b => cases b <;> rfl
theorem U5 (L : List Va) (now : Int) (f : Ca) (e : Int) (set : Int) (r : List Ca) (hn : L.length ≤ Ea) (hr : r.length ≤ Ea) :
 Xk ((L, f :: r, now, set, e, (1 : Int), e, ()), ()) =
  some (match Nc (fun k s x => ZP L e k s x) 0 set r with
   | .inl s => cond (decide (now < e)) (.inr (((0 : Int), (0 : Int), (-1 : Int), ()), ())) (.inl ((L, s, ((r.length + 1 : Nat) : Int), e, ()), ()))
   | .inr (.inl b) => .inl ((L, b.1, (b.2.1 : Int), b.2.2, ()), ())
   | .inr (.inr b) => .inr ((b.1, b.2.1, b.2.2, ()), ())) := by
 have h20 : Ea = 1048576 := rfl
 have hl := HS (step := fun x => Yo x.1.1 x.1.2.1 x.1.2.2.1 x.1.2.2.2.1 x.1.2.2.2.2.1 x.1.2.2.2.2.2.1 x.1.2.2.2.2.2.2.1) r (fun k s x => ZP L e k s x)
  (fun k s => ((L, f :: r, now, s, e, ((k + 1 : Nat) : Int), e, ()), ()))
  (fun s => cond (decide (now < e)) (.inr (((0 : Int), (0 : Int), (-1 : Int), ()), ())) (.inl ((L, s, ((r.length + 1 : Nat) : Int), e, ()), ())))
  (fun b => match b with | .inl b => .inl ((L, b.1, (b.2.1 : Int), b.2.2, ()), ()) | .inr b => .inr ((b.1, b.2.1, b.2.2, ()), ())) (fun _ _ => True) (by
   intro k hk s _
   refine ⟨?_, fun _ _ => trivial⟩
   simp only [Yo]
   rw [show (((k + 1 : Nat) : Int) == ((ja (f :: r) : Nat) : Int)) = false by simp; omega]
   rw [Kb (show k + 1 < (f :: r).length by simp; omega)]
   simp only [cond_false, jb, List.getElem_cons_succ]
   rw [AY]
   simp only [jb]
   unfold ZP
   generalize r[k] = x
   cases hx : YA x with
   | false => rfl
   | true =>
    have hk' := A6 hx
    rw [Aa hk'.2.2.1, MT _ _ hn, BO _ _ hn, Hc (show k + 1 < _ by omega)]
    simp only [jg, cond_false, cond_true, jb]
    cases decide (x.1 ≥ e) with
    | true => rfl
    | false =>
     simp only [cond_false]
     cases x.2.2.1 with
     | false => rfl
     | true =>
      simp only [jg, cond_false, cond_true]
      cases Up L (Rc .i64 s (Ta .i64 1 x.2.1)) with
      | false => rfl
      | true =>
       simp only [jg, cond_false, cond_true]
       cases decide ((Ng L (Rc .i64 s (Ta .i64 1 x.2.1))).1 ≥ 0) <;> cases (Ng L (Rc .i64 s (Ta .i64 1 x.2.1))).2 <;> rfl) (by
   intro s _
   simp only [Yo]
   rw [show (((r.length + 1 : Nat) : Int) == ((ja (f :: r) : Nat) : Int)) = true by simp]
   cases decide (now < e) <;> rfl) set trivial
 unfold Xk
 refine hl.trans ?_
 cases Nc (fun k s x => ZP L e k s x) 0 set r with
 | inl s => rfl
 | inr b => cases b <;> rfl
theorem K9 (L : List Va) (term : Int) (q : List Ca) (now : Int) (hn : L.length ≤ Ea) (hq : q.length ≤ Ea) :
 Kz L term q now = some ((Oi L term q now).1, (Oi L term q now).2.1, (Oi L term q now).2.2, ()) := by
 have h20 : Ea = 1048576 := rfl
 unfold Kz Oi
 rw [QP _ hn]
 cases q with
 | nil =>
  cases Yg L <;> simp only [jb, jg, qa, cond_true, cond_false]
  cases decide (term < 1) <;> cases decide (term > 200) <;> rfl
 | cons f r =>
  have hr : r.length ≤ Ea := by simp at hq; omega
  cases Yg L with
  | false => rfl
  | true =>
   simp only [jb, jg, jk, cond_false, Lv]
   cases decide (1 ≤ term ∧ term ≤ 200) with
   | false => rfl
   | true =>
    rw [show (((ja (f :: r) : Nat) : Int) == 0) = false by simp; omega]
    simp only [Ead, jb, BX, cond_false, cond_true, jk]
    cases hf : YA f with
    | false => rfl
    | true =>
     have hk := A6 hf
     cases f.2.2.1 with
     | false => rfl
     | true =>
      have hc : Md (ja (f :: r)) (1 : Int) ((ja (f :: r) : Nat) : Int) = true := Wi (lo := 1) (by simp) (by simp)
      have hc2 : Eb (f :: r) (jy (1 : Int)) (jy ((ja (f :: r) : Nat) : Int)) = r := by
       show List.drop 1 (List.take _ (f :: r)) = r
       rw [jn, List.take_length]; rfl
      rw [Aa hk.2.2.1, XS _ _ hn, hc, hc2]
      simp only [jg, cond_false, cond_true, jb, Bool.and_self, jk]
      cases Up L (Ta .i64 1 f.2.1) with
      | false => rfl
      | true =>
       simp only [jg, cond_false, cond_true]
       rw [V4 L term now f _ rfl _ _ hn hr]
       unfold Gar
       cases Nc (fun k s x => ZP L (j5 .i64 (f.1 + term)) k s x) 0 (Ta .i64 1 f.2.1) r with
       | inl s =>
        simp only [jb, qk, cond_true]
        rw [WN _ _ hn]
        unfold YP
        simp only [jb]
        cases decide (now < j5 .i64 (f.1 + term)) <;> cases decide ((Ng L s).1 ≥ 0) <;> rfl
       | inr b =>
        cases b with
        | inl b =>
         simp only [jb, qk, cond_false]
         rw [WN _ _ hn]
         unfold YP
         simp only [jb]
         cases decide ((Ng L b.1).1 ≥ 0) <;> rfl
        | inr b => rfl
theorem W9 (L : List Va) (term : Int) (q : List Ca) (now : Int) (hn : L.length ≤ Ea) (hq : q.length ≤ Ea) :
 MA L term q now = some ((Oi L term q now).1, (Oi L term q now).2.1, (Oi L term q now).2.2, ()) := by
 have h20 : Ea = 1048576 := rfl
 unfold MA Oi
 rw [HQ _ hn, Xc]
 cases q with
 | nil =>
  cases Yg L <;> simp only [jb, jg, qa, cond_true, cond_false]
  cases decide (1 ≤ term ∧ term ≤ 200) <;> rfl
 | cons f r =>
  have hr : r.length ≤ Ea := by simp at hq; omega
  cases hL : Yg L with
  | false => rfl
  | true =>
   simp only [jb, jg, jk, cond_false]
   cases decide (1 ≤ term ∧ term ≤ 200) with
   | false => rfl
   | true =>
    rw [show (((ja (f :: r) : Nat) : Int) == 0) = false by simp; omega]
    simp only [Ead, jb, AY, cond_false, cond_true, jk, jg]
    cases hf : YA f with
    | false => rfl
    | true =>
     have hk := A6 hf
     cases f.2.2.1 with
     | false => rfl
     | true =>
      rw [Aa hk.2.2.1, MT _ _ hn]
      simp only [jg, cond_false, cond_true, jb, Bool.and_self, jk]
      have hfin : ∀ (s : Int) (n : Nat) (a : Int), (cond (decide ((Ng L s).1 < 0)) (some ((1 : Int), a, (Ng L s).1, ())) (some ((n : Int), a, (Ng L s).1, ()))) = some ((YP L s n a).1, (YP L s n a).2.1, (YP L s n a).2.2, ()) := by
       intro s n a
       unfold YP
       rcases Aaw hL s with h | h
       ·rw [h]; rfl
       ·rw [Ba (by omega), Aa (show (Ng L s).1 ≥ 0 by omega)]; rfl
      cases Up L (Ta .i64 1 f.2.1) with
      | false => rfl
      | true =>
       simp only [jg, cond_false, cond_true]
       rw [U5 L now f _ _ _ hn hr]
       unfold Gar
       cases Nc (fun k s x => ZP L (j5 .i64 (f.1 + term)) k s x) 0 (Ta .i64 1 f.2.1) r with
       | inl s =>
        cases decide (now < j5 .i64 (f.1 + term)) with
        | true => rfl
        | false =>
         simp only [jb, qk, cond_false]
         rw [BO _ _ hn]
         exact hfin s (r.length + 1) _
       | inr b =>
        cases b with
        | inl b =>
         simp only [jb, qk]
         rw [BO _ _ hn]
         exact hfin b.1 b.2.1 _
        | inr b => rfl
theorem U2 (L : List Va) (term : Int) (f : Ca) (r : List Ca) (now : Int) : ∃ n : Nat, (Oi L term (f :: r) now).1 = (n : Int) ∧ n ≤ r.length + 1 := by
 have key : ∀ (e : Int) (l : List Ca) (k : Nat) (set : Int) (b : (Int × Nat × Int) ⊕ (Int × Int × Int)), Nc (fun k s x => ZP L e k s x) k set l = .inr b →
  match b with | .inl b => b.2.1 ≤ k + l.length | .inr b => ∃ n : Nat, b.1 = (n : Int) ∧ n ≤ k + l.length + 1 := by
  intro e l
  induction l with
  | nil => intro k set b h; simp [Nc] at h
  | cons x l ih =>
   intro k set b h
   simp only [Nc] at h
   revert h
   cases hg : ZP L e k set x with
   | inl s =>
    intro h
    have := ih (k + 1) s b h
    cases b with
    | inl b => simp only [jw] at this ⊢; omega
    | inr b => obtain ⟨n, h1, h2⟩ := this; exact ⟨n, h1, by simp only [jw]; omega⟩
   | inr r =>
    intro h
    simp only [Sum.inr.injEq] at h
    subst h
    unfold ZP at hg
    revert hg
    cases YA x <;> cases decide (x.1 ≥ e) <;> cases x.2.2.1 <;> cases Up L (Rc .i64 set (Ta .i64 1 x.2.1)) <;> cases (decide ((Ng L (Rc .i64 set (Ta .i64 1 x.2.1))).1 ≥ 0) && !(Ng L (Rc .i64 set (Ta .i64 1 x.2.1))).2) <;>
     (intro hg; cases hg) <;>
     first
      | exact ⟨0, rfl, by omega⟩
      | exact ⟨_, rfl, by simp only [jw]; omega⟩
      | (simp only [jw]; omega)
 have Xh : ∀ s n a, n ≤ r.length + 1 → 1 ≤ n → ∃ m : Nat, (YP L s n a).1 = (m : Int) ∧ m ≤ r.length + 1 := by
  intro s n a hn _
  unfold YP
  cases decide ((Ng L s).1 ≥ 0)
  ·exact ⟨1, rfl, by omega⟩
  ·exact ⟨n, rfl, hn⟩
 simp only [Oi]
 cases Yg L && (decide (1 ≤ term ∧ term ≤ 200) && (YA f && f.2.2.1)) with
 | false => exact ⟨0, rfl, by omega⟩
 | true =>
  cases Up L (Ta .i64 1 f.2.1) with
  | false => exact ⟨1, rfl, by omega⟩
  | true =>
   simp only [cond_true, Gar]
   cases h : Nc (fun k s x => ZP L (j5 .i64 (f.1 + term)) k s x) 0 (Ta .i64 1 f.2.1) r with
   | inl s =>
    cases decide (now < j5 .i64 (f.1 + term)) with
    | true => exact ⟨0, rfl, by omega⟩
    | false => exact Xh s _ _ (jo _) (by omega)
   | inr b =>
    have := key _ _ _ _ _ h
    cases b with
    | inl b =>
     unfold YP
     simp only at this ⊢
     cases decide ((Ng L b.1).1 ≥ 0)
     ·exact ⟨1, rfl, by omega⟩
     ·exact ⟨b.2.1, rfl, by omega⟩
    | inr b => obtain ⟨n, h1, h2⟩ := this; exact ⟨n, h1, by omega⟩
abbrev Cd (c : Oa) : List Ca := c.2.2.2.2.2.2.1
abbrev Eax (c : Oa) (l : List Ca) : Oa := (c.1, c.2.1, c.2.2.1, c.2.2.2.1, c.2.2.2.2.1, c.2.2.2.2.2.1, l, ())
def woE {α : Type} (l : List α) (i : Nat) : List α := jf (l.take i) (l.drop (i + 1))
def E6 : Ca := (0, 0, false, ())
def XO (l : List Ca) (key : Int) (j : Nat) : List Ca :=
 cond (Jb .i64 (l.getD j E6).2.1 (Ta .i64 1 key) == 0) (woE l j) (l.set j ((l.getD j E6).1, Jb .i64 (l.getD j E6).2.1 (Ta .i64 1 key), false, ()))
def JV (l : List Ca) (at_ : Int) (j : Nat) : List Ca := cond (l.getD j E6).2.2.1 [(at_, (l.getD j E6).1, false, ())] []
def MS (c : Oa) (key : Int) : Int := Ed (fun (a : Ca) => !(Bd a.2.1 key == 0)) 0 (Cd c)
def ZF (c : Oa) (key at_ : Int) : Oa × List Ca :=
 if MS c key = -1 then ((c.1, c.2.1, c.2.2.1, c.2.2.2.1, c.2.2.2.2.1, Jb .i64 c.2.2.2.2.2.1 (Ta .i64 1 key), Cd c, ()), [(at_, key, false, ())])
 else (Eax c (XO (Cd c) key (MS c key).toNat), JV (Cd c) at_ (MS c key).toNat)
theorem HZ {α : Type} (l : List α) (j : Nat) (hj : j < l.length) (v : α) :
 Eb (l.set j v) (jy (0 : Int)) (jy (j : Int)) = l.take j ∧ Eb (l.set j v) (jy ((j + 1 : Nat) : Int)) (jy ((ja (l.set j v) : Nat) : Int)) = l.drop (j + 1) := by
 constructor
 ·show List.drop 0 (List.take _ (l.set j v)) = _
  rw [jn, List.drop_zero, List.take_set_of_le (jo j)]
 ·show List.drop _ (List.take _ (l.set j v)) = _
  rw [jn, jn, List.take_length, List.drop_set_of_lt (by omega)]
theorem Dar (c : Oa) (key at_ : Int) (hk : 0 ≤ key) (hn : (Cd c).length ≤ Ea) : Vn c key at_ = some ((ZF c key at_).1, ((ZF c key at_).2, ())) := by
 have h20 : Ea = 1048576 := rfl
 have hlim := Be
 have hl := Ly (step := fun x => Mm x.1.1 x.1.2.1 x.1.2.2.1 x.1.2.2.2.1 x.1.2.2.2.2.1 x.2.1) (Cd c) (fun (a : Ca) => !(Bd a.2.1 key == 0)) (fun i => (((), key, at_, ((ja (Cd c) : Nat) : Int), i, ()), (c, ())))
  (.inl (((), key, at_, ()), (c, ()))) (fun i => .inr (((), JV (Cd c) at_ i.toNat, ()), (Eax c (XO (Cd c) key i.toNat), ()))) (by
   intro j hj
   simp only [Mm]
   rw [Aa (show (j : Int) < ((ja (Cd c) : Nat) : Int) by omega), Kg, Aa hj]
   have hg : (Cd c)[jy (j : Int)]? = some (Cd c)[j] := by rw [jn, je hj]
   have hgd : (Cd c).getD j E6 = (Cd c)[j] := by rw [qj, je hj]; rfl
   simp only [hg, cond_true, jb]
   rw [Uk _ hk, Aa hk]
   simp only [jb, cond_true]
   cases hb : Bd (Cd c)[j].2.1 key == 0 with
   | true => rfl
   | false =>
    simp only [cond_false, qa, cond_true]
    have hs2 : ∀ v w : Ca, (((Cd c).set j v).set j w) = (Cd c).set j w := fun v w => List.set_set ..
    have hs3 : ∀ v : Ca, ((Cd c).set j v)[jy (j : Int)]? = some v := fun v => by
     rw [jn, qv (by omega)]
    have ht : ∀ (l : List Ca) (v : Ca), l.set (jy (j : Int)) v = l.set j v := fun l v => by rw [jn]
    simp only [hs2, hs3, ht, jb, Hc (show j < 9223372036854775807 by omega), (HZ (Cd c) j hj _).1, (HZ (Cd c) j hj _).2]
    have hc1 : ∀ v : Ca, Md (ja ((Cd c).set j v)) 0 (j : Int) = true := fun v => Wi (lo := 0) (by omega) (by rw [j9]; omega)
    have hc2 : ∀ v : Ca, Md (ja ((Cd c).set j v)) ((j + 1 : Nat) : Int) ((ja ((Cd c).set j v) : Nat) : Int) = true := fun v => Wi (by rw [j9]; omega) (jo _)
    have hb1 : jx (ja ([] : List Ca) + ja ((Cd c).take j)) Sa = true := ji (by simp; omega)
    have hb2 : jx (ja (jf ([] : List Ca) ((Cd c).take j)) + ja ((Cd c).drop (j + 1))) Sa = true := ji (by simp; omega)
    simp only [hc1, hc2, hb1, hb2, cond_true, jn]
    unfold XO JV
    rw [hgd]
    generalize hx : (Cd c)[j] = x
    obtain ⟨xo, xl, xd, xu⟩ := x
    cases xd <;> cases Jb .i64 xl (Ta .i64 1 key) == 0 <;> rfl) (by
   simp only [Mm]
   rw [Ba (by omega)]; rfl) (by omega)
 unfold Vn Gp ZF MS
 erw [hl]
 simp only [jb]
 by_cases hc : Ed (fun (a : Ca) => !(Bd a.2.1 key == 0)) 0 (Cd c) = -1
 ·rw [if_pos hc, if_pos hc]
  simp only [qk]
  rw [Aa hk]; rfl
 ·rw [if_neg hc, if_neg hc]; rfl
theorem Var (c : Oa) (key at_ : Int) (hk : 0 ≤ key) (hn : (Cd c).length ≤ Ea) : NK c key at_ = some ((ZF c key at_).1, ((ZF c key at_).2, ())) := by
 have h20 : Ea = 1048576 := rfl
 have hlim := Be
 have hl := Ly (step := fun x => ZD x.1.1 x.1.2.1 x.1.2.2.1 x.1.2.2.2.1 x.2.1) (Cd c) (fun (a : Ca) => !(Bd a.2.1 key == 0)) (fun i => (((), key, at_, i, ()), (c, ())))
  (.inl (((), key, at_, ()), (c, ()))) (fun i => .inr (((), JV (Cd c) at_ i.toNat, ()), (Eax c (XO (Cd c) key i.toNat), ()))) (by
   intro j hj
   simp only [ZD]
   rw [Aa (show (j : Int) < ((ja (Cd c) : Nat) : Int) by omega), Kg, Aa hj]
   have hg : (Cd c)[jy (j : Int)]? = some (Cd c)[j] := by rw [jn, je hj]
   have hgd : (Cd c).getD j E6 = (Cd c)[j] := by rw [qj, je hj]; rfl
   simp only [hg, cond_true, jb]
   rw [Aa hk]
   simp only [jb, cond_true]
   show cond (Bd (Cd c)[j].2.1 key == 0) _ _ = _
   cases hb : Bd (Cd c)[j].2.1 key == 0 with
   | true => rfl
   | false =>
    simp only [cond_false, qa, cond_true]
    have ht : ∀ v : Ca, (Cd c).set (jy (j : Int)) v = (Cd c).set j v := fun v => by rw [jn]
    simp only [ht, jb, Hc (show j < 9223372036854775807 by omega), (HZ (Cd c) j hj _).1, (HZ (Cd c) j hj _).2]
    have hc1 : ∀ v : Ca, Md (ja ((Cd c).set j v)) 0 (j : Int) = true := fun v => Wi (lo := 0) (by omega) (by rw [j9]; omega)
    have hc2 : ∀ v : Ca, Md (ja ((Cd c).set j v)) ((j + 1 : Nat) : Int) ((ja ((Cd c).set j v) : Nat) : Int) = true := fun v => Wi (by rw [j9]; omega) (jo _)
    have hb1 : jx (ja ([] : List Ca) + ja ((Cd c).take j)) Sa = true := ji (by simp; omega)
    have hb2 : jx (ja (jf ([] : List Ca) ((Cd c).take j)) + ja ((Cd c).drop (j + 1))) Sa = true := ji (by simp; omega)
    have hb3 : ∀ v : Ca, jx (ja ([] : List Ca) + ja [v]) Sa = true := fun v => ji (by rw [hlim]; simp)
    simp only [hc1, hc2, hb1, hb2, hb3, cond_true, jn]
    unfold XO JV
    rw [hgd]
    generalize hx : (Cd c)[j] = x
    obtain ⟨xo, xl, xd, xu⟩ := x
    cases xd <;> cases Jb .i64 xl (Ta .i64 1 key) == 0 <;> rfl) (by
   simp only [ZD]
   rw [Ba (Int.lt_irrefl _)]; rfl) (by omega)
 unfold NK VE ZF MS
 erw [hl]
 simp only [jb]
 by_cases hc : Ed (fun (a : Ca) => !(Bd a.2.1 key == 0)) 0 (Cd c) = -1
 ·rw [if_pos hc, if_pos hc]
  simp only [qk]
  rw [Aa hk]; rfl
 ·rw [if_neg hc, if_neg hc]; rfl
theorem QaJ (n : Int) : j5 .i64 n ≤ 9223372036854775807 := by
 rw [IntKind.wrap_i64]; omega
theorem Qax (x y : Int) : Jb .i64 x y ≤ 9223372036854775807 := QaJ _
theorem B9 (l : List Ca) (at_ : Int) (j : Nat) : (JV l at_ j).length ≤ 1 := by
 unfold JV
 cases (l.getD j E6).2.2.1 <;> simp
theorem FaN (l : List Ca) (key : Int) (j : Nat) (hx : ∀ x ∈ l, x.2.1 ≤ 9223372036854775807) : (XO l key j).length ≤ l.length ∧ ∀ x ∈ XO l key j, x.2.1 ≤ 9223372036854775807 := by
 unfold XO
 cases Jb .i64 (l.getD j E6).2.1 (Ta .i64 1 key) == 0 with
 | true =>
  simp only [cond_true, woE]
  refine ⟨by simp; omega, fun x h => ?_⟩
  rcases jl.1 (show x ∈ l.take j ++ l.drop (j + 1) from h) with h | h
  ·exact hx x (List.mem_of_mem_take h)
  ·exact hx x (qs h)
 | false =>
  simp only [cond_false]
  refine ⟨by simp, fun x h => ?_⟩
  rcases List.mem_or_eq_of_mem_set h with h | h
  ·exact hx x h
  ·rw [h]; exact Qax _ _
structure ZR (c : Oa) : Prop where
 len : c.2.2.1.length ≤ 64
 ev : ∀ x ∈ c.2.2.1, 0 ≤ x.2.1
 L : c.1.length ≤ 8
 cb : Yg c.1 = true
 r : ∀ x ∈ Cd c, x.2.1 ≤ 9223372036854775807
def Ix (c : Oa) (x : Ca) (r : List Ca) : Option (Oa × List Ca) :=
 cond x.2.2.1
  (
   let m := Oi c.1 c.2.1 c.2.2.1 c.2.2.2.1
   cond (m.1 == 0) none
    (cond (decide (m.2.2 < 0))
     (some ((c.1, c.2.1, c.2.2.1.drop m.1.toNat, c.2.2.2.1, max (max c.2.2.2.2.1 x.1) m.2.1, Rc .i64 c.2.2.2.2.2.1 (Ta .i64 1 x.2.1), Cd c, ()), [(max (max c.2.2.2.2.1 x.1) m.2.1, x.2.1, true, ())]))
     (some ((c.1, c.2.1, c.2.2.1.drop m.1.toNat, c.2.2.2.1, max (max c.2.2.2.2.1 x.1) m.2.1, c.2.2.2.2.2.1, jf (Cd c) [(m.2.2, WU c.1 m.2.2, true, ())], ()), [(max (max c.2.2.2.2.1 x.1) m.2.1, m.2.2, true, ())]))))
  (some (ZF (c.1, c.2.1, r, c.2.2.2.1, max c.2.2.2.2.1 x.1, c.2.2.2.2.2) x.2.1 (max c.2.2.2.2.1 x.1)))
def SaD (c : Oa) : Option (Oa × List Ca) → Oa × ((List Ca) × (Bool × Unit))
 | none => (c, ([], false, ()))
 | some (c', l) => (c', (l, true, ()))
theorem Oac {α : Type} (l : List α) (n : Nat) : Eb l (jy (n : Int)) (jy ((ja l : Nat) : Int)) = l.drop n := by
 show List.drop _ (List.take _ l) = _
 rw [jn, jn, List.take_length]
theorem W6 {c : Oa} {x : Ca} {r : List Ca} (h : ZR c) (hq : c.2.2.1 = x :: r) (ha : (Cd c).length ≤ 100000) : Hh c = some (SaD c (Ix c x r)) := by
 have h20 : Ea = 1048576 := rfl
 have hlim := Be
 have h64 := h.len
 have hl8 := h.L
 have hkx : 0 ≤ x.2.1 := h.ev x (by rw [hq]; simp)
 have hlen : r.length ≤ 64 := by have := h.len; rw [hq] at this; simp at this; omega
 have hc := LP x r hlen
 have i0 : Af (ja (x :: r)) (0 : Int) = true := by rw [show (0 : Int) = ((0 : Nat) : Int) from rfl, Kg]; exact Aa (by simp)
 have g0 : (x :: r)[(jy (0 : Int))]? = some x := rfl
 have hb : jx (ja ([] : List Ca) + ja r) Sa = true := ji (by simp; omega)
 obtain ⟨cL, ct, q, now, clk, dn, act, u⟩ := c
 cases u
 simp only at hq ha h64 hl8
 have ha' : act.length ≤ 100000 := ha
 subst hq
 unfold Hh Ix
 simp only [i0, g0, hc.1, hc.2, hb, cond_true, jb]
 cases x.2.2.1 with
 | false =>
  simp only [qa, cond_true, cond_false]
  show jz (Vn (cL, ct, r, now, max clk x.1, dn, act, ()) x.2.1 (max clk x.1)) _ = _
  rw [Dar _ _ _ hkx (by show act.length ≤ Ea; omega)]
  rfl
 | true =>
  simp only [jg, cond_false, cond_true]
  rw [K9 _ _ _ _ (by omega) (by omega)]
  obtain ⟨n, hn, hn2⟩ := U2 cL ct x r now
  simp only [jb]
  cases hm : (Oi cL ct (x :: r) now).1 == 0 with
  | true => rfl
  | false =>
   simp only [cond_false]
   rw [hn, Oac, jn, Wi (show n ≤ (x :: r).length by simp; omega) (jo _)]
   have hb2 : jx (ja ([] : List Ca) + ja ((x :: r).drop n)) Sa = true := ji (by rw [qw]; simp only [jw, j8] at h64 ⊢; omega)
   rw [hb2, Aa hkx, BR _ _ (by omega)]
   simp only [cond_true, jb]
   have hb3 : ∀ v : Ca, jx (ja act + ja [v]) Sa = true := fun v => ji (by simp only [jw, j8]; omega)
   simp only [hb3, cond_true]
   cases decide ((Oi cL ct (x :: r) now).2.2 < 0) <;> rfl
theorem K6 {c c' : Oa} {x : Ca} {r : List Ca} {l : List Ca} (h : ZR c) (hq : c.2.2.1 = x :: r) (hs : Ix c x r = some (c', l)) :
 ZR c' ∧ c'.2.2.1.length < c.2.2.1.length ∧ (Cd c').length ≤ (Cd c).length + 1 ∧ l.length ≤ 1 ∧ c'.2.2.2.1 = c.2.2.2.1 := by
 have h64 := h.len
 have hlen : c.2.2.1.length = r.length + 1 := by rw [hq]; rfl
 unfold Ix at hs
 cases hd : x.2.2.1 with
 | false =>
  rw [hd] at hs
  simp only [cond_false, jc] at hs
  have e1 : c' = (ZF (c.1, c.2.1, r, c.2.2.2.1, max c.2.2.2.2.1 x.1, c.2.2.2.2.2) x.2.1 (max c.2.2.2.2.1 x.1)).1 := by rw [hs]
  have e2 : l = (ZF (c.1, c.2.1, r, c.2.2.2.1, max c.2.2.2.2.1 x.1, c.2.2.2.2.2) x.2.1 (max c.2.2.2.2.1 x.1)).2 := by rw [hs]
  have hr : ∀ y ∈ r, 0 ≤ y.2.1 := fun y hy => h.ev y (by rw [hq]; simp [hy])
  unfold ZF at e1 e2
  split at e1
  ·rename_i hc
   rw [if_pos hc] at e2
   subst e1 e2
   exact ⟨⟨by show r.length ≤ 64; omega, hr, h.L, h.cb, h.r⟩, by show r.length < _; omega, by show (Cd c).length ≤ _; omega, by simp, rfl⟩
  ·rename_i hc
   rw [if_neg hc] at e2
   have hu := FaN (Cd c) x.2.1 (MS (c.1, c.2.1, r, c.2.2.2.1, max c.2.2.2.2.1 x.1, c.2.2.2.2.2) x.2.1).toNat h.r
   subst e1 e2
   refine ⟨⟨by show r.length ≤ 64; omega, hr, h.L, h.cb, hu.2⟩, by show r.length < _; omega, ?_, ?_, rfl⟩
   ·have := hu.1
    show (XO (Cd c) _ _).length ≤ _
    omega
   ·exact B9 _ _ _
 | true =>
  rw [hd] at hs
  simp only [cond_true] at hs
  obtain ⟨n, hn, hn2⟩ := U2 c.1 c.2.1 x r c.2.2.2.1
  rw [hq] at hs
  cases hm : (Oi c.1 c.2.1 (x :: r) c.2.2.2.1).1 == 0 with
  | true => rw [hm] at hs; simp at hs
  | false =>
   have hn0 : n ≠ 0 := by intro h0; rw [hn, h0] at hm; simp at hm
   rw [hm, hn, jn] at hs
   have hdl : ((x :: r).drop n).length < r.length + 1 := by rw [qw]; simp only [jw]; omega
   have hde : ∀ y ∈ (x :: r).drop n, 0 ≤ y.2.1 := fun y hy => h.ev y (by rw [hq]; exact qs hy)
   cases h2 : decide ((Oi c.1 c.2.1 (x :: r) c.2.2.2.1).2.2 < 0) with
   | true =>
    rw [h2] at hs
    simp only [cond_true, cond_false, jc, jh] at hs
    obtain ⟨rfl, rfl⟩ := hs
    exact ⟨⟨by show ((x :: r).drop n).length ≤ 64; omega, hde, h.L, h.cb, h.r⟩, by show ((x :: r).drop n).length < _; omega, by show (Cd c).length ≤ _; omega, by simp, rfl⟩
   | false =>
    rw [h2] at hs
    simp only [cond_false, jc, jh] at hs
    obtain ⟨rfl, rfl⟩ := hs
    refine ⟨⟨by show ((x :: r).drop n).length ≤ 64; omega, hde, h.L, h.cb, fun y hy => ?_⟩, by show ((x :: r).drop n).length < _; omega, by show (jf (Cd c) [_]).length ≤ _; simp, by simp, rfl⟩
    rcases jl.1 (show y ∈ Cd c ++ [_] from hy) with hy | hy
    ·exact h.r y hy
    ·rw [qe.1 hy]
     show WU c.1 _ ≤ _
     unfold WU
     cases hf : (Nj c.1 (Oi c.1 c.2.1 (x :: r) c.2.2.2.1).2.2).isSome with
     | true => have := HU h.cb hf; omega
     | false =>
      have e : Nj c.1 (Oi c.1 c.2.1 (x :: r) c.2.2.2.1).2.2 = none := Option.not_isSome_iff_eq_none.1 (by rw [hf]; simp)
      rw [e]
      decide
def Sf : Nat → Oa → List Ca → Oa × List Ca
 | 0, c, o => (c, o)
 | n + 1, c, o => match c.2.2.1 with
  | [] => (c, o)
  | x :: r => match Ix c x r with
   | none => (c, o)
   | some (c', l) => Sf n c' (jf o l)
theorem TV (z : Oa) : ∀ (n : Nat) (c : Oa) (o : List Ca), ZR c → c.2.2.1.length ≤ n → o.length + n ≤ 1000 → (Cd c).length + n ≤ 100000 →
 Mf (((), (), o, ()), (z, c, ())) = some (.inl (((), (), (Sf n c o).2, ()), (z, (Sf n c o).1, ())))
 | n, c, o, h, hl, ho, ha => by
  unfold Mf
  cases hq : c.2.2.1 with
  | nil =>
   have e1 : Sf n c o = (c, o) := by
    cases n with
    | zero => rfl
    | succ n => simp only [Sf, hq]
   have hstep : Dg () () o z c = some (.inr (.inl (((), (), o, ()), (z, c, ())))) := by
    unfold Dg
    rw [Ba (by rw [hq]; simp)]; rfl
   erw [Oe hstep]
   rw [e1]; rfl
  | cons x r =>
   have hlen : c.2.2.1.length = r.length + 1 := by rw [hq]; rfl
   cases n with
   | zero => omega
   | succ n =>
    have e1 : Sf (n + 1) c o = match Ix c x r with
     | none => (c, o)
     | some (c', l) => Sf n c' (jf o l) := by simp only [Sf, hq]
    rw [e1]
    have hp := W6 h hq (by omega)
    cases hst : Ix c x r with
    | none =>
     have hstep : Dg () () o z c = some (.inr (.inl (((), (), o, ()), (z, c, ())))) := by
      unfold Dg
      rw [Aa (by rw [hlen]; omega)]
      show (jz (Hh c) _) = _
      rw [hp, hst]; rfl
     erw [Oe hstep]; rfl
    | some p =>
     obtain ⟨c', l⟩ := p
     have hn := K6 h hq hst
     have hstep : Dg () () o z c = some (.inl (((), (), jf o l, ()), (z, c', ()))) := by
      unfold Dg
      rw [Aa (by rw [hlen]; omega)]
      show (jz (Hh c) _) = _
      rw [hp, hst]
      have hb : jx (ja o + ja l) Sa = true := ji (by rw [Be]; omega)
      simp only [SaD, jb, jg, cond_false, hb, cond_true]
     erw [Oe hstep]
     have ih := TV z n c' (jf o l) hn.1 (by omega) (by
      have : (jf o l).length = o.length + l.length := by simp
      omega) (by omega)
     unfold Mf at ih
     exact ih
theorem Fa5 (c : Oa) (q : List Ca) (clk : Int) (key at_ : Int) :
 ZF (c.1, c.2.1, q, c.2.2.2.1, clk, c.2.2.2.2.2) key at_ = (((ZF c key at_).1.1, (ZF c key at_).1.2.1, q, (ZF c key at_).1.2.2.2.1, clk, (ZF c key at_).1.2.2.2.2.2), (ZF c key at_).2) := by
 have hi : MS (c.1, c.2.1, q, c.2.2.2.1, clk, c.2.2.2.2.2) key = MS c key := rfl
 unfold ZF
 rw [hi]
 by_cases h : MS c key = -1
 ·rw [if_pos h, if_pos h]
 ·rw [if_neg h, if_neg h]
theorem EaN (c : Oa) (key at_ : Int) : (ZF c key at_).1.2.2.1 = c.2.2.1 ∧ (ZF c key at_).2.length ≤ 1 := by
 unfold ZF
 by_cases h : MS c key = -1
 ·rw [if_pos h]; exact ⟨rfl, by simp⟩
 ·rw [if_neg h]; exact ⟨rfl, B9 _ _ _⟩
theorem P7 {c : Oa} {x : Ca} {r : List Ca} (o : List Ca) (h : ZR c) (hq : c.2.2.1 = x :: r) (ha : (Cd c).length ≤ 100000) (ho : o.length ≤ 1000) :
 Br () o c = some (match Ix c x r with
  | none => .inr (.inr (((), o, ()), (c, ())))
  | some (c', l) => .inl (((), jf o l, ()), (c', ()))) := by
 have h20 : Ea = 1048576 := rfl
 have hlim := Be
 have h64 := h.len
 have hl8 := h.L
 have hkx : 0 ≤ x.2.1 := h.ev x (by rw [hq]; simp)
 have hlen : r.length ≤ 64 := by have := h.len; rw [hq] at this; simp at this; omega
 have hc := LP x r hlen
 have i0 : Af (ja (x :: r)) (0 : Int) = true := by rw [show (0 : Int) = ((0 : Nat) : Int) from rfl, Kg]; exact Aa (by simp)
 have g0 : (x :: r)[(jy (0 : Int))]? = some x := rfl
 have hb : jx (ja ([] : List Ca) + ja r) Sa = true := ji (by simp; omega)
 have ho1 : ∀ v : Ca, jx (ja o + ja [v]) Sa = true := fun v => ji (by simp only [jw, j8]; omega)
 obtain ⟨cL, ct, q, now, clk, dn, act, u⟩ := c
 cases u
 simp only at hq ha h64 hl8
 have ha' : act.length ≤ 100000 := ha
 subst hq
 unfold Br Ix
 have hgt : decide (((ja (x :: r) : Nat) : Int) > 0) = true := Aa (by simp only [jw]; omega)
 simp only [hgt, i0, g0, cond_true, jb]
 cases hd : x.2.2.1 with
 | false =>
  simp only [cond_false]
  show jz (NK (cL, ct, x :: r, now, clk, dn, act, ()) x.2.1 (max clk x.1)) _ = _
  rw [Var _ _ _ hkx (by show act.length ≤ Ea; omega)]
  have hu := EaN (cL, ct, x :: r, now, clk, dn, act, ()) x.2.1 (max clk x.1)
  have hu2 := Fa5 (cL, ct, x :: r, now, clk, dn, act, ()) r (max clk x.1) x.2.1 (max clk x.1)
  simp only at hu hu2
  have hb2 : jx (ja o + ja (ZF (cL, ct, x :: r, now, clk, dn, act, ()) x.2.1 (max clk x.1)).2) Sa = true := ji (by have := hu.2; omega)
  simp only [jb, hb2, hu.1, hc.1, hc.2, hb, cond_true, hu2]
  rfl
 | true =>
  simp only [cond_true]
  rw [W9 _ _ _ _ (by omega) (by omega)]
  obtain ⟨n, hn, hn2⟩ := U2 cL ct x r now
  simp only [jb]
  cases hm : (Oi cL ct (x :: r) now).1 == 0 with
  | true => rfl
  | false =>
   simp only [cond_false]
   rw [hn, Oac, jn, Wi (show n ≤ (x :: r).length by simp; omega) (jo _)]
   have hb2 : jx (ja ([] : List Ca) + ja ((x :: r).drop n)) Sa = true := ji (by rw [qw]; simp only [jw, j8] at h64 ⊢; omega)
   rw [hb2, Aa hkx, TR _ _ (by omega)]
   have hb3 : ∀ v : Ca, jx (ja (jf ([] : List Ca) act) + ja [v]) Sa = true := fun v => ji (by show act.length + _ ≤ Sa; simp only [jw, j8]; omega)
   have hb4 : jx (ja ([] : List Ca) + ja act) Sa = true := ji (by simp only [j8]; omega)
   simp only [hb3, hb4, ho1, cond_true, jb]
   have e1 : decide ((Oi cL ct (x :: r) now).2.2 ≥ 0) = !decide ((Oi cL ct (x :: r) now).2.2 < 0) := by
    rw [qx]; simp only [decide_eq_true_eq, Bool.not_eq_true', decide_eq_false_iff_not]; omega
   rw [e1]
   cases decide ((Oi cL ct (x :: r) now).2.2 < 0) <;> rfl
theorem VV : ∀ (n : Nat) (c : Oa) (o : List Ca), ZR c → c.2.2.1.length ≤ n → o.length + n ≤ 1000 → (Cd c).length + n ≤ 100000 →
 Hj (((), o, ()), (c, ())) = some (.inl (((), (Sf n c o).2, ()), ((Sf n c o).1, ()))) ∨ Hj (((), o, ()), (c, ())) = some (.inr (((), (Sf n c o).2, ()), ((Sf n c o).1, ())))
 | n, c, o, h, hl, ho, ha => by
  unfold Hj
  cases hq : c.2.2.1 with
  | nil =>
   have e1 : Sf n c o = (c, o) := by
    cases n with
    | zero => rfl
    | succ n => simp only [Sf, hq]
   have hstep : Br () o c = some (.inr (.inl (((), o, ()), (c, ())))) := by
    unfold Br
    rw [Ba (by rw [hq]; simp)]; rfl
   refine .inl ?_
   erw [Oe hstep]
   rw [e1]; rfl
  | cons x r =>
   have hlen : c.2.2.1.length = r.length + 1 := by rw [hq]; rfl
   cases n with
   | zero => omega
   | succ n =>
    have e1 : Sf (n + 1) c o = match Ix c x r with
     | none => (c, o)
     | some (c', l) => Sf n c' (jf o l) := by simp only [Sf, hq]
    rw [e1]
    have hp := P7 o h hq (by omega) (by omega)
    cases hst : Ix c x r with
    | none =>
     rw [hst] at hp
     refine .inr ?_
     erw [Oe hp]; rfl
    | some p =>
     obtain ⟨c', l⟩ := p
     have hn := K6 h hq hst
     rw [hst] at hp
     erw [Oe hp]
     have ih := VV n c' (jf o l) hn.1 (by omega) (by
      have : (jf o l).length = o.length + l.length := by simp
      omega) (by omega)
     unfold Hj at ih
     exact ih
theorem E4 : ∀ (n : Nat) (c : Oa) (o : List Ca), ZR c → ZR (Sf n c o).1 ∧ (Cd (Sf n c o).1).length ≤ (Cd c).length + n ∧ (Sf n c o).2.length ≤ o.length + n
 | 0, c, o, h => ⟨h, by show (Cd c).length ≤ _; omega, by show o.length ≤ _; omega⟩
 | n + 1, c, o, h => by
  cases hq : c.2.2.1 with
  | nil =>
   have e : Sf (n + 1) c o = (c, o) := by simp only [Sf, hq]
   rw [e]; exact ⟨h, by show (Cd c).length ≤ _; omega, by show o.length ≤ _; omega⟩
  | cons x r =>
   cases hst : Ix c x r with
   | none =>
    have e : Sf (n + 1) c o = (c, o) := by simp only [Sf, hq, hst]
    rw [e]; exact ⟨h, by show (Cd c).length ≤ _; omega, by show o.length ≤ _; omega⟩
   | some p =>
    obtain ⟨c', l⟩ := p
    have e : Sf (n + 1) c o = Sf n c' (jf o l) := by simp only [Sf, hq, hst]
    have hn := K6 h hq hst
    have ih := E4 n c' (jf o l) hn.1
    have e2 : (jf o l).length = o.length + l.length := by simp
    rw [e]
    exact ⟨ih.1, by omega, by omega⟩
def E9 : Oa := (([] : List Va), (0 : Int), ([] : List Ca), (0 : Int), (0 : Int), (0 : Int), ([] : List Ca), ())
def Hy (c : Oa) (l : List Ca) (til : Int) : Bool :=
 Pd c && (decide (c.2.2.2.1 ≤ til ∧ til ≤ 1000000) && (Eg l c.2.2.2.1 && (Kf l til && Gd (jf c.2.2.1 l) (Kl c) 24)))
def VQ (c : Oa) (l : List Ca) (til : Int) : Oa := (c.1, c.2.1, jf c.2.2.1 l, til, c.2.2.2.2)
def HJ (c : Oa) (l : List Ca) (til : Int) : Oa × ((List Ca) × (Bool × Unit)) :=
 cond (Hy c l til) ((Sf 64 (VQ c l til) []).1, (Sf 64 (VQ c l til) []).2, true, ()) (E9, [], false, ())
theorem Zau {l : List Ca} (h : ∀ x ∈ l, 0 ≤ x.1 ∧ x.1 ≤ 31) (hp : (l.map fun x => x.1.toNat).Nodup) : l.length ≤ 32 := by
 have := W2 32 (l.map fun x => x.1.toNat) hp (by
  intro y hy
  obtain ⟨x, hx, rfl⟩ := qu.1 hy
  have := h x hx
  omega)
 rwa [List.length_map] at this
theorem C8 {L : List Va} : ∀ {l pre : List Ca}, ZE L pre l = true → (∀ x ∈ l, 0 ≤ x.1) → (∀ x ∈ pre, 0 ≤ x.1) → (pre.map fun x => x.1.toNat).Nodup → ((pre ++ l).map fun x => x.1.toNat).Nodup
 | [], pre, _, _, _, hn => by simpa using hn
 | x :: l, pre, h, hx, hpre, hn => by
  simp only [ZE, jd] at h
  have hne : FC pre x = true := h.1.2
  have := C8 (l := l) (pre := pre ++ [x]) h.2 (fun y hy => hx y (by simp [hy])) (fun y hy => by
   rcases jl.1 hy with hy | hy
   ·exact hpre y hy
   ·rw [qe.1 hy]; exact hx x (by simp)) (by
   rw [List.map_append, List.nodup_append]
   refine ⟨hn, by simp, ?_⟩
   intro a ha b hb hab
   obtain ⟨y, hy, rfl⟩ := qu.1 ha
   simp only [List.map_cons, List.map_nil, qe] at hb
   subst hb
   have h1 := (I1 (p := fun y : Ca => !(y.1 == x.1))).1 hne y hy
   simp only [Bool.not_eq_true', beq_eq_false_iff_ne] at h1
   have := hpre y hy
   have := hx x (by simp)
   omega)
  simpa using this
theorem H6 {c : Oa} (h : Pd c = true) : (Cd c).length ≤ 32 := by
 have ha := FG h
 refine Zau (fun x hx => ⟨(ha x hx).lo, (ha x hx).hi⟩) ?_
 simp only [Pd, jd] at h
 have := C8 (pre := []) (l := Cd c) h.2.2.2.2.1.2.1 (fun x hx => (ha x hx).lo) (by simp) (by simp)
 simpa using this
theorem Kac {c : Oa} {l : List Ca} {til : Int} (hz : Qi c) (hc : Pd c = true) (hf : Gd (jf c.2.2.1 l) (Kl c) 24 = true) : ZR (VQ c l til) := by
 have h1 : Yg c.1 = true := by simp only [Pd, jd] at hc; exact hc.1
 have h2 : c.1.length ≤ 8 := by simp only [Yg, jd, decide_eq_true_eq] at h1; exact h1.1
 refine ⟨KL hf, fun x hx => ?_, h2, h1, hz.r⟩
 have := Vj (MU (Z1 hf) x hx)
 omega
theorem S4 (c : Oa) (l : List Ca) (til : Int) (hz : Qi c) (hl : l.length ≤ 1000000) : Zp c l til = some (HJ c l til) := by
 have h20 : Ea = 1048576 := rfl
 have hzq := hz.q
 have hze := hz.e
 have hlapp : (jf c.2.2.1 l).length = c.2.2.1.length + l.length := by simp
 have hlim : jx (ja c.2.2.1 + ja l) Sa = true := ji (by rw [Be]; omega)
 unfold Zp HJ
 rw [CN _ hz, Ms _ _ (by omega), LJ _ hz, Zv _ hz.e]
 cases hd : Pd c with
 | false => rw [show Hy c l til = false by unfold Hy; rw [hd]; rfl]; rfl
 | true =>
  have hsw : Y5 c = true := by simp only [Pd, jd] at hd; exact hd.2.2.2.2.1.2.2
  have h64 : c.2.2.1.length ≤ 64 := by
   simp only [Pd, jd] at hd
   exact KL hd.2.2.2.2.2.1
  simp only [jb, jg, cond_false, hlim, cond_true, hsw]
  rw [Ns _ _ _ (by rw [hlapp]; omega)]
  simp only [jb]
  have key : ∀ (K : Option (Oa × ((List Ca) × (Bool × Unit)))), (Gd (jf c.2.2.1 l) (Kl c) 24 = true → K = some ((Sf 64 (VQ c l til) []).1, (Sf 64 (VQ c l til) []).2, true, ())) →
   (cond (decide (til < c.2.2.2.1)) (some (E9, [], false, ())) (cond (decide (til > 1000000)) (some (E9, [], false, ())) (cond (!Eg l c.2.2.2.1) (some (E9, [], false, ())) (cond (!Kf l til) (some (E9, [], false, ())) (cond (!Gd (jf c.2.2.1 l) (Kl c) 24) (some (E9, [], false, ())) K))))) =
   some (cond (Hy c l til) ((Sf 64 (VQ c l til) []).1, (Sf 64 (VQ c l til) []).2, true, ()) (E9, [], false, ())) := by
   intro K hK
   unfold Hy
   rw [hd]
   by_cases h1 : til < c.2.2.2.1
   ·rw [Aa h1, Ba (show ¬ (c.2.2.2.1 ≤ til ∧ til ≤ 1000000) by omega)]; rfl
   ·by_cases h2 : til > 1000000
    ·rw [Ba h1, Aa h2, Ba (show ¬ (c.2.2.2.1 ≤ til ∧ til ≤ 1000000) by omega)]; rfl
    ·rw [Ba h1, Ba h2, Aa (show (c.2.2.2.1 ≤ til ∧ til ≤ 1000000) by omega)]
     cases Eg l c.2.2.2.1 with
     | false => rfl
     | true =>
      cases Kf l til with
      | false => rfl
      | true =>
       cases hq : Gd (jf c.2.2.1 l) (Kl c) 24 with
       | false => rfl
       | true => exact hK hq
  have hrun : Gd (jf c.2.2.1 l) (Kl c) 24 = true → ∀ z : Oa, Mf (((), (), ([] : List Ca), ()), (z, (c.1, c.2.1, jf c.2.2.1 l, til, c.2.2.2.2), ())) = some (.inl (((), (), (Sf 64 (VQ c l til) []).2, ()), (z, (Sf 64 (VQ c l til) []).1, ()))) := by
   intro hq z
   have h1 := Kac (til := til) hz hd hq
   have h2 := h1.len
   have h3 := H6 hd
   exact TV z 64 (VQ c l til) [] h1 h2 (by simp) (by show (Cd c).length + 64 ≤ _; omega)
  by_cases h0 : l.length = 0
  ·have hna : Eg l c.2.2.2.1 = true := by unfold Eg; rw [h0]; rfl
   rw [Ba (show ¬ ((ja l : Nat) : Int) > 0 by omega)]
   simp only [cond_false]
   simp only [hna, jg, cond_false] at key
   exact key _ (fun hq => by rw [hrun hq]; rfl)
  ·obtain ⟨x, hx, hx1⟩ := QU (l := l) (by omega)
   have hna : Eg l c.2.2.2.1 = !decide (x.1 < c.2.2.2.1) := by
    unfold Eg
    rw [show ((l.length : Int) == 0) = false by simp; intro h; rw [h] at h0; simp at h0, hx1]; rfl
   rw [Aa (show ((ja l : Nat) : Int) > 0 by omega), hx]
   simp only [cond_true, jb]
   simp only [hna, Bool.not_not] at key
   exact key _ (fun hq => by rw [hrun hq]; rfl)
theorem R7 (c : Oa) (h : ZR c) (ha : (Cd c).length ≤ 32) : Oy c = some ((Sf 64 c []).1, ((Sf 64 c []).2, ())) := by
 unfold Oy
 rcases VV 64 c [] h h.len (by simp) (by omega) with h1 | h1 <;> (rw [h1]; rfl)
theorem P5 (c : Oa) (l : List Ca) (til : Int) (hz : Qi c) (hl : l.length ≤ 1000000) : Vq c l til = some (HJ c l til) := by
 have h20 : Ea = 1048576 := rfl
 have hzq := hz.q
 have hze := hz.e
 have hlapp : (jf c.2.2.1 l).length = c.2.2.1.length + l.length := by simp
 have hn : jf ([] : List Ca) c.2.2.1 = c.2.2.1 := rfl
 have hlim : jx (ja c.2.2.1 + ja l) Sa = true := ji (by rw [Be]; omega)
 have hlim2 : jx (ja ([] : List Ca) + ja c.2.2.1) Sa = true := ji (by rw [Be]; simp; omega)
 unfold Vq HJ
 rw [hn, hlim, hlim2, MN _ hz, Xc, RR _ hz, MK _ hz.e]
 simp only [cond_true]
 cases hd : Pd c with
 | false => rw [show Hy c l til = false by unfold Hy; rw [hd]; rfl]; rfl
 | true =>
  have h64 : c.2.2.1.length ≤ 64 := by
   simp only [Pd, jd] at hd
   exact KL hd.2.2.2.2.2.1
  simp only [jb, jg, cond_false]
  rw [Zq _ _ _ (by rw [hlapp]; omega)]
  simp only [jb]
  unfold Hy
  rw [hd]
  cases decide (c.2.2.2.1 ≤ til ∧ til ≤ 1000000) with
  | false => rfl
  | true =>
   cases hq : Gd (jf c.2.2.1 l) (Kl c) 24 with
   | false => simp only [Bool.and_false]; rfl
   | true =>
    have hrun : Oy (c.1, c.2.1, jf c.2.2.1 l, til, c.2.2.2.2) = _ := R7 (VQ c l til) (Kac hz hd hq) (show (Cd c).length ≤ 32 from H6 hd)
    simp only [jg, cond_false, jk, Bool.and_true]
    rw [hrun]
    by_cases h0 : l.length = 0
    ·rw [Ba (show ¬ ((ja l : Nat) : Int) > 0 by omega)]
     rw [show Eg l c.2.2.2.1 = true by unfold Eg; rw [h0]; rfl, show Kf l til = true by unfold Kf; rw [h0]; rfl]
     rfl
    ·obtain ⟨x, hx, hx1⟩ := QU (l := l) (by omega)
     obtain ⟨y, hy, hy1⟩ := PP (l := l) (by omega) (by omega)
     rw [Aa (show ((ja l : Nat) : Int) > 0 by omega), hx, hy]
     simp only [cond_true, jb]
     have e0 : ((l.length : Int) == 0) = false := by simp; intro h; rw [h] at h0; simp at h0
     rw [show Eg l c.2.2.2.1 = !decide (x.1 < c.2.2.2.1) by unfold Eg; rw [e0, hx1]; rfl]
     rw [show Kf l til = !decide (y.1 > til) by
      unfold Kf; rw [e0, hy1]
      rw [Bool.false_or, qx]; simp only [decide_eq_true_eq, Bool.not_eq_true', decide_eq_false_iff_not]; omega]
     cases decide (x.1 < c.2.2.2.1) <;> cases decide (y.1 > til) <;> rfl
def VR (w : Nat → Nat) (t : Nat) : Nat := ((cond (t.testBit 0) (w 0) 0) ||| (cond (t.testBit 1) (w 1) 0)) ||| ((cond (t.testBit 2) (w 2) 0) ||| (cond (t.testBit 3) (w 3) 0))
theorem Xav (w : Nat → Nat) (s t : Nat) : VR w (s ||| t) = VR w s ||| VR w t := by
 apply Nat.eq_of_testBit_eq
 intro i
 simp only [VR, Nat.testBit_or]
 cases s.testBit 0 <;> cases s.testBit 1 <;> cases s.testBit 2 <;> cases s.testBit 3 <;> cases t.testBit 0 <;> cases t.testBit 1 <;> cases t.testBit 2 <;> cases t.testBit 3 <;>
  simp only [Bool.or_true, Bool.true_or, Bool.or_false, Bool.false_or, cond_true, cond_false, Nat.zero_testBit] <;>
  cases (w 0).testBit i <;> cases (w 1).testBit i <;> cases (w 2).testBit i <;> cases (w 3).testBit i <;> rfl
def tri (i j : Nat) : Nat := if i ≤ j then j * (j + 1) / 2 + i else i * (i + 1) / 2 + j
def CI (e i j : Nat) : Bool := e.testBit (tri i j)
def CZ (e s t : Nat) : Bool :=
 (s.testBit 0 && (t.testBit 0 && CI e 0 0 || t.testBit 1 && CI e 0 1 || (t.testBit 2 && CI e 0 2 || t.testBit 3 && CI e 0 3)) || s.testBit 1 && (t.testBit 0 && CI e 1 0 || t.testBit 1 && CI e 1 1 || (t.testBit 2 && CI e 1 2 || t.testBit 3 && CI e 1 3))) ||
 (s.testBit 2 && (t.testBit 0 && CI e 2 0 || t.testBit 1 && CI e 2 1 || (t.testBit 2 && CI e 2 2 || t.testBit 3 && CI e 2 3)) || s.testBit 3 && (t.testBit 0 && CI e 3 0 || t.testBit 1 && CI e 3 1 || (t.testBit 2 && CI e 3 2 || t.testBit 3 && CI e 3 3)))
def War (e a b s : Nat) : Nat := cond (CZ e (rowN 4 s a) (rowN 4 s b)) (s ||| rowN 4 s b <<< (a * 4)) s
def a3 (e a : Nat) : Nat → Nat → Nat := fun b s => War e a b s
def a2 (e R : Nat) : Nat → Nat → Nat := fun a s => Ue (a3 e a) R s
def a1 (e R : Nat) : Nat → Nat → Nat := fun _ s => Ue (a2 e R) R s
def CV (e R : Nat) : Nat := Ue (a1 e R) R 33825
def ZO (e R s : Nat) : Bool := (List.range R).all fun a => (List.range R).all fun b => !CZ e (rowN 4 s a) (rowN 4 s b) || (rowN 4 s a ||| rowN 4 s b == rowN 4 s a)
theorem HaE : ∀ e : Fin 2, ZO e.val 1 (CV e.val 1) = true := by decide +kernel
theorem IaE : ∀ e : Fin 8, ZO e.val 2 (CV e.val 2) = true := by decide +kernel
theorem JaE : ∀ e : Fin 64, ZO e.val 3 (CV e.val 3) = true := by decide +kernel
theorem KaE : ∀ e : Fin 1024, ZO e.val 4 (CV e.val 4) = true := by decide +kernel
theorem Jaq {e R : Nat} (he : e < 2 ^ (R * (R + 1) / 2)) (h1 : 1 ≤ R) (h4 : R ≤ 4) : ZO e R (CV e R) = true := by
 have : R = 1 ∨ R = 2 ∨ R = 3 ∨ R = 4 := by omega
 rcases this with rfl | rfl | rfl | rfl
 ·exact HaE ⟨e, he⟩
 ·exact IaE ⟨e, he⟩
 ·exact JaE ⟨e, he⟩
 ·exact KaE ⟨e, he⟩
theorem WT (x y : Nat) : (x &&& y != 0) = true ↔ ∃ k, x.testBit k = true ∧ y.testBit k = true := by
 rw [bne_iff_ne]
 constructor
 ·intro h
  obtain ⟨k, hk⟩ := Nat.exists_testBit_of_ne_zero h
  rw [Nat.testBit_and, jd] at hk
  exact ⟨k, hk⟩
 ·rintro ⟨k, h1, h2⟩ h0
  have : (x &&& y).testBit k = true := by rw [Nat.testBit_and, h1, h2]; rfl
  rw [h0, Nat.zero_testBit] at this
  exact absurd this (by decide)
theorem KZ (w : Nat → Nat) (t k : Nat) : (VR w t).testBit k = true ↔ ∃ i, i < 4 ∧ t.testBit i = true ∧ (w i).testBit k = true := by
 have e : (VR w t).testBit k = ((t.testBit 0 && (w 0).testBit k || t.testBit 1 && (w 1).testBit k) || (t.testBit 2 && (w 2).testBit k || t.testBit 3 && (w 3).testBit k)) := by
  simp only [VR, Nat.testBit_or]
  cases t.testBit 0 <;> cases t.testBit 1 <;> cases t.testBit 2 <;> cases t.testBit 3 <;> simp
 rw [e]
 simp only [Bool.or_eq_true, jd]
 constructor
 ·rintro ((h | h) | (h | h))
  ·exact ⟨0, by omega, h⟩
  ·exact ⟨1, by omega, h⟩
  ·exact ⟨2, by omega, h⟩
  ·exact ⟨3, by omega, h⟩
 ·rintro ⟨i, hi, h⟩
  have : i = 0 ∨ i = 1 ∨ i = 2 ∨ i = 3 := by omega
  rcases this with rfl | rfl | rfl | rfl
  ·exact .inl (.inl h)
  ·exact .inl (.inr h)
  ·exact .inr (.inl h)
  ·exact .inr (.inr h)
theorem Yau (e s t : Nat) : CZ e s t = true ↔ ∃ i j, i < 4 ∧ j < 4 ∧ s.testBit i = true ∧ t.testBit j = true ∧ CI e i j = true := by
 have h4 : ∀ p : Nat → Prop, (∃ i, i < 4 ∧ p i) ↔ ((p 0 ∨ p 1) ∨ (p 2 ∨ p 3)) := by
  intro p
  constructor
  ·rintro ⟨i, hi, h⟩
   have : i = 0 ∨ i = 1 ∨ i = 2 ∨ i = 3 := by omega
   rcases this with rfl | rfl | rfl | rfl
   ·exact .inl (.inl h)
   ·exact .inl (.inr h)
   ·exact .inr (.inl h)
   ·exact .inr (.inr h)
  ·rintro ((h | h) | (h | h))
   ·exact ⟨0, by omega, h⟩
   ·exact ⟨1, by omega, h⟩
   ·exact ⟨2, by omega, h⟩
   ·exact ⟨3, by omega, h⟩
 have h5 : (∃ i j, i < 4 ∧ j < 4 ∧ s.testBit i = true ∧ t.testBit j = true ∧ CI e i j = true) ↔ ∃ i, i < 4 ∧ (s.testBit i = true ∧ ∃ j, j < 4 ∧ (t.testBit j = true ∧ CI e i j = true)) := by
  constructor
  ·rintro ⟨i, j, a, b, c, d, f⟩; exact ⟨i, a, c, j, b, d, f⟩
  ·rintro ⟨i, a, c, j, b, d, f⟩; exact ⟨i, j, a, b, c, d, f⟩
 rw [h5, h4]
 simp only [h4]
 simp only [CZ, Bool.or_eq_true, jd]
def Gv (w : Nat → Nat) : Nat :=
 ((cond (w 0 &&& w 0 != 0) 1 0) ||| (cond (w 0 &&& w 1 != 0) 2 0) ||| (cond (w 1 &&& w 1 != 0) 4 0) ||| (cond (w 0 &&& w 2 != 0) 8 0) ||| (cond (w 1 &&& w 2 != 0) 16 0)) |||
 ((cond (w 2 &&& w 2 != 0) 32 0) ||| (cond (w 0 &&& w 3 != 0) 64 0) ||| (cond (w 1 &&& w 3 != 0) 128 0) ||| (cond (w 2 &&& w 3 != 0) 256 0) ||| (cond (w 3 &&& w 3 != 0) 512 0))
theorem A4 (w : Nat → Nat) : ∀ i j, i < 4 → j < 4 → CI (Gv w) i j = (w i &&& w j != 0) := by
 have hc : ∀ i j, (w i &&& w j != 0) = (w j &&& w i != 0) := fun i j => by rw [Nat.and_comm]
 have key : ∀ b0 b1 b2 b3 b4 b5 b6 b7 b8 b9 : Bool,
  (let e := ((cond b0 1 0) ||| (cond b1 2 0) ||| (cond b2 4 0) ||| (cond b3 8 0) ||| (cond b4 16 0)) |||
 ((cond b5 32 0) ||| (cond b6 64 0) ||| (cond b7 128 0) ||| (cond b8 256 0) ||| (cond b9 512 0))
  e.testBit 0 = b0 ∧ e.testBit 1 = b1 ∧ e.testBit 2 = b2 ∧ e.testBit 3 = b3 ∧ e.testBit 4 = b4 ∧ e.testBit 5 = b5 ∧ e.testBit 6 = b6 ∧ e.testBit 7 = b7 ∧ e.testBit 8 = b8 ∧ e.testBit 9 = b9) := by decide +kernel
 have := key (w 0 &&& w 0 != 0) (w 0 &&& w 1 != 0) (w 1 &&& w 1 != 0) (w 0 &&& w 2 != 0) (w 1 &&& w 2 != 0) (w 2 &&& w 2 != 0) (w 0 &&& w 3 != 0) (w 1 &&& w 3 != 0) (w 2 &&& w 3 != 0) (w 3 &&& w 3 != 0)
 obtain ⟨h0, h1, h2, h3, h4, h5, h6, h7, h8, h9⟩ := this
 intro i j hi hj
 have i4 : i = 0 ∨ i = 1 ∨ i = 2 ∨ i = 3 := by omega
 have j4 : j = 0 ∨ j = 1 ∨ j = 2 ∨ j = 3 := by omega
 rcases i4 with rfl | rfl | rfl | rfl <;> rcases j4 with rfl | rfl | rfl | rfl
 ·exact h0
 ·exact h1
 ·exact h3
 ·exact h6
 ·rw [hc]; exact h1
 ·exact h2
 ·exact h4
 ·exact h7
 ·rw [hc]; exact h3
 ·rw [hc]; exact h4
 ·exact h5
 ·exact h8
 ·rw [hc]; exact h6
 ·rw [hc]; exact h7
 ·rw [hc]; exact h8
 ·exact h9
theorem Zaw (w : Nat → Nat) {R : Nat} (h1 : 1 ≤ R) (h4 : R ≤ 4) (hw : ∀ i, R ≤ i → w i = 0) : Gv w < 2 ^ (R * (R + 1) / 2) := by
 have k1 : ∀ b : Bool, cond b 1 0 < 2 := by decide
 have k2 : ∀ b0 b1 b2 : Bool, (cond b0 1 0 ||| cond b1 2 0 ||| cond b2 4 0) < 8 := by decide
 have k3 : ∀ b0 b1 b2 b3 b4 b5 : Bool, ((cond b0 1 0 ||| cond b1 2 0 ||| cond b2 4 0 ||| cond b3 8 0 ||| cond b4 16 0) ||| cond b5 32 0) < 64 := by decide +kernel
 have k4 : ∀ b0 b1 b2 b3 b4 b5 b6 b7 b8 b9 : Bool, ((((cond b0 1 0) ||| (cond b1 2 0) ||| (cond b2 4 0) ||| (cond b3 8 0) ||| (cond b4 16 0)) |||  ((cond b5 32 0) ||| (cond b6 64 0) ||| (cond b7 128 0) ||| (cond b8 256 0) ||| (cond b9 512 0))) < 1024) := by decide +kernel
 have : R = 1 ∨ R = 2 ∨ R = 3 ∨ R = 4 := by omega
 rcases this with rfl | rfl | rfl | rfl
 ·have := k1 (w 0 &&& w 0 != 0)
  simpa [Gv, hw 1 (by omega), hw 2 (by omega), hw 3 (by omega)] using this
 ·have := k2 (w 0 &&& w 0 != 0) (w 0 &&& w 1 != 0) (w 1 &&& w 1 != 0)
  simpa [Gv, hw 2 (by omega), hw 3 (by omega)] using this
 ·have := k3 (w 0 &&& w 0 != 0) (w 0 &&& w 1 != 0) (w 1 &&& w 1 != 0) (w 0 &&& w 2 != 0) (w 1 &&& w 2 != 0) (w 2 &&& w 2 != 0)
  simpa [Gv, hw 3 (by omega)] using this
 ·exact k4 _ _ _ _ _ _ _ _ _ _
theorem Q8 (w : Nat → Nat) (s t : Nat) : (VR w s &&& VR w t != 0) = CZ (Gv w) s t := by
 rw [qx, WT, Yau]
 constructor
 ·rintro ⟨k, h1, h2⟩
  obtain ⟨i, hi, a, b⟩ := (KZ w s k).1 h1
  obtain ⟨j, hj, c, d⟩ := (KZ w t k).1 h2
  refine ⟨i, j, hi, hj, a, c, ?_⟩
  rw [A4 w i j hi hj, WT]
  exact ⟨k, b, d⟩
 ·rintro ⟨i, j, hi, hj, a, c, h⟩
  rw [A4 w i j hi hj, WT] at h
  obtain ⟨k, b, d⟩ := h
  exact ⟨k, (KZ w s k).2 ⟨i, hi, a, b⟩, (KZ w t k).2 ⟨j, hj, c, d⟩⟩
def BL (w : Nat → Nat) (C R m s : Nat) : Prop := ∀ r, r < R → rowN C m r = VR w (rowN 4 s r)
theorem VU {S T : Type} {g : Nat → S → S} {h : Nat → T → T} {p : S → T → Prop} {n : Nat} {s0 : S} {t0 : T} (h0 : p s0 t0) (hs : ∀ k s t, k < n → p s t → p (g k s) (h k t)) : ∀ k, k ≤ n → p (Ue g k s0) (Ue h k t0)
 | 0, _ => h0
 | k + 1, hk => hs k _ _ (by omega) (VU h0 hs k (by omega))
theorem Vay {w : Nat → Nat} {C R m s a b : Nat} (ha : a < R) (hb : b < R) (h : BL w C R m s) : BL w C R (Bx C a b m) (War (Gv w) a b s) := by
 unfold Bx War
 rw [h a ha, h b hb, Q8]
 cases CZ (Gv w) (rowN 4 s a) (rowN 4 s b) with
 | false => exact h
 | true =>
  simp only [cond_true]
  intro r hr
  rw [Rae C m a _ r (by rw [← h b hb]; exact KN C m b), Rae 4 s a _ r (KN 4 s b)]
  by_cases e : r = a
  ·rw [if_pos e, if_pos e, Xav, h a ha]
  ·rw [if_neg e, if_neg e, h r hr]
theorem Sa8 {w : Nat → Nat} {C R m s a : Nat} (ha : a < R) (h : BL w C R m s) : BL w C R (Ue (g3 C a) R m) (Ue (a3 (Gv w) a) R s) :=
 VU (p := BL w C R) (g := g3 C a) (h := a3 (Gv w) a) (n := R) h (fun b s t hb h3 => Vay ha hb h3) R (jo R)
theorem Ra8 {w : Nat → Nat} {C R m s : Nat} (h : BL w C R m s) : BL w C R (Ue (g2 C R) R m) (Ue (a2 (Gv w) R) R s) :=
 VU (p := BL w C R) (g := g2 C R) (h := a2 (Gv w) R) (n := R) h (fun a s t ha h3 => Sa8 ha h3) R (jo R)
theorem Qa8 {w : Nat → Nat} {C R m s : Nat} (h : BL w C R m s) : BL w C R (Ue (g1 C R) R m) (Ue (a1 (Gv w) R) R s) :=
 VU (p := BL w C R) (g := g1 C R) (h := a1 (Gv w) R) (n := R) h (fun _ s t _ h3 => Ra8 h3) R (jo R)
def C9 (C R m i : Nat) : Nat := if i < R then rowN C m i else 0
theorem Uay {C R m : Nat} (hR : R ≤ 4) : BL (C9 C R m) C R (Xo C R m) (CV (Gv (C9 C R m)) R) := by
 have h0 : BL (C9 C R m) C R m 33825 := by
  intro r hr
  have : r = 0 ∨ r = 1 ∨ r = 2 ∨ r = 3 := by omega
  have e0 : rowN 4 33825 0 = 1 := by decide
  have e1 : rowN 4 33825 1 = 2 := by decide
  have e2 : rowN 4 33825 2 = 4 := by decide
  have e3 : rowN 4 33825 3 = 8 := by decide
  rcases this with rfl | rfl | rfl | rfl
  ·rw [e0, show rowN C m 0 = C9 C R m 0 from (if_pos hr).symm]; simp [VR, show Nat.testBit 1 1 = false from by decide, show Nat.testBit 1 2 = false from by decide, show Nat.testBit 1 3 = false from by decide]
  ·rw [e1, show rowN C m 1 = C9 C R m 1 from (if_pos hr).symm]; simp [VR, show Nat.testBit 2 0 = false from by decide, show Nat.testBit 2 1 = true from by decide, show Nat.testBit 2 2 = false from by decide, show Nat.testBit 2 3 = false from by decide]
  ·rw [e2, show rowN C m 2 = C9 C R m 2 from (if_pos hr).symm]; simp [VR, show Nat.testBit 4 0 = false from by decide, show Nat.testBit 4 1 = false from by decide, show Nat.testBit 4 2 = true from by decide, show Nat.testBit 4 3 = false from by decide]
  ·rw [e3, show rowN C m 3 = C9 C R m 3 from (if_pos hr).symm]; simp [VR, show Nat.testBit 8 0 = false from by decide, show Nat.testBit 8 1 = false from by decide, show Nat.testBit 8 2 = false from by decide, show Nat.testBit 8 3 = true from by decide]
 unfold Xo CV
 exact Qa8 h0
theorem Oar {C m a x : Nat} (h : rowN C m a ||| x = rowN C m a) : m ||| x <<< (a * C) = m := by
 apply Nat.eq_of_testBit_eq
 intro i
 rw [Nat.testBit_or, Nat.testBit_shiftLeft]
 cases hx : (decide (i ≥ a * C) && x.testBit (i - a * C)) with
 | false => simp
 | true =>
  simp only [jd, decide_eq_true_eq] at hx
  have h1 : (rowN C m a).testBit (i - a * C) = true := by rw [← h, Nat.testBit_or, hx.2]; simp
  rw [AM, jd] at h1
  have h2 := h1.2
  rw [show a * C + (i - a * C) = i by omega] at h2
  rw [h2]; rfl
theorem UU {S : Type} {g : Nat → S → S} {n : Nat} {s : S} (h : ∀ k, k < n → g k s = s) : ∀ k, k ≤ n → Ue g k s = s
 | 0, _ => rfl
 | k + 1, hk => by
  show g k (Ue g k s) = s
  rw [UU h k (by omega)]
  exact h k (by omega)
theorem Hav {C R m : Nat} (h : SI C R) : Xo C R (Xo C R m) = Xo C R m := by
 have hrel := Uay (C := C) (m := m) h.r2
 have hcl := Jaq (Zaw (C9 C R m) h.r1 h.r2 fun i hi => if_neg (by omega)) h.r1 h.r2
 have hst : ∀ a b, a < R → b < R → Bx C a b (Xo C R m) = Xo C R m := by
  intro a b ha hb
  unfold Bx
  cases hc : (rowN C (Xo C R m) a &&& rowN C (Xo C R m) b != 0) with
  | false => rfl
  | true =>
   simp only [cond_true]
   apply Oar
   rw [hrel a ha, hrel b hb] at hc ⊢
   rw [Q8] at hc
   simp only [ZO, List.all_eq_true, List.mem_range, Bool.or_eq_true, Bool.not_eq_true', beq_iff_eq] at hcl
   rcases hcl a ha b hb with h1 | h1
   ·rw [hc] at h1; exact absurd h1 (by decide)
   ·rw [← Xav, h1]
 unfold Xo at hst ⊢
 exact UU (n := R) (fun _ _ => UU (n := R) (fun a ha => UU (n := R) (fun b hb => hst a b ha hb) R (jo R)) R (jo R)) R (jo R)
theorem Yaf {M : Zd} {x : Int} (h : Ad M x = true) : Zi M (Eo M x) = true := by
 unfold Zi
 rw [Iav h, jk, beq_iff_eq]
 obtain ⟨C, R, m, d, rfl, rfl, hd, hm⟩ := XH h
 rw [JN, JN]
 cases d with
 | true => rfl
 | false =>
  show ((Xo C R (Xo C R m) : Nat) : Int) = _
  rw [Hav hd]; rfl
def DI (a b t : Int) (k : Nat) (o : List Ca) : List Ca := cond (Bd a (k : Int) != Bd b (k : Int)) (jf o [(t, (k : Int), Bd b (k : Int) == 1, ())]) o
def PW (a b t : Int) : List Ca := Ue (DI a b t) 32 []
theorem QW (a b t : Int) : ∀ n, (Ue (DI a b t) n []).length ≤ n
 | 0 => jo _
 | n + 1 => by
  have ih := QW a b t n
  show (DI a b t n (Ue (DI a b t) n [])).length ≤ n + 1
  unfold DI at ih ⊢
  cases Bd a (n : Int) != Bd b (n : Int)
  ·simp only [cond_false]; omega
  ·simp only [cond_true]; simp; omega
theorem T4 (a b t : Int) : Fq a b t = some (PW a b t, ()) := by
 have hl := Nh (step := fun x => Vk x.1.1 x.1.2.1 x.1.2.2.1 x.1.2.2.2.1 x.1.2.2.2.2.1) 32 (by omega) (DI a b t) [] (fun o i => ((a, b, t, o, i, ()), ())) (fun o => .inl ((o, ()), ())) (by
  intro k hk
  have hlen := QW a b t k
  simp only [Vk]
  rw [Aa (by omega), Uk a (by omega), Uk b (by omega)]
  simp only [cond_true, jb]
  show _ = some (Sum.inl ((a, b, t, DI a b t k (Ue (DI a b t) k []), _, ()), ()))
  generalize Ue (DI a b t) k [] = o at hlen ⊢
  unfold DI
  have hb : ∀ v : Ca, jx (ja o + ja [v]) Sa = true := fun v => ji (by rw [Be]; simp only [jw, j8]; omega)
  cases Bd a (k : Int) != Bd b (k : Int)
  ·rfl
  ·simp only [cond_true, hb]) (by
  simp only [Vk]
  rw [Ba (by omega)]; rfl)
 unfold Fq Tm
 erw [hl]
 rfl
theorem Aah {a b : Nat} {t : Int} {n : Nat} (ha : a < 2 ^ n) (hb : b < 2 ^ n) (hn : n ≤ 32) : ∀ k, Ue (DI (a : Int) (b : Int) t) (n + k) [] = Ue (DI (a : Int) (b : Int) t) n [] ∨ 32 < n + k
 | 0 => .inl rfl
 | k + 1 => by
  rcases Nat.lt_or_ge 32 (n + (k + 1)) with h | h
  ·exact .inr h
  ·rcases Aah (t := t) ha hb hn k with ih | ih
   ·refine .inl ?_
    show DI (a : Int) (b : Int) t (n + k) (Ue (DI (a : Int) (b : Int) t) (n + k) []) = _
    rw [ih]
    unfold DI
    have XK : n ≤ 62 := by omega
    have h63 : ∀ x : Nat, x < 2 ^ n → x < 2 ^ 63 := fun x hx => ql hx (qm (by omega) (by omega))
    rw [D4 (h63 a ha) (h63 b hb) (by omega), qn]
    rw [Nat.testBit_lt_two_pow (ql ha (qm (by omega) (Nat.le_add_right n k))), Nat.testBit_lt_two_pow (ql hb (qm (by omega) (Nat.le_add_right n k)))]
    rfl
   ·omega
theorem R5 (z : Bc) (b : Bc) (acc : Int) (d : Ob) (n : Nat) (hk : d.2.2.1 = (n : Int)) (hn : n ≤ 24) (x y : Nat) (hx : b.2.1.2.2.2.1 = (x : Int)) (hx2 : x < 2 ^ n) (hy : d.2.2.2.1 = (y : Int)) (hy2 : y < 2 ^ n) :
 Dj (((), (), acc, (), ([] : List Ca), (0 : Int), ()), (b, z, d, ())) = some (.inl (((), (), acc, (), PW b.2.1.2.2.2.1 d.2.2.2.1 b.2.2.2.2.2.1, ()), (b, z, d, ()))) := by
 have h63 : ∀ x : Nat, x < 2 ^ n → x < 2 ^ 63 := fun x hx => ql hx (qm (by omega) (by omega))
 have hl := Nh (step := fun x => Uq x.1.1 x.1.2.1 x.1.2.2.1 x.1.2.2.2.1 x.1.2.2.2.2.1 x.1.2.2.2.2.2.1 x.2.1 x.2.2.1 x.2.2.2.1) n (by omega) (DI b.2.1.2.2.2.1 d.2.2.2.1 b.2.2.2.2.2.1) []
  (fun o i => (((), (), acc, (), o, i, ()), (b, z, d, ()))) (fun o => .inl (((), (), acc, (), o, ()), (b, z, d, ()))) (by
  intro k hk'
  have hlen := QW b.2.1.2.2.2.1 d.2.2.2.1 b.2.2.2.2.2.1 k
  simp only [Uq]
  have e1 : (Wa .i64 (Zb .i64 (Me .i64 d.2.2.2.1 b.2.1.2.2.2.1) (k : Int)) 1 == 1) = (Bd b.2.1.2.2.2.1 (k : Int) != Bd d.2.2.2.1 (k : Int)) := by
   rw [hx, hy, L1 (h63 y hy2) (h63 x hx2) (by omega), D4 (h63 y hy2) (h63 x hx2) (by omega), D4 (h63 x hx2) (h63 y hy2) (by omega), Nat.xor_comm]
  have e2 : Wa .i64 (Zb .i64 d.2.2.2.1 (k : Int)) 1 = Bd d.2.2.2.1 (k : Int) := rfl
  rw [Aa (show (k : Int) < d.2.2.1 by omega), Aa (show (0 : Int) ≤ (k : Int) by omega), e1, e2]
  simp only [cond_true]
  show _ = some (Sum.inl (((), (), acc, (), DI b.2.1.2.2.2.1 d.2.2.2.1 b.2.2.2.2.2.1 k (Ue (DI b.2.1.2.2.2.1 d.2.2.2.1 b.2.2.2.2.2.1) k []), _, ()), _))
  generalize Ue (DI b.2.1.2.2.2.1 d.2.2.2.1 b.2.2.2.2.2.1) k [] = o at hlen ⊢
  unfold DI
  have hb : ∀ v : Ca, jx (ja o + ja [v]) Sa = true := fun v => ji (by rw [Be]; simp only [jw, j8]; omega)
  cases Bd b.2.1.2.2.2.1 (k : Int) != Bd d.2.2.2.1 (k : Int)
  ·rfl
  ·simp only [cond_true, hb]) (by
  simp only [Uq]
  rw [Ba (by omega)]; rfl)
 unfold Dj
 refine hl.trans ?_
 unfold PW
 rw [hx, hy]
 rcases Aah (t := b.2.2.2.2.2.1) hx2 hy2 (by omega) (32 - n) with h | h
 ·rw [show n + (32 - n) = 32 by omega] at h
  rw [h]
 ·omega
noncomputable def NT (b : Bc) (x : Int) : Bool := Pj b && (Ad b.1 x && !decide (b.2.2.2.2.2.1 ≥ 1000000))
def Fv (b : Bc) (x : Int) : Int := Xab b.1 b.2.2.2.2.1 (Eo b.1 x)
def Lm (b : Bc) (x : Int) : Ob := (U1 b.2.1 (Fv b x)).1
def Mt (b : Bc) (x : Int) : Oa × ((List Ca) × (Bool × Unit)) := HJ b.2.2.1 (PW b.2.1.2.2.2.1 (Lm b x).2.2.2.1 b.2.2.2.2.2.1) b.2.2.2.2.2.1
noncomputable def Ux (b : Bc) (x : Int) : Hb × ((List Pe) × (Bool × Unit)) := GK b.2.2.2.1 (Mt b x).2.1 b.2.2.2.2.2.1
noncomputable def Xl (b : Bc) (x : Int) : Bc × ((List Pe) × (Bool × Unit)) :=
 cond (NT b x && ((Mt b x).2.2.1 && (Ux b x).2.2.1))
  ((b.1, Lm b x, (Mt b x).1, (Ux b x).1, Fv b x, j5 .i64 (b.2.2.2.2.2.1 + 1), ()), (Ux b x).2.1, true, ()) (Mo, [], false, ())
structure Lap (b : Bc) (x : Int) : Prop where
 bd : Pj b = true
 msk : Ad b.1 x = true
 old : Ad b.1 b.2.2.2.2.1 = true
 dk : b.2.1.2.2.1 = Dd b.1
 db : Sg b.2.1 = true
 cb : Pd b.2.2.1 = true
 dc : Ff b.2.2.2.1 = true
 t : 0 ≤ b.2.2.2.2.2.1 ∧ b.2.2.2.2.2.1 ≤ 1000000
theorem Daf {b : Bc} {x : Int} (h : Pj b = true) (hm : Ad b.1 x = true) : Lap b x := by
 have hb := h
 simp only [Pj, jd, decide_eq_true_eq, beq_iff_eq] at h
 exact ⟨hb, hm, h.2.2.2.2.2.2.1, h.2.2.2.2.1, h.2.1, h.2.2.1, h.2.2.2.1, h.2.2.2.2.2.2.2.2.1⟩
theorem P3 {b : Bc} {x : Int} (h : Lap b x) : GP b.1 b.2.2.2.2.1 (Eo b.1 x) = true ∧ Ad b.1 (Fv b x) = true ∧ MW b.2.1 (Fv b x) = true := by
 have h1 : GP b.1 b.2.2.2.2.1 (Eo b.1 x) = true := by
  unfold GP
  rw [h.old, Yaf h.msk]; rfl
 have h2 := Yaw h1
 refine ⟨h1, h2, ?_⟩
 unfold MW
 rw [h.db, jk, h.dk]
 have h3 : Ad b.1 (Fv b x) = true := h2
 simp only [Ad, jd] at h3
 exact h3.2
theorem Rac {b : Bc} {x : Int} (h : Lap b x) : U1 b.2.1 (Fv b x) = (Lm b x, true, ()) ∧ Lm b x = (b.2.1.1, b.2.1.2.1, b.2.1.2.2.1, (M6 b.2.1 (Fv b x)).1, Fv b x, (M6 b.2.1 (Fv b x)).2, ()) := by
 have := (P3 h).2.2
 unfold Lm U1
 rw [this]
 exact ⟨rfl, rfl⟩
theorem S1 (c : Oa) (l : List Ca) (til : Int) (hz : Qi c) : (HJ c l til).2.1.length ≤ 64 ∧ Qi (HJ c l til).1 ∧ Ja Nb (HJ c l til).1 ≤ 200 := by
 unfold HJ
 cases h : Hy c l til with
 | false =>
  simp only [cond_false]
  exact ⟨by simp, ⟨by decide, by decide, by decide, fun x hx => by simp [E9] at hx⟩, by decide⟩
 | true =>
  simp only [Hy, jd] at h
  have h1 := Kac (til := til) hz h.1 h.2.2.2.2
  have h2 := E4 64 (VQ c l til) [] h1
  have h3 : (Cd (VQ c l til)).length ≤ 32 := show (Cd c).length ≤ 32 from H6 h.1
  have h4 := h2.1.L
  have h5 := h2.1.len
  have h6 := h2.2.1
  have h7 := h2.2.2
  have h20 : Ea = 1048576 := rfl
  simp only [cond_true]
  refine ⟨by simp at h7; omega, ⟨by omega, by omega, by show (Cd _).length ≤ _; omega, h2.1.r⟩, ?_⟩
  rw [Wag]
  have : (Sf 64 (VQ c l til) []).1.2.2.2.2.2.2.1.length ≤ 96 := by show (Cd _).length ≤ _; omega
  omega
theorem Iat {e : Gb} (h : Bv e) : Ja Xb e ≤ 1000 := by
 have hh := Lp h.hd
 have h2 : Ja (.sl (.sl Yb)) e.2.1 ≤ (16 + 1) * e.2.1.length := IV (e := .sl Yb) (c := 16) fun x hx => by
  have := h.mac x hx
  simp only [Uf, jd, decide_eq_true_eq] at this
  have e2 : Ja (.sl Yb) x = x.length := Em (e := Yb) rfl x
  omega
 have := h.m4
 have hm := Aj h.km
 have h3 : Ja Vb e.1 ≤ 200 := by
  have h1 : Ja Vb e.1 = 0 + (Ja (.sl (.sl Qb)) e.1.2.1 + 0) := rfl
  have h2 : Ja (.sl (.sl Qb)) e.1.2.1 ≤ (32 + 1) * ja e.1.2.1 := IV (e := .sl Qb) (c := 32) fun x hx => by
   obtain ⟨i, hi, rfl⟩ := qt hx
   rw [B6]
   have := hm.row i hi
   have := hm.k2
   omega
  have := hm.l2
  omega
 rw [Cl, Ok]
 omega
theorem J5 : ∀ (n : Nat) (d : Hb) (s : List Pe), DP d → (∀ y ∈ s, y.2.1.2.1.length ≤ 56) → DP (Xf n d s).1 ∧ (Xf n d s).2.length ≤ s.length + 17 * n ∧ (∀ y ∈ (Xf n d s).2, y.2.1.2.1.length ≤ 56)
 | 0, d, s, h, hs => ⟨h, by show s.length ≤ _; omega, hs⟩
 | n + 1, d, s, h, hs => by
  cases hq : d.2.2.1 with
  | nil =>
   have e : Xf (n + 1) d s = (d, s) := by simp only [Xf, hq]
   rw [e]; exact ⟨h, by show s.length ≤ _; omega, hs⟩
  | cons x r =>
   cases hst : Im d x r with
   | none =>
    have e : Xf (n + 1) d s = (d, s) := by simp only [Xf, hq, hst]
    rw [e]; exact ⟨h, by show s.length ≤ _; omega, hs⟩
   | some p =>
    obtain ⟨d', l⟩ := p
    have e : Xf (n + 1) d s = Xf n d' (Sq s d'.2.2.2.2.1 l) := by simp only [Xf, hq, hst]
    have hn := I7 h hq hst
    have ih := J5 n d' (Sq s d'.2.2.2.2.1 l) hn.1 (fun y hy => by
     rcases jl.1 (show y ∈ s ++ _ from hy) with hy | hy
     ·exact hs y hy
     ·obtain ⟨r', hr', rfl⟩ := qu.1 hy
      exact hn.2.2.2 r' hr')
    have e2 := SX s d'.2.2.2.2.1 l
    have h17 := hn.2.2.1
    rw [e]
    exact ⟨ih.1, by omega, ih.2.2⟩
theorem AaN (x : Pe) : Ja Wh x = x.2.1.2.1.length := by
 have h3 : Ja Wh x = Ja Ac x.2.1 := by
  show 0 + (Ja Ac x.2.1 + 0) = _
  omega
 rw [h3, Kaz]
theorem Ray (d : Hb) (l : List Ca) (til : Int) : Ja Dc (GK d l til).1 ≤ 2000 ∧ (GK d l til).2.1.length ≤ 1088 ∧ (∀ y ∈ (GK d l til).2.1, y.2.1.2.1.length ≤ 56) := by
 unfold GK
 cases h : My d l til with
 | false => simp only [cond_false]; exact ⟨by decide, by simp, by simp⟩
 | true =>
  simp only [My, jd] at h
  have h1 := N6 (til := til) h.1 h.2.2.2.2
  have h2 := J5 (Kr d l til).2.2.1.length (Kr d l til) [] h1 (by simp)
  have h64 := h1.len
  simp only [cond_true]
  refine ⟨?_, by have := h2.2.1; simp at this; omega, h2.2.2⟩
  rw [IJ, Dx]
  have h3 := Iat h2.1.eng
  have := h2.1.len
  omega
theorem Fad (b : Bc) (x : Int) (hb : Hk b) : Qt b x = some (Xl b x) := by
 have h20 : Ea = 1048576 := rfl
 unfold Qt Xl NT
 rw [YQ b hb, Wt]
 cases h1 : Pj b with
 | false => rfl
 | true =>
  cases h2 : Ad b.1 x with
  | false => rfl
  | true =>
   have hp := Daf h1 h2
   have ha := P3 hp
   have hd := Rac hp
   simp only [jb, jg, cond_false, jk]
   cases h3 : decide (b.2.2.2.2.2.1 ≥ 1000000) with
   | true => rfl
   | false =>
    rw [A7 h2]
    simp only [jb, cond_false]
    rw [T6, ha.1]
    simp only [jb, cond_true, jg, cond_false]
    show jz (Gm b.2.1 (Fv b x)) _ = _
    rw [Vaf _ _ hb.d, hd.1]
    simp only [jb, jg, cond_false]
    rw [T4]
    simp only [jb]
    have hev := QW b.2.1.2.2.2.1 (Lm b x).2.2.2.1 b.2.2.2.2.2.1 32
    rw [S4 _ _ _ hb.c (by unfold PW; omega)]
    have hcl := S1 b.2.2.1 (PW b.2.1.2.2.2.1 (Lm b x).2.2.2.1 b.2.2.2.2.2.1) b.2.2.2.2.2.1 hb.c
    have e1 : HJ b.2.2.1 (PW b.2.1.2.2.2.1 (Lm b x).2.2.2.1 b.2.2.2.2.2.1) b.2.2.2.2.2.1 = Mt b x := rfl
    rw [e1] at hcl ⊢
    simp only [jb]
    rw [XW _ _ _ hb.x (by omega)]
    have e2 : GK b.2.2.2.1 (Mt b x).2.1 b.2.2.2.2.2.1 = Ux b x := rfl
    rw [e2]
    simp only [jb, qa, jk]
    cases (Mt b x).2.2.1 with
    | false => rfl
    | true => cases (Ux b x).2.2.1 <;> rfl
theorem Uae (b : Bc) (x : Int) (hb : Hk b) : Lu b x = some (Xl b x) := by
 have h20 : Ea = 1048576 := rfl
 unfold Lu Xl NT
 rw [PR b hb, XX]
 cases h1 : Pj b with
 | false => rfl
 | true =>
  cases h2 : Ad b.1 x with
  | false => rfl
  | true =>
   have hp := Daf h1 h2
   have ha := P3 hp
   have hd := Rac hp
   have ht := hp.t
   simp only [jb, jg, cond_false, cond_true, jk]
   rw [show (b.2.2.2.2.2.1 == 1000000) = decide (b.2.2.2.2.2.1 ≥ 1000000) by rw [qx]; simp; omega]
   cases h3 : decide (b.2.2.2.2.2.1 ≥ 1000000) with
   | true => rfl
   | false =>
    simp only [cond_false]
    rw [N7, ha.1]
    simp only [jb, cond_true]
    show jz (Jm b.2.1 (Fv b x)) _ = _
    rw [Zaf _ _ hb.d, hd.1]
    simp only [jb]
    have hdp := Eab hp.db
    have hk := hdp.k2
    have hk1 := hdp.k1
    obtain ⟨p, hp1, hp2⟩ := YS hdp.sh
    obtain ⟨q, hq1, hq2⟩ := YS (Yag hdp (Fv b x)).sh
    have hdo : (Lm b x).2.2.2.1 = (q : Int) := by rw [hd.2]; exact hq1
    have hdk : (Lm b x).2.2.1 = b.2.1.2.2.1 := by rw [hd.2]
    have hsp := R5 Mo b (Fv b x) (Lm b x) b.2.1.2.2.1.toNat (by rw [hdk]; omega) (by omega) p q hp1 hp2 hdo hq2
    have hsp' : Dj (((), (), (Xab b.1 b.2.2.2.2.1 (Eo b.1 x)), (), ([] : List Ca), (0 : Int), ()), (b, Mo, Lm b x, ())) = _ := hsp
    erw [hsp']
    simp only [jb, qk]
    have hev := QW b.2.1.2.2.2.1 (Lm b x).2.2.2.1 b.2.2.2.2.2.1 32
    rw [P5 _ _ _ hb.c (by unfold PW; omega)]
    have hcl := S1 b.2.2.1 (PW b.2.1.2.2.2.1 (Lm b x).2.2.2.1 b.2.2.2.2.2.1) b.2.2.2.2.2.1 hb.c
    have e1 : HJ b.2.2.1 (PW b.2.1.2.2.2.1 (Lm b x).2.2.2.1 b.2.2.2.2.2.1) b.2.2.2.2.2.1 = Mt b x := rfl
    rw [e1] at hcl ⊢
    simp only [jb]
    rw [WX _ _ _ hb.x (by omega)]
    have e2 : GK b.2.2.2.1 (Mt b x).2.1 b.2.2.2.2.2.1 = Ux b x := rfl
    rw [e2]
    simp only [jb, qa, jk]
    cases (Mt b x).2.2.1 with
    | false => rfl
    | true => cases (Ux b x).2.2.1 <;> rfl
theorem Aam (b : Bc) (x : Int) (hb : Hk b) : Hk (Xl b x).1 ∧ Ja Jc (Xl b x).1 ≤ 3000 ∧ (Xl b x).2.1.length ≤ 1088 ∧ (∀ y ∈ (Xl b x).2.1, y.2.1.2.1.length ≤ 56) := by
 have h20 : Ea = 1048576 := rfl
 unfold Xl
 cases h : NT b x && ((Mt b x).2.2.1 && (Ux b x).2.2.1) with
 | false => simp only [cond_false]; exact ⟨⟨by decide, ⟨by decide, by decide, by decide, fun x hx => by simp [Mo] at hx⟩, by decide⟩, by decide, by simp, by simp⟩
 | true =>
  simp only [jd, NT] at h
  have hp := Daf h.1.1 h.1.2.1
  have hd := Rac hp
  have hdp := Eab hp.db
  have hcl := S1 b.2.2.1 (PW b.2.1.2.2.2.1 (Lm b x).2.2.2.1 b.2.2.2.2.2.1) b.2.2.2.2.2.1 hb.c
  have hpl := Ray b.2.2.2.1 (Mt b x).2.1 b.2.2.2.2.2.1
  have hda : (Lm b x).2.2.2.2.2.1.length ≤ 24 := by
   rw [hd.2]
   have h1 := (Yag hdp (Fv b x)).len
   have h2 := hdp.len
   have h3 := hdp.k2
   show (M6 b.2.1 (Fv b x)).2.length ≤ 24
   omega
  simp only [cond_true]
  refine ⟨⟨by show (Lm b x).2.2.2.2.2.1.length ≤ _; omega, hcl.2.1, by show Ja Dc (Ux b x).1 ≤ _; have := hpl.1; unfold Ux; omega⟩, ?_, hpl.2.1, hpl.2.2⟩
  rw [Fac]
  show Ja Lb (Lm b x) + (Ja Nb (Mt b x).1 + Ja Dc (Ux b x).1) ≤ 3000
  rw [Hat]
  have h1 : Ja Nb (Mt b x).1 ≤ 200 := hcl.2.2
  have h2 : Ja Dc (Ux b x).1 ≤ 2000 := hpl.1
  omega
theorem KaJ {l : List Pe} {n : Nat} (h : l.length ≤ n) (hx : ∀ y ∈ l, y.2.1.2.1.length ≤ 56) : Ja (.sl Wh) l ≤ 57 * n := by
 have := IV (e := Wh) (c := 56) (w := l) fun y hy => by rw [AaN]; exact hx y hy
 exact qc this (Nat.mul_le_mul_left _ h)
noncomputable def PV (s : Bc × List Pe) (x : Int) : (Bc × List Pe) ⊕ Unit :=
 cond (Xl s.1 x).2.2.1 (.inl ((Xl s.1 x).1, jf s.2 (Xl s.1 x).2.1)) (.inr ())
noncomputable def EQ (b : Bc) (l : List Int) : Bc × ((List Pe) × (Bool × Unit)) :=
 cond (Pj b && !decide (((ja l : Nat) : Int) > 200)) (match Nc (fun _ s x => PV s x) 0 (b, []) l with | .inl s => (s.1, s.2, true, ()) | .inr _ => (Mo, [], false, ())) (Mo, [], false, ())
structure D1 (k : Nat) (s : Bc × List Pe) : Prop where
 sz : Hk s.1
 len : s.2.length ≤ 1088 * k
 rep : ∀ y ∈ s.2, y.2.1.2.1.length ≤ 56
theorem K7 {k : Nat} {s s' : Bc × List Pe} {x : Int} (h : D1 k s) (hs : PV s x = .inl s') : D1 (k + 1) s' ∧ Ja Jc s'.1 ≤ 3000 := by
 have ht := Aam s.1 x h.sz
 unfold PV at hs
 cases h1 : (Xl s.1 x).2.2.1 with
 | false => rw [h1] at hs; simp at hs
 | true =>
  rw [h1] at hs
  simp only [cond_true, Sum.inl.injEq] at hs
  subst hs
  refine ⟨⟨ht.1, ?_, fun y hy => ?_⟩, ht.2.1⟩
  ·have := h.len
   have e : (jf s.2 (Xl s.1 x).2.1).length = s.2.length + (Xl s.1 x).2.1.length := by simp
   show (jf s.2 (Xl s.1 x).2.1).length ≤ _
   omega
  ·rcases jl.1 (show y ∈ s.2 ++ (Xl s.1 x).2.1 from hy) with hy | hy
   ·exact h.rep y hy
   ·exact ht.2.2.2 y hy
theorem Aad : ∀ (l : List Int) (k : Nat) (s s' : Bc × List Pe), D1 k s → Ja Jc s.1 ≤ Ea → Nc (fun _ s x => PV s x) k s l = .inl s' → D1 (k + l.length) s' ∧ Ja Jc s'.1 ≤ Ea
 | [], k, s, s', h, hz, hs => by
  simp only [Nc, Sum.inl.injEq] at hs
  subst hs; exact ⟨h, hz⟩
 | x :: l, k, s, s', h, hz, hs => by
  have h20 : Ea = 1048576 := rfl
  simp only [Nc] at hs
  revert hs
  cases hg : PV s x with
  | inr u => intro hs; simp at hs
  | inl s1 =>
   intro hs
   have h1 := K7 h hg
   have := Aad l (k + 1) s1 s' h1.1 (by omega) hs
   rw [jw, show k + (l.length + 1) = k + 1 + l.length by omega]
   exact this
theorem Ral {k : Nat} {s : Bc × List Pe} (h : D1 k s) (hk : k < 200) (x : Int) : jx (ja s.2 + ja (Xl s.1 x).2.1) Sa = true := by
 have h1 := h.len
 have h2 := (Aam s.1 x h.sz).2.2.1
 exact ji (by rw [Be]; omega)
theorem Waf (b : Bc) (l : List Int) (hb : Hk b) : Mp b l = some (EQ b l) := by
 unfold Mp EQ
 rw [YQ b hb, MZ b hb]
 cases h1 : Pj b with
 | false => rfl
 | true =>
  by_cases h2 : ((ja l : Nat) : Int) > 200
  ·rw [Aa h2]; rfl
  ·rw [Ba h2]
   simp only [jb, jg, qa, cond_false, cond_true, jk]
   have hl := Ag (step := fun x => Bs x.1.1 x.1.2.1 x.1.2.2.1 x.1.2.2.2.1 x.1.2.2.2.2.1 x.1.2.2.2.2.2.1 x.2.1 x.2.2.1) l (fun _ s x => PV s x)
    (fun s i => (((), (), s.2, l, ((ja l : Nat) : Int), i, ()), (Mo, s.1, ()))) (fun s => .inl (((), (), s.2, ()), (Mo, s.1, ()))) (fun _ => .inr (((), ([] : List Pe), false, ()), (Mo, ())))
    (fun k s => D1 k s) (by
     intro k hk s hs
     refine ⟨?_, fun s' hs' => (K7 hs hs').1⟩
     simp only [Bs]
     rw [Aa (show (k : Int) < ((ja l : Nat) : Int) by omega), Kb hk]
     simp only [cond_true, jb]
     show jz (Qt s.1 l[k]) _ = _
     rw [Fad _ _ hs.sz]
     simp only [jb]
     rw [Ral hs (by omega)]
     unfold PV
     cases (Xl s.1 l[k]).2.2.1 <;> rfl) (by
     intro s hs
     simp only [Bs]
     rw [Ba (by omega)]; rfl) (by omega) (b, []) ⟨hb, by simp, by simp⟩
   unfold Nv
   erw [hl]
   cases Nc (fun _ s x => PV s x) 0 (b, []) l <;> rfl
theorem Aag (b : Bc) (l : List Int) (hb : Hk b) : Wx b l = some (EQ b l) := by
 unfold Wx EQ
 rw [PR b hb, T5 b hb]
 cases h1 : Pj b with
 | false => rfl
 | true =>
  by_cases h2 : ((ja l : Nat) : Int) > 200
  ·rw [Aa h2]; rfl
  ·rw [Ba h2]
   simp only [jb, jg, qa, cond_false, cond_true, jk]
   have hl := Ag (step := fun x => Ws x.1.1 x.1.2.1 x.1.2.2.1 x.1.2.2.2.1 x.1.2.2.2.2.1 x.2.1 x.2.2.1) l (fun _ s x => PV s x)
    (fun s i => ((l, (), s.2, (), i, ()), (Mo, s.1, ()))) (fun s => .inl (((), s.2, (), ()), (Mo, s.1, ()))) (fun _ => .inr (((), ([] : List Pe), false, ()), (Mo, ())))
    (fun k s => D1 k s) (by
     intro k hk s hs
     refine ⟨?_, fun s' hs' => (K7 hs hs').1⟩
     simp only [Ws]
     rw [Aa (show (k : Int) < ((ja l : Nat) : Int) by omega), Kb hk]
     simp only [cond_true, jb]
     show jz (Lu s.1 l[k]) _ = _
     rw [Uae _ _ hs.sz]
     simp only [jb]
     rw [Ral hs (by omega)]
     unfold PV
     cases (Xl s.1 l[k]).2.2.1 <;> rfl) (by
     intro s hs
     simp only [Ws]
     rw [Ba (by omega)]; rfl) (by omega) (b, []) ⟨hb, by simp, by simp⟩
   unfold Kw
   erw [hl]
   cases Nc (fun _ s x => PV s x) 0 (b, []) l <;> rfl
theorem HaJ (b : Bc) (l : List Int) (hb : Hk b) (hz : Ja Jc b ≤ Ea) : Ja Jc (EQ b l).1 ≤ Ea ∧ Ja (.sl Wh) (EQ b l).2.1 ≤ 16 * Ea ∧ Hk (EQ b l).1 := by
 have h20 : Ea = 1048576 := rfl
 have hzero : Hk Mo := ⟨by decide, ⟨by decide, by decide, by decide, fun x hx => by simp [Mo] at hx⟩, by decide⟩
 unfold EQ
 cases h : Pj b && !decide (((ja l : Nat) : Int) > 200) with
 | false => simp only [cond_false]; exact ⟨by decide, by decide, hzero⟩
 | true =>
  simp only [jd, Bool.not_eq_true', decide_eq_false_iff_not] at h
  simp only [cond_true]
  cases hf : Nc (fun _ s x => PV s x) 0 (b, []) l with
  | inr u => exact ⟨(by decide : Ja Jc Mo ≤ Ea), (by decide : Ja (.sl Wh) ([] : List Pe) ≤ 16 * Ea), hzero⟩
  | inl s =>
   have h1 := Aad l 0 (b, []) s ⟨hb, by simp, by simp⟩ hz hf
   refine ⟨h1.2, ?_, h1.1.sz⟩
   have h2 := h1.1.len
   have := KaJ (n := 1088 * 200) (by omega) h1.1.rep
   show Ja (.sl Wh) s.2 ≤ _
   omega
theorem F9 (b : Bc) (l : List Int) (hr : Fm Jc b) (_ : Fm (.sl int) l) (hz : Ja Jc b ≤ Ea) (_ : Ja (.sl int) l ≤ Ea) :
 ∃ w0 w1 w2, Wx b l = some (w0, w1, w2, ()) ∧ Mp b l = some (w0, w1, w2, ()) ∧ Ja Jc w0 ≤ Ea ∧ Ja (.sl Wh) w1 ≤ 16 * Ea := by
 have hb := Dax b hr hz
 have hs := HaJ b l hb hz
 exact ⟨(EQ b l).1, (EQ b l).2.1, (EQ b l).2.2.1, Aag b l hb, Waf b l hb, hs.1, hs.2.1⟩
theorem Xad (a0 : Bc) (a1 : (List Int)) (hr0 : Fm Jc a0) (hr1 : Fm (.sl int) a1) : Um a0 a1 = some (true, ()) := by
 have h20 : Ea = 1048576 := rfl
 have h40 : Zc = 1099511627776 := rfl
 unfold Um
 by_cases l1 : ((ja a1 : Nat) : Int) > 1048576
 ·rw [Aa l1]; rfl
 rw [Ba l1]
 simp only [cond_false]
 have s0 := Yar a0 hr0 (1048576) (by omega)
 rw [show ((1048576 : Nat) : Int) = 1048576 from rfl] at s0
 rw [s0]
 simp only [jb]
 by_cases z0 : Ja Jc a0 ≤ 1048576
 case neg => rw [Vf z0]; rfl
 rw [Mh z0, Ba (by omega)]
 simp only [cond_false]
 have hz0 : Ja Jc a0 ≤ Ea := by omega
 have hz1 : Ja (.sl int) a1 ≤ Ea := by rw [Em (e := int) rfl a1]; omega
 obtain ⟨w0, w1, w2, e1, e2, b0, b1⟩ := F9 a0 a1 hr0 hr1 hz0 hz1
 obtain ⟨x0, k0, g0, i0, m0, n0, _⟩ := JX a0 1 (by omega)
 rw [show ((1 : Nat) : Int) = 1 from rfl] at m0 n0
 have d0 : decide ((k0 : Int) < 0) = false := Ba (by omega)
 obtain ⟨x1, k1, g1, i1, m1, n1, _⟩ := IS a1 k0 (by omega)
 have d1 : decide ((k1 : Int) < 0) = false := Ba (by omega)
 obtain ⟨x2, k2, g2, i2, m2, n2, f2⟩ := JX w0 1 (by omega)
 simp only [kf, true_and, and_true] at f2
 have q2 : ((w0.1, (w0.2.1.1, w0.2.1.2.1, w0.2.1.2.2.1, w0.2.1.2.2.2.1, w0.2.1.2.2.2.2.1, x2.2.1.2.2.2.2.2.1, ()), (x2.2.2.1.1, w0.2.2.1.2.1, x2.2.2.1.2.2.1, w0.2.2.1.2.2.2.1, w0.2.2.1.2.2.2.2.1, w0.2.2.1.2.2.2.2.2.1, x2.2.2.1.2.2.2.2.2.2.1, ()), (((w0.2.2.2.1.1.1.1, x2.2.2.2.1.1.1.2.1, ()), x2.2.2.2.1.1.2.1, w0.2.2.2.1.1.2.2.1, x2.2.2.2.1.1.2.2.2.1, w0.2.2.2.1.1.2.2.2.2), w0.2.2.2.1.2.1, x2.2.2.2.1.2.2.1, w0.2.2.2.1.2.2.2), w0.2.2.2.2) : Bc) = x2 := by simp only [Prod.ext_iff, f2, and_self]
 rw [show ((1 : Nat) : Int) = 1 from rfl] at m2 n2
 have d2 : decide ((k2 : Int) < 0) = false := Ba (by omega)
 obtain ⟨x3, k3, g3, i3, m3, n3, _⟩ := Cae w1 k2 (by omega)
 have d3 : decide ((k3 : Int) < 0) = false := Ba (by omega)
 simp only [e1, e2, Das a0 hz0, K4 a0 (by omega), Z8 a1 hz1, OW a1 (by omega), K4 w0 (by omega), Paq w1 (by omega), m0, d0, m1, d1, q2, m2, d2, n2, m3, d3, n3, jb, bne_self_eq_false', jg, cond_false]
end KF
