/- An evaluator of Go functions on plain data, its soundness, and plain laws on what the functions compute, part 6 (conditions: as each lemma tells). -/
import Derived.Test.YtoncbegnhhcgmaaGreatE
set_option linter.unusedSimpArgs false
set_option linter.unusedVariables false
namespace KF
open Go
open List renaming length → ja, getElem?_eq_getElem → je, append → jf, mem_append → jl, mem_cons → jp, mem_cons_of_mem → jr, length_cons → jw, set → j6, length_nil → j8, length_set → j9, mem_singleton → qe, length_append → qf, getElem?_append_left → qh, getElem?_append_right → qi, getD_eq_getElem?_getD → qj, getElem_mem → qr, mem_of_mem_drop → qs, getElem_of_mem → qt, mem_map → qu, getElem?_set_self → qv, length_drop → qw, mem_cons_self → qy
open Option renaming bind_some → jb, bind → jz, map_some → qd, bind_eq_some_iff → qg
open Option.some renaming injEq → jc
open Bool renaming and_eq_true → jd, not_true → jg, true_and → jk, false_eq_true → jq, not_false → qa, not_eq_true → qb, false_and → qp, eq_iff_iff → qx
open Prod.mk renaming injEq → jh
open Nat renaming ble_eq_true_of_le → ji, mul_le_mul_right → jm, le_refl → jo, zero_add → js, add_assoc → jt, eq_of_beq_eq_true → ju, ble → jx, le_trans → qc, lt_of_lt_of_le → ql, pow_le_pow_right → qm, testBit_xor → qn, testBit_two_pow → qo, xor_lt_two_pow → qq
open Int renaming toNat_natCast → jn, eq_ofNat_of_zero_le → jv, toNat → jy
open Go.IntKind renaming wrap → j5
open Sum renaming elim → j7, elim_inl → qk
open Result renaming andThen_ok → qz
open Sem renaming run_bind → q0
theorem Kab {a : Nat} {k : Nat} (ha : a < 2 ^ 63) (hk : k ≤ 64) : Bd (a : Int) (k : Int) = cond (a.testBit k) 1 0 := by
 have h := Zq ha hk
 rcases Var ha hk with h1 | h1
 ·rw [h1] at h ⊢
  cases ht : a.testBit k with
  | true => rw [ht] at h; exact absurd h (by decide)
  | false => rfl
 ·rw [h1] at h ⊢
  cases ht : a.testBit k with
  | true => rfl
  | false => rw [ht] at h; exact absurd h (by decide)
theorem G3 {a b k : Nat} (ha : a < 2 ^ 63) (hb : b < 2 ^ 63) (hk : k ≤ 64) : (Bd (a : Int) (k : Int) != Bd (b : Int) (k : Int)) = (a ^^^ b).testBit k := by
 rw [Kab ha hk, Kab hb hk, qn]
 cases a.testBit k <;> cases b.testBit k <;> rfl
theorem J0 {a b k : Nat} (ha : a < 2 ^ 63) (hb : b < 2 ^ 63) (hk : k ≤ 64) : (Wa .i64 (Yb .i64 (Me .i64 (a : Int) (b : Int)) (k : Int)) 1 == 1) = (Bd (a : Int) (k : Int) != Bd (b : Int) (k : Int)) := by
 rw [G3 ha hb hk, ZK ha hb]
 exact Zq (qq ha hb) hk
def Kap (d : Ob) (raw : Int) (k : Nat) (x : Int) : Int :=
 cond ((d.1 == 0) && (Bd raw (k : Int) != Bd d.2.2.2.2.1 (k : Int))) 1 (cond ((d.1 == 1) && (raw != d.2.2.2.2.1)) 1 (min (j5 .i64 (x + 1)) 99))
def Xab (d : Ob) (raw : Int) (k : Nat) (x : Int) : Bool := decide (Kap d raw k x ≥ d.2.1) && (Bd raw (k : Int) != Bd d.2.2.2.1 (k : Int))
def TG (d : Ob) (raw : Int) (k : Nat) (s : Int × List Int) (x : Int) : Int × List Int :=
 (cond (Xab d raw k x) (Me .i64 s.1 (Sa .i64 1 (k : Int))) s.1, jf s.2 [cond (Xab d raw k x && (d.1 == 2)) 0 (Kap d raw k x)])
def U5 (d : Ob) (raw : Int) : Int × List Int := Jd (fun k s x => TG d raw k s x) 0 (d.2.2.2.1, []) d.2.2.2.2.2.1
def SU : Ob := ((0 : Int), (0 : Int), (0 : Int), (0 : Int), (0 : Int), ([] : List Int), ())
def SV (d : Ob) (raw : Int) : Bool := Qg d && Ff d.2.2.1 raw
def U0 (d : Ob) (raw : Int) : Ob × (Bool × Unit) := cond (SV d raw) ((d.1, d.2.1, d.2.2.1, (U5 d raw).1, raw, (U5 d raw).2, ()), true, ()) (SU, false, ())
structure Dal (d : Ob) : Prop where
 k1 : 1 ≤ d.2.2.1
 k2 : d.2.2.1 ≤ 24
 len : ((ja d.2.2.2.2.2.1 : Nat) : Int) = d.2.2.1
 sh : Ff d.2.2.1 d.2.2.2.1 = true
 la : Ff d.2.2.1 d.2.2.2.2.1 = true
theorem Laa {d : Ob} (h : Qg d = true) : Dal d := by
 simp only [Qg, jd, decide_eq_true_eq, beq_iff_eq] at h
 exact ⟨h.2.2.1.1, h.2.2.1.2, h.2.2.2.1, h.2.2.2.2.1, h.2.2.2.2.2.1⟩
theorem FS {k x : Int} (h : Ff k x = true) : ∃ n : Nat, x = (n : Int) ∧ n < 2 ^ k.toNat := by
 simp only [Ff, decide_eq_true_eq] at h
 obtain ⟨n, rfl⟩ := jv h.1
 exact ⟨n, rfl, by exact_mod_cast h.2⟩
theorem P4 {k : Int} {n : Nat} (hk : k ≤ 24) (h : n < 2 ^ k.toNat) : n < 2 ^ 63 :=
 ql h (qm (by omega) (by omega))
theorem P8 (d : Ob) (raw : Int) (k : Nat) (hk : k < d.2.2.2.2.2.1.length) (s : Int × List Int) (hs : s.2.length = k) (hn : d.2.2.2.2.2.1.length ≤ 24) :
 Ui raw () () () d.2.2.2.2.2.1 ((ja d.2.2.2.2.2.1 : Nat) : Int) (k : Int) d SU (d.1, d.2.1, d.2.2.1, s.1, d.2.2.2.2.1, s.2, ()) =
  some (.inl ((raw, (), (), (), d.2.2.2.2.2.1, ((ja d.2.2.2.2.2.1 : Nat) : Int), j5 .i64 ((k : Int) + 1), ()), (d, SU, (d.1, d.2.1, d.2.2.1, (TG d raw k s d.2.2.2.2.2.1[k]).1, d.2.2.2.2.1, (TG d raw k s d.2.2.2.2.2.1[k]).2, ()), ()))) := by
 have hb : ∀ x : Int, jx (ja s.2 + ja ([x] : List Int)) Ta = true := fun x => ji (by rw [Ee]; simp only [jw, j8]; omega)
 have hbit : ∀ m : Int, Le m (k : Int) = some (Bd m (k : Int), ()) := fun m => Ok m (by omega)
 unfold Ui
 rw [Aa (show (k : Int) < ((ja d.2.2.2.2.2.1 : Nat) : Int) by omega), Mb hk, Aa (show (0 : Int) ≤ (k : Int) by omega)]
 simp only [cond_true, jb, hb, hbit]
 unfold TG Xab Kap
 generalize d.2.2.2.2.2.1[k] = x
 cases d.1 == 0 <;> (try simp only [cond_true, cond_false, jk, qp]) <;>
  cases Bd raw (k : Int) != Bd d.2.2.2.2.1 (k : Int) <;> (try simp only [cond_true, cond_false]) <;>
  cases d.1 == 1 <;> (try simp only [cond_true, cond_false, jk, qp]) <;>
  cases raw != d.2.2.2.2.1 <;> (try simp only [cond_true, cond_false]) <;>
  cases decide ((1 : Int) ≥ d.2.1) <;> (try simp only [cond_true, cond_false, jk, qp]) <;>
  cases decide (min (j5 .i64 (x + 1)) 99 ≥ d.2.1) <;> (try simp only [cond_true, cond_false, jk, qp]) <;>
  cases Bd raw (k : Int) != Bd d.2.2.2.1 (k : Int) <;> (try simp only [cond_true, cond_false, jk, qp]) <;>
  cases d.1 == 2 <;> rfl
theorem C9 (d : Ob) (hd : Dal d) (raw : Int) (hraw : Ff d.2.2.1 raw = true) (k : Nat) (hk : k < d.2.2.2.2.2.1.length) (s : Int × List Int) (hs : s.2.length = k) :
 Cj raw () () () (k : Int) d SU (d.1, d.2.1, d.2.2.1, s.1, d.2.2.2.2.1, s.2, ()) =
  some (.inl ((raw, (), (), (), j5 .i64 ((k : Int) + 1), ()), (d, SU, (d.1, d.2.1, d.2.2.1, (TG d raw k s d.2.2.2.2.2.1[k]).1, d.2.2.2.2.1, (TG d raw k s d.2.2.2.2.2.1[k]).2, ()), ()))) := by
 have h1 := hd.k2
 have h2 := hd.len
 obtain ⟨r, hr, hr2⟩ := FS hraw
 obtain ⟨a, ha, ha2⟩ := FS hd.sh
 obtain ⟨b, hb', hb2⟩ := FS hd.la
 have e1 : (Wa .i64 (Yb .i64 (Me .i64 raw d.2.2.2.2.1) (k : Int)) 1 == 1) = (Bd raw (k : Int) != Bd d.2.2.2.2.1 (k : Int)) := by
  rw [hr, hb']; exact J0 (P4 h1 hr2) (P4 h1 hb2) (by omega)
 have e2 : (Wa .i64 (Yb .i64 (Me .i64 raw d.2.2.2.1) (k : Int)) 1 == 1) = (Bd raw (k : Int) != Bd d.2.2.2.1 (k : Int)) := by
  rw [hr, ha]; exact J0 (P4 h1 hr2) (P4 h1 ha2) (by omega)
 have hb : ∀ x : Int, jx (ja s.2 + ja ([x] : List Int)) Ta = true := fun x => ji (by rw [Ee]; simp only [jw, j8]; omega)
 have hmin : ∀ x : Int, min (99 : Int) x = min x 99 := fun x => by omega
 unfold Cj
 rw [Aa (show (k : Int) < d.2.2.1 by omega), Mb hk, Aa (show (0 : Int) ≤ (k : Int) by omega)]
 simp only [cond_true, jb, hb, e1, e2, hmin]
 unfold TG Xab Kap
 generalize d.2.2.2.2.2.1[k] = x
 cases d.1 == 0 <;> (try simp only [cond_true, cond_false, jk, qp]) <;>
  cases Bd raw (k : Int) != Bd d.2.2.2.2.1 (k : Int) <;> (try simp only [cond_true, cond_false]) <;>
  cases d.1 == 1 <;> (try simp only [cond_true, cond_false, jk, qp]) <;>
  cases raw != d.2.2.2.2.1 <;> (try simp only [cond_true, cond_false]) <;>
  cases decide ((1 : Int) ≥ d.2.1) <;> (try simp only [cond_true, cond_false, jk, qp]) <;>
  cases decide (min (j5 .i64 (x + 1)) 99 ≥ d.2.1) <;> (try simp only [cond_true, cond_false, jk, qp]) <;>
  cases Bd raw (k : Int) != Bd d.2.2.2.1 (k : Int) <;> (try simp only [cond_true, cond_false, jk, qp]) <;>
  cases d.1 == 2 <;> rfl
structure Waa (d : Ob) (k : Nat) (s : Int × List Int) : Prop where
 len : s.2.length = k
 sh : Ff d.2.2.1 s.1 = true
theorem Gaw {d : Ob} (hd : Dal d) (raw : Int) {k : Nat} (hk : k < d.2.2.2.2.2.1.length) {s : Int × List Int} (hs : Waa d k s) (x : Int) : Waa d (k + 1) (TG d raw k s x) := by
 have h1 := hd.k2
 have h2 := hd.len
 refine ⟨by simp [TG, hs.len], ?_⟩
 obtain ⟨a, ha, ha2⟩ := FS hs.sh
 unfold TG
 cases Xab d raw k x with
 | false => exact hs.sh
 | true =>
  show Ff d.2.2.1 (Me .i64 s.1 (Sa .i64 1 (k : Int))) = true
  rw [ha, Ek (by omega), ZK (P4 h1 ha2) (Ni (by omega))]
  have hk2 : 2 ^ k < 2 ^ d.2.2.1.toNat := Nat.pow_lt_pow_right (by omega) (by omega)
  have := qq ha2 hk2
  simp only [Ff, decide_eq_true_eq]
  exact ⟨by omega, by exact_mod_cast this⟩
theorem Aag {d : Ob} (hd : Dal d) (raw : Int) : Waa d d.2.2.2.2.2.1.length (U5 d raw) := by
 have h : ∀ (l : List Int) (k : Nat) (s : Int × List Int), d.2.2.2.2.2.1.drop k = l → k ≤ d.2.2.2.2.2.1.length → Waa d k s → Waa d d.2.2.2.2.2.1.length (Jd (fun k s x => TG d raw k s x) k s l) := by
  intro l
  induction l with
  | nil =>
   intro k s hl hk hs
   have := PT hl hk
   rw [← this]; exact hs
  | cons y l ih =>
   intro k s hl hk hs
   obtain ⟨hk', hy, hl'⟩ := NM hl
   exact ih (k + 1) _ hl' hk' (Gaw hd raw hk' hs y)
 exact h _ 0 _ rfl (Nat.zero_le _) ⟨rfl, hd.sh⟩
theorem Aaf (d : Ob) (raw : Int) (hn : d.2.2.2.2.2.1.length ≤ Ea) : Zl d raw = some (U0 d raw) := by
 unfold Zl U0 SV
 rw [AK d hn]
 cases hv : Qg d with
 | false => rfl
 | true =>
  have hd := Laa hv
  have h1 := hd.k1
  have h2 := hd.k2
  have h3 := hd.len
  simp only [jb, jg, cond_false, jk]
  rw [Aa (show (0 : Int) ≤ d.2.2.1 by omega), LY (show 0 ≤ d.2.2.1 ∧ d.2.2.1 ≤ 62 by omega)]
  simp only [cond_true]
  by_cases h0 : raw < 0
  ·rw [Aa h0, show Ff d.2.2.1 raw = false by unfold Ff; exact Ba (by omega)]; rfl
  ·by_cases h9 : raw ≥ ((2 ^ d.2.2.1.toNat : Nat) : Int)
   ·rw [Ba h0, Aa h9, show Ff d.2.2.1 raw = false by unfold Ff; exact Ba (by omega)]; rfl
   ·rw [Ba h0, Ba h9, show Ff d.2.2.1 raw = true by unfold Ff; exact Aa (by omega)]
    simp only [cond_false, cond_true]
    have hl := (Pe (step := fun x => Ui x.1.1 x.1.2.1 x.1.2.2.1 x.1.2.2.2.1 x.1.2.2.2.2.1 x.1.2.2.2.2.2.1 x.1.2.2.2.2.2.2.1 x.2.1 x.2.2.1 x.2.2.2.1) d.2.2.2.2.2.1 (fun k s x => TG d raw k s x)
     (fun s i => ((raw, (), (), (), d.2.2.2.2.2.1, ((ja d.2.2.2.2.2.1 : Nat) : Int), i, ()), (d, SU, (d.1, d.2.1, d.2.2.1, s.1, d.2.2.2.2.1, s.2, ()), ())))
     (fun s => .inl ((raw, (), (), ()), (SU, (d.1, d.2.1, d.2.2.1, s.1, d.2.2.2.2.1, s.2, ()), ()))) (fun k s => s.2.length = k) (by
      intro k hk s hs
      exact ⟨P8 d raw k hk s hs (by omega), by simp [TG, hs]⟩) (by
      intro s hs
      simp only [Ui]
      rw [Ba (by omega)]; rfl) (by omega) (d.2.2.2.1, []) rfl).1
    unfold Pn
    erw [hl]
    rfl
theorem Daf (d : Ob) (raw : Int) (hn : d.2.2.2.2.2.1.length ≤ Ea) : Dm d raw = some (U0 d raw) := by
 unfold Dm U0 SV
 rw [HK d hn]
 cases hv : Qg d with
 | false => rfl
 | true =>
  have hd := Laa hv
  have h1 := hd.k1
  have h2 := hd.k2
  have h3 := hd.len
  simp only [jb, jg, cond_false, jk]
  rw [Aa (show (0 : Int) ≤ d.2.2.1 by omega), Vc, BY _ _ (show 0 ≤ d.2.2.1 ∧ d.2.2.1 ≤ 62 by omega)]
  simp only [cond_true, jb]
  cases hraw : Ff d.2.2.1 raw with
  | false => rfl
  | true =>
   simp only [jg, cond_false, cond_true]
   have hl := (Pe (step := fun x => Cj x.1.1 x.1.2.1 x.1.2.2.1 x.1.2.2.2.1 x.1.2.2.2.2.1 x.2.1 x.2.2.1 x.2.2.2.1) d.2.2.2.2.2.1 (fun k s x => TG d raw k s x)
    (fun s i => ((raw, (), (), (), i, ()), (d, SU, (d.1, d.2.1, d.2.2.1, s.1, d.2.2.2.2.1, s.2, ()), ())))
    (fun s => .inl ((raw, (), (), ()), (SU, (d.1, d.2.1, d.2.2.1, s.1, d.2.2.2.2.1, s.2, ()), ()))) (fun k s => s.2.length = k) (by
     intro k hk s hs
     exact ⟨C9 d hd raw hraw k hk s hs, by simp [TG, hs]⟩) (by
     intro s hs
     simp only [Cj]
     rw [Ba (by omega)]; rfl) (by omega) (d.2.2.2.1, []) rfl).1
   unfold Ao
   erw [hl]
   rfl
def Kp (L : List Va) (set : Int) : Bool := !Yd (fun _ (c : Va) => !(Jb .i64 set c.1 == 0)) 0 L
theorem ES (L : List Va) (set : Int) (hn : L.length ≤ Ea) : OE L set = some (Kp L set, ()) := by
 have h20 : Ea = 1048576 := rfl
 have hl := Ye (step := fun x => Dz x.1.1 x.1.2.1 x.1.2.2.1 x.1.2.2.2.1) L (fun _ (c : Va) => !(Jb .i64 set c.1 == 0)) (fun i => ((set, L, ((ja L : Nat) : Int), i, ()), ()))
  (.inl ((), ())) (.inr ((true, ()), ())) (by
   intro k hk
   simp only [Dz]
   rw [Aa (by omega), Mb hk]
   simp only [cond_true, jb]
   cases Jb .i64 set L[k].1 == 0 <;> rfl) (by
   simp only [Dz]
   rw [Ba (by omega)]; rfl) (by omega)
 unfold OE EB Kp
 erw [hl]
 cases Yd (fun _ (c : Va) => !(Jb .i64 set c.1 == 0)) 0 L <;> rfl
theorem SS (L : List Va) (set : Int) (hn : L.length ≤ Ea) : XB L set = some (Kp L set, ()) := by
 have h20 : Ea = 1048576 := rfl
 have hl := Ye (step := fun x => Jw x.1.1 x.1.2.1 x.1.2.2.1) L (fun _ (c : Va) => !(Jb .i64 set c.1 == 0)) (fun i => ((L, set, i, ()), ()))
  (.inl ((), ())) (.inr ((true, ()), ())) (by
   intro k hk
   simp only [Jw]
   rw [Aa (by omega), Mb hk]
   simp only [cond_true, jb]
   cases Jb .i64 set L[k].1 == 0 <;> rfl) (by
   simp only [Jw]
   rw [Ba (by omega)]; rfl) (by omega)
 unfold XB Ky Kp
 erw [hl]
 cases Yd (fun _ (c : Va) => !(Jb .i64 set c.1 == 0)) 0 L <;> rfl
def XZ (set : Int) (s : Int × Bool) (c : Va) : Int × Bool := cond (c.1 == set) (c.2.1, s.2) (cond (Jb .i64 set c.1 == 0) (s.1, true) s)
def Lg (L : List Va) (set : Int) : Int × Bool := Jd (fun _ s c => XZ set s c) 0 (-1, false) L
theorem JN (L : List Va) (set : Int) (hn : L.length ≤ Ea) : Il L set = some ((Lg L set).1, (Lg L set).2, ()) := by
 have h20 : Ea = 1048576 := rfl
 have hl := (Pe (step := fun x => Ko x.1.1 x.1.2.1 x.1.2.2.1 x.1.2.2.2.1 x.1.2.2.2.2.1 x.1.2.2.2.2.2.1) L (fun _ s c => XZ set s c) (fun s i => ((set, s.1, s.2, L, ((ja L : Nat) : Int), i, ()), ()))
  (fun s => .inl ((s.1, s.2, ()), ())) (fun _ _ => True) (by
   intro k hk s _
   refine ⟨?_, trivial⟩
   simp only [Ko]
   rw [Aa (by omega), Mb hk]
   simp only [cond_true, jb]
   unfold XZ
   cases L[k].1 == set <;> cases Jb .i64 set L[k].1 == 0 <;> rfl) (by
   intro s _
   simp only [Ko]
   rw [Ba (by omega)]; rfl) (by omega) (-1, false) trivial).1
 unfold Il Hr Lg
 erw [hl]
 rfl
theorem ON (L : List Va) (set : Int) (hn : L.length ≤ Ea) : FF L set = some ((Lg L set).1, (Lg L set).2, ()) := by
 have h20 : Ea = 1048576 := rfl
 have hl := (Pe (step := fun x => BA x.1.1 x.1.2.1 x.1.2.2.1 x.1.2.2.2.1 x.1.2.2.2.2.1) L (fun _ s c => XZ set s c) (fun s i => ((L, set, s.1, s.2, i, ()), ()))
  (fun s => .inl ((s.1, s.2, ()), ())) (fun _ _ => True) (by
   intro k hk s _
   refine ⟨?_, trivial⟩
   simp only [BA]
   rw [Aa (by omega), Mb hk]
   simp only [cond_true, jb]
   unfold XZ
   rw [show (set == L[k].1) = (L[k].1 == set) by rw [qx, beq_iff_eq, beq_iff_eq]; exact eq_comm]
   cases L[k].1 == set <;> cases Jb .i64 set L[k].1 == 0 <;> rfl) (by
   intro s _
   simp only [BA]
   rw [Ba (by omega)]; rfl) (by omega) (-1, false) trivial).1
 unfold FF ZB Lg
 erw [hl]
 rfl
theorem Zau {L : List Va} (hL : Yg L = true) (set : Int) : (Lg L set).1 = -1 ∨ 24 ≤ (Lg L set).1 ∧ (Lg L set).1 ≤ 31 := by
 have hx : ∀ c ∈ L, 24 ≤ c.2.1 ∧ c.2.1 ≤ 31 := by
  simp only [Yg, jd] at hL
  intro c hc
  obtain ⟨i, hi, rfl⟩ := qt hc
  have := (PA.1 hL.2) i hi
  simp only [Av, jd, decide_eq_true_eq] at this
  omega
 have key : ∀ (l : List Va) (k : Nat) (s : Int × Bool), (∀ c ∈ l, 24 ≤ c.2.1 ∧ c.2.1 ≤ 31) → (s.1 = -1 ∨ 24 ≤ s.1 ∧ s.1 ≤ 31) → ((Jd (fun _ s c => XZ set s c) k s l).1 = -1 ∨ 24 ≤ (Jd (fun _ s c => XZ set s c) k s l).1 ∧ (Jd (fun _ s c => XZ set s c) k s l).1 ≤ 31) := by
  intro l
  induction l with
  | nil => intro k s _ hs; exact hs
  | cons c l ih =>
   intro k s hc hs
   refine ih (k + 1) (XZ set s c) (fun d hd => hc d (by simp [hd])) ?_
   unfold XZ
   cases c.1 == set with
   | true => exact .inr (hc c (by simp))
   | false => cases Jb .i64 set c.1 == 0 <;> exact hs
 exact key L 0 _ hx (.inl rfl)
def KA (x : Ca) : Bool := Gh x && decide (x.2.1 < 24)
theorem GW (x : Ca) : Wk x = some (KA x, ()) := by
 unfold Wk KA
 rw [VI]
 cases Gh x <;> rfl
theorem FX (x : Ca) : Mu x = some (KA x, ()) := by
 unfold Mu KA
 rw [UJ]
 cases Gh x <;> rfl
def LP (L : List Va) (e : Int) (k : Nat) (set : Int) (x : Ca) : Int ⊕ ((Int × Nat × Int) ⊕ (Int × Int × Int)) :=
 cond (KA x) (cond (decide (x.1 ≥ e)) (.inr (.inl (set, k + 1, e))) (cond x.2.2.1
  (cond (Kp L (Oc .i64 set (Sa .i64 1 x.2.1))) (cond (decide ((Lg L (Oc .i64 set (Sa .i64 1 x.2.1))).1 ≥ 0) && !(Lg L (Oc .i64 set (Sa .i64 1 x.2.1))).2)
   (.inr (.inr (((k + 2 : Nat) : Int), x.1, (Lg L (Oc .i64 set (Sa .i64 1 x.2.1))).1))) (.inl (Oc .i64 set (Sa .i64 1 x.2.1))))
   (.inr (.inl (set, k + 1, x.1))))
  (.inr (.inl (set, k + 1, x.1))))) (.inr (.inr (0, 0, -1)))
def KP (L : List Va) (set : Int) (n : Nat) (at_ : Int) : Int × Int × Int := cond (decide ((Lg L set).1 ≥ 0)) ((n : Int), at_, (Lg L set).1) (1, at_, -1)
def Gaq (L : List Va) (e now : Int) (set : Int) (r : List Ca) : Int × Int × Int :=
 match Pc (fun k s x => LP L e k s x) 0 set r with
 | .inl s => cond (decide (now < e)) (0, 0, -1) (KP L s (r.length + 1) e)
 | .inr (.inl b) => KP L b.1 b.2.1 b.2.2
 | .inr (.inr b) => b
def Mi (L : List Va) (term : Int) (q : List Ca) (now : Int) : Int × Int × Int :=
 match q with
 | [] => (0, 0, -1)
 | f :: r => cond (Yg L && (decide (1 ≤ term ∧ term ≤ 200) && (KA f && f.2.2.1)))
  (cond (Kp L (Sa .i64 1 f.2.1)) (Gaq L (j5 .i64 (f.1 + term)) now (Sa .i64 1 f.2.1) r) (1, f.1, -1)) (0, 0, -1)
theorem F5 {x : Ca} (h : KA x = true) : 0 ≤ x.1 ∧ x.1 ≤ 1000000 ∧ 0 ≤ x.2.1 ∧ x.2.1 < 24 := by
 simp only [KA, jd, decide_eq_true_eq] at h
 have := Qj h.1
 omega
theorem Z3 (L : List Va) (term now : Int) (f : Ca) (e : Int) (he : j5 .i64 (f.1 + term) = e) (set : Int) (r : List Ca) (hn : L.length ≤ Ea) (hr : r.length ≤ Ea) :
 Yj ((L, term, now, (), set, e, (1 : Int), true, r, ((ja r : Nat) : Int), (0 : Int), ()), (f, ())) =
  some (match Pc (fun k s x => LP L e k s x) 0 set r with
   | .inl s => .inl ((L, now, s, e, ((r.length + 1 : Nat) : Int), true, ()), ())
   | .inr (.inl b) => .inl ((L, now, b.1, b.2.2, (b.2.1 : Int), false, ()), ())
   | .inr (.inr b) => .inr ((b.1, b.2.1, b.2.2, ()), ())) := by
 have h20 : Ea = 1048576 := rfl
 have hl := NR (step := fun x => Mm x.1.1 x.1.2.1 x.1.2.2.1 x.1.2.2.2.1 x.1.2.2.2.2.1 x.1.2.2.2.2.2.1 x.1.2.2.2.2.2.2.1 x.1.2.2.2.2.2.2.2.1 x.1.2.2.2.2.2.2.2.2.1 x.1.2.2.2.2.2.2.2.2.2.1 x.1.2.2.2.2.2.2.2.2.2.2.1 x.2.1) r (fun k s x => LP L e k s x)
  (fun k s => ((L, term, now, (), s, e, ((k + 1 : Nat) : Int), true, r, ((ja r : Nat) : Int), (k : Int), ()), (f, ())))
  (fun s => .inl ((L, now, s, e, ((r.length + 1 : Nat) : Int), true, ()), ()))
  (fun b => match b with | .inl b => .inl ((L, now, b.1, b.2.2, (b.2.1 : Int), false, ()), ()) | .inr b => .inr ((b.1, b.2.1, b.2.2, ()), ())) (fun _ _ => True) (by
   intro k hk s _
   refine ⟨?_, fun _ _ => trivial⟩
   simp only [Mm]
   rw [Aa (show (k : Int) < ((ja r : Nat) : Int) by omega), Mb hk, he]
   simp only [cond_true, jb]
   rw [GW]
   simp only [jb]
   unfold LP
   generalize r[k] = x
   cases hx : KA x with
   | false => rfl
   | true =>
    have hk' := F5 hx
    rw [Aa hk'.2.2.1, ES _ _ hn, JN _ _ hn, Gc (show k + 1 < _ by omega), Gc (show k < _ by omega)]
    simp only [jg, cond_false, cond_true, jb]
    by_cases h1 : x.1 ≥ e
    ·rw [Aa h1, show min e x.1 = e by omega]; rfl
    ·rw [Ba h1, show min e x.1 = x.1 by omega]
     simp only [cond_false]
     cases x.2.2.1 with
     | false => rfl
     | true =>
      simp only [jg, cond_false, cond_true]
      cases Kp L (Oc .i64 s (Sa .i64 1 x.2.1)) with
      | false => rfl
      | true =>
       simp only [jg, cond_false, cond_true]
       cases decide ((Lg L (Oc .i64 s (Sa .i64 1 x.2.1))).1 ≥ 0) <;> cases (Lg L (Oc .i64 s (Sa .i64 1 x.2.1))).2 <;> rfl) (by
   intro s _
   simp only [Mm]
   rw [Ba (by omega)]; rfl) set trivial
 unfold Yj
 refine hl.trans ?_
 cases Pc (fun k s x => LP L e k s x) 0 set r with
 | inl s => rfl
 | inr b => cases b <;> rfl
theorem Z4 (L : List Va) (now : Int) (f : Ca) (e : Int) (set : Int) (r : List Ca) (hn : L.length ≤ Ea) (hr : r.length ≤ Ea) :
 Rk ((L, f :: r, now, set, e, (1 : Int), e, ()), ()) =
  some (match Pc (fun k s x => LP L e k s x) 0 set r with
   | .inl s => cond (decide (now < e)) (.inr (((0 : Int), (0 : Int), (-1 : Int), ()), ())) (.inl ((L, s, ((r.length + 1 : Nat) : Int), e, ()), ()))
   | .inr (.inl b) => .inl ((L, b.1, (b.2.1 : Int), b.2.2, ()), ())
   | .inr (.inr b) => .inr ((b.1, b.2.1, b.2.2, ()), ())) := by
 have h20 : Ea = 1048576 := rfl
 have hl := NR (step := fun x => So x.1.1 x.1.2.1 x.1.2.2.1 x.1.2.2.2.1 x.1.2.2.2.2.1 x.1.2.2.2.2.2.1 x.1.2.2.2.2.2.2.1) r (fun k s x => LP L e k s x)
  (fun k s => ((L, f :: r, now, s, e, ((k + 1 : Nat) : Int), e, ()), ()))
  (fun s => cond (decide (now < e)) (.inr (((0 : Int), (0 : Int), (-1 : Int), ()), ())) (.inl ((L, s, ((r.length + 1 : Nat) : Int), e, ()), ())))
  (fun b => match b with | .inl b => .inl ((L, b.1, (b.2.1 : Int), b.2.2, ()), ()) | .inr b => .inr ((b.1, b.2.1, b.2.2, ()), ())) (fun _ _ => True) (by
   intro k hk s _
   refine ⟨?_, fun _ _ => trivial⟩
   simp only [So]
   rw [show (((k + 1 : Nat) : Int) == ((ja (f :: r) : Nat) : Int)) = false by simp; omega]
   rw [Mb (show k + 1 < (f :: r).length by simp; omega)]
   simp only [cond_false, jb, List.getElem_cons_succ]
   rw [FX]
   simp only [jb]
   unfold LP
   generalize r[k] = x
   cases hx : KA x with
   | false => rfl
   | true =>
    have hk' := F5 hx
    rw [Aa hk'.2.2.1, SS _ _ hn, ON _ _ hn, Gc (show k + 1 < _ by omega)]
    simp only [jg, cond_false, cond_true, jb]
    cases decide (x.1 ≥ e) with
    | true => rfl
    | false =>
     simp only [cond_false]
     cases x.2.2.1 with
     | false => rfl
     | true =>
      simp only [jg, cond_false, cond_true]
      cases Kp L (Oc .i64 s (Sa .i64 1 x.2.1)) with
      | false => rfl
      | true =>
       simp only [jg, cond_false, cond_true]
       cases decide ((Lg L (Oc .i64 s (Sa .i64 1 x.2.1))).1 ≥ 0) <;> cases (Lg L (Oc .i64 s (Sa .i64 1 x.2.1))).2 <;> rfl) (by
   intro s _
   simp only [So]
   rw [show (((r.length + 1 : Nat) : Int) == ((ja (f :: r) : Nat) : Int)) = true by simp]
   cases decide (now < e) <;> rfl) set trivial
 unfold Rk
 refine hl.trans ?_
 cases Pc (fun k s x => LP L e k s x) 0 set r with
 | inl s => rfl
 | inr b => cases b <;> rfl
theorem Q8 (L : List Va) (term : Int) (q : List Ca) (now : Int) (hn : L.length ≤ Ea) (hq : q.length ≤ Ea) :
 Vy L term q now = some ((Mi L term q now).1, (Mi L term q now).2.1, (Mi L term q now).2.2, ()) := by
 have h20 : Ea = 1048576 := rfl
 unfold Vy Mi
 rw [CP _ hn]
 cases q with
 | nil =>
  cases Yg L <;> simp only [jb, jg, qa, cond_true, cond_false]
  cases decide (term < 1) <;> cases decide (term > 200) <;> rfl
 | cons f r =>
  have hr : r.length ≤ Ea := by simp at hq; omega
  cases Yg L with
  | false => rfl
  | true =>
   simp only [jb, jg, jk, cond_false, Bv]
   cases decide (1 ≤ term ∧ term ≤ 200) with
   | false => rfl
   | true =>
    rw [show (((ja (f :: r) : Nat) : Int) == 0) = false by simp; omega]
    simp only [Kac, jb, GW, cond_false, cond_true, jk]
    cases hf : KA f with
    | false => rfl
    | true =>
     have hk := F5 hf
     cases f.2.2.1 with
     | false => rfl
     | true =>
      have hc : Md (ja (f :: r)) (1 : Int) ((ja (f :: r) : Nat) : Int) = true := Ti (lo := 1) (by simp) (by simp)
      have hc2 : Eb (f :: r) (jy (1 : Int)) (jy ((ja (f :: r) : Nat) : Int)) = r := by
       show List.drop 1 (List.take _ (f :: r)) = r
       rw [jn, List.take_length]; rfl
      rw [Aa hk.2.2.1, ES _ _ hn, hc, hc2]
      simp only [jg, cond_false, cond_true, jb, Bool.and_self, jk]
      cases Kp L (Sa .i64 1 f.2.1) with
      | false => rfl
      | true =>
       simp only [jg, cond_false, cond_true]
       rw [Z3 L term now f _ rfl _ _ hn hr]
       unfold Gaq
       cases Pc (fun k s x => LP L (j5 .i64 (f.1 + term)) k s x) 0 (Sa .i64 1 f.2.1) r with
       | inl s =>
        simp only [jb, qk, cond_true]
        rw [JN _ _ hn]
        unfold KP
        simp only [jb]
        cases decide (now < j5 .i64 (f.1 + term)) <;> cases decide ((Lg L s).1 ≥ 0) <;> rfl
       | inr b =>
        cases b with
        | inl b =>
         simp only [jb, qk, cond_false]
         rw [JN _ _ hn]
         unfold KP
         simp only [jb]
         cases decide ((Lg L b.1).1 ≥ 0) <;> rfl
        | inr b => rfl
theorem D9 (L : List Va) (term : Int) (q : List Ca) (now : Int) (hn : L.length ≤ Ea) (hq : q.length ≤ Ea) :
 Xz L term q now = some ((Mi L term q now).1, (Mi L term q now).2.1, (Mi L term q now).2.2, ()) := by
 have h20 : Ea = 1048576 := rfl
 unfold Xz Mi
 rw [SP _ hn, Vc]
 cases q with
 | nil =>
  cases Yg L <;> simp only [jb, jg, qa, cond_true, cond_false]
  cases decide (1 ≤ term ∧ term ≤ 200) <;> rfl
 | cons f r =>
  have hr : r.length ≤ Ea := by simp at hq; omega
  cases hL : Yg L with
  | false => rfl
  | true =>
   simp only [jb, jg, jk, cond_false]
   cases decide (1 ≤ term ∧ term ≤ 200) with
   | false => rfl
   | true =>
    rw [show (((ja (f :: r) : Nat) : Int) == 0) = false by simp; omega]
    simp only [Kac, jb, FX, cond_false, cond_true, jk, jg]
    cases hf : KA f with
    | false => rfl
    | true =>
     have hk := F5 hf
     cases f.2.2.1 with
     | false => rfl
     | true =>
      rw [Aa hk.2.2.1, SS _ _ hn]
      simp only [jg, cond_false, cond_true, jb, Bool.and_self, jk]
      have hfin : ∀ (s : Int) (n : Nat) (a : Int), (cond (decide ((Lg L s).1 < 0)) (some ((1 : Int), a, (Lg L s).1, ())) (some ((n : Int), a, (Lg L s).1, ()))) = some ((KP L s n a).1, (KP L s n a).2.1, (KP L s n a).2.2, ()) := by
       intro s n a
       unfold KP
       rcases Zau hL s with h | h
       ·rw [h]; rfl
       ·rw [Ba (by omega), Aa (show (Lg L s).1 ≥ 0 by omega)]; rfl
      cases Kp L (Sa .i64 1 f.2.1) with
      | false => rfl
      | true =>
       simp only [jg, cond_false, cond_true]
       rw [Z4 L now f _ _ _ hn hr]
       unfold Gaq
       cases Pc (fun k s x => LP L (j5 .i64 (f.1 + term)) k s x) 0 (Sa .i64 1 f.2.1) r with
       | inl s =>
        cases decide (now < j5 .i64 (f.1 + term)) with
        | true => rfl
        | false =>
         simp only [jb, qk, cond_false]
         rw [ON _ _ hn]
         exact hfin s (r.length + 1) _
       | inr b =>
        cases b with
        | inl b =>
         simp only [jb, qk]
         rw [ON _ _ hn]
         exact hfin b.1 b.2.1 _
        | inr b => rfl
theorem T1 (L : List Va) (term : Int) (f : Ca) (r : List Ca) (now : Int) : ∃ n : Nat, (Mi L term (f :: r) now).1 = (n : Int) ∧ n ≤ r.length + 1 := by
 have key : ∀ (e : Int) (l : List Ca) (k : Nat) (set : Int) (b : (Int × Nat × Int) ⊕ (Int × Int × Int)), Pc (fun k s x => LP L e k s x) k set l = .inr b →
  match b with | .inl b => b.2.1 ≤ k + l.length | .inr b => ∃ n : Nat, b.1 = (n : Int) ∧ n ≤ k + l.length + 1 := by
  intro e l
  induction l with
  | nil => intro k set b h; simp [Pc] at h
  | cons x l ih =>
   intro k set b h
   simp only [Pc] at h
   revert h
   cases hg : LP L e k set x with
   | inl s =>
    intro h
    have := ih (k + 1) s b h
    cases b with
    | inl b => simp only [jw] at this ⊢; omega
    | inr b => obtain ⟨n, h1, h2⟩ := this; exact ⟨n, h1, by simp only [jw]; omega⟩
   | inr r =>
    intro h
    simp only [Sum.inr.injEq] at h
    subst h
    unfold LP at hg
    revert hg
    cases KA x <;> cases decide (x.1 ≥ e) <;> cases x.2.2.1 <;> cases Kp L (Oc .i64 set (Sa .i64 1 x.2.1)) <;> cases (decide ((Lg L (Oc .i64 set (Sa .i64 1 x.2.1))).1 ≥ 0) && !(Lg L (Oc .i64 set (Sa .i64 1 x.2.1))).2) <;>
     (intro hg; cases hg) <;>
     first
      | exact ⟨0, rfl, by omega⟩
      | exact ⟨_, rfl, by simp only [jw]; omega⟩
      | (simp only [jw]; omega)
 have Vh : ∀ s n a, n ≤ r.length + 1 → 1 ≤ n → ∃ m : Nat, (KP L s n a).1 = (m : Int) ∧ m ≤ r.length + 1 := by
  intro s n a hn _
  unfold KP
  cases decide ((Lg L s).1 ≥ 0)
  ·exact ⟨1, rfl, by omega⟩
  ·exact ⟨n, rfl, hn⟩
 simp only [Mi]
 cases Yg L && (decide (1 ≤ term ∧ term ≤ 200) && (KA f && f.2.2.1)) with
 | false => exact ⟨0, rfl, by omega⟩
 | true =>
  cases Kp L (Sa .i64 1 f.2.1) with
  | false => exact ⟨1, rfl, by omega⟩
  | true =>
   simp only [cond_true, Gaq]
   cases h : Pc (fun k s x => LP L (j5 .i64 (f.1 + term)) k s x) 0 (Sa .i64 1 f.2.1) r with
   | inl s =>
    cases decide (now < j5 .i64 (f.1 + term)) with
    | true => exact ⟨0, rfl, by omega⟩
    | false => exact Vh s _ _ (jo _) (by omega)
   | inr b =>
    have := key _ _ _ _ _ h
    cases b with
    | inl b =>
     unfold KP
     simp only at this ⊢
     cases decide ((Lg L b.1).1 ≥ 0)
     ·exact ⟨1, rfl, by omega⟩
     ·exact ⟨b.2.1, rfl, by omega⟩
    | inr b => obtain ⟨n, h1, h2⟩ := this; exact ⟨n, h1, by omega⟩
abbrev Cd (c : Oa) : List Ca := c.2.2.2.2.2.2.1
abbrev Baw (c : Oa) (l : List Ca) : Oa := (c.1, c.2.1, c.2.2.1, c.2.2.2.1, c.2.2.2.2.1, c.2.2.2.2.2.1, l, ())
def woE {α : Type} (l : List α) (i : Nat) : List α := jf (l.take i) (l.drop (i + 1))
def K5 : Ca := (0, 0, false, ())
def HO (l : List Ca) (key : Int) (j : Nat) : List Ca :=
 cond (Jb .i64 (l.getD j K5).2.1 (Sa .i64 1 key) == 0) (woE l j) (l.set j ((l.getD j K5).1, Jb .i64 (l.getD j K5).2.1 (Sa .i64 1 key), false, ()))
def OU (l : List Ca) (at_ : Int) (j : Nat) : List Ca := cond (l.getD j K5).2.2.1 [(at_, (l.getD j K5).1, false, ())] []
def RR (c : Oa) (key : Int) : Int := Ed (fun (a : Ca) => !(Bd a.2.1 key == 0)) 0 (Cd c)
def GF (c : Oa) (key at_ : Int) : Oa × List Ca :=
 if RR c key = -1 then ((c.1, c.2.1, c.2.2.1, c.2.2.2.1, c.2.2.2.2.1, Jb .i64 c.2.2.2.2.2.1 (Sa .i64 1 key), Cd c, ()), [(at_, key, false, ())])
 else (Baw c (HO (Cd c) key (RR c key).toNat), OU (Cd c) at_ (RR c key).toNat)
theorem KY {α : Type} (l : List α) (j : Nat) (hj : j < l.length) (v : α) :
 Eb (l.set j v) (jy (0 : Int)) (jy (j : Int)) = l.take j ∧ Eb (l.set j v) (jy ((j + 1 : Nat) : Int)) (jy ((ja (l.set j v) : Nat) : Int)) = l.drop (j + 1) := by
 constructor
 ·show List.drop 0 (List.take _ (l.set j v)) = _
  rw [jn, List.drop_zero, List.take_set_of_le (jo j)]
 ·show List.drop _ (List.take _ (l.set j v)) = _
  rw [jn, jn, List.take_length, List.drop_set_of_lt (by omega)]
theorem Daq (c : Oa) (key at_ : Int) (hk : 0 ≤ key) (hn : (Cd c).length ≤ Ea) : On c key at_ = some ((GF c key at_).1, ((GF c key at_).2, ())) := by
 have h20 : Ea = 1048576 := rfl
 have hlim := Ee
 have hl := Ux (step := fun x => Gm x.1.1 x.1.2.1 x.1.2.2.1 x.1.2.2.2.1 x.1.2.2.2.2.1 x.2.1) (Cd c) (fun (a : Ca) => !(Bd a.2.1 key == 0)) (fun i => (((), key, at_, ((ja (Cd c) : Nat) : Int), i, ()), (c, ())))
  (.inl (((), key, at_, ()), (c, ()))) (fun i => .inr (((), OU (Cd c) at_ i.toNat, ()), (Baw c (HO (Cd c) key i.toNat), ()))) (by
   intro j hj
   simp only [Gm]
   rw [Aa (show (j : Int) < ((ja (Cd c) : Nat) : Int) by omega), Ig, Aa hj]
   have hg : (Cd c)[jy (j : Int)]? = some (Cd c)[j] := by rw [jn, je hj]
   have hgd : (Cd c).getD j K5 = (Cd c)[j] := by rw [qj, je hj]; rfl
   simp only [hg, cond_true, jb]
   rw [Ok _ hk, Aa hk]
   simp only [jb, cond_true]
   cases hb : Bd (Cd c)[j].2.1 key == 0 with
   | true => rfl
   | false =>
    simp only [cond_false, qa, cond_true]
    have hs2 : ∀ v w : Ca, (((Cd c).set j v).set j w) = (Cd c).set j w := fun v w => List.set_set ..
    have hs3 : ∀ v : Ca, ((Cd c).set j v)[jy (j : Int)]? = some v := fun v => by
     rw [jn, qv (by omega)]
    have ht : ∀ (l : List Ca) (v : Ca), l.set (jy (j : Int)) v = l.set j v := fun l v => by rw [jn]
    simp only [hs2, hs3, ht, jb, Gc (show j < 9223372036854775807 by omega), (KY (Cd c) j hj _).1, (KY (Cd c) j hj _).2]
    have hc1 : ∀ v : Ca, Md (ja ((Cd c).set j v)) 0 (j : Int) = true := fun v => Ti (lo := 0) (by omega) (by rw [j9]; omega)
    have hc2 : ∀ v : Ca, Md (ja ((Cd c).set j v)) ((j + 1 : Nat) : Int) ((ja ((Cd c).set j v) : Nat) : Int) = true := fun v => Ti (by rw [j9]; omega) (jo _)
    have hb1 : jx (ja ([] : List Ca) + ja ((Cd c).take j)) Ta = true := ji (by simp; omega)
    have hb2 : jx (ja (jf ([] : List Ca) ((Cd c).take j)) + ja ((Cd c).drop (j + 1))) Ta = true := ji (by simp; omega)
    simp only [hc1, hc2, hb1, hb2, cond_true, jn]
    unfold HO OU
    rw [hgd]
    generalize hx : (Cd c)[j] = x
    obtain ⟨xo, xl, xd, xu⟩ := x
    cases xd <;> cases Jb .i64 xl (Sa .i64 1 key) == 0 <;> rfl) (by
   simp only [Gm]
   rw [Ba (by omega)]; rfl) (by omega)
 unfold On Yo GF RR
 erw [hl]
 simp only [jb]
 by_cases hc : Ed (fun (a : Ca) => !(Bd a.2.1 key == 0)) 0 (Cd c) = -1
 ·rw [if_pos hc, if_pos hc]
  simp only [qk]
  rw [Aa hk]; rfl
 ·rw [if_neg hc, if_neg hc]; rfl
theorem Vaq (c : Oa) (key at_ : Int) (hk : 0 ≤ key) (hn : (Cd c).length ≤ Ea) : YJ c key at_ = some ((GF c key at_).1, ((GF c key at_).2, ())) := by
 have h20 : Ea = 1048576 := rfl
 have hlim := Ee
 have hl := Ux (step := fun x => JD x.1.1 x.1.2.1 x.1.2.2.1 x.1.2.2.2.1 x.2.1) (Cd c) (fun (a : Ca) => !(Bd a.2.1 key == 0)) (fun i => (((), key, at_, i, ()), (c, ())))
  (.inl (((), key, at_, ()), (c, ()))) (fun i => .inr (((), OU (Cd c) at_ i.toNat, ()), (Baw c (HO (Cd c) key i.toNat), ()))) (by
   intro j hj
   simp only [JD]
   rw [Aa (show (j : Int) < ((ja (Cd c) : Nat) : Int) by omega), Ig, Aa hj]
   have hg : (Cd c)[jy (j : Int)]? = some (Cd c)[j] := by rw [jn, je hj]
   have hgd : (Cd c).getD j K5 = (Cd c)[j] := by rw [qj, je hj]; rfl
   simp only [hg, cond_true, jb]
   rw [Aa hk]
   simp only [jb, cond_true]
   show cond (Bd (Cd c)[j].2.1 key == 0) _ _ = _
   cases hb : Bd (Cd c)[j].2.1 key == 0 with
   | true => rfl
   | false =>
    simp only [cond_false, qa, cond_true]
    have ht : ∀ v : Ca, (Cd c).set (jy (j : Int)) v = (Cd c).set j v := fun v => by rw [jn]
    simp only [ht, jb, Gc (show j < 9223372036854775807 by omega), (KY (Cd c) j hj _).1, (KY (Cd c) j hj _).2]
    have hc1 : ∀ v : Ca, Md (ja ((Cd c).set j v)) 0 (j : Int) = true := fun v => Ti (lo := 0) (by omega) (by rw [j9]; omega)
    have hc2 : ∀ v : Ca, Md (ja ((Cd c).set j v)) ((j + 1 : Nat) : Int) ((ja ((Cd c).set j v) : Nat) : Int) = true := fun v => Ti (by rw [j9]; omega) (jo _)
    have hb1 : jx (ja ([] : List Ca) + ja ((Cd c).take j)) Ta = true := ji (by simp; omega)
    have hb2 : jx (ja (jf ([] : List Ca) ((Cd c).take j)) + ja ((Cd c).drop (j + 1))) Ta = true := ji (by simp; omega)
    have hb3 : ∀ v : Ca, jx (ja ([] : List Ca) + ja [v]) Ta = true := fun v => ji (by rw [hlim]; simp)
    simp only [hc1, hc2, hb1, hb2, hb3, cond_true, jn]
    unfold HO OU
    rw [hgd]
    generalize hx : (Cd c)[j] = x
    obtain ⟨xo, xl, xd, xu⟩ := x
    cases xd <;> cases Jb .i64 xl (Sa .i64 1 key) == 0 <;> rfl) (by
   simp only [JD]
   rw [Ba (Int.lt_irrefl _)]; rfl) (by omega)
 unfold YJ EE GF RR
 erw [hl]
 simp only [jb]
 by_cases hc : Ed (fun (a : Ca) => !(Bd a.2.1 key == 0)) 0 (Cd c) = -1
 ·rw [if_pos hc, if_pos hc]
  simp only [qk]
  rw [Aa hk]; rfl
 ·rw [if_neg hc, if_neg hc]; rfl
theorem MaI (n : Int) : j5 .i64 n ≤ 9223372036854775807 := by
 rw [IntKind.wrap_i64]; omega
theorem Naw (x y : Int) : Jb .i64 x y ≤ 9223372036854775807 := MaI _
theorem I8 (l : List Ca) (at_ : Int) (j : Nat) : (OU l at_ j).length ≤ 1 := by
 unfold OU
 cases (l.getD j K5).2.2.1 <;> simp
theorem XaL (l : List Ca) (key : Int) (j : Nat) (hx : ∀ x ∈ l, x.2.1 ≤ 9223372036854775807) : (HO l key j).length ≤ l.length ∧ ∀ x ∈ HO l key j, x.2.1 ≤ 9223372036854775807 := by
 unfold HO
 cases Jb .i64 (l.getD j K5).2.1 (Sa .i64 1 key) == 0 with
 | true =>
  simp only [cond_true, woE]
  refine ⟨by simp; omega, fun x h => ?_⟩
  rcases jl.1 (show x ∈ l.take j ++ l.drop (j + 1) from h) with h | h
  ·exact hx x (List.mem_of_mem_take h)
  ·exact hx x (qs h)
 | false =>
  simp only [cond_false]
  refine ⟨by simp, fun x h => ?_⟩
  rcases List.mem_or_eq_of_mem_set h with h | h
  ·exact hx x h
  ·rw [h]; exact Naw _ _
structure FR (c : Oa) : Prop where
 len : c.2.2.1.length ≤ 64
 ev : ∀ x ∈ c.2.2.1, 0 ≤ x.2.1
 L : c.1.length ≤ 8
 cb : Yg c.1 = true
 r : ∀ x ∈ Cd c, x.2.1 ≤ 9223372036854775807
def Tw (c : Oa) (x : Ca) (r : List Ca) : Option (Oa × List Ca) :=
 cond x.2.2.1
  (
   let m := Mi c.1 c.2.1 c.2.2.1 c.2.2.2.1
   cond (m.1 == 0) none
    (cond (decide (m.2.2 < 0))
     (some ((c.1, c.2.1, c.2.2.1.drop m.1.toNat, c.2.2.2.1, max (max c.2.2.2.2.1 x.1) m.2.1, Oc .i64 c.2.2.2.2.2.1 (Sa .i64 1 x.2.1), Cd c, ()), [(max (max c.2.2.2.2.1 x.1) m.2.1, x.2.1, true, ())]))
     (some ((c.1, c.2.1, c.2.2.1.drop m.1.toNat, c.2.2.2.1, max (max c.2.2.2.2.1 x.1) m.2.1, c.2.2.2.2.2.1, jf (Cd c) [(m.2.2, BU c.1 m.2.2, true, ())], ()), [(max (max c.2.2.2.2.1 x.1) m.2.1, m.2.2, true, ())]))))
  (some (GF (c.1, c.2.1, r, c.2.2.2.1, max c.2.2.2.2.1 x.1, c.2.2.2.2.2) x.2.1 (max c.2.2.2.2.1 x.1)))
def OaC (c : Oa) : Option (Oa × List Ca) → Oa × ((List Ca) × (Bool × Unit))
 | none => (c, ([], false, ()))
 | some (c', l) => (c', (l, true, ()))
theorem Vab {α : Type} (l : List α) (n : Nat) : Eb l (jy (n : Int)) (jy ((ja l : Nat) : Int)) = l.drop n := by
 show List.drop _ (List.take _ l) = _
 rw [jn, jn, List.take_length]
theorem E6 {c : Oa} {x : Ca} {r : List Ca} (h : FR c) (hq : c.2.2.1 = x :: r) (ha : (Cd c).length ≤ 100000) : Hh c = some (OaC c (Tw c x r)) := by
 have h20 : Ea = 1048576 := rfl
 have hlim := Ee
 have h64 := h.len
 have hl8 := h.L
 have hkx : 0 ≤ x.2.1 := h.ev x (by rw [hq]; simp)
 have hlen : r.length ≤ 64 := by have := h.len; rw [hq] at this; simp at this; omega
 have hc := XO x r hlen
 have i0 : Xe (ja (x :: r)) (0 : Int) = true := by rw [show (0 : Int) = ((0 : Nat) : Int) from rfl, Ig]; exact Aa (by simp)
 have g0 : (x :: r)[(jy (0 : Int))]? = some x := rfl
 have hb : jx (ja ([] : List Ca) + ja r) Ta = true := ji (by simp; omega)
 obtain ⟨cL, ct, q, now, clk, dn, act, u⟩ := c
 cases u
 simp only at hq ha h64 hl8
 have ha' : act.length ≤ 100000 := ha
 subst hq
 unfold Hh Tw
 simp only [i0, g0, hc.1, hc.2, hb, cond_true, jb]
 cases x.2.2.1 with
 | false =>
  simp only [qa, cond_true, cond_false]
  show jz (On (cL, ct, r, now, max clk x.1, dn, act, ()) x.2.1 (max clk x.1)) _ = _
  rw [Daq _ _ _ hkx (by show act.length ≤ Ea; omega)]
  rfl
 | true =>
  simp only [jg, cond_false, cond_true]
  rw [Q8 _ _ _ _ (by omega) (by omega)]
  obtain ⟨n, hn, hn2⟩ := T1 cL ct x r now
  simp only [jb]
  cases hm : (Mi cL ct (x :: r) now).1 == 0 with
  | true => rfl
  | false =>
   simp only [cond_false]
   rw [hn, Vab, jn, Ti (show n ≤ (x :: r).length by simp; omega) (jo _)]
   have hb2 : jx (ja ([] : List Ca) + ja ((x :: r).drop n)) Ta = true := ji (by rw [qw]; simp only [jw, j8] at h64 ⊢; omega)
   rw [hb2, Aa hkx, LQ _ _ (by omega)]
   simp only [cond_true, jb]
   have hb3 : ∀ v : Ca, jx (ja act + ja [v]) Ta = true := fun v => ji (by simp only [jw, j8]; omega)
   simp only [hb3, cond_true]
   cases decide ((Mi cL ct (x :: r) now).2.2 < 0) <;> rfl
theorem S5 {c c' : Oa} {x : Ca} {r : List Ca} {l : List Ca} (h : FR c) (hq : c.2.2.1 = x :: r) (hs : Tw c x r = some (c', l)) :
 FR c' ∧ c'.2.2.1.length < c.2.2.1.length ∧ (Cd c').length ≤ (Cd c).length + 1 ∧ l.length ≤ 1 ∧ c'.2.2.2.1 = c.2.2.2.1 := by
 have h64 := h.len
 have hlen : c.2.2.1.length = r.length + 1 := by rw [hq]; rfl
 unfold Tw at hs
 cases hd : x.2.2.1 with
 | false =>
  rw [hd] at hs
  simp only [cond_false, jc] at hs
  have e1 : c' = (GF (c.1, c.2.1, r, c.2.2.2.1, max c.2.2.2.2.1 x.1, c.2.2.2.2.2) x.2.1 (max c.2.2.2.2.1 x.1)).1 := by rw [hs]
  have e2 : l = (GF (c.1, c.2.1, r, c.2.2.2.1, max c.2.2.2.2.1 x.1, c.2.2.2.2.2) x.2.1 (max c.2.2.2.2.1 x.1)).2 := by rw [hs]
  have hr : ∀ y ∈ r, 0 ≤ y.2.1 := fun y hy => h.ev y (by rw [hq]; simp [hy])
  unfold GF at e1 e2
  split at e1
  ·rename_i hc
   rw [if_pos hc] at e2
   subst e1 e2
   exact ⟨⟨by show r.length ≤ 64; omega, hr, h.L, h.cb, h.r⟩, by show r.length < _; omega, by show (Cd c).length ≤ _; omega, by simp, rfl⟩
  ·rename_i hc
   rw [if_neg hc] at e2
   have hu := XaL (Cd c) x.2.1 (RR (c.1, c.2.1, r, c.2.2.2.1, max c.2.2.2.2.1 x.1, c.2.2.2.2.2) x.2.1).toNat h.r
   subst e1 e2
   refine ⟨⟨by show r.length ≤ 64; omega, hr, h.L, h.cb, hu.2⟩, by show r.length < _; omega, ?_, ?_, rfl⟩
   ·have := hu.1
    show (HO (Cd c) _ _).length ≤ _
    omega
   ·exact I8 _ _ _
 | true =>
  rw [hd] at hs
  simp only [cond_true] at hs
  obtain ⟨n, hn, hn2⟩ := T1 c.1 c.2.1 x r c.2.2.2.1
  rw [hq] at hs
  cases hm : (Mi c.1 c.2.1 (x :: r) c.2.2.2.1).1 == 0 with
  | true => rw [hm] at hs; simp at hs
  | false =>
   have hn0 : n ≠ 0 := by intro h0; rw [hn, h0] at hm; simp at hm
   rw [hm, hn, jn] at hs
   have hdl : ((x :: r).drop n).length < r.length + 1 := by rw [qw]; simp only [jw]; omega
   have hde : ∀ y ∈ (x :: r).drop n, 0 ≤ y.2.1 := fun y hy => h.ev y (by rw [hq]; exact qs hy)
   cases h2 : decide ((Mi c.1 c.2.1 (x :: r) c.2.2.2.1).2.2 < 0) with
   | true =>
    rw [h2] at hs
    simp only [cond_true, cond_false, jc, jh] at hs
    obtain ⟨rfl, rfl⟩ := hs
    exact ⟨⟨by show ((x :: r).drop n).length ≤ 64; omega, hde, h.L, h.cb, h.r⟩, by show ((x :: r).drop n).length < _; omega, by show (Cd c).length ≤ _; omega, by simp, rfl⟩
   | false =>
    rw [h2] at hs
    simp only [cond_false, jc, jh] at hs
    obtain ⟨rfl, rfl⟩ := hs
    refine ⟨⟨by show ((x :: r).drop n).length ≤ 64; omega, hde, h.L, h.cb, fun y hy => ?_⟩, by show ((x :: r).drop n).length < _; omega, by show (jf (Cd c) [_]).length ≤ _; simp, by simp, rfl⟩
    rcases jl.1 (show y ∈ Cd c ++ [_] from hy) with hy | hy
    ·exact h.r y hy
    ·rw [qe.1 hy]
     show BU c.1 _ ≤ _
     unfold BU
     cases hf : (Jj c.1 (Mi c.1 c.2.1 (x :: r) c.2.2.2.1).2.2).isSome with
     | true => have := MT h.cb hf; omega
     | false =>
      have e : Jj c.1 (Mi c.1 c.2.1 (x :: r) c.2.2.2.1).2.2 = none := Option.not_isSome_iff_eq_none.1 (by rw [hf]; simp)
      rw [e]
      decide
def Sf : Nat → Oa → List Ca → Oa × List Ca
 | 0, c, o => (c, o)
 | n + 1, c, o => match c.2.2.1 with
  | [] => (c, o)
  | x :: r => match Tw c x r with
   | none => (c, o)
   | some (c', l) => Sf n c' (jf o l)
theorem YU (z : Oa) : ∀ (n : Nat) (c : Oa) (o : List Ca), FR c → c.2.2.1.length ≤ n → o.length + n ≤ 1000 → (Cd c).length + n ≤ 100000 →
 Kf (((), (), o, ()), (z, c, ())) = some (.inl (((), (), (Sf n c o).2, ()), (z, (Sf n c o).1, ())))
 | n, c, o, h, hl, ho, ha => by
  unfold Kf
  cases hq : c.2.2.1 with
  | nil =>
   have e1 : Sf n c o = (c, o) := by
    cases n with
    | zero => rfl
    | succ n => simp only [Sf, hq]
   have hstep : Bg () () o z c = some (.inr (.inl (((), (), o, ()), (z, c, ())))) := by
    unfold Bg
    rw [Ba (by rw [hq]; simp)]; rfl
   erw [Oe hstep]
   rw [e1]; rfl
  | cons x r =>
   have hlen : c.2.2.1.length = r.length + 1 := by rw [hq]; rfl
   cases n with
   | zero => omega
   | succ n =>
    have e1 : Sf (n + 1) c o = match Tw c x r with
     | none => (c, o)
     | some (c', l) => Sf n c' (jf o l) := by simp only [Sf, hq]
    rw [e1]
    have hp := E6 h hq (by omega)
    cases hst : Tw c x r with
    | none =>
     have hstep : Bg () () o z c = some (.inr (.inl (((), (), o, ()), (z, c, ())))) := by
      unfold Bg
      rw [Aa (by rw [hlen]; omega)]
      show (jz (Hh c) _) = _
      rw [hp, hst]; rfl
     erw [Oe hstep]; rfl
    | some p =>
     obtain ⟨c', l⟩ := p
     have hn := S5 h hq hst
     have hstep : Bg () () o z c = some (.inl (((), (), jf o l, ()), (z, c', ()))) := by
      unfold Bg
      rw [Aa (by rw [hlen]; omega)]
      show (jz (Hh c) _) = _
      rw [hp, hst]
      have hb : jx (ja o + ja l) Ta = true := ji (by rw [Ee]; omega)
      simp only [OaC, jb, jg, cond_false, hb, cond_true]
     erw [Oe hstep]
     have ih := YU z n c' (jf o l) hn.1 (by omega) (by
      have : (jf o l).length = o.length + l.length := by simp
      omega) (by omega)
     unfold Kf at ih
     exact ih
theorem Xa3 (c : Oa) (q : List Ca) (clk : Int) (key at_ : Int) :
 GF (c.1, c.2.1, q, c.2.2.2.1, clk, c.2.2.2.2.2) key at_ = (((GF c key at_).1.1, (GF c key at_).1.2.1, q, (GF c key at_).1.2.2.2.1, clk, (GF c key at_).1.2.2.2.2.2), (GF c key at_).2) := by
 have hi : RR (c.1, c.2.1, q, c.2.2.2.1, clk, c.2.2.2.2.2) key = RR c key := rfl
 unfold GF
 rw [hi]
 by_cases h : RR c key = -1
 ·rw [if_pos h, if_pos h]
 ·rw [if_neg h, if_neg h]
theorem WaL (c : Oa) (key at_ : Int) : (GF c key at_).1.2.2.1 = c.2.2.1 ∧ (GF c key at_).2.length ≤ 1 := by
 unfold GF
 by_cases h : RR c key = -1
 ·rw [if_pos h]; exact ⟨rfl, by simp⟩
 ·rw [if_neg h]; exact ⟨rfl, I8 _ _ _⟩
theorem W6 {c : Oa} {x : Ca} {r : List Ca} (o : List Ca) (h : FR c) (hq : c.2.2.1 = x :: r) (ha : (Cd c).length ≤ 100000) (ho : o.length ≤ 1000) :
 Sq () o c = some (match Tw c x r with
  | none => .inr (.inr (((), o, ()), (c, ())))
  | some (c', l) => .inl (((), jf o l, ()), (c', ()))) := by
 have h20 : Ea = 1048576 := rfl
 have hlim := Ee
 have h64 := h.len
 have hl8 := h.L
 have hkx : 0 ≤ x.2.1 := h.ev x (by rw [hq]; simp)
 have hlen : r.length ≤ 64 := by have := h.len; rw [hq] at this; simp at this; omega
 have hc := XO x r hlen
 have i0 : Xe (ja (x :: r)) (0 : Int) = true := by rw [show (0 : Int) = ((0 : Nat) : Int) from rfl, Ig]; exact Aa (by simp)
 have g0 : (x :: r)[(jy (0 : Int))]? = some x := rfl
 have hb : jx (ja ([] : List Ca) + ja r) Ta = true := ji (by simp; omega)
 have ho1 : ∀ v : Ca, jx (ja o + ja [v]) Ta = true := fun v => ji (by simp only [jw, j8]; omega)
 obtain ⟨cL, ct, q, now, clk, dn, act, u⟩ := c
 cases u
 simp only at hq ha h64 hl8
 have ha' : act.length ≤ 100000 := ha
 subst hq
 unfold Sq Tw
 have hgt : decide (((ja (x :: r) : Nat) : Int) > 0) = true := Aa (by simp only [jw]; omega)
 simp only [hgt, i0, g0, cond_true, jb]
 cases hd : x.2.2.1 with
 | false =>
  simp only [cond_false]
  show jz (YJ (cL, ct, x :: r, now, clk, dn, act, ()) x.2.1 (max clk x.1)) _ = _
  rw [Vaq _ _ _ hkx (by show act.length ≤ Ea; omega)]
  have hu := WaL (cL, ct, x :: r, now, clk, dn, act, ()) x.2.1 (max clk x.1)
  have hu2 := Xa3 (cL, ct, x :: r, now, clk, dn, act, ()) r (max clk x.1) x.2.1 (max clk x.1)
  simp only at hu hu2
  have hb2 : jx (ja o + ja (GF (cL, ct, x :: r, now, clk, dn, act, ()) x.2.1 (max clk x.1)).2) Ta = true := ji (by have := hu.2; omega)
  simp only [jb, hb2, hu.1, hc.1, hc.2, hb, cond_true, hu2]
  rfl
 | true =>
  simp only [cond_true]
  rw [D9 _ _ _ _ (by omega) (by omega)]
  obtain ⟨n, hn, hn2⟩ := T1 cL ct x r now
  simp only [jb]
  cases hm : (Mi cL ct (x :: r) now).1 == 0 with
  | true => rfl
  | false =>
   simp only [cond_false]
   rw [hn, Vab, jn, Ti (show n ≤ (x :: r).length by simp; omega) (jo _)]
   have hb2 : jx (ja ([] : List Ca) + ja ((x :: r).drop n)) Ta = true := ji (by rw [qw]; simp only [jw, j8] at h64 ⊢; omega)
   rw [hb2, Aa hkx, ZQ _ _ (by omega)]
   have hb3 : ∀ v : Ca, jx (ja (jf ([] : List Ca) act) + ja [v]) Ta = true := fun v => ji (by show act.length + _ ≤ Ta; simp only [jw, j8]; omega)
   have hb4 : jx (ja ([] : List Ca) + ja act) Ta = true := ji (by simp only [j8]; omega)
   simp only [hb3, hb4, ho1, cond_true, jb]
   have e1 : decide ((Mi cL ct (x :: r) now).2.2 ≥ 0) = !decide ((Mi cL ct (x :: r) now).2.2 < 0) := by
    rw [qx]; simp only [decide_eq_true_eq, Bool.not_eq_true', decide_eq_false_iff_not]; omega
   rw [e1]
   cases decide ((Mi cL ct (x :: r) now).2.2 < 0) <;> rfl
theorem AV : ∀ (n : Nat) (c : Oa) (o : List Ca), FR c → c.2.2.1.length ≤ n → o.length + n ≤ 1000 → (Cd c).length + n ≤ 100000 →
 Ej (((), o, ()), (c, ())) = some (.inl (((), (Sf n c o).2, ()), ((Sf n c o).1, ()))) ∨ Ej (((), o, ()), (c, ())) = some (.inr (((), (Sf n c o).2, ()), ((Sf n c o).1, ())))
 | n, c, o, h, hl, ho, ha => by
  unfold Ej
  cases hq : c.2.2.1 with
  | nil =>
   have e1 : Sf n c o = (c, o) := by
    cases n with
    | zero => rfl
    | succ n => simp only [Sf, hq]
   have hstep : Sq () o c = some (.inr (.inl (((), o, ()), (c, ())))) := by
    unfold Sq
    rw [Ba (by rw [hq]; simp)]; rfl
   refine .inl ?_
   erw [Oe hstep]
   rw [e1]; rfl
  | cons x r =>
   have hlen : c.2.2.1.length = r.length + 1 := by rw [hq]; rfl
   cases n with
   | zero => omega
   | succ n =>
    have e1 : Sf (n + 1) c o = match Tw c x r with
     | none => (c, o)
     | some (c', l) => Sf n c' (jf o l) := by simp only [Sf, hq]
    rw [e1]
    have hp := W6 o h hq (by omega) (by omega)
    cases hst : Tw c x r with
    | none =>
     rw [hst] at hp
     refine .inr ?_
     erw [Oe hp]; rfl
    | some p =>
     obtain ⟨c', l⟩ := p
     have hn := S5 h hq hst
     rw [hst] at hp
     erw [Oe hp]
     have ih := AV n c' (jf o l) hn.1 (by omega) (by
      have : (jf o l).length = o.length + l.length := by simp
      omega) (by omega)
     unfold Ej at ih
     exact ih
theorem H3 : ∀ (n : Nat) (c : Oa) (o : List Ca), FR c → FR (Sf n c o).1 ∧ (Cd (Sf n c o).1).length ≤ (Cd c).length + n ∧ (Sf n c o).2.length ≤ o.length + n
 | 0, c, o, h => ⟨h, by show (Cd c).length ≤ _; omega, by show o.length ≤ _; omega⟩
 | n + 1, c, o, h => by
  cases hq : c.2.2.1 with
  | nil =>
   have e : Sf (n + 1) c o = (c, o) := by simp only [Sf, hq]
   rw [e]; exact ⟨h, by show (Cd c).length ≤ _; omega, by show o.length ≤ _; omega⟩
  | cons x r =>
   cases hst : Tw c x r with
   | none =>
    have e : Sf (n + 1) c o = (c, o) := by simp only [Sf, hq, hst]
    rw [e]; exact ⟨h, by show (Cd c).length ≤ _; omega, by show o.length ≤ _; omega⟩
   | some p =>
    obtain ⟨c', l⟩ := p
    have e : Sf (n + 1) c o = Sf n c' (jf o l) := by simp only [Sf, hq, hst]
    have hn := S5 h hq hst
    have ih := H3 n c' (jf o l) hn.1
    have e2 : (jf o l).length = o.length + l.length := by simp
    rw [e]
    exact ⟨ih.1, by omega, by omega⟩
def L8 : Oa := (([] : List Va), (0 : Int), ([] : List Ca), (0 : Int), (0 : Int), (0 : Int), ([] : List Ca), ())
def Rx (c : Oa) (l : List Ca) (til : Int) : Bool :=
 Pd c && (decide (c.2.2.2.1 ≤ til ∧ til ≤ 1000000) && (Cg l c.2.2.2.1 && (Hf l til && Fd (jf c.2.2.1 l) (Cl c) 24)))
def GQ (c : Oa) (l : List Ca) (til : Int) : Oa := (c.1, c.2.1, jf c.2.2.1 l, til, c.2.2.2.2)
def SI (c : Oa) (l : List Ca) (til : Int) : Oa × ((List Ca) × (Bool × Unit)) :=
 cond (Rx c l til) ((Sf 64 (GQ c l til) []).1, (Sf 64 (GQ c l til) []).2, true, ()) (L8, [], false, ())
theorem Xat {l : List Ca} (h : ∀ x ∈ l, 0 ≤ x.1 ∧ x.1 ≤ 31) (hp : (l.map fun x => x.1.toNat).Nodup) : l.length ≤ 32 := by
 have := V1 32 (l.map fun x => x.1.toNat) hp (by
  intro y hy
  obtain ⟨x, hx, rfl⟩ := qu.1 hy
  have := h x hx
  omega)
 rwa [List.length_map] at this
theorem J7 {L : List Va} : ∀ {l pre : List Ca}, IE L pre l = true → (∀ x ∈ l, 0 ≤ x.1) → (∀ x ∈ pre, 0 ≤ x.1) → (pre.map fun x => x.1.toNat).Nodup → ((pre ++ l).map fun x => x.1.toNat).Nodup
 | [], pre, _, _, _, hn => by simpa using hn
 | x :: l, pre, h, hx, hpre, hn => by
  simp only [IE, jd] at h
  have hne : QB pre x = true := h.1.2
  have := J7 (l := l) (pre := pre ++ [x]) h.2 (fun y hy => hx y (by simp [hy])) (fun y hy => by
   rcases jl.1 hy with hy | hy
   ·exact hpre y hy
   ·rw [qe.1 hy]; exact hx x (by simp)) (by
   rw [List.map_append, List.nodup_append]
   refine ⟨hn, by simp, ?_⟩
   intro a ha b hb hab
   obtain ⟨y, hy, rfl⟩ := qu.1 ha
   simp only [List.map_cons, List.map_nil, qe] at hb
   subst hb
   have h1 := (G0 (p := fun y : Ca => !(y.1 == x.1))).1 hne y hy
   simp only [Bool.not_eq_true', beq_eq_false_iff_ne] at h1
   have := hpre y hy
   have := hx x (by simp)
   omega)
  simpa using this
theorem P5 {c : Oa} (h : Pd c = true) : (Cd c).length ≤ 32 := by
 have ha := NF h
 refine Xat (fun x hx => ⟨(ha x hx).lo, (ha x hx).hi⟩) ?_
 simp only [Pd, jd] at h
 have := J7 (pre := []) (l := Cd c) h.2.2.2.2.1.2.1 (fun x hx => (ha x hx).lo) (by simp) (by simp)
 simpa using this
theorem Rab {c : Oa} {l : List Ca} {til : Int} (hz : Oi c) (hc : Pd c = true) (hf : Fd (jf c.2.2.1 l) (Cl c) 24 = true) : FR (GQ c l til) := by
 have h1 : Yg c.1 = true := by simp only [Pd, jd] at hc; exact hc.1
 have h2 : c.1.length ≤ 8 := by simp only [Yg, jd, decide_eq_true_eq] at h1; exact h1.1
 refine ⟨TK hf, fun x hx => ?_, h2, h1, hz.r⟩
 have := Qj (RT (Z0 hf) x hx)
 omega
theorem V3 (c : Oa) (l : List Ca) (til : Int) (hz : Oi c) (hl : l.length ≤ 1000000) : Qp c l til = some (SI c l til) := by
 have h20 : Ea = 1048576 := rfl
 have hzq := hz.q
 have hze := hz.e
 have hlapp : (jf c.2.2.1 l).length = c.2.2.1.length + l.length := by simp
 have hlim : jx (ja c.2.2.1 + ja l) Ta = true := ji (by rw [Ee]; omega)
 unfold Qp SI
 rw [OM _ hz, Cs _ _ (by omega), XT _ hz, Ov _ hz.e]
 cases hd : Pd c with
 | false => rw [show Rx c l til = false by unfold Rx; rw [hd]; rfl]; rfl
 | true =>
  have hsw : D5 c = true := by simp only [Pd, jd] at hd; exact hd.2.2.2.2.1.2.2
  have h64 : c.2.2.1.length ≤ 64 := by
   simp only [Pd, jd] at hd
   exact TK hd.2.2.2.2.2.1
  simp only [jb, jg, cond_false, hlim, cond_true, hsw]
  rw [Ds _ _ _ (by rw [hlapp]; omega)]
  simp only [jb]
  have key : ∀ (K : Option (Oa × ((List Ca) × (Bool × Unit)))), (Fd (jf c.2.2.1 l) (Cl c) 24 = true → K = some ((Sf 64 (GQ c l til) []).1, (Sf 64 (GQ c l til) []).2, true, ())) →
   (cond (decide (til < c.2.2.2.1)) (some (L8, [], false, ())) (cond (decide (til > 1000000)) (some (L8, [], false, ())) (cond (!Cg l c.2.2.2.1) (some (L8, [], false, ())) (cond (!Hf l til) (some (L8, [], false, ())) (cond (!Fd (jf c.2.2.1 l) (Cl c) 24) (some (L8, [], false, ())) K))))) =
   some (cond (Rx c l til) ((Sf 64 (GQ c l til) []).1, (Sf 64 (GQ c l til) []).2, true, ()) (L8, [], false, ())) := by
   intro K hK
   unfold Rx
   rw [hd]
   by_cases h1 : til < c.2.2.2.1
   ·rw [Aa h1, Ba (show ¬ (c.2.2.2.1 ≤ til ∧ til ≤ 1000000) by omega)]; rfl
   ·by_cases h2 : til > 1000000
    ·rw [Ba h1, Aa h2, Ba (show ¬ (c.2.2.2.1 ≤ til ∧ til ≤ 1000000) by omega)]; rfl
    ·rw [Ba h1, Ba h2, Aa (show (c.2.2.2.1 ≤ til ∧ til ≤ 1000000) by omega)]
     cases Cg l c.2.2.2.1 with
     | false => rfl
     | true =>
      cases Hf l til with
      | false => rfl
      | true =>
       cases hq : Fd (jf c.2.2.1 l) (Cl c) 24 with
       | false => rfl
       | true => exact hK hq
  have hrun : Fd (jf c.2.2.1 l) (Cl c) 24 = true → ∀ z : Oa, Kf (((), (), ([] : List Ca), ()), (z, (c.1, c.2.1, jf c.2.2.1 l, til, c.2.2.2.2), ())) = some (.inl (((), (), (Sf 64 (GQ c l til) []).2, ()), (z, (Sf 64 (GQ c l til) []).1, ()))) := by
   intro hq z
   have h1 := Rab (til := til) hz hd hq
   have h2 := h1.len
   have h3 := P5 hd
   exact YU z 64 (GQ c l til) [] h1 h2 (by simp) (by show (Cd c).length + 64 ≤ _; omega)
  by_cases h0 : l.length = 0
  ·have hna : Cg l c.2.2.2.1 = true := by unfold Cg; rw [h0]; rfl
   rw [Ba (show ¬ ((ja l : Nat) : Int) > 0 by omega)]
   simp only [cond_false]
   simp only [hna, jg, cond_false] at key
   exact key _ (fun hq => by rw [hrun hq]; rfl)
  ·obtain ⟨x, hx, hx1⟩ := VT (l := l) (by omega)
   have hna : Cg l c.2.2.2.1 = !decide (x.1 < c.2.2.2.1) := by
    unfold Cg
    rw [show ((l.length : Int) == 0) = false by simp; intro h; rw [h] at h0; simp at h0, hx1]; rfl
   rw [Aa (show ((ja l : Nat) : Int) > 0 by omega), hx]
   simp only [cond_true, jb]
   simp only [hna, Bool.not_not] at key
   exact key _ (fun hq => by rw [hrun hq]; rfl)
theorem Y6 (c : Oa) (h : FR c) (ha : (Cd c).length ≤ 32) : Xx c = some ((Sf 64 c []).1, ((Sf 64 c []).2, ())) := by
 unfold Xx
 rcases AV 64 c [] h h.len (by simp) (by omega) with h1 | h1 <;> (rw [h1]; rfl)
theorem T4 (c : Oa) (l : List Ca) (til : Int) (hz : Oi c) (hl : l.length ≤ 1000000) : Mq c l til = some (SI c l til) := by
 have h20 : Ea = 1048576 := rfl
 have hzq := hz.q
 have hze := hz.e
 have hlapp : (jf c.2.2.1 l).length = c.2.2.1.length + l.length := by simp
 have hn : jf ([] : List Ca) c.2.2.1 = c.2.2.1 := rfl
 have hlim : jx (ja c.2.2.1 + ja l) Ta = true := ji (by rw [Ee]; omega)
 have hlim2 : jx (ja ([] : List Ca) + ja c.2.2.1) Ta = true := ji (by rw [Ee]; simp; omega)
 unfold Mq SI
 rw [hn, hlim, hlim2, AN _ hz, Vc, Y4 _ hz, XJ _ hz.e]
 simp only [cond_true]
 cases hd : Pd c with
 | false => rw [show Rx c l til = false by unfold Rx; rw [hd]; rfl]; rfl
 | true =>
  have h64 : c.2.2.1.length ≤ 64 := by
   simp only [Pd, jd] at hd
   exact TK hd.2.2.2.2.2.1
  simp only [jb, jg, cond_false]
  rw [Qq _ _ _ (by rw [hlapp]; omega)]
  simp only [jb]
  unfold Rx
  rw [hd]
  cases decide (c.2.2.2.1 ≤ til ∧ til ≤ 1000000) with
  | false => rfl
  | true =>
   cases hq : Fd (jf c.2.2.1 l) (Cl c) 24 with
   | false => simp only [Bool.and_false]; rfl
   | true =>
    have hrun : Xx (c.1, c.2.1, jf c.2.2.1 l, til, c.2.2.2.2) = _ := Y6 (GQ c l til) (Rab hz hd hq) (show (Cd c).length ≤ 32 from P5 hd)
    simp only [jg, cond_false, jk, Bool.and_true]
    rw [hrun]
    by_cases h0 : l.length = 0
    ·rw [Ba (show ¬ ((ja l : Nat) : Int) > 0 by omega)]
     rw [show Cg l c.2.2.2.1 = true by unfold Cg; rw [h0]; rfl, show Hf l til = true by unfold Hf; rw [h0]; rfl]
     rfl
    ·obtain ⟨x, hx, hx1⟩ := VT (l := l) (by omega)
     obtain ⟨y, hy, hy1⟩ := BP (l := l) (by omega) (by omega)
     rw [Aa (show ((ja l : Nat) : Int) > 0 by omega), hx, hy]
     simp only [cond_true, jb]
     have e0 : ((l.length : Int) == 0) = false := by simp; intro h; rw [h] at h0; simp at h0
     rw [show Cg l c.2.2.2.1 = !decide (x.1 < c.2.2.2.1) by unfold Cg; rw [e0, hx1]; rfl]
     rw [show Hf l til = !decide (y.1 > til) by
      unfold Hf; rw [e0, hy1]
      rw [Bool.false_or, qx]; simp only [decide_eq_true_eq, Bool.not_eq_true', decide_eq_false_iff_not]; omega]
     cases decide (x.1 < c.2.2.2.1) <;> cases decide (y.1 > til) <;> rfl
def BR (w : Nat → Nat) (t : Nat) : Nat := ((cond (t.testBit 0) (w 0) 0) ||| (cond (t.testBit 1) (w 1) 0)) ||| ((cond (t.testBit 2) (w 2) 0) ||| (cond (t.testBit 3) (w 3) 0))
theorem Wau (w : Nat → Nat) (s t : Nat) : BR w (s ||| t) = BR w s ||| BR w t := by
 apply Nat.eq_of_testBit_eq
 intro i
 simp only [BR, Nat.testBit_or]
 cases s.testBit 0 <;> cases s.testBit 1 <;> cases s.testBit 2 <;> cases s.testBit 3 <;> cases t.testBit 0 <;> cases t.testBit 1 <;> cases t.testBit 2 <;> cases t.testBit 3 <;>
  simp only [Bool.or_true, Bool.true_or, Bool.or_false, Bool.false_or, cond_true, cond_false, Nat.zero_testBit] <;>
  cases (w 0).testBit i <;> cases (w 1).testBit i <;> cases (w 2).testBit i <;> cases (w 3).testBit i <;> rfl
def tri (i j : Nat) : Nat := if i ≤ j then j * (j + 1) / 2 + i else i * (i + 1) / 2 + j
def LH (e i j : Nat) : Bool := e.testBit (tri i j)
def FY (e s t : Nat) : Bool :=
 (s.testBit 0 && (t.testBit 0 && LH e 0 0 || t.testBit 1 && LH e 0 1 || (t.testBit 2 && LH e 0 2 || t.testBit 3 && LH e 0 3)) || s.testBit 1 && (t.testBit 0 && LH e 1 0 || t.testBit 1 && LH e 1 1 || (t.testBit 2 && LH e 1 2 || t.testBit 3 && LH e 1 3))) ||
 (s.testBit 2 && (t.testBit 0 && LH e 2 0 || t.testBit 1 && LH e 2 1 || (t.testBit 2 && LH e 2 2 || t.testBit 3 && LH e 2 3)) || s.testBit 3 && (t.testBit 0 && LH e 3 0 || t.testBit 1 && LH e 3 1 || (t.testBit 2 && LH e 3 2 || t.testBit 3 && LH e 3 3)))
def Waq (e a b s : Nat) : Nat := cond (FY e (rowN 4 s a) (rowN 4 s b)) (s ||| rowN 4 s b <<< (a * 4)) s
def a3 (e a : Nat) : Nat → Nat → Nat := fun b s => Waq e a b s
def a2 (e R : Nat) : Nat → Nat → Nat := fun a s => Se (a3 e a) R s
def a1 (e R : Nat) : Nat → Nat → Nat := fun _ s => Se (a2 e R) R s
def HU (e R : Nat) : Nat := Se (a1 e R) R 33825
def KO (e R s : Nat) : Bool := (List.range R).all fun a => (List.range R).all fun b => !FY e (rowN 4 s a) (rowN 4 s b) || (rowN 4 s a ||| rowN 4 s b == rowN 4 s a)
theorem DaD : ∀ e : Fin 2, KO e.val 1 (HU e.val 1) = true := by decide +kernel
theorem EaD : ∀ e : Fin 8, KO e.val 2 (HU e.val 2) = true := by decide +kernel
theorem FaD : ∀ e : Fin 64, KO e.val 3 (HU e.val 3) = true := by decide +kernel
theorem GaD : ∀ e : Fin 1024, KO e.val 4 (HU e.val 4) = true := by decide +kernel
theorem Jap {e R : Nat} (he : e < 2 ^ (R * (R + 1) / 2)) (h1 : 1 ≤ R) (h4 : R ≤ 4) : KO e R (HU e R) = true := by
 have : R = 1 ∨ R = 2 ∨ R = 3 ∨ R = 4 := by omega
 rcases this with rfl | rfl | rfl | rfl
 ·exact DaD ⟨e, he⟩
 ·exact EaD ⟨e, he⟩
 ·exact FaD ⟨e, he⟩
 ·exact GaD ⟨e, he⟩
theorem CT (x y : Nat) : (x &&& y != 0) = true ↔ ∃ k, x.testBit k = true ∧ y.testBit k = true := by
 rw [bne_iff_ne]
 constructor
 ·intro h
  obtain ⟨k, hk⟩ := Nat.exists_testBit_of_ne_zero h
  rw [Nat.testBit_and, jd] at hk
  exact ⟨k, hk⟩
 ·rintro ⟨k, h1, h2⟩ h0
  have : (x &&& y).testBit k = true := by rw [Nat.testBit_and, h1, h2]; rfl
  rw [h0, Nat.zero_testBit] at this
  exact absurd this (by decide)
theorem NY (w : Nat → Nat) (t k : Nat) : (BR w t).testBit k = true ↔ ∃ i, i < 4 ∧ t.testBit i = true ∧ (w i).testBit k = true := by
 have e : (BR w t).testBit k = ((t.testBit 0 && (w 0).testBit k || t.testBit 1 && (w 1).testBit k) || (t.testBit 2 && (w 2).testBit k || t.testBit 3 && (w 3).testBit k)) := by
  simp only [BR, Nat.testBit_or]
  cases t.testBit 0 <;> cases t.testBit 1 <;> cases t.testBit 2 <;> cases t.testBit 3 <;> simp
 rw [e]
 simp only [Bool.or_eq_true, jd]
 constructor
 ·rintro ((h | h) | (h | h))
  ·exact ⟨0, by omega, h⟩
  ·exact ⟨1, by omega, h⟩
  ·exact ⟨2, by omega, h⟩
  ·exact ⟨3, by omega, h⟩
 ·rintro ⟨i, hi, h⟩
  have : i = 0 ∨ i = 1 ∨ i = 2 ∨ i = 3 := by omega
  rcases this with rfl | rfl | rfl | rfl
  ·exact .inl (.inl h)
  ·exact .inl (.inr h)
  ·exact .inr (.inl h)
  ·exact .inr (.inr h)
theorem Wat (e s t : Nat) : FY e s t = true ↔ ∃ i j, i < 4 ∧ j < 4 ∧ s.testBit i = true ∧ t.testBit j = true ∧ LH e i j = true := by
 have h4 : ∀ p : Nat → Prop, (∃ i, i < 4 ∧ p i) ↔ ((p 0 ∨ p 1) ∨ (p 2 ∨ p 3)) := by
  intro p
  constructor
  ·rintro ⟨i, hi, h⟩
   have : i = 0 ∨ i = 1 ∨ i = 2 ∨ i = 3 := by omega
   rcases this with rfl | rfl | rfl | rfl
   ·exact .inl (.inl h)
   ·exact .inl (.inr h)
   ·exact .inr (.inl h)
   ·exact .inr (.inr h)
  ·rintro ((h | h) | (h | h))
   ·exact ⟨0, by omega, h⟩
   ·exact ⟨1, by omega, h⟩
   ·exact ⟨2, by omega, h⟩
   ·exact ⟨3, by omega, h⟩
 have h5 : (∃ i j, i < 4 ∧ j < 4 ∧ s.testBit i = true ∧ t.testBit j = true ∧ LH e i j = true) ↔ ∃ i, i < 4 ∧ (s.testBit i = true ∧ ∃ j, j < 4 ∧ (t.testBit j = true ∧ LH e i j = true)) := by
  constructor
  ·rintro ⟨i, j, a, b, c, d, f⟩; exact ⟨i, a, c, j, b, d, f⟩
  ·rintro ⟨i, a, c, j, b, d, f⟩; exact ⟨i, j, a, b, c, d, f⟩
 rw [h5, h4]
 simp only [h4]
 simp only [FY, Bool.or_eq_true, jd]
def Wu (w : Nat → Nat) : Nat :=
 ((cond (w 0 &&& w 0 != 0) 1 0) ||| (cond (w 0 &&& w 1 != 0) 2 0) ||| (cond (w 1 &&& w 1 != 0) 4 0) ||| (cond (w 0 &&& w 2 != 0) 8 0) ||| (cond (w 1 &&& w 2 != 0) 16 0)) |||
 ((cond (w 2 &&& w 2 != 0) 32 0) ||| (cond (w 0 &&& w 3 != 0) 64 0) ||| (cond (w 1 &&& w 3 != 0) 128 0) ||| (cond (w 2 &&& w 3 != 0) 256 0) ||| (cond (w 3 &&& w 3 != 0) 512 0))
theorem C3 (w : Nat → Nat) : ∀ i j, i < 4 → j < 4 → LH (Wu w) i j = (w i &&& w j != 0) := by
 have hc : ∀ i j, (w i &&& w j != 0) = (w j &&& w i != 0) := fun i j => by rw [Nat.and_comm]
 have key : ∀ b0 b1 b2 b3 b4 b5 b6 b7 b8 b9 : Bool,
  (let e := ((cond b0 1 0) ||| (cond b1 2 0) ||| (cond b2 4 0) ||| (cond b3 8 0) ||| (cond b4 16 0)) |||
 ((cond b5 32 0) ||| (cond b6 64 0) ||| (cond b7 128 0) ||| (cond b8 256 0) ||| (cond b9 512 0))
  e.testBit 0 = b0 ∧ e.testBit 1 = b1 ∧ e.testBit 2 = b2 ∧ e.testBit 3 = b3 ∧ e.testBit 4 = b4 ∧ e.testBit 5 = b5 ∧ e.testBit 6 = b6 ∧ e.testBit 7 = b7 ∧ e.testBit 8 = b8 ∧ e.testBit 9 = b9) := by decide +kernel
 have := key (w 0 &&& w 0 != 0) (w 0 &&& w 1 != 0) (w 1 &&& w 1 != 0) (w 0 &&& w 2 != 0) (w 1 &&& w 2 != 0) (w 2 &&& w 2 != 0) (w 0 &&& w 3 != 0) (w 1 &&& w 3 != 0) (w 2 &&& w 3 != 0) (w 3 &&& w 3 != 0)
 obtain ⟨h0, h1, h2, h3, h4, h5, h6, h7, h8, h9⟩ := this
 intro i j hi hj
 have i4 : i = 0 ∨ i = 1 ∨ i = 2 ∨ i = 3 := by omega
 have j4 : j = 0 ∨ j = 1 ∨ j = 2 ∨ j = 3 := by omega
 rcases i4 with rfl | rfl | rfl | rfl <;> rcases j4 with rfl | rfl | rfl | rfl
 ·exact h0
 ·exact h1
 ·exact h3
 ·exact h6
 ·rw [hc]; exact h1
 ·exact h2
 ·exact h4
 ·exact h7
 ·rw [hc]; exact h3
 ·rw [hc]; exact h4
 ·exact h5
 ·exact h8
 ·rw [hc]; exact h6
 ·rw [hc]; exact h7
 ·rw [hc]; exact h8
 ·exact h9
theorem Wav (w : Nat → Nat) {R : Nat} (h1 : 1 ≤ R) (h4 : R ≤ 4) (hw : ∀ i, R ≤ i → w i = 0) : Wu w < 2 ^ (R * (R + 1) / 2) := by
 have k1 : ∀ b : Bool, cond b 1 0 < 2 := by decide
 have k2 : ∀ b0 b1 b2 : Bool, (cond b0 1 0 ||| cond b1 2 0 ||| cond b2 4 0) < 8 := by decide
 have k3 : ∀ b0 b1 b2 b3 b4 b5 : Bool, ((cond b0 1 0 ||| cond b1 2 0 ||| cond b2 4 0 ||| cond b3 8 0 ||| cond b4 16 0) ||| cond b5 32 0) < 64 := by decide +kernel
 have k4 : ∀ b0 b1 b2 b3 b4 b5 b6 b7 b8 b9 : Bool, ((((cond b0 1 0) ||| (cond b1 2 0) ||| (cond b2 4 0) ||| (cond b3 8 0) ||| (cond b4 16 0)) |||  ((cond b5 32 0) ||| (cond b6 64 0) ||| (cond b7 128 0) ||| (cond b8 256 0) ||| (cond b9 512 0))) < 1024) := by decide +kernel
 have : R = 1 ∨ R = 2 ∨ R = 3 ∨ R = 4 := by omega
 rcases this with rfl | rfl | rfl | rfl
 ·have := k1 (w 0 &&& w 0 != 0)
  simpa [Wu, hw 1 (by omega), hw 2 (by omega), hw 3 (by omega)] using this
 ·have := k2 (w 0 &&& w 0 != 0) (w 0 &&& w 1 != 0) (w 1 &&& w 1 != 0)
  simpa [Wu, hw 2 (by omega), hw 3 (by omega)] using this
 ·have := k3 (w 0 &&& w 0 != 0) (w 0 &&& w 1 != 0) (w 1 &&& w 1 != 0) (w 0 &&& w 2 != 0) (w 1 &&& w 2 != 0) (w 2 &&& w 2 != 0)
  simpa [Wu, hw 3 (by omega)] using this
 ·exact k4 _ _ _ _ _ _ _ _ _ _
theorem Y7 (w : Nat → Nat) (s t : Nat) : (BR w s &&& BR w t != 0) = FY (Wu w) s t := by
 rw [qx, CT, Wat]
 constructor
 ·rintro ⟨k, h1, h2⟩
  obtain ⟨i, hi, a, b⟩ := (NY w s k).1 h1
  obtain ⟨j, hj, c, d⟩ := (NY w t k).1 h2
  refine ⟨i, j, hi, hj, a, c, ?_⟩
  rw [C3 w i j hi hj, CT]
  exact ⟨k, b, d⟩
 ·rintro ⟨i, j, hi, hj, a, c, h⟩
  rw [C3 w i j hi hj, CT] at h
  obtain ⟨k, b, d⟩ := h
  exact ⟨k, (NY w s k).2 ⟨i, hi, a, b⟩, (NY w t k).2 ⟨j, hj, c, d⟩⟩
def LK (w : Nat → Nat) (C R m s : Nat) : Prop := ∀ r, r < R → rowN C m r = BR w (rowN 4 s r)
theorem AU {S T : Type} {g : Nat → S → S} {h : Nat → T → T} {p : S → T → Prop} {n : Nat} {s0 : S} {t0 : T} (h0 : p s0 t0) (hs : ∀ k s t, k < n → p s t → p (g k s) (h k t)) : ∀ k, k ≤ n → p (Se g k s0) (Se h k t0)
 | 0, _ => h0
 | k + 1, hk => hs k _ _ (by omega) (AU h0 hs k (by omega))
theorem Sax {w : Nat → Nat} {C R m s a b : Nat} (ha : a < R) (hb : b < R) (h : LK w C R m s) : LK w C R (Pw C a b m) (Waq (Wu w) a b s) := by
 unfold Pw Waq
 rw [h a ha, h b hb, Y7]
 cases FY (Wu w) (rowN 4 s a) (rowN 4 s b) with
 | false => exact h
 | true =>
  simp only [cond_true]
  intro r hr
  rw [Wad C m a _ r (by rw [← h b hb]; exact YM C m b), Wad 4 s a _ r (YM 4 s b)]
  by_cases e : r = a
  ·rw [if_pos e, if_pos e, Wau, h a ha]
  ·rw [if_neg e, if_neg e, h r hr]
theorem Ea7 {w : Nat → Nat} {C R m s a : Nat} (ha : a < R) (h : LK w C R m s) : LK w C R (Se (g3 C a) R m) (Se (a3 (Wu w) a) R s) :=
 AU (p := LK w C R) (g := g3 C a) (h := a3 (Wu w) a) (n := R) h (fun b s t hb h3 => Sax ha hb h3) R (jo R)
theorem Da7 {w : Nat → Nat} {C R m s : Nat} (h : LK w C R m s) : LK w C R (Se (g2 C R) R m) (Se (a2 (Wu w) R) R s) :=
 AU (p := LK w C R) (g := g2 C R) (h := a2 (Wu w) R) (n := R) h (fun a s t ha h3 => Ea7 ha h3) R (jo R)
theorem Ca7 {w : Nat → Nat} {C R m s : Nat} (h : LK w C R m s) : LK w C R (Se (g1 C R) R m) (Se (a1 (Wu w) R) R s) :=
 AU (p := LK w C R) (g := g1 C R) (h := a1 (Wu w) R) (n := R) h (fun _ s t _ h3 => Da7 h3) R (jo R)
def J8 (C R m i : Nat) : Nat := if i < R then rowN C m i else 0
theorem Rax {C R m : Nat} (hR : R ≤ 4) : LK (J8 C R m) C R (Ro C R m) (HU (Wu (J8 C R m)) R) := by
 have h0 : LK (J8 C R m) C R m 33825 := by
  intro r hr
  have : r = 0 ∨ r = 1 ∨ r = 2 ∨ r = 3 := by omega
  have e0 : rowN 4 33825 0 = 1 := by decide
  have e1 : rowN 4 33825 1 = 2 := by decide
  have e2 : rowN 4 33825 2 = 4 := by decide
  have e3 : rowN 4 33825 3 = 8 := by decide
  rcases this with rfl | rfl | rfl | rfl
  ·rw [e0, show rowN C m 0 = J8 C R m 0 from (if_pos hr).symm]; simp [BR, show Nat.testBit 1 1 = false from by decide, show Nat.testBit 1 2 = false from by decide, show Nat.testBit 1 3 = false from by decide]
  ·rw [e1, show rowN C m 1 = J8 C R m 1 from (if_pos hr).symm]; simp [BR, show Nat.testBit 2 0 = false from by decide, show Nat.testBit 2 1 = true from by decide, show Nat.testBit 2 2 = false from by decide, show Nat.testBit 2 3 = false from by decide]
  ·rw [e2, show rowN C m 2 = J8 C R m 2 from (if_pos hr).symm]; simp [BR, show Nat.testBit 4 0 = false from by decide, show Nat.testBit 4 1 = false from by decide, show Nat.testBit 4 2 = true from by decide, show Nat.testBit 4 3 = false from by decide]
  ·rw [e3, show rowN C m 3 = J8 C R m 3 from (if_pos hr).symm]; simp [BR, show Nat.testBit 8 0 = false from by decide, show Nat.testBit 8 1 = false from by decide, show Nat.testBit 8 2 = false from by decide, show Nat.testBit 8 3 = true from by decide]
 unfold Ro HU
 exact Ca7 h0
theorem Oaq {C m a x : Nat} (h : rowN C m a ||| x = rowN C m a) : m ||| x <<< (a * C) = m := by
 apply Nat.eq_of_testBit_eq
 intro i
 rw [Nat.testBit_or, Nat.testBit_shiftLeft]
 cases hx : (decide (i ≥ a * C) && x.testBit (i - a * C)) with
 | false => simp
 | true =>
  simp only [jd, decide_eq_true_eq] at hx
  have h1 : (rowN C m a).testBit (i - a * C) = true := by rw [← h, Nat.testBit_or, hx.2]; simp
  rw [IL, jd] at h1
  have h2 := h1.2
  rw [show a * C + (i - a * C) = i by omega] at h2
  rw [h2]; rfl
theorem ZT {S : Type} {g : Nat → S → S} {n : Nat} {s : S} (h : ∀ k, k < n → g k s = s) : ∀ k, k ≤ n → Se g k s = s
 | 0, _ => rfl
 | k + 1, hk => by
  show g k (Se g k s) = s
  rw [ZT h k (by omega)]
  exact h k (by omega)
theorem Fau {C R m : Nat} (h : BI C R) : Ro C R (Ro C R m) = Ro C R m := by
 have hrel := Rax (C := C) (m := m) h.r2
 have hcl := Jap (Wav (J8 C R m) h.r1 h.r2 fun i hi => if_neg (by omega)) h.r1 h.r2
 have hst : ∀ a b, a < R → b < R → Pw C a b (Ro C R m) = Ro C R m := by
  intro a b ha hb
  unfold Pw
  cases hc : (rowN C (Ro C R m) a &&& rowN C (Ro C R m) b != 0) with
  | false => rfl
  | true =>
   simp only [cond_true]
   apply Oaq
   rw [hrel a ha, hrel b hb] at hc ⊢
   rw [Y7] at hc
   simp only [KO, List.all_eq_true, List.mem_range, Bool.or_eq_true, Bool.not_eq_true', beq_iff_eq] at hcl
   rcases hcl a ha b hb with h1 | h1
   ·rw [hc] at h1; exact absurd h1 (by decide)
   ·rw [← Wau, h1]
 unfold Ro at hst ⊢
 exact ZT (n := R) (fun _ _ => ZT (n := R) (fun a ha => ZT (n := R) (fun b hb => hst a b ha hb) R (jo R)) R (jo R)) R (jo R)
theorem Caf {M : Zd} {x : Int} (h : Yc M x = true) : Wi M (Xn M x) = true := by
 unfold Wi
 rw [Gau h, jk, beq_iff_eq]
 obtain ⟨C, R, m, d, rfl, rfl, hd, hm⟩ := FH h
 rw [XM, XM]
 cases d with
 | true => rfl
 | false =>
  show ((Ro C R (Ro C R m) : Nat) : Int) = _
  rw [Fau hd]; rfl
def MH (a b t : Int) (k : Nat) (o : List Ca) : List Ca := cond (Bd a (k : Int) != Bd b (k : Int)) (jf o [(t, (k : Int), Bd b (k : Int) == 1, ())]) o
def UV (a b t : Int) : List Ca := Se (MH a b t) 32 []
theorem VV (a b t : Int) : ∀ n, (Se (MH a b t) n []).length ≤ n
 | 0 => jo _
 | n + 1 => by
  have ih := VV a b t n
  show (MH a b t n (Se (MH a b t) n [])).length ≤ n + 1
  unfold MH at ih ⊢
  cases Bd a (n : Int) != Bd b (n : Int)
  ·simp only [cond_false]; omega
  ·simp only [cond_true]; simp; omega
theorem X3 (a b t : Int) : Vp a b t = some (UV a b t, ()) := by
 have hl := Nh (step := fun x => Pk x.1.1 x.1.2.1 x.1.2.2.1 x.1.2.2.2.1 x.1.2.2.2.2.1) 32 (by omega) (MH a b t) [] (fun o i => ((a, b, t, o, i, ()), ())) (fun o => .inl ((o, ()), ())) (by
  intro k hk
  have hlen := VV a b t k
  simp only [Pk]
  rw [Aa (by omega), Ok a (by omega), Ok b (by omega)]
  simp only [cond_true, jb]
  show _ = some (Sum.inl ((a, b, t, MH a b t k (Se (MH a b t) k []), _, ()), ()))
  generalize Se (MH a b t) k [] = o at hlen ⊢
  unfold MH
  have hb : ∀ v : Ca, jx (ja o + ja [v]) Ta = true := fun v => ji (by rw [Ee]; simp only [jw, j8]; omega)
  cases Bd a (k : Int) != Bd b (k : Int)
  ·rfl
  ·simp only [cond_true, hb]) (by
  simp only [Pk]
  rw [Ba (by omega)]; rfl)
 unfold Vp Nm
 erw [hl]
 rfl
theorem Cag {a b : Nat} {t : Int} {n : Nat} (ha : a < 2 ^ n) (hb : b < 2 ^ n) (hn : n ≤ 32) : ∀ k, Se (MH (a : Int) (b : Int) t) (n + k) [] = Se (MH (a : Int) (b : Int) t) n [] ∨ 32 < n + k
 | 0 => .inl rfl
 | k + 1 => by
  rcases Nat.lt_or_ge 32 (n + (k + 1)) with h | h
  ·exact .inr h
  ·rcases Cag (t := t) ha hb hn k with ih | ih
   ·refine .inl ?_
    show MH (a : Int) (b : Int) t (n + k) (Se (MH (a : Int) (b : Int) t) (n + k) []) = _
    rw [ih]
    unfold MH
    have GK : n ≤ 62 := by omega
    have h63 : ∀ x : Nat, x < 2 ^ n → x < 2 ^ 63 := fun x hx => ql hx (qm (by omega) (by omega))
    rw [G3 (h63 a ha) (h63 b hb) (by omega), qn]
    rw [Nat.testBit_lt_two_pow (ql ha (qm (by omega) (Nat.le_add_right n k))), Nat.testBit_lt_two_pow (ql hb (qm (by omega) (Nat.le_add_right n k)))]
    rfl
   ·omega
theorem W4 (z : Zc) (b : Zc) (acc : Int) (d : Ob) (n : Nat) (hk : d.2.2.1 = (n : Int)) (hn : n ≤ 24) (x y : Nat) (hx : b.2.1.2.2.2.1 = (x : Int)) (hx2 : x < 2 ^ n) (hy : d.2.2.2.1 = (y : Int)) (hy2 : y < 2 ^ n) :
 Aj (((), (), acc, (), ([] : List Ca), (0 : Int), ()), (b, z, d, ())) = some (.inl (((), (), acc, (), UV b.2.1.2.2.2.1 d.2.2.2.1 b.2.2.2.2.2.1, ()), (b, z, d, ()))) := by
 have h63 : ∀ x : Nat, x < 2 ^ n → x < 2 ^ 63 := fun x hx => ql hx (qm (by omega) (by omega))
 have hl := Nh (step := fun x => Lq x.1.1 x.1.2.1 x.1.2.2.1 x.1.2.2.2.1 x.1.2.2.2.2.1 x.1.2.2.2.2.2.1 x.2.1 x.2.2.1 x.2.2.2.1) n (by omega) (MH b.2.1.2.2.2.1 d.2.2.2.1 b.2.2.2.2.2.1) []
  (fun o i => (((), (), acc, (), o, i, ()), (b, z, d, ()))) (fun o => .inl (((), (), acc, (), o, ()), (b, z, d, ()))) (by
  intro k hk'
  have hlen := VV b.2.1.2.2.2.1 d.2.2.2.1 b.2.2.2.2.2.1 k
  simp only [Lq]
  have e1 : (Wa .i64 (Yb .i64 (Me .i64 d.2.2.2.1 b.2.1.2.2.2.1) (k : Int)) 1 == 1) = (Bd b.2.1.2.2.2.1 (k : Int) != Bd d.2.2.2.1 (k : Int)) := by
   rw [hx, hy, J0 (h63 y hy2) (h63 x hx2) (by omega), G3 (h63 y hy2) (h63 x hx2) (by omega), G3 (h63 x hx2) (h63 y hy2) (by omega), Nat.xor_comm]
  have e2 : Wa .i64 (Yb .i64 d.2.2.2.1 (k : Int)) 1 = Bd d.2.2.2.1 (k : Int) := rfl
  rw [Aa (show (k : Int) < d.2.2.1 by omega), Aa (show (0 : Int) ≤ (k : Int) by omega), e1, e2]
  simp only [cond_true]
  show _ = some (Sum.inl (((), (), acc, (), MH b.2.1.2.2.2.1 d.2.2.2.1 b.2.2.2.2.2.1 k (Se (MH b.2.1.2.2.2.1 d.2.2.2.1 b.2.2.2.2.2.1) k []), _, ()), _))
  generalize Se (MH b.2.1.2.2.2.1 d.2.2.2.1 b.2.2.2.2.2.1) k [] = o at hlen ⊢
  unfold MH
  have hb : ∀ v : Ca, jx (ja o + ja [v]) Ta = true := fun v => ji (by rw [Ee]; simp only [jw, j8]; omega)
  cases Bd b.2.1.2.2.2.1 (k : Int) != Bd d.2.2.2.1 (k : Int)
  ·rfl
  ·simp only [cond_true, hb]) (by
  simp only [Lq]
  rw [Ba (by omega)]; rfl)
 unfold Aj
 refine hl.trans ?_
 unfold UV
 rw [hx, hy]
 rcases Cag (t := b.2.2.2.2.2.1) hx2 hy2 (by omega) (32 - n) with h | h
 ·rw [show n + (32 - n) = 32 by omega] at h
  rw [h]
 ·omega
noncomputable def TS (b : Zc) (x : Int) : Bool := Ir b && (Yc b.1 x && !decide (b.2.2.2.2.2.1 ≥ 1000000))
def Vu (b : Zc) (x : Int) : Int := Eab b.1 b.2.2.2.2.1 (Xn b.1 x)
def Fm (b : Zc) (x : Int) : Ob := (U0 b.2.1 (Vu b x)).1
def Ft (b : Zc) (x : Int) : Oa × ((List Ca) × (Bool × Unit)) := SI b.2.2.1 (UV b.2.1.2.2.2.1 (Fm b x).2.2.2.1 b.2.2.2.2.2.1) b.2.2.2.2.2.1
noncomputable def Hx (b : Zc) (x : Int) : Hb × ((List Lf) × (Bool × Unit)) := QJ b.2.2.2.1 (Ft b x).2.1 b.2.2.2.2.2.1
noncomputable def QG (b : Zc) (x : Int) : Zc × ((List Lf) × (Bool × Unit)) :=
 cond (TS b x && ((Ft b x).2.2.1 && (Hx b x).2.2.1))
  ((b.1, Fm b x, (Ft b x).1, (Hx b x).1, Vu b x, j5 .i64 (b.2.2.2.2.2.1 + 1), ()), (Hx b x).2.1, true, ()) (J5, [], false, ())
structure Lao (b : Zc) (x : Int) : Prop where
 bd : Ir b = true
 msk : Yc b.1 x = true
 old : Yc b.1 b.2.2.2.2.1 = true
 dk : b.2.1.2.2.1 = Dd b.1
 db : Qg b.2.1 = true
 cb : Pd b.2.2.1 = true
 dc : Af b.2.2.2.1 = true
 t : 0 ≤ b.2.2.2.2.2.1 ∧ b.2.2.2.2.2.1 ≤ 1000000
theorem Iae {b : Zc} {x : Int} (h : Ir b = true) (hm : Yc b.1 x = true) : Lao b x := by
 have hb := h
 simp only [Ir, jd, decide_eq_true_eq, beq_iff_eq] at h
 exact ⟨hb, hm, h.2.2.2.2.2.2.1, h.2.2.2.2.1, h.2.1, h.2.2.1, h.2.2.2.1, h.2.2.2.2.2.2.2.2.1⟩
theorem Q2 {b : Zc} {x : Int} (h : Lao b x) : SO b.1 b.2.2.2.2.1 (Xn b.1 x) = true ∧ Yc b.1 (Vu b x) = true ∧ SV b.2.1 (Vu b x) = true := by
 have h1 : SO b.1 b.2.2.2.2.1 (Xn b.1 x) = true := by
  unfold SO
  rw [h.old, Caf h.msk]; rfl
 have h2 := Vav h1
 refine ⟨h1, h2, ?_⟩
 unfold SV
 rw [h.db, jk, h.dk]
 have h3 : Yc b.1 (Vu b x) = true := h2
 simp only [Yc, jd] at h3
 exact h3.2
theorem Yab {b : Zc} {x : Int} (h : Lao b x) : U0 b.2.1 (Vu b x) = (Fm b x, true, ()) ∧ Fm b x = (b.2.1.1, b.2.1.2.1, b.2.1.2.2.1, (U5 b.2.1 (Vu b x)).1, Vu b x, (U5 b.2.1 (Vu b x)).2, ()) := by
 have := (Q2 h).2.2
 unfold Fm U0
 rw [this]
 exact ⟨rfl, rfl⟩
theorem S0 (c : Oa) (l : List Ca) (til : Int) (hz : Oi c) : (SI c l til).2.1.length ≤ 64 ∧ Oi (SI c l til).1 ∧ Ja Nb (SI c l til).1 ≤ 200 := by
 unfold SI
 cases h : Rx c l til with
 | false =>
  simp only [cond_false]
  exact ⟨by simp, ⟨by decide, by decide, by decide, fun x hx => by simp [L8] at hx⟩, by decide⟩
 | true =>
  simp only [Rx, jd] at h
  have h1 := Rab (til := til) hz h.1 h.2.2.2.2
  have h2 := H3 64 (GQ c l til) [] h1
  have h3 : (Cd (GQ c l til)).length ≤ 32 := show (Cd c).length ≤ 32 from P5 h.1
  have h4 := h2.1.L
  have h5 := h2.1.len
  have h6 := h2.2.1
  have h7 := h2.2.2
  have h20 : Ea = 1048576 := rfl
  simp only [cond_true]
  refine ⟨by simp at h7; omega, ⟨by omega, by omega, by show (Cd _).length ≤ _; omega, h2.1.r⟩, ?_⟩
  rw [Yaf]
  have : (Sf 64 (GQ c l til) []).1.2.2.2.2.2.2.1.length ≤ 96 := by show (Cd _).length ≤ _; omega
  omega
theorem Ias {e : Gb} (h : Su e) : Ja Xb e ≤ 1000 := by
 have hh := Ep h.hd
 have h2 : Ja (.sl (.sl Bc)) e.2.1 ≤ (16 + 1) * e.2.1.length := NU (e := .sl Bc) (c := 16) fun x hx => by
  have := h.mac x hx
  simp only [Uf, jd, decide_eq_true_eq] at this
  have e2 : Ja (.sl Bc) x = x.length := Fo (e := Bc) rfl x
  omega
 have := h.m4
 have hm := Xi h.km
 have h3 : Ja Ub e.1 ≤ 200 := by
  have h1 : Ja Ub e.1 = 0 + (Ja (.sl (.sl Rb)) e.1.2.1 + 0) := rfl
  have h2 : Ja (.sl (.sl Rb)) e.1.2.1 ≤ (32 + 1) * ja e.1.2.1 := NU (e := .sl Rb) (c := 32) fun x hx => by
   obtain ⟨i, hi, rfl⟩ := qt hx
   rw [G5]
   have := hm.row i hi
   have := hm.k2
   omega
  have := hm.l2
  omega
 rw [Vk, Hk]
 omega
theorem O4 : ∀ (n : Nat) (d : Hb) (s : List Lf), PO d → (∀ y ∈ s, y.2.1.2.1.length ≤ 56) → PO (Xf n d s).1 ∧ (Xf n d s).2.length ≤ s.length + 17 * n ∧ (∀ y ∈ (Xf n d s).2, y.2.1.2.1.length ≤ 56)
 | 0, d, s, h, hs => ⟨h, by show s.length ≤ _; omega, hs⟩
 | n + 1, d, s, h, hs => by
  cases hq : d.2.2.1 with
  | nil =>
   have e : Xf (n + 1) d s = (d, s) := by simp only [Xf, hq]
   rw [e]; exact ⟨h, by show s.length ≤ _; omega, hs⟩
  | cons x r =>
   cases hst : Cm d x r with
   | none =>
    have e : Xf (n + 1) d s = (d, s) := by simp only [Xf, hq, hst]
    rw [e]; exact ⟨h, by show s.length ≤ _; omega, hs⟩
   | some p =>
    obtain ⟨d', l⟩ := p
    have e : Xf (n + 1) d s = Xf n d' (Jq s d'.2.2.2.2.1 l) := by simp only [Xf, hq, hst]
    have hn := Q6 h hq hst
    have ih := O4 n d' (Jq s d'.2.2.2.2.1 l) hn.1 (fun y hy => by
     rcases jl.1 (show y ∈ s ++ _ from hy) with hy | hy
     ·exact hs y hy
     ·obtain ⟨r', hr', rfl⟩ := qu.1 hy
      exact hn.2.2.2 r' hr')
    have e2 := XW s d'.2.2.2.2.1 l
    have h17 := hn.2.2.1
    rw [e]
    exact ⟨ih.1, by omega, ih.2.2⟩
theorem SaL (x : Lf) : Ja Gj x = x.2.1.2.1.length := by
 have h3 : Ja Gj x = Ja Zb x.2.1 := by
  show 0 + (Ja Zb x.2.1 + 0) = _
  omega
 rw [h3, Hay]
theorem Oax (d : Hb) (l : List Ca) (til : Int) : Ja Cc (QJ d l til).1 ≤ 2000 ∧ (QJ d l til).2.1.length ≤ 1088 ∧ (∀ y ∈ (QJ d l til).2.1, y.2.1.2.1.length ≤ 56) := by
 unfold QJ
 cases h : Vx d l til with
 | false => simp only [cond_false]; exact ⟨by decide, by simp, by simp⟩
 | true =>
  simp only [Vx, jd] at h
  have h1 := V5 (til := til) h.1 h.2.2.2.2
  have h2 := O4 (Ar d l til).2.2.1.length (Ar d l til) [] h1 (by simp)
  have h64 := h1.len
  simp only [cond_true]
  refine ⟨?_, by have := h2.2.1; simp at this; omega, h2.2.2⟩
  rw [MM, HC]
  have h3 := Ias h2.1.eng
  have := h2.1.len
  omega
theorem Lac (b : Zc) (x : Int) (hb : IK b) : En b x = some (QG b x) := by
 have h20 : Ea = 1048576 := rfl
 unfold En QG TS
 rw [W3 b hb, Nt]
 cases h1 : Ir b with
 | false => rfl
 | true =>
  cases h2 : Yc b.1 x with
  | false => rfl
  | true =>
   have hp := Iae h1 h2
   have ha := Q2 hp
   have hd := Yab hp
   simp only [jb, jg, cond_false, jk]
   cases h3 : decide (b.2.2.2.2.2.1 ≥ 1000000) with
   | true => rfl
   | false =>
    rw [I6 h2]
    simp only [jb, cond_false]
    rw [B6, ha.1]
    simp only [jb, cond_true, jg, cond_false]
    show jz (Zl b.2.1 (Vu b x)) _ = _
    rw [Aaf _ _ hb.d, hd.1]
    simp only [jb, jg, cond_false]
    rw [X3]
    simp only [jb]
    have hev := VV b.2.1.2.2.2.1 (Fm b x).2.2.2.1 b.2.2.2.2.2.1 32
    rw [V3 _ _ _ hb.c (by unfold UV; omega)]
    have hcl := S0 b.2.2.1 (UV b.2.1.2.2.2.1 (Fm b x).2.2.2.1 b.2.2.2.2.2.1) b.2.2.2.2.2.1 hb.c
    have e1 : SI b.2.2.1 (UV b.2.1.2.2.2.1 (Fm b x).2.2.2.1 b.2.2.2.2.2.1) b.2.2.2.2.2.1 = Ft b x := rfl
    rw [e1] at hcl ⊢
    simp only [jb]
    rw [CW _ _ _ hb.x (by omega)]
    have e2 : QJ b.2.2.2.1 (Ft b x).2.1 b.2.2.2.2.2.1 = Hx b x := rfl
    rw [e2]
    simp only [jb, qa, jk]
    cases (Ft b x).2.2.1 with
    | false => rfl
    | true => cases (Hx b x).2.2.1 <;> rfl
theorem Zad (b : Zc) (x : Int) (hb : IK b) : Du b x = some (QG b x) := by
 have h20 : Ea = 1048576 := rfl
 unfold Du QG TS
 rw [U4 b hb, CX]
 cases h1 : Ir b with
 | false => rfl
 | true =>
  cases h2 : Yc b.1 x with
  | false => rfl
  | true =>
   have hp := Iae h1 h2
   have ha := Q2 hp
   have hd := Yab hp
   have ht := hp.t
   simp only [jb, jg, cond_false, cond_true, jk]
   rw [show (b.2.2.2.2.2.1 == 1000000) = decide (b.2.2.2.2.2.1 ≥ 1000000) by rw [qx]; simp; omega]
   cases h3 : decide (b.2.2.2.2.2.1 ≥ 1000000) with
   | true => rfl
   | false =>
    simp only [cond_false]
    rw [U6, ha.1]
    simp only [jb, cond_true]
    show jz (Dm b.2.1 (Vu b x)) _ = _
    rw [Daf _ _ hb.d, hd.1]
    simp only [jb]
    have hdp := Laa hp.db
    have hk := hdp.k2
    have hk1 := hdp.k1
    obtain ⟨p, hp1, hp2⟩ := FS hdp.sh
    obtain ⟨q, hq1, hq2⟩ := FS (Aag hdp (Vu b x)).sh
    have hdo : (Fm b x).2.2.2.1 = (q : Int) := by rw [hd.2]; exact hq1
    have hdk : (Fm b x).2.2.1 = b.2.1.2.2.1 := by rw [hd.2]
    have hsp := W4 J5 b (Vu b x) (Fm b x) b.2.1.2.2.1.toNat (by rw [hdk]; omega) (by omega) p q hp1 hp2 hdo hq2
    have hsp' : Aj (((), (), (Eab b.1 b.2.2.2.2.1 (Xn b.1 x)), (), ([] : List Ca), (0 : Int), ()), (b, J5, Fm b x, ())) = _ := hsp
    erw [hsp']
    simp only [jb, qk]
    have hev := VV b.2.1.2.2.2.1 (Fm b x).2.2.2.1 b.2.2.2.2.2.1 32
    rw [T4 _ _ _ hb.c (by unfold UV; omega)]
    have hcl := S0 b.2.2.1 (UV b.2.1.2.2.2.1 (Fm b x).2.2.2.1 b.2.2.2.2.2.1) b.2.2.2.2.2.1 hb.c
    have e1 : SI b.2.2.1 (UV b.2.1.2.2.2.1 (Fm b x).2.2.2.1 b.2.2.2.2.2.1) b.2.2.2.2.2.1 = Ft b x := rfl
    rw [e1] at hcl ⊢
    simp only [jb]
    rw [BX _ _ _ hb.x (by omega)]
    have e2 : QJ b.2.2.2.1 (Ft b x).2.1 b.2.2.2.2.2.1 = Hx b x := rfl
    rw [e2]
    simp only [jb, qa, jk]
    cases (Ft b x).2.2.1 with
    | false => rfl
    | true => cases (Hx b x).2.2.1 <;> rfl
theorem JaI (b : Zc) (x : Int) (hb : IK b) : IK (QG b x).1 ∧ Ja Ad (QG b x).1 ≤ 3000 ∧ (QG b x).2.1.length ≤ 1088 ∧ (∀ y ∈ (QG b x).2.1, y.2.1.2.1.length ≤ 56) := by
 have h20 : Ea = 1048576 := rfl
 unfold QG
 cases h : TS b x && ((Ft b x).2.2.1 && (Hx b x).2.2.1) with
 | false => simp only [cond_false]; exact ⟨⟨by decide, ⟨by decide, by decide, by decide, fun x hx => by simp [J5] at hx⟩, by decide⟩, by decide, by simp, by simp⟩
 | true =>
  simp only [jd, TS] at h
  have hp := Iae h.1.1 h.1.2.1
  have hd := Yab hp
  have hdp := Laa hp.db
  have hcl := S0 b.2.2.1 (UV b.2.1.2.2.2.1 (Fm b x).2.2.2.1 b.2.2.2.2.2.1) b.2.2.2.2.2.1 hb.c
  have hpl := Oax b.2.2.2.1 (Ft b x).2.1 b.2.2.2.2.2.1
  have hda : (Fm b x).2.2.2.2.2.1.length ≤ 24 := by
   rw [hd.2]
   have h1 := (Aag hdp (Vu b x)).len
   have h2 := hdp.len
   have h3 := hdp.k2
   show (U5 b.2.1 (Vu b x)).2.length ≤ 24
   omega
  simp only [cond_true]
  refine ⟨⟨by show (Fm b x).2.2.2.2.2.1.length ≤ _; omega, hcl.2.1, by show Ja Cc (Hx b x).1 ≤ _; have := hpl.1; unfold Hx; omega⟩, ?_, hpl.2.1, hpl.2.2⟩
  rw [Mab]
  show Ja Kb (Fm b x) + (Ja Nb (Ft b x).1 + Ja Cc (Hx b x).1) ≤ 3000
  rw [Has]
  have h1 : Ja Nb (Ft b x).1 ≤ 200 := hcl.2.2
  have h2 : Ja Cc (Hx b x).1 ≤ 2000 := hpl.1
  omega
theorem FaI {l : List Lf} {n : Nat} (h : l.length ≤ n) (hx : ∀ y ∈ l, y.2.1.2.1.length ≤ 56) : Ja (.sl Gj) l ≤ 57 * n := by
 have := NU (e := Gj) (c := 56) (w := l) fun y hy => by rw [SaL]; exact hx y hy
 exact qc this (Nat.mul_le_mul_left _ h)
theorem L5 (b : Zc) (x : Int) (hr : Yl Ad b) (_ : Yl int x) (hz : Ja Ad b ≤ Ea) :
 ∃ w0 w1 w2, Du b x = some (w0, w1, w2, ()) ∧ En b x = some (w0, w1, w2, ()) ∧ Ja Ad w0 ≤ Ea ∧ Ja (.sl Gj) w1 ≤ Ea := by
 have h20 : Ea = 1048576 := rfl
 have hb := Aaw b hr hz
 have hs := JaI b x hb
 refine ⟨(QG b x).1, (QG b x).2.1, (QG b x).2.2.1, Zad b x hb, Lac b x hb, by omega, ?_⟩
 have := FaI hs.2.2.1 hs.2.2.2
 omega
theorem V8 (a0 : Zc) (a1 : Int) (hr0 : Yl Ad a0) (hr1 : Yl int a1) : Jl a0 a1 = some (true, ()) := by
 have h20 : Ea = 1048576 := rfl
 have h40 : Xc = 1099511627776 := rfl
 unfold Jl
 have s0 := Yaq a0 hr0 (1048576) (by omega)
 rw [show ((1048576 : Nat) : Int) = 1048576 from rfl] at s0
 rw [s0]
 simp only [jb]
 by_cases z0 : Ja Ad a0 ≤ 1048576
 case neg => rw [Vf z0]; rfl
 rw [Mh z0, Ba (by omega)]
 simp only [cond_false]
 have hz0 : Ja Ad a0 ≤ Ea := by omega
 obtain ⟨w0, w1, w2, e1, e2, b0, b1⟩ := L5 a0 a1 hr0 hr1 hz0
 obtain ⟨x0, k0, g0, i0, m0, n0, _⟩ := OW a0 1 (by omega)
 rw [show ((1 : Nat) : Int) = 1 from rfl] at m0 n0
 have d0 : decide ((k0 : Int) < 0) = false := Ba (by omega)
 obtain ⟨x1, k1, g1, i1, m1, n1, f1⟩ := OW w0 1 (by omega)
 simp only [kf, true_and, and_true] at f1
 have q1 : ((w0.1, (w0.2.1.1, w0.2.1.2.1, w0.2.1.2.2.1, w0.2.1.2.2.2.1, w0.2.1.2.2.2.2.1, x1.2.1.2.2.2.2.2.1, ()), (x1.2.2.1.1, w0.2.2.1.2.1, x1.2.2.1.2.2.1, w0.2.2.1.2.2.2.1, w0.2.2.1.2.2.2.2.1, w0.2.2.1.2.2.2.2.2.1, x1.2.2.1.2.2.2.2.2.2.1, ()), (((w0.2.2.2.1.1.1.1, x1.2.2.2.1.1.1.2.1, ()), x1.2.2.2.1.1.2.1, w0.2.2.2.1.1.2.2.1, x1.2.2.2.1.1.2.2.2.1, w0.2.2.2.1.1.2.2.2.2), w0.2.2.2.1.2.1, x1.2.2.2.1.2.2.1, w0.2.2.2.1.2.2.2), w0.2.2.2.2) : Zc) = x1 := by simp only [Prod.ext_iff, f1, and_self]
 rw [show ((1 : Nat) : Int) = 1 from rfl] at m1 n1
 have d1 : decide ((k1 : Int) < 0) = false := Ba (by omega)
 obtain ⟨x2, k2, g2, i2, m2, n2, _⟩ := Had w1 k1 (by omega)
 have d2 : decide ((k2 : Int) < 0) = false := Ba (by omega)
 simp only [e1, e2, Dar a0 hz0, N3 a0 (by omega), N3 w0 (by omega), Pap w1 (by omega), m0, d0, q1, m1, d1, n1, m2, d2, n2, jb, bne_self_eq_false', jg, cond_false]
end KF
