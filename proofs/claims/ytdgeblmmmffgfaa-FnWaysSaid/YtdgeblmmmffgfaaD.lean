/- An evaluator of Go functions on plain data, its soundness, and plain laws on what the functions compute, part 4 (conditions: as each lemma tells). -/
import Derived.Test.YtdgeblmmmffgfaaC
set_option linter.unusedSimpArgs false
set_option linter.unusedVariables false
namespace KF
open Go
open List renaming length → ja, getElem?_eq_getElem → je, append → jf, mem_append → jl, mem_cons → jp, mem_cons_of_mem → jr, length_cons → jw, set → j6, length_nil → j7, length_set → j8, mem_singleton → qc, length_append → qd, getElem?_append_left → qf, getElem?_append_right → qg, getD_eq_getElem?_getD → qh, getElem_mem → ql, getElem_of_mem → qm, mem_map → qn, length_drop → qo, mem_cons_self → qq
open Option renaming bind_some → jb, bind → jz, map_some → qb, bind_eq_some_iff → qe
open Option.some renaming injEq → jc
open Bool renaming and_eq_true → jd, not_true → jg, true_and → jk, false_eq_true → jq, not_eq_true → j9, eq_iff_iff → qp
open Prod.mk renaming injEq → jh
open Nat renaming ble_eq_true_of_le → ji, mul_le_mul_right → jm, le_refl → jo, zero_add → js, add_assoc → jt, eq_of_beq_eq_true → ju, ble → jx, le_trans → qa, lt_of_lt_of_le → qj, pow_le_pow_right → qk
open Int renaming toNat_natCast → jn, eq_ofNat_of_zero_le → jv, toNat → jy
open Go.IntKind renaming wrap → j4, wrap → j5
open Sum renaming elim_inl → qi
open Result renaming andThen_ok → qr
open Sem renaming run_bind → qs
theorem QQ : ∀ (a b : List Int), a.length = b.length → Ld (fun k x => b.getD k 0 == x) 0 a = (b == a)
 | a, b, h => by
  rw [qp, Wh, beq_iff_eq]
  constructor
  ·intro hj
   apply List.ext_getElem h.symm
   intro i h1 h2
   have := hj i h2
   rw [js, beq_iff_eq, qh, je h1] at this
   exact this
  ·rintro rfl i hi
   rw [js, beq_iff_eq, qh, je hi]; rfl
theorem Zz (a b : List Int) (hn : a.length ≤ Sb) : On a b = some (a == b, ()) := by
 have hlim := Cn
 unfold On
 by_cases h : a.length = b.length
 ·have hl := Ei (step := fun x => Yi x.1.1 x.1.2.1 x.1.2.2.1 x.1.2.2.2.1) a (fun k x => b.getD k 0 == x) (fun i => ((a, b, ((ja a : Nat) : Int), i, ()), ()))
   (.inl ((), ())) (.inr ((false, ()), ())) (by
    intro k hk
    simp only [Yi]
    rw [Ja (show (k : Int) < ((ja a : Nat) : Int) by omega), Yd hk, Yd (show k < b.length by omega), qh, je (show k < b.length by omega)]
    simp only [cond_true, jb, Option.getD_some, bne]
    rw [show (a[k] == b[k]) = (b[k] == a[k]) by rw [qp, beq_iff_eq, beq_iff_eq]; exact eq_comm]
    cases b[k] == a[k] <;> rfl) (by
    simp only [Yi]
    rw [Ma (by omega)]; rfl) (by omega)
  have e : (((ja a : Nat) : Int) != ((ja b : Nat) : Int)) = false := by simp [h]
  rw [e]
  simp only [cond_false]
  unfold Bk
  erw [hl]
  rw [QQ a b h, show (b == a) = (a == b) by rw [qp, beq_iff_eq, beq_iff_eq]; exact eq_comm]
  cases a == b <;> rfl
 ·have e : (((ja a : Nat) : Int) != ((ja b : Nat) : Int)) = true := by simp; omega
  have e2 : (a == b) = false := by rw [beq_eq_false_iff_ne]; intro hh; exact h (by rw [hh])
  rw [e, e2]; rfl
theorem JR (a b : T Ud) (h1 : ja a.2.1 ≤ Sb) (_ : ja b.2.1 ≤ Sb) : (fun x : T (.p Ud (.p Ud .u)) => Zh x.1 x.2.1) (a, b, ()) = some (Fp a b, ()) := by
 show Zh a b = _
 unfold Zh
 rw [Zz _ _ h1]
 simp only [jb, Fp]
 cases (show Int from a.1) == (show Int from b.1) <;> rfl
theorem RM (c : T Qc → T Qc → Option Bool) (l : List (T Qc)) (hl : ja l ≤ Sb) : ∀ (ys : List (T Qc)) (k : Nat) (out q : List (T Qc)) (a : T Qc), l.drop k = ys → k ≤ ja l → ja out + ja ys ≤ Sb →
 Jv c a ys = some q → Mk c (((), out, l, ((ja l : Nat) : Int), (k : Int), ()), (a, ())) = some (.inl ((jf out q, ()), ())) := by
 have hlim := Cn
 intro ys
 induction ys with
 | nil =>
  intro k out q a hd hk _ hq
  have := Qz hd hk
  subst this
  simp only [Jv, jc] at hq
  subst hq
  have hs : Qp c () out l ((ja l : Nat) : Int) ((ja l : Nat) : Int) a = some (.inr (.inl ((out, ()), ()))) := by
   unfold Qp
   rw [Ma (by omega)]; rfl
  unfold Mk
  rw [Se hs]
  simp
 | cons y ys ih =>
  intro k out q a hd hk hlen hq
  obtain ⟨hk', hy, hd'⟩ := Xw hd
  simp only [Jv] at hq
  cases hc : c a y with
  | none => rw [hc] at hq; simp at hq
  | some b =>
   rw [hc] at hq
   simp only [jb] at hq
   cases hq2 : Jv c y ys with
   | none => rw [hq2] at hq; simp at hq
   | some q2 =>
    rw [hq2] at hq
    simp only [jb, jc] at hq
    have hlc : ja (y :: ys) = ja ys + 1 := rfl
    have hs : Qp c () out l ((ja l : Nat) : Int) (k : Int) a = some (.inl (((), cond b out (jf out [y]), l, ((ja l : Nat) : Int), ((k + 1 : Nat) : Int), ()), (y, ()))) := by
     unfold Qp ZR
     rw [Ja (show (k : Int) < ((ja l : Nat) : Int) by omega), Yd hk', hy]
     simp only [cond_true, jb, hc]
     rw [Ye (by omega)]
     cases b with
     | true => rfl
     | false =>
      rw [show jx (ja out + ja ([y] : List (Int × ((T .o) × Unit)))) Sb = true from ji (by simp only [jw, j7]; omega)]
      rfl
    unfold Mk
    rw [Se hs]
    simp only [jb, qi]
    have := ih (k + 1) (cond b out (jf out [y])) q2 y hd' hk' (by cases b with
     | true => simp only [cond_true]; omega
     | false => simp only [cond_false, List.append_eq, qd, jw, j7]; omega) hq2
    unfold Mk at this
    rw [this, ← hq]
    cases b with
    | true => rfl
    | false => simp
theorem US (c : T Qc → T Qc → Option Bool) : ∀ (a : T Qc) (l r : List (T Qc)), ja l ≤ Sb → Jv c a l = some r → (fun x : T (.p Qc (.p (.sl Qc) .u)) => WK c x.1 x.2.1) (a, l, ()) = some (r, ()) := by
 intro a l r hl hq
 show WK c a l = _
 unfold WK
 have := RM c l hl l 0 [] r a rfl (Nat.zero_le _) (by simpa using hl) hq
 erw [this]
 rfl
theorem UE : ∀ {a b : List Int}, a.Pairwise (· < ·) → b.Pairwise (· < ·) → (∀ x, x ∈ a ↔ x ∈ b) → a = b
 | [], [], _, _, _ => rfl
 | [], y :: b, _, _, h => by have := (h y).2 (by simp); simp at this
 | x :: a, [], _, _, h => by have := (h x).1 (by simp); simp at this
 | x :: a, y :: b, ha, hb, h => by
  rw [List.pairwise_cons] at ha hb
  have hxy : x = y := by
   rcases jp.1 ((h x).1 (by simp)) with h1 | h1
   ·exact h1
   ·rcases jp.1 ((h y).2 (by simp)) with h2 | h2
    ·exact h2.symm
    ·have := hb.1 x h1; have := ha.1 y h2; omega
  subst hxy
  congr 1
  refine UE ha.2 hb.2 fun z => ⟨fun hz => ?_, fun hz => ?_⟩
  ·rcases jp.1 ((h z).1 (by simp [hz])) with h1 | h1
   ·have := ha.1 z hz; omega
   ·exact h1
  ·rcases jp.1 ((h z).2 (by simp [hz])) with h1 | h1
   ·have := hb.1 z hz; omega
   ·exact h1
def Hw (o : List Int) (x : Int) : List Int := cond ((x != 0) && !o.any (fun y => y == x)) (jf o [x]) o
def OG (k : Nat) (o l : List Int) : List Int := Ag (fun _ o x => Hw o x) k o l
theorem UM : ∀ (l : List Int) (k : Nat) (o : List Int) (y : Int), y ∈ OG k o l ↔ y ∈ o ∨ (y ∈ l ∧ y ≠ 0)
 | [], _, o, y => by simp [OG, Ag]
 | x :: l, k, o, y => by
  have := UM l (k + 1) (Hw o x) y
  simp only [OG, Ag] at this ⊢
  rw [this]
  unfold Hw
  by_cases h0 : x = 0
  ·subst h0
   simp only [bne_self_eq_false, Bool.false_and, cond_false, jp]
   constructor
   ·rintro (h | ⟨h1, h2⟩)
    ·exact .inl h
    ·exact .inr ⟨.inr h1, h2⟩
   ·rintro (h | ⟨h1 | h1, h2⟩)
    ·exact .inl h
    ·exact absurd h1 h2
    ·exact .inr ⟨h1, h2⟩
  ·by_cases h1 : o.any (fun y => y == x) = true
   ·rw [h1]
    simp only [jg, Bool.and_false, cond_false, jp]
    have hx : x ∈ o := by
     obtain ⟨z, hz, e⟩ := List.any_eq_true.1 h1
     rw [beq_iff_eq] at e; rw [← e]; exact hz
    constructor
    ·rintro (h | ⟨h1, h2⟩)
     ·exact .inl h
     ·exact .inr ⟨.inr h1, h2⟩
    ·rintro (h | ⟨h1 | h1, h2⟩)
     ·exact .inl h
     ·exact .inl (h1 ▸ hx)
     ·exact .inr ⟨h1, h2⟩
   ·have e : ((x != 0) && !o.any (fun y => y == x)) = true := by
     simp only [j9] at h1
     rw [h1]; simp [h0]
    rw [e]
    simp only [cond_true, List.append_eq, jl, jp, List.not_mem_nil, or_false]
    constructor
    ·rintro ((h | h) | ⟨h1, h2⟩)
     ·exact .inl h
     ·exact .inr ⟨.inl h, by rw [h]; exact h0⟩
     ·exact .inr ⟨.inr h1, h2⟩
    ·rintro (h | ⟨h1 | h1, h2⟩)
     ·exact .inl (.inl h)
     ·exact .inl (.inr h1)
     ·exact .inr ⟨h1, h2⟩
theorem ZD : ∀ (l : List Int) (k : Nat) (o : List Int), o.Pairwise (· < ·) → l.Pairwise (· ≤ ·) → (∀ y ∈ o, ∀ x ∈ l, y ≤ x) → (OG k o l).Pairwise (· < ·)
 | [], _, o, ho, _, _ => by simpa [OG, Ag] using ho
 | x :: l, k, o, ho, hl, h => by
  rw [List.pairwise_cons] at hl
  have key : (Hw o x).Pairwise (· < ·) ∧ ∀ y ∈ Hw o x, ∀ z ∈ l, y ≤ z := by
   unfold Hw
   cases hc : (x != 0) && !o.any (fun y => y == x) with
   | false => exact ⟨ho, fun y hy z hz => h y hy z (by simp [hz])⟩
   | true =>
    simp only [jd, Bool.not_eq_true', List.any_eq_false, beq_iff_eq] at hc
    simp only [cond_true, List.append_eq]
    refine ⟨?_, ?_⟩
    ·rw [List.pairwise_append]
     refine ⟨ho, by simp, fun y hy z hz => ?_⟩
     simp only [jp, List.not_mem_nil, or_false] at hz
     subst hz
     have h1 := h y hy z (by simp)
     have h2 := hc.2 y hy
     omega
    ·intro y hy z hz
     rcases jl.1 hy with hy | hy
     ·exact h y hy z (by simp [hz])
     ·simp only [jp, List.not_mem_nil, or_false] at hy
      subst hy
      exact hl.1 z hz
  have := ZD l (k + 1) (Hw o x) key.1 hl.2 key.2
  simpa [OG, Ag] using this
def Dj (l : List Wa) : Nat → List Int
 | 0 => []
 | n + 1 => cond (l.any fun h => h.2.1.2.1 == ((n + 1 : Nat) : Int)) (Dj l n ++ [((n + 1 : Nat) : Int)]) (Dj l n)
theorem Nr (l : List Wa) : ∀ (n : Nat) (x : Int), x ∈ Dj l n ↔ (1 ≤ x ∧ x ≤ (n : Int)) ∧ ∃ h ∈ l, h.2.1.2.1 = x
 | 0, x => by simp [Dj]; intro h1 h2; omega
 | n + 1, x => by
  simp only [Dj]
  cases hc : (l.any fun h => h.2.1.2.1 == ((n + 1 : Nat) : Int)) with
  | true =>
   simp only [cond_true, jl, Nr l n x, jp, List.not_mem_nil, or_false]
   obtain ⟨h, hh, e⟩ := List.any_eq_true.1 hc
   rw [beq_iff_eq] at e
   constructor
   ·rintro (⟨h1, h2⟩ | rfl)
    ·exact ⟨by omega, h2⟩
    ·exact ⟨by omega, h, hh, e⟩
   ·rintro ⟨h1, h2⟩
    by_cases hx : x = ((n + 1 : Nat) : Int)
    ·exact .inr hx
    ·exact .inl ⟨by omega, h2⟩
  | false =>
   simp only [cond_false, Nr l n x]
   rw [List.any_eq_false] at hc
   constructor
   ·rintro ⟨h1, h2⟩; exact ⟨by omega, h2⟩
   ·rintro ⟨h1, h, hh, e⟩
    refine ⟨?_, h, hh, e⟩
    have := hc h hh
    rw [beq_iff_eq] at this
    omega
theorem Gr (l : List Wa) : ∀ n, (Dj l n).Pairwise (· < ·)
 | 0 => by simp [Dj]
 | n + 1 => by
  simp only [Dj]
  cases (l.any fun h => h.2.1.2.1 == ((n + 1 : Nat) : Int)) with
  | true =>
   simp only [cond_true]
   rw [List.pairwise_append]
   refine ⟨Gr l n, by simp, fun y hy z hz => ?_⟩
   simp only [jp, List.not_mem_nil, or_false] at hz
   have := (Nr l n y).1 hy
   omega
  | false => exact Gr l n
theorem LB (l : List Wa) : ∀ n, (Dj l n).length ≤ n
 | 0 => by simp [Dj]
 | n + 1 => by
  have := LB l n
  simp only [Dj]
  cases (l.any fun h => h.2.1.2.1 == ((n + 1 : Nat) : Int)) <;> simp <;> omega
def VY (l : List Wa) : Int := Ag (fun _ s (h : Wa) => cond (h.2.1.1 == 2 || h.2.1.1 == 8) (Ae .i64 s h.2.1.2.2.1) s) 0 0 l
def Rf (l : List Wa) : Qa := (VY l, Dj l 56, ())
theorem DI {a : Ga} (h : Cc a = true) : 0 ≤ a.2.1 ∧ a.2.1 ≤ 56 := by
 rw [Va] at h
 unfold Ab at h
 omega
theorem CD (l : List Int) (x : Int) (hn : l.length ≤ Sb) : Iq l x = some (l.any (fun y => y == x), ()) := by
 have hlim := Cn
 have hl := Ei (step := fun y => Gl y.1.1 y.1.2.1 y.1.2.2.1 y.1.2.2.2.1) l (fun _ y => !(y == x)) (fun i => ((x, l, ((ja l : Nat) : Int), i, ()), ()))
  (.inl ((), ())) (.inr ((true, ()), ())) (by
   intro k hk
   simp only [Gl]
   rw [Ja (show (k : Int) < ((ja l : Nat) : Int) by omega), Yd hk]
   simp only [cond_true, jb]
   cases l[k] == x <;> rfl) (by
   simp only [Gl]
   rw [Ma (by omega)]; rfl) (by omega)
 unfold Iq Vl
 erw [hl]
 have : ∀ (l : List Int) (k : Nat), Ld (fun _ y => !(y == x)) k l = !l.any (fun y => y == x) := by
  intro l
  induction l with
  | nil => intro k; rfl
  | cons y l ih => intro k; simp only [Ld, List.any_cons, ih, Bool.not_or]
 rw [this]
 cases l.any (fun y => y == x) <;> rfl
theorem YB (l : List Wa) (hn : l.length ≤ Bb) (hx : ∀ h ∈ l, 0 ≤ h.2.1.2.1 ∧ h.2.1.2.1 ≤ 56) : Tl (l.map fun h => h.2.1.2.1) = some (Dj l 56, ()) := by
 have h20 : Bb = 1048576 := rfl
 have hlim := Cn
 generalize hcs : (l.map fun h => h.2.1.2.1) = cs
 have hcl : cs.length = l.length := by rw [← hcs]; simp
 unfold Tl
 rw [Yz _ (by omega)]
 simp only [jb, sort_Ints, srt]
 rw [show jx (ja cs) Sb = true from ji (by omega)]
 simp only [cond_true, jb]
 generalize hss : (List.mergeSort cs fun x y => decide (x ≤ y)) = ss
 have hsl : ss.length = cs.length := by rw [← hss]; exact List.length_mergeSort _
 have hsm : ∀ x, x ∈ ss ↔ x ∈ cs := fun x => by rw [← hss]; exact List.mem_mergeSort
 have hsp : ss.Pairwise (· ≤ ·) := by
  rw [← hss]
  have := List.pairwise_mergeSort (le := fun x y : Int => decide (x ≤ y)) (by intro a b c; simp; omega) (by intro a b; simp; omega) cs
  exact this.imp (by intro a b h; simpa using h)
 have hl := (Ov (step := fun x => Ak x.1.1 x.1.2.1 x.1.2.2.1 x.1.2.2.2.1) ss (fun _ o x => Hw o x) (fun o i => ((o, ss, ((ja ss : Nat) : Int), i, ()), ())) (fun o => .inl ((o, ()), ())) (fun k o => o.length ≤ k) (by
  intro k hk o ho
  have hd : (Hw o ss[k]).length ≤ k + 1 := by
   unfold Hw
   cases (ss[k] != 0) && !o.any (fun y => y == ss[k]) <;> simp <;> omega
  refine ⟨?_, hd⟩
  simp only [Ak]
  rw [Ja (show (k : Int) < ((ja ss : Nat) : Int) by omega), show Kh (ja ss) (k : Int) = true by rw [Vp]; exact Ja hk, jn, je hk]
  simp only [cond_true, jb]
  rw [CD _ _ (by omega), show jx (ja o + ja ([ss[k]] : List Int)) Sb = true from ji (by simp only [jw, j7]; omega)]
  simp only [jb, Hw]
  cases ss[k] != 0 <;> cases o.any (fun y => y == ss[k]) <;> rfl)
  (by
   intro o _
   simp only [Ak]
   rw [Ma (by omega)]; rfl) (by omega) [] (jo _)).1
 unfold Xk
 erw [hl]
 simp only [jb, qi]
 congr 2
 refine UE (ZD ss 0 [] (by simp) hsp (by simp)) (Gr l 56) fun x => ?_
 rw [show Ag (fun _ o x => Hw o x) 0 [] ss = OG 0 [] ss from rfl, UM, Nr, hsm, ← hcs]
 simp only [List.not_mem_nil, false_or, qn]
 constructor
 ·rintro ⟨⟨h, hh, rfl⟩, h0⟩
  have := hx h hh
  exact ⟨by omega, h, hh, rfl⟩
 ·rintro ⟨h1, h, hh, rfl⟩
  exact ⟨⟨h, hh, rfl⟩, by omega⟩
theorem Yj (l : List Wa) (hn : l.length ≤ Bb) (hv : Qf l = true) : Ib l = some (Rf l, ()) := by
 have h20 : Bb = 1048576 := rfl
 have hlim := Cn
 have hh := AN hv
 have hl := (Ov (step := fun x => Xi x.1.1 x.1.2.1 x.1.2.2.1 x.1.2.2.2.1 x.1.2.2.2.2.1 x.1.2.2.2.2.2.1 x.2.1 x.2.2.1) l
  (fun _ (s : Int × List Int) (h : Wa) => (cond (h.2.1.1 == 2 || h.2.1.1 == 8) (Ae .i64 s.1 h.2.1.2.2.1) s.1, jf s.2 [h.2.1.2.1])) (fun s i => (((), (), s.2, l, ((ja l : Nat) : Int), i, ()), (((0 : Int), ([] : List Int), ()), (s.1, ([] : List Int), ()), ())))
  (fun s => .inl (((), (), s.2, ()), (((0 : Int), ([] : List Int), ()), (s.1, ([] : List Int), ()), ()))) (fun k s => s.2.length = k) (by
   intro k hk s hs
   refine ⟨?_, by simp [hs]⟩
   simp only [Xi]
   rw [Ja (show (k : Int) < ((ja l : Nat) : Int) by omega), Yd hk]
   simp only [cond_true, jb]
   rw [show jx (ja s.2 + ja ([l[k].2.1.2.1] : List Int)) Sb = true from ji (by simp only [jw, j7]; omega)]
   cases l[k].2.1.1 == 2 <;> cases l[k].2.1.1 == 8 <;> rfl)
  (by
   intro s _
   simp only [Xi]
   rw [Ma (by omega)]; rfl) (by omega) (0, []) rfl).1
 have key : ∀ (l : List Wa) (k : Nat) (s : Int × List Int), Ag (fun _ (s : Int × List Int) (h : Wa) => (cond (h.2.1.1 == 2 || h.2.1.1 == 8) (Ae .i64 s.1 h.2.1.2.2.1) s.1, jf s.2 [h.2.1.2.1])) k s l =
  (Ag (fun _ s (h : Wa) => cond (h.2.1.1 == 2 || h.2.1.1 == 8) (Ae .i64 s h.2.1.2.2.1) s) k s.1 l, s.2 ++ l.map fun h => h.2.1.2.1) := by
  intro l
  induction l with
  | nil => intro k s; simp [Ag]
  | cons x l ih => intro k s; simp only [Ag]; rw [ih]; simp
 unfold Ib Xj
 rw [Up _ hn, hv]
 simp only [jb, jg, cond_false]
 erw [hl]
 rw [key]
 simp only [jb, qi, List.nil_append]
 rw [YB l hn (fun h hm => DI (hh h hm).act)]
 rfl
def Ur (c : Int) : Bool := decide (1 ≤ c ∧ c ≤ 36) || ((c == 39) || (c == 42))
theorem Bx (c : Int) : Fl c = some (Ur c, ()) := by
 unfold Fl Ur
 by_cases h1 : c ≥ 1
 ·by_cases h2 : c ≤ 36
  ·rw [Ja h1, Ja h2, Ja (show 1 ≤ c ∧ c ≤ 36 by omega)]; rfl
  ·rw [Ja h1, Ma h2, Ma (show ¬ (1 ≤ c ∧ c ≤ 36) by omega)]
   cases c == 39 <;> rfl
 ·rw [Ma h1, Ma (show ¬ (1 ≤ c ∧ c ≤ 36) by omega)]
  cases c == 39 <;> rfl
def Gp (f o : Int) (c : Bool) (a : Ga) : Int × Int × Bool × Ga :=
 cond (a.1 == 2) (cond (a.2.1 == 0) (f, o, c, a) (f, 0, c && Ur a.2.1, a.1, a.2.1, cond ((c && Ur a.2.1) && (decide (a.2.1 ≤ 26) && (Hg .i64 (Ae .i64 a.2.2.1 o) 2 == 0))) 2 (Ae .i64 a.2.2.1 o), a.2.2.2))
  (cond (a.1 == 4) (Xo .i64 f (Qe .i64 1 a.2.2.2.1), o, c, a) (cond (a.1 == 5) (Hg .i64 (Qe .i64 1 a.2.2.2.1) 1, o, c, a)
   (cond (a.1 == 8) (f, cond (Uk .i64 o a.2.2.1 == a.2.2.1) (Hg .i64 o a.2.2.1) (Ae .i64 o a.2.2.1), c, a) (cond (a.1 == 10) (f, o, !c, a) (f, o, c, a)))))
theorem HG {a : Ga} (h : Cc a = true) : 0 ≤ a.2.2.2.1 := by
 rw [Va] at h
 unfold Ab at h
 omega
theorem ED (m : Ea) (M : List (List Id)) (f o : Int) (h : List Wa) (c : Bool) (a : Ga) (ha : Cc a = true) :
 Ok (m, M, f, h, o, c, ()) a = some ((m, M, (Gp f o c a).1, h, (Gp f o c a).2.1, (Gp f o c a).2.2.1, ()), (Gp f o c a).2.2.2, ()) := by
 have hn := HG ha
 unfold Ok Gp
 rw [Ja hn]
 cases a.1 == 2 with
 | true =>
  cases a.2.1 == 0 with
  | true => rfl
  | false =>
   simp only [cond_true, cond_false, Bx, jb]
   cases c with
   | false => rfl
   | true =>
    cases Ur a.2.1 with
    | false => rfl
    | true => cases decide (a.2.1 ≤ 26) <;> cases Hg .i64 (Ae .i64 a.2.2.1 o) 2 == 0 <;> rfl
 | false =>
  cases a.1 == 4 with
  | true => rfl
  | false =>
   cases a.1 == 5 with
   | true => rfl
   | false =>
    cases a.1 == 8 with
    | true => cases Uk .i64 o a.2.2.1 == a.2.2.1 <;> rfl
    | false => cases a.1 == 10 <;> rfl
theorem AT : ∀ f : Fin 16, ∀ n : Fin 4, ∀ l : Fin 5, 1 ≤ n.val → n.val < l.val → f.val < 2 ^ l.val → f.val % 2 = 0 →
 0 ≤ Xo .i64 (f.val : Int) (Qe .i64 1 (n.val : Int)) ∧ Xo .i64 (f.val : Int) (Qe .i64 1 (n.val : Int)) < ((2 ^ l.val : Nat) : Int) ∧ (Xo .i64 (f.val : Int) (Qe .i64 1 (n.val : Int))).tmod 2 = 0 := by decide +kernel
theorem GU : ∀ n : Fin 4, ∀ l : Fin 5, n.val < l.val →
 0 ≤ Hg .i64 (Qe .i64 1 (n.val : Int)) 1 ∧ Hg .i64 (Qe .i64 1 (n.val : Int)) 1 < ((2 ^ l.val : Nat) : Int) ∧ (Hg .i64 (Qe .i64 1 (n.val : Int)) 1).tmod 2 = 0 := by decide +kernel
theorem LJ : ∀ o m : Fin 16, (0 ≤ Hg .i64 (o.val : Int) (m.val : Int) ∧ Hg .i64 (o.val : Int) (m.val : Int) ≤ 15) ∧ (0 ≤ Ae .i64 (o.val : Int) (m.val : Int) ∧ Ae .i64 (o.val : Int) (m.val : Int) ≤ 15) := by decide +kernel
structure Fe (nl : Nat) (f o : Int) : Prop where
 f0 : 0 ≤ f
 f1 : f < ((2 ^ nl : Nat) : Int)
 f2 : f.tmod 2 = 0
 o0 : 0 ≤ o
 o1 : o ≤ 15
structure Lw (nl : Nat) (a : Ga) : Prop where
 act : Cc a = true
 n1 : a.1 ≠ 1
 n6 : a.1 ≠ 6
 n7 : a.1 ≠ 7
 n : a.1 ≠ 9 → a.2.2.2.1 < (nl : Int)
theorem VX {a b : Int} (ha : 0 ≤ a ∧ a ≤ 15) (hb : 0 ≤ b ∧ b ≤ 15) : 0 ≤ Ae .i64 a b ∧ Ae .i64 a b ≤ 15 := by
 obtain ⟨n, rfl⟩ := jv ha.1
 obtain ⟨m, rfl⟩ := jv hb.1
 exact (LJ ⟨n, by omega⟩ ⟨m, by omega⟩).2
theorem AW {a b : Int} (ha : 0 ≤ a ∧ a ≤ 15) (hb : 0 ≤ b ∧ b ≤ 15) : 0 ≤ Hg .i64 a b ∧ Hg .i64 a b ≤ 15 := by
 obtain ⟨n, rfl⟩ := jv ha.1
 obtain ⟨m, rfl⟩ := jv hb.1
 exact (LJ ⟨n, by omega⟩ ⟨m, by omega⟩).1
theorem YX {nl : Nat} (h : nl ≤ 4) : 2 ^ nl ≤ 16 := qk (n := 2) (by omega) h
theorem BY {nl : Nat} (hnl : nl ≤ 4) {f o : Int} {c : Bool} {a : Ga} (hs : Fe nl f o) (ha : Lw nl a) :
 Fe nl (Gp f o c a).1 (Gp f o c a).2.1 ∧ Lw nl (Gp f o c a).2.2.2 := by
 have hP := ha.act
 rw [Va] at hP
 unfold Ab at hP
 have h16 := YX hnl
 obtain ⟨k, code, mods, n, u⟩ := a
 have hn1 := ha.n1; have hn6 := ha.n6; have hn7 := ha.n7; have hnn := ha.n
 simp only at hP hn1 hn6 hn7 hnn
 have hf1 := hs.f1
 unfold Gp
 simp only
 by_cases h2 : k = 2
 ·subst h2
  by_cases h0 : code = 0
  ·subst h0; exact ⟨hs, ha⟩
  ·rw [show ((2 : Int) == 2) = true from rfl, show (code == 0) = false by simp [h0]]
   simp only [cond_true, cond_false]
   refine ⟨⟨hs.f0, hs.f1, hs.f2, by decide, by decide⟩, ?_⟩
   have hm := VX (a := mods) (b := o) (by omega) ⟨hs.o0, hs.o1⟩
   refine ⟨?_, hn1, hn6, hn7, hnn⟩
   have hn0 : n = 0 := by omega
   have hcd : 1 ≤ code ∧ code ≤ 56 := by omega
   rw [Va]
   cases ((c && Ur code) && (decide (code ≤ 26) && (Hg .i64 (Ae .i64 mods o) 2 == 0))) with
   | true => exact .inr (.inl ⟨rfl, hn0, .inr hcd, .inr ⟨by show (1 : Int) ≤ 2; decide, by show (2 : Int) ≤ 15; decide⟩, .inl (by show code ≠ 0; omega)⟩)
   | false =>
    refine .inr (.inl ⟨rfl, hn0, .inr hcd, ?_, .inl (by show code ≠ 0; omega)⟩)
    show Ae .i64 mods o = 0 ∨ 1 ≤ Ae .i64 mods o ∧ Ae .i64 mods o ≤ 15
    omega
 ·rw [show (k == 2) = false by simp [h2]]
  simp only [cond_false]
  by_cases h4 : k = 4
  ·subst h4
   have hr : 1 ≤ n ∧ n ≤ 3 := by omega
   have hlt := hnn (by omega)
   obtain ⟨fn, hfn⟩ := jv hs.f0
   obtain ⟨nn, hnn'⟩ := jv (show 0 ≤ n by omega)
   have hf2 := hs.f2
   rw [hfn] at hf1 hf2
   have hfl : fn < 2 ^ nl := Int.ofNat_lt.1 hf1
   have := AT ⟨fn, by omega⟩ ⟨nn, by omega⟩ ⟨nl, by omega⟩ (by show 1 ≤ nn; omega) (by show nn < nl; omega) hfl (by
    rw [Int.tmod_eq_emod_of_nonneg (by omega)] at hf2; show fn % 2 = 0; omega)
   simp only [show ((4 : Int) == 4) = true from rfl, cond_true]
   rw [hfn, hnn']
   exact ⟨⟨this.1, this.2.1, this.2.2, hs.o0, hs.o1⟩, by rw [← hnn']; exact ha⟩
  ·rw [show (k == 4) = false by simp [h4]]
   simp only [cond_false]
   by_cases h5 : k = 5
   ·subst h5
    have hr : 0 ≤ n ∧ n ≤ 3 := by omega
    have hlt := hnn (by omega)
    obtain ⟨nn, hnn'⟩ := jv (show 0 ≤ n by omega)
    have := GU ⟨nn, by omega⟩ ⟨nl, by omega⟩ (by show nn < nl; omega)
    simp only [show ((5 : Int) == 5) = true from rfl, cond_true]
    rw [hnn']
    exact ⟨⟨this.1, this.2.1, this.2.2, hs.o0, hs.o1⟩, by rw [← hnn']; exact ha⟩
   ·rw [show (k == 5) = false by simp [h5]]
    simp only [cond_false]
    by_cases h8 : k = 8
    ·subst h8
     have hm : 0 ≤ mods ∧ mods ≤ 15 := by omega
     simp only [show ((8 : Int) == 8) = true from rfl, cond_true]
     cases Uk .i64 o mods == mods with
     | true => have := AW ⟨hs.o0, hs.o1⟩ hm; exact ⟨⟨hs.f0, hs.f1, hs.f2, this.1, this.2⟩, ha⟩
     | false => have := VX ⟨hs.o0, hs.o1⟩ hm; exact ⟨⟨hs.f0, hs.f1, hs.f2, this.1, this.2⟩, ha⟩
    ·rw [show (k == 8) = false by simp [h8]]
     simp only [cond_false]
     cases k == 10 <;> exact ⟨hs, ha⟩
theorem DO {m : Ea} (hm : Vn m) (on : Int) {k : Nat} (hk : (k : Int) < m.1) : Td m.2.1.length (Ie m on k) (Fg m.2.1 (Ie m on k) k) = true ∧ (Fg m.2.1 (Ie m on k) k).1 ≠ 1 := by
 have hl := Ko hm on k
 have hrow := hm.row _ hl
 have hk' : k < m.2.1[Ie m on k].length := by omega
 have hact := hm.act _ hl k hk'
 rw [Np hl hk']
 refine ⟨hact, ?_⟩
 have key : ∀ n, Tc m.2.1 on k n = 0 ∨ (Fg m.2.1 (Tc m.2.1 on k n) k).1 ≠ 1 := by
  intro n
  induction n with
  | zero => exact .inl rfl
  | succ n ih =>
   simp only [Tc]
   cases hc : ((Sk on ((n + 1 : Nat) : Int) == 1) && ((Fg m.2.1 (n + 1) k).1 != 1)) with
   | true =>
    simp only [jd, bne_iff_ne] at hc
    exact .inr hc.2
   | false => exact ih
 rcases key (m.2.1.length - 1) with h0 | h1
 ·have h0' : Ie m on k = 0 := h0
  intro h1
  simp only [Td, jd, Bool.not_eq_true', Bool.and_eq_false_iff, beq_eq_false_iff_ne] at hact
  rcases hact.1.2 with h2 | h2
  ·exact h2 (by rw [h0']; rfl)
  ·exact h2 h1
 ·have e : Fg m.2.1 (Tc m.2.1 on k (m.2.1.length - 1)) k = m.2.1[Ie m on k][k] := Np hl hk'
  rw [e] at h1
  exact h1
theorem EU {nl i : Nat} {a : Ga} (h : Td nl i a = true) (h1 : a.1 ≠ 1) : Lw nl (Cr a) := by
 have ha := Ks h
 have hP := ha
 rw [Va] at hP
 unfold Ab at hP
 unfold Cr Di
 rw [ha]
 by_cases h67 : a.1 = 6 ∨ a.1 = 7
 ·have e : (true && ((a.1 == 6) || (a.1 == 7))) = true := by rcases h67 with h | h <;> rw [h] <;> rfl
  rw [e]
  simp only [cond_true]
  refine ⟨?_, by show (2 : Int) ≠ 1; decide, by show (2 : Int) ≠ 6; decide, by show (2 : Int) ≠ 7; decide, fun _ => ?_⟩
  ·rw [Va]
   exact .inr (.inl ⟨rfl, rfl, .inr (by show 1 ≤ a.2.1 ∧ a.2.1 ≤ 56; omega), .inl rfl, .inl (by show a.2.1 ≠ 0; omega)⟩)
  ·show (0 : Int) < (nl : Int)
   have := HD h (by omega)
   omega
 ·have e : (true && ((a.1 == 6) || (a.1 == 7))) = false := by
   rw [jk, Bool.or_eq_false_iff, beq_eq_false_iff_ne, beq_eq_false_iff_ne]; omega
  rw [e]
  exact ⟨ha, h1, fun h => h67 (.inl h), fun h => h67 (.inr h), fun hk => HD h hk⟩
def Li (m : Ea) (f o : Int) (c : Bool) (h : List Wa) : Mb := (m, [], f, h, o, c, ())
theorem DT {nl : Nat} {k : Nat} (hk : k ≤ 31) {a : Ga} (ha : Lw nl a) : Qf [((k : Int), a, ())] = true := by
 have e : Pk 0 ((k : Int), a, ()) = true := by
  simp only [Pk, ha.act, jk]
  rw [Ja (show 0 ≤ (k : Int) ∧ (k : Int) ≤ 31 by omega)]
  have hb : (Sk 0 (k : Int) == 1) = false := by
   have := Mz (a := 0) (k := k) (by decide) (by omega)
   rw [Nat.zero_testBit] at this
   exact this
  rw [hb]
  simp [ha.n1, ha.n6, ha.n7]
 show FC (Le _ 0 0 [_]) = true
 simp only [Le, Nn, e, cond_true, FC]
theorem Kv {m : Ea} (hv : Kc m = true) {f o : Int} (hs : Fe m.2.1.length f o) (c : Bool) {h : List Wa} (hh : Qf h = true) (hi : ∀ x ∈ h, Uh m.1 m.2.1.length x = true) : Uq (Li m f o c h) = true := by
 have hk := Re hv
 have e1 : Ld (fun _ x => Uh m.1 m.2.1.length x) 0 h = true := Wh.2 fun j hj => hi _ (ql hj)
 show (Kc m && (decide (([] : List (List Id)).length ≤ 4) && (Qf h && (true && (Ld (fun _ x => Uh m.1 m.2.1.length x) 0 h &&
  (decide (0 ≤ f ∧ f < ((2 ^ m.2.1.length : Nat) : Int)) && ((Int.tmod f 2 == 0) && decide (0 ≤ o ∧ o ≤ 15)))))))) = true
 rw [hv, hh, e1, Ja (⟨hs.f0, hs.f1⟩ : 0 ≤ f ∧ f < ((2 ^ m.2.1.length : Nat) : Int)), Ja (⟨hs.o0, hs.o1⟩ : 0 ≤ o ∧ o ≤ 15), hs.f2]
 rfl
theorem XS (m : Ea) (f o : Int) (c : Bool) (h : List Wa) : Oc Zb (Li m f o c h) = Oc Sa m + h.length := by
 rw [Iu, Vu]
 have : Oc (.sl (.sl Od)) (Li m f o c h).2.1 = 0 := rfl
 rw [this, js]; rfl
theorem K2 {nl : Nat} (h4 : nl ≤ 4) {f o : Int} (hs : Fe nl f o) : 0 ≤ f ∧ f ≤ 15 := by
 have := YX h4
 have h1 := hs.f1
 have h0 := hs.f0
 omega
theorem CH {f : Int} (hf : 0 ≤ f ∧ f ≤ 15) : Lk f [] = some (Ae .i64 1 f, ()) := by
 unfold Lk
 rw [Ja (show f ≥ 0 by omega), Ja hf.2, Up [] (by decide)]
 have hs : Lr (Ae .i64 1 f) [] ((ja ([] : List Wa) : Nat) : Int) 0 = some (.inr (.inl ((Ae .i64 1 f, ()), ()))) := rfl
 simp only [cond_true, jb]
 unfold Of
 rw [Se hs]
 rfl
theorem Lu (e : Mb) (k : Int) (hn : e.2.2.2.1.length ≤ Bb) : Zm e k = some (Nd (fun h => h.1 == k) 0 e.2.2.2.1, ()) := by
 have h20 : Bb = 1048576 := rfl
 have hl := Bz (step := fun x => Cl x.1.1 x.1.2.1 x.1.2.2.1 x.1.2.2.2.1) e.2.2.2.1 (fun h => h.1 == k) (fun i => ((k, e.2.2.2.1, ((ja e.2.2.2.1 : Nat) : Int), i, ()), ())) (.inl ((), ())) (fun i => .inr ((i, ()), ()))
  (by
   intro j hj
   simp only [Cl]
   rw [Ja (show (j : Int) < ((ja e.2.2.2.1 : Nat) : Int) by omega), Yd hj]
   simp only [cond_true, jb]
   cases e.2.2.2.1[j].1 == k <;> rfl) (by
   simp only [Cl]
   rw [Ma (by omega)]; rfl) (by omega)
 unfold Zm Pl
 erw [hl]
 simp only [jb]
 by_cases hc : Nd (fun h : Wa => h.1 == k) 0 e.2.2.2.1 = -1
 ·rw [if_pos hc, hc]; rfl
 ·rw [if_neg hc]; rfl
theorem Et (a : Qa) (l : List Qa) (hn : l.length ≤ Bb) (ha : a.2.1.length ≤ Bb) (hx : ∀ x ∈ l, x.2.1.length ≤ Bb) : Vb a l = some (Ro Fp a l, ()) := by
 have h20 : Bb = 1048576 := rfl
 have hlim := Cn
 unfold Vb VK
 have e : (jx (ja l) Sb && (Ss a && l.all Ss)) = true := by
  rw [jd, jd, List.all_eq_true]
  refine ⟨ji (by omega), ji (by show ja a.2.1 ≤ _; omega), fun x hm => ji ?_⟩
  have := hx x hm
  show ja x.2.1 ≤ _
  omega
 rw [e]; rfl
theorem Yr : ∀ (l : List Qa) (a : Qa), (Ro Fp a l).length ≤ l.length
 | [], _ => by simp [Ro]
 | x :: l, a => by
  have := Yr l x
  simp only [Ro]
  cases Fp a x <;> simp <;> omega
theorem Yv (l : List Wa) : (Rf l).2.1.length ≤ 56 := LB l 56
theorem Iv : ∀ (l : List Qa) (a x : Qa), x ∈ Ro Fp a l → x ∈ l
 | [], _, x, h => by simp [Ro] at h
 | y :: l, a, x, h => by
  simp only [Ro] at h
  cases hs : Fp a y with
  | true => rw [hs] at h; exact jr _ (Iv l y x h)
  | false =>
   rw [hs] at h
   rcases jp.1 h with h | h
   ·exact h ▸ qq ..
   ·exact jr _ (Iv l y x h)
noncomputable def RK (m : Ea) (f : Int) (k : Nat) : Ga := Cr (Fg m.2.1 (Ie m (Ae .i64 1 f) k) k)
noncomputable def Lh (m : Ea) (f o : Int) (c : Bool) (k : Nat) : Int × Int × Bool × Ga := Gp f o c (RK m f k)
noncomputable def hK (m : Ea) (f o : Int) (c : Bool) (k : Nat) : List Wa := [((k : Int), (Lh m f o c k).2.2.2, ())]
noncomputable def Ln (m : Ea) (f o : Int) (c : Bool) (k : Nat) : List Qa := Ro Fp (Rf []) [Rf (hK m f o c k)]
noncomputable def TC (m : Ea) (f o : Int) (c : Bool) (k : Nat) : List Qa := Ro Fp (Rf (hK m f o c k)) [Rf []]
structure Cf (m : Ea) : Prop where
 v : Kc m = true
 z : Oc Sa m ≤ Bb - 10
theorem Pu {m : Ea} (hM : Cf m) {f o : Int} {c : Bool} (hs : Fe m.2.1.length f o) {k : Nat} (hk : (k : Int) < m.1) :
 Lw m.2.1.length (RK m f k) ∧ Fe m.2.1.length (Lh m f o c k).1 (Lh m f o c k).2.1 ∧ Lw m.2.1.length (Lh m f o c k).2.2.2 ∧ Qf (hK m f o c k) = true ∧
  (∀ x ∈ hK m f o c k, Uh m.1 m.2.1.length x = true) := by
 have hm := Re hM.v
 have h1 := DO hm (Ae .i64 1 f) hk
 have h2 := EU h1.1 h1.2
 have h3 := BY (c := c) hm.l2 hs h2
 refine ⟨h2, h3.1, h3.2, DT (by have := hm.k2; omega) h3.2, fun x hx => ?_⟩
 simp only [hK, jp, List.not_mem_nil, or_false] at hx
 subst hx
 simp only [Uh, jd, Bool.not_eq_true', Bool.and_eq_false_iff, decide_eq_false_iff_not]
 refine ⟨by omega, ?_⟩
 by_cases h9 : (Lh m f o c k).2.2.2.1 = 9
 ·exact .inl (by show ((Lh m f o c k).2.2.2.1 != 9) = false; simp [h9])
 ·exact .inr (Int.not_le.2 (h3.2.n h9))
theorem EP {m : Ea} (hM : Cf m) (f o : Int) (c : Bool) (h : List Wa) (hh : h.length ≤ 1) : Oc Zb (Li m f o c h) ≤ Bb := by
 have h20 : Bb = 1048576 := rfl
 have := hM.z
 rw [XS]; omega
theorem VF (l : List Wa) : (Rf l).2.1.length ≤ Bb := by
 have h20 : Bb = 1048576 := rfl
 have := Yv l
 omega
theorem UB : Qf [] = true := rfl
theorem DF {m : Ea} (hM : Cf m) {f o : Int} {c : Bool} (hs : Fe m.2.1.length f o) {k : Nat} (hk : (k : Int) < m.1) :
 Qr (Li m f o c []) (k : Int) false = some (Li m (Lh m f o c k).1 (Lh m f o c k).2.1 (Lh m f o c k).2.2.1 (hK m f o c k), Ln m f o c k, ()) := by
 have h20 : Bb = 1048576 := rfl
 have hm := Re hM.v
 obtain ⟨h1, h2, h3, h4, h5⟩ := Pu (o := o) (c := c) hM hs hk
 have hl := Ko hm (Ae .i64 1 f) k
 have hrow := hm.row _ hl
 unfold Qr
 rw [Ul _ (EP hM f o c [] (by simp))]
 show jz (some (Li m f o c [], ())) _ = _
 simp only [jb]
 show jz (Lk f []) _ = _
 rw [CH (K2 hm.l2 hs)]
 simp only [jb]
 show jz (Jj m (Ae .i64 1 f) (k : Int)) _ = _
 rw [Gt hm _ hk]
 simp only [jb]
 show jz (Zd m.2.1 ((Ie m (Ae .i64 1 f) k : Nat) : Int)) _ = _
 rw [AH hl (by omega)]
 simp only [cond_false]
 rw [AF]
 simp only [jb]
 show jz (Ok (m, [], f, [], o, c, ()) (RK m f k)) _ = _
 rw [ED _ _ _ _ _ _ _ h1.act]
 simp only [jb]
 have e9 : decide ((Lh m f o c k).2.2.2.2.2.2.1 < ((ja ([] : List (List Id)) : Nat) : Int)) = false := Ma (by have := HG h3.act; show ¬ _ < (0 : Int); omega)
 have hR1 : Ib (hK m f o c k) = some (Rf (hK m f o c k), ()) := Yj _ (by simp [hK]; omega) h4
 have hR0 : Ib [] = some (Rf [], ()) := Yj [] (by decide) UB
 have hC : Vb (Rf []) [Rf (hK m f o c k)] = some (Ln m f o c k, ()) := Et _ _ (by simp; omega) (VF _) (fun x hx => by
  simp only [jp, List.not_mem_nil, or_false] at hx; rw [hx]; exact VF _)
 have Oe : (jz (Ib (hK m f o c k)) fun r29 => jz (Ib ([] : List Wa)) fun r30 => jz (Vb r30.1 [r29.1]) fun r31 =>
  (some (Li m (Lh m f o c k).1 (Lh m f o c k).2.1 (Lh m f o c k).2.2.1 (hK m f o c k), r31.1, ()) : Option (Mb × ((List Qa) × Unit)))) =
  some (Li m (Lh m f o c k).1 (Lh m f o c k).2.1 (Lh m f o c k).2.2.1 (hK m f o c k), Ln m f o c k, ()) := by
  rw [hR1, hR0]
  simp only [jb]
  rw [hC]
  rfl
 have hb : jx (ja ([] : List Wa) + ja (hK m f o c k)) Sb = true := rfl
 show cond (jx (ja ([] : List Wa) + ja (hK m f o c k)) Sb) (cond ((Lh m f o c k).2.2.2.1 == 9) (cond (decide ((Lh m f o c k).2.2.2.2.2.2.1 < ((ja ([] : List (List Id)) : Nat) : Int))) _ _) _) _ = _
 rw [hb, e9]
 cases (Lh m f o c k).2.2.2.1 == 9 <;> exact Oe
theorem LQ {m : Ea} {f o : Int} {c : Bool} {k : Nat} : Nd (fun h : Wa => h.1 == (k : Int)) 0 (hK m f o c k) = 0 := by
 have e : ((k : Int) == (k : Int)) = true := by simp
 show cond ((k : Int) == (k : Int)) ((0 : Nat) : Int) _ = 0
 rw [e]; rfl
theorem BC {m : Ea} (hM : Cf m) {f o : Int} {c : Bool} (hs : Fe m.2.1.length f o) {k : Nat} (hk : (k : Int) < m.1) (f' o' : Int) (c' : Bool) :
 Wo (Li m f' o' c' (hK m f o c k)) (k : Int) = some (Li m f' o' c' [], TC m f o c k, ()) := by
 have h20 : Bb = 1048576 := rfl
 obtain ⟨h1, h2, h3, h4, h5⟩ := Pu (o := o) (c := c) hM hs hk
 have hR1 : Ib (hK m f o c k) = some (Rf (hK m f o c k), ()) := Yj _ (by simp [hK]; omega) h4
 have hR0 : Ib [] = some (Rf [], ()) := Yj [] (by decide) UB
 have hC : Vb (Rf (hK m f o c k)) [Rf []] = some (TC m f o c k, ()) := Et _ _ (by simp; omega) (VF _) (fun x hx => by
  simp only [jp, List.not_mem_nil, or_false] at hx; rw [hx]; exact VF _)
 unfold Wo
 rw [Ul _ (EP hM f' o' c' _ (by simp [hK])), Lu _ _ (by show (hK m f o c k).length ≤ _; simp [hK]; omega)]
 simp only [jb]
 have hf : Nd (fun h : Wa => h.1 == (k : Int)) 0 (Li m f' o' c' (hK m f o c k)).2.2.2.1 = 0 := LQ
 rw [hf]
 show jz (Ib (hK m f o c k)) (fun r3 => jz (Ib []) fun r4 => jz (Vb r3.1 [r4.1]) fun r5 => some (Li m f' o' c' [], r5.1, ())) = _
 rw [hR1, hR0]
 simp only [jb]
 rw [hC]
 rfl
def VC : Mb := (((0 : Int), ([] : List (List Ga)), ()), ([] : List (List Id)), (0 : Int), ([] : List Wa), (0 : Int), false, ())
theorem IC {m : Ea} (hv : Kc m = true) : Cf m := by
 have hm := Re hv
 refine ⟨hv, ?_⟩
 have h20 : Bb = 1048576 := rfl
 have h1 : Oc Sa m = 0 + (Oc (.sl (.sl Vc)) m.2.1 + 0) := rfl
 have h2 : Oc (.sl (.sl Vc)) m.2.1 ≤ (32 + 1) * ja m.2.1 := XF (e := .sl Vc) (c := 32) fun x hx => by
  obtain ⟨i, hi, rfl⟩ := qm hx
  rw [AI]
  have := hm.row i hi
  have := hm.k2
  omega
 have := hm.l2
 omega
abbrev St := (Int × Int × Bool) × List Qa
noncomputable def gT (m : Ea) (s : St) (k : Int) : St ⊕ Unit :=
 cond (decide (0 ≤ k ∧ k < m.1)) (.inl (((Lh m s.1.1 s.1.2.1 s.1.2.2 k.toNat).1, (Lh m s.1.1 s.1.2.1 s.1.2.2 k.toNat).2.1, (Lh m s.1.1 s.1.2.1 s.1.2.2 k.toNat).2.2.1),
  jf (jf s.2 (Ln m s.1.1 s.1.2.1 s.1.2.2 k.toNat)) (TC m s.1.1 s.1.2.1 s.1.2.2 k.toNat))) (.inr ())
structure YP (m : Ea) (k : Nat) (s : St) : Prop where
 st : Fe m.2.1.length s.1.1 s.1.2.1
 len : s.2.length ≤ 2 * k
 rep : ∀ x ∈ s.2, x.2.1.length ≤ 56
theorem GW {m : Ea} (hM : Cf m) {k : Nat} {s s' : St} {x : Int} (hi : YP m k s) (h : gT m s x = .inl s') : YP m (k + 1) s' := by
 unfold gT at h
 by_cases hx : 0 ≤ x ∧ x < m.1
 ·rw [Ja hx] at h
  simp only [cond_true, Sum.inl.injEq] at h
  obtain ⟨n, rfl⟩ := jv hx.1
  rw [jn] at h
  obtain ⟨h1, h2, h3, h4, h5⟩ := Pu (o := s.1.2.1) (c := s.1.2.2) hM hi.st hx.2
  subst h
  refine ⟨h2, ?_, ?_⟩
  ·have e1 : (Ln m s.1.1 s.1.2.1 s.1.2.2 n).length ≤ 1 := Yr _ _
   have e2 : (TC m s.1.1 s.1.2.1 s.1.2.2 n).length ≤ 1 := Yr _ _
   have := hi.len
   show (jf (jf s.2 _) _).length ≤ _
   simp only [List.append_eq, qd]
   omega
  ·intro y hy
   have hy' : y ∈ (s.2 ++ Ln m s.1.1 s.1.2.1 s.1.2.2 n) ++ TC m s.1.1 s.1.2.1 s.1.2.2 n := hy
   rw [jl, jl] at hy'
   rcases hy' with (hy' | hy') | hy'
   ·exact hi.rep y hy'
   ·have := Iv _ _ _ hy'
    simp only [jp, List.not_mem_nil, or_false] at this
    rw [this]; exact Yv _
   ·have := Iv _ _ _ hy'
    simp only [jp, List.not_mem_nil, or_false] at this
    rw [this]; exact Yv _
 ·rw [Ma hx] at h; simp at h
theorem ZE {m : Ea} (hM : Cf m) {f o : Int} {c : Bool} (hs : Fe m.2.1.length f o) (x : Int) :
 To (Li m f o c []) x false = some (cond (decide (0 ≤ x ∧ x < m.1)) (Li m (Lh m f o c x.toNat).1 (Lh m f o c x.toNat).2.1 (Lh m f o c x.toNat).2.2.1 (hK m f o c x.toNat), Ln m f o c x.toNat, true, ()) (VC, [], false, ())) := by
 have h20 : Bb = 1048576 := rfl
 have hv := Kv hM.v hs c UB (by simp)
 unfold To
 rw [Wn _ (EP hM f o c [] (by simp)), hv]
 simp only [jb, jg, cond_false]
 by_cases hx : 0 ≤ x ∧ x < m.1
 ·rw [Ja hx, Ma (show ¬ x < 0 by omega)]
  show cond (decide (x ≥ m.1)) _ _ = _
  rw [Ma (show ¬ x ≥ m.1 by omega), Lu _ _ (by show (0 : Nat) ≤ _; omega)]
  obtain ⟨n, rfl⟩ := jv hx.1
  rw [DF hM hs hx.2, jn]
  simp only [cond_false, jb]
  show cond (decide ((-1 : Int) ≥ 0)) _ _ = _
  rw [Ma (by decide)]; rfl
 ·rw [Ma hx]
  by_cases h0 : x < 0
  ·rw [Ja h0]; rfl
  ·rw [Ma h0]
   show cond (decide (x ≥ m.1)) _ _ = _
   rw [Ja (show x ≥ m.1 by omega)]; rfl
def eS (m : Ea) (s : St) : Mb := Li m s.1.1 s.1.2.1 s.1.2.2 []
noncomputable def QR (m : Ea) (s : St) (keys : List Int) : Mb × ((List Qa) × (Bool × Unit)) :=
 match Le (fun _ s x => gT m s x) 0 s keys with | .inl s' => (eS m s', s'.2, true, ()) | .inr _ => (VC, [], false, ())
theorem XB {m : Ea} (hM : Cf m) {f o : Int} {c : Bool} (hs : Fe m.2.1.length f o) (keys : List Int) (hn : keys.length ≤ Bb) : Uo (Li m f o c []) keys = some (QR m ((f, o, c), []) keys) := by
 have h20 : Bb = 1048576 := rfl
 have hlim := Cn
 have hl := Kq (step := fun x => Zj x.1.1 x.1.2.1 x.1.2.2.1 x.1.2.2.2.1 x.1.2.2.2.2.1 x.1.2.2.2.2.2.1 x.2.1 x.2.2.1) keys (fun _ s x => gT m s x) (fun s i => (((), (), s.2, keys, ((ja keys : Nat) : Int), i, ()), (VC, eS m s, ())))
  (fun s => .inl (((), (), s.2, ()), (VC, eS m s, ()))) (fun _ => .inr (((), ([] : List Qa), false, ()), (VC, ()))) (YP m) (by
   intro k hk s hi
   refine ⟨?_, fun s' h => GW hM hi h⟩
   simp only [Zj]
   rw [Ja (show (k : Int) < ((ja keys : Nat) : Int) by omega), Yd hk]
   simp only [cond_true, jb]
   generalize keys[k] = x
   show jz (To (Li m s.1.1 s.1.2.1 s.1.2.2 []) x false) _ = _
   rw [ZE hM hi.st]
   unfold gT
   by_cases hx : 0 ≤ x ∧ x < m.1
   ·rw [Ja hx]
    simp only [cond_true, jb, jg, cond_false]
    obtain ⟨n, rfl⟩ := jv hx.1
    rw [jn, BC hM hi.st hx.2]
    have e1 : (Ln m s.1.1 s.1.2.1 s.1.2.2 n).length ≤ 1 := Yr _ _
    have e2 : (TC m s.1.1 s.1.2.1 s.1.2.2 n).length ≤ 1 := Yr _ _
    have := hi.len
    simp only [jb]
    rw [show jx (ja s.2 + ja (Ln m s.1.1 s.1.2.1 s.1.2.2 n)) Sb = true from ji (by omega),
     show jx (ja (jf s.2 (Ln m s.1.1 s.1.2.1 s.1.2.2 n)) + ja (TC m s.1.1 s.1.2.1 s.1.2.2 n)) Sb = true from ji (by simp only [List.append_eq, qd]; omega)]
    rfl
   ·rw [Ma hx]; rfl)
  (by
   intro s _
   simp only [Zj]
   rw [Ma (by omega)]; rfl) (by omega) ((f, o, c), []) ⟨hs, by simp, by simp⟩
 have hv := Kv hM.v hs c UB (by simp)
 unfold Uo Wk
 rw [Wn _ (EP hM f o c [] (by simp)), hv, Ul _ (EP hM f o c [] (by simp))]
 simp only [jb, jg, cond_false]
 erw [hl]
 unfold QR
 simp only [jb]
 cases Le (fun x s x => gT m s x) 0 ((f, o, c), []) keys <;> rfl
def GL (p : Int → Bool) : Nat → List Int
 | 0 => []
 | n + 1 => cond (p ((n + 1 : Nat) : Int)) (GL p n ++ [((n + 1 : Nat) : Int)]) (GL p n)
def WY (s : Int) (D : List Jc) : Int := Ag (fun _ s (p : Jc) => Ae .i64 s p.2.1) 0 s D
def EM (b : Qa) (D : List Jc) : Qa := (WY b.1 D, GL (fun c => b.2.1.any (fun y => y == c) || D.any (fun p => p.1 == c)) 56, ())

noncomputable def rM (L : List Wa) (x : Id) : Int := Nd (Vq x.2.1 x.2.2.1) 0 L
noncomputable def XY (b : Qa) (L : List Wa) (x : Id) : List Qa :=
 cond (x.1 == 0) [EM b ((jf L [YG x]).map We), EM b (L.map We)] [EM b ((KH x L (rM L x)).map We)]
noncomputable def mG (b : Qa) (s : List Qa × List Wa) (x : Id) : List Qa × List Wa := (jf s.1 (XY b s.2 x), KH x s.2 (rM s.2 x))
noncomputable def NX (b : Qa) (l : List Id) : List Qa := (Ag (fun _ s x => mG b s x) 0 ([], []) l).1
structure G5 (l : List Id) (k : Nat) (s : List Qa × List Wa) : Prop where
 ok : ∃ L', Le (fun _ L x => Pv L x) k s.2 (l.drop k) = .inl L'
 len : s.2.length ≤ k
 out : s.1.length ≤ 2 * k
 cod : ∀ h ∈ s.2, 0 ≤ h.2.1.2.1 ∧ h.2.1.2.1 ≤ 56
theorem Ca {n m : Nat} (h : n ≤ 1000) (hm : m ≤ 10) : jx (n + m) Sb = true := ji (by rw [Cn]; omega)

def FJ (f : Int) (l : List Wa) : Int := Ag (fun _ s (h : Wa) => cond (h.2.1.1 == 3) (Ae .i64 s (Qe .i64 1 h.2.1.2.2.2.1)) s) 0 (Ae .i64 1 f) l
theorem MC {a : Nat} (ha : a < 2 ^ 63) (x : Wa) : Pk (a : Int) x = true ↔ Eu x ∧ a.testBit x.1.toNat = false := by
 constructor
 ·intro h
  obtain ⟨h1, h2⟩ := HO h
  refine ⟨h1, ?_⟩
  have hx : x.1 = ((x.1.toNat : Nat) : Int) := (Int.toNat_of_nonneg h1.lo).symm
  have := Mz (a := a) (k := x.1.toNat) ha (by have := h1.hi; omega)
  rw [← hx] at this
  rw [← this]
  simp [h2]
 ·rintro ⟨h1, h2⟩
  have hx : x.1 = ((x.1.toNat : Nat) : Int) := (Int.toNat_of_nonneg h1.lo).symm
  have := Mz (a := a) (k := x.1.toNat) ha (by have := h1.hi; omega)
  rw [← hx, h2] at this
  simp only [Pk, jd, decide_eq_true_eq, Bool.not_eq_true', beq_eq_false_iff_ne]
  exact ⟨⟨h1.lo, h1.hi⟩, by rw [beq_eq_false_iff_ne] at this; exact this, h1.act, h1.n1, h1.n6, h1.n7⟩
theorem Wy : ∀ (l : List Wa) (k a : Nat), a < 2 ^ 63 → (FC (Le (fun _ s x => Nn s x) k (a : Int) l) = true ↔
 (∀ x ∈ l, Eu x ∧ a.testBit x.1.toNat = false) ∧ l.Pairwise (fun x y => x.1 ≠ y.1))
 | [], k, a, ha => by simp [Le, FC]
 | y :: l, k, a, ha => by
  simp only [Le]
  cases hc : Pk (a : Int) y with
  | false =>
   rw [show Nn (a : Int) y = .inr () by unfold Nn; rw [hc]; rfl]
   simp only [FC, jq, false_iff]
   rintro ⟨h, _⟩
   have := (MC ha y).2 (h y (qq ..))
   rw [hc] at this; cases this
  | true =>
   rw [show Nn (a : Int) y = .inl (Ae .i64 (a : Int) (Qe .i64 1 y.1)) by unfold Nn; rw [hc]; rfl]
   simp only []
   obtain ⟨hy, hb⟩ := (MC ha y).1 hc
   have h1 := hy.lo; have h2 := hy.hi
   have hyx : y.1 = ((y.1.toNat : Nat) : Int) := (Int.toNat_of_nonneg h1).symm
   have e : Ae .i64 (a : Int) (Qe .i64 1 y.1) = ((a ||| 2 ^ y.1.toNat : Nat) : Int) := by
    conv => lhs; rw [hyx]
    rw [OD (by omega), JT ha (JO (by omega))]
   rw [e, Wy l (k + 1) _ (Nat.or_lt_two_pow ha (JO (by omega)))]
   have tb : ∀ n, (a ||| 2 ^ y.1.toNat).testBit n = false ↔ a.testBit n = false ∧ y.1.toNat ≠ n := by
    intro n
    rw [Nat.testBit_or, Nat.testBit_two_pow, Bool.or_eq_false_iff, decide_eq_false_iff_not]
   simp only [jp, List.pairwise_cons, forall_eq_or_imp]
   constructor
   ·rintro ⟨h, hp⟩
    refine ⟨⟨⟨hy, hb⟩, fun x hx => ⟨(h x hx).1, ((tb _).1 (h x hx).2).1⟩⟩, fun x hx hxy => ?_, hp⟩
    exact ((tb _).1 (h x hx).2).2 (by rw [hxy])
   ·rintro ⟨⟨_, h⟩, hq, hp⟩
    refine ⟨fun x hx => ⟨(h x hx).1, (tb _).2 ⟨(h x hx).2, fun hn => hq x hx ?_⟩⟩, hp⟩
    have := (h x hx).1.lo
    omega
theorem OQ (l : List Wa) : Qf l = true ↔ (∀ x ∈ l, Eu x) ∧ l.Pairwise (fun x y => x.1 ≠ y.1) := by
 have := Wy l 0 0 (by decide)
 unfold Qf EL
 erw [this]
 simp
theorem CA : ∀ (n : Nat) (l : List Nat), l.Nodup → (∀ x ∈ l, x < n) → l.length ≤ n
 | 0, l, _, h => by
  cases l with
  | nil => exact jo _
  | cons x l => exact absurd (h x (qq ..)) (Nat.not_lt_zero _)
 | n + 1, l, hn, h => by
  have := CA n (l.erase n) (hn.erase n) (fun x hx => by
   have h1 := (hn.mem_erase_iff).1 hx
   have := h x h1.2
   have := h1.1
   omega)
  have h2 := List.length_erase (a := n) (l := l)
  split at h2 <;> omega
theorem ET {l : List Wa} (h : Qf l = true) : l.length ≤ 32 := by
 rw [OQ] at h
 have hn : (l.map fun x => x.1.toNat).Nodup := by
  rw [List.Nodup, List.pairwise_map]
  refine (List.Pairwise.and_mem.1 h.2).imp ?_
  rintro x y ⟨hx, hy, hxy⟩ he
  have h1 := (h.1 x hx).lo; have h2 := (h.1 y hy).lo
  omega
 have hs : ∀ y ∈ (l.map fun x => x.1.toNat), y < 32 := by
  intro y hy
  obtain ⟨x, hx, rfl⟩ := qn.1 hy
  have := (h.1 x hx).hi; have := (h.1 x hx).lo
  omega
 have := CA 32 _ hn hs
 simpa using this
abbrev Bf := List (Int × List Int)
theorem Xl {α : Type} : ∀ {W : List (Int × α)} {x : Int} {w : α}, Tb W x = some w → (x, w) ∈ W
 | [], x, w, h => by simp [Tb] at h
 | (k, y) :: r, x, w, h => by
  simp only [Tb] at h
  cases hk : x == k with
  | true => rw [hk] at h; simp at h hk; subst h; subst hk; simp
  | false => rw [hk] at h; exact jr _ (Xl h)
theorem JE {α : Type} : ∀ {W : List (Int × α)} {x : Int}, Tb W x = none ↔ ∀ e ∈ W, e.1 ≠ x
 | [], x => by simp [Tb]
 | (k, y) :: r, x => by
  simp only [Tb]
  cases hk : x == k with
  | true => simp at hk; subst hk; simp
  | false =>
   simp at hk
   simp only [cond_false, JE (W := r), List.forall_mem_cons]
   exact ⟨fun h => ⟨fun e => hk e.symm, h⟩, fun h => h.2⟩
theorem My {α : Type} : ∀ {W : List (Int × α)} {x : Int} {w : α}, (W.map Prod.fst).Nodup → (x, w) ∈ W → Tb W x = some w
 | [], x, w, _, h => by simp at h
 | (k, y) :: r, x, w, hn, h => by
  simp only [List.map_cons, List.nodup_cons] at hn
  simp only [Tb]
  rcases jp.1 h with h | h
  ·simp only [jh] at h
   rw [h.1, h.2]; simp
  ·have : x ≠ k := fun e => hn.1 (qn.2 ⟨(x, w), h, e⟩)
   rw [show (x == k) = false by simpa using this]
   exact My hn.2 h
theorem LE {α : Type} : ∀ {W : List (Int × α)} {x : Int} (y : α), Tb W x = none → Dp W x y = W ++ [(x, y)]
 | [], x, y, _ => rfl
 | (k, z) :: r, x, y, h => by
  simp only [Tb] at h
  simp only [Dp]
  cases hk : x == k with
  | true => rw [hk] at h; simp at h
  | false => rw [hk] at h; simp only [cond_false] at h ⊢; rw [LE y h]; rfl
section
variable (nx : Int → Nat → Int) (K : Nat) (fr : Int) (P : Int → Prop)
def Jz (x : Int) (w : List Int) (k : Nat) (W : Bf) : Bf := cond (Tb W (nx x k)).isSome W (W ++ [(nx x k, w ++ [(k : Int)])])
def Hr (x : Int) (w : List Int) (n : Nat) (W : Bf) : Bf := Sh (Jz nx x w) n W
def WD : Nat → Nat → Bf → Bf
 | 0, _, W => W
 | n + 1, i, W => match W[i]? with
  | none => W
  | some e => WD n (i + 1) (Hr nx e.1 e.2 K W)
def Hq (f : Int) (w : List Int) : Int := w.foldl (fun f k => nx f k.toNat) f
structure BIn (W : Bf) : Prop where
 fst : W[0]? = some (fr, [])
 nd : (W.map Prod.fst).Nodup
 ok : ∀ e ∈ W, P e.1
 way : ∀ e ∈ W, Hq nx fr e.2 = e.1 ∧ ∀ k ∈ e.2, 0 ≤ k ∧ k < (K : Int)
 srt : ∀ (i j : Nat) (hj : j < W.length) (hi : i ≤ j), (W[i]'(by omega)).2.length ≤ W[j].2.length
 ln : ∀ (j : Nat) (hj : j < W.length), W[j].2.length ≤ j
structure VA (i k : Nat) (W : Bf) : Prop extends BIn nx K fr P W where
 lvl : ∀ (h : i < W.length) (j : Nat) (hj : j < W.length), W[j].2.length ≤ W[i].2.length + 1
 cls : ∀ (j : Nat) (hj : j < W.length) (k' : Nat), j < i ∧ k' < K ∨ j = i ∧ k' < k → ∃ (q : Nat) (hq : q < W.length), W[q].1 = nx W[j].1 k' ∧ W[q].2.length ≤ W[j].2.length + 1
end
section
variable {nx : Int → Nat → Int} {K : Nat} {fr : Int} {P : Int → Prop}
theorem BL (f : Int) (w : List Int) (k : Nat) : Hq nx f (w ++ [(k : Int)]) = nx (Hq nx f w) k := by simp [Hq]
theorem ZV (hP : ∀ x k, P x → k < K → P (nx x k)) {i k : Nat} {W : Bf} (h : VA nx K fr P i k W) (hi : i < W.length) (hk : k < K) : VA nx K fr P i (k + 1) (Jz nx W[i].1 W[i].2 k W) ∧ W <+: Jz nx W[i].1 W[i].2 k W := by
 unfold Jz
 cases hg : Tb W (nx W[i].1 k) with
 | some w =>
  simp only [Option.isSome_some, cond_true]
  refine ⟨{ toBIn := h.toBIn, lvl := h.lvl, cls := fun j hj k' hjk => ?_ }, List.prefix_refl _⟩
  by_cases hlast : j = i ∧ k' = k
  ·obtain ⟨rfl, rfl⟩ := hlast
   obtain ⟨q, hq, he⟩ := qm (Xl hg)
   refine ⟨q, hq, by rw [he], ?_⟩
   exact h.lvl hj q hq
  ·exact h.cls j hj k' (by omega)
 | none =>
  simp only [Option.isSome_none, cond_false]
  have hlen : (W ++ [(nx W[i].1 k, W[i].2 ++ [(k : Int)])]).length = W.length + 1 := by simp
  have hget : ∀ (j : Nat) (hj : j < W.length), (W ++ [(nx W[i].1 k, W[i].2 ++ [(k : Int)])])[j]'(by omega) = W[j] := fun j hj => List.getElem_append_left hj
  have hnew : (W ++ [(nx W[i].1 k, W[i].2 ++ [(k : Int)])])[W.length]'(by omega) = (nx W[i].1 k, W[i].2 ++ [(k : Int)]) := by simp
  have hcase : ∀ j : Nat, j < (W ++ [(nx W[i].1 k, W[i].2 ++ [(k : Int)])]).length → j < W.length ∨ j = W.length := fun j hj => by omega
  have hw := h.way W[i] (ql hi)
  refine ⟨{ fst := ?_, nd := ?_, ok := ?_, way := ?_, srt := ?_, ln := ?_, lvl := ?_, cls := ?_ }, List.prefix_append _ _⟩
  ·have h0 := h.fst
   rw [qf (by omega)]
   exact h0
  ·rw [List.map_append, List.nodup_append]
   refine ⟨h.nd, by simp, ?_⟩
   intro a ha b hb
   simp only [List.map_cons, List.map_nil, qc] at hb
   subst hb
   obtain ⟨e, he, rfl⟩ := qn.1 ha
   exact JE.1 hg e he
  ·intro e he
   rcases jl.1 he with he | he
   ·exact h.ok e he
   ·simp only [qc] at he
    subst he
    exact hP _ _ (h.ok _ (ql hi)) hk
  ·intro e he
   rcases jl.1 he with he | he
   ·exact h.way e he
   ·simp only [qc] at he
    subst he
    refine ⟨by rw [BL, hw.1], fun q hq => ?_⟩
    rcases jl.1 hq with hq | hq
    ·exact hw.2 q hq
    ·simp only [qc] at hq
     subst hq
     omega
  ·intro a b hb hab
   rcases hcase b hb with hb' | rfl
   ·rw [hget a (by omega), hget b hb']
    exact h.srt a b hb' hab
   ·rcases hcase a (by omega) with ha | rfl
    ·rw [hget a ha, hnew]
     have := h.lvl hi a ha
     simpa using this
    ·exact jo _
  ·intro j hj
   rcases hcase j hj with hj' | rfl
   ·rw [hget j hj']; exact h.ln j hj'
   ·rw [hnew]
    have := h.ln i hi
    simp
    omega
  ·intro _ j hj
   rw [hget i hi]
   rcases hcase j hj with hj' | rfl
   ·rw [hget j hj']; exact h.lvl hi j hj'
   ·rw [hnew]; simp
  ·intro j hj k' hjk
   have hj' : j < W.length := by omega
   rw [hget j hj']
   by_cases hlast : j = i ∧ k' = k
   ·obtain ⟨rfl, rfl⟩ := hlast
    exact ⟨W.length, by omega, by rw [hnew], by rw [hnew]; simp⟩
   ·obtain ⟨q, hq, h1, h2⟩ := h.cls j hj' k' (by omega)
    exact ⟨q, by omega, by rw [hget q hq]; exact h1, by rw [hget q hq]; exact h2⟩
theorem NB (hP : ∀ x k, P x → k < K → P (nx x k)) {i : Nat} {W : Bf} (h : VA nx K fr P i 0 W) (hi : i < W.length) : ∀ n, n ≤ K → VA nx K fr P i n (Hr nx W[i].1 W[i].2 n W) ∧ W <+: Hr nx W[i].1 W[i].2 n W
 | 0, _ => ⟨h, List.prefix_refl _⟩
 | n + 1, hn => by
  obtain ⟨h1, h2⟩ := NB hP h hi n (by omega)
  have hi' : i < (Hr nx W[i].1 W[i].2 n W).length := qj hi h2.length_le
  have he : (Hr nx W[i].1 W[i].2 n W)[i] = W[i] := by
   obtain ⟨t, ht⟩ := h2
   have : (W ++ t)[i]? = some W[i] := by rw [qf hi, je hi]
   rw [ht, je hi'] at this
   exact Option.some.inj this
  obtain ⟨g1, g2⟩ := ZV hP h1 hi' (by omega)
  rw [he] at g1 g2
  exact ⟨g1, h2.trans g2⟩
theorem KJ {i : Nat} {W : Bf} (h : VA nx K fr P i K W) (hi : i < W.length) : VA nx K fr P (i + 1) 0 W where
 toBIn := h.toBIn
 lvl := fun h1 j hj => by
  have := h.lvl hi j hj
  have := h.srt i (i + 1) h1 (by omega)
  omega
 cls := fun j hj k' hjk => h.cls j hj k' (by omega)
structure JU (nx : Int → Nat → Int) (K : Nat) (fr : Int) (P : Int → Prop) (W : Bf) : Prop extends BIn nx K fr P W where
 len : W.length ≤ 16
 cls : ∀ e ∈ W, ∀ k, k < K → ∃ e' ∈ W, e'.1 = nx e.1 k ∧ e'.2.length ≤ e.2.length + 1
theorem Gu (hB : ∀ x, P x → 0 ≤ x ∧ x < 16) {W : Bf} (h : BIn nx K fr P W) : W.length ≤ 16 := by
 have hn : (W.map fun e => e.1.toNat).Nodup := by
  have := h.nd
  rw [List.Nodup, List.pairwise_map] at this ⊢
  refine (List.Pairwise.and_mem.1 this).imp ?_
  rintro x y ⟨hx, hy, hxy⟩ he
  have h1 := hB _ (h.ok x hx); have h2 := hB _ (h.ok y hy)
  omega
 have := CA 16 _ hn (by
  intro y hy
  obtain ⟨x, hx, rfl⟩ := qn.1 hy
  have := hB _ (h.ok x hx)
  omega)
 simpa using this
theorem KM (hB : ∀ x, P x → 0 ≤ x ∧ x < 16) (hP : ∀ x k, P x → k < K → P (nx x k)) : ∀ (n i : Nat) (W : Bf), VA nx K fr P i 0 W → 17 ≤ n + i → JU nx K fr P (WD nx K n i W)
 | 0, i, W, h, hn => by
  have hl := Gu hB h.toBIn
  refine { toBIn := h.toBIn, len := hl, cls := fun e he k hk => ?_ }
  obtain ⟨j, hj, rfl⟩ := qm (l := W) he
  obtain ⟨q, hq, h1, h2⟩ := h.cls j hj k (.inl ⟨by omega, hk⟩)
  exact ⟨_, ql hq, h1, h2⟩
 | n + 1, i, W, h, hn => by
  simp only [WD]
  by_cases hi : i < W.length
  ·rw [je hi]
   obtain ⟨h1, h2⟩ := NB hP h hi K (jo _)
   exact KM hB hP n (i + 1) _ (KJ h1 (qj hi h2.length_le)) (by omega)
  ·rw [List.getElem?_eq_none (by omega)]
   have hl := Gu hB h.toBIn
   refine { toBIn := h.toBIn, len := hl, cls := fun e he k hk => ?_ }
   obtain ⟨j, hj, rfl⟩ := qm (l := W) he
   obtain ⟨q, hq, g1, g2⟩ := h.cls j hj k (.inl ⟨by omega, hk⟩)
   exact ⟨_, ql hq, g1, g2⟩
theorem ZH (h : P fr) : VA nx K fr P 0 0 [(fr, [])] where
 fst := rfl
 nd := by simp
 ok := fun e he => by simp at he; subst he; exact h
 way := fun e he => by simp at he; subst he; exact ⟨rfl, by simp⟩
 srt := fun i j hj hi => by
  have : j = 0 := by simpa using hj
  have : i = 0 := by omega
  subst i; subst j; exact jo _
 ln := fun j hj => by
  have : j = 0 := by simpa using hj
  subst j; simp
 lvl := fun _ j hj => by
  have : j = 0 := by simpa using hj
  subst j; simp
 cls := fun j hj k' h => by omega
end
def Qg (m : Ea) (f : Int) (k : Nat) : Int := Po f (Fg m.2.1 (Ie m f k) k)
theorem RO (f o : Int) (c : Bool) (a : Ga) (ha : Cc a = true) : (Gp f o c (Cr a)).1 = Po f a := by
 have h0 : ∀ b : Ga, (Gp f o c b).1 = Po f b := fun b => by
  unfold Gp Po
  by_cases h2 : b.1 = 2
  ·simp only [h2, Int.reduceBEq, cond_true, cond_false]
   cases b.2.1 == 0 <;> simp only [cond_true, cond_false]
  ·simp only [show (b.1 == 2) = false by simpa using h2, cond_false]
   generalize Xo .i64 f (Qe .i64 1 b.2.2.2.1) = X
   generalize Hg .i64 (Qe .i64 1 b.2.2.2.1) 1 = Y
   cases b.1 == 4 with
   | true => simp only [cond_true]
   | false =>
    simp only [cond_false]
    cases b.1 == 5 with
    | true => simp only [cond_true]
    | false =>
     simp only [cond_false]
     cases b.1 == 8 with
     | true => simp only [cond_true]
     | false =>
      simp only [cond_false]
      cases b.1 == 10 <;> simp only [cond_true, cond_false]
 rw [h0]
 unfold Cr
 cases ht : Di a with
 | false => rfl
 | true =>
  unfold Di at ht
  simp only [jd, Bool.or_eq_true, beq_iff_eq] at ht
  rw [cond_true]
  unfold Po
  rcases ht.2 with h | h <;> simp only [h, Int.reduceBEq, cond_false]
theorem GO {m : Ea} (hM : Cf m) {f o : Int} (hs : Fe m.2.1.length f o) (c : Bool) {k : Nat} (hk : (k : Int) < m.1) : (Lh m f o c k).1 = Qg m f k := by
 have hm := Re hM.v
 have hl2 := hm.l2
 have hf1 := hs.f1
 have hp : 2 ^ m.2.1.length ≤ 2 ^ 4 := qk (by omega) hl2
 have hsame : Ie m (Ae .i64 1 f) k = Ie m f k := Yt _ fun j hj => PB hs.f0 (by omega) hs.f2 j (by omega)
 have hl := Ko hm f k
 have hrow := hm.row _ hl
 have hact := hm.act _ hl k (by omega)
 rw [← Np hl (by omega)] at hact
 unfold Lh RK Qg
 rw [hsame]
 exact RO f o c _ (Ks hact)
theorem NL {m : Ea} (hM : Cf m) {f : Int} {k : Nat} (hs : Fe m.2.1.length f 0) (hk : (k : Int) < m.1) : Fe m.2.1.length (Qg m f k) 0 := by
 have h1 := (Pu (c := false) hM hs hk).2.1
 rw [GO hM hs false hk] at h1
 exact ⟨h1.f0, h1.f1, h1.f2, by omega, by omega⟩
theorem Qt {m : Ea} (hM : Cf m) {x : Int} (hs : Fe m.2.1.length x 0) : 0 ≤ x ∧ x < 16 := by
 have hl2 := (Re hM.v).l2
 have hf1 := hs.f1
 have hp : 2 ^ m.2.1.length ≤ 2 ^ 4 := qk (by omega) hl2
 exact ⟨hs.f0, by omega⟩
def Zg (m : Ea) : Nat := m.1.toNat
def Mm (m : Ea) (fr : Int) : Bf := WD (Qg m) (Zg m) 17 0 [(fr, [])]
abbrev BT (m : Ea) (fr : Int) := VA (Qg m) (Zg m) fr (fun x => Fe m.2.1.length x 0)
theorem Js {m : Ea} (hM : Cf m) : (Zg m : Int) = m.1 ∧ Zg m ≤ 32 := by
 have hm := Re hM.v
 have := hm.k1
 have := hm.k2
 unfold Zg
 omega
theorem IW {m : Ea} (hM : Cf m) : ∀ x k, Fe m.2.1.length x 0 → k < Zg m → Fe m.2.1.length (Qg m x k) 0 := fun x k hx hk => NL hM hx (by have := Js hM; omega)
theorem UA {m : Ea} (hM : Cf m) {fr : Int} (h : Fe m.2.1.length fr 0) : JU (Qg m) (Zg m) fr (fun x => Fe m.2.1.length x 0) (Mm m fr) :=
 KM (fun x hx => Qt hM hx) (IW hM) 17 0 _ (ZH h) (by omega)
theorem I2 {m : Ea} {fr : Int} {W W' : Bf} {i k : Nat} (h : BT m fr i k W') (hi : i < W.length) (hp : W <+: W') : Tb W' W[i].1 = some W[i].2 :=
 My h.nd (hp.subset (ql hi))
theorem TS {m : Ea} (hM : Cf m) {fr : Int} {i k : Nat} {W : Bf} (h : BT m fr i k W) {x : Int} {w : List Int} (hx : Tb W x = some w) : w.length ≤ 16 := by
 obtain ⟨j, hj, he⟩ := qm (Xl hx)
 have h1 := h.ln j hj
 rw [he] at h1
 have := Gu (fun x hx => Qt hM hx) h.toBIn
 simp only at h1
 omega
def Gf (i : Nat) (W : Bf) : List Int := (W.map Prod.fst).drop i
theorem ZO {i : Nat} {W : Bf} (x : Int) (w : List Int) (h : i ≤ W.length) : Gf i (W ++ [(x, w)]) = Gf i W ++ [x] := by
 unfold Gf
 rw [List.map_append, List.drop_append_of_le_length (by simpa using h)]
 rfl
theorem TA (i : Nat) (W : Bf) : (Gf i W).length = W.length - i := by simp [Gf]
theorem ZB {l : List Int} (h : l.length ≤ 1000) : Uf l = some (l, ()) := by
 unfold Uf
 rw [Dn (by simp; omega)]
 rfl
theorem DH {m : Ea} (hM : Cf m) {fr : Int} {i : Nat} {W : Bf} (h : BT m fr i 0 W) (hi : i < W.length) :
 Ck (((), W, Gf (i + 1) W, W[i].1, m.1, (0 : Int), ()), (m, ())) = some (.inl (((), Hr (Qg m) W[i].1 W[i].2 (Zg m) W, Gf (i + 1) (Hr (Qg m) W[i].1 W[i].2 (Zg m) W), ()), (m, ()))) := by
 have hm := Re hM.v
 obtain ⟨k1, k2⟩ := Js hM
 have hl := Az (step := fun x : (Unit × Bf × List Int × Int × Int × Int × Unit) × Ea × Unit => Pn x.1.1 x.1.2.1 x.1.2.2.1 x.1.2.2.2.1 x.1.2.2.2.2.1 x.1.2.2.2.2.2.1 x.2.1) (Zg m) (by omega)
  (Jz (Qg m) W[i].1 W[i].2) W (fun W' k => (((), W', Gf (i + 1) W', W[i].1, m.1, k, ()), (m, ()))) (fun W' => .inl (((), W', Gf (i + 1) W', ()), (m, ()))) (by
   intro k hk
   obtain ⟨g1, g2⟩ := NB (IW hM) h hi k (by omega)
   have hgt := I2 g1 hi g2
   have hln := TS hM g1 hgt
   have hlen := Gu (fun x hx => Qt hM hx) g1.toBIn
   have hle := g2.length_le
   have htl := TA (i + 1) (Hr (Qg m) W[i].1 W[i].2 k W)
   have hit : Sh (Jz (Qg m) W[i].1 W[i].2) k W = Hr (Qg m) W[i].1 W[i].2 k W := rfl
   rw [hit]
   generalize hW' : Hr (Qg m) W[i].1 W[i].2 k W = W' at hgt hlen hle htl g1
   simp only [Pn]
   rw [Ja (by omega), Sq hm W[i].1 (by omega)]
   simp only [cond_true, jb]
   rw [show Po W[i].1 (Fg m.2.1 (Ie m W[i].1 k) k) = Qg m W[i].1 k from rfl]
   unfold Jz
   cases hg : Tb W' (Qg m W[i].1 k) with
   | some w => rfl
   | none =>
    simp only [Option.isSome_none, Bool.not_false, cond_true, cond_false]
    rw [hgt]
    simp only [Option.getD_some]
    rw [ZB (by omega)]
    simp only [jb]
    rw [Dn (by simp; omega), Dn (by rw [htl]; simp; omega), LE _ hg, ZO _ _ (by omega)]
    rfl) (by
   simp only [Pn]
   rw [Ma (by omega)]; rfl)
 unfold Ck
 exact hl
theorem YO {i : Nat} {W : Bf} (h : i < W.length) : Gf i W = W[i].1 :: Gf (i + 1) W := by
 unfold Gf
 rw [List.drop_eq_getElem_cons (by simpa using h)]
 simp
theorem Jw {m : Ea} (hM : Cf m) {fr : Int} : ∀ (n i : Nat) (W : Bf), BT m fr i 0 W → 17 ≤ n + i →
 Jh (((), W, Gf i W, ()), (m, ())) = some (.inl ((WD (Qg m) (Zg m) n i W, ()), ()))
 | n, i, W, h, hn => by
  have hlen := Gu (fun x hx => Qt hM hx) h.toBIn
  by_cases hi : i < W.length
  ·obtain ⟨n', rfl⟩ : ∃ n', n = n' + 1 := ⟨n - 1, by omega⟩
   obtain ⟨h1, h2⟩ := NB (IW hM) h hi (Zg m) (jo _)
   have ih := Jw hM n' (i + 1) _ (KJ h1 (qj hi h2.length_le)) (by omega)
   unfold Jh at ih ⊢
   rw [WD, je hi]
   simp only
   refine (Se (z := some (Sum.inl (((), Hr (Qg m) W[i].1 W[i].2 (Zg m) W, Gf (i + 1) (Hr (Qg m) W[i].1 W[i].2 (Zg m) W), ()), (m, ())))) ?_).trans ih
   have htl := TA i W
   have hcons := YO hi
   have hl1 : (Gf i W).length = (Gf (i + 1) W).length + 1 := by rw [hcons]; simp
   simp only [Ir]
   rw [Ja (by omega), show Kh (Gf i W).length 0 = true by rw [show (0 : Int) = ((0 : Nat) : Int) from rfl, Vp]; simp; omega]
   simp only [cond_true]
   rw [show (Gf i W)[jy 0]? = some W[i].1 by rw [hcons]; rfl]
   simp only [jb]
   rw [show He (Gf i W).length 1 (((Gf i W).length : Nat) : Int) = true from SM (lo := 1) (by omega) (jo _)]
   simp only [cond_true, jb]
   rw [show Uc (Gf i W) (jy 1) (jy (((Gf i W).length : Nat) : Int)) = Gf (i + 1) W by
    rw [jn, show jy 1 = 1 from rfl, hcons]
    unfold Uc
    rw [List.take_length]; rfl]
   rw [DH hM h hi]
   rfl
  ·have hb : WD (Qg m) (Zg m) n i W = W := by
    cases n with
    | zero => rfl
    | succ n => rw [WD, List.getElem?_eq_none (by omega)]
   rw [hb]
   unfold Jh
   refine (Se (z := some (Sum.inr (.inl ((W, ()), ())))) ?_).trans rfl
   have htl := TA i W
   simp only [Ir]
   rw [Ma (by omega)]; rfl
theorem Cx {m : Ea} (hM : Cf m) {fr : Int} (h : Fe m.2.1.length fr 0) : Tq m fr = some (Mm m fr, ()) := by
 have := Jw hM 17 0 [(fr, [])] (ZH h) (by omega)
 unfold Tq
 rw [show Dp ([] : List (Int × List Int)) fr ([] : List Int) = [(fr, [])] from rfl]
 rw [show ([fr] : List Int) = Gf 0 [(fr, [])] from rfl, this]
 rfl
theorem Hm {m : Ea} (hv : Kc m = true) {f : Int} (h : Fe m.2.1.length f 0) : Nf m f = some (true, ()) ∧ Ts m f = some (true, ()) := by
 have hM := IC hv
 have hz := hM.z
 have hl := Re hv
 have hl2 := hl.l2
 have hp : 1 ≤ 2 ^ m.2.1.length ∧ 2 ^ m.2.1.length ≤ 2 ^ 4 := ⟨Nat.one_le_two_pow, qk (by omega) hl2⟩
 have f0 := h.f0; have f1 := h.f1; have f2 := h.f2
 unfold Nf Ts
 rw [Cs m (by omega), Us m (by omega), hv]
 simp only [jb, cond_true, Nj]
 rw [OD (by omega), Ja (show (0 : Int) ≤ (m.2.1.length : Int) by omega), Ja (show f ≥ 0 by omega), show ((2 : Int) == 0) = false from rfl, show (f.tmod 2 == 0) = true by simpa using f2]
 simp only [cond_true, cond_false]
 rw [Qd (by omega) (by omega), Ja (show f < ((2 ^ m.2.1.length : Nat) : Int) from f1), Ja (show 0 ≤ f ∧ f ≤ ((2 ^ m.2.1.length : Nat) : Int) - 1 by omega)]
 exact ⟨rfl, rfl⟩
def Fn (W : Bf) (k : Nat) (o : List Int) : List Int := cond (Tb W ((k : Nat) : Int)).isSome (jf o [((k : Nat) : Int)]) o
def Lj (W : Bf) : List Int := Sh (Fn W) 16 []
theorem Ar (W : Bf) : ∀ n, (Sh (Fn W) n []).length ≤ n
 | 0 => jo _
 | n + 1 => by
  have ih := Ar W n
  show (cond (Tb W ((n : Nat) : Int)).isSome (jf (Sh (Fn W) n []) [((n : Nat) : Int)]) (Sh (Fn W) n [])).length ≤ n + 1
  cases (Tb W ((n : Nat) : Int)).isSome
  ·simp only [cond_false]; omega
  ·simp only [cond_true, List.append_eq, qd, List.length_singleton]; omega
theorem Ox (W : Bf) (x : Int) : ∀ n, x ∈ Sh (Fn W) n [] ↔ (0 ≤ x ∧ x < (n : Int)) ∧ (Tb W x).isSome = true
 | 0 => by simp [Sh]; omega
 | n + 1 => by
  have ih := Ox W x n
  show x ∈ (cond (Tb W ((n : Nat) : Int)).isSome (jf (Sh (Fn W) n []) [((n : Nat) : Int)]) (Sh (Fn W) n [])) ↔ _
  cases hg : (Tb W ((n : Nat) : Int)).isSome with
  | true =>
   simp only [cond_true, List.append_eq, jl, qc]
   rw [ih]
   constructor
   ·rintro (h | rfl)
    ·exact ⟨by omega, h.2⟩
    ·exact ⟨by omega, hg⟩
   ·rintro ⟨h1, h2⟩
    by_cases hx : x = (n : Int)
    ·exact .inr hx
    ·exact .inl ⟨by omega, h2⟩
  | false =>
   simp only [cond_false]
   rw [ih]
   constructor
   ·rintro ⟨h1, h2⟩; exact ⟨by omega, h2⟩
   ·rintro ⟨h1, h2⟩
    refine ⟨?_, h2⟩
    by_cases hx : x = (n : Int)
    ·subst hx; rw [hg] at h2; simp at h2
    ·omega
theorem WB {m : Ea} (hM : Cf m) {fr : Int} (h : Fe m.2.1.length fr 0) : Vi m fr = some (Lj (Mm m fr), ()) := by
 have hl := Az (step := fun x : (Bf × List Int × Int × Unit) × Unit => Ng x.1.1 x.1.2.1 x.1.2.2.1) 16 (by omega) (Fn (Mm m fr)) [] (fun o k => ((Mm m fr, o, k, ()), ())) (fun o => .inl ((o, ()), ())) (by
  intro k hk
  have := Ar (Mm m fr) k
  simp only [Ng]
  rw [Ja (by omega), Dn (by simp; omega)]
  generalize Sh (Fn (Mm m fr)) k [] = o
  unfold Fn
  simp only [cond_true]
  cases (Tb (Mm m fr) ((k : Nat) : Int)).isSome <;> rfl) (by
  simp only [Ng]
  rw [Ma (by omega)]; rfl)
 unfold Vi
 rw [(Hm hM.v h).1, Cx hM h]
 simp only [jb, jg, cond_false]
 unfold Hh
 erw [hl]
 rfl
theorem IG {m : Ea} (hM : Cf m) {f : Int} (h : Fe m.2.1.length f 0) {k : Nat} (hk : (k : Int) < m.1) : Ot m f (k : Int) = some (Qg m f k, ()) ∧ Xh m f (k : Int) = some (Qg m f k, ()) := by
 have hv := hM.v
 have hz := hM.z
 have hm := Re hv
 have hk1 := hm.k1
 have hk2 := hm.k2
 have hl2 := hm.l2
 obtain ⟨i1, i2⟩ := Hm hv h
 obtain ⟨g0, g1⟩ := Qt hM h
 have hsame : Ie m (Ae .i64 1 f) k = Ie m f k := Yt _ fun j hj => PB g0 g1 h.f2 j (by omega)
 have hl := Ko hm f k
 have hrow := hm.row _ hl
 have hact := hm.act _ hl k (by omega)
 rw [← Np hl (by omega)] at hact
 constructor
 ·unfold Ot
  rw [i2]
  simp only [jb, jg, cond_false, Nj]
  rw [Qd (n := m.1 - 1) (by omega) (by omega), Ja (show (0 : Int) ≤ (k : Int) ∧ (k : Int) ≤ m.1 - 1 by omega), MA (by omega) hv _ hk, hsame]
  simp only [jb, jg, cond_false]
  unfold Qg
  generalize Fg m.2.1 (Ie m f k) k = a at hact ⊢
  unfold Po
  cases h4 : (a.1 == 4) with
  | true => rw [Ja (SF hact (.inr (.inl (by simpa using h4)))).1]; rfl
  | false =>
   cases h5 : (a.1 == 5) with
   | true => rw [Ja (SF hact (.inr (.inr (.inl (by simpa using h5))))).1]; rfl
   | false => rfl
 ·unfold Xh
  rw [i1]
  simp only [jb, jg, cond_false]
  rw [Ma (show ¬ (k : Int) < 0 by omega), Ma (show ¬ (k : Int) ≥ m.1 by omega), Sq hm f hk]
  rfl
theorem Iw {m : Ea} (hM : Cf m) {f t : Int} (h : Fe m.2.1.length f 0) (ht : Fe m.2.1.length t 0) : Vo m f t = some ((Tb (Mm m f) t).getD [], (Tb (Mm m f) t).isSome, ()) := by
 unfold Vo
 rw [(Hm hM.v h).1, (Hm hM.v ht).1]
 simp only [jb, jg, cond_false]
 rw [Cx hM h]
 rfl
structure WA (e : Mb) : Prop where
 km : Kc e.1 = true
 m4 : e.2.1.length ≤ 4
 hd : Qf e.2.2.2.1 = true
 mac : ∀ x ∈ e.2.1, Pi x = true
 hin : ∀ x ∈ e.2.2.2.1, Uh e.1.1 e.1.2.1.length x = true
 st : Fe e.1.2.1.length e.2.2.1 e.2.2.2.2.1
theorem ZP {α : Type} {p : α → Bool} {l : List α} : Ld (fun _ x => p x) 0 l = true ↔ ∀ x ∈ l, p x = true := by
 rw [Wh]
 constructor
 ·intro h x hx
  obtain ⟨i, hi, rfl⟩ := qm hx
  exact h i hi
 ·intro h j hj
  exact h _ (ql hj)
theorem XI (e : Mb) : Uq e = true ↔ WA e := by
 unfold Uq
 simp only [jd, decide_eq_true_eq, beq_iff_eq, ZP]
 constructor
 ·rintro ⟨h1, h2, h3, h4, h5, h6, h7, h8⟩
  exact ⟨h1, h2, h3, h4, h5, ⟨h6.1, h6.2, h7, h8.1, h8.2⟩⟩
 ·rintro ⟨h1, h2, h3, h4, h5, h6⟩
  exact ⟨h1, h2, h3, h4, h5, ⟨h6.f0, h6.f1⟩, h6.f2, h6.o0, h6.o1⟩
theorem TY {e : Mb} (h : WA e) : Oc Zb e ≤ Bb - 5 := by
 have h20 : Bb = 1048576 := rfl
 have h1 := (IC h.km).z
 have hh := ET h.hd
 have h2 : Oc (.sl (.sl Od)) e.2.1 ≤ (8 + 1) * e.2.1.length := XF (e := .sl Od) (c := 8) fun x hx => by
  have := h.mac x hx
  simp only [Pi, jd, decide_eq_true_eq] at this
  have e2 : Oc (.sl Od) x = x.length := Cw (e := Od) rfl x
  omega
 have := h.m4
 have hm := Re h.km
 have h3 : Oc Sa e.1 ≤ 200 := by
  have h1 : Oc Sa e.1 = 0 + (Oc (.sl (.sl Vc)) e.1.2.1 + 0) := rfl
  have h2 : Oc (.sl (.sl Vc)) e.1.2.1 ≤ (32 + 1) * ja e.1.2.1 := XF (e := .sl Vc) (c := 32) fun x hx => by
   obtain ⟨i, hi, rfl⟩ := qm hx
   rw [AI]
   have := hm.row i hi
   have := hm.k2
   omega
  have := hm.l2
  omega
 rw [Iu, Vu]
 omega
noncomputable def XX (e : Mb) (k : Nat) (b : Bool) : Ga :=
 cond b (FT (Fg e.1.2.1 (Ie e.1 (FJ e.2.2.1 e.2.2.2.1) k) k)) (Cr (Fg e.1.2.1 (Ie e.1 (FJ e.2.2.1 e.2.2.2.1) k) k))
noncomputable def QE (e : Mb) (k : Nat) (b : Bool) : Int × Int × Bool × Ga := Gp e.2.2.1 e.2.2.2.2.1 e.2.2.2.2.2.1 (XX e k b)
noncomputable def pH (e : Mb) (k : Nat) (b : Bool) : List Wa := jf e.2.2.2.1 [((k : Int), (QE e k b).2.2.2, ())]
noncomputable def pE (e : Mb) (k : Nat) (b : Bool) : Mb := (e.1, e.2.1, (QE e k b).1, pH e k b, (QE e k b).2.1, (QE e k b).2.2.1, ())
noncomputable def pM (e : Mb) (k : Nat) (b : Bool) : List Qa :=
 cond ((QE e k b).2.2.2.1 == 9) (cond (decide ((QE e k b).2.2.2.2.2.2.1 < ((ja e.2.1 : Nat) : Int))) (NX (Rf (pH e k b)) (e.2.1.getD (QE e k b).2.2.2.2.2.2.1.toNat [])) []) []
structure A5 (e : Mb) (k : Nat) (b : Bool) : Prop where
 act : Lw e.1.2.1.length (XX e k b)
 ah : Lw e.1.2.1.length (QE e k b).2.2.2
 hd : Qf (pH e k b) = true
 ok : WA (pE e k b)
 ml : (pM e k b).length ≤ 16
 mx : ∀ x ∈ pM e k b, x.2.1.length ≤ 56



def M2 (l : List Wa) (j : Nat) : Bool := l.any (fun h => h.1 == (j : Int))
structure UV (l : List Wa) (m : Nat) : Prop where
 lt : m < 2 ^ 63
 bit : ∀ j, m.testBit j = M2 l j
structure H5 (d : Iz) : Prop where
 eng : WA d.1
 len : d.2.2.1.length ≤ 64
 key : ∀ x ∈ d.2.2.1, x.2.1 < d.1.1.1
 fol : ∃ (m : Nat) (t : Int), UV d.1.2.2.2.1 m ∧ FC (Le (fun _ s x => L2 s x) 0 (t, (m : Int)) d.2.2.1) = true
def HW (e : Mb) (k : Int) : Nat := (Nd (fun h : Wa => h.1 == k) 0 e.2.2.2.1).toNat
structure X4 (d : Iz) (x : Um) (r : List Um) : Prop where
 ev : FH x = true
 key : x.2.1 < d.1.1.1
 up : x.2.2.1 = false → ∃ hi : HW d.1 x.2.1 < d.1.2.2.2.1.length, Nd (fun h : Wa => h.1 == x.2.1) 0 d.1.2.2.2.1 = ((HW d.1 x.2.1 : Nat) : Int) ∧ (d.1.2.2.2.1[HW d.1 x.2.1]'hi).1 = x.2.1
 down : x.2.2.1 = true → ∀ y ∈ d.1.2.2.2.1, y.1 ≠ x.2.1



def rowN (C m r : Nat) : Nat := (m >>> (r * C)) &&& (2 ^ C - 1)
def EZ (C a b m : Nat) : Nat := cond (rowN C m a &&& rowN C m b != 0) (m ||| rowN C m b <<< (a * C)) m
def g3 (C a : Nat) : Nat → Nat → Nat := fun b m => EZ C a b m
def g2 (C R : Nat) : Nat → Nat → Nat := fun a m => Sh (g3 C a) R m
def g1 (C R : Nat) : Nat → Nat → Nat := fun _ m => Sh (g2 C R) R m
structure J5 (C R : Nat) : Prop where
 c1 : 1 ≤ C
 c2 : C ≤ 6
 r1 : 1 ≤ R
 r2 : R ≤ 4

structure Eh (c : Db) : Prop where
 lo : 0 ≤ c.2.1
 hi : c.2.1 ≤ (c.1.length : Int)
 len : c.1.length ≤ Bb
theorem HM (z : Int) : 0 ≤ Uk .i64 z 255 ∧ Uk .i64 z 255 ≤ 255 := by
 have h : (BitVec.ofInt 64 z &&& BitVec.ofInt 64 255).toNat ≤ 255 := by
  rw [BitVec.toNat_and]
  exact Nat.and_le_right
 show 0 ≤ j5 .i64 ((BitVec.ofInt 64 z &&& BitVec.ofInt 64 255).toNat : Int) ∧ j5 .i64 ((BitVec.ofInt 64 z &&& BitVec.ofInt 64 255).toNat : Int) ≤ 255
 rw [Qd (by omega) (by omega)]
 omega
theorem Iy {c : Db} (h : Eh c) : ∃ (c' : Db) (x : Int), Bh c = some (c', (x, ())) ∧ Eh c' ∧ 0 ≤ x ∧ x ≤ 255 := by
 have h20 : Bb = 1048576 := rfl
 have h1 := h.lo
 have h2 := h.len
 unfold Bh
 by_cases hi : c.2.1 < ((ja c.1 : Nat) : Int)
 ·obtain ⟨k, hk⟩ := jv h1
  rw [Ja hi, hk, Yd (show k < c.1.length by omega)]
  refine ⟨_, _, rfl, ⟨?_, ?_, h2⟩, HM _⟩
  ·show 0 ≤ j5 .i64 ((k : Int) + 1)
   rw [Ye (by omega)]; omega
  ·show j5 .i64 ((k : Int) + 1) ≤ _
   rw [Ye (by omega)]; show _ ≤ ((ja c.1 : Nat) : Int); omega
 ·rw [Ma hi]
  exact ⟨_, _, rfl, ⟨h1, h.hi, h2⟩, HM _⟩
theorem Vj {c : Db} (h : Eh c) (n : Int) (hn : 0 < n) : ∃ (c' : Db) (x : Int), Ua c n = some (c', (x, ())) ∧ Eh c' ∧ 0 ≤ x ∧ x < n := by
 obtain ⟨c1, x1, e1, h1, b1⟩ := Iy h
 unfold Ua
 rw [Ma (show ¬ n ≤ 0 by omega), e1, show (n == 0) = false by simp; omega]
 simp only [cond_false, jb]
 by_cases h256 : n ≤ 256
 ·rw [Ja h256]
  exact ⟨_, _, rfl, h1, Int.tmod_nonneg _ (by omega), Int.tmod_lt_of_pos _ hn⟩
 ·obtain ⟨c2, x2, e2, h2, b2⟩ := Iy h1
  obtain ⟨c3, x3, e3, h3, b3⟩ := Iy h2
  obtain ⟨c4, x4, e4, h4, b4⟩ := Iy h3
  rw [Ma h256, e2]
  simp only [cond_false, jb]
  rw [e3]
  simp only [jb]
  rw [e4]
  simp only [jb]
  rw [Qd (n := x1 * 16777216) (by omega) (by omega), Qd (n := x2 * 65536) (by omega) (by omega), Qd (n := x3 * 256) (by omega) (by omega), Qd (n := x1 * 16777216 + x2 * 65536) (by omega) (by omega), Qd (n := x1 * 16777216 + x2 * 65536 + x3 * 256) (by omega) (by omega), Qd (n := x1 * 16777216 + x2 * 65536 + x3 * 256 + x4) (by omega) (by omega)]
  exact ⟨_, _, rfl, h4, Int.tmod_nonneg _ (by omega), Int.tmod_lt_of_pos _ hn⟩
theorem MJ {c : Db} (h : Eh c) (n : Int) (hn : 0 < n) : ∃ (c' : Db) (b : Bool), Rk c n = some (c', (b, ())) ∧ Eh c' := by
 obtain ⟨c1, x1, e1, h1, b1⟩ := Vj h n hn
 unfold Rk
 rw [e1]
 exact ⟨_, _, rfl, h1⟩
theorem ZT {c : Db} (h : Eh c) (l : List Int) (hl : 0 < l.length) (h2 : l.length ≤ 1000) : ∃ (c' : Db) (x : Int), Lm c l = some (c', (x, ())) ∧ Eh c' ∧ x ∈ l := by
 obtain ⟨c1, x1, e1, h1, b1⟩ := Vj h ((ja l : Nat) : Int) (by omega)
 unfold Lm
 rw [e1]
 obtain ⟨k, rfl⟩ := jv b1.1
 have hk : k < l.length := by omega
 simp only [jb]
 rw [Vp, Ja hk, jn, je hk]
 exact ⟨_, _, rfl, h1, ql hk⟩
theorem PX (a : List Int) (hn : a.length ≤ Bb) : ∃ h : Int, Sr a = some (a, (0, (h, ()))) := by
 have h20 : Bb = 1048576 := rfl
 have := Kt (s := fun x : (List Int × (Int × (Int × Unit))) × Unit => Zp x.1.1 x.1.2.1 x.1.2.2.1) (fun n x => ∃ (h : Int) (k : Nat), x = ((a, h, (k : Int), ()), ()) ∧ n + k = a.length) (fun r => ∃ h : Int, r = .inl ((a, h, ()), ())) (by
  rintro n x ⟨h, k, rfl, hk⟩
  simp only [Zp]
  by_cases h1 : (k : Int) < ((ja a : Nat) : Int)
  ·rw [Ja h1]
   by_cases h2 : (k : Int) < 4000
   ·rw [Ja h2, Yd (show k < a.length by omega), Ye (by omega)]
    exact .inr ⟨_, n - 1, by omega, rfl, _, k + 1, rfl, by omega⟩
   ·rw [Ma h2]; exact .inl ⟨_, rfl, _, rfl⟩
  ·rw [Ma h1]; exact .inl ⟨_, rfl, _, rfl⟩) a.length ((a, j5 .i64 (10729 + ((ja a : Nat) : Int)), ((0 : Nat) : Int), ()), ()) ⟨_, 0, rfl, rfl⟩
 obtain ⟨r, h1, h, rfl⟩ := this
 refine ⟨h, ?_⟩
 unfold Sr Tm
 erw [h1]
 rfl
theorem MH (a : List Int) (n : Int) (hn : a.length ≤ Bb) : ∃ c : Db, Gn a n = some c ∧ Eh c := by
 obtain ⟨h, e⟩ := PX a hn
 unfold Gn
 rw [e]
 exact ⟨_, rfl, ⟨Int.le_refl _, by show (0 : Int) ≤ _; omega, hn⟩⟩
theorem ME (a : List Int) (p n : Int) (hl : a.length ≤ Bb) (hn : 0 < n) : ∃ x : Int, Hi a p n = some (x, ()) ∧ 0 ≤ x ∧ x < n := by
 obtain ⟨c, e, hc⟩ := MH a p hl
 obtain ⟨c1, x, e1, h1, b1⟩ := Vj hc n hn
 unfold Hi
 rw [e]
 simp only [jb]
 rw [e1]
 exact ⟨x, rfl, b1⟩
def Nq (n : Int) (a : Ga) : Prop := Cc a = true ∧ a.1 ≠ 1 ∧ (a.1 = 9 ∨ a.2.2.2.1 < n)
theorem Ej {n k c m x : Int} (h : Ab k c m x) (h1 : k ≠ 1) (h2 : k = 9 ∨ x < n) : Nq n (k, c, m, x, ()) := ⟨(Va _).2 h, h1, h2⟩
def Ui (n : Int) (o : Option (Db × (Ga × Unit))) : Prop := ∃ (c : Db) (a : Ga), o = some (c, (a, ())) ∧ Eh c ∧ Nq n a
theorem Mn {n : Int} {c : Db} {a : Ga} (h : Eh c) (ha : Nq n a) : Ui n (some (c, (a, ()))) := ⟨c, a, rfl, h, ha⟩
theorem Gj {n : Int} {b : Bool} {x y : Option (Db × (Ga × Unit))} (h1 : Ui n x) (h2 : Ui n y) : Ui n (cond b x y) := by cases b <;> assumption
theorem MQ {n : Int} {p : Prop} [Decidable p] {x y : Option (Db × (Ga × Unit))} (h1 : p → Ui n x) (h2 : Ui n y) : Ui n (cond (decide p) x y) := by
 by_cases h : p
 ·rw [Ja h]; exact h1 h
 ·rw [Ma h]; exact h2
theorem Tp {n m : Int} {c : Db} (hc : Eh c) (hm : 0 < m) {f : (Db × (Int × Unit)) → Option (Db × (Ga × Unit))}
 (h : ∀ (c' : Db) (x : Int), Eh c' → 0 ≤ x → x < m → Ui n (f (c', (x, ())))) : Ui n (jz (Ua c m) f) := by
 obtain ⟨c1, x1, e1, h1, b1⟩ := Vj hc m hm
 rw [e1]
 exact h c1 x1 h1 b1.1 b1.2
theorem CT {n m : Int} {c : Db} (hc : Eh c) (hm : 0 < m) {f : (Db × (Bool × Unit)) → Option (Db × (Ga × Unit))}
 (h : ∀ (c' : Db) (x : Bool), Eh c' → Ui n (f (c', (x, ())))) : Ui n (jz (Rk c m) f) := by
 obtain ⟨c1, x1, e1, h1⟩ := MJ hc m hm
 rw [e1]
 exact h c1 x1 h1
theorem GZ {c : Db} {n x : Int} {a0 a1 a2 : Ga} (hc : Eh c) (h0 : 0 ≤ x) (h3 : x < 3) (g0 : Nq n a0) (g1 : Nq n a1) (g2 : Nq n a2) :
 Ui n (cond (Kh (ja [a0, a1, a2]) x) (jz [a0, a1, a2][(jy x)]? fun y => some (c, (y, ()))) none) := by
 have : x = 0 ∨ x = 1 ∨ x = 2 := by omega
 rcases this with rfl | rfl | rfl
 ·exact Mn hc g0
 ·exact Mn hc g1
 ·exact Mn hc g2
theorem BN {c : Db} (h : Eh c) (n : Int) (hn : 1 ≤ n) (hn4 : n ≤ 4) : Ui n (Lq c n) := by
 unfold Lq
 rw [Qd (n := n - 1) (by omega) (by omega)]
 refine Tp h (by omega) fun c1 x1 h1 l1 u1 => ?_
 refine Tp h1 (by omega) fun c2 x2 h2 l2 u2 => ?_
 refine CT h2 (by omega) fun c3 x3 h3 => ?_
 simp only
 rw [Qd (n := 1 + x1) (by omega) (by omega), Qd (n := 1 + x2) (by omega) (by omega)]
 have tail : ∀ (md : Int), 1 ≤ md → md ≤ 15 → Ui n (jz (Ua c3 (max (1 : Int) (n - 1))) fun r4 =>
  (jz (Ua r4.1 (16 : Int)) fun r5 =>
  (cond (r5.2.1 == (0 : Int)) (some (r5.1, (((2 : Int), (1 + x1), md, (0 : Int), ()), ())))
  (cond (r5.2.1 == (1 : Int)) (some (r5.1, (((2 : Int), (0 : Int), md, (0 : Int), ()), ())))
  (cond (r5.2.1 == (2 : Int)) (some (r5.1, (((6 : Int), (1 + x1), md, (0 : Int), ()), ())))
  (cond (r5.2.1 == (3 : Int)) (some (r5.1, (((6 : Int), (1 + x1), md, (0 : Int), ()), ())))
  (cond (r5.2.1 == (4 : Int)) (some (r5.1, (((8 : Int), (0 : Int), md, (0 : Int), ()), ())))
  (cond (r5.2.1 == (5 : Int)) (jz (Ua r5.1 (4 : Int)) fun r6 => (some (r6.1, (((9 : Int), (0 : Int), (0 : Int), r6.2.1, ()), ()))))
  (cond (r5.2.1 == (6 : Int)) (some (r5.1, (((10 : Int), (0 : Int), (0 : Int), (0 : Int), ()), ())))
  (cond (r5.2.1 == (7 : Int)) (jz (Ua r5.1 (max (1 : Int) n)) fun r7 => (some (r7.1, (((5 : Int), (0 : Int), (0 : Int), r7.2.1, ()), ()))))
  (cond (r5.2.1 == (8 : Int)) (cond (decide (n > (1 : Int))) (jz (Ua r5.1 (3 : Int)) fun r8 => (cond (Kh (ja ([((3 : Int), (0 : Int), (0 : Int), (j4 .i64 ((1 : Int) + r4.2.1)), ()), ((4 : Int), (0 : Int), (0 : Int), (j4 .i64 ((1 : Int) + r4.2.1)), ()), ((7 : Int), (1 + x1), (0 : Int), (j4 .i64 ((1 : Int) + r4.2.1)), ())] : List Ga)) r8.2.1) (jz ([((3 : Int), (0 : Int), (0 : Int), (j4 .i64 ((1 : Int) + r4.2.1)), ()), ((4 : Int), (0 : Int), (0 : Int), (j4 .i64 ((1 : Int) + r4.2.1)), ()), ((7 : Int), (1 + x1), (0 : Int), (j4 .i64 ((1 : Int) + r4.2.1)), ())] : List Ga)[(jy r8.2.1)]? fun x9 => (some (r8.1, (x9, ())))) none)) (some (r5.1, (((2 : Int), (1 + x1), (0 : Int), (0 : Int), ()), ()))))
  (cond (r5.2.1 == (9 : Int)) (cond (decide (n > (1 : Int))) (jz (Ua r5.1 (3 : Int)) fun r8 => (cond (Kh (ja ([((3 : Int), (0 : Int), (0 : Int), (j4 .i64 ((1 : Int) + r4.2.1)), ()), ((4 : Int), (0 : Int), (0 : Int), (j4 .i64 ((1 : Int) + r4.2.1)), ()), ((7 : Int), (1 + x1), (0 : Int), (j4 .i64 ((1 : Int) + r4.2.1)), ())] : List Ga)) r8.2.1) (jz ([((3 : Int), (0 : Int), (0 : Int), (j4 .i64 ((1 : Int) + r4.2.1)), ()), ((4 : Int), (0 : Int), (0 : Int), (j4 .i64 ((1 : Int) + r4.2.1)), ()), ((7 : Int), (1 + x1), (0 : Int), (j4 .i64 ((1 : Int) + r4.2.1)), ())] : List Ga)[(jy r8.2.1)]? fun x9 => (some (r8.1, (x9, ())))) none)) (some (r5.1, (((2 : Int), (1 + x1), (0 : Int), (0 : Int), ()), ()))))
  (cond (r5.2.1 == (10 : Int)) (cond (decide (n > (1 : Int))) (jz (Ua r5.1 (3 : Int)) fun r8 => (cond (Kh (ja ([((3 : Int), (0 : Int), (0 : Int), (j4 .i64 ((1 : Int) + r4.2.1)), ()), ((4 : Int), (0 : Int), (0 : Int), (j4 .i64 ((1 : Int) + r4.2.1)), ()), ((7 : Int), (1 + x1), (0 : Int), (j4 .i64 ((1 : Int) + r4.2.1)), ())] : List Ga)) r8.2.1) (jz ([((3 : Int), (0 : Int), (0 : Int), (j4 .i64 ((1 : Int) + r4.2.1)), ()), ((4 : Int), (0 : Int), (0 : Int), (j4 .i64 ((1 : Int) + r4.2.1)), ()), ((7 : Int), (1 + x1), (0 : Int), (j4 .i64 ((1 : Int) + r4.2.1)), ())] : List Ga)[(jy r8.2.1)]? fun x9 => (some (r8.1, (x9, ())))) none)) (some (r5.1, (((2 : Int), (1 + x1), (0 : Int), (0 : Int), ()), ()))))
  (some (r5.1, (((2 : Int), (1 + x1), (0 : Int), (0 : Int), ()), ())))))))))))))))) := by
  intro md lm um
  refine Tp h3 (by omega) fun c4 x4 h4 l4 u4 => ?_
  refine Tp h4 (by omega) fun c5 x5 h5 l5 u5 => ?_
  simp only
  rw [Qd (n := 1 + x4) (by omega) (by omega)]
  have last : Ui n (some (c5, (((2 : Int), (1 + x1), (0 : Int), (0 : Int), ()), ()))) := Mn h5 (Ej (by unfold Ab; omega) (by omega) (by omega))
  have mid : Ui n (cond (decide (n > (1 : Int))) (jz (Ua c5 (3 : Int)) fun r8 => (cond (Kh (ja ([((3 : Int), (0 : Int), (0 : Int), (1 + x4), ()), ((4 : Int), (0 : Int), (0 : Int), (1 + x4), ()), ((7 : Int), (1 + x1), (0 : Int), (1 + x4), ())] : List Ga)) r8.2.1) (jz ([((3 : Int), (0 : Int), (0 : Int), (1 + x4), ()), ((4 : Int), (0 : Int), (0 : Int), (1 + x4), ()), ((7 : Int), (1 + x1), (0 : Int), (1 + x4), ())] : List Ga)[(jy r8.2.1)]? fun x9 => (some (r8.1, (x9, ())))) none)) (some (c5, (((2 : Int), (1 + x1), (0 : Int), (0 : Int), ()), ())))) := by
   refine MQ (fun hn1 => ?_) last
   have hx : 1 + x4 < n := by omega
   refine Tp h5 (by omega) fun c6 x6 h6 l6 u6 => ?_
   exact GZ h6 l6 u6 (Ej (by unfold Ab; omega) (by omega) (by omega)) (Ej (by unfold Ab; omega) (by omega) (by omega)) (Ej (by unfold Ab; omega) (by omega) (by omega))
  refine Gj (Mn h5 (Ej (by unfold Ab; omega) (by omega) (by omega))) ?_
  refine Gj (Mn h5 (Ej (by unfold Ab; omega) (by omega) (by omega))) ?_
  refine Gj (Mn h5 (Ej (by unfold Ab; omega) (by omega) (by omega))) ?_
  refine Gj (Mn h5 (Ej (by unfold Ab; omega) (by omega) (by omega))) ?_
  refine Gj (Mn h5 (Ej (by unfold Ab; omega) (by omega) (by omega))) ?_
  refine Gj (Tp h5 (by omega) fun c6 x6 h6 l6 u6 => by simp only; exact Mn h6 (Ej (by unfold Ab; omega) (by omega) (by omega))) ?_
  refine Gj (Mn h5 (Ej (by unfold Ab; omega) (by omega) (by omega))) ?_
  refine Gj (Tp h5 (by omega) fun c6 x6 h6 l6 u6 => by simp only; exact Mn h6 (Ej (by unfold Ab; omega) (by omega) (by omega))) ?_
  exact Gj mid (Gj mid (Gj mid last))
 cases x3 with
 | true => exact tail 2 (by omega) (by omega)
 | false => exact tail (1 + x2) (by omega) (by omega)
theorem Zt {n i : Nat} {a : Ga} (h : Nq (n : Int) a) : Td n i a = true := by
 obtain ⟨h1, h2, h3⟩ := h
 unfold Td
 rw [h1]
 have e1 : (a.1 == 1) = false := by simp; exact h2
 rw [e1]
 rcases h3 with h | h
 ·simp [h]
 ·simp; exact .inr h
theorem OL {n i : Nat} (hi : 0 < i) (hn : 1 ≤ n) : Td n i ((1 : Int), (0 : Int), (0 : Int), (0 : Int), ()) = true := by
 unfold Td
 have : Cc ((1 : Int), (0 : Int), (0 : Int), (0 : Int), ()) = true := (Va _).2 (by simp [Ab])
 rw [this]
 have hi' : ((i : Int) == 0) = false := by simp; omega
 rw [hi']
 simp; omega
theorem VD {α : Type} {p : Nat → α → Bool} {xs : List α} {x : α} (h : Ld p 0 xs = true) (hx : p xs.length x = true) : Ld p 0 (xs ++ [x]) = true := by
 rw [Wh] at h ⊢
 intro j hj
 rw [qd, List.length_singleton] at hj
 rw [List.getElem_append]
 split
 ·rename_i h1; exact h j h1
 ·have : j = xs.length := by omega
  subst this
  simpa using hx
theorem TQ {c : Db} (hc : Eh c) {keys n i : Nat} (hk : keys ≤ 32) (hn : 1 ≤ n) (hn4 : n ≤ 4) (b4 b6 : Ea) :
 ∃ (c' : Db) (row : List Ga), Cm (((), (keys : Int), (), (n : Int), (), (i : Int), ([] : List Ga), (0 : Int), ()), (c, b4, b6, ())) = some (.inl (((), (keys : Int), (), (n : Int), (), (i : Int), row, ()), (c', b4, b6, ()))) ∧
  Eh c' ∧ row.length = keys ∧ Ld (fun _ a => Td n i a) 0 row = true := by
 have hlim : Sb = 1073741824 := rfl
 have := Kt (s := fun x : ((Unit × (Int × (Unit × (Int × (Unit × (Int × ((List Ga) × (Int × Unit)))))))) × (Db × (Ea × (Ea × Unit)))) => Jp x.1.1 x.1.2.1 x.1.2.2.1 x.1.2.2.2.1 x.1.2.2.2.2.1 x.1.2.2.2.2.2.1 x.1.2.2.2.2.2.2.1 x.1.2.2.2.2.2.2.2.1 x.2.1 x.2.2.1 x.2.2.2.1)
  (fun m x => ∃ (c' : Db) (row : List Ga) (k : Nat), x = (((), (keys : Int), (), (n : Int), (), (i : Int), row, (k : Int), ()), (c', b4, b6, ())) ∧ m + k = keys ∧ row.length = k ∧ Eh c' ∧ Ld (fun _ a => Td n i a) 0 row = true)
  (fun r => ∃ (c' : Db) (row : List Ga), r = .inl (((), (keys : Int), (), (n : Int), (), (i : Int), row, ()), (c', b4, b6, ())) ∧ Eh c' ∧ row.length = keys ∧ Ld (fun _ a => Td n i a) 0 row = true) (by
  rintro m x ⟨c', row, k, rfl, hm, hl, hc', hr⟩
  simp only [Jp]
  by_cases h1 : (k : Int) < (keys : Int)
  ·rw [Ja h1]
   obtain ⟨c1, a, e1, hc1, ha⟩ := BN hc' (n : Int) (by omega) (by omega)
   rw [e1]
   simp only [cond_true, jb]
   have room : ∀ z : Ga, jx (ja row + ja [z]) Sb = true := fun z => ji (by simp; omega)
   rw [Ye (by omega)]
   have Oe : ∀ (z : Ga) (c2 : Db), Td n i z = true → Eh c2 → ∃ c' row' k', (((), (keys : Int), (), (n : Int), (), (i : Int), jf row [z], ((k + 1 : Nat) : Int), ()), (c2, b4, b6, ())) = (((), (keys : Int), (), (n : Int), (), (i : Int), row', ((k' : Nat) : Int), ()), (c', b4, b6, ())) ∧ (m - 1) + k' = keys ∧ ja row' = k' ∧ Eh c' ∧ Ld (fun _ a => Td n i a) 0 row' = true :=
    fun z c2 hz h2 => ⟨c2, _, k + 1, rfl, by omega, by simp [hl], h2, VD hr hz⟩
   by_cases h2 : (i : Int) > 0
   ·rw [Ja h2]
    obtain ⟨c2, b, e2, hc2⟩ := MJ hc1 3 (by omega)
    rw [e2]
    simp only [cond_true, jb, room]
    cases b with
    | true => exact .inr ⟨_, m - 1, by omega, rfl, Oe _ _ (OL (by omega) hn) hc2⟩
    | false => exact .inr ⟨_, m - 1, by omega, rfl, Oe _ _ (Zt ha) hc2⟩
   ·rw [Ma h2]
    simp only [cond_true, cond_false, room]
    exact .inr ⟨_, m - 1, by omega, rfl, Oe _ _ (Zt ha) hc1⟩
  ·rw [Ma h1]; exact .inl ⟨_, rfl, c', row, rfl, hc', by omega, hr⟩) keys (((), (keys : Int), (), (n : Int), (), (i : Int), ([] : List Ga), ((0 : Nat) : Int), ()), (c, b4, b6, ())) ⟨c, [], 0, rfl, rfl, rfl, hc, rfl⟩
 obtain ⟨r, e, c', row, rfl, h⟩ := this
 exact ⟨c', row, e, h⟩
theorem CN {c : Db} (hc : Eh c) {keys : Nat} (hk1 : 1 ≤ keys) (hk : keys ≤ 32) : ∃ (c' : Db) (m : Ea), Mq c (keys : Int) = some (c', (m, ())) ∧ Eh c' ∧ Kc m = true ∧ m.1 = (keys : Int) := by
 have hlim : Sb = 1073741824 := rfl
 obtain ⟨c1, x1, e1, hc1, b1⟩ := Vj hc 4 (by omega)
 obtain ⟨n0, rfl⟩ := jv b1.1
 obtain ⟨n, hn⟩ : ∃ n : Nat, n = n0 + 1 := ⟨_, rfl⟩
 have hw : j5 .i64 ((1 : Int) + (n0 : Int)) = (n : Int) := by rw [Qd (by omega) (by omega)]; omega
 unfold Mq
 rw [e1]
 simp only [jb, hw]
 have := Kt (s := fun x : ((Unit × (Int × (Unit × (Int × (Unit × (Int × Unit)))))) × (Db × (Ea × (Ea × Unit)))) => Ip x.1.1 x.1.2.1 x.1.2.2.1 x.1.2.2.2.1 x.1.2.2.2.2.1 x.1.2.2.2.2.2.1 x.2.1 x.2.2.1 x.2.2.2.1)
  (fun m x => ∃ (c' : Db) (L : List (List Ga)) (k : Nat), x = (((), (keys : Int), (), (n : Int), (), (k : Int), ()), (c', ((0 : Int), ([] : List (List Ga)), ()), ((keys : Int), L, ()), ())) ∧ m + k = n ∧ L.length = k ∧ Eh c' ∧ Ld (fun i l => Vd (keys : Int) n i l) 0 L = true)
  (fun r => ∃ (c' : Db) (L : List (List Ga)), r = .inl (((), (), (), ()), (c', ((0 : Int), ([] : List (List Ga)), ()), ((keys : Int), L, ()), ())) ∧ Eh c' ∧ L.length = n ∧ Ld (fun i l => Vd (keys : Int) n i l) 0 L = true) (by
  rintro m x ⟨c', L, k, rfl, hm, hl, hc', hr⟩
  simp only [Ip]
  by_cases h1 : (k : Int) < (n : Int)
  ·rw [Ja h1]
   obtain ⟨c2, row, e2, hc2, hrow, hall⟩ := TQ hc' (i := k) hk (show 1 ≤ n by omega) (show n ≤ 4 by omega) ((0 : Int), ([] : List (List Ga)), ()) ((keys : Int), L, ())
   erw [e2]
   simp only [cond_true, jb, qi]
   rw [show jx (ja L + ja [row]) Sb = true from ji (by simp; omega), Ye (by omega)]
   refine .inr ⟨_, m - 1, by omega, rfl, c2, _, k + 1, rfl, by omega, by simp [hl], hc2, ?_⟩
   refine VD hr ?_
   unfold Vd
   rw [hl, hall, hrow]
   simp
  ·rw [Ma h1]; exact .inl ⟨_, rfl, c', L, rfl, hc', by omega, hr⟩) n (((), (keys : Int), (), (n : Int), (), ((0 : Nat) : Int), ()), (c1, ((0 : Int), ([] : List (List Ga)), ()), ((keys : Int), ([] : List (List Ga)), ()), ())) ⟨c1, [], 0, rfl, rfl, rfl, hc1, rfl⟩
 obtain ⟨r, e, c', L, rfl, hc', hL, hall⟩ := this
 unfold Bm
 erw [e]
 refine ⟨c', ((keys : Int), L, ()), rfl, hc', ?_, rfl⟩
 unfold Kc
 simp only [jd, decide_eq_true_eq]
 refine ⟨⟨by omega, by omega⟩, ?_⟩
 show Ld (fun i l => Vd (keys : Int) L.length i l) 0 L = true
 rw [hL]; exact hall
theorem JG {α : Type} {p : Nat → α → Bool} {xs : List α} {i : Nat} {x : α} (h : Ld p 0 xs = true) (hx : p i x = true) : Ld p 0 (j6 xs i x) = true := by
 rw [Wh] at h ⊢
 intro j hj
 rw [j8] at hj
 rw [List.getElem_set]
 split
 ·rename_i e; subst e; simpa using hx
 ·exact h j hj
theorem LI {keys : Int} {n i : Nat} {l : List Ga} {k : Nat} {a : Ga} (h : Vd keys n i l = true) (ha : Td n i a = true) : Vd keys n i (j6 l k a) = true := by
 unfold Vd at h ⊢
 rw [jd] at h ⊢
 exact ⟨by rw [j8]; exact h.1, JG h.2 ha⟩
theorem KI {keys : Int} {n i : Nat} {l : List Ga} (h : Vd keys n i l = true) : (l.length : Int) = keys := by
 unfold Vd at h
 rw [jd] at h
 simpa using h.1
theorem IL {c : Db} (hc : Eh c) {keys : Nat} (hk1 : 1 ≤ keys) (hk : keys ≤ 32) : ∃ (c' : Db) (m : Ea), Hp c (keys : Int) = some (c', (m, ())) ∧ Eh c' ∧ Kc m = true ∧ m.1 = (keys : Int) := by
 obtain ⟨c1, m1, e1, hc1, hm1, hmk⟩ := CN hc hk1 hk
 obtain ⟨c2, x2, e2, hc2, b2⟩ := Vj hc1 6 (by omega)
 obtain ⟨x, rfl⟩ := jv b2.1
 unfold Hp
 rw [e1]
 simp only [jb, e2]
 have step := Kt (s := fun x : ((Unit × (Int × (Unit × (Unit × (Int × Unit))))) × (Db × (Ea × (Ea × Unit)))) => Eo x.1.1 x.1.2.1 x.1.2.2.1 x.1.2.2.2.1 x.1.2.2.2.2.1 x.2.1 x.2.2.1 x.2.2.2.1)
  (fun z y => ∃ (c' : Db) (m : Ea), y = (((), (keys : Int), (), (), (z : Int), ()), (c', ((0 : Int), ([] : List (List Ga)), ()), m, ())) ∧ z ≤ 6 ∧ Eh c' ∧ Kc m = true ∧ m.1 = (keys : Int))
  (fun r => ∃ (c' : Db) (m : Ea), r = .inl (((), (), (), ()), (c', ((0 : Int), ([] : List (List Ga)), ()), m, ())) ∧ Eh c' ∧ Kc m = true ∧ m.1 = (keys : Int)) (by
  rintro z y ⟨c', m, rfl, hz, hc', hm, hmk⟩
  simp only [Eo]
  by_cases h1 : (z : Int) > 0
  ·rw [Ja h1]
   have hm0 := hm
   unfold Kc at hm0
   simp only [jd, decide_eq_true_eq] at hm0
   obtain ⟨⟨hk', hL⟩, hall⟩ := hm0
   obtain ⟨c3, i, e3, hc3, bi⟩ := Vj hc' ((ja m.2.1 : Nat) : Int) (by omega)
   obtain ⟨i, rfl⟩ := jv bi.1
   obtain ⟨c4, k, e4, hc4, bk⟩ := Vj hc3 (keys : Int) (by omega)
   obtain ⟨k, rfl⟩ := jv bk.1
   rw [e3]
   simp only [cond_true, jb, e4]
   have hw : j5 .i64 ((z : Int) - 1) = ((z - 1 : Nat) : Int) := by rw [Qd (by omega) (by omega)]; omega
   rw [hw]
   have hi : i < m.2.1.length := by omega
   by_cases h2 : ((ja m.2.1 : Nat) : Int) > 1
   ·rw [Ja h2, Vp, Ja hi, jn, je hi]
    have hrow := Wh.1 hall i hi
    rw [js] at hrow
    have hlen := KI hrow
    have hkk : k < (m.2.1[i]).length := by omega
    obtain ⟨c5, kd, e5, hc5, hkd⟩ := ZT hc4 [(4 : Int), (5 : Int), (3 : Int)] (by simp) (by simp)
    obtain ⟨c6, q, e6, hc6, bq⟩ := Vj hc5 (((ja m.2.1 : Nat) : Int) - 1) (by omega)
    simp only [cond_true, jb, e5]
    rw [Qd (n := ((ja m.2.1 : Nat) : Int) - 1) (by omega) (by omega), e6]
    simp only [jb]
    rw [Vp, Ja hkk, jn, je hkk, Qd (n := 1 + q) (by omega) (by omega)]
    simp only [cond_true, jb]
    refine .inr ⟨_, z - 1, by omega, rfl, c6, _, rfl, by omega, hc6, ?_, hmk⟩
    have hd : Nq ((ja m.2.1 : Nat) : Int) (kd, (0 : Int), (0 : Int), 1 + q, ()) := by
     have : kd = 4 ∨ kd = 5 ∨ kd = 3 := by simpa using hkd
     exact Ej (by unfold Ab; omega) (by omega) (by omega)
    show Kc (m.1, j6 m.2.1 i (j6 m.2.1[i] k (kd, (0 : Int), (0 : Int), 1 + q, ())), ()) = true
    unfold Kc
    simp only [jd, decide_eq_true_eq, j8]
    exact ⟨⟨hk', hL⟩, JG hall (LI hrow (Zt hd))⟩
   ·rw [Ma h2]
    simp only [cond_false]
    exact .inr ⟨_, z - 1, by omega, rfl, c4, m, rfl, by omega, hc4, hm, hmk⟩
  ·rw [Ma h1]
   have : z = 0 := by omega
   exact .inl ⟨_, rfl, c', m, rfl, hc', hm, hmk⟩) x (((), (keys : Int), (), (), (x : Int), ()), (c2, ((0 : Int), ([] : List (List Ga)), ()), m1, ())) ⟨c2, m1, rfl, by omega, hc2, hm1, hmk⟩
 obtain ⟨r, e, c', m, rfl, hc', hm, hmk'⟩ := step
 unfold Yk
 erw [e]
 exact ⟨c', m, rfl, hc', hm, hmk'⟩
theorem WE (a : List Int) (p : Int) {keys : Nat} (hn : a.length ≤ Bb) (hk1 : 1 ≤ keys) (hk : keys ≤ 32) : ∃ m : Ea, Gi a p (keys : Int) = some (m, ()) ∧ Kc m = true ∧ m.1 = (keys : Int) := by
 obtain ⟨c, e, hc⟩ := MH a p hn
 obtain ⟨c', m, e1, _, hm, hmk⟩ := IL hc hk1 hk
 unfold Gi
 rw [e]
 simp only [jb, e1]
 exact ⟨m, rfl, hm, hmk⟩
def DP (p : List Int) : Bool := Ld (fun _ w => decide (0 ≤ w ∧ w ≤ 65535)) 0 p
def OS (p : List Int) (e : Int) : Bool := ((p.length : Int) == 19) && decide (0 ≤ e ∧ e ≤ 1000) && DP p
def GH (f : Gd) : Bool := match f.1, f.2.1 with
 | [p, q], [d, e] => OS p d && OS q e
 | _, _ => false
def MS (h : Int) : Bool := decide (1 ≤ h ∧ h ≤ 60000)
def RS (h0 h1 : Int) : Int := cond (MS h1) (cond (MS h0) (cond (decide (h1 > h0)) 1 0) 1) (cond (MS h0) 0 (-1))
def Aj (f : Gd) : Int := cond (GH f) (match f.1 with
 | [h0 :: _, h1 :: _] => RS h0 h1
 | _ => -1) (-1)
def Mv (s v : Int) : Bool := decide (0 ≤ s ∧ s ≤ 3 ∧ 0 ≤ v ∧ v ≤ 9999)
def NM (s v h : Int) : Int := cond (Mv s v && MS h) ((7 * s + 13 * v + 31 * h + 5).tmod 60000) 65535
def wd (w : List Int) (n : Nat) : Int := w.getD n 0
def OX (s : Int) (w : List Int) (i : Nat) : Bool :=
 Mv (wd w (1 + 3 * i)) (wd w (2 + 3 * i)) && (wd w (1 + 3 * i) == s) && (wd w (3 + 3 * i) == NM (wd w (1 + 3 * i)) (wd w (2 + 3 * i)) (wd w 0))
def TH (s : Int) (w : List Int) : Nat → Option Int
 | 0 => none
 | n + 1 => cond (OX s w n) (some (wd w (2 + 3 * n))) (TH s w n)
def Xv (f : Gd) (s : Int) : Option Int := cond (decide (Aj f < 0)) none (TH s ((f.1.getD (Aj f).toNat [])) 6)
def UX (o : Option Int) : Int × Bool := match o with
 | some v => (v, true)
 | none => (0, false)
structure PS (f : Gd) : Prop where
 l1 : f.1.length = 2
 l2 : f.2.1.length = 2
 pg : ∀ i (h1 : i < f.1.length) (h2 : i < f.2.1.length), f.1[i].length = 19 ∧ 0 ≤ f.2.1[i] ∧ f.2.1[i] ≤ 1000 ∧ DP f.1[i] = true
def zF : Gd := ([], [], ())
def EA (o : Cg) : Nat := o.2.1.toNat
def B5 (f : Gd) (o : Cg) : Bool :=
 GH f && (decide (0 ≤ o.2.1 ∧ o.2.1 ≤ 1) && cond o.1 (decide (o.2.2.1 = 0 ∧ o.2.2.2.1 = 0 ∧ f.2.1.getD (EA o) 0 < 1000))
  (decide (0 ≤ o.2.2.1 ∧ o.2.2.1 ≤ 18 ∧ 0 ≤ o.2.2.2.1 ∧ o.2.2.2.1 ≤ 65534 ∧ (f.1.getD (EA o) []).getD o.2.2.1.toNat 0 = 65535)))
def C5 (f : Gd) (o : Cg) : Gd :=
 cond o.1 (f.1.set (EA o) (List.replicate 19 65535), f.2.1.set (EA o) (f.2.1.getD (EA o) 0 + 1), ())
  (f.1.set (EA o) ((f.1.getD (EA o) []).set o.2.2.1.toNat o.2.2.2.1), f.2.1, ())

def QH (f : Gd) (ops : List Cg) : Gd ⊕ Unit := Le (fun _ s o => cond (B5 s o) (.inl (C5 s o)) (.inr ())) 0 f ops
def P2 (r : Gd ⊕ Unit) : Gd × Bool × Unit := r.elim (fun g => (g, true, ())) (fun _ => (zF, false, ()))
def ZX (page : Int) (at' : Nat) (s v h : Int) : List Cg :=
 [(false, page, ((1 + 3 * at' : Nat) : Int), s, ()), (false, page, ((2 + 3 * at' : Nat) : Int), v, ()), (false, page, ((3 + 3 * at' : Nat) : Int), NM s v h, ())]
def YS (w : List Int) (n : Nat) : Bool := (wd w (3 * n + 1) == 65535) && ((wd w (3 * n + 2) == 65535) && (wd w (3 * n + 3) == 65535))
def Vz (w : List Int) : Nat → Nat
 | 0 => 0
 | n + 1 => cond (YS w n) (Vz w n) (n + 1)
def T4 (f : Gd) (s v : Int) (k : Nat) : Option Int := cond ((k : Int) == s) (some v) (Xv f (k : Int))
def R2 (f : Gd) (s v page h : Int) (k : Nat) (st : List Cg × Nat) : List Cg × Nat := match T4 f s v k with
 | some x => (jf st.1 (ZX page st.2 (k : Int) x h), st.2 + 1)
 | none => st
def DW (page : Int) : Cg := (true, page, 0, 0, ())
def RT (f : Gd) (s v page h : Int) : List Cg × Nat := Sh (R2 f s v page h) 4 ([DW page], 0)
def UY (page h : Int) : Cg := (false, page, 0, h, ())
def PJ (f : Gd) : List Int := f.1.getD (Aj f).toNat []
def YH (f : Gd) (s v : Int) : List Cg × Bool :=
 cond (decide (Aj f < 0)) ([], false) (cond (!Mv s v) ([], false)
  (cond (decide (Vz (PJ f) 6 < 6)) (ZX (Aj f) (Vz (PJ f) 6) s v (wd (PJ f) 0), true)
   (cond (decide (wd (PJ f) 0 ≥ 60000)) ([], false) (cond (decide (f.2.1.getD (1 - Aj f).toNat 0 ≥ 1000)) ([], false)
    (jf (RT f s v (1 - Aj f) (wd (PJ f) 0 + 1)).1 [UY (1 - Aj f) (wd (PJ f) 0 + 1)], true)))))
def Q2 (f : Gd) (P : Int) : List Int := f.1.getD P.toNat []
def S4 (t : Id) : Bool := decide (1 ≤ t.1 ∧ t.1 ≤ 1000 ∧ 0 ≤ t.2.1 ∧ t.2.1 ≤ 1000 ∧ 0 ≤ t.2.2.1 ∧ t.2.2.1 ≤ 2)
abbrev YR : Type := List Cg × Gd
def FZ (k : Nat) (st : YR) (x : Int) : YR ⊕ Unit :=
 cond ((UX (Xv st.2 (k : Int))).2 && ((UX (Xv st.2 (k : Int))).1 == x)) (.inl st)
  (cond (YH st.2 (k : Int) x).2 (.inl (jf st.1 (YH st.2 (k : Int) x).1, (P2 (QH st.2 (YH st.2 (k : Int) x).1)).1)) (.inr ()))
def FY (t : Id) : List Int := [t.1, t.2.1, t.2.2.1]
def YL (f : Gd) (t : Id) : List Cg × Bool := cond (!S4 t) ([], false) (cond (decide (Aj f < 0)) ([], false) ((Le FZ 0 (([], f) : YR) (FY t)).elim (fun st => (st.1, true)) (fun _ => ([], false))))
def J2 (f : Gd) (P : Int) : Int := f.2.1.getD P.toNat 0
def N2 (f : Gd) (P : Int) : Int := wd (Q2 f P) 0
def KZ (P : Int) : Prop := P = 0 ∨ P = 1
structure XA (f : Gd) (c : Int) : Prop where
 ok : PS f
 pg : KZ (Aj f)
 hd : N2 f (Aj f) ≤ c + 1
 er : ∀ P, KZ P → J2 f P ≤ c
structure I5 (f g : Gd) (s v c : Int) (whole : Bool) : Prop where
 good : XA g (c + 1)
 rd : ∀ σ : Int, 0 ≤ σ ∧ σ ≤ 3 → Xv g σ = cond (whole && (σ == s)) (some v) (Xv f σ)
def HK (f : Gd) (t : Id) (j : Nat) (g : Gd) : Prop := ∀ σ : Nat, σ ≤ 3 → Xv g (σ : Int) = if σ < j then some ((FY t).getD σ 0) else Xv f (σ : Int)
structure E5 (f : Gd) (t : Id) (c : Int) (k : Nat) (st : YR) : Prop where
 run : QH f st.1 = .inl st.2
 good : XA st.2 (c + k)
 prog : HK f t k st.2
 cut : ∀ n, ∃ (x : Gd) (j : Nat), QH f (st.1.take n) = .inl x ∧ XA x (c + k) ∧ j ≤ k ∧ HK f t j x
structure F5 (f : Gd) (t : Id) (c : Int) (g : Gd) : Prop where
 ok : (YL f t).2 = true
 run : QH f (YL f t).1 = .inl g
 good : XA g (c + 3)
 prog : HK f t 3 g
 cut : ∀ n, ∃ (x : Gd) (j : Nat), QH f ((YL f t).1.take n) = .inl x ∧ XA x (c + 3) ∧ j ≤ 3 ∧ HK f t j x

theorem LM {a : List Int} (h : a.length ≤ Bb) : Xp a = some (false, ()) := by
 have h20 : Bb = 1048576 := rfl
 unfold Xp
 rw [Ma (by omega)]
theorem BQ {a : List Int} (h : ¬ a.length ≤ Bb) : Xp a = some (true, ()) := by
 have h20 : Bb = 1048576 := rfl
 unfold Xp
 rw [Ja (by omega)]

theorem R4 (n : Nat) : Fe n 0 0 := ⟨by omega, by have := Nat.two_pow_pos n; omega, by decide, by omega, by omega⟩
theorem WS {m : Ea} (hm : Kc m = true) : WA (Li m 0 0 false []) :=
 (XI _).1 (Kv hm (R4 _) false UB (by simp))
theorem XE {m : Ea} (hm : Kc m = true) : Gm m [] = some (Li m 0 0 false [], true, ()) := by
 have h20 : Bb = 1048576 := rfl
 have hz := (IC hm).z
 have he := WS hm
 have hz2 := TY he
 unfold Gm
 rw [Qq _ (by omega), Rq [] (by show (0 : Nat) ≤ _; omega)]
 simp only [jb]
 have : Rg (m, ([] : List (List Id)), (0 : Int), ([] : List Wa), (0 : Int), false, ()) = some (true, ()) := by
  rw [← (XI _).2 he]
  exact Wn (Li m 0 0 false []) (by omega)
 rw [this]
 rfl
theorem XG (l : List Int) (x : Int) (hn : l.length ≤ Bb) : Yp l x = some (l.any (fun y => y == x), ()) := by
 have h20 : Bb = 1048576 := rfl
 have hl := Ei (step := fun y : (List Int × Int × Int × Unit) × Unit => Yo y.1.1 y.1.2.1 y.1.2.2.1) l (fun _ y => !(y == x)) (fun i => ((l, x, i, ()), ()))
  (.inl ((), ())) (.inr ((true, ()), ())) (by
   intro k hk
   simp only [Yo]
   rw [Ja (by omega), Yd hk]
   simp only [cond_true, jb]
   cases l[k] == x <;> rfl) (by
   simp only [Yo]
   rw [Ma (by omega)]; rfl) (by omega)
 have ha : ∀ (ys : List Int) (k : Nat), Ld (fun _ y => !(y == x)) k ys = !(ys.any fun y => y == x) := by
  intro ys
  induction ys with
  | nil => intro k; rfl
  | cons y ys ih => intro k; simp only [Ld, List.any_cons, ih, Bool.not_or]
 unfold Yp Zo
 erw [hl]
 rw [ha]
 cases l.any fun y => y == x <;> rfl
theorem Nx {W : Bf} {x : Int} (hx : 0 ≤ x ∧ x < 16) : ((Lj W).any fun y => y == x) = (Tb W x).isSome := by
 apply TI
 rw [List.any_eq_true]
 have := Ox W x 16
 constructor
 ·rintro ⟨y, hy, he⟩
  have : y = x := by simpa using he
  subst this
  exact (this.1 hy).2
 ·intro h
  exact ⟨x, this.2 ⟨hx, h⟩, by simp⟩
theorem EE {m : Ea} (hM : Cf m) : ∀ (l : List Int) (i : Nat) (f o : Int) (c : Bool) (S : List Qa), Fe m.2.1.length f o → (∀ k ∈ l, 0 ≤ k ∧ k < (Zg m : Int)) →
 ∃ s', Le (fun _ s x => gT m s x) i ((f, o, c), S) l = .inl s' ∧ s'.1.1 = Hq (Qg m) f l
 | [], i, f, o, c, S, _, _ => ⟨_, rfl, rfl⟩
 | k :: l, i, f, o, c, S, hs, hk => by
  obtain ⟨k0, k1⟩ := hk k (by simp)
  obtain ⟨n, rfl⟩ := jv k0
  have hkm : (n : Int) < m.1 := by have := (Js hM).1; omega
  have h1 := (Pu (c := c) hM hs hkm).2.1
  obtain ⟨s', e1, e2⟩ := EE hM l (i + 1) _ _ (Lh m f o c n).2.2.1 (jf (jf S (Ln m f o c n)) (TC m f o c n)) h1 (fun k h => hk k (jr _ h))
  refine ⟨s', ?_, ?_⟩
  ·rw [Le]
   have hg : gT m ((f, o, c), S) (n : Int) = .inl (((Lh m f o c n).1, (Lh m f o c n).2.1, (Lh m f o c n).2.2.1), jf (jf S (Ln m f o c n)) (TC m f o c n)) := by
    unfold gT
    rw [Ja ⟨by omega, hkm⟩, jn]
    rfl
   rw [hg]
   exact e1
  ·rw [e2, GO hM hs c hkm]
   simp [Hq]
theorem CL {m : Ea} (hM : Cf m) (t : Int) (ok b15 b18 : Bool) (e : Mb) (w : List Int) (hw : w.length ≤ 16) (hk : ∀ k ∈ w, 0 ≤ k ∧ k < (Zg m : Int)) {f : Int} (hs : Fe m.2.1.length f 0) :
 Af (((), t, w, ok, b15, (), b18, f, (0 : Int), ()), (m, e, ())) = some (.inl ((t, ok, b15, (), b18, Hq (Qg m) f w, ()), (e, ()))) := by
 have key : ∀ (l : List Int) (k : Nat) (f : Int), w.drop k = l → k ≤ w.length → Fe m.2.1.length f 0 →
  Af (((), t, w, ok, b15, (), b18, f, (k : Int), ()), (m, e, ())) = some (.inl ((t, ok, b15, (), b18, Hq (Qg m) f l, ()), (e, ()))) := by
  intro l
  induction l with
  | nil =>
   intro k f hd hle hs
   have := Qz hd hle
   subst this
   unfold Af
   refine (Se (z := some (Sum.inr (.inl ((t, ok, b15, (), b18, f, ()), (e, ()))))) ?_).trans rfl
   simp only [Zn]
   rw [Ma (by omega)]; rfl
  | cons x l ih =>
   intro k f hd hle hs
   obtain ⟨hk', hx, hd'⟩ := Xw hd
   obtain ⟨x0, x1⟩ := hk x (hx ▸ ql hk')
   obtain ⟨n, rfl⟩ := jv x0
   have hn : (n : Int) < m.1 := by have := (Js hM).1; omega
   have := ih (k + 1) (Qg m f n) hd' hk' (NL hM hs hn)
   unfold Af at this ⊢
   refine (Se (z := some (Sum.inl (((), t, w, ok, b15, (), b18, Qg m f n, ((k + 1 : Nat) : Int), ()), (m, e, ())))) ?_).trans ?_
   ·simp only [Zn]
    rw [Ja (by omega), Yd hk', hx]
    simp only [cond_true, jb]
    have ha := (IG hM hs hn).2
    try rw [show ((m.1, m.2.1, ()) : Ea) = m from rfl]
    rw [ha, Ye (by omega)]
    rfl
   ·exact this
 exact key w 0 f rfl (Nat.zero_le _) hs
theorem IU {m : Ea} (hM : Cf m) {fr t : Int} (hs : Fe m.2.1.length fr 0) (ht : Fe m.2.1.length t 0) {W : Bf} (hW : W = Mm m fr) (i : Nat) {x : Int} {w : List Int} (hx : Tb W x = some w) (hi : (Lj W)[i]? = some x) :
 Qh (((), fr, t, (Tb W t).getD [], (Tb W t).isSome, Lj W, (i : Int), w, true, (0 : Int), ()), (m, ())) = some (.inl (((), fr, t, (Tb W t).getD [], (Tb W t).isSome, Lj W, (i : Int), ()), (m, ()))) := by
 have hF := UA hM hs
 rw [← hW] at hF
 have hxm := Xl hx
 have hxs := hF.ok _ hxm
 have hlen := Ar W 16
 obtain ⟨k1, k2⟩ := Js hM
 obtain ⟨hil, _⟩ := List.getElem?_eq_some_iff.1 hi
 have hwl : w.length ≤ 16 := by
  obtain ⟨j, hj, he⟩ := qm hxm
  have h1 := hF.ln j hj
  rw [he] at h1
  have := hF.len
  simp only at h1
  omega
 unfold Qh
 refine Ix (fun k => (((), fr, t, (Tb W t).getD [], (Tb W t).isSome, Lj W, (i : Int), w, true, (k : Int), ()), (m, ()))) (Zg m) _ (fun k hk => ?_) ?_
 ·simp only [Yn]
  rw [Ja (by omega), Vp, Ja hil, jn, hi]
  simp only [cond_true, jb]
  try rw [show ((m.1, m.2.1, ()) : Ea) = m from rfl]
  rw [(IG hM hxs (by omega)).2]
  simp only [jb, jg, cond_false]
  have hny := NL hM hxs (k := k) (by omega)
  obtain ⟨e', he', hq1, hq2⟩ := hF.cls _ hxm k hk
  have hgm : Tb W (Qg m x k) = some e'.2 := by
   rw [← hq1]
   exact My hF.nd he'
  rw [XG _ _ (by have h20 : Bb = 1048576 := rfl; unfold Lj; omega), Nx (Qt hM hny), hgm]
  simp only [jb, Option.isSome_some, jg, cond_false]
  rw [show j5 .i64 ((k : Int) + 1) = ((k + 1 : Nat) : Int) from Ye (by omega)]
  by_cases hnt : Qg m x k = t
  ·rw [hnt] at hgm
   rw [show (Qg m x k == t) = true by simpa using hnt, hgm]
   simp only [Option.isSome_some, Option.getD_some, cond_true]
   rw [Qd (by omega) (by omega), Ma (by simp only at hq2; omega)]
   rfl
  ·rw [show (Qg m x k == t) = false by simpa using hnt]
   cases (Tb W t).isSome <;> rfl
 ·simp only [Yn]
  rw [Ma (by omega)]; rfl
theorem TR {m : Ea} (hM : Cf m) {fr t : Int} (hs : Fe m.2.1.length fr 0) (ht : Fe m.2.1.length t 0) {W : Bf} (hW : W = Mm m fr) :
 Ph (((), fr, t, (Tb W t).getD [], (Tb W t).isSome, Lj W, (0 : Int), ()), (m, ())) = some (.inl (((), fr, t, (Tb W t).getD [], (Tb W t).isSome, ()), (m, ()))) := by
 have hF := UA hM hs
 rw [← hW] at hF
 have hlen := Ar W 16
 unfold Ph
 refine Ix (fun k => (((), fr, t, (Tb W t).getD [], (Tb W t).isSome, Lj W, (k : Int), ()), (m, ()))) (Lj W).length _ (fun k hk => ?_) ?_
 ·simp only [Xn]
  have hmem := (Ox W (Lj W)[k] 16).1 (ql hk)
  obtain ⟨w, hw⟩ := Option.isSome_iff_exists.1 hmem.2
  have hxs := hF.ok _ (Xl hw)
  rw [Ja (by omega), Vp, Ja hk, jn, je hk]
  simp only [cond_true, jb]
  try rw [show ((m.1, m.2.1, ()) : Ea) = m from rfl]
  rw [Iw hM hs hxs, ← hW, hw]
  simp only [jb, Option.getD_some, Option.isSome_some]
  have := IU hM hs ht hW k hw (je hk)
  erw [this]
  simp only [jb, qi]
  rw [Ye (by have : (Lj W).length ≤ 16 := hlen; omega)]
 ·simp only [Xn]
  rw [Ma (by omega)]; rfl
theorem NQ {L : Nat} (h1 : 1 ≤ L) (h2 : L ≤ 4) : j5 .i64 (Int.tdiv (Qe .i64 1 ((L : Nat) : Int)) 2) = ((2 ^ (L - 1) : Nat) : Int) ∧ 2 * 2 ^ (L - 1) = 2 ^ L := by
 have : L = 1 ∨ L = 2 ∨ L = 3 ∨ L = 4 := by omega
 rcases this with rfl | rfl | rfl | rfl <;> decide
theorem JL (a : List Int) : Bn a = some (true, ()) := by
 have h20 : Bb = 1048576 := rfl
 by_cases hn : a.length ≤ Bb
 case neg => unfold Bn; rw [BQ hn]; rfl
 obtain ⟨m, em, hv, hm4⟩ := WE a 150 (keys := 4) hn (by omega) (by omega)
 have hM := IC hv
 have hm := Re hv
 have hl1 := hm.l1
 have hl2 := hm.l2
 obtain ⟨p1, p2⟩ := NQ hl1 hl2
 have ht2 : ∀ z : Int, (2 * z).tmod 2 = 0 := fun z => Int.mul_tmod_right 2 z
 have hp0 : 1 ≤ 2 ^ (m.2.1.length - 1) := Nat.one_le_two_pow
 have hpL : 2 ^ m.2.1.length ≤ 2 ^ 4 := qk (by omega) hl2
 obtain ⟨u, eu, u0, u1⟩ := ME a 151 ((2 ^ (m.2.1.length - 1) : Nat) : Int) hn (by omega)
 obtain ⟨v, ev, v0, v1⟩ := ME a 152 ((2 ^ (m.2.1.length - 1) : Nat) : Int) hn (by omega)
 have hs : Fe m.2.1.length (2 * u) 0 := ⟨by omega, by omega, ht2 u, by omega, by omega⟩
 have ht : Fe m.2.1.length (2 * v) 0 := ⟨by omega, by omega, ht2 v, by omega, by omega⟩
 obtain ⟨W, hW⟩ : ∃ W, W = Mm m (2 * u) := ⟨_, rfl⟩
 have hF := UA hM hs
 rw [← hW] at hF
 have hlen := Ar W 16
 have hreach : (Lj W).length ≤ 16 := hlen
 have h0 : Tb W (2 * u) = some [] := by
  have := hF.fst
  obtain ⟨h, he⟩ := List.getElem?_eq_some_iff.1 this
  exact My hF.nd (he ▸ ql h)
 have hway : Hq (Qg m) (2 * u) ((Tb W (2 * v)).getD []) = 2 * v ∨ (Tb W (2 * v)).isSome = false := by
  cases hg : Tb W (2 * v) with
  | none => exact .inr rfl
  | some w => exact .inl (hF.way _ (Xl hg)).1
 have hkeys : ∀ k ∈ (Tb W (2 * v)).getD [], 0 ≤ k ∧ k < (Zg m : Int) := by
  cases hg : Tb W (2 * v) with
  | none => simp
  | some w => exact (hF.way _ (Xl hg)).2
 have hwl : ((Tb W (2 * v)).getD []).length ≤ 16 := by
  cases hg : Tb W (2 * v) with
  | none => simp
  | some w =>
   obtain ⟨j, hj, he⟩ := qm (Xl hg)
   have h1 := hF.ln j hj
   rw [he] at h1
   have := hF.len
   simp only [Option.getD_some] at h1 ⊢
   omega
 obtain ⟨s', f1, f2⟩ := EE hM _ 0 (2 * u) 0 false [] hs hkeys
 have htap := XB (c := false) hM hs ((Tb W (2 * v)).getD []) (by omega)
 unfold QR at htap
 rw [show Le (fun _ s x => gT m s x) 0 (((2 * u, (0 : Int), false), ([] : List Qa)) : St) ((Tb W (2 * v)).getD []) = .inl s' from f1] at htap
 unfold Bn
 rw [LM hn]
 simp only [jb, cond_false]
 rw [show Gi a 150 4 = some (m, ()) from em]
 simp only [jb]
 rw [Ja (show (0 : Int) ≤ ((ja m.2.1 : Nat) : Int) by omega), show ((2 : Int) == (0 : Int)) = false from rfl, p1, eu]
 simp only [cond_true, cond_false, jb]
 rw [ev]
 simp only [jb]
 rw [Qd (n := 2 * u) (by omega) (by omega), Qd (n := 2 * v) (by omega) (by omega), Iw hM hs ht, ← hW]
 simp only [jb]
 rw [WB hM hs, ← hW, (Hm hv hs).1, (Hm hv ht).1]
 simp only [jb, jg, cond_false]
 rw [XG _ _ (by omega), XG _ _ (by omega), Nx (Qt hM ht), Nx (Qt hM hs), h0]
 simp only [jb, Option.isSome_some, jg, cond_false, bne_self_eq_false]
 rw [TR hM hs ht hW]
 simp only [jb, qi]
 try rw [show ((m.1, m.2.1, ()) : Ea) = m from rfl]
 rw [XE hv]
 simp only [jb]
 erw [htap]
 simp only [jb]
 erw [CL hM _ _ _ _ _ _ hwl hkeys hs]
 simp only [jb, qi, cond_true]
 have hfin : (eS m s').2.2.1 = Hq (Qg m) (2 * u) ((Tb W (2 * v)).getD []) := f2
 rcases hway with hw | hw
 ·rw [hw] at hfin ⊢
  rw [hfin]
  cases (Tb W (2 * v)).isSome with
  | false => rfl
  | true => simp
 ·rw [hw]; rfl
end KF
