/- An evaluator of Go functions on plain data, its soundness, and plain laws on what the functions compute, part 5 (conditions: as each lemma tells). -/
import Derived.Test.YthipacpeljffpaaGreatD
set_option linter.unusedSimpArgs false
set_option linter.unusedVariables false
namespace KF
open Go
open List renaming length → ja, getElem?_eq_getElem → je, append → jf, mem_append → jl, mem_cons → jp, mem_cons_of_mem → jr, length_cons → jw, set → qa, length_nil → qb, length_set → qc, mem_singleton → qh, length_append → qi, getElem?_append_left → qk, getElem?_append_right → ql, getD_eq_getElem?_getD → qm, getElem_mem → qv, mem_of_mem_drop → qw, getElem_of_mem → qx, mem_map → qy, length_drop → qz, length_take → q0, mem_cons_self → q8, length_replicate → yb
open Option renaming bind_some → jb, bind → jz, map_some → qg, bind_eq_some_iff → qj
open Option.some renaming injEq → jc
open Bool renaming and_eq_true → jd, not_true → jg, true_and → jk, false_eq_true → jq, not_false → qd, not_eq_true → qe, false_and → qs, and_self → qt, eq_iff_iff → q7
open Prod.mk renaming injEq → jh
open Nat renaming ble_eq_true_of_le → ji, mul_le_mul_right → jm, le_refl → jo, zero_add → js, add_assoc → jt, eq_of_beq_eq_true → ju, ble → jx, le_trans → qf, lt_of_lt_of_le → qo, pow_le_pow_right → qp, testBit_xor → qq, testBit_two_pow → qr, xor_lt_two_pow → qu
open Int renaming toNat_natCast → jn, eq_ofNat_of_zero_le → jv, toNat → jy
open Go.IntKind renaming wrap → j8, wrap → j9
open Sum renaming elim_inl → qn
open Result renaming andThen_ok → q9
open Sem renaming run_bind → ya
def WI (n : Int) (a : Pa) : Prop := Qc a = true ∧ a.1 ≠ 1 ∧ (a.1 = 9 ∨ a.2.2.2.1 < n)
theorem Kv {n k c m x : Int} (h : Yb k c m x) (h1 : k ≠ 1) (h2 : k = 9 ∨ x < n) : WI n (k, c, m, x, ()) := ⟨(Tb _).2 h, h1, h2⟩
def Gr (n : Int) (o : Option (Ab × (Pa × Unit))) : Prop := ∃ (c : Ab) (a : Pa), o = some (c, (a, ())) ∧ Uh c ∧ WI n a
theorem UB {n : Int} {c : Ab} {a : Pa} (h : Uh c) (ha : WI n a) : Gr n (some (c, (a, ()))) := ⟨c, a, rfl, h, ha⟩
theorem Ns {n : Int} {b : Bool} {x y : Option (Ab × (Pa × Unit))} (h1 : Gr n x) (h2 : Gr n y) : Gr n (cond b x y) := by cases b <;> assumption
theorem Daq {n : Int} {p : Prop} [Decidable p] {x y : Option (Ab × (Pa × Unit))} (h1 : p → Gr n x) (h2 : Gr n y) : Gr n (cond (decide p) x y) := by
 by_cases h : p
 ·rw [Aa h]; exact h1 h
 ·rw [Ca h]; exact h2
theorem AF {n m : Int} {c : Ab} (hc : Uh c) (hm : 0 < m) {f : (Ab × (Int × Unit)) → Option (Ab × (Pa × Unit))}
 (h : ∀ (c' : Ab) (x : Int), Uh c' → 0 ≤ x → x < m → Gr n (f (c', (x, ())))) : Gr n (jz (Cb c m) f) := by
 obtain ⟨c1, x1, e1, h1, b1⟩ := Eh hc m hm
 rw [e1]
 exact h c1 x1 h1 b1.1 b1.2
theorem Mav {n m : Int} {c : Ab} (hc : Uh c) (hm : 0 < m) {f : (Ab × (Bool × Unit)) → Option (Ab × (Pa × Unit))}
 (h : ∀ (c' : Ab) (x : Bool), Uh c' → Gr n (f (c', (x, ())))) : Gr n (jz (Bh c m) f) := by
 obtain ⟨c1, x1, e1, h1⟩ := Ct hc m hm
 rw [e1]
 exact h c1 x1 h1
theorem XaK {c : Ab} {n x : Int} {a0 a1 a2 : Pa} (hc : Uh c) (h0 : 0 ≤ x) (h3 : x < 3) (g0 : WI n a0) (g1 : WI n a1) (g2 : WI n a2) :
 Gr n (cond (Ei (ja [a0, a1, a2]) x) (jz [a0, a1, a2][(jy x)]? fun y => some (c, (y, ()))) none) := by
 have : x = 0 ∨ x = 1 ∨ x = 2 := by omega
 rcases this with rfl | rfl | rfl
 ·exact UB hc g0
 ·exact UB hc g1
 ·exact UB hc g2
theorem Tak {c : Ab} (h : Uh c) (n : Int) (hn : 1 ≤ n) (hn4 : n ≤ 4) : Gr n (LG c n) := by
 unfold LG
 rw [Xc (n := n - 1) (by omega) (by omega)]
 refine AF h (by omega) fun c1 x1 h1 l1 u1 => ?_
 refine AF h1 (by omega) fun c2 x2 h2 l2 u2 => ?_
 refine Mav h2 (by omega) fun c3 x3 h3 => ?_
 simp only
 rw [Xc (n := 1 + x1) (by omega) (by omega), Xc (n := 1 + x2) (by omega) (by omega)]
 have tail : ∀ (md : Int), 1 ≤ md → md ≤ 15 → Gr n (jz (Cb c3 (max (1 : Int) (n - 1))) fun r4 =>
  (jz (Cb r4.1 (16 : Int)) fun r5 =>
  (cond (r5.2.1 == (0 : Int)) (some (r5.1, (((2 : Int), (1 + x1), md, (0 : Int), ()), ())))
  (cond (r5.2.1 == (1 : Int)) (some (r5.1, (((2 : Int), (0 : Int), md, (0 : Int), ()), ())))
  (cond (r5.2.1 == (2 : Int)) (some (r5.1, (((6 : Int), (1 + x1), md, (0 : Int), ()), ())))
  (cond (r5.2.1 == (3 : Int)) (some (r5.1, (((6 : Int), (1 + x1), md, (0 : Int), ()), ())))
  (cond (r5.2.1 == (4 : Int)) (some (r5.1, (((8 : Int), (0 : Int), md, (0 : Int), ()), ())))
  (cond (r5.2.1 == (5 : Int)) (jz (Cb r5.1 (4 : Int)) fun r6 => (some (r6.1, (((9 : Int), (0 : Int), (0 : Int), r6.2.1, ()), ()))))
  (cond (r5.2.1 == (6 : Int)) (some (r5.1, (((10 : Int), (0 : Int), (0 : Int), (0 : Int), ()), ())))
  (cond (r5.2.1 == (7 : Int)) (jz (Cb r5.1 (max (1 : Int) n)) fun r7 => (some (r7.1, (((5 : Int), (0 : Int), (0 : Int), r7.2.1, ()), ()))))
  (cond (r5.2.1 == (8 : Int)) (cond (decide (n > (1 : Int))) (jz (Cb r5.1 (3 : Int)) fun r8 => (cond (Ei (ja ([((3 : Int), (0 : Int), (0 : Int), (j8 .i64 ((1 : Int) + r4.2.1)), ()), ((4 : Int), (0 : Int), (0 : Int), (j8 .i64 ((1 : Int) + r4.2.1)), ()), ((7 : Int), (1 + x1), (0 : Int), (j8 .i64 ((1 : Int) + r4.2.1)), ())] : List Pa)) r8.2.1) (jz ([((3 : Int), (0 : Int), (0 : Int), (j8 .i64 ((1 : Int) + r4.2.1)), ()), ((4 : Int), (0 : Int), (0 : Int), (j8 .i64 ((1 : Int) + r4.2.1)), ()), ((7 : Int), (1 + x1), (0 : Int), (j8 .i64 ((1 : Int) + r4.2.1)), ())] : List Pa)[(jy r8.2.1)]? fun x9 => (some (r8.1, (x9, ())))) none)) (some (r5.1, (((2 : Int), (1 + x1), (0 : Int), (0 : Int), ()), ()))))
  (cond (r5.2.1 == (9 : Int)) (cond (decide (n > (1 : Int))) (jz (Cb r5.1 (3 : Int)) fun r8 => (cond (Ei (ja ([((3 : Int), (0 : Int), (0 : Int), (j8 .i64 ((1 : Int) + r4.2.1)), ()), ((4 : Int), (0 : Int), (0 : Int), (j8 .i64 ((1 : Int) + r4.2.1)), ()), ((7 : Int), (1 + x1), (0 : Int), (j8 .i64 ((1 : Int) + r4.2.1)), ())] : List Pa)) r8.2.1) (jz ([((3 : Int), (0 : Int), (0 : Int), (j8 .i64 ((1 : Int) + r4.2.1)), ()), ((4 : Int), (0 : Int), (0 : Int), (j8 .i64 ((1 : Int) + r4.2.1)), ()), ((7 : Int), (1 + x1), (0 : Int), (j8 .i64 ((1 : Int) + r4.2.1)), ())] : List Pa)[(jy r8.2.1)]? fun x9 => (some (r8.1, (x9, ())))) none)) (some (r5.1, (((2 : Int), (1 + x1), (0 : Int), (0 : Int), ()), ()))))
  (cond (r5.2.1 == (10 : Int)) (cond (decide (n > (1 : Int))) (jz (Cb r5.1 (3 : Int)) fun r8 => (cond (Ei (ja ([((3 : Int), (0 : Int), (0 : Int), (j8 .i64 ((1 : Int) + r4.2.1)), ()), ((4 : Int), (0 : Int), (0 : Int), (j8 .i64 ((1 : Int) + r4.2.1)), ()), ((7 : Int), (1 + x1), (0 : Int), (j8 .i64 ((1 : Int) + r4.2.1)), ())] : List Pa)) r8.2.1) (jz ([((3 : Int), (0 : Int), (0 : Int), (j8 .i64 ((1 : Int) + r4.2.1)), ()), ((4 : Int), (0 : Int), (0 : Int), (j8 .i64 ((1 : Int) + r4.2.1)), ()), ((7 : Int), (1 + x1), (0 : Int), (j8 .i64 ((1 : Int) + r4.2.1)), ())] : List Pa)[(jy r8.2.1)]? fun x9 => (some (r8.1, (x9, ())))) none)) (some (r5.1, (((2 : Int), (1 + x1), (0 : Int), (0 : Int), ()), ()))))
  (some (r5.1, (((2 : Int), (1 + x1), (0 : Int), (0 : Int), ()), ())))))))))))))))) := by
  intro md lm um
  refine AF h3 (by omega) fun c4 x4 h4 l4 u4 => ?_
  refine AF h4 (by omega) fun c5 x5 h5 l5 u5 => ?_
  simp only
  rw [Xc (n := 1 + x4) (by omega) (by omega)]
  have last : Gr n (some (c5, (((2 : Int), (1 + x1), (0 : Int), (0 : Int), ()), ()))) := UB h5 (Kv (by unfold Yb; omega) (by omega) (by omega))
  have mid : Gr n (cond (decide (n > (1 : Int))) (jz (Cb c5 (3 : Int)) fun r8 => (cond (Ei (ja ([((3 : Int), (0 : Int), (0 : Int), (1 + x4), ()), ((4 : Int), (0 : Int), (0 : Int), (1 + x4), ()), ((7 : Int), (1 + x1), (0 : Int), (1 + x4), ())] : List Pa)) r8.2.1) (jz ([((3 : Int), (0 : Int), (0 : Int), (1 + x4), ()), ((4 : Int), (0 : Int), (0 : Int), (1 + x4), ()), ((7 : Int), (1 + x1), (0 : Int), (1 + x4), ())] : List Pa)[(jy r8.2.1)]? fun x9 => (some (r8.1, (x9, ())))) none)) (some (c5, (((2 : Int), (1 + x1), (0 : Int), (0 : Int), ()), ())))) := by
   refine Daq (fun hn1 => ?_) last
   have hx : 1 + x4 < n := by omega
   refine AF h5 (by omega) fun c6 x6 h6 l6 u6 => ?_
   exact XaK h6 l6 u6 (Kv (by unfold Yb; omega) (by omega) (by omega)) (Kv (by unfold Yb; omega) (by omega) (by omega)) (Kv (by unfold Yb; omega) (by omega) (by omega))
  refine Ns (UB h5 (Kv (by unfold Yb; omega) (by omega) (by omega))) ?_
  refine Ns (UB h5 (Kv (by unfold Yb; omega) (by omega) (by omega))) ?_
  refine Ns (UB h5 (Kv (by unfold Yb; omega) (by omega) (by omega))) ?_
  refine Ns (UB h5 (Kv (by unfold Yb; omega) (by omega) (by omega))) ?_
  refine Ns (UB h5 (Kv (by unfold Yb; omega) (by omega) (by omega))) ?_
  refine Ns (AF h5 (by omega) fun c6 x6 h6 l6 u6 => by simp only; exact UB h6 (Kv (by unfold Yb; omega) (by omega) (by omega))) ?_
  refine Ns (UB h5 (Kv (by unfold Yb; omega) (by omega) (by omega))) ?_
  refine Ns (AF h5 (by omega) fun c6 x6 h6 l6 u6 => by simp only; exact UB h6 (Kv (by unfold Yb; omega) (by omega) (by omega))) ?_
  exact Ns mid (Ns mid (Ns mid last))
 cases x3 with
 | true => exact tail 2 (by omega) (by omega)
 | false => exact tail (1 + x2) (by omega) (by omega)
def RB : Ja := (0, 0, ())
def Fh (L : List Ja) (o : Int) : Option Ja := L.find? (fun c => c.2.1 == o)
theorem NO {α : Type} (p : α → Bool) : ∀ (xs : List α) (k : Nat), (Sa (fun _ (_ : Unit) x => cond (p x) (.inr x) (.inl ())) k () xs : Unit ⊕ α) = match xs.find? p with | some x => .inr x | none => .inl ()
 | [], _ => rfl
 | x :: xs, k => by
  rcases Bool.eq_false_or_eq_true (p x) with hp | hp
  ·simp only [Sa, hp, cond_true, List.find?_cons]
  ·simp only [Sa, hp, cond_false, List.find?_cons]; exact NO p xs (k + 1)
theorem ZK (L : List Ja) (o : Int) (hn : L.length ≤ Ga) : Ly L o = some ((Fh L o).getD RB, (Fh L o).isSome, ()) := by
 have h20 : Ga = 1048576 := rfl
 have hl := Ag (step := fun x => Ku x.1.1 x.1.2.1 x.1.2.2.1 x.1.2.2.2.1 x.1.2.2.2.2.1 x.2.1) L (fun _ (_ : Unit) (x : Ja) => cond (x.2.1 == o) (.inr x) (.inl ())) (fun _ i => ((o, (), L, ((ja L : Nat) : Int), i, ()), (((0 : Int), (0 : Int), ()), ())))
  (fun _ => .inl (((), ()), (((0 : Int), (0 : Int), ()), ()))) (fun x => .inr (((), true, ()), (x, ()))) (fun _ _ => True) (by
   intro k hk s _
   refine ⟨?_, fun _ _ => trivial⟩
   simp only [Ku]
   rw [Aa (show (k : Int) < ((ja L : Nat) : Int) by omega), Wb hk]
   simp only [cond_true, jb]
   cases (L[k].2.1 == o) <;> rfl) (by
   intro s _
   simp only [Ku]
   rw [Ca (by omega)]; rfl) (by omega) () trivial
 unfold Ly Nw Fh
 erw [hl, NO]
 cases List.find? (fun c => c.2.1 == o) L <;> rfl
theorem H0 (L : List Ja) (o : Int) (hn : L.length ≤ Ga) : FE L o = some (((Fh L o).getD RB).1, ()) := by
 have h20 : Ga = 1048576 := rfl
 have hl := Ag (step := fun x => Cv x.1.1 x.1.2.1 x.1.2.2.1) L (fun _ (_ : Unit) (x : Ja) => cond (x.2.1 == o) (.inr x) (.inl ())) (fun _ i => ((L, o, i, ()), ()))
  (fun _ => .inl ((), ())) (fun x => .inr ((x.1, ()), ())) (fun _ _ => True) (by
   intro k hk s _
   refine ⟨?_, fun _ _ => trivial⟩
   simp only [Cv]
   rw [Aa (show (k : Int) < ((ja L : Nat) : Int) by omega), Wb hk]
   simp only [cond_true, jb]
   cases (L[k].2.1 == o) <;> rfl) (by
   intro s _
   simp only [Cv]
   rw [Ca (by omega)]; rfl) (by omega) () trivial
 unfold FE Tw Fh
 erw [hl, NO]
 cases List.find? (fun c => c.2.1 == o) L <;> rfl
theorem WE {L : List Ja} {o : Int} (h : Ke L = true) (hs : (Fh L o).isSome = true) : 24 ≤ o ∧ o ≤ 31 ∧ 0 ≤ ((Fh L o).getD RB).1 ∧ ((Fh L o).getD RB).1 ≤ 16777215 := by
 unfold Fh at *
 cases hc : List.find? (fun c => c.2.1 == o) L with
 | none => rw [hc] at hs; simp at hs
 | some c =>
  have h1 := List.find?_some hc
  have h2 := List.mem_of_find?_eq_some hc
  obtain ⟨i, hi, rfl⟩ := qx h2
  simp only [Ke, jd] at h
  have h3 := Kk.1 h.2 i hi
  simp only [Vt, jd, decide_eq_true_eq] at h3
  simp only [beq_iff_eq] at h1
  simp only [Option.getD_some]
  omega
def BS (K : Int) (x : Ba) : Bool := !decide (x.2.1 ≤ 0) && (!(Gc .i64 x.2.1 K != 0) && !(x.2.2.1 != (x.2.1 == K)))
def Sy (L : List Ja) (o : Int) : Int := ((Fh L o).getD RB).1
def ID (L : List Ja) (x : Ba) : Bool := (Fh L x.1).isSome && BS (Sy L x.1) x
theorem Faj {x : Int} (h0 : 0 < x) (h1 : x ≤ 9223372036854775807) : Gc .i64 x 0 = x := by
 obtain ⟨n, rfl⟩ := jv (show 0 ≤ x by omega)
 show Gc .i64 (n : Int) ((0 : Nat) : Int) = _
 rw [Tn (by rw [GH]; omega) (by decide), Nat.and_zero, Nat.xor_zero]
theorem EaI {L : List Ja} {x : Ba} (h1 : x.2.1 ≤ 9223372036854775807) : BS (Sy L x.1) x = ID L x := by
 unfold ID Sy
 cases hc : Fh L x.1 with
 | some c => rfl
 | none =>
  simp only [Option.getD_none, Option.isSome_none, qs, BS, RB]
  by_cases h0 : x.2.1 ≤ 0
  ·rw [Aa h0]; rfl
  ·rw [Faj (by omega) h1, Ca h0]
   have : (x.2.1 != 0) = true := by simp; omega
   rw [this]; rfl
def At (pre : List Ba) (x : Ba) : Bool := Ad (fun _ (y : Ba) => !(y.1 == x.1)) 0 pre
def Hs (L : List Ja) : List Ba → List Ba → Bool
 | _, [] => true
 | pre, x :: r => (ID L x && At pre x) && Hs L (pre ++ [x]) r
def AD (c : Da) : Bool := Hs c.1 [] c.2.2.2.2.2.2.1
theorem EY {α : Type} (p : α → Bool) : ∀ (xs : List α) (k j : Nat), Ad (fun _ x => p x) k xs = Ad (fun _ x => p x) j xs
 | [], _, _ => rfl
 | x :: xs, k, j => by simp only [Ad]; rw [EY p xs (k + 1) (j + 1)]
theorem F7 {α : Type} (p : α → Bool) : ∀ (xs ys : List α) (k : Nat), Ad (fun _ x => p x) k (xs ++ ys) = (Ad (fun _ x => p x) k xs && Ad (fun _ x => p x) k ys)
 | [], ys, k => by simp [Ad]
 | x :: xs, ys, k => by
  simp only [List.cons_append, Ad]
  rw [F7 p xs ys (k + 1), Bool.and_assoc, EY p ys (k + 1) k]
theorem Pam (pre : List Ba) (y x : Ba) : At (pre ++ [y]) x = (At pre x && !(y.1 == x.1)) := by
 unfold At
 rw [F7]
 simp [Ad]
def B7 (L : List Ja) (s : Int) (x : Ba) : Int ⊕ Unit := cond (ID L x && !(Rd s x.1 == 1)) (.inl (Tc .i64 s (Ra .i64 1 x.1))) (.inr ())
theorem C7 {L : List Ja} (hL : Ke L = true) : ∀ (l pre : List Ba) (k : Nat) (s : Nat), s < 2 ^ 63 →
 (∀ x : Ba, 24 ≤ x.1 → x.1 ≤ 31 → (Rd (s : Int) x.1 == 1) = !At pre x) → Ok (Sa (fun _ s x => B7 L s x) k (s : Int) l) = Hs L pre l
 | [], _, _, _, _, _ => rfl
 | x :: l, pre, k, s, hs, hb => by
  simp only [Sa, Hs, B7]
  cases ho : ID L x with
  | false => rfl
  | true =>
   have hk : 24 ≤ x.1 ∧ x.1 ≤ 31 := by
    simp only [ID, jd] at ho
    have := WE hL ho.1
    omega
   rw [hb x hk.1 hk.2]
   simp only [Bool.not_not, jk]
   cases hn : At pre x with
   | false => rfl
   | true =>
    simp only [cond_true, jk]
    obtain ⟨n, hn2⟩ := jv (show 0 ≤ x.1 by omega)
    have hor : Tc .i64 (s : Int) (Ra .i64 1 x.1) = ((s ||| 2 ^ n : Nat) : Int) := by
     rw [hn2, Qf (by omega), Hk hs (Gf (by omega))]
    rw [hor]
    refine C7 hL l (pre ++ [x]) (k + 1) _ (Nat.or_lt_two_pow hs (Gf (by omega))) fun y h1 h2 => ?_
    obtain ⟨m, hm⟩ := jv (show 0 ≤ y.1 by omega)
    rw [← hor, hm, hn2, BaB hs (by omega) (by omega), ← hm, hb y h1 h2, Pam]
    have : (x.1 == y.1) = decide (n = m) := by rw [hm, hn2, q7, beq_iff_eq, decide_eq_true_eq]; omega
    rw [this]
    cases At pre y <;> cases decide (n = m) <;> rfl
theorem NR (c : Da) (hc : Ke c.1 = true) (hn : c.2.2.2.2.2.2.1.length ≤ Ga) (hn1 : c.1.length ≤ Ga) : Gx c = some (AD c, ()) := by
 have h20 : Ga = 1048576 := rfl
 have hl := Ag (step := fun x => Ro x.1.1 x.1.2.1 x.1.2.2.1 x.1.2.2.2.1 x.1.2.2.2.2.1 x.2.1) c.2.2.2.2.2.2.1 (fun _ s x => B7 c.1 s x) (fun s i => (((), s, c.2.2.2.2.2.2.1, ((ja c.2.2.2.2.2.2.1 : Nat) : Int), i, ()), (c, ())))
  (fun _ => .inl ((), ())) (fun _ => .inr ((false, ()), ())) (fun _ _ => True) (by
   intro k hk s _
   refine ⟨?_, fun _ _ => trivial⟩
   simp only [Ro]
   rw [Aa (show (k : Int) < ((ja c.2.2.2.2.2.2.1 : Nat) : Int) by omega), Wb hk]
   simp only [cond_true, jb]
   generalize c.2.2.2.2.2.2.1[k] = x
   rw [ZK _ _ hn1]
   simp only [jb, B7, ID]
   cases hsome : (Fh c.1 x.1).isSome with
   | false => rfl
   | true =>
    have hk := WE hc hsome
    simp only [jg, cond_false, jk]
    rw [Nl s (by omega), Aa (show 0 ≤ x.1 by omega)]
    simp only [jb, cond_true, BS, Sy]
    cases Rd s x.1 == 1 <;> cases decide (x.2.1 ≤ 0) <;> cases (Gc .i64 x.2.1 ((Fh c.1 x.1).getD RB).1 != 0) <;> cases (x.2.2.1 != (x.2.1 == ((Fh c.1 x.1).getD RB).1)) <;> rfl) (by
   intro s _
   simp only [Ro]
   rw [Ca (by omega)]; rfl) (by omega) 0 trivial
 unfold Gx Pq AD
 erw [hl]
 rw [← C7 hc c.2.2.2.2.2.2.1 [] 0 0 (by decide) (fun x h1 h2 => by
  obtain ⟨m, hm⟩ := jv (show 0 ≤ x.1 by omega)
  rw [hm, Kj (by decide) (by omega), Nat.zero_testBit]; rfl)]
 show jz (some _) _ = _
 simp only [jb]
 show Sum.elim _ _ _ = _
 cases Sa (fun x s x => B7 c.1 s x) 0 ((0 : Nat) : Int) c.2.2.2.2.2.2.1 <;> rfl
def OS (s : Int) (x : Ba) : Int ⊕ Unit := cond (Ya .i64 s x.2.1 != 0) (.inr ()) (.inl (Tc .i64 s x.2.1))
def NS (c : Da) : Bool := Ok (Sa (fun _ s x => OS s x) 0 c.2.2.2.2.2.1 c.2.2.2.2.2.2.1)
def RZ (k : Nat) (s : Int) (l : List Ba) : Int := Dd (fun _ s (x : Ba) => Tc .i64 s x.2.1) k s l
def Wk (c : Da) : Int := RZ 0 c.2.2.2.2.2.1 c.2.2.2.2.2.2.1
theorem Pau : ∀ (l : List Ba) (k : Nat) (s : Int), Sa (fun _ s x => OS s x) k s l = cond (Ok (Sa (fun _ s x => OS s x) k s l)) (.inl (RZ k s l)) (.inr ())
 | [], _, _ => rfl
 | x :: l, k, s => by
  simp only [Sa, RZ, Dd, OS]
  cases Ya .i64 s x.2.1 != 0 with
  | true => rfl
  | false => simp only [cond_false]; exact Pau l (k + 1) _
theorem Ou (c : Da) (hn : c.2.2.2.2.2.2.1.length ≤ Ga) : Vi c = some (cond (NS c) (Wk c) 0, NS c, ()) := by
 have h20 : Ga = 1048576 := rfl
 have hl := Ag (step := fun x => Fm x.1.1 x.1.2.1 x.1.2.2.1 x.1.2.2.2.1) c.2.2.2.2.2.2.1 (fun _ s x => OS s x) (fun s i => ((s, c.2.2.2.2.2.2.1, ((ja c.2.2.2.2.2.2.1 : Nat) : Int), i, ()), ()))
  (fun s => .inl ((s, ()), ())) (fun _ => .inr (((0 : Int), false, ()), ())) (fun _ _ => True) (by
   intro k hk s _
   refine ⟨?_, fun _ _ => trivial⟩
   simp only [Fm]
   rw [Aa (show (k : Int) < ((ja c.2.2.2.2.2.2.1 : Nat) : Int) by omega), Wb hk]
   simp only [cond_true, jb, OS]
   cases (Ya .i64 s c.2.2.2.2.2.2.1[k].2.1 != 0) <;> rfl) (by
   intro s _
   simp only [Fm]
   rw [Ca (by omega)]; rfl) (by omega) c.2.2.2.2.2.1 trivial
 unfold Vi Lo NS Wk
 erw [hl, Pau]
 show jz (some _) _ = _
 cases Ok (Sa (fun _ s x => OS s x) 0 c.2.2.2.2.2.1 c.2.2.2.2.2.2.1) <;> rfl
theorem NL (c : Da) (hn : c.2.2.2.2.2.2.1.length ≤ Ga) : Gz c = some (Wk c, ()) := by
 have h20 : Ga = 1048576 := rfl
 have hl := (Qh (step := fun x => Bv x.1.1 x.1.2.1 x.1.2.2.1 x.2.1) c.2.2.2.2.2.2.1 (fun _ s (x : Ba) => Tc .i64 s x.2.1) (fun s i => (((), s, i, ()), (c, ())))
  (fun s => .inl ((s, ()), ())) (fun _ _ => True) (by
   intro k hk s _
   refine ⟨?_, trivial⟩
   simp only [Bv]
   rw [Aa (show (k : Int) < ((ja c.2.2.2.2.2.2.1 : Nat) : Int) by omega), Wb hk]; rfl) (by
   intro s _
   simp only [Bv]
   rw [Ca (by omega)]; rfl) (by omega) c.2.2.2.2.2.1 trivial).1
 unfold Gz Sw Wk RZ
 erw [hl]; rfl
def E7 (L : List Ja) (l : List Ba) (k : Nat) (s : Int) (x : Ba) : Int ⊕ Unit :=
 cond (BS (Sy L x.1) x && (!(Ya .i64 x.2.1 s != 0) && At (l.take k) x)) (.inl (Tc .i64 s x.2.1)) (.inr ())
theorem Lak (x y : Int) : Ya .i64 x y = Ya .i64 y x := by unfold Ya; rw [BitVec.and_comm]
theorem AY (L : List Ja) (l : List Ba) : ∀ (r : List Ba) (k : Nat) (s : Int), l.drop k = r → k ≤ l.length → (∀ x ∈ r, x.2.1 ≤ 9223372036854775807) →
 Ok (Sa (E7 L l) k s r) = (Hs L (l.take k) r && Ok (Sa (fun _ s x => OS s x) k s r))
 | [], _, _, _, _, _ => rfl
 | x :: r, k, s, hd, hle, hr => by
  obtain ⟨hk, hx, hd'⟩ := CD hd
  have ht : l.take (k + 1) = l.take k ++ [x] := by rw [Qan hk, hx]
  simp only [Sa, Hs, E7, OS]
  rw [EaI (hr x (by simp)), Lak x.2.1 s]
  cases ID L x with
  | false => rfl
  | true =>
   cases (Ya .i64 s x.2.1 != 0) with
   | true => simp [Ok]
   | false =>
    cases At (l.take k) x with
    | false => rfl
    | true =>
     simp only [qd, jk, cond_true, cond_false]
     rw [AY L l r (k + 1) _ hd' hk (fun y hy => hr y (by simp [hy])), ht]; rfl
theorem HU (c : Da) (hr : ∀ x ∈ c.2.2.2.2.2.2.1, x.2.1 ≤ 9223372036854775807) (hn : c.2.2.2.2.2.2.1.length ≤ Ga) (hn1 : c.1.length ≤ Ga) :
 KA c = some (decide (0 ≤ c.2.2.2.2.2.1 ∧ c.2.2.2.2.2.1 ≤ 16777215) && (AD c && NS c), ()) := by
 have h20 : Ga = 1048576 := rfl
 have hl := Ag (step := fun x => Jq x.1.1 x.1.2.1 x.1.2.2.1 x.2.1) c.2.2.2.2.2.2.1 (E7 c.1 c.2.2.2.2.2.2.1) (fun s i => (((), s, i, ()), (c, ())))
  (fun _ => .inl (((), ()), (c, ()))) (fun _ => .inr ((false, ()), ())) (fun _ _ => True) (by
   intro k hk s _
   refine ⟨?_, fun _ _ => trivial⟩
   simp only [Jq]
   rw [Aa (show (k : Int) < ((ja c.2.2.2.2.2.2.1 : Nat) : Int) by omega), Wb hk]
   simp only [cond_true, jb]
   rw [H0 _ _ hn1]
   generalize hx : c.2.2.2.2.2.2.1[k] = x
   simp only [jb, E7, BS, Sy]
   have hin := Le (step := fun y => Bp y.1.1 y.1.2.1 y.1.2.2.1 y.1.2.2.2.1 y.1.2.2.2.2.1 y.2.1 y.2.2.1) (c.2.2.2.2.2.2.1.take k) (fun _ (y : Ba) => !(y.1 == x.1)) (fun i => (((), s, (k : Int), (), i, ()), (c, x, ())))
    (.inl (((), s, (k : Int), (), ()), (c, x, ()))) (.inr ((false, ()), ())) (by
     intro j hj
     have hj2 : j < k := by simp at hj; omega
     simp only [Bp]
     rw [Aa (show (j : Int) < (k : Int) by omega), Wb (show j < c.2.2.2.2.2.2.1.length by omega), R4 hj]
     simp only [cond_true, jb]
     cases (c.2.2.2.2.2.2.1[j].1 == x.1) <;> rfl) (by
     have : ((ja (c.2.2.2.2.2.2.1.take k) : Nat) : Int) = (k : Int) := by simp; omega
     simp only [Bp]
     rw [Ca (by omega)]; rfl) (by simp; omega)
   unfold Ar At
   erw [hin]
   cases decide (x.2.1 ≤ 0) with
   | true => rfl
   | false =>
    cases (Gc .i64 x.2.1 ((Fh c.1 x.1).getD RB).1 != 0) with
    | true => rfl
    | false =>
     cases (x.2.2.1 != (x.2.1 == ((Fh c.1 x.1).getD RB).1)) with
     | true => rfl
     | false =>
      cases (Ya .i64 x.2.1 s != 0) with
      | true => rfl
      | false => cases Ad (fun _ (y : Ba) => !(y.1 == x.1)) 0 (c.2.2.2.2.2.2.1.take k) <;> rfl) (by
   intro s _
   simp only [Jq]
   rw [Ca (by omega)]; rfl) (by omega) c.2.2.2.2.2.1 trivial
 unfold KA Gt AD NS
 erw [hl]
 have hs := AY c.1 c.2.2.2.2.2.2.1 c.2.2.2.2.2.2.1 0 c.2.2.2.2.2.1 rfl (Nat.zero_le _) hr
 rw [List.take_zero] at hs
 rw [← hs]
 show jz (some _) _ = _
 cases Sa (E7 c.1 c.2.2.2.2.2.2.1) 0 c.2.2.2.2.2.1 c.2.2.2.2.2.2.1 with
 | inl s =>
  simp only [jb, qn, Oe, Ok, Bool.and_true]
 | inr u => simp only [jb, Sum.elim_inr, Ok, Bool.and_false]
def Kd (c : Da) : Bool :=
 Ke c.1 && (decide (1 ≤ c.2.1 ∧ c.2.1 ≤ 200) && (decide (0 ≤ c.2.2.2.1 ∧ c.2.2.2.1 ≤ 1000000) && (decide (0 ≤ c.2.2.2.2.1 ∧ c.2.2.2.2.1 ≤ c.2.2.2.1) && ((decide (0 ≤ c.2.2.2.2.2.1 ∧ c.2.2.2.2.2.1 ≤ 16777215) && (AD c && NS c)) &&
  (Jc c.2.2.1 (Wk c) 24 && Rh c.2.2.1 c.2.2.2.1)))))
structure Vj (c : Da) : Prop where
 a : c.1.length ≤ Ga
 q : c.2.2.1.length ≤ Ga
 e : c.2.2.2.2.2.2.1.length ≤ Ga
 r : ∀ x ∈ c.2.2.2.2.2.2.1, x.2.1 ≤ 9223372036854775807
theorem ZG (c : Da) (h : Vj c) : Yp c = some (Kd c, ()) := by
 unfold Yp Kd
 rw [MJ _ h.a]
 cases hc : Ke c.1 with
 | false => rfl
 | true =>
  rw [NR c hc h.e h.a, Ou c h.e]
  simp only [jb, Wp, cond_true, jk, Wt]
  cases decide (1 ≤ c.2.1 ∧ c.2.1 ≤ 200) with
  | false => rfl
  | true =>
   cases decide (0 ≤ c.2.2.2.1 ∧ c.2.2.2.1 ≤ 1000000) with
   | false => rfl
   | true =>
    cases decide (0 ≤ c.2.2.2.2.1 ∧ c.2.2.2.2.1 ≤ c.2.2.2.1) with
    | false => rfl
    | true =>
     cases decide (0 ≤ c.2.2.2.2.2.1 ∧ c.2.2.2.2.2.1 ≤ 16777215) with
     | false => rfl
     | true =>
      cases AD c with
      | false => rfl
      | true =>
       cases NS c with
       | false => rfl
       | true =>
        simp only [cond_true, jk]
        rw [Wr _ _ _ h.q, Vr _ _ h.q]
        cases Jc c.2.2.1 (Wk c) 24 <;> rfl
theorem LH (c : Da) (h : Vj c) : Gq c = some (Kd c, ()) := by
 have h20 : Ga = 1048576 := rfl
 unfold Gq Kd
 rw [DX _ h.a]
 cases hc : Ke c.1 with
 | false => rfl
 | true =>
  rw [HU c h.r h.e h.a, NL c h.e]
  simp only [jb, Wp, cond_true, jk, Oe]
  cases decide (1 ≤ c.2.1 ∧ c.2.1 ≤ 200) with
  | false => rfl
  | true =>
   cases decide (0 ≤ c.2.2.2.1 ∧ c.2.2.2.1 ≤ 1000000) with
   | false => rfl
   | true =>
    cases decide (0 ≤ c.2.2.2.2.1 ∧ c.2.2.2.2.1 ≤ c.2.2.2.1) with
    | false => rfl
    | true =>
     cases (decide (0 ≤ c.2.2.2.2.2.1 ∧ c.2.2.2.2.2.1 ≤ 16777215) && (AD c && NS c)) with
     | false => rfl
     | true =>
      simp only [cond_true, jk]
      rw [MH _ _ _ h.q]
      simp only [jb]
      cases Jc c.2.2.1 (Wk c) 24 with
      | false => rfl
      | true =>
       simp only [cond_true, jk, Rh]
       by_cases h0 : c.2.2.1.length = 0
       ·have : (((c.2.2.1.length : Nat) : Int) == 0) = true := by simp [h0]
        rw [this]; rfl
       ·obtain ⟨x, h1, h2⟩ := FW (l := c.2.2.1) (by omega) h.q
        have : (((c.2.2.1.length : Nat) : Int) == 0) = false := by
         rw [beq_eq_false_iff_ne]; omega
        rw [this, h1]
        simp only [cond_false, jb, Bool.false_or, h2]
def qdG (s : Int) (x : Ba) : Int := cond x.2.2.1 (Tc .i64 s (Ra .i64 1 x.2.1)) (Gc .i64 s (Ra .i64 1 x.2.1))
def qdI (d : Int) (q : List Ba) : Int := Dd (fun _ s x => qdG s x) 0 d q
def S4 (s : Int) (x : Ba) : Int := Kf .i64 s (Ra .i64 1 x.2.1)
def PS (d : Int) (q : List Ba) : Int := Dd (fun _ s x => S4 s x) 0 d q
theorem BI (d : Int) (q : List Ba) (hn : q.length ≤ Ga) (hx : ∀ x ∈ q, 0 ≤ x.2.1) : Vs d q = some (qdI d q, ()) := by
 have h20 : Ga = 1048576 := rfl
 have hl := (Qh (step := fun x => Bq x.1.1 x.1.2.1 x.1.2.2.1 x.1.2.2.2.1) q (fun _ s x => qdG s x) (fun s i => ((s, q, ((ja q : Nat) : Int), i, ()), ()))
  (fun s => .inl ((s, ()), ())) (fun _ _ => True) (by
   intro k hk s _
   refine ⟨?_, trivial⟩
   simp only [Bq]
   rw [Aa (show (k : Int) < ((ja q : Nat) : Int) by omega), Wb hk]
   simp only [cond_true, jb]
   rw [Aa (hx _ (qv hk))]
   unfold qdG
   cases q[k].2.2.1 <;> rfl) (by
   intro s _
   simp only [Bq]
   rw [Ca (by omega)]; rfl) (by omega) d trivial).1
 unfold Vs Ws qdI
 erw [hl]; rfl
theorem KN {k : Int} (h : 0 ≤ k ∧ k ≤ 31) : Yq k = some (Ra .i64 1 k, ()) := by
 unfold Yq
 rw [Oe, Aa h, Aa h.1]; rfl
theorem NH (d : Int) (q : List Ba) (hn : q.length ≤ Ga) (hx : ∀ x ∈ q, 0 ≤ x.2.1 ∧ x.2.1 ≤ 31) : Kq d q = some (PS d q, ()) := by
 have h20 : Ga = 1048576 := rfl
 have hl := (Qh (step := fun x => Dp x.1.1 x.1.2.1 x.1.2.2.1) q (fun _ s x => S4 s x) (fun s i => ((s, q, i, ()), ()))
  (fun s => .inl ((s, ()), ())) (fun _ _ => True) (by
   intro k hk s _
   refine ⟨?_, trivial⟩
   simp only [Dp]
   rw [Aa (show (k : Int) < ((ja q : Nat) : Int) by omega), Wb hk]
   simp only [cond_true, jb]
   rw [KN (hx _ (qv hk))]; rfl) (by
   intro s _
   simp only [Dp]
   rw [Ca (by omega)]; rfl) (by omega) d trivial).1
 unfold Kq Br PS
 erw [hl]; rfl
theorem MO : ∀ {q : List Ba} {k : Nat} {s : Int × Int}, Ok (Sa (fun _ s x => Oq s x) k s q) = true → ∀ x ∈ q, Uf x = true
 | [], _, _, _, x, hx => by simp at hx
 | y :: q, k, s, h, x, hx => by
  simp only [Sa, Oq] at h
  cases hc : Gj s y with
  | false => rw [hc] at h; simp [Ok] at h
  | true =>
   rw [hc] at h
   rcases jp.1 hx with rfl | hx
   ·simp only [Gj, jd] at hc; exact hc.1
   ·exact MO h x hx
theorem Nau : ∀ (q : List Ba) (k : Nat) (t : Int) (d : Nat), d < 2 ^ 63 → Ok (Sa (fun _ s x => Oq s x) k (t, (d : Int)) q) = true →
 Dd (fun _ s x => qdG s x) k (d : Int) q = Dd (fun _ s x => S4 s x) k (d : Int) q
 | [], _, _, _, _, _ => rfl
 | x :: q, k, t, d, hd, h => by
  simp only [Sa, Oq] at h
  cases hc : Gj (t, (d : Int)) x with
  | false => rw [hc] at h; simp [Ok] at h
  | true =>
   rw [hc] at h
   simp only [cond_true] at h
   simp only [Gj, jd, Bool.not_eq_true'] at hc
   have hk := Ul hc.1
   obtain ⟨n, hn⟩ := jv hk.2.2.1
   have hn31 : n ≤ 31 := by omega
   have e : qdG (d : Int) x = S4 (d : Int) x := by
    unfold qdG S4
    have hb := hc.2.2
    rw [hn] at hb ⊢
    cases hp : x.2.2.1 with
    | true =>
     rw [hp] at hb
     exact QaD hd (by omega) (by cases hz : (Rd (d : Int) (n : Int) == 1) with
      | false => rfl
      | true => rw [hz] at hb; simp at hb)
    | false =>
     rw [hp] at hb
     exact Iap hd (by omega) (by cases hz : (Rd (d : Int) (n : Int) == 1) with
      | true => rfl
      | false => rw [hz] at hb; simp at hb)
   obtain ⟨b, hb1, hb2⟩ := Uaa (a := d) (k := n) hd (by omega)
   have hg : S4 (d : Int) x = (b : Int) := by unfold S4; rw [hn]; exact hb1
   simp only [Dd]
   rw [e, hg]
   rw [hn, hb1] at h
   exact Nau q (k + 1) x.1 b hb2 h
theorem BW {q : List Ba} {d keys : Int} (h : Jc q d keys = true) : Ok (Sa (fun _ s x => Oq s x) 0 (0, d) q) = true := by
 simp only [Jc, ED, G8, jd] at h
 have h2 := h.2
 cases hf : Sa (fun _ s x => Oq s x) 0 (0, d) q with
 | inl s => rfl
 | inr u => rw [hf] at h2; cases hd : decide (q.length ≤ 64) <;> rw [hd] at h2 <;> simp at h2
theorem NT {q : List Ba} {d keys : Int} (hd : 0 ≤ d ∧ d ≤ 9223372036854775807) (h : Jc q d keys = true) : (∀ x ∈ q, 0 ≤ x.2.1 ∧ x.2.1 ≤ 31) ∧ qdI d q = PS d q := by
 have hf := BW h
 refine ⟨fun x hx => ?_, ?_⟩
 ·have := Ul (MO hf x hx); omega
 ·obtain ⟨n, rfl⟩ := jv hd.1
  exact Nau q 0 0 n (by rw [GH]; omega) hf
theorem NW : ∀ (l : List Va) (k : Nat) (s : Nat), s < 2 ^ 63 → (∀ x ∈ l, Fv x) → ∃ m : Nat, Dd (fun _ s (x : Va) => Tc .i64 s (Ra .i64 1 x.1)) k (s : Int) l = (m : Int) ∧ m < 2 ^ 63
 | [], _, s, hs, _ => ⟨s, rfl, hs⟩
 | x :: l, k, s, hs, h => by
  have hx := h x (by simp)
  obtain ⟨n, hn⟩ := jv hx.lo
  have := hx.hi
  simp only [Dd]
  rw [hn, Qf (by omega), Hk hs (Gf (by omega))]
  exact NW l (k + 1) _ (Nat.or_lt_two_pow hs (Gf (by omega))) (fun y hy => h y (by simp [hy]))
theorem Uam : ∀ (l : List Ba) (k : Nat) (s : Nat), s < 2 ^ 63 → (∀ x ∈ l, 0 ≤ x.2.1 ∧ x.2.1 ≤ 9223372036854775807) → ∃ m : Nat, RZ k (s : Int) l = (m : Int) ∧ m < 2 ^ 63
 | [], _, s, hs, _ => ⟨s, rfl, hs⟩
 | x :: l, k, s, hs, h => by
  have hx := h x (by simp)
  obtain ⟨n, hn⟩ := jv hx.1
  have hn2 : n < 2 ^ 63 := by rw [GH]; omega
  have := Uam l (k + 1) (s ||| n) (Nat.or_lt_two_pow hs hn2) (fun y hy => h y (by simp [hy]))
  simp only [RZ, Dd] at this ⊢
  rw [hn, Hk hs hn2]
  exact this
theorem Yaa {L : List Ja} : ∀ {l pre : List Ba}, Hs L pre l = true → ∀ x ∈ l, ID L x = true
 | [], _, _, x, hx => by simp at hx
 | y :: l, pre, h, x, hx => by
  simp only [Hs, jd] at h
  rcases jp.1 hx with rfl | hx
  ·exact h.1.1
  ·exact Yaa h.2 x hx
structure Oae (x : Ba) : Prop where
 lo : 0 ≤ x.1
 hi : x.1 ≤ 31
 left : 0 ≤ x.2.1
theorem TB {c : Da} (h : Kd c = true) : ∀ x ∈ c.2.2.2.2.2.2.1, Oae x := by
 intro x hx
 simp only [Kd, jd] at h
 have h1 := Yaa (l := c.2.2.2.2.2.2.1) h.2.2.2.2.1.2.1 x hx
 simp only [ID, jd] at h1
 have h2 := WE h.1 h1.1
 have h3 := h1.2
 simp only [BS, jd, Bool.not_eq_true', decide_eq_false_iff_not] at h3
 exact ⟨by omega, by omega, by omega⟩
theorem YP {c : Da} (hz : Vj c) (h : Kd c = true) : 0 ≤ Wk c ∧ Wk c ≤ 9223372036854775807 := by
 have ha := TB h
 simp only [Kd, jd, decide_eq_true_eq] at h
 have h1 := h.2.2.2.2.1.1
 obtain ⟨n, hn⟩ := jv h1.1
 obtain ⟨m, hm, hm2⟩ := Uam c.2.2.2.2.2.2.1 0 n (by rw [GH]; omega) (fun x hx => ⟨(ha x hx).left, hz.r x hx⟩)
 rw [GH] at hm2
 unfold Wk
 rw [hn, hm]
 omega
def Q3 (s : Int) (x : Ba) : Int := cond x.2.2.1 (Tc .i64 s (Ra .i64 1 x.1)) s
def R3 (c : Da) : Int := Dd (fun _ s x => Q3 s x) 0 c.2.2.2.2.2.1 c.2.2.2.2.2.2.1
theorem R2 (c : Da) (hn : c.2.2.2.2.2.2.1.length ≤ Ga) (ha : ∀ x ∈ c.2.2.2.2.2.2.1, Oae x) : JG c = some (R3 c, ()) := by
 have h20 : Ga = 1048576 := rfl
 have hl := (Qh (step := fun x => Sx x.1.1 x.1.2.1 x.1.2.2.1 x.2.1) c.2.2.2.2.2.2.1 (fun _ s x => Q3 s x) (fun s i => (((), s, i, ()), (c, ())))
  (fun s => .inl ((s, ()), ())) (fun _ _ => True) (by
   intro k hk s _
   refine ⟨?_, trivial⟩
   have hx := ha _ (qv hk)
   simp only [Sx]
   rw [Aa (show (k : Int) < ((ja c.2.2.2.2.2.2.1 : Nat) : Int) by omega), Wb hk]
   simp only [cond_true, jb]
   rw [KN ⟨hx.lo, hx.hi⟩]
   unfold Q3
   cases c.2.2.2.2.2.2.1[k].2.2.1 <;> rfl) (by
   intro s _
   simp only [Sx]
   rw [Ca (by omega)]; rfl) (by omega) c.2.2.2.2.2.1 trivial).1
 unfold JG Hz R3
 erw [hl]; rfl
theorem G5 (b : Mb) (t : Int) (hn : b.2.2.1.2.2.2.2.2.2.1.length ≤ Ga) (ha : ∀ x ∈ b.2.2.1.2.2.2.2.2.2.1, Oae x) :
 En (((), t, b.2.2.1.2.2.2.2.2.1, b.2.2.1.2.2.2.2.2.2.1, ((ja b.2.2.1.2.2.2.2.2.2.1 : Nat) : Int), (0 : Int), ()), (b, ())) = some (.inl (((), t, R3 b.2.2.1, ()), (b, ()))) := by
 have h20 : Ga = 1048576 := rfl
 have hl := (Qh (step := fun x => Mr x.1.1 x.1.2.1 x.1.2.2.1 x.1.2.2.2.1 x.1.2.2.2.2.1 x.1.2.2.2.2.2.1 x.2.1) b.2.2.1.2.2.2.2.2.2.1 (fun _ s x => Q3 s x) (fun s i => (((), t, s, b.2.2.1.2.2.2.2.2.2.1, ((ja b.2.2.1.2.2.2.2.2.2.1 : Nat) : Int), i, ()), (b, ())))
  (fun s => .inl (((), t, s, ()), (b, ()))) (fun _ _ => True) (by
   intro k hk s _
   refine ⟨?_, trivial⟩
   have hx := ha _ (qv hk)
   simp only [Mr]
   rw [Aa (show (k : Int) < ((ja b.2.2.1.2.2.2.2.2.2.1 : Nat) : Int) by omega), Wb hk]
   simp only [cond_true, jb]
   rw [Aa hx.lo]
   unfold Q3
   cases b.2.2.1.2.2.2.2.2.2.1[k].2.2.1 <;> rfl) (by
   intro s _
   simp only [Mr]
   rw [Ca (by omega)]; rfl) (by omega) b.2.2.1.2.2.2.2.2.1 trivial).1
 unfold En R3
 exact hl
def RJ (m : Md) (keys : Int) (L : List Ja) : Bool := Ad (fun _ (x : Ja) => Pb m x.1 && !decide (x.2.1 ≥ keys)) 0 L
noncomputable def Hl (b : Mb) : Bool :=
 Bf b.1 && (Bd b.2.1 && (Kd b.2.2.1 && (Sd b.2.2.2.1 && ((b.2.1.2.2.1 == Mc b.1) && (!decide (b.2.2.2.1.1.1.1 < Mc b.1) && (Pb b.1 b.2.2.2.2.1 &&
  (RJ b.1 b.2.2.2.1.1.1.1 b.2.2.1.1 && (decide (0 ≤ b.2.2.2.2.2.1 ∧ b.2.2.2.2.2.1 ≤ 1000000) && (!decide (b.2.2.1.2.2.2.1 > b.2.2.2.2.2.1) && (!decide (b.2.2.2.1.2.2.2.1 > b.2.2.2.2.2.1) &&
  ((PS (Wk b.2.2.1) b.2.2.1.2.2.1 == b.2.1.2.2.2.1) && (PS (Yo b.2.2.2.1.1.2.2.2.1) b.2.2.2.1.2.2.1 == R3 b.2.2.1))))))))))))
structure Xv (b : Mb) : Prop where
 d : b.2.1.2.2.2.2.2.1.length ≤ Ga
 c : Vj b.2.2.1
 x : Lc Be b.2.2.2.1 ≤ Ga
theorem VK (b : Mb) (h : Xv b) : Iy b = some (Hl b, ()) := by
 have h20 : Ga = 1048576 := rfl
 have hq := h.x
 rw [Jv, Qm, Um, Im] at hq
 have hn1 := h.c.a
 have hl := Le (step := fun x => Du x.1.1 x.1.2.1 x.1.2.2.1 x.1.2.2.2.1 x.1.2.2.2.2.1 x.2.1) b.2.2.1.1 (fun _ (x : Ja) => Pb b.1 x.1 && !decide (x.2.1 ≥ b.2.2.2.1.1.1.1)) (fun i => (((), b.2.2.2.1.1.1.1, b.2.2.1.1, ((ja b.2.2.1.1 : Nat) : Int), i, ()), (b, ())))
  (.inl (((), ()), (b, ()))) (.inr ((false, ()), ())) (by
   intro k hk
   simp only [Du]
   rw [Aa (show (k : Int) < ((ja b.2.2.1.1 : Nat) : Int) by omega), Wb hk]
   simp only [cond_true, jb, Fl]
   cases Pb b.1 b.2.2.1.1[k].1 <;> cases decide (b.2.2.1.1[k].2.1 ≥ b.2.2.2.1.1.1.1) <;> rfl) (by
   simp only [Du]
   rw [Ca (by omega)]; rfl) (by omega)
 unfold Iy Jw Hl
 rw [RC, Kw _ h.d, ZG _ h.c, Pr _ h.x, Fu, Fl]
 simp only [jb, Wp, bne]
 cases Bf b.1 with
 | false => rfl
 | true =>
  cases Bd b.2.1 with
  | false => rfl
  | true =>
   cases hc : Kd b.2.2.1 with
   | false => rfl
   | true =>
    cases hd : Sd b.2.2.2.1 with
    | false => rfl
    | true =>
     cases b.2.1.2.2.1 == Mc b.1 with
     | false => rfl
     | true =>
      cases decide (b.2.2.2.1.1.1.1 < Mc b.1) with
      | true => rfl
      | false =>
       cases Pb b.1 b.2.2.2.2.1 with
       | false => rfl
       | true =>
        simp only [cond_true, cond_false, jk, qd]
        erw [hl]
        unfold RJ
        cases Ad (fun _ (x : Ja) => Pb b.1 x.1 && !decide (x.2.1 ≥ b.2.2.2.1.1.1.1)) 0 b.2.2.1.1 with
        | false => rfl
        | true =>
         have ha := TB hc
         have hdn := YP h.c hc
         have hc2 := hc
         simp only [Kd, jd] at hc2
         have hf := NT hdn hc2.2.2.2.2.2.1
         have hd2 := hd
         simp only [Sd, jd] at hd2
         have hh := Pt (FB hd2.1)
         obtain ⟨m, hm, hm2⟩ := NW b.2.2.2.1.1.2.2.2.1 0 0 (by decide) hh
         rw [GH] at hm2
         have hm' : Yo b.2.2.2.1.1.2.2.2.1 = (m : Int) := hm
         have hf2 := NT (by rw [hm']; omega) hd2.2.2.2.2.1
         simp only [cond_true, jb, qn, Wt]
         rw [Ou _ h.c.e, hc2.2.2.2.2.1.2.2]
         simp only [cond_true, jb]
         rw [G5 _ _ h.c.e ha]
         simp only [jb, qn]
         rw [BI _ _ h.c.q (fun x hx => (hf.1 x hx).1), hf.2]
         simp only [jb]
         rw [SC _ (by omega) hh]
         simp only [jb]
         rw [BI _ _ (by omega) (fun x hx => (hf2.1 x hx).1), hf2.2]
         simp only [jb, jk]
         cases decide (0 ≤ b.2.2.2.2.2.1 ∧ b.2.2.2.2.2.1 ≤ 1000000) <;> cases decide (b.2.2.1.2.2.2.1 > b.2.2.2.2.2.1) <;> cases decide (b.2.2.2.1.2.2.2.1 > b.2.2.2.2.2.1) <;> cases (PS (Wk b.2.2.1) b.2.2.1.2.2.1 == b.2.1.2.2.2.1) <;> rfl
theorem B0 (b : Mb) (h : Xv b) : BE b = some (Hl b, ()) := by
 have h20 : Ga = 1048576 := rfl
 have hq := h.x
 rw [Jv, Qm, Um, Im] at hq
 have hn1 := h.c.a
 have hl := Le (step := fun x => Wu x.1.1 x.1.2.1 x.1.2.2.1 x.2.1) b.2.2.1.1 (fun _ (x : Ja) => Pb b.1 x.1 && !decide (x.2.1 ≥ b.2.2.2.1.1.1.1)) (fun i => (((), b.2.2.2.1.1.1.1, i, ()), (b, ())))
  (.inl (((), ()), (b, ()))) (.inr ((false, ()), ())) (by
   intro k hk
   simp only [Wu]
   rw [Aa (show (k : Int) < ((ja b.2.2.1.1 : Nat) : Int) by omega), Wb hk]
   simp only [cond_true, jb, JN]
   cases Pb b.1 b.2.2.1.1[k].1 <;> cases decide (b.2.2.1.1[k].2.1 ≥ b.2.2.2.1.1.1.1) <;> rfl) (by
   simp only [Wu]
   rw [Ca (by omega)]; rfl) (by omega)
 unfold BE Pw Hl
 rw [OE _ h.d, LH _ h.c, CI _ h.x, YC, JN]
 simp only [jb, Wp, bne]
 cases hmat : Bf b.1 with
 | false =>
  have : Mc b.1 = 0 := by unfold Mc; rw [hmat]; rfl
  rw [this]; rfl
 | true =>
  have hk := L6 hmat
  have : (Mc b.1 == 0) = false := by rw [beq_eq_false_iff_ne]; omega
  rw [this]
  cases Bd b.2.1 with
  | false => rfl
  | true =>
   cases b.2.1.2.2.1 == Mc b.1 with
   | false => cases Kd b.2.2.1 <;> cases Sd b.2.2.2.1 <;> rfl
   | true =>
    cases Pb b.1 b.2.2.2.2.1 with
    | false => cases Kd b.2.2.1 <;> cases Sd b.2.2.2.1 <;> cases decide (b.2.2.2.1.1.1.1 < Mc b.1) <;> rfl
    | true =>
     cases hc : Kd b.2.2.1 with
     | false => rfl
     | true =>
      cases hd : Sd b.2.2.2.1 with
      | false => rfl
      | true =>
       cases decide (b.2.2.2.1.1.1.1 < Mc b.1) with
       | true => rfl
       | false =>
        simp only [cond_true, cond_false, jk, qd]
        erw [hl]
        unfold RJ
        cases Ad (fun _ (x : Ja) => Pb b.1 x.1 && !decide (x.2.1 ≥ b.2.2.2.1.1.1.1)) 0 b.2.2.1.1 with
        | false => rfl
        | true =>
         have ha := TB hc
         have hdn := YP h.c hc
         have hc2 := hc
         simp only [Kd, jd] at hc2
         have hf := NT hdn hc2.2.2.2.2.2.1
         have hd2 := hd
         simp only [Sd, jd] at hd2
         have hh := Pt (FB hd2.1)
         obtain ⟨m, hm, hm2⟩ := NW b.2.2.2.1.1.2.2.2.1 0 0 (by decide) hh
         rw [GH] at hm2
         have hm' : Yo b.2.2.2.1.1.2.2.2.1 = (m : Int) := hm
         have hf2 := NT (by rw [hm']; omega) hd2.2.2.2.2.1
         simp only [cond_true, jb, qn, Oe, Wp]
         rw [NL _ h.c.e]
         simp only [cond_true, jb]
         rw [NH _ _ h.c.q hf.1]
         simp only [jb]
         rw [LL _ (by omega) hh]
         simp only [jb]
         rw [NH _ _ (by omega) hf2.1, R2 _ h.c.e ha]
         simp only [jb, jk]
         cases decide (0 ≤ b.2.2.2.2.2.1 ∧ b.2.2.2.2.2.1 ≤ 1000000) <;> cases decide (b.2.2.1.2.2.2.1 > b.2.2.2.2.2.1) <;> cases decide (b.2.2.2.1.2.2.2.1 > b.2.2.2.2.2.1) <;> cases (PS (Wk b.2.2.1) b.2.2.1.2.2.1 == b.2.1.2.2.2.1) <;> rfl
theorem Zaj (d : Ib) : Lc Zc d = d.2.2.2.2.2.1.length := by
 have := AaE d.2.2.2.2.2.1
 simp only [Lc, Nat.add_zero, js] at this ⊢
 exact this
theorem Fab (c : Da) : Lc Yd c = c.1.length + (c.2.2.1.length + c.2.2.2.2.2.2.1.length) := by
 have h1 := Cr (e := Vc) rfl c.1
 have h2 := Cr (e := Nc) rfl c.2.2.1
 have h3 := Cr (e := Nc) rfl c.2.2.2.2.2.2.1
 simp only [Lc, Nat.add_zero, js] at h1 h2 h3 ⊢
 rw [h1, h2, h3]
theorem J7 (b : Mb) : Lc Ze b = Lc Zc b.2.1 + (Lc Yd b.2.2.1 + Lc Be b.2.2.2.1) := by
 simp only [Lc, Nat.add_zero, js]
theorem X8 {m : Hb} (hz : Lc Ec m ≤ Ga) : ja m.2.1 ≤ Ga ∧ ∀ k (hk : k < m.2.1.length), m.2.1[k].length ≤ Ga := by
 have h0 : Lc Ec m = 0 + (Lc (.sl (.sl Sc)) m.2.1 + 0) := rfl
 have h1 : Lc (.sl (.sl Sc)) m.2.1 = ja m.2.1 + (List.map (Lc (.sl Sc)) m.2.1).sum := rfl
 refine ⟨by omega, fun k hk => ?_⟩
 have h2 := LE (f := Lc (.sl Sc)) hk
 rw [N0] at h2
 omega
theorem OR (m : Hb) (hz : Lc Ec m ≤ Ga) : Hx m = some (m, ()) := by
 have h20 : Ga = 1048576 := rfl
 obtain ⟨h1, h2⟩ := X8 hz
 have hl := FL (step := fun x : (Unit × Unit × List (List Pa) × Int × Int × Unit) × Hb × Hb × Unit => So x.1.1 x.1.2.1 x.1.2.2.1 x.1.2.2.2.1 x.1.2.2.2.2.1 x.2.1 x.2.2.1) m.2.1 (fun x => x)
  (fun o k => (((), (), m.2.1, (m.2.1.length : Int), k, ()), ((0, [], ()), (m.1, o, ()), ()))) (fun o => .inl (((), (), ()), ((0, [], ()), (m.1, o, ()), ()))) (by omega) (fun k hk o ho => by
   have := h2 k hk
   simp only [So]
   rw [Aa (by omega), Wb hk]
   simp only [cond_true, jb]
   rw [Gg (by simp; omega), Gg (by simp only [jw, qb]; omega)]
   rfl) (fun o => by
   simp only [So]
   rw [Ca (by omega)]
   rfl)
 unfold Hx Qq
 erw [hl]
 rw [List.map_id']
 rfl
theorem S2 (m : Hb) (hz : Lc Ec m ≤ Ga) : MG m = some (m, ()) := by
 have h20 : Ga = 1048576 := rfl
 obtain ⟨h1, h2⟩ := X8 hz
 have hl := FL (step := fun x : (Unit × Unit × Unit × Int × Unit) × Hb × Hb × Hb × Unit => Tx x.1.1 x.1.2.1 x.1.2.2.1 x.1.2.2.2.1 x.2.1 x.2.2.1 x.2.2.2.1) m.2.1 (fun x => x)
  (fun o k => (((), (), (), k, ()), (m, (0, [], ()), (m.1, o, ()), ()))) (fun o => .inl (((), (), ()), ((0, [], ()), (m.1, o, ()), ()))) (by omega) (fun k hk o ho => by
   have := h2 k hk
   simp only [Tx]
   rw [Aa (by omega), Wb hk]
   simp only [cond_true, jb]
   rw [Gg (by simp; omega), Gg (by simp only [jw, qb]; omega)]
   rfl) (fun o => by
   simp only [Tx]
   rw [Ca (by omega)]
   rfl)
 unfold MG Jz
 erw [hl]
 rw [List.map_id']
 rfl
theorem O4 {L : List (List Xb)} (hz : Lc (.sl (.sl Td)) L ≤ Ga) : ja L ≤ Ga ∧ ∀ k (hk : k < L.length), L[k].length ≤ Ga := by
 have h1 : Lc (.sl (.sl Td)) L = ja L + (List.map (Lc (.sl Td)) L).sum := rfl
 refine ⟨by omega, fun k hk => ?_⟩
 have h2 := LE (f := Lc (.sl Td)) hk
 rw [W2] at h2
 omega
theorem PR (L : List (List Xb)) (hz : Lc (.sl (.sl Td)) L ≤ Ga) : Ix L = some (L, ()) := by
 have h20 : Ga = 1048576 := rfl
 obtain ⟨h1, h2⟩ := O4 hz
 have hl := FL (step := fun x => To x.1.1 x.1.2.1 x.1.2.2.1 x.1.2.2.2.1) L (fun x => x)
  (fun o k => ((o, L, ((ja L : Nat) : Int), k, ()), ())) (fun o => .inl ((o, ()), ())) (by omega) (fun k hk o ho => by
   have := h2 k hk
   simp only [To]
   rw [Aa (by omega), Wb hk]
   simp only [cond_true, jb]
   rw [Gg (by simp; omega), Gg (by simp only [jw, qb]; omega)]
   rfl) (fun o => by
   simp only [To]
   rw [Ca (by omega)]
   rfl)
 unfold Ix Rq
 erw [hl]
 rw [List.map_id']
 rfl
theorem Wl (e : Jb) (hz : Lc Pc e ≤ Ga) : Bk e = some (e, ()) := by
 have h20 : Ga = 1048576 := rfl
 rw [Um, Im] at hz
 unfold Bk
 rw [OR _ (by omega), PR _ (by omega), Gg (by simp; omega)]
 rfl
theorem NE (d : Xa) (hz : Lc Be d ≤ Ga) : Gl d = some (d, ()) := by
 have h20 : Ga = 1048576 := rfl
 rw [Jv, Qm] at hz
 unfold Gl
 rw [Wl _ (by omega), Gg (by simp; omega)]
 rfl
theorem VD (c : Da) (h : Vj c) : Gk c = some (c, ()) := by
 have h20 : Ga = 1048576 := rfl
 have h1 := h.a
 have h2 := h.q
 have h3 := h.e
 unfold Gk
 rw [Gg (by simp; omega), Gg (by simp; omega), Gg (by simp; omega)]
 rfl
theorem ML (c : Da) (h : Vj c) : Ez c = some (c, ()) := by
 have h20 : Ga = 1048576 := rfl
 have h1 := h.a
 have h2 := h.q
 have h3 := h.e
 unfold Ez
 rw [Gg (by simp; omega), Gg (by simp; omega), Gg (by simp; omega)]
 rfl
theorem IF (e : Jb) (hz : Lc Pc e ≤ Ga) : Ew e = some (e, ()) := by
 have h20 : Ga = 1048576 := rfl
 rw [Um, Im] at hz
 obtain ⟨h1, h2⟩ := O4 (L := e.2.1) (by omega)
 have hl := FL (step := fun x => Vx x.1.1 x.1.2.1 x.1.2.2.1 x.1.2.2.2.1 x.2.1 x.2.2.1 x.2.2.2.1) e.2.1 (fun x => x)
  (fun o k => (((), (), (), k, ()), (e, (((0 : Int), ([] : List (List Pa)), ()), ([] : List (List Xb)), (0 : Int), ([] : List Va), (0 : Int), false, ()), (e.1, o, e.2.2), ())))
  (fun o => .inl (((), (), (), ()), (e, (((0 : Int), ([] : List (List Pa)), ()), ([] : List (List Xb)), (0 : Int), ([] : List Va), (0 : Int), false, ()), (e.1, o, e.2.2), ()))) (by omega) (fun k hk o ho => by
   have := h2 k hk
   simp only [Vx]
   rw [Aa (by omega), Wb hk]
   simp only [cond_true, jb]
   rw [Gg (by simp; omega), Gg (by simp only [jw, qb]; omega)]
   rfl) (fun o => by
   simp only [Vx]
   rw [Ca (by omega)]
   rfl)
 unfold Ew Oz
 rw [S2 _ (by omega)]
 simp only [jb]
 erw [hl]
 rw [List.map_id']
 simp only [jb, qn]
 rw [Gg (by simp; omega)]
 rfl
theorem DU (b : Mb) (h : Xv b) : Xz b = some (b, ()) := by
 unfold Xz
 rw [Lu _ h.d, VD _ h.c, NE _ h.x]
 rfl
theorem J0 (b : Mb) (h : Xv b) : GE b = some (b, ()) := by
 have h20 : Ga = 1048576 := rfl
 have h1 := h.d
 have h2 := h.x
 rw [Jv, Qm] at h2
 unfold GE
 rw [Gg (by simp; omega), ML _ h.c, IF _ (by omega)]
 simp only [cond_true, jb]
 rw [Gg (by simp; omega)]
 rfl
def EK : Mb := (((0 : Int), (0 : Int), false, ()), ((0 : Int), (0 : Int), (0 : Int), (0 : Int), (0 : Int), ([] : List Int), ()), (([] : List Ja), (0 : Int), ([] : List Ba), (0 : Int), (0 : Int), (0 : Int), ([] : List Ba), ()), ((((0 : Int), ([] : List (List Pa)), ()), ([] : List (List Xb)), (0 : Int), ([] : List Va), (0 : Int), false, ()), ((0 : Int), (0 : Int), (0 : Int), ()), ([] : List Ba), (0 : Int), (0 : Int), (0 : Int), (0 : Int), ()), (0 : Int), (0 : Int), ())
theorem Kaq : ∀ (a b : List Int), a.length = b.length → Ad (fun k x => b.getD k 0 == x) 0 a = (b == a)
 | a, b, h => by
  rw [q7, Kk, beq_iff_eq]
  constructor
  ·intro hj
   apply List.ext_getElem h.symm
   intro i h1 h2
   have := hj i h2
   rw [js, beq_iff_eq, qm, je h1] at this
   exact this
  ·rintro rfl i hi
   rw [js, beq_iff_eq, qm, je hi]; rfl
theorem QJ (a b : List Int) (hn : a.length ≤ Bb) : YB a b = some (a == b, ()) := by
 have hlim := Kg
 unfold YB
 by_cases h : a.length = b.length
 ·have hl := Le (step := fun x => Xr x.1.1 x.1.2.1 x.1.2.2.1 x.1.2.2.2.1) a (fun k x => b.getD k 0 == x) (fun i => ((a, b, ((ja a : Nat) : Int), i, ()), ()))
   (.inl ((), ())) (.inr ((false, ()), ())) (by
    intro k hk
    simp only [Xr]
    rw [Aa (show (k : Int) < ((ja a : Nat) : Int) by omega), Wb hk, Wb (show k < b.length by omega), qm, je (show k < b.length by omega)]
    simp only [cond_true, jb, Option.getD_some, bne]
    rw [show (a[k] == b[k]) = (b[k] == a[k]) by rw [q7, beq_iff_eq, beq_iff_eq]; exact eq_comm]
    cases b[k] == a[k] <;> rfl) (by
    simp only [Xr]
    rw [Ca (by omega)]; rfl) (by omega)
  have e : (((ja a : Nat) : Int) != ((ja b : Nat) : Int)) = false := by simp [h]
  rw [e]
  simp only [cond_false]
  unfold Nu
  erw [hl]
  rw [Kaq a b h, show (b == a) = (a == b) by rw [q7, beq_iff_eq, beq_iff_eq]; exact eq_comm]
  cases a == b <;> rfl
 ·have e : (((ja a : Nat) : Int) != ((ja b : Nat) : Int)) = true := by simp; omega
  have e2 : (a == b) = false := by rw [beq_eq_false_iff_ne]; intro hh; exact h (by rw [hh])
  rw [e, e2]; rfl
theorem Tar (a b : T Dh) (h1 : ja a.2.1 ≤ Bb) (_ : ja b.2.1 ≤ Bb) : (fun x : T (.p Dh (.p Dh .u)) => Bi x.1 x.2.1) (a, b, ()) = some (Zo a b, ()) := by
 show Bi a b = _
 unfold Bi
 rw [QJ _ _ h1]
 simp only [jb, Zo]
 cases (show Int from a.1) == (show Int from b.1) <;> rfl
theorem Taj (c : T Te → T Te → Option Bool) (l : List (T Te)) (hl : ja l ≤ Bb) : ∀ (ys : List (T Te)) (k : Nat) (out q : List (T Te)) (a : T Te), l.drop k = ys → k ≤ ja l → ja out + ja ys ≤ Bb →
 GO c a ys = some q → Zv c (((), out, l, ((ja l : Nat) : Int), (k : Int), ()), (a, ())) = some (.inl ((jf out q, ()), ())) := by
 have hlim := Kg
 intro ys
 induction ys with
 | nil =>
  intro k out q a hd hk _ hq
  have := JJ hd hk
  subst this
  simp only [GO, jc] at hq
  subst hq
  have hs : VE c () out l ((ja l : Nat) : Int) ((ja l : Nat) : Int) a = some (.inr (.inl ((out, ()), ()))) := by
   unfold VE
   rw [Ca (by omega)]; rfl
  unfold Zv
  rw [Hh hs]
  simp
 | cons y ys ih =>
  intro k out q a hd hk hlen hq
  obtain ⟨hk', hy, hd'⟩ := CD hd
  simp only [GO] at hq
  cases hc : c a y with
  | none => rw [hc] at hq; simp at hq
  | some b =>
   rw [hc] at hq
   simp only [jb] at hq
   cases hq2 : GO c y ys with
   | none => rw [hq2] at hq; simp at hq
   | some q2 =>
    rw [hq2] at hq
    simp only [jb, jc] at hq
    have hlc : ja (y :: ys) = ja ys + 1 := rfl
    have hs : VE c () out l ((ja l : Nat) : Int) (k : Int) a = some (.inl (((), cond b out (jf out [y]), l, ((ja l : Nat) : Int), ((k + 1 : Nat) : Int), ()), (y, ()))) := by
     unfold VE Rat
     rw [Aa (show (k : Int) < ((ja l : Nat) : Int) by omega), Wb hk', hy]
     simp only [cond_true, jb, hc]
     rw [Ig (by omega)]
     cases b with
     | true => rfl
     | false =>
      rw [show jx (ja out + ja ([y] : List (Int × ((T .o) × Unit)))) Bb = true from ji (by simp only [jw, qb]; omega)]
      rfl
    unfold Zv
    rw [Hh hs]
    simp only [jb, qn]
    have := ih (k + 1) (cond b out (jf out [y])) q2 y hd' hk' (by cases b with
     | true => simp only [cond_true]; omega
     | false => simp only [cond_false, List.append_eq, qi, jw, qb]; omega) hq2
    unfold Zv at this
    rw [this, ← hq]
    cases b with
    | true => rfl
    | false => simp
theorem Bav (c : T Te → T Te → Option Bool) : ∀ (a : T Te) (l r : List (T Te)), ja l ≤ Bb → GO c a l = some r → (fun x : T (.p Te (.p (.sl Te) .u)) => Rag c x.1 x.2.1) (a, l, ()) = some (r, ()) := by
 intro a l r hl hq
 show Rag c a l = _
 unfold Rag
 have := Taj c l hl l 0 [] r a rfl (Nat.zero_le _) (by simpa using hl) hq
 erw [this]
 rfl
theorem P4 : ∀ {a b : List Int}, a.Pairwise (· < ·) → b.Pairwise (· < ·) → (∀ x, x ∈ a ↔ x ∈ b) → a = b
 | [], [], _, _, _ => rfl
 | [], y :: b, _, _, h => by have := (h y).2 (by simp); simp at this
 | x :: a, [], _, _, h => by have := (h x).1 (by simp); simp at this
 | x :: a, y :: b, ha, hb, h => by
  rw [List.pairwise_cons] at ha hb
  have hxy : x = y := by
   rcases jp.1 ((h x).1 (by simp)) with h1 | h1
   ·exact h1
   ·rcases jp.1 ((h y).2 (by simp)) with h2 | h2
    ·exact h2.symm
    ·have := hb.1 x h1; have := ha.1 y h2; omega
  subst hxy
  congr 1
  refine P4 ha.2 hb.2 fun z => ⟨fun hz => ?_, fun hz => ?_⟩
  ·rcases jp.1 ((h z).1 (by simp [hz])) with h1 | h1
   ·have := ha.1 z hz; omega
   ·exact h1
  ·rcases jp.1 ((h z).2 (by simp [hz])) with h1 | h1
   ·have := hb.1 z hz; omega
   ·exact h1
def ZP (o : List Int) (x : Int) : List Int := cond ((x != 0) && !o.any (fun y => y == x)) (jf o [x]) o
def S7 (k : Nat) (o l : List Int) : List Int := Dd (fun _ o x => ZP o x) k o l
theorem Waj : ∀ (l : List Int) (k : Nat) (o : List Int) (y : Int), y ∈ S7 k o l ↔ y ∈ o ∨ (y ∈ l ∧ y ≠ 0)
 | [], _, o, y => by simp [S7, Dd]
 | x :: l, k, o, y => by
  have := Waj l (k + 1) (ZP o x) y
  simp only [S7, Dd] at this ⊢
  rw [this]
  unfold ZP
  by_cases h0 : x = 0
  ·subst h0
   simp only [bne_self_eq_false, qs, cond_false, jp]
   constructor
   ·rintro (h | ⟨h1, h2⟩)
    ·exact .inl h
    ·exact .inr ⟨.inr h1, h2⟩
   ·rintro (h | ⟨h1 | h1, h2⟩)
    ·exact .inl h
    ·exact absurd h1 h2
    ·exact .inr ⟨h1, h2⟩
  ·by_cases h1 : o.any (fun y => y == x) = true
   ·rw [h1]
    simp only [jg, Bool.and_false, cond_false, jp]
    have hx : x ∈ o := by
     obtain ⟨z, hz, e⟩ := List.any_eq_true.1 h1
     rw [beq_iff_eq] at e; rw [← e]; exact hz
    constructor
    ·rintro (h | ⟨h1, h2⟩)
     ·exact .inl h
     ·exact .inr ⟨.inr h1, h2⟩
    ·rintro (h | ⟨h1 | h1, h2⟩)
     ·exact .inl h
     ·exact .inl (h1 ▸ hx)
     ·exact .inr ⟨h1, h2⟩
   ·have e : ((x != 0) && !o.any (fun y => y == x)) = true := by
     simp only [qe] at h1
     rw [h1]; simp [h0]
    rw [e]
    simp only [cond_true, List.append_eq, jl, jp, List.not_mem_nil, or_false]
    constructor
    ·rintro ((h | h) | ⟨h1, h2⟩)
     ·exact .inl h
     ·exact .inr ⟨.inl h, by rw [h]; exact h0⟩
     ·exact .inr ⟨.inr h1, h2⟩
    ·rintro (h | ⟨h1 | h1, h2⟩)
     ·exact .inl (.inl h)
     ·exact .inl (.inr h1)
     ·exact .inr ⟨h1, h2⟩
theorem G3 : ∀ (l : List Int) (k : Nat) (o : List Int), o.Pairwise (· < ·) → l.Pairwise (· ≤ ·) → (∀ y ∈ o, ∀ x ∈ l, y ≤ x) → (S7 k o l).Pairwise (· < ·)
 | [], _, o, ho, _, _ => by simpa [S7, Dd] using ho
 | x :: l, k, o, ho, hl, h => by
  rw [List.pairwise_cons] at hl
  have key : (ZP o x).Pairwise (· < ·) ∧ ∀ y ∈ ZP o x, ∀ z ∈ l, y ≤ z := by
   unfold ZP
   cases hc : (x != 0) && !o.any (fun y => y == x) with
   | false => exact ⟨ho, fun y hy z hz => h y hy z (by simp [hz])⟩
   | true =>
    simp only [jd, Bool.not_eq_true', List.any_eq_false, beq_iff_eq] at hc
    simp only [cond_true, List.append_eq]
    refine ⟨?_, ?_⟩
    ·rw [List.pairwise_append]
     refine ⟨ho, by simp, fun y hy z hz => ?_⟩
     simp only [jp, List.not_mem_nil, or_false] at hz
     subst hz
     have h1 := h y hy z (by simp)
     have h2 := hc.2 y hy
     omega
    ·intro y hy z hz
     rcases jl.1 hy with hy | hy
     ·exact h y hy z (by simp [hz])
     ·simp only [jp, List.not_mem_nil, or_false] at hy
      subst hy
      exact hl.1 z hz
  have := G3 l (k + 1) (ZP o x) key.1 hl.2 key.2
  simpa [S7, Dd] using this
def Bo (l : List Va) : Nat → List Int
 | 0 => []
 | n + 1 => cond (l.any fun h => h.2.1.2.1 == ((n + 1 : Nat) : Int)) (Bo l n ++ [((n + 1 : Nat) : Int)]) (Bo l n)
theorem PD (l : List Va) : ∀ (n : Nat) (x : Int), x ∈ Bo l n ↔ (1 ≤ x ∧ x ≤ (n : Int)) ∧ ∃ h ∈ l, h.2.1.2.1 = x
 | 0, x => by simp [Bo]; intro h1 h2; omega
 | n + 1, x => by
  simp only [Bo]
  cases hc : (l.any fun h => h.2.1.2.1 == ((n + 1 : Nat) : Int)) with
  | true =>
   simp only [cond_true, jl, PD l n x, jp, List.not_mem_nil, or_false]
   obtain ⟨h, hh, e⟩ := List.any_eq_true.1 hc
   rw [beq_iff_eq] at e
   constructor
   ·rintro (⟨h1, h2⟩ | rfl)
    ·exact ⟨by omega, h2⟩
    ·exact ⟨by omega, h, hh, e⟩
   ·rintro ⟨h1, h2⟩
    by_cases hx : x = ((n + 1 : Nat) : Int)
    ·exact .inr hx
    ·exact .inl ⟨by omega, h2⟩
  | false =>
   simp only [cond_false, PD l n x]
   rw [List.any_eq_false] at hc
   constructor
   ·rintro ⟨h1, h2⟩; exact ⟨by omega, h2⟩
   ·rintro ⟨h1, h, hh, e⟩
    refine ⟨?_, h, hh, e⟩
    have := hc h hh
    rw [beq_iff_eq] at this
    omega
theorem VH (l : List Va) : ∀ n, (Bo l n).Pairwise (· < ·)
 | 0 => by simp [Bo]
 | n + 1 => by
  simp only [Bo]
  cases (l.any fun h => h.2.1.2.1 == ((n + 1 : Nat) : Int)) with
  | true =>
   simp only [cond_true]
   rw [List.pairwise_append]
   refine ⟨VH l n, by simp, fun y hy z hz => ?_⟩
   simp only [jp, List.not_mem_nil, or_false] at hz
   have := (PD l n y).1 hy
   omega
  | false => exact VH l n
theorem PY (l : List Va) : ∀ n, (Bo l n).length ≤ n
 | 0 => by simp [Bo]
 | n + 1 => by
  have := PY l n
  simp only [Bo]
  cases (l.any fun h => h.2.1.2.1 == ((n + 1 : Nat) : Int)) <;> simp <;> omega
def DaI (l : List Va) : Int := Dd (fun _ s (h : Va) => cond (h.2.1.1 == 2 || h.2.1.1 == 8) (Tc .i64 s h.2.1.2.2.1) s) 0 0 l
def Uc (l : List Va) : La := (DaI l, Bo l 56, ())
theorem XL {a : Pa} (h : Qc a = true) : 0 ≤ a.2.1 ∧ a.2.1 ≤ 56 := by
 rw [Tb] at h
 unfold Yb at h
 omega
theorem S1 (l : List Int) (x : Int) (hn : l.length ≤ Bb) : CG l x = some (l.any (fun y => y == x), ()) := by
 have hlim := Kg
 have hl := Le (step := fun y => Kx y.1.1 y.1.2.1 y.1.2.2.1 y.1.2.2.2.1) l (fun _ y => !(y == x)) (fun i => ((x, l, ((ja l : Nat) : Int), i, ()), ()))
  (.inl ((), ())) (.inr ((true, ()), ())) (by
   intro k hk
   simp only [Kx]
   rw [Aa (show (k : Int) < ((ja l : Nat) : Int) by omega), Wb hk]
   simp only [cond_true, jb]
   cases l[k] == x <;> rfl) (by
   simp only [Kx]
   rw [Ca (by omega)]; rfl) (by omega)
 unfold CG Ny
 erw [hl]
 have : ∀ (l : List Int) (k : Nat), Ad (fun _ y => !(y == x)) k l = !l.any (fun y => y == x) := by
  intro l
  induction l with
  | nil => intro k; rfl
  | cons y l ih => intro k; simp only [Ad, List.any_cons, ih, Bool.not_or]
 rw [this]
 cases l.any (fun y => y == x) <;> rfl
theorem YK (l : List Va) (hn : l.length ≤ Ga) (hx : ∀ h ∈ l, 0 ≤ h.2.1.2.1 ∧ h.2.1.2.1 ≤ 56) : Ts (l.map fun h => h.2.1.2.1) = some (Bo l 56, ()) := by
 have h20 : Ga = 1048576 := rfl
 have hlim := Kg
 generalize hcs : (l.map fun h => h.2.1.2.1) = cs
 have hcl : cs.length = l.length := by rw [← hcs]; simp
 unfold Ts
 rw [Lu _ (by omega)]
 simp only [jb, sort_Ints, srt]
 rw [show jx (ja cs) Bb = true from ji (by omega)]
 simp only [cond_true, jb]
 generalize hss : (List.mergeSort cs fun x y => decide (x ≤ y)) = ss
 have hsl : ss.length = cs.length := by rw [← hss]; exact List.length_mergeSort _
 have hsm : ∀ x, x ∈ ss ↔ x ∈ cs := fun x => by rw [← hss]; exact List.mem_mergeSort
 have hsp : ss.Pairwise (· ≤ ·) := by
  rw [← hss]
  have := List.pairwise_mergeSort (le := fun x y : Int => decide (x ≤ y)) (by intro a b c; simp; omega) (by intro a b; simp; omega) cs
  exact this.imp (by intro a b h; simpa using h)
 have hl := (Qh (step := fun x => Ju x.1.1 x.1.2.1 x.1.2.2.1 x.1.2.2.2.1) ss (fun _ o x => ZP o x) (fun o i => ((o, ss, ((ja ss : Nat) : Int), i, ()), ())) (fun o => .inl ((o, ()), ())) (fun k o => o.length ≤ k) (by
  intro k hk o ho
  have hd : (ZP o ss[k]).length ≤ k + 1 := by
   unfold ZP
   cases (ss[k] != 0) && !o.any (fun y => y == ss[k]) <;> simp <;> omega
  refine ⟨?_, hd⟩
  simp only [Ju]
  rw [Aa (show (k : Int) < ((ja ss : Nat) : Int) by omega), show Ei (ja ss) (k : Int) = true by rw [Qp]; exact Aa hk, jn, je hk]
  simp only [cond_true, jb]
  rw [S1 _ _ (by omega), show jx (ja o + ja ([ss[k]] : List Int)) Bb = true from ji (by simp only [jw, qb]; omega)]
  simp only [jb, ZP]
  cases ss[k] != 0 <;> cases o.any (fun y => y == ss[k]) <;> rfl)
  (by
   intro o _
   simp only [Ju]
   rw [Ca (by omega)]; rfl) (by omega) [] (jo _)).1
 unfold Mw
 erw [hl]
 simp only [jb, qn]
 congr 2
 refine P4 (G3 ss 0 [] (by simp) hsp (by simp)) (VH l 56) fun x => ?_
 rw [show Dd (fun _ o x => ZP o x) 0 [] ss = S7 0 [] ss from rfl, Waj, PD, hsm, ← hcs]
 simp only [List.not_mem_nil, false_or, qy]
 constructor
 ·rintro ⟨⟨h, hh, rfl⟩, h0⟩
  have := hx h hh
  exact ⟨by omega, h, hh, rfl⟩
 ·rintro ⟨h1, h, hh, rfl⟩
  exact ⟨⟨h, hh, rfl⟩, by omega⟩
theorem Hu (l : List Va) (hn : l.length ≤ Ga) (hv : Zf l = true) : Ud l = some (Uc l, ()) := by
 have h20 : Ga = 1048576 := rfl
 have hlim := Kg
 have hh := Pt hv
 have hl := (Qh (step := fun x => Sr x.1.1 x.1.2.1 x.1.2.2.1 x.1.2.2.2.1 x.1.2.2.2.2.1 x.1.2.2.2.2.2.1 x.2.1 x.2.2.1) l
  (fun _ (s : Int × List Int) (h : Va) => (cond (h.2.1.1 == 2 || h.2.1.1 == 8) (Tc .i64 s.1 h.2.1.2.2.1) s.1, jf s.2 [h.2.1.2.1])) (fun s i => (((), (), s.2, l, ((ja l : Nat) : Int), i, ()), (((0 : Int), ([] : List Int), ()), (s.1, ([] : List Int), ()), ())))
  (fun s => .inl (((), (), s.2, ()), (((0 : Int), ([] : List Int), ()), (s.1, ([] : List Int), ()), ()))) (fun k s => s.2.length = k) (by
   intro k hk s hs
   refine ⟨?_, by simp [hs]⟩
   simp only [Sr]
   rw [Aa (show (k : Int) < ((ja l : Nat) : Int) by omega), Wb hk]
   simp only [cond_true, jb]
   rw [show jx (ja s.2 + ja ([l[k].2.1.2.1] : List Int)) Bb = true from ji (by simp only [jw, qb]; omega)]
   cases l[k].2.1.1 == 2 <;> cases l[k].2.1.1 == 8 <;> rfl)
  (by
   intro s _
   simp only [Sr]
   rw [Ca (by omega)]; rfl) (by omega) (0, []) rfl).1
 have key : ∀ (l : List Va) (k : Nat) (s : Int × List Int), Dd (fun _ (s : Int × List Int) (h : Va) => (cond (h.2.1.1 == 2 || h.2.1.1 == 8) (Tc .i64 s.1 h.2.1.2.2.1) s.1, jf s.2 [h.2.1.2.1])) k s l =
  (Dd (fun _ s (h : Va) => cond (h.2.1.1 == 2 || h.2.1.1 == 8) (Tc .i64 s h.2.1.2.2.1) s) k s.1 l, s.2 ++ l.map fun h => h.2.1.2.1) := by
  intro l
  induction l with
  | nil => intro k s; simp [Dd]
  | cons x l ih => intro k s; simp only [Dd]; rw [ih]; simp
 unfold Ud Gu
 rw [Wz _ hn, hv]
 simp only [jb, jg, cond_false]
 erw [hl]
 rw [key]
 simp only [jb, qn, List.nil_append]
 rw [YK l hn (fun h hm => XL (hh h hm).act)]
 rfl
def SI (c : Int) : Bool := decide (1 ≤ c ∧ c ≤ 36) || ((c == 39) || (c == 42))
theorem KR (c : Int) : Ax c = some (SI c, ()) := by
 unfold Ax SI
 by_cases h1 : c ≥ 1
 ·by_cases h2 : c ≤ 36
  ·rw [Aa h1, Aa h2, Aa (show 1 ≤ c ∧ c ≤ 36 by omega)]; rfl
  ·rw [Aa h1, Ca h2, Ca (show ¬ (1 ≤ c ∧ c ≤ 36) by omega)]
   cases c == 39 <;> rfl
 ·rw [Ca h1, Ca (show ¬ (1 ≤ c ∧ c ≤ 36) by omega)]
  cases c == 39 <;> rfl
def YJ (f o : Int) (c : Bool) (a : Pa) : Int × Int × Bool × Pa :=
 cond (a.1 == 2) (cond (a.2.1 == 0) (f, o, c, a) (f, 0, c && SI a.2.1, a.1, a.2.1, cond ((c && SI a.2.1) && (decide (a.2.1 ≤ 26) && (Gc .i64 (Tc .i64 a.2.2.1 o) 2 == 0))) 2 (Tc .i64 a.2.2.1 o), a.2.2.2))
  (cond (a.1 == 4) (Kf .i64 f (Ra .i64 1 a.2.2.2.1), o, c, a) (cond (a.1 == 5) (Gc .i64 (Ra .i64 1 a.2.2.2.1) 1, o, c, a)
   (cond (a.1 == 8) (f, cond (Ya .i64 o a.2.2.1 == a.2.2.1) (Gc .i64 o a.2.2.1) (Tc .i64 o a.2.2.1), c, a) (cond (a.1 == 10) (f, o, !c, a) (f, o, c, a)))))
theorem XN {a : Pa} (h : Qc a = true) : 0 ≤ a.2.2.2.1 := by
 rw [Tb] at h
 unfold Yb at h
 omega
theorem ZM (m : Hb) (M : List (List Xb)) (f o : Int) (h : List Va) (c : Bool) (a : Pa) (ha : Qc a = true) :
 Tq (m, M, f, h, o, c, ()) a = some ((m, M, (YJ f o c a).1, h, (YJ f o c a).2.1, (YJ f o c a).2.2.1, ()), (YJ f o c a).2.2.2, ()) := by
 have hn := XN ha
 unfold Tq YJ
 rw [Aa hn]
 cases a.1 == 2 with
 | true =>
  cases a.2.1 == 0 with
  | true => rfl
  | false =>
   simp only [cond_true, cond_false, KR, jb]
   cases c with
   | false => rfl
   | true =>
    cases SI a.2.1 with
    | false => rfl
    | true => cases decide (a.2.1 ≤ 26) <;> cases Gc .i64 (Tc .i64 a.2.2.1 o) 2 == 0 <;> rfl
 | false =>
  cases a.1 == 4 with
  | true => rfl
  | false =>
   cases a.1 == 5 with
   | true => rfl
   | false =>
    cases a.1 == 8 with
    | true => cases Ya .i64 o a.2.2.1 == a.2.2.1 <;> rfl
    | false => cases a.1 == 10 <;> rfl
theorem Lav : ∀ f : Fin 16, ∀ n : Fin 4, ∀ l : Fin 5, 1 ≤ n.val → n.val < l.val → f.val < 2 ^ l.val → f.val % 2 = 0 →
 0 ≤ Kf .i64 (f.val : Int) (Ra .i64 1 (n.val : Int)) ∧ Kf .i64 (f.val : Int) (Ra .i64 1 (n.val : Int)) < ((2 ^ l.val : Nat) : Int) ∧ (Kf .i64 (f.val : Int) (Ra .i64 1 (n.val : Int))).tmod 2 = 0 := by decide +kernel
theorem Kay : ∀ n : Fin 4, ∀ l : Fin 5, n.val < l.val →
 0 ≤ Gc .i64 (Ra .i64 1 (n.val : Int)) 1 ∧ Gc .i64 (Ra .i64 1 (n.val : Int)) 1 < ((2 ^ l.val : Nat) : Int) ∧ (Gc .i64 (Ra .i64 1 (n.val : Int)) 1).tmod 2 = 0 := by decide +kernel
theorem Rad : ∀ o m : Fin 16, (0 ≤ Gc .i64 (o.val : Int) (m.val : Int) ∧ Gc .i64 (o.val : Int) (m.val : Int) ≤ 15) ∧ (0 ≤ Tc .i64 (o.val : Int) (m.val : Int) ∧ Tc .i64 (o.val : Int) (m.val : Int) ≤ 15) := by decide +kernel
structure IV (nl : Nat) (f o : Int) : Prop where
 f0 : 0 ≤ f
 f1 : f < ((2 ^ nl : Nat) : Int)
 f2 : f.tmod 2 = 0
 o0 : 0 ≤ o
 o1 : o ≤ 15
structure FV (nl : Nat) (a : Pa) : Prop where
 act : Qc a = true
 n1 : a.1 ≠ 1
 n6 : a.1 ≠ 6
 n7 : a.1 ≠ 7
 n : a.1 ≠ 9 → a.2.2.2.1 < (nl : Int)
theorem OaD {a b : Int} (ha : 0 ≤ a ∧ a ≤ 15) (hb : 0 ≤ b ∧ b ≤ 15) : 0 ≤ Tc .i64 a b ∧ Tc .i64 a b ≤ 15 := by
 obtain ⟨n, rfl⟩ := jv ha.1
 obtain ⟨m, rfl⟩ := jv hb.1
 exact (Rad ⟨n, by omega⟩ ⟨m, by omega⟩).2
theorem AaB {a b : Int} (ha : 0 ≤ a ∧ a ≤ 15) (hb : 0 ≤ b ∧ b ≤ 15) : 0 ≤ Gc .i64 a b ∧ Gc .i64 a b ≤ 15 := by
 obtain ⟨n, rfl⟩ := jv ha.1
 obtain ⟨m, rfl⟩ := jv hb.1
 exact (Rad ⟨n, by omega⟩ ⟨m, by omega⟩).1
theorem UaD {nl : Nat} (h : nl ≤ 4) : 2 ^ nl ≤ 16 := qp (n := 2) (by omega) h
theorem YaD {nl : Nat} (hnl : nl ≤ 4) {f o : Int} {c : Bool} {a : Pa} (hs : IV nl f o) (ha : FV nl a) :
 IV nl (YJ f o c a).1 (YJ f o c a).2.1 ∧ FV nl (YJ f o c a).2.2.2 := by
 have hP := ha.act
 rw [Tb] at hP
 unfold Yb at hP
 have h16 := UaD hnl
 obtain ⟨k, code, mods, n, u⟩ := a
 have hn1 := ha.n1; have hn6 := ha.n6; have hn7 := ha.n7; have hnn := ha.n
 simp only at hP hn1 hn6 hn7 hnn
 have hf1 := hs.f1
 unfold YJ
 simp only
 by_cases h2 : k = 2
 ·subst h2
  by_cases h0 : code = 0
  ·subst h0; exact ⟨hs, ha⟩
  ·rw [show ((2 : Int) == 2) = true from rfl, show (code == 0) = false by simp [h0]]
   simp only [cond_true, cond_false]
   refine ⟨⟨hs.f0, hs.f1, hs.f2, by decide, by decide⟩, ?_⟩
   have hm := OaD (a := mods) (b := o) (by omega) ⟨hs.o0, hs.o1⟩
   refine ⟨?_, hn1, hn6, hn7, hnn⟩
   have hn0 : n = 0 := by omega
   have hcd : 1 ≤ code ∧ code ≤ 56 := by omega
   rw [Tb]
   cases ((c && SI code) && (decide (code ≤ 26) && (Gc .i64 (Tc .i64 mods o) 2 == 0))) with
   | true => exact .inr (.inl ⟨rfl, hn0, .inr hcd, .inr ⟨by show (1 : Int) ≤ 2; decide, by show (2 : Int) ≤ 15; decide⟩, .inl (by show code ≠ 0; omega)⟩)
   | false =>
    refine .inr (.inl ⟨rfl, hn0, .inr hcd, ?_, .inl (by show code ≠ 0; omega)⟩)
    show Tc .i64 mods o = 0 ∨ 1 ≤ Tc .i64 mods o ∧ Tc .i64 mods o ≤ 15
    omega
 ·rw [show (k == 2) = false by simp [h2]]
  simp only [cond_false]
  by_cases h4 : k = 4
  ·subst h4
   have hr : 1 ≤ n ∧ n ≤ 3 := by omega
   have hlt := hnn (by omega)
   obtain ⟨fn, hfn⟩ := jv hs.f0
   obtain ⟨nn, hnn'⟩ := jv (show 0 ≤ n by omega)
   have hf2 := hs.f2
   rw [hfn] at hf1 hf2
   have hfl : fn < 2 ^ nl := Int.ofNat_lt.1 hf1
   have := Lav ⟨fn, by omega⟩ ⟨nn, by omega⟩ ⟨nl, by omega⟩ (by show 1 ≤ nn; omega) (by show nn < nl; omega) hfl (by
    rw [Int.tmod_eq_emod_of_nonneg (by omega)] at hf2; show fn % 2 = 0; omega)
   simp only [show ((4 : Int) == 4) = true from rfl, cond_true]
   rw [hfn, hnn']
   exact ⟨⟨this.1, this.2.1, this.2.2, hs.o0, hs.o1⟩, by rw [← hnn']; exact ha⟩
  ·rw [show (k == 4) = false by simp [h4]]
   simp only [cond_false]
   by_cases h5 : k = 5
   ·subst h5
    have hr : 0 ≤ n ∧ n ≤ 3 := by omega
    have hlt := hnn (by omega)
    obtain ⟨nn, hnn'⟩ := jv (show 0 ≤ n by omega)
    have := Kay ⟨nn, by omega⟩ ⟨nl, by omega⟩ (by show nn < nl; omega)
    simp only [show ((5 : Int) == 5) = true from rfl, cond_true]
    rw [hnn']
    exact ⟨⟨this.1, this.2.1, this.2.2, hs.o0, hs.o1⟩, by rw [← hnn']; exact ha⟩
   ·rw [show (k == 5) = false by simp [h5]]
    simp only [cond_false]
    by_cases h8 : k = 8
    ·subst h8
     have hm : 0 ≤ mods ∧ mods ≤ 15 := by omega
     simp only [show ((8 : Int) == 8) = true from rfl, cond_true]
     cases Ya .i64 o mods == mods with
     | true => have := AaB ⟨hs.o0, hs.o1⟩ hm; exact ⟨⟨hs.f0, hs.f1, hs.f2, this.1, this.2⟩, ha⟩
     | false => have := OaD ⟨hs.o0, hs.o1⟩ hm; exact ⟨⟨hs.f0, hs.f1, hs.f2, this.1, this.2⟩, ha⟩
    ·rw [show (k == 8) = false by simp [h8]]
     simp only [cond_false]
     cases k == 10 <;> exact ⟨hs, ha⟩
theorem Gam {m : Hb} (hm : XI m) (on : Int) {k : Nat} (hk : (k : Int) < m.1) : Lg m.2.1.length (Ji m on k) (Rj m.2.1 (Ji m on k) k) = true ∧ (Rj m.2.1 (Ji m on k) k).1 ≠ 1 := by
 have hl := TR hm on k
 have hrow := hm.row _ hl
 have hk' : k < m.2.1[Ji m on k].length := by omega
 have hact := hm.act _ hl k hk'
 rw [KV hl hk']
 refine ⟨hact, ?_⟩
 have key : ∀ n, Aj m.2.1 on k n = 0 ∨ (Rj m.2.1 (Aj m.2.1 on k n) k).1 ≠ 1 := by
  intro n
  induction n with
  | zero => exact .inl rfl
  | succ n ih =>
   simp only [Aj]
   cases hc : ((Rd on ((n + 1 : Nat) : Int) == 1) && ((Rj m.2.1 (n + 1) k).1 != 1)) with
   | true =>
    simp only [jd, bne_iff_ne] at hc
    exact .inr hc.2
   | false => exact ih
 rcases key (m.2.1.length - 1) with h0 | h1
 ·have h0' : Ji m on k = 0 := h0
  intro h1
  simp only [Lg, jd, Bool.not_eq_true', Bool.and_eq_false_iff, beq_eq_false_iff_ne] at hact
  rcases hact.1.2 with h2 | h2
  ·exact h2 (by rw [h0']; rfl)
  ·exact h2 h1
 ·have e : Rj m.2.1 (Aj m.2.1 on k (m.2.1.length - 1)) k = m.2.1[Ji m on k][k] := KV hl hk'
  rw [e] at h1
  exact h1
theorem Iay {nl i : Nat} {a : Pa} (h : Lg nl i a = true) (h1 : a.1 ≠ 1) : FV nl (LN a) := by
 have ha := CS h
 have hP := ha
 rw [Tb] at hP
 unfold Yb at hP
 unfold LN Jf
 rw [ha]
 by_cases h67 : a.1 = 6 ∨ a.1 = 7
 ·have e : (true && ((a.1 == 6) || (a.1 == 7))) = true := by rcases h67 with h | h <;> rw [h] <;> rfl
  rw [e]
  simp only [cond_true]
  refine ⟨?_, by show (2 : Int) ≠ 1; decide, by show (2 : Int) ≠ 6; decide, by show (2 : Int) ≠ 7; decide, fun _ => ?_⟩
  ·rw [Tb]
   exact .inr (.inl ⟨rfl, rfl, .inr (by show 1 ≤ a.2.1 ∧ a.2.1 ≤ 56; omega), .inl rfl, .inl (by show a.2.1 ≠ 0; omega)⟩)
  ·show (0 : Int) < (nl : Int)
   have := UT h (by omega)
   omega
 ·have e : (true && ((a.1 == 6) || (a.1 == 7))) = false := by
   rw [jk, Bool.or_eq_false_iff, beq_eq_false_iff_ne, beq_eq_false_iff_ne]; omega
  rw [e]
  exact ⟨ha, h1, fun h => h67 (.inl h), fun h => h67 (.inr h), fun hk => UT h hk⟩
def W7 (m : Hb) (f o : Int) (c : Bool) (h : List Va) : Jb := (m, [], f, h, o, c, ())
theorem Yag {m : Hb} (hv : Wd m = true) {f o : Int} (hs : IV m.2.1.length f o) (c : Bool) {h : List Va} (hh : Zf h = true) (hi : ∀ x ∈ h, Bl m.1 m.2.1.length x = true) : Mj (W7 m f o c h) = true := by
 have hk := Nj hv
 have e1 : Ad (fun _ x => Bl m.1 m.2.1.length x) 0 h = true := Kk.2 fun j hj => hi _ (qv hj)
 show (Wd m && (decide (([] : List (List Xb)).length ≤ 4) && (Zf h && (true && (Ad (fun _ x => Bl m.1 m.2.1.length x) 0 h &&
  (decide (0 ≤ f ∧ f < ((2 ^ m.2.1.length : Nat) : Int)) && ((Int.tmod f 2 == 0) && decide (0 ≤ o ∧ o ≤ 15)))))))) = true
 rw [hv, hh, e1, Aa (⟨hs.f0, hs.f1⟩ : 0 ≤ f ∧ f < ((2 ^ m.2.1.length : Nat) : Int)), Aa (⟨hs.o0, hs.o1⟩ : 0 ≤ o ∧ o ≤ 15), hs.f2]
 rfl
theorem Iav (m : Hb) (f o : Int) (c : Bool) (h : List Va) : Lc Pc (W7 m f o c h) = Lc Ec m + h.length := by
 rw [Um, Im]
 have : Lc (.sl (.sl Td)) (W7 m f o c h).2.1 = 0 := rfl
 rw [this, js]; rfl
theorem OaB {nl : Nat} (h4 : nl ≤ 4) {f o : Int} (hs : IV nl f o) : 0 ≤ f ∧ f ≤ 15 := by
 have := UaD h4
 have h1 := hs.f1
 have h0 := hs.f0
 omega
theorem N1 (e : Jb) (k : Int) (hn : e.2.2.2.1.length ≤ Ga) : ZF e k = some (Cd (fun h => h.1 == k) 0 e.2.2.2.1, ()) := by
 have h20 : Ga = 1048576 := rfl
 have hl := EG (step := fun x => Yw x.1.1 x.1.2.1 x.1.2.2.1 x.1.2.2.2.1) e.2.2.2.1 (fun h => h.1 == k) (fun i => ((k, e.2.2.2.1, ((ja e.2.2.2.1 : Nat) : Int), i, ()), ())) (.inl ((), ())) (fun i => .inr ((i, ()), ()))
  (by
   intro j hj
   simp only [Yw]
   rw [Aa (show (j : Int) < ((ja e.2.2.2.1 : Nat) : Int) by omega), Wb hj]
   simp only [cond_true, jb]
   cases e.2.2.2.1[j].1 == k <;> rfl) (by
   simp only [Yw]
   rw [Ca (by omega)]; rfl) (by omega)
 unfold ZF Hy
 erw [hl]
 simp only [jb]
 by_cases hc : Cd (fun h : Va => h.1 == k) 0 e.2.2.2.1 = -1
 ·rw [if_pos hc, hc]; rfl
 ·rw [if_neg hc]; rfl
theorem TK (a : La) (l : List La) (hn : l.length ≤ Ga) (ha : a.2.1.length ≤ Ga) (hx : ∀ x ∈ l, x.2.1.length ≤ Ga) : Ye a l = some (Hw Zo a l, ()) := by
 have h20 : Ga = 1048576 := rfl
 have hlim := Kg
 unfold Ye Qag
 have e : (jx (ja l) Bb && (ZJ a && l.all ZJ)) = true := by
  rw [jd, jd, List.all_eq_true]
  refine ⟨ji (by omega), ji (by show ja a.2.1 ≤ _; omega), fun x hm => ji ?_⟩
  have := hx x hm
  show ja x.2.1 ≤ _
  omega
 rw [e]; rfl
theorem TV : ∀ (l : List La) (a : La), (Hw Zo a l).length ≤ l.length
 | [], _ => by simp [Hw]
 | x :: l, a => by
  have := TV l x
  simp only [Hw]
  cases Zo a x <;> simp <;> omega
theorem OI (l : List Va) : (Uc l).2.1.length ≤ 56 := PY l 56
theorem EO : ∀ (l : List La) (a x : La), x ∈ Hw Zo a l → x ∈ l
 | [], _, x, h => by simp [Hw] at h
 | y :: l, a, x, h => by
  simp only [Hw] at h
  cases hs : Zo a y with
  | true => rw [hs] at h; exact jr _ (EO l y x h)
  | false =>
   rw [hs] at h
   rcases jp.1 h with h | h
   ·exact h ▸ q8 ..
   ·exact jr _ (EO l y x h)
noncomputable def NaP (m : Hb) (f : Int) (k : Nat) : Pa := LN (Rj m.2.1 (Ji m (Tc .i64 1 f) k) k)
noncomputable def stK (m : Hb) (f o : Int) (c : Bool) (k : Nat) : Int × Int × Bool × Pa := YJ f o c (NaP m f k)
noncomputable def hK (m : Hb) (f o : Int) (c : Bool) (k : Nat) : List Va := [((k : Int), (stK m f o c k).2.2.2, ())]
structure Oat (m : Hb) : Prop where
 v : Wd m = true
 z : Lc Ec m ≤ Ga - 10
theorem z20 {m : Hb} (hM : Oat m) (f o : Int) (c : Bool) (h : List Va) (hh : h.length ≤ 1) : Lc Pc (W7 m f o c h) ≤ Ga := by
 have h20 : Ga = 1048576 := rfl
 have := hM.z
 rw [Iav]; omega
theorem VT (l : List Va) : (Uc l).2.1.length ≤ Ga := by
 have h20 : Ga = 1048576 := rfl
 have := OI l
 omega
theorem ZaH : Zf [] = true := rfl
theorem Kam {m : Hb} (hv : Wd m = true) : Oat m := by
 have hm := Nj hv
 refine ⟨hv, ?_⟩
 have h20 : Ga = 1048576 := rfl
 have h1 : Lc Ec m = 0 + (Lc (.sl (.sl Sc)) m.2.1 + 0) := rfl
 have h2 : Lc (.sl (.sl Sc)) m.2.1 ≤ (32 + 1) * ja m.2.1 := AU (e := .sl Sc) (c := 32) fun x hx => by
  obtain ⟨i, hi, rfl⟩ := qx hx
  rw [N0]
  have := hm.row i hi
  have := hm.k2
  omega
 have := hm.l2
 omega
abbrev St := (Int × Int × Bool) × List La
structure WaT (m : Hb) (k : Nat) (s : St) : Prop where
 st : IV m.2.1.length s.1.1 s.1.2.1
 len : s.2.length ≤ 2 * k
 rep : ∀ x ∈ s.2, x.2.1.length ≤ 56
theorem XU {n i : Nat} {a : Pa} (h : WI (n : Int) a) : Lg n i a = true := by
 obtain ⟨h1, h2, h3⟩ := h
 unfold Lg
 rw [h1]
 have e1 : (a.1 == 1) = false := by simp; exact h2
 rw [e1]
 rcases h3 with h | h
 ·simp [h]
 ·simp; exact .inr h
theorem Uah {n i : Nat} (hi : 0 < i) (hn : 1 ≤ n) : Lg n i ((1 : Int), (0 : Int), (0 : Int), (0 : Int), ()) = true := by
 unfold Lg
 have : Qc ((1 : Int), (0 : Int), (0 : Int), (0 : Int), ()) = true := (Tb _).2 (by simp [Yb])
 rw [this]
 have hi' : ((i : Int) == 0) = false := by simp; omega
 rw [hi']
 simp; omega
theorem B3 {α : Type} {p : Nat → α → Bool} {xs : List α} {x : α} (h : Ad p 0 xs = true) (hx : p xs.length x = true) : Ad p 0 (xs ++ [x]) = true := by
 rw [Kk] at h ⊢
 intro j hj
 rw [qi, List.length_singleton] at hj
 rw [List.getElem_append]
 split
 ·rename_i h1; exact h j h1
 ·have : j = xs.length := by omega
  subst this
  simpa using hx
theorem Paq {c : Ab} (hc : Uh c) {keys n i : Nat} (hk : keys ≤ 32) (hn : 1 ≤ n) (hn4 : n ≤ 4) (b4 b6 : Hb) :
 ∃ (c' : Ab) (row : List Pa), Lz (((), (keys : Int), (), (n : Int), (), (i : Int), ([] : List Pa), (0 : Int), ()), (c, b4, b6, ())) = some (.inl (((), (keys : Int), (), (n : Int), (), (i : Int), row, ()), (c', b4, b6, ()))) ∧
  Uh c' ∧ row.length = keys ∧ Ad (fun _ a => Lg n i a) 0 row = true := by
 have hlim : Bb = 1073741824 := rfl
 have := Uy (s := fun x : ((Unit × (Int × (Unit × (Int × (Unit × (Int × ((List Pa) × (Int × Unit)))))))) × (Ab × (Hb × (Hb × Unit)))) => JE x.1.1 x.1.2.1 x.1.2.2.1 x.1.2.2.2.1 x.1.2.2.2.2.1 x.1.2.2.2.2.2.1 x.1.2.2.2.2.2.2.1 x.1.2.2.2.2.2.2.2.1 x.2.1 x.2.2.1 x.2.2.2.1)
  (fun m x => ∃ (c' : Ab) (row : List Pa) (k : Nat), x = (((), (keys : Int), (), (n : Int), (), (i : Int), row, (k : Int), ()), (c', b4, b6, ())) ∧ m + k = keys ∧ row.length = k ∧ Uh c' ∧ Ad (fun _ a => Lg n i a) 0 row = true)
  (fun r => ∃ (c' : Ab) (row : List Pa), r = .inl (((), (keys : Int), (), (n : Int), (), (i : Int), row, ()), (c', b4, b6, ())) ∧ Uh c' ∧ row.length = keys ∧ Ad (fun _ a => Lg n i a) 0 row = true) (by
  rintro m x ⟨c', row, k, rfl, hm, hl, hc', hr⟩
  simp only [JE]
  by_cases h1 : (k : Int) < (keys : Int)
  ·rw [Aa h1]
   obtain ⟨c1, a, e1, hc1, ha⟩ := Tak hc' (n : Int) (by omega) (by omega)
   rw [e1]
   simp only [cond_true, jb]
   have room : ∀ z : Pa, jx (ja row + ja [z]) Bb = true := fun z => ji (by simp; omega)
   rw [Ig (by omega)]
   have Hg : ∀ (z : Pa) (c2 : Ab), Lg n i z = true → Uh c2 → ∃ c' row' k', (((), (keys : Int), (), (n : Int), (), (i : Int), jf row [z], ((k + 1 : Nat) : Int), ()), (c2, b4, b6, ())) = (((), (keys : Int), (), (n : Int), (), (i : Int), row', ((k' : Nat) : Int), ()), (c', b4, b6, ())) ∧ (m - 1) + k' = keys ∧ ja row' = k' ∧ Uh c' ∧ Ad (fun _ a => Lg n i a) 0 row' = true :=
    fun z c2 hz h2 => ⟨c2, _, k + 1, rfl, by omega, by simp [hl], h2, B3 hr hz⟩
   by_cases h2 : (i : Int) > 0
   ·rw [Aa h2]
    obtain ⟨c2, b, e2, hc2⟩ := Ct hc1 3 (by omega)
    rw [e2]
    simp only [cond_true, jb, room]
    cases b with
    | true => exact .inr ⟨_, m - 1, by omega, rfl, Hg _ _ (Uah (by omega) hn) hc2⟩
    | false => exact .inr ⟨_, m - 1, by omega, rfl, Hg _ _ (XU ha) hc2⟩
   ·rw [Ca h2]
    simp only [cond_true, cond_false, room]
    exact .inr ⟨_, m - 1, by omega, rfl, Hg _ _ (XU ha) hc1⟩
  ·rw [Ca h1]; exact .inl ⟨_, rfl, c', row, rfl, hc', by omega, hr⟩) keys (((), (keys : Int), (), (n : Int), (), (i : Int), ([] : List Pa), ((0 : Nat) : Int), ()), (c, b4, b6, ())) ⟨c, [], 0, rfl, rfl, rfl, hc, rfl⟩
 obtain ⟨r, e, c', row, rfl, h⟩ := this
 exact ⟨c', row, e, h⟩
theorem Uak {c : Ab} (hc : Uh c) {keys : Nat} (hk1 : 1 ≤ keys) (hk : keys ≤ 32) : ∃ (c' : Ab) (m : Hb), NG c (keys : Int) = some (c', (m, ())) ∧ Uh c' ∧ Wd m = true ∧ m.1 = (keys : Int) := by
 have hlim : Bb = 1073741824 := rfl
 obtain ⟨c1, x1, e1, hc1, b1⟩ := Eh hc 4 (by omega)
 obtain ⟨n0, rfl⟩ := jv b1.1
 obtain ⟨n, hn⟩ : ∃ n : Nat, n = n0 + 1 := ⟨_, rfl⟩
 have hw : j9 .i64 ((1 : Int) + (n0 : Int)) = (n : Int) := by rw [Xc (by omega) (by omega)]; omega
 unfold NG
 rw [e1]
 simp only [jb, hw]
 have := Uy (s := fun x : ((Unit × (Int × (Unit × (Int × (Unit × (Int × Unit)))))) × (Ab × (Hb × (Hb × Unit)))) => IE x.1.1 x.1.2.1 x.1.2.2.1 x.1.2.2.2.1 x.1.2.2.2.2.1 x.1.2.2.2.2.2.1 x.2.1 x.2.2.1 x.2.2.2.1)
  (fun m x => ∃ (c' : Ab) (L : List (List Pa)) (k : Nat), x = (((), (keys : Int), (), (n : Int), (), (k : Int), ()), (c', ((0 : Int), ([] : List (List Pa)), ()), ((keys : Int), L, ()), ())) ∧ m + k = n ∧ L.length = k ∧ Uh c' ∧ Ad (fun i l => Ih (keys : Int) n i l) 0 L = true)
  (fun r => ∃ (c' : Ab) (L : List (List Pa)), r = .inl (((), (), (), ()), (c', ((0 : Int), ([] : List (List Pa)), ()), ((keys : Int), L, ()), ())) ∧ Uh c' ∧ L.length = n ∧ Ad (fun i l => Ih (keys : Int) n i l) 0 L = true) (by
  rintro m x ⟨c', L, k, rfl, hm, hl, hc', hr⟩
  simp only [IE]
  by_cases h1 : (k : Int) < (n : Int)
  ·rw [Aa h1]
   obtain ⟨c2, row, e2, hc2, hrow, hall⟩ := Paq hc' (i := k) hk (show 1 ≤ n by omega) (show n ≤ 4 by omega) ((0 : Int), ([] : List (List Pa)), ()) ((keys : Int), L, ())
   erw [e2]
   simp only [cond_true, jb, qn]
   rw [show jx (ja L + ja [row]) Bb = true from ji (by simp; omega), Ig (by omega)]
   refine .inr ⟨_, m - 1, by omega, rfl, c2, _, k + 1, rfl, by omega, by simp [hl], hc2, ?_⟩
   refine B3 hr ?_
   unfold Ih
   rw [hl, hall, hrow]
   simp
  ·rw [Ca h1]; exact .inl ⟨_, rfl, c', L, rfl, hc', by omega, hr⟩) n (((), (keys : Int), (), (n : Int), (), ((0 : Nat) : Int), ()), (c1, ((0 : Int), ([] : List (List Pa)), ()), ((keys : Int), ([] : List (List Pa)), ()), ())) ⟨c1, [], 0, rfl, rfl, rfl, hc1, rfl⟩
 obtain ⟨r, e, c', L, rfl, hc', hL, hall⟩ := this
 unfold Kz
 erw [e]
 refine ⟨c', ((keys : Int), L, ()), rfl, hc', ?_, rfl⟩
 unfold Wd
 simp only [jd, decide_eq_true_eq]
 refine ⟨⟨by omega, by omega⟩, ?_⟩
 show Ad (fun i l => Ih (keys : Int) L.length i l) 0 L = true
 rw [hL]; exact hall
theorem G7 {α : Type} {p : Nat → α → Bool} {xs : List α} {i : Nat} {x : α} (h : Ad p 0 xs = true) (hx : p i x = true) : Ad p 0 (qa xs i x) = true := by
 rw [Kk] at h ⊢
 intro j hj
 rw [qc] at hj
 rw [List.getElem_set]
 split
 ·rename_i e; subst e; simpa using hx
 ·exact h j hj
theorem Oaa {keys : Int} {n i : Nat} {l : List Pa} {k : Nat} {a : Pa} (h : Ih keys n i l = true) (ha : Lg n i a = true) : Ih keys n i (qa l k a) = true := by
 unfold Ih at h ⊢
 rw [jd] at h ⊢
 exact ⟨by rw [qc]; exact h.1, G7 h.2 ha⟩
theorem Naa {keys : Int} {n i : Nat} {l : List Pa} (h : Ih keys n i l = true) : (l.length : Int) = keys := by
 unfold Ih at h
 rw [jd] at h
 simpa using h.1
def WD (p : Int → Bool) : Nat → List Int
 | 0 => []
 | n + 1 => cond (p ((n + 1 : Nat) : Int)) (WD p n ++ [((n + 1 : Nat) : Int)]) (WD p n)
theorem U3 (p : Int → Bool) : ∀ n, (WD p n).length ≤ n
 | 0 => by simp [WD]
 | n + 1 => by
  have := U3 p n
  simp only [WD]
  cases p ((n + 1 : Nat) : Int) <;> simp <;> omega
theorem XQ (l : List Va) : ∀ n, Bo l n = WD (fun c => l.any fun h => h.2.1.2.1 == c) n
 | 0 => rfl
 | n + 1 => by simp only [Bo, WD, XQ l n]
theorem LW (cs : List Int) (hn : cs.length ≤ Ga) (hx : ∀ c ∈ cs, 0 ≤ c ∧ c ≤ 56) : Ts cs = some (WD (fun c => cs.any (fun y => y == c)) 56, ()) := by
 have := YK (cs.map fun c => ((0, (0, c, 0, 0, ()), ()) : Va)) (by simpa using hn) (fun h hh => by
  obtain ⟨c, hc, rfl⟩ := qy.1 hh
  exact hx c hc)
 rw [List.map_map] at this
 have e : List.map ((fun h : Va => h.2.1.2.1) ∘ fun c => ((0, (0, c, 0, 0, ()), ()) : Va)) cs = cs := by
  rw [show ((fun h : Va => h.2.1.2.1) ∘ fun c => ((0, (0, c, 0, 0, ()), ()) : Va)) = id from rfl, List.map_id]
 rw [e] at this
 rw [this, XQ]
 congr 3
 funext c
 rw [List.any_map]
 rfl
def Lau (s : Int) (D : List Ja) : Int := Dd (fun _ s (p : Ja) => Tc .i64 s p.2.1) 0 s D
def SP (b : La) (D : List Ja) : La := (Lau b.1 D, WD (fun c => b.2.1.any (fun y => y == c) || D.any (fun p => p.1 == c)) 56, ())
theorem EU (b : La) (D : List Ja) (hb : b.2.1.length ≤ 56) (hD : D.length ≤ 1000) (hbx : ∀ c ∈ b.2.1, 0 ≤ c ∧ c ≤ 56) (hDx : ∀ p ∈ D, 0 ≤ p.1 ∧ p.1 ≤ 56) :
 Bg b D = some (SP b D, ()) := by
 have h20 : Ga = 1048576 := rfl
 have hl := (Qh (step := fun x => Dq x.1.1 x.1.2.1 x.1.2.2.1 x.1.2.2.2.1 x.1.2.2.2.2.1 x.1.2.2.2.2.2.1 x.2.1 x.2.2.1) D
  (fun _ (s : Int × List Int) (p : Ja) => (Tc .i64 s.1 p.2.1, jf s.2 [p.1])) (fun s i => (((), (), s.2, D, ((ja D : Nat) : Int), i, ()), (((0 : Int), ([] : List Int), ()), (s.1, ([] : List Int), ()), ())))
  (fun s => .inl (((), (), s.2, ()), (((0 : Int), ([] : List Int), ()), (s.1, ([] : List Int), ()), ()))) (fun k s => s.2.length = b.2.1.length + k) (by
   intro k hk s hs
   refine ⟨?_, by simp [hs]; omega⟩
   simp only [Dq]
   rw [Aa (show (k : Int) < ((ja D : Nat) : Int) by omega), Wb hk]
   simp only [cond_true, jb]
   rw [show jx (ja s.2 + ja ([D[k].1] : List Int)) Bb = true from ji (by simp only [jw, qb, Kg]; omega)]
   rfl)
  (by
   intro s _
   simp only [Dq]
   rw [Ca (by omega)]; rfl) (by omega) (b.1, b.2.1) (by simp)).1
 have key : ∀ (D : List Ja) (k : Nat) (s : Int × List Int), Dd (fun _ (s : Int × List Int) (p : Ja) => (Tc .i64 s.1 p.2.1, jf s.2 [p.1])) k s D =
  (Dd (fun _ s (p : Ja) => Tc .i64 s p.2.1) k s.1 D, s.2 ++ D.map fun p => p.1) := by
  intro D
  induction D with
  | nil => intro k s; simp [Dd]
  | cons x D ih => intro k s; simp only [Dd]; rw [ih]; simp
 unfold Bg Ys
 rw [Lu _ (by omega)]
 simp only [jb]
 erw [hl]
 rw [key]
 simp only [jb, qn]
 rw [LW _ (by simp; omega) (fun c hc => by
  rcases jl.1 hc with h | h
  ·exact hbx c h
  ·obtain ⟨p, hp, rfl⟩ := qy.1 h
   exact hDx p hp)]
 simp only [jb, SP, Lau]
 congr 4
 apply congrArg (fun p => WD p 56)
 funext c
 rw [List.any_append, List.any_map]
 rfl

noncomputable def rM (L : List Va) (x : Xb) : Int := Cd (Oh x.2.1 x.2.2.1) 0 L
noncomputable def VZ (b : La) (L : List Va) (x : Xb) : List La :=
 cond (x.1 == 0) [SP b ((jf L [Gh x]).map Ge), SP b (L.map Ge)] [SP b ((DF x L (rM L x)).map Ge)]
noncomputable def mG (b : La) (s : List La × List Va) (x : Xb) : List La × List Va := (jf s.1 (VZ b s.2 x), DF x s.2 (rM s.2 x))
noncomputable def VR (b : La) (l : List Xb) : List La := (Dd (fun _ s x => mG b s x) 0 ([], []) l).1
structure Taf (l : List Xb) (k : Nat) (s : List La × List Va) : Prop where
 ok : ∃ L', Sa (fun _ L x => Sk L x) k s.2 (l.drop k) = .inl L'
 len : s.2.length ≤ k
 out : s.1.length ≤ 2 * k
 cod : ∀ h ∈ s.2, 0 ≤ h.2.1.2.1 ∧ h.2.1.2.1 ≤ 56
theorem Laq {l : List Xb} {k : Nat} (hk : k < l.length) {b : La} {s : List La × List Va} (hi : Taf l k s) : Jk l[k] (rM s.2 l[k]) = true ∧ Taf l (k + 1) (mG b s l[k]) := by
 obtain ⟨L', hL⟩ := hi.ok
 rw [List.drop_eq_getElem_cons hk] at hL
 simp only [Sa] at hL
 unfold rM
 cases hc : Jk l[k] (Cd (Oh l[k].2.1 l[k].2.2.1) 0 s.2) with
 | false =>
  have : Sk s.2 l[k] = .inr () := by unfold Sk; rw [hc]; rfl
  rw [this] at hL; simp at hL
 | true =>
  have hm : Sk s.2 l[k] = .inl (DF l[k] s.2 (rM s.2 l[k])) := by unfold Sk rM; rw [hc]; rfl
  rw [hm] at hL
  refine ⟨rfl, ⟨L', hL⟩, ?_, ?_, ?_⟩
  ·have := W1 hm
   have := hi.len
   show (DF l[k] s.2 (rM s.2 l[k])).length ≤ k + 1
   omega
  ·have := hi.out
   show (jf s.1 (VZ b s.2 l[k])).length ≤ _
   unfold VZ
   cases l[k].1 == 0 <;> simp <;> omega
  ·have hcode : 0 ≤ l[k].2.1 ∧ l[k].2.1 ≤ 56 := by
    simp only [Jk, jd] at hc
    exact XL hc.1
   intro h hh
   have hh' : h ∈ DF l[k] s.2 (rM s.2 l[k]) := hh
   unfold DF at hh'
   cases h1 : l[k].1 == 1 with
   | true =>
    rw [h1] at hh'
    rcases jl.1 (show h ∈ s.2 ++ [Gh l[k]] from hh') with hh' | hh'
    ·exact hi.cod h hh'
    ·simp only [jp, List.not_mem_nil, or_false] at hh'
     rw [hh']; exact hcode
   | false =>
    rw [h1] at hh'
    cases h2 : l[k].1 == 2 with
    | true =>
     rw [h2] at hh'
     have hsub : h ∈ s.2 := by
      have hw : h ∈ Ej s.2 (rM s.2 l[k]).toNat := hh'
      unfold Ej Qb at hw
      rcases jl.1 (show h ∈ _ ++ _ from hw) with hw | hw
      ·exact List.mem_of_mem_take (qw hw)
      ·exact List.mem_of_mem_take (qw hw)
     exact hi.cod h hsub
    | false => rw [h2] at hh'; exact hi.cod h hh'
theorem Uaq {x : Xb} {r : Int} (h : Jk x r = true) : (x.1 = 0 ∧ r < 0) ∨ (x.1 = 1 ∧ r < 0) ∨ (x.1 = 2 ∧ r ≥ 0) := by
 simp only [Jk, jd, Bool.or_eq_true, beq_iff_eq, Bool.not_eq_true', decide_eq_false_iff_not, decide_eq_true_eq] at h
 omega
theorem Ia {n m : Nat} (h : n ≤ 1000) (hm : m ≤ 10) : jx (n + m) Bb = true := ji (by rw [Kg]; omega)
theorem Nar (a : List Va) : ∀ c ∈ (Uc a).2.1, 0 ≤ c ∧ c ≤ 56 := by
 intro c hc
 have := (PD a 56 c).1 hc
 omega
theorem SO (a : List Va) (l : List Xb) (hn : a.length ≤ Ga) (ha : Zf a = true) (hm : Vd l = true) : Fk a l = some (VR (Uc a) l, ()) := by
 have h20 : Ga = 1048576 := rfl
 have hm' := hm
 simp only [Vd, jd, decide_eq_true_eq, CP] at hm'
 have h0 : Taf l 0 ([], []) := ⟨by
  rw [List.drop_zero]
  cases hf : Sa (fun _ L x => Sk L x) 0 [] l with
  | inl L => exact ⟨L, rfl⟩
  | inr u => rw [hf] at hm'; simp at hm', jo _, jo _, by simp⟩
 have hl := (Qh (step := fun x => Dm x.1.1 x.1.2.1 x.1.2.2.1 x.1.2.2.2.1 x.1.2.2.2.2.1 x.1.2.2.2.2.2.1 x.2.1) l (fun _ s x => mG (Uc a) s x) (fun s i => (((), s.1, s.2.map Ge, l, ((ja l : Nat) : Int), i, ()), (Uc a, ()))) (fun s => .inl ((s.1, ()), ())) (Taf l) (by
  intro k hk s hi
  obtain ⟨hok, hi'⟩ := Laq (b := Uc a) hk hi
  refine ⟨?_, hi'⟩
  have hlen := hi.len
  have hout := hi.out
  have hl8 := hm'.1
  have hcode : 0 ≤ l[k].2.1 ∧ l[k].2.1 ≤ 56 := by
   simp only [Jk, jd] at hok
   exact XL hok.1
  simp only [Dm]
  rw [Aa (show (k : Int) < ((ja l : Nat) : Int) by omega), Wb hk]
  simp only [cond_true, jb]
  generalize hx : l[k] = x at *
  have hW : ∀ L : List Va, L.length ≤ 1000 → (∀ h ∈ L, 0 ≤ h.2.1.2.1 ∧ h.2.1.2.1 ≤ 56) → Bg (Uc a) (L.map Ge) = some (SP (Uc a) (L.map Ge), ()) := fun L h1 h2 =>
   EU _ _ (OI a) (by simpa using h1) (Nar a) (fun p hp => by
    obtain ⟨h, hh, rfl⟩ := qy.1 hp
    exact h2 h hh)
  have hcs : ∀ h ∈ jf s.2 [Gh x], 0 ≤ h.2.1.2.1 ∧ h.2.1.2.1 ≤ 56 := by
   intro h hh
   rcases jl.1 (show h ∈ s.2 ++ [Gh x] from hh) with hh | hh
   ·exact hi.cod h hh
   ·simp only [jp, List.not_mem_nil, or_false] at hh
    rw [hh]; exact hcode
  have happ : jf (s.2.map Ge) ([(x.2.1, x.2.2.1, ())] : List Ja) = (jf s.2 [Gh x]).map Ge := by
   show _ ++ _ = List.map Ge (_ ++ _)
   rw [List.map_append]; rfl
  have happ2 : jf (jf ([] : List Ja) (s.2.map Ge)) ([(x.2.1, x.2.2.1, ())] : List Ja) = (jf s.2 [Gh x]).map Ge := happ
  have hR1 := hW (jf s.2 [Gh x]) (by simp; omega) hcs
  have hR0 := hW s.2 (by omega) hi.cod
  have b1 : jx (ja (s.2.map Ge) + ja ([(x.2.1, x.2.2.1, ())] : List Ja)) Bb = true := Ia (by simp; omega) (by simp)
  have b0 : jx (ja ([] : List Ja) + ja (s.2.map Ge)) Bb = true := ji (by simp [Kg]; omega)
  unfold mG VZ DF
  rcases Uaq hok with ⟨h0, hr⟩ | ⟨h1, hr⟩ | ⟨h2, hr⟩
  ·rw [h0, b0]
   simp only [show ((0 : Int) == 0) = true from rfl, show ((0 : Int) == 1) = false from rfl, show ((0 : Int) == 2) = false from rfl, cond_true, cond_false]
   show cond (jx (ja (s.2.map Ge) + ja ([(x.2.1, x.2.2.1, ())] : List Ja)) Bb) _ _ = _
   rw [b1, happ2]
   simp only [cond_true]
   show jz (Bg (Uc a) _) _ = _
   rw [hR1]
   simp only [jb]
   rw [show ∀ r : La, jx (ja s.1 + ja ([r] : List La)) Bb = true from fun r => Ia (by omega) (by simp)]
   simp only [cond_true]
   show jz (Bg (Uc a) _) _ = _
   rw [hR0]
   simp only [jb]
   rw [show ∀ r r' : La, jx (ja (jf s.1 [r]) + ja ([r'] : List La)) Bb = true from fun r r' => Ia (by simp; omega) (by simp)]
   simp
  ·rw [h1, b1, happ]
   simp only [show ((1 : Int) == 0) = false from rfl, show ((1 : Int) == 1) = true from rfl, cond_true, cond_false]
   show jz (Bg (Uc a) _) _ = _
   rw [hR1]
   simp only [jb]
   rw [show ∀ r : La, jx (ja s.1 + ja ([r] : List La)) Bb = true from fun r => Ia (by omega) (by simp)]
   rfl
  ·rw [h2]
   simp only [show ((2 : Int) == 0) = false from rfl, show ((2 : Int) == 1) = false from rfl, show ((2 : Int) == 2) = true from rfl, cond_true, cond_false]
   rcases Dy (Oh x.2.1 x.2.2.1) s.2 0 with h | ⟨j, hj, h⟩
   ·unfold rM at hr; omega
   ·rw [js] at h
    rw [YM (s.2.map Ge) _ (by simp; omega), SZ, h]
    simp only [jb]
    have hj' : j < (s.2.map Ge).length := by simpa using hj
    have hc := AR hj'
    have e1 : jx (ja (Qb (s.2.map Ge) (jy 0) (jy (j : Int))) + ja (Qb (s.2.map Ge) (jy ((j + 1 : Nat) : Int)) (jy ((ja (s.2.map Ge) : Nat) : Int)))) Bb = true :=
     ji (by simp [Qb]; rw [Kg]; omega)
    have e2 : jf (Qb (s.2.map Ge) (jy 0) (jy (j : Int))) (Qb (s.2.map Ge) (jy ((j + 1 : Nat) : Int)) (jy ((ja (s.2.map Ge) : Nat) : Int))) = (Ej s.2 j).map Ge := by
     rw [← DV]
     simp [Ej]
    have hsub : ∀ h ∈ Ej s.2 j, 0 ≤ h.2.1.2.1 ∧ h.2.1.2.1 ≤ 56 := by
     intro h hw
     unfold Ej Qb at hw
     rcases jl.1 (show h ∈ _ ++ _ from hw) with hw | hw
     ·exact hi.cod h (List.mem_of_mem_take (qw hw))
     ·exact hi.cod h (List.mem_of_mem_take (qw hw))
    rw [Ig (k := j) (by omega), hc.1, hc.2, e1, e2]
    simp only [cond_true]
    show jz (Bg (Uc a) _) _ = _
    rw [hW (Ej s.2 j) (by rw [Taa hj]; omega) hsub]
    simp only [jb]
    rw [show ∀ r : La, jx (ja s.1 + ja ([r] : List La)) Bb = true from fun r => Ia (by omega) (by simp)]
    unfold rM
    rw [h, jn]
    rfl)
  (by
   intro s _
   simp only [Dm]
   rw [Ca (by omega)]; rfl) (by omega) ([], []) h0).1
 unfold Fk Ko
 rw [Wz _ hn, ha, WK _ (by omega), hm, Hu _ hn ha]
 simp only [jb, jg, cond_false]
 erw [hl]
 rfl
theorem X4 (b : La) (D : List Ja) : (SP b D).2.1.length ≤ 56 := by
 show (WD (fun c => b.2.1.any (fun y => y == c) || D.any (fun p => p.1 == c)) 56).length ≤ 56
 exact U3 _ 56
theorem B9 (b : La) : ∀ (l : List Xb) (k : Nat) (s : List La × List Va), (∀ x ∈ s.1, x.2.1.length ≤ 56) →
 (Dd (fun _ s x => mG b s x) k s l).1.length ≤ s.1.length + 2 * l.length ∧ ∀ x ∈ (Dd (fun _ s x => mG b s x) k s l).1, x.2.1.length ≤ 56
 | [], _, s, h => by simp only [Dd]; exact ⟨by omega, h⟩
 | x :: l, k, s, h => by
  have h1 : (mG b s x).1.length ≤ s.1.length + 2 ∧ ∀ y ∈ (mG b s x).1, y.2.1.length ≤ 56 := by
   unfold mG VZ
   cases x.1 == 0 with
   | true =>
    refine ⟨by simp, fun y hy => ?_⟩
    rcases jl.1 (show y ∈ s.1 ++ _ from hy) with hy | hy
    ·exact h y hy
    ·simp only [cond_true, jp, List.not_mem_nil, or_false] at hy
     rcases hy with rfl | rfl <;> exact X4 _ _
   | false =>
    refine ⟨by simp, fun y hy => ?_⟩
    rcases jl.1 (show y ∈ s.1 ++ _ from hy) with hy | hy
    ·exact h y hy
    ·simp only [cond_false, jp, List.not_mem_nil, or_false] at hy
     rw [hy]; exact X4 _ _
  have := B9 b l (k + 1) (mG b s x) h1.2
  simp only [Dd, jw]
  exact ⟨by omega, this.2⟩
def Ik (f : Int) (l : List Va) : Int := Dd (fun _ s (h : Va) => cond (h.2.1.1 == 3) (Tc .i64 s (Ra .i64 1 h.2.1.2.2.2.1)) s) 0 (Tc .i64 1 f) l
theorem VM {f : Int} (hf : 0 ≤ f ∧ f ≤ 15) (l : List Va) (hn : l.length ≤ Ga) (hv : Zf l = true) : Rv f l = some (Ik f l, ()) := by
 have h20 : Ga = 1048576 := rfl
 have hh := Pt hv
 have hl := (Qh (step := fun x => Rr x.1.1 x.1.2.1 x.1.2.2.1 x.1.2.2.2.1) l
  (fun _ s (h : Va) => cond (h.2.1.1 == 3) (Tc .i64 s (Ra .i64 1 h.2.1.2.2.2.1)) s) (fun s i => ((s, l, ((ja l : Nat) : Int), i, ()), ()))
  (fun s => .inl ((s, ()), ())) (fun _ _ => True) (by
   intro k hk s _
   refine ⟨?_, trivial⟩
   simp only [Rr]
   rw [Aa (show (k : Int) < (ja l : Int) by omega), Wb hk]
   simp only [cond_true, jb]
   rw [Aa (XN (hh _ (qv hk)).act)]
   cases l[k].2.1.1 == 3 <;> rfl)
  (by
   intro s _
   simp only [Rr]
   rw [Ca (by omega)]; rfl) (by omega) (Tc .i64 1 f) trivial).1
 unfold Rv Ak
 rw [Aa (show f ≥ 0 by omega), Aa hf.2, Wz _ hn, hv]
 simp only [cond_true, jb, jg, cond_false]
 erw [hl]
 rfl
theorem O1 (a : Pa) : AG a = some (TM a, ()) := by
 unfold AG TM
 rw [RA]
 cases Jf a <;> cases a.1 == 6 <;> rfl
theorem QZ {a : Nat} (ha : a < 2 ^ 63) (x : Va) : CA (a : Int) x = true ↔ Fv x ∧ a.testBit x.1.toNat = false := by
 constructor
 ·intro h
  obtain ⟨h1, h2⟩ := Qam h
  refine ⟨h1, ?_⟩
  have hx : x.1 = ((x.1.toNat : Nat) : Int) := (Int.toNat_of_nonneg h1.lo).symm
  have := Kj (a := a) (k := x.1.toNat) ha (by have := h1.hi; omega)
  rw [← hx] at this
  rw [← this]
  simp [h2]
 ·rintro ⟨h1, h2⟩
  have hx : x.1 = ((x.1.toNat : Nat) : Int) := (Int.toNat_of_nonneg h1.lo).symm
  have := Kj (a := a) (k := x.1.toNat) ha (by have := h1.hi; omega)
  rw [← hx, h2] at this
  simp only [CA, jd, decide_eq_true_eq, Bool.not_eq_true', beq_eq_false_iff_ne]
  exact ⟨⟨h1.lo, h1.hi⟩, by rw [beq_eq_false_iff_ne] at this; exact this, h1.act, h1.n1, h1.n6, h1.n7⟩
theorem PU : ∀ (l : List Va) (k a : Nat), a < 2 ^ 63 → (Ok (Sa (fun _ s x => Xw s x) k (a : Int) l) = true ↔
 (∀ x ∈ l, Fv x ∧ a.testBit x.1.toNat = false) ∧ l.Pairwise (fun x y => x.1 ≠ y.1))
 | [], k, a, ha => by simp [Sa, Ok]
 | y :: l, k, a, ha => by
  simp only [Sa]
  cases hc : CA (a : Int) y with
  | false =>
   rw [show Xw (a : Int) y = .inr () by unfold Xw; rw [hc]; rfl]
   simp only [Ok, jq, false_iff]
   rintro ⟨h, _⟩
   have := (QZ ha y).2 (h y (q8 ..))
   rw [hc] at this; cases this
  | true =>
   rw [show Xw (a : Int) y = .inl (Tc .i64 (a : Int) (Ra .i64 1 y.1)) by unfold Xw; rw [hc]; rfl]
   simp only []
   obtain ⟨hy, hb⟩ := (QZ ha y).1 hc
   have h1 := hy.lo; have h2 := hy.hi
   have hyx : y.1 = ((y.1.toNat : Nat) : Int) := (Int.toNat_of_nonneg h1).symm
   have e : Tc .i64 (a : Int) (Ra .i64 1 y.1) = ((a ||| 2 ^ y.1.toNat : Nat) : Int) := by
    conv => lhs; rw [hyx]
    rw [Qf (by omega), Hk ha (Gf (by omega))]
   rw [e, PU l (k + 1) _ (Nat.or_lt_two_pow ha (Gf (by omega)))]
   have tb : ∀ n, (a ||| 2 ^ y.1.toNat).testBit n = false ↔ a.testBit n = false ∧ y.1.toNat ≠ n := by
    intro n
    rw [Nat.testBit_or, qr, Bool.or_eq_false_iff, decide_eq_false_iff_not]
   simp only [jp, List.pairwise_cons, forall_eq_or_imp]
   constructor
   ·rintro ⟨h, hp⟩
    refine ⟨⟨⟨hy, hb⟩, fun x hx => ⟨(h x hx).1, ((tb _).1 (h x hx).2).1⟩⟩, fun x hx hxy => ?_, hp⟩
    exact ((tb _).1 (h x hx).2).2 (by rw [hxy])
   ·rintro ⟨⟨_, h⟩, hq, hp⟩
    refine ⟨fun x hx => ⟨(h x hx).1, (tb _).2 ⟨(h x hx).2, fun hn => hq x hx ?_⟩⟩, hp⟩
    have := (h x hx).1.lo
    omega
theorem QC (l : List Va) : Zf l = true ↔ (∀ x ∈ l, Fv x) ∧ l.Pairwise (fun x y => x.1 ≠ y.1) := by
 have := PU l 0 0 (by decide)
 unfold Zf K6
 erw [this]
 simp
theorem Jak {l : List Va} (h : Zf l = true) {x : Va} (hx : Fv x) (hn : ∀ y ∈ l, y.1 ≠ x.1) : Zf (jf l [x]) = true := by
 rw [QC] at h ⊢
 obtain ⟨h1, h2⟩ := h
 refine ⟨fun y hy => ?_, ?_⟩
 ·rcases jl.1 (show y ∈ l ++ [x] from hy) with hy | hy
  ·exact h1 y hy
  ·rw [qh.1 hy]; exact hx
 ·show (l ++ [x]).Pairwise _
  rw [List.pairwise_append]
  exact ⟨h2, List.pairwise_singleton _ _, fun y hy z hz => by rw [qh.1 hz]; exact hn y hy⟩
theorem L8 {l r : List Va} (h : Zf l = true) (hs : r.Sublist l) : Zf r = true := by
 rw [QC] at h ⊢
 exact ⟨fun y hy => h.1 y (hs.subset hy), h.2.sublist hs⟩
theorem RW : ∀ (n : Nat) (l : List Nat), l.Nodup → (∀ x ∈ l, x < n) → l.length ≤ n
 | 0, l, _, h => by
  cases l with
  | nil => exact jo _
  | cons x l => exact absurd (h x (q8 ..)) (Nat.not_lt_zero _)
 | n + 1, l, hn, h => by
  have := RW n (l.erase n) (hn.erase n) (fun x hx => by
   have h1 := (hn.mem_erase_iff).1 hx
   have := h x h1.2
   have := h1.1
   omega)
  have h2 := List.length_erase (a := n) (l := l)
  split at h2 <;> omega
theorem Uz {l : List Va} (h : Zf l = true) : l.length ≤ 32 := by
 rw [QC] at h
 have hn : (l.map fun x => x.1.toNat).Nodup := by
  rw [List.Nodup, List.pairwise_map]
  refine (List.Pairwise.and_mem.1 h.2).imp ?_
  rintro x y ⟨hx, hy, hxy⟩ he
  have h1 := (h.1 x hx).lo; have h2 := (h.1 y hy).lo
  omega
 have hs : ∀ y ∈ (l.map fun x => x.1.toNat), y < 32 := by
  intro y hy
  obtain ⟨x, hx, rfl⟩ := qy.1 hy
  have := (h.1 x hx).hi; have := (h.1 x hx).lo
  omega
 have := RW 32 _ hn hs
 simpa using this
structure Up (e : Jb) : Prop where
 km : Wd e.1 = true
 m4 : e.2.1.length ≤ 4
 hd : Zf e.2.2.2.1 = true
 mac : ∀ x ∈ e.2.1, Vd x = true
 hin : ∀ x ∈ e.2.2.2.1, Bl e.1.1 e.1.2.1.length x = true
 st : IV e.1.2.1.length e.2.2.1 e.2.2.2.2.1
theorem Al {α : Type} {p : α → Bool} {l : List α} : Ad (fun _ x => p x) 0 l = true ↔ ∀ x ∈ l, p x = true := by
 rw [Kk]
 constructor
 ·intro h x hx
  obtain ⟨i, hi, rfl⟩ := qx hx
  exact h i hi
 ·intro h j hj
  exact h _ (qv hj)
theorem OM (e : Jb) : Mj e = true ↔ Up e := by
 unfold Mj
 simp only [jd, decide_eq_true_eq, beq_iff_eq, Al]
 constructor
 ·rintro ⟨h1, h2, h3, h4, h5, h6, h7, h8⟩
  exact ⟨h1, h2, h3, h4, h5, ⟨h6.1, h6.2, h7, h8.1, h8.2⟩⟩
 ·rintro ⟨h1, h2, h3, h4, h5, h6⟩
  exact ⟨h1, h2, h3, h4, h5, ⟨h6.f0, h6.f1⟩, h6.f2, h6.o0, h6.o1⟩
theorem JT {e : Jb} (h : Up e) : Lc Pc e ≤ Ga - 5 := by
 have h20 : Ga = 1048576 := rfl
 have h1 := (Kam h.km).z
 have hh := Uz h.hd
 have h2 : Lc (.sl (.sl Td)) e.2.1 ≤ (8 + 1) * e.2.1.length := AU (e := .sl Td) (c := 8) fun x hx => by
  have := h.mac x hx
  simp only [Vd, jd, decide_eq_true_eq] at this
  have e2 : Lc (.sl Td) x = x.length := Cr (e := Td) rfl x
  omega
 have := h.m4
 have hm := Nj h.km
 have h3 : Lc Ec e.1 ≤ 200 := by
  have h1 : Lc Ec e.1 = 0 + (Lc (.sl (.sl Sc)) e.1.2.1 + 0) := rfl
  have h2 : Lc (.sl (.sl Sc)) e.1.2.1 ≤ (32 + 1) * ja e.1.2.1 := AU (e := .sl Sc) (c := 32) fun x hx => by
   obtain ⟨i, hi, rfl⟩ := qx hx
   rw [N0]
   have := hm.row i hi
   have := hm.k2
   omega
  have := hm.l2
  omega
 rw [Um, Im]
 omega
noncomputable def L9 (e : Jb) (k : Nat) (b : Bool) : Pa :=
 cond b (TM (Rj e.1.2.1 (Ji e.1 (Ik e.2.2.1 e.2.2.2.1) k) k)) (LN (Rj e.1.2.1 (Ji e.1 (Ik e.2.2.1 e.2.2.2.1) k) k))
noncomputable def Ep (e : Jb) (k : Nat) (b : Bool) : Int × Int × Bool × Pa := YJ e.2.2.1 e.2.2.2.2.1 e.2.2.2.2.2.1 (L9 e k b)
noncomputable def pH (e : Jb) (k : Nat) (b : Bool) : List Va := jf e.2.2.2.1 [((k : Int), (Ep e k b).2.2.2, ())]
noncomputable def pE (e : Jb) (k : Nat) (b : Bool) : Jb := (e.1, e.2.1, (Ep e k b).1, pH e k b, (Ep e k b).2.1, (Ep e k b).2.2.1, ())
noncomputable def pM (e : Jb) (k : Nat) (b : Bool) : List La :=
 cond ((Ep e k b).2.2.2.1 == 9) (cond (decide ((Ep e k b).2.2.2.2.2.2.1 < ((ja e.2.1 : Nat) : Int))) (VR (Uc (pH e k b)) (e.2.1.getD (Ep e k b).2.2.2.2.2.2.1.toNat [])) []) []
noncomputable def pR (e : Jb) (k : Nat) (b : Bool) : List La := Hw Zo (Uc e.2.2.2.1) (jf (pM e k b) [Uc (pH e k b)])
theorem Faq {nl i : Nat} {a : Pa} (h : Lg nl i a = true) (h1 : a.1 ≠ 1) : FV nl (TM a) := by
 have ha := CS h
 have hP := ha
 rw [Tb] at hP
 unfold Yb at hP
 unfold TM Jf
 rw [ha]
 by_cases h67 : a.1 = 6 ∨ a.1 = 7
 ·have e : (true && ((a.1 == 6) || (a.1 == 7))) = true := by rcases h67 with h | h <;> rw [h] <;> rfl
  rw [e]
  have hn := UT h (by omega)
  rcases h67 with h6 | h7
  ·rw [h6]
   refine ⟨?_, by show (2 : Int) ≠ 1; decide, by show (2 : Int) ≠ 6; decide, by show (2 : Int) ≠ 7; decide, fun _ => ?_⟩
   ·rw [Tb]
    exact .inr (.inl ⟨rfl, rfl, .inl rfl, .inr (by show 1 ≤ a.2.2.1 ∧ a.2.2.1 ≤ 15; omega), .inr (by show a.2.2.1 ≠ 0; omega)⟩)
   ·show (0 : Int) < (nl : Int)
    omega
  ·rw [h7]
   refine ⟨?_, by show (3 : Int) ≠ 1; decide, by show (3 : Int) ≠ 6; decide, by show (3 : Int) ≠ 7; decide, fun _ => hn⟩
   rw [Tb]
   exact .inr (.inr (.inl ⟨.inl rfl, rfl, rfl, by show 1 ≤ a.2.2.2.1; omega, by show a.2.2.2.1 ≤ 3; omega⟩))
 ·have e : (true && ((a.1 == 6) || (a.1 == 7))) = false := by
   rw [jk, Bool.or_eq_false_iff, beq_eq_false_iff_ne, beq_eq_false_iff_ne]; omega
  rw [e]
  exact ⟨ha, h1, fun h => h67 (.inl h), fun h => h67 (.inr h), fun hk => UT h hk⟩
structure Uai (e : Jb) (k : Nat) (b : Bool) : Prop where
 act : FV e.1.2.1.length (L9 e k b)
 ah : FV e.1.2.1.length (Ep e k b).2.2.2
 hd : Zf (pH e k b) = true
 ok : Up (pE e k b)
 ml : (pM e k b).length ≤ 16
 mx : ∀ x ∈ pM e k b, x.2.1.length ≤ 56
theorem Uad {e : Jb} (h : Up e) {k : Nat} (hk : (k : Int) < e.1.1) (hn : ∀ y ∈ e.2.2.2.1, y.1 ≠ (k : Int)) (b : Bool) : Uai e k b := by
 have hm := Nj h.km
 have h1 := Gam hm (Ik e.2.2.1 e.2.2.2.1) hk
 have h2 : FV e.1.2.1.length (L9 e k b) := by
  cases b
  ·exact Iay h1.1 h1.2
  ·exact Faq h1.1 h1.2
 have h3 := YaD (c := e.2.2.2.2.2.1) hm.l2 h.st h2
 have h4 : Zf (pH e k b) = true := Jak h.hd (x := ((k : Int), (Ep e k b).2.2.2, ())) ⟨by show (0 : Int) ≤ (k : Int); omega, by have := hm.k2; show (k : Int) ≤ 31; omega, h3.2.act, h3.2.n1, h3.2.n6, h3.2.n7⟩ hn
 refine ⟨h2, h3.2, h4, ⟨h.km, h.m4, h4, h.mac, fun x hx => ?_, h3.1⟩, ?_, ?_⟩
 ·rcases jl.1 (show x ∈ e.2.2.2.1 ++ [((k : Int), (Ep e k b).2.2.2, ())] from hx) with hx | hx
  ·exact h.hin x hx
  ·simp only [jp, List.not_mem_nil, or_false] at hx
   subst hx
   simp only [Bl, jd, Bool.not_eq_true', Bool.and_eq_false_iff, decide_eq_false_iff_not]
   refine ⟨by show ¬ (k : Int) ≥ e.1.1; omega, ?_⟩
   by_cases h9 : (Ep e k b).2.2.2.1 = 9
   ·exact .inl (by show ((Ep e k b).2.2.2.1 != 9) = false; simp [h9])
   ·exact .inr (Int.not_le.2 (h3.2.n h9))
 all_goals
  unfold pM
  cases (Ep e k b).2.2.2.1 == 9 with
  | false => simp
  | true =>
   simp only [cond_true]
   by_cases hl : (Ep e k b).2.2.2.2.2.2.1 < ((ja e.2.1 : Nat) : Int)
   ·rw [Aa hl]
    have h0 := XN h3.2.act
    have hmem : (e.2.1.getD (Ep e k b).2.2.2.2.2.2.1.toNat []) ∈ e.2.1 := by
     have hlt : (Ep e k b).2.2.2.2.2.2.1.toNat < e.2.1.length := by
      have : (0 : Int) ≤ (Ep e k b).2.2.2.2.2.2.1 := h0
      omega
     rw [qm, je hlt, Option.getD_some]
     exact qv hlt
    have hmc := h.mac _ hmem
    simp only [Vd, jd, decide_eq_true_eq] at hmc
    have := B9 (Uc (pH e k b)) (e.2.1.getD (Ep e k b).2.2.2.2.2.2.1.toNat []) 0 ([], []) (by simp)
    simp only [cond_true]
    unfold VR
    first
     | exact this.2
     | (have h5 := this.1; simp only [qb] at h5; omega)
   ·rw [Ca hl]; simp
theorem Zah {β : Type} (MR : List Va → List Xb → Option ((List La) × Unit)) (RO : List Va → Option (La × Unit)) (CH : La → List La → Option ((List La) × Unit)) (K : List La → Option β)
 (hMR : ∀ a l, a.length ≤ Ga → Zf a = true → Vd l = true → MR a l = some (VR (Uc a) l, ()))
 (hRO : ∀ l, l.length ≤ Ga → Zf l = true → RO l = some (Uc l, ()))
 (hCH : ∀ (a : La) (l : List La), l.length ≤ Ga → a.2.1.length ≤ Ga → (∀ x ∈ l, x.2.1.length ≤ Ga) → CH a l = some (Hw Zo a l, ()))
 {e : Jb} (h : Up e) {k : Nat} {b : Bool} (F : Uai e k b) :
 (cond (jx (ja e.2.2.2.1 + ja ([((k : Int), (Ep e k b).2.2.2, ())] : List Va)) Bb)
  (cond ((Ep e k b).2.2.2.1 == (9 : Int))
   (cond (decide ((Ep e k b).2.2.2.2.2.2.1 < ((ja e.2.1 : Nat) : Int)))
    (jz (Cc e.2.1 (Ep e k b).2.2.2.2.2.2.1) fun x8 => jz (MR (pH e k b) x8) fun r9 => jz (RO (pH e k b)) fun r10 =>
     cond (jx (ja r9.1 + ja ([r10.1] : List La)) Bb) (jz (RO e.2.2.2.1) fun r11 => jz (CH r11.1 (jf r9.1 ([r10.1] : List La))) fun r12 => K r12.1) none)
    (jz (RO (pH e k b)) fun r13 => cond (jx (ja ([] : List La) + ja ([r13.1] : List La)) Bb)
     (jz (RO e.2.2.2.1) fun r14 => jz (CH r14.1 (jf ([] : List La) ([r13.1] : List La))) fun r15 => K r15.1) none))
   (jz (RO (pH e k b)) fun r16 => cond (jx (ja ([] : List La) + ja ([r16.1] : List La)) Bb)
    (jz (RO e.2.2.2.1) fun r17 => jz (CH r17.1 (jf ([] : List La) ([r16.1] : List La))) fun r18 => K r18.1) none))
  none) = K (pR e k b) := by
 have h20 : Ga = 1048576 := rfl
 have hlim := Kg
 have hl1 := Uz h.hd
 have hl2 := Uz F.hd
 have R1 := hRO (pH e k b) (by omega) F.hd
 have R0 := hRO e.2.2.2.1 (by omega) h.hd
 have hr : ∀ r : La, jx (ja ([] : List La) + ja ([r] : List La)) Bb = true := fun r => ji (by simp only [jw, qb]; omega)
 rw [show jx (ja e.2.2.2.1 + ja ([((k : Int), (Ep e k b).2.2.2, ())] : List Va)) Bb = true from ji (by simp only [jw, qb]; omega)]
 have plain : pM e k b = [] → (jz (RO (pH e k b)) fun r13 => cond (jx (ja ([] : List La) + ja ([r13.1] : List La)) Bb)
  (jz (RO e.2.2.2.1) fun r14 => jz (CH r14.1 (jf ([] : List La) ([r13.1] : List La))) fun r15 => K r15.1) none) = K (pR e k b) := by
  intro hm
  rw [R1, R0]
  simp only [jb]
  rw [hr, hCH _ _ (by simp; omega) (VT _) (fun x hx => by rw [qh.1 (show x ∈ [Uc (pH e k b)] from hx)]; exact VT _)]
  simp only [cond_true, jb]
  unfold pR
  rw [hm]
 simp only [cond_true]
 cases h9 : (Ep e k b).2.2.2.1 == (9 : Int) with
 | false => exact plain (by unfold pM; rw [h9]; rfl)
 | true =>
  simp only [cond_true]
  by_cases hl : (Ep e k b).2.2.2.2.2.2.1 < ((ja e.2.1 : Nat) : Int)
  ·rw [Aa hl]
   simp only [cond_true]
   have h0 : (0 : Int) ≤ (Ep e k b).2.2.2.2.2.2.1 := XN F.ah.act
   have hlt : (Ep e k b).2.2.2.2.2.2.1.toNat < e.2.1.length := by omega
   have hi : Cc e.2.1 (Ep e k b).2.2.2.2.2.2.1 = some e.2.1[(Ep e k b).2.2.2.2.2.2.1.toNat] := by
    have := Wb (xs := e.2.1) hlt
    rw [Int.toNat_of_nonneg h0] at this
    exact this
   have hM : pM e k b = VR (Uc (pH e k b)) e.2.1[(Ep e k b).2.2.2.2.2.2.1.toNat] := by
    unfold pM
    rw [h9, Aa hl, qm, je hlt, Option.getD_some]
    rfl
   have ml := F.ml
   have mx := F.mx
   rw [hi]
   simp only [jb]
   rw [hMR _ _ (by omega) F.hd (h.mac _ (qv hlt)), R1, R0, ← hM]
   simp only [jb]
   rw [show jx (ja (pM e k b) + ja ([Uc (pH e k b)] : List La)) Bb = true from ji (by simp only [jw, qb]; omega)]
   simp only [cond_true]
   rw [hCH _ _ (by show (pM e k b ++ [Uc (pH e k b)]).length ≤ _; simp; omega) (VT _) (fun x hx => by
    rcases jl.1 (show x ∈ pM e k b ++ [Uc (pH e k b)] from hx) with hx | hx
    ·have := mx x hx; omega
    ·rw [qh.1 hx]; exact VT _)]
   rfl
  ·rw [Ca hl]
   exact plain (by unfold pM; rw [h9, Ca hl]; rfl)
theorem T1 {e : Jb} (h : Up e) {k : Nat} (hk : (k : Int) < e.1.1) (hn : ∀ y ∈ e.2.2.2.1, y.1 ≠ (k : Int)) (b : Bool) :
 Ti e (k : Int) b = some (pE e k b, pR e k b, ()) := by
 have h20 : Ga = 1048576 := rfl
 have hm := Nj h.km
 have F := Uad h hk hn b
 have hz := JT h
 have hle := Uz h.hd
 have hl := TR hm (Ik e.2.2.1 e.2.2.2.1) k
 have hrow := hm.row _ hl
 have tail := Zah Fk Ud Ye (fun r => some (pE e k b, r, ())) SO Hu TK h F
 unfold Ti
 rw [Wl _ (by omega), VM (OaB hm.l2 h.st) _ (by omega) h.hd]
 simp only [jb]
 rw [BL hm _ hk]
 simp only [jb]
 show jz (Cc e.1.2.1 ((Ji e.1 (Ik e.2.2.1 e.2.2.2.1) k : Nat) : Int)) _ = _
 rw [Haq hl (by omega)]
 cases b with
 | true =>
  simp only [cond_true]
  rw [O1]
  simp only [jb]
  show jz (Tq (e.1, e.2.1, e.2.2.1, e.2.2.2.1, e.2.2.2.2.1, e.2.2.2.2.2.1, ()) (L9 e k true)) _ = _
  rw [ZM _ _ _ _ _ _ _ F.act.act]
  simp only [jb]
  exact tail
 | false =>
  simp only [cond_false]
  rw [E5]
  simp only [jb]
  show jz (Tq (e.1, e.2.1, e.2.2.1, e.2.2.2.1, e.2.2.2.2.1, e.2.2.2.2.2.1, ()) (L9 e k false)) _ = _
  rw [ZM _ _ _ _ _ _ _ F.act.act]
  simp only [jb]
  exact tail
theorem Fah {l : List Va} {k : Int} : Cd (fun h : Va => h.1 == k) 0 l = -1 ↔ ∀ y ∈ l, y.1 ≠ k := by
 have key : ∀ (l : List Va) (n : Nat), Cd (fun h : Va => h.1 == k) n l = -1 ↔ ∀ y ∈ l, y.1 ≠ k := by
  intro l
  induction l with
  | nil => intro n; simp [Cd]
  | cons x l ih =>
   intro n
   simp only [Cd]
   cases hx : x.1 == k with
   | true =>
    simp only [cond_true, jp, forall_eq_or_imp]
    have hx := eq_of_beq hx
    constructor
    ·intro h; omega
    ·intro h; exact absurd hx h.1
   | false =>
    simp only [cond_false, jp, forall_eq_or_imp]
    rw [ih]
    exact ⟨fun h => ⟨beq_eq_false_iff_ne.1 hx, h⟩, fun h => h.2⟩
 exact key l 0
def wo (l : List Va) (i : Nat) : List Va := jf (l.take i) (l.drop (i + 1))
theorem Aaa (l : List Va) (i : Nat) : (wo l i).Sublist l := by
 have h : (l.drop (i + 1)).Sublist (l.drop i) := List.drop_sublist_drop_left l (Nat.le_succ i)
 have h2 := List.Sublist.append (List.Sublist.refl (l.take i)) h
 rw [List.take_append_drop] at h2
 exact h2
def rE (e : Jb) (i : Nat) : Jb := (e.1, e.2.1, e.2.2.1, wo e.2.2.2.1 i, e.2.2.2.2)
def rR (e : Jb) (i : Nat) : List La := Hw Zo (Uc e.2.2.2.1) [Uc (wo e.2.2.2.1 i)]
theorem FaI {e : Jb} (h : Up e) (i : Nat) : Up (rE e i) :=
 ⟨h.km, h.m4, L8 h.hd (Aaa _ i), h.mac, fun x hx => h.hin x ((Aaa _ i).subset hx), h.st⟩
theorem JaB {α : Type} (l : List α) (i : Nat) : Qb l (jy (0 : Int)) (jy (i : Int)) = l.take i := by
 simp [Qb]
theorem IaB {α : Type} (l : List α) (i : Nat) : Qb l (jy ((i + 1 : Nat) : Int)) (jy ((ja l : Nat) : Int)) = l.drop (i + 1) := by
 simp [Qb]
theorem MW {e : Jb} (h : Up e) {k : Int} {i : Nat} (hi : i < e.2.2.2.1.length) (hf : Cd (fun h : Va => h.1 == k) 0 e.2.2.2.1 = (i : Int)) :
 Qy e k = some (rE e i, rR e i, ()) := by
 have h20 : Ga = 1048576 := rfl
 have hlim := Kg
 have hz := JT h
 have hle := Uz h.hd
 have hw := L8 h.hd (Aaa e.2.2.2.1 i)
 have hwl := Uz hw
 unfold Qy
 rw [Wl _ (by omega), N1 _ _ (by omega), hf]
 simp only [jb]
 rw [Ig (by omega)]
 rw [JaB, IaB]
 rw [show Af (ja e.2.2.2.1) (0 : Int) ((i : Nat) : Int) = true from Nt (lo := 0) (by omega) (by omega), Nt (by omega) (by omega)]
 rw [show jx (ja (e.2.2.2.1.take i) + ja (e.2.2.2.1.drop (i + 1))) Bb = true from ji (by simp; omega)]
 simp only [cond_true]
 rw [Hu _ (by omega) h.hd]
 simp only [jb]
 show jz (Ud (wo e.2.2.2.1 i)) _ = _
 rw [Hu _ (by omega) hw]
 simp only [jb]
 rw [TK _ _ (by simp; omega) (VT _) (fun x hx => by rw [qh.1 hx]; exact VT _)]
 rfl
def GJ (md key e : Int) (s : Int) (x : Ba) : Int ⊕ (Int × Int) :=
 cond (Uf x) (cond (decide (x.1 ≥ e)) (.inr (2, e)) (cond (x.2.1 == key) (cond x.2.2.1 (.inl s) (.inr (1, x.1)))
  (cond x.2.2.1 (cond (md == 1) (.inr (2, x.1)) (.inl (Tc .i64 s (Ra .i64 1 x.2.1))))
   (cond (md == 2) (cond (Rd s x.2.1 == 1) (.inr (2, x.1)) (.inl s)) (.inl s))))) (.inr (0, 0))
def chR (md key e : Int) (l : List Ba) : Int ⊕ (Int × Int) := Sa (fun _ s x => GJ md key e s x) 0 0 l
def Ed (t : Mp) (key at_ : Int) (l : List Ba) (til : Int) : Ja :=
 cond (Se t && decide (0 ≤ at_ ∧ at_ ≤ 1000000)) (match chR t.2.2.1 key (j9 .i64 (at_ + t.1)) l with
  | .inl _ => cond (decide (til ≥ j9 .i64 (at_ + t.1))) (2, j9 .i64 (at_ + t.1), ()) (0, 0, ())
  | .inr r => (r.1, r.2, ())) (0, 0, ())
theorem HW (t : Mp) (key at_ : Int) (l : List Ba) (til : Int) (hn : l.length ≤ Ga) : Mv t key at_ l til = some (Ed t key at_ l til) := by
 have h20 : Ga = 1048576 := rfl
 have hl := Ag (step := fun x => Kr x.1.1 x.1.2.1 x.1.2.2.1 x.1.2.2.2.1 x.1.2.2.2.2.1 x.1.2.2.2.2.2.1 x.1.2.2.2.2.2.2.1 x.1.2.2.2.2.2.2.2.1 x.2.1) l
  (fun _ s x => GJ t.2.2.1 key (j9 .i64 (at_ + t.1)) s x) (fun s i => ((key, at_, til, (), s, l, ((ja l : Nat) : Int), i, ()), (t, ())))
  (fun s => .inl ((at_, til, (), ()), (t, ()))) (fun r => .inr ((r.1, r.2, ()), ())) (fun _ _ => True) (by
   intro k hk s _
   refine ⟨?_, fun _ _ => trivial⟩
   simp only [Kr]
   rw [Aa (show (k : Int) < ((ja l : Nat) : Int) by omega), Wb hk]
   simp only [cond_true, jb]
   rw [UD]
   unfold GJ
   cases he : Uf l[k] with
   | false => rfl
   | true =>
    have hk' := Ul he
    rw [Aa hk'.2.2.1, Nl s hk'.2.2.1]
    simp only [cond_true, jb, jg, cond_false]
    cases decide (l[k].1 ≥ j9 .i64 (at_ + t.1)) <;> cases l[k].2.1 == key <;> cases l[k].2.2.1 <;> cases t.2.2.1 == 1 <;> cases t.2.2.1 == 2 <;> cases Rd s l[k].2.1 == 1 <;> rfl) (by
   intro s _
   simp only [Kr]
   rw [Ca (by omega)]; rfl) (by omega) 0 trivial
 unfold Mv Au Ed
 rw [AI]
 simp only [jb]
 cases Se t with
 | false => rfl
 | true =>
  by_cases h1 : at_ < 0
  ·rw [Aa h1, Ca (show ¬ (0 ≤ at_ ∧ at_ ≤ 1000000) by omega)]; rfl
  ·by_cases h2 : at_ > 1000000
   ·rw [Ca h1, Aa h2, Ca (show ¬ (0 ≤ at_ ∧ at_ ≤ 1000000) by omega)]; rfl
   ·rw [Ca h1, Ca h2, Aa (show (0 ≤ at_ ∧ at_ ≤ 1000000) by omega)]
    simp only [jg, cond_false]
    erw [hl]
    unfold chR
    cases Sa (fun _ s x => GJ t.2.2.1 key (j9 .i64 (at_ + t.1)) s x) 0 0 l with
    | inl s =>
     simp only [jb, qn]
     cases decide (til ≥ j9 .i64 (at_ + t.1)) <;> rfl
    | inr r => rfl
def Co (l : List Va) (j : Nat) : Bool := l.any (fun h => h.1 == (j : Int))
structure Rm (l : List Va) (m : Nat) : Prop where
 lt : m < 2 ^ 63
 bit : ∀ j, m.testBit j = Co l j
theorem Nad : ∀ (l : List Va) (k : Nat) (s : Nat), s < 2 ^ 63 → (∀ x ∈ l, Fv x) →
 ∃ m : Nat, Dd (fun _ s (x : Va) => Tc .i64 s (Ra .i64 1 x.1)) k (s : Int) l = (m : Int) ∧ m < 2 ^ 63 ∧ ∀ j, m.testBit j = (s.testBit j || Co l j)
 | [], _, s, hs, _ => ⟨s, rfl, hs, fun j => by simp [Co]⟩
 | x :: l, k, s, hs, h => by
  have hx := h x (by simp)
  obtain ⟨n, hn⟩ := jv hx.lo
  have := hx.hi
  simp only [Dd]
  rw [hn, Qf (by omega), Hk hs (Gf (by omega))]
  obtain ⟨m, h1, h2, h3⟩ := Nad l (k + 1) _ (Nat.or_lt_two_pow hs (Gf (show n ≤ 62 by omega))) (fun y hy => h y (by simp [hy]))
  refine ⟨m, h1, h2, fun j => ?_⟩
  rw [h3, Nat.testBit_or, qr]
  simp only [Co, List.any_cons, hn]
  rw [show (((n : Nat) : Int) == ((j : Nat) : Int)) = decide (n = j) by rw [q7]; simp [Int.ofNat_inj]]
  rw [Bool.or_assoc]
theorem RT {l : List Va} (h : Zf l = true) : ∃ m : Nat, Yo l = (m : Int) ∧ Rm l m := by
 obtain ⟨m, h1, h2, h3⟩ := Nad l 0 0 (by decide) (Pt h)
 exact ⟨m, h1, h2, fun j => by rw [h3]; simp⟩
theorem DP {l : List Va} {m k : Nat} (h : Rm l m) (hk : k ≤ 62) (hb : Co l k = false) (a : Pa) : Rm (jf l [((k : Int), a, ())]) (m ^^^ 2 ^ k) := by
 refine ⟨qu h.lt (Gf hk), fun j => ?_⟩
 rw [qq, qr, h.bit]
 show _ = Co (l ++ [((k : Int), a, ())]) j
 simp only [Co, List.any_append, List.any_cons, List.any_nil, Bool.or_false]
 rw [show (((k : Nat) : Int) == ((j : Nat) : Int)) = decide (k = j) by rw [q7]; simp [Int.ofNat_inj]]
 by_cases hj : k = j
 ·subst hj
  simp only [Co] at hb
  rw [hb, Aa rfl]; rfl
 ·rw [Ca hj]; simp
theorem GaE {l : List Va} (hp : l.Pairwise (fun x y => x.1 ≠ y.1)) {i : Nat} (hi : i < l.length) (j : Int) : (wo l i).any (fun h => h.1 == j) = (l.any (fun h => h.1 == j) && !(l[i].1 == j)) := by
 rw [q7]
 simp only [List.any_eq_true, jd, Bool.not_eq_true', beq_iff_eq, beq_eq_false_iff_ne, wo]
 rw [List.pairwise_iff_getElem] at hp
 constructor
 ·rintro ⟨x, hx, hj⟩
  rcases jl.1 (show x ∈ l.take i ++ l.drop (i + 1) from hx) with hx | hx
  ·obtain ⟨n, hn, rfl⟩ := qx hx
   rw [List.getElem_take] at hj
   have hn2 : n < i ∧ n < l.length := by rw [q0] at hn; omega
   exact ⟨⟨_, qv hn2.2, hj⟩, fun h => hp n i hn2.2 hi hn2.1 (hj.trans h.symm)⟩
  ·obtain ⟨n, hn, rfl⟩ := qx hx
   rw [List.getElem_drop] at hj
   have hn2 : i + 1 + n < l.length := by rw [qz] at hn; omega
   exact ⟨⟨_, qv hn2, hj⟩, fun h => hp i (i + 1 + n) hi hn2 (by omega) (h.trans hj.symm)⟩
 ·rintro ⟨⟨x, hx, hj⟩, hne⟩
  obtain ⟨n, hn, rfl⟩ := qx hx
  refine ⟨l[n], jl.2 ?_, hj⟩
  rcases Nat.lt_trichotomy n i with h | h | h
  ·exact .inl (List.mem_take_iff_getElem.2 ⟨n, by omega, rfl⟩)
  ·subst h; exact absurd hj hne
  ·exact .inr (List.mem_drop_iff_getElem.2 ⟨n - (i + 1), by omega, by congr 1; omega⟩)
theorem TJ {l : List Va} (hp : l.Pairwise (fun x y => x.1 ≠ y.1)) {m k i : Nat} (h : Rm l m) (hk : k ≤ 62) (hi : i < l.length) (hb : l[i].1 = (k : Int)) : Rm (wo l i) (m ^^^ 2 ^ k) := by
 refine ⟨qu h.lt (Gf hk), fun j => ?_⟩
 rw [qq, qr, h.bit]
 simp only [Co]
 rw [GaE hp hi, hb]
 rw [show (((k : Nat) : Int) == ((j : Nat) : Int)) = decide (k = j) by rw [q7]; simp [Int.ofNat_inj]]
 by_cases hj : k = j
 ·subst hj
  rw [Aa rfl]
  have : l.any (fun h => h.1 == (k : Int)) = true := List.any_eq_true.2 ⟨l[i], qv hi, by rw [hb]; simp⟩
  rw [this]; rfl
 ·rw [Ca hj]; simp
theorem Aw {α S R : Type} (g : S → α → S ⊕ R) : ∀ (l : List α) (k j : Nat) (s : S), Sa (fun _ s x => g s x) k s l = Sa (fun _ s x => g s x) j s l
 | [], _, _, _ => rfl
 | x :: l, k, j, s => by
  simp only [Sa]
  cases g s x with
  | inl s' => exact Aw g l (k + 1) (j + 1) s'
  | inr r => rfl
structure QN (d : Xa) : Prop where
 eng : Up d.1
 len : d.2.2.1.length ≤ 64
 key : ∀ x ∈ d.2.2.1, x.2.1 < d.1.1.1
 fol : ∃ (m : Nat) (t : Int), Rm d.1.2.2.2.1 m ∧ Ok (Sa (fun _ s x => Oq s x) 0 (t, (m : Int)) d.2.2.1) = true
def S3 (e : Jb) (k : Int) : Nat := (Cd (fun h : Va => h.1 == k) 0 e.2.2.2.1).toNat
noncomputable def Mg (d : Xa) (x : Ba) (r : List Ba) : Option (Xa × List La) :=
 cond (!x.2.2.1)
  (some ((rE d.1 (S3 d.1 x.2.1), d.2.1, r, d.2.2.2.1, max d.2.2.2.2.1 x.1, d.2.2.2.2.2.1, cond (d.2.2.2.2.2.1 == j9 .i64 (x.2.1 + 1)) x.1 d.2.2.2.2.2.2.1, ()), rR d.1 (S3 d.1 x.2.1)))
  (cond (Jf (Rj d.1.1.2.1 (Ji d.1.1 (Ik d.1.2.2.1 d.1.2.2.2.1) x.2.1.toNat) x.2.1.toNat))
   (
    let ch : Int × Int := cond ((d.2.2.2.2.2.1 == j9 .i64 (x.2.1 + 1)) && !decide (j9 .i64 (x.1 - d.2.2.2.2.2.2.1) ≥ d.2.1.2.1)) (1, x.1) ((Ed d.2.1 x.2.1 x.1 r d.2.2.2.1).1, (Ed d.2.1 x.2.1 x.1 r d.2.2.2.1).2.1)
    cond (ch.1 == 0) none
     (some ((pE d.1 x.2.1.toNat (ch.1 == 2), d.2.1, r, d.2.2.2.1, max (max d.2.2.2.2.1 x.1) ch.2, cond (ch.1 == 2) 0 (j9 .i64 (x.2.1 + 1)), cond (ch.1 == 2) d.2.2.2.2.2.2.1 x.1, ()), pR d.1 x.2.1.toNat (ch.1 == 2))))
   (some ((pE d.1 x.2.1.toNat false, d.2.1, r, d.2.2.2.1, max d.2.2.2.2.1 x.1, d.2.2.2.2.2.1, d.2.2.2.2.2.2.1, ()), pR d.1 x.2.1.toNat false)))
structure Sau (d : Xa) (x : Ba) (r : List Ba) : Prop where
 ev : Uf x = true
 key : x.2.1 < d.1.1.1
 up : x.2.2.1 = false → ∃ hi : S3 d.1 x.2.1 < d.1.2.2.2.1.length, Cd (fun h : Va => h.1 == x.2.1) 0 d.1.2.2.2.1 = ((S3 d.1 x.2.1 : Nat) : Int) ∧ (d.1.2.2.2.1[S3 d.1 x.2.1]'hi).1 = x.2.1
 down : x.2.2.1 = true → ∀ y ∈ d.1.2.2.2.1, y.1 ≠ x.2.1
theorem GR {α : Type} (p : α → Bool) : ∀ (xs : List α) (k j : Nat), j < xs.length → Cd p k xs = ((k + j : Nat) : Int) → ∃ h : j < xs.length, p xs[j] = true
 | [], _, _, hj, _ => absurd hj (by simp)
 | x :: xs, k, j, hj, h => by
  simp only [Cd] at h
  cases hx : p x with
  | true =>
   rw [hx] at h
   simp only [cond_true] at h
   have : j = 0 := by omega
   subst this
   exact ⟨hj, hx⟩
  | false =>
   rw [hx] at h
   simp only [cond_false] at h
   cases j with
   | zero =>
    rcases Dy p xs (k + 1) with h1 | ⟨i, _, h1⟩ <;> (rw [h1] at h; omega)
   | succ j =>
    have hj' : j < xs.length := by simp at hj; omega
    obtain ⟨_, h2⟩ := GR p xs (k + 1) j hj' (by rw [h]; omega)
    exact ⟨hj, h2⟩
theorem KO {d : Xa} {x : Ba} {r : List Ba} (h : QN d) (hq : d.2.2.1 = x :: r) : Sau d x r := by
 obtain ⟨m, t, hm, hf⟩ := h.fol
 rw [hq] at hf
 simp only [Sa, Oq] at hf
 cases ho : Gj (t, (m : Int)) x with
 | false => rw [ho] at hf; exact absurd hf (by simp [Ok])
 | true =>
  simp only [Gj, jd] at ho
  obtain ⟨h1, h2, h3⟩ := ho
  have hk := Ul h1
  obtain ⟨n, hn⟩ := jv hk.2.2.1
  have hn' : x.2.1 = (n : Int) := hn
  rw [hn', Kj hm.lt (by omega), hm.bit] at h3
  refine ⟨h1, h.key x (by rw [hq]; simp), fun hu => ?_, fun hd => ?_⟩
  ·rw [hu] at h3
   have h4 : Co d.1.2.2.2.1 n = true := by
    cases hh : Co d.1.2.2.2.1 n with
    | true => rfl
    | false => rw [hh] at h3; exact absurd h3 (by decide)
   rcases Dy (fun h : Va => h.1 == x.2.1) d.1.2.2.2.1 0 with h5 | ⟨j, hj, h5⟩
   ·rw [Fah] at h5
    simp only [Co, List.any_eq_true, beq_iff_eq] at h4
    obtain ⟨y, hy, hyk⟩ := h4
    exact absurd (hyk.trans hn'.symm) (h5 y hy)
   ·have e : S3 d.1 x.2.1 = j := by unfold S3; rw [h5]; omega
    obtain ⟨h6, h7⟩ := GR _ _ _ _ hj h5
    have h7' := eq_of_beq h7
    refine ⟨by omega, by rw [h5, e]; omega, ?_⟩
    simp only [e]
    exact h7'
  ·rw [hd] at h3
   intro y hy he
   have : Co d.1.2.2.2.1 n = true := List.any_eq_true.2 ⟨y, hy, by rw [he, hn']; simp⟩
   rw [this] at h3
   exact absurd h3 (by decide)
theorem B2 {d d' : Xa} {x : Ba} {r : List Ba} {l : List La} (h : QN d) (hq : d.2.2.1 = x :: r) (hs : Mg d x r = some (d', l)) :
 QN d' ∧ d'.2.2.1 = r ∧ l.length ≤ 17 ∧ (∀ y ∈ l, y.2.1.length ≤ 56) := by
 have hF := KO h hq
 have hk := Ul hF.ev
 obtain ⟨n, hn⟩ := jv hk.2.2.1
 have hn' : x.2.1 = (n : Int) := hn
 obtain ⟨m, t, hm, hf⟩ := h.fol
 have hfol : Ok (Sa (fun _ s x => Oq s x) 0 (x.1, ((m ^^^ 2 ^ n : Nat) : Int)) r) = true := by
  rw [hq] at hf
  simp only [Sa, Oq] at hf
  cases ho : Gj (t, (m : Int)) x with
  | false => rw [ho] at hf; exact absurd hf (by simp [Ok])
  | true =>
   rw [ho] at hf
   simp only [cond_true, hn', Qf (show n ≤ 62 by omega)] at hf
   rw [Mo hm.lt (Gf (by omega))] at hf
   rw [Aw Oq r 0 1]
   exact hf
 have hlen : r.length ≤ 64 := by have := h.len; rw [hq] at this; simp at this; omega
 have hkey : ∀ y ∈ r, y.2.1 < d.1.1.1 := fun y hy => h.key y (by rw [hq]; simp [hy])
 have hp := ((QC d.1.2.2.2.1).1 h.eng.hd).2
 have press : ∀ b : Bool, x.2.2.1 = true → Up (pE d.1 n b) ∧ Rm (pE d.1 n b).2.2.2.1 (m ^^^ 2 ^ n) ∧ (pR d.1 n b).length ≤ 17 ∧ (∀ y ∈ pR d.1 n b, y.2.1.length ≤ 56) := by
  intro b hd
  have hn2 := hF.down hd
  rw [hn'] at hn2
  have F := Uad h.eng (k := n) (by have := hF.key; omega) hn2 b
  refine ⟨F.ok, DP hm (by omega) ?_ _, ?_, fun y hy => ?_⟩
  ·cases hh : Co d.1.2.2.2.1 n with
   | false => rfl
   | true =>
    simp only [Co, List.any_eq_true, beq_iff_eq] at hh
    obtain ⟨y, hy, hyk⟩ := hh
    exact absurd hyk (hn2 y hy)
  ·have := TV (jf (pM d.1 n b) [Uc (pH d.1 n b)]) (Uc d.1.2.2.2.1)
   have h9 := F.ml
   unfold pR
   have : (jf (pM d.1 n b) [Uc (pH d.1 n b)]).length = (pM d.1 n b).length + 1 := by simp
   omega
  ·have := EO _ _ _ hy
   rcases jl.1 (show y ∈ pM d.1 n b ++ [Uc (pH d.1 n b)] from this) with h1 | h1
   ·exact F.mx y h1
   ·rw [qh.1 h1]; exact OI _
 unfold Mg at hs
 cases hd : x.2.2.1 with
 | false =>
  rw [hd] at hs
  simp only [qd, cond_true, jc, jh] at hs
  obtain ⟨rfl, rfl⟩ := hs
  obtain ⟨hi, hi1, hi2⟩ := hF.up hd
  refine ⟨⟨FaI h.eng _, hlen, hkey, _, _, TJ hp hm (by omega) hi (by rw [hi2, hn']), hfol⟩, rfl, ?_, fun y hy => ?_⟩
  ·have := TV [Uc (wo d.1.2.2.2.1 (S3 d.1 x.2.1))] (Uc d.1.2.2.2.1)
   unfold rR
   simp only [jw, qb] at this
   omega
  ·have := EO _ _ _ hy
   rw [qh.1 this]; exact OI _
 | true =>
  rw [hd] at hs
  simp only [jg, cond_false, hn', jn] at hs
  cases ht : Jf (Rj d.1.1.2.1 (Ji d.1.1 (Ik d.1.2.2.1 d.1.2.2.2.1) n) n) with
  | false =>
   rw [ht] at hs
   simp only [cond_false, jc, jh] at hs
   obtain ⟨rfl, rfl⟩ := hs
   have P := press false hd
   exact ⟨⟨P.1, hlen, hkey, _, _, P.2.1, hfol⟩, rfl, P.2.2⟩
  | true =>
   rw [ht] at hs
   simp only [cond_true] at hs
   revert hs
   generalize (cond ((d.2.2.2.2.2.1 == j9 .i64 ((n : Int) + 1)) && !decide (j9 .i64 (x.1 - d.2.2.2.2.2.2.1) ≥ d.2.1.2.1)) ((1 : Int), x.1) ((Ed d.2.1 (n : Int) x.1 r d.2.2.2.1).1, (Ed d.2.1 (n : Int) x.1 r d.2.2.2.1).2.1)) = ch
   intro hs
   cases h0 : ch.1 == 0 with
   | true => rw [h0] at hs; simp at hs
   | false =>
    rw [h0] at hs
    simp only [cond_false, jc, jh] at hs
    obtain ⟨rfl, rfl⟩ := hs
    have P := press (ch.1 == 2) hd
    exact ⟨⟨P.1, hlen, hkey, _, _, P.2.1, hfol⟩, rfl, P.2.2⟩
theorem GW {m : Hb} (hz : Lc Ec m ≤ Ga) (hv : Wd m = true) (on : Int) {k : Nat} (hk : (k : Int) < m.1) :
 VB m on (k : Int) = some (Rj m.2.1 (Ji m on k) k, ()) := by
 have hm := Nj hv
 have hl := TR hm on k
 have hrow := hm.row _ hl
 unfold VB OJ
 rw [NJ _ hz, hv, Ca (show ¬ (k : Int) < 0 by omega), Ca (show ¬ (k : Int) ≥ m.1 by omega), BL hm _ hk]
 simp only [jb, jg, cond_false]
 rw [Ca (by omega)]
 simp only [cond_false]
 show (jz (Cc m.2.1 ((Ji m on k : Nat) : Int)) _) = _
 rw [Haq hl (by omega)]
theorem Tag (t : Mp) (key at_ : Int) (l : List Ba) (til : Int) : (Ed t key at_ l til).1 = 0 ∨ (Ed t key at_ l til).1 = 1 ∨ (Ed t key at_ l til).1 = 2 := by
 have key2 : ∀ (md k' e : Int) (l : List Ba) (k : Nat) (s : Int) (r : Int × Int), Sa (fun _ s x => GJ md k' e s x) k s l = .inr r → r.1 = 0 ∨ r.1 = 1 ∨ r.1 = 2 := by
  intro md k' e l
  induction l with
  | nil => intro k s r h; simp [Sa] at h
  | cons x l ih =>
   intro k s r h
   simp only [Sa] at h
   revert h
   cases hg : GJ md k' e s x with
   | inl s' => intro h; exact ih _ _ _ h
   | inr r' =>
    intro h
    simp only [Sum.inr.injEq] at h
    subst h
    unfold GJ at hg
    revert hg
    cases Uf x <;> cases decide (x.1 ≥ e) <;> cases x.2.1 == k' <;> cases x.2.2.1 <;> cases md == 1 <;> cases md == 2 <;> cases Rd s x.2.1 == 1 <;> (intro hg; cases hg) <;> simp
 unfold Ed
 cases Se t && decide (0 ≤ at_ ∧ at_ ≤ 1000000) with
 | false => exact .inl rfl
 | true =>
  simp only [cond_true]
  cases h : chR t.2.2.1 key (j9 .i64 (at_ + t.1)) l with
  | inl s => cases decide (til ≥ j9 .i64 (at_ + t.1)) <;> simp
  | inr r => exact key2 _ _ _ _ _ _ _ h
theorem Q7 {α : Type} (x : α) (r : List α) (hr : r.length ≤ 64) : Af (ja (x :: r)) (1 : Int) ((ja (x :: r) : Nat) : Int) = true ∧ Qb (x :: r) (jy (1 : Int)) (jy ((ja (x :: r) : Nat) : Int)) = r := by
 refine ⟨Nt (lo := 1) (by simp) (by simp), ?_⟩
 show List.drop 1 (List.take _ (x :: r)) = r
 rw [jn, List.take_length]; rfl
def Aay (d : Xa) : Option (Xa × List La) → Xa × ((List La) × (Bool × Unit))
 | none => (d, ([], false, ()))
 | some (d', l) => (d', (l, true, ()))
theorem EZ {d : Xa} {x : Ba} {r : List Ba} (h : QN d) (hq : d.2.2.1 = x :: r) : Ri d = some (Aay d (Mg d x r)) := by
 have h20 : Ga = 1048576 := rfl
 have hF := KO h hq
 have hk := Ul hF.ev
 have hlen : r.length ≤ 64 := by have := h.len; rw [hq] at this; simp at this; omega
 have hz := JT h.eng
 have hzm := (Kam h.eng.km).z
 have hle := Uz h.eng.hd
 obtain ⟨n, hn⟩ := jv hk.2.2.1
 have hn' : x.2.1 = (n : Int) := hn
 obtain ⟨e, t, q, now, clk, tp, ta, u⟩ := d
 obtain ⟨xt, xk, xd, xu⟩ := x
 cases u
 simp only at hq hn' hF hz hzm hle hk
 subst hq
 subst hn'
 have hc := Q7 ((xt, (n : Int), xd, xu) : Ba) r hlen
 have hb : jx (ja ([] : List Ba) + ja r) Bb = true := ji (by simp; rw [Kg]; omega)
 have i0 : Ei (ja (((xt, (n : Int), xd, xu) : Ba) :: r)) (0 : Int) = true := by rw [show (0 : Int) = ((0 : Nat) : Int) from rfl, Qp]; exact Aa (by simp)
 have g0 : (((xt, (n : Int), xd, xu) : Ba) :: r)[(jy (0 : Int))]? = some (xt, (n : Int), xd, xu) := rfl
 unfold Ri
 simp only [i0, g0, hc.1, hc.2, hb, cond_true, jb]
 unfold Mg
 cases xd with
 | false =>
  obtain ⟨hi, hi1, hi2⟩ := hF.up rfl
  rw [MW h.eng hi hi1]
  simp only [qd, cond_true, jb]
  cases tp == j9 .i64 ((n : Int) + 1) <;> rfl
 | true =>
  have hd := hF.down rfl
  have hkey := hF.key
  have hp := fun b => T1 h.eng (k := n) hkey hd b
  simp only at hp hkey hd
  have hly := VM (OaB (Nj h.eng.km).l2 h.eng.st) _ (show e.2.2.2.1.length ≤ Ga by omega) h.eng.hd
  simp only at hly
  rw [hly]
  have hch := HW t (n : Int) xt r now (by omega)
  have hac := GW (m := e.1) (by omega) h.eng.km (Ik e.2.2.1 e.2.2.2.1) hkey
  simp only [jb, jg, cond_false, jn, hac, RA, hch, hp]
  cases Jf (Rj e.1.2.1 (Ji e.1 (Ik e.2.2.1 e.2.2.2.1) n) n) with
  | false => rfl
  | true =>
   simp only [cond_true]
   have hv := Tag t (n : Int) xt r now
   have hne : (tp != j9 .i64 ((n : Int) + 1)) = !(tp == j9 .i64 ((n : Int) + 1)) := rfl
   rw [hne]
   cases tp == j9 .i64 ((n : Int) + 1) with
   | false =>
    simp only [qd, cond_true, qs, cond_false]
    rcases hv with hv | hv | hv <;> (rw [hv]; rfl)
   | true =>
    simp only [jg, cond_false, jk]
    cases decide (j9 .i64 (xt - ta) ≥ t.2.1) with
    | true =>
     simp only [jg, cond_true, cond_false]
     rcases hv with hv | hv | hv <;> (rw [hv]; rfl)
    | false => rfl
theorem Maa {X R : Type} {step : X → Option (X ⊕ R)} {α S : Type} (xs : List α) (g : S → α → S) (I : S → Nat → X) (out : S → R) (Ni : Nat → S → Prop)
 (h : ∀ k (hk : k < xs.length) s, Ni k s → step (I s k) = some (.inl (I (g s xs[k]) (k + 1))) ∧ Ni (k + 1) (g s xs[k]))
 (he : ∀ s, Ni xs.length s → step (I s xs.length) = some (.inr (out s))) (s0 : S) (h0 : Ni 0 s0) :
 Nb step (I s0 0) = some (out (xs.foldl g s0)) ∧ Ni xs.length (xs.foldl g s0) := by
 have key : ∀ (ys : List α) (k : Nat) (s : S), xs.drop k = ys → k ≤ xs.length → Ni k s → Nb step (I s k) = some (out (ys.foldl g s)) ∧ Ni xs.length (ys.foldl g s) := by
  intro ys
  induction ys with
  | nil =>
   intro k s hd hle hi
   have := JJ hd hle
   subst this
   rw [Hh (he s hi)]
   exact ⟨rfl, hi⟩
  | cons y ys ih =>
   intro k s hd hle hi
   obtain ⟨hk, hy, hd'⟩ := CD hd
   obtain ⟨h1, h2⟩ := h k hk s hi
   rw [Hh h1, hy]
   rw [hy] at h2
   exact ih (k + 1) _ hd' hk h2
 exact key xs 0 s0 rfl (Nat.zero_le _) h0
def Yh (s : List Yc) (w : Int) (l : List La) : List Yc := jf s (l.map fun r => ((w, r, ()) : Yc))
theorem O3 (w : Int) : ∀ (l : List La) (s : List Yc), l.foldl (fun s r => jf s [((w, r, ()) : Yc)]) s = Yh s w l
 | [], s => by simp [Yh]
 | x :: l, s => by
  rw [List.foldl_cons, O3 w l]
  simp [Yh]
theorem L4 (s : List Yc) (w : Int) (l : List La) : (Yh s w l).length = s.length + l.length := by simp [Yh]
theorem Q8 (s : List Yc) (w : Int) (l : List La) (hl : l.length ≤ 1000) (hs : s.length ≤ 1000000) : BH s w l = some (Yh s w l, ()) := by
 have h := (Maa (step := fun x => ZB x.1.1 x.1.2.1 x.1.2.2.1 x.1.2.2.2.1 x.1.2.2.2.2.1) l (fun s r => jf s [((w, r, ()) : Yc)])
  (fun o k => ((o, w, (l, (k : Int)), ((ja l : Nat) : Int), (k : Int), ()), ())) (fun o => .inl ((o, ()), ())) (fun k o => o.length = s.length + k) (by
   intro k hk o ho
   refine ⟨?_, by simp [ho]; omega⟩
   simp only [ZB]
   rw [Aa (by omega), Qp, Aa hk, jn, je hk]
   simp only [cond_true, jb, Nat.beq_refl]
   rw [show jx (ja o + ja ([(w, l[k], ())] : List Yc)) Bb = true from ji (by simp only [jw, qb]; rw [Kg]; omega)]
   rw [Ig (by omega)]
   rfl) (by
   intro o ho
   simp only [ZB]
   rw [Ca (by omega)]; rfl) s rfl).1
 unfold BH UC
 erw [h]
 rw [O3]
 rfl
noncomputable def Lb : Nat → Xa → List Yc → Xa × List Yc
 | 0, d, s => (d, s)
 | n + 1, d, s => match d.2.2.1 with
  | [] => (d, s)
  | x :: r => match Mg d x r with
   | none => (d, s)
   | some (d', l) => Lb n d' (Yh s d'.2.2.2.2.1 l)
theorem Zl {d d' : Xa} {x : Ba} {r : List Ba} {l : List La} (hs : Mg d x r = some (d', l)) :
 d' = (d'.1, d.2.1, r, d.2.2.2.1, d'.2.2.2.2.1, d'.2.2.2.2.2.1, d'.2.2.2.2.2.2.1, ()) := by
 unfold Mg at hs
 revert hs
 generalize (cond ((d.2.2.2.2.2.1 == j9 .i64 (x.2.1 + 1)) && !decide (j9 .i64 (x.1 - d.2.2.2.2.2.2.1) ≥ d.2.1.2.1)) ((1 : Int), x.1) ((Ed d.2.1 x.2.1 x.1 r d.2.2.2.1).1, (Ed d.2.1 x.2.1 x.1 r d.2.2.2.1).2.1)) = ch
 generalize Jf _ = b1
 cases x.2.2.1 <;> cases b1 <;> cases h0 : ch.1 == 0 <;>
  simp only [jg, qd, cond_true, cond_false, jc, jh, reduceCtorEq, false_implies, h0, and_imp] <;> (intro h1 _; subst h1; rfl)
theorem TU (z : Xa) : ∀ (n : Nat) (d : Xa) (s : List Yc), QN d → d.2.2.1.length ≤ n → s.length + 17 * n ≤ 100000 →
 Zg (((), (), s, ()), (z, d, ())) = some (.inl (((), (), (Lb n d s).2, ()), (z, (Lb n d s).1, ())))
 | n, d, s, h, hl, hs => by
  unfold Zg
  cases hq : d.2.2.1 with
  | nil =>
   have e1 : Lb n d s = (d, s) := by
    cases n with
    | zero => rfl
    | succ n => simp only [Lb, hq]
   have hstep : Zh () () s z d = some (.inr (.inl (((), (), s, ()), (z, d, ())))) := by
    unfold Zh
    rw [hq, Ca (by simp)]; rfl
   erw [Hh hstep]
   rw [e1]; rfl
  | cons x r =>
   have hlen : d.2.2.1.length = r.length + 1 := by rw [hq]; rfl
   cases n with
   | zero => omega
   | succ n =>
    have e1 : Lb (n + 1) d s = match Mg d x r with
     | none => (d, s)
     | some (d', l) => Lb n d' (Yh s d'.2.2.2.2.1 l) := by simp only [Lb, hq]
    rw [e1]
    have hp := EZ h hq
    cases hst : Mg d x r with
    | none =>
     have hstep : Zh () () s z d = some (.inr (.inl (((), (), s, ()), (z, d, ())))) := by
      unfold Zh
      rw [Aa (by rw [hlen]; omega)]
      show (jz (Ri d) _) = _
      rw [hp, hst]; rfl
     erw [Hh hstep]; rfl
    | some p =>
     obtain ⟨d', l⟩ := p
     have hn := B2 h hq hst
     have hstep : Zh () () s z d = some (.inl (((), (), Yh s d'.2.2.2.2.1 l, ()), (z, d', ()))) := by
      unfold Zh
      rw [Aa (by rw [hlen]; omega)]
      show (jz (Ri d) _) = _
      rw [hp, hst]
      show jz (BH s d'.2.2.2.2.1 l) _ = _
      rw [Q8 _ _ _ (by have := hn.2.2.1; omega) (by omega)]
      rfl
     erw [Hh hstep]
     have ih := TU z n d' (Yh s d'.2.2.2.2.1 l) hn.1 (by rw [hn.2.1]; omega) (by rw [L4]; have := hn.2.2.1; omega)
     unfold Zg at ih
     exact ih
def GK : Xa := ((((0 : Int), ([] : List (List Pa)), ()), ([] : List (List Xb)), (0 : Int), ([] : List Va), (0 : Int), false, ()), ((0 : Int), (0 : Int), (0 : Int), ()), ([] : List Ba), (0 : Int), (0 : Int), (0 : Int), (0 : Int), ())
def Hah (l : List Ba) : Int := (l.headD (0, 0, false, ())).1
def Wi (l : List Ba) (t : Int) : Bool := ((l.length : Int) == 0) || !decide (Hah l < t)
noncomputable def Cw (d : Xa) (l : List Ba) (til : Int) : Bool :=
 Sd d && (decide (d.2.2.2.1 ≤ til ∧ til ≤ 1000000) && (Wi l d.2.2.2.1 && (Rh l til && Jc (jf d.2.2.1 l) (Yo d.1.2.2.2.1) d.1.1.1)))
def Qd (d : Xa) (l : List Ba) (til : Int) : Xa := (d.1, d.2.1, jf d.2.2.1 l, til, d.2.2.2.2)
noncomputable def FG (d : Xa) (l : List Ba) (til : Int) : Xa × ((List Yc) × (Bool × Unit)) :=
 cond (Cw d l til) ((Lb (Qd d l til).2.2.1.length (Qd d l til) []).1, (Lb (Qd d l til).2.2.1.length (Qd d l til) []).2, true, ()) (GK, [], false, ())
theorem LO {q : List Ba} {d k : Int} (h : Jc q d k = true) : q.length ≤ 64 := by
 simp only [Jc, jd, ED] at h
 by_cases h1 : q.length ≤ 64
 ·exact h1
 ·rw [Ca h1] at h; simp at h
theorem B1 {d : Xa} {l : List Ba} {til : Int} (hd : Sd d = true) (hf : Jc (jf d.2.2.1 l) (Yo d.1.2.2.2.1) d.1.1.1 = true) : QN (Qd d l til) := by
 have he : Up d.1 := by
  rw [← OM]
  simp only [Sd, jd] at hd
  exact hd.1
 obtain ⟨m, hm, hm2⟩ := RT he.hd
 refine ⟨he, LO hf, ?_, m, 0, hm2, ?_⟩
 ·have h1 := hf
  simp only [Jc, jd, BN] at h1
  have h2 := h1.1
  intro x hx
  have h3 := (Al (p := fun x : Ba => !decide (x.2.1 ≥ d.1.1.1))).1 h2 x hx
  simp only [Bool.not_eq_true', decide_eq_false_iff_not] at h3
  show x.2.1 < d.1.1.1
  omega
 ·have := BW hf
  rw [hm] at this
  exact this
theorem M8 {l : List Ba} (h : 0 < l.length) : ∃ x, Cc l (0 : Int) = some x ∧ x.1 = Hah l := by
 cases l with
 | nil => simp at h
 | cons x l => exact ⟨x, rfl, rfl⟩
theorem AH (d : Xa) (l : List Ba) (til : Int) (hz : Lc Be d ≤ Ga) (hl : l.length ≤ 1000000) : Em d l til = some (FG d l til) := by
 have h20 : Ga = 1048576 := rfl
 have hz' := hz
 rw [Jv, Qm] at hz'
 have hz2 := hz'
 rw [Um, Im] at hz2
 have hlapp : (jf d.2.2.1 l).length = d.2.2.1.length + l.length := by simp
 have hlim : jx (ja d.2.2.1 + ja l) Bb = true := ji (by rw [Kg]; omega)
 unfold Em FG
 rw [Pr _ hz, Vr _ _ (by omega), NE _ hz]
 cases hd : Sd d with
 | false => rw [show Cw d l til = false by unfold Cw; rw [hd]; rfl]; rfl
 | true =>
  have hh : ∀ x ∈ d.1.2.2.2.1, Fv x := by
   have : Mj d.1 = true := by simp only [Sd, jd] at hd; exact hd.1
   exact Pt (FB this)
  have h64 : d.2.2.1.length ≤ 64 := by
   simp only [Sd, jd] at hd
   exact LO hd.2.2.2.2.1
  rw [SC _ (by omega) hh]
  simp only [jb, jg, cond_false, hlim, cond_true]
  rw [Wr _ _ _ (by rw [hlapp]; omega)]
  simp only [jb]
  have key : ∀ (K : Option (Xa × ((List Yc) × (Bool × Unit)))), (Jc (jf d.2.2.1 l) (Yo d.1.2.2.2.1) d.1.1.1 = true → K = some ((Lb (Qd d l til).2.2.1.length (Qd d l til) []).1, (Lb (Qd d l til).2.2.1.length (Qd d l til) []).2, true, ())) →
   (cond (decide (til < d.2.2.2.1)) (some (GK, [], false, ())) (cond (decide (til > 1000000)) (some (GK, [], false, ())) (cond (!Wi l d.2.2.2.1) (some (GK, [], false, ())) (cond (!Rh l til) (some (GK, [], false, ())) (cond (!Jc (jf d.2.2.1 l) (Yo d.1.2.2.2.1) d.1.1.1) (some (GK, [], false, ())) K))))) =
   some (cond (Cw d l til) ((Lb (Qd d l til).2.2.1.length (Qd d l til) []).1, (Lb (Qd d l til).2.2.1.length (Qd d l til) []).2, true, ()) (GK, [], false, ())) := by
   intro K hK
   unfold Cw
   rw [hd]
   by_cases h1 : til < d.2.2.2.1
   ·rw [Aa h1, Ca (show ¬ (d.2.2.2.1 ≤ til ∧ til ≤ 1000000) by omega)]; rfl
   ·by_cases h2 : til > 1000000
    ·rw [Ca h1, Aa h2, Ca (show ¬ (d.2.2.2.1 ≤ til ∧ til ≤ 1000000) by omega)]; rfl
    ·rw [Ca h1, Ca h2, Aa (show (d.2.2.2.1 ≤ til ∧ til ≤ 1000000) by omega)]
     cases Wi l d.2.2.2.1 with
     | false => rfl
     | true =>
      cases Rh l til with
      | false => rfl
      | true =>
       cases hq : Jc (jf d.2.2.1 l) (Yo d.1.2.2.2.1) d.1.1.1 with
       | false => rfl
       | true => exact hK hq
  have hrun : Jc (jf d.2.2.1 l) (Yo d.1.2.2.2.1) d.1.1.1 = true → ∀ z : Xa, Zg (((), (), ([] : List Yc), ()), (z, (d.1, d.2.1, jf d.2.2.1 l, til, d.2.2.2.2), ())) = some (.inl (((), (), (Lb (Qd d l til).2.2.1.length (Qd d l til) []).2, ()), (z, (Lb (Qd d l til).2.2.1.length (Qd d l til) []).1, ()))) := by
   intro hq z
   have h1 := B1 (til := til) hd hq
   have := h1.len
   exact TU z _ (Qd d l til) [] h1 (jo _) (by simp; omega)
  by_cases h0 : l.length = 0
  ·have hna : Wi l d.2.2.2.1 = true := by unfold Wi; rw [h0]; rfl
   rw [Ca (show ¬ ((ja l : Nat) : Int) > 0 by omega)]
   simp only [cond_false]
   simp only [hna, jg, cond_false] at key
   exact key _ (fun hq => by rw [hrun hq]; rfl)
  ·obtain ⟨x, hx, hx1⟩ := M8 (l := l) (by omega)
   have hna : Wi l d.2.2.2.1 = !decide (x.1 < d.2.2.2.1) := by
    unfold Wi
    rw [show ((l.length : Int) == 0) = false by simp; intro h; rw [h] at h0; simp at h0, hx1]; rfl
   rw [Aa (show ((ja l : Nat) : Int) > 0 by omega), hx]
   simp only [cond_true, jb]
   simp only [hna, Bool.not_not] at key
   exact key _ (fun hq => by rw [hrun hq]; rfl)
def Yan (p : List Int) : Bool := Ad (fun _ w => decide (0 ≤ w ∧ w ≤ 65535)) 0 p
def Mau (p : List Int) (e : Int) : Bool := ((p.length : Int) == 19) && decide (0 ≤ e ∧ e ≤ 1000) && Yan p
def S8 (f : Dg) : Bool := match f.1, f.2.1 with
 | [p, q], [d, e] => Mau p d && Mau q e
 | _, _ => false
def hdB (h : Int) : Bool := decide (1 ≤ h ∧ h ≤ 60000)
def Vau (h0 h1 : Int) : Int := cond (hdB h1) (cond (hdB h0) (cond (decide (h1 > h0)) 1 0) 1) (cond (hdB h0) 0 (-1))
def Is (f : Dg) : Int := cond (S8 f) (match f.1 with
 | [h0 :: _, h1 :: _] => Vau h0 h1
 | _ => -1) (-1)
def TO (s v : Int) : Bool := decide (0 ≤ s ∧ s ≤ 3 ∧ 0 ≤ v ∧ v ≤ 9999)
def Qaj (s v h : Int) : Int := cond (TO s v && hdB h) ((7 * s + 13 * v + 31 * h + 5).tmod 60000) 65535
def wd (w : List Int) (n : Nat) : Int := w.getD n 0
def HaD (s : Int) (w : List Int) (i : Nat) : Bool :=
 TO (wd w (1 + 3 * i)) (wd w (2 + 3 * i)) && (wd w (1 + 3 * i) == s) && (wd w (3 + 3 * i) == Qaj (wd w (1 + 3 * i)) (wd w (2 + 3 * i)) (wd w 0))
def O9 (s : Int) (w : List Int) : Nat → Option Int
 | 0 => none
 | n + 1 => cond (HaD s w n) (some (wd w (2 + 3 * n))) (O9 s w n)
def OP (f : Dg) (s : Int) : Option Int := cond (decide (Is f < 0)) none (O9 s ((f.1.getD (Is f).toNat [])) 6)
def NaD (o : Option Int) : Int × Bool := match o with
 | some v => (v, true)
 | none => (0, false)
structure Tau (f : Dg) : Prop where
 l1 : f.1.length = 2
 l2 : f.2.1.length = 2
 pg : ∀ i (h1 : i < f.1.length) (h2 : i < f.2.1.length), f.1[i].length = 19 ∧ 0 ≤ f.2.1[i] ∧ f.2.1[i] ≤ 1000 ∧ Yan f.1[i] = true
def zF : Dg := ([], [], ())
def UW (o : Zk) : Nat := o.2.1.toNat
def doB (f : Dg) (o : Zk) : Bool :=
 S8 f && (decide (0 ≤ o.2.1 ∧ o.2.1 ≤ 1) && cond o.1 (decide (o.2.2.1 = 0 ∧ o.2.2.2.1 = 0 ∧ f.2.1.getD (UW o) 0 < 1000))
  (decide (0 ≤ o.2.2.1 ∧ o.2.2.1 ≤ 18 ∧ 0 ≤ o.2.2.2.1 ∧ o.2.2.2.1 ≤ 65534 ∧ (f.1.getD (UW o) []).getD o.2.2.1.toNat 0 = 65535)))
def doF (f : Dg) (o : Zk) : Dg :=
 cond o.1 (f.1.set (UW o) (List.replicate 19 65535), f.2.1.set (UW o) (f.2.1.getD (UW o) 0 + 1), ())
  (f.1.set (UW o) ((f.1.getD (UW o) []).set o.2.2.1.toNat o.2.2.2.1), f.2.1, ())

def J9 (f : Dg) (ops : List Zk) : Dg ⊕ Unit := Sa (fun _ s o => cond (doB s o) (.inl (doF s o)) (.inr ())) 0 f ops
def RaP (r : Dg ⊕ Unit) : Dg × Bool × Unit := r.elim (fun g => (g, true, ())) (fun _ => (zF, false, ()))
def WaD (page : Int) (at' : Nat) (s v h : Int) : List Zk :=
 [(false, page, ((1 + 3 * at' : Nat) : Int), s, ()), (false, page, ((2 + 3 * at' : Nat) : Int), v, ()), (false, page, ((3 + 3 * at' : Nat) : Int), Qaj s v h, ())]
def Jav (w : List Int) (n : Nat) : Bool := (wd w (3 * n + 1) == 65535) && ((wd w (3 * n + 2) == 65535) && (wd w (3 * n + 3) == 65535))
def DW (w : List Int) : Nat → Nat
 | 0 => 0
 | n + 1 => cond (Jav w n) (DW w n) (n + 1)
def XaS (f : Dg) (s v : Int) (k : Nat) : Option Int := cond ((k : Int) == s) (some v) (OP f (k : Int))
def TaP (f : Dg) (s v page h : Int) (k : Nat) (st : List Zk × Nat) : List Zk × Nat := match XaS f s v k with
 | some x => (jf st.1 (WaD page st.2 (k : Int) x h), st.2 + 1)
 | none => st
def LaB (page : Int) : Zk := (true, page, 0, 0, ())
def Rax (f : Dg) (s v page h : Int) : List Zk × Nat := Zd (TaP f s v page h) 4 ([LaB page], 0)
def YaH (page h : Int) : Zk := (false, page, 0, h, ())
def pgW (f : Dg) : List Int := f.1.getD (Is f).toNat []
def X9 (f : Dg) (s v : Int) : List Zk × Bool :=
 cond (decide (Is f < 0)) ([], false) (cond (!TO s v) ([], false)
  (cond (decide (DW (pgW f) 6 < 6)) (WaD (Is f) (DW (pgW f) 6) s v (wd (pgW f) 0), true)
   (cond (decide (wd (pgW f) 0 ≥ 60000)) ([], false) (cond (decide (f.2.1.getD (1 - Is f).toNat 0 ≥ 1000)) ([], false)
    (jf (Rax f s v (1 - Is f) (wd (pgW f) 0 + 1)).1 [YaH (1 - Is f) (wd (pgW f) 0 + 1)], true)))))
def SaP (f : Dg) (P : Int) : List Int := f.1.getD P.toNat []
def VaS (t : Xb) : Bool := decide (1 ≤ t.1 ∧ t.1 ≤ 1000 ∧ 0 ≤ t.2.1 ∧ t.2.1 ≤ 1000 ∧ 0 ≤ t.2.2.1 ∧ t.2.2.1 ≤ 2)
abbrev SSt : Type := List Zk × Dg
def WaK (k : Nat) (st : SSt) (x : Int) : SSt ⊕ Unit :=
 cond ((NaD (OP st.2 (k : Int))).2 && ((NaD (OP st.2 (k : Int))).1 == x)) (.inl st)
  (cond (X9 st.2 (k : Int) x).2 (.inl (jf st.1 (X9 st.2 (k : Int) x).1, (RaP (J9 st.2 (X9 st.2 (k : Int) x).1)).1)) (.inr ()))
def EaE (t : Xb) : List Int := [t.1, t.2.1, t.2.2.1]
def Jai (f : Dg) (t : Xb) : List Zk × Bool := cond (!VaS t) ([], false) (cond (decide (Is f < 0)) ([], false) ((Sa WaK 0 (([], f) : SSt) (EaE t)).elim (fun st => (st.1, true)) (fun _ => ([], false))))
def PaP (f : Dg) (P : Int) : Int := f.2.1.getD P.toNat 0
def QaP (f : Dg) (P : Int) : Int := wd (SaP f P) 0
def isP (P : Int) : Prop := P = 0 ∨ P = 1
structure NX (f : Dg) (c : Int) : Prop where
 ok : Tau f
 pg : isP (Is f)
 hd : QaP f (Is f) ≤ c + 1
 er : ∀ P, isP P → PaP f P ≤ c
structure XaT (f g : Dg) (s v c : Int) (whole : Bool) : Prop where
 good : NX g (c + 1)
 rd : ∀ σ : Int, 0 ≤ σ ∧ σ ≤ 3 → OP g σ = cond (whole && (σ == s)) (some v) (OP f σ)
def Vaf (f : Dg) (t : Xb) (j : Nat) (g : Dg) : Prop := ∀ σ : Nat, σ ≤ 3 → OP g (σ : Int) = if σ < j then some ((EaE t).getD σ 0) else OP f (σ : Int)
structure UaT (f : Dg) (t : Xb) (c : Int) (k : Nat) (st : SSt) : Prop where
 run : J9 f st.1 = .inl st.2
 good : NX st.2 (c + k)
 prog : Vaf f t k st.2
 cut : ∀ n, ∃ (x : Dg) (j : Nat), J9 f (st.1.take n) = .inl x ∧ NX x (c + k) ∧ j ≤ k ∧ Vaf f t j x
structure VaT (f : Dg) (t : Xb) (c : Int) (g : Dg) : Prop where
 ok : (Jai f t).2 = true
 run : J9 f (Jai f t).1 = .inl g
 good : NX g (c + 3)
 prog : Vaf f t 3 g
 cut : ∀ n, ∃ (x : Dg) (j : Nat), J9 f ((Jai f t).1.take n) = .inl x ∧ NX x (c + 3) ∧ j ≤ 3 ∧ Vaf f t j x

theorem Iaj {a : List Int} (h : a.length ≤ Ga) : CF a = some (false, ()) := by
 have h20 : Ga = 1048576 := rfl
 unfold CF
 rw [Ca (by omega)]
theorem Kap {a : List Int} (h : ¬ a.length ≤ Ga) : CF a = some (true, ()) := by
 have h20 : Ga = 1048576 := rfl
 unfold CF
 rw [Aa (by omega)]
theorem AJ {α : Type} (l : List α) (k : Nat) : Ad (fun _ (_ : α) => true) k l = true := Kk.2 fun _ _ => rfl
theorem Iaa (x : Va) : Jl Ev x x = true := by simp [Jl]
theorem A5 (x : Pa) : Jl Sc x x = true := by simp [Jl]
theorem Y7 (x : Ba) : Jl Nc x x = true := by simp [Jl]
theorem K5 (l : List Va) (hn : l.length ≤ Ga) : AC l l = some (true, ()) := by
 have h20 : Ga = 1048576 := rfl
 have hl := Le (step := fun x => Yr x.1.1 x.1.2.1 x.1.2.2.1) l (fun _ _ => true) (fun i => ((l, l, i, ()), ())) (.inl ((), ())) (.inr ((false, ()), ())) (by
  intro k hk
  simp only [Yr]
  rw [Aa (show (k : Int) < ((ja l : Nat) : Int) by omega), Wb hk]
  simp only [cond_true, jb, Iaa]; rfl) (by
  simp only [Yr]
  rw [Ca (by omega)]; rfl) (by omega)
 unfold AC Qu
 erw [hl]
 rw [AJ]
 simp
theorem Qaa (m : Hb) (i : Nat) (hi : i < m.2.1.length) (hl : m.2.1[i].length ≤ Ga) :
 Xo (((), (), (i : Int), (0 : Int), ()), (m, m, ())) = some (.inl (((), (), (i : Int), ()), (m, m, ()))) := by
 have h20 : Ga = 1048576 := rfl
 have hl := Le (step := fun x : ((Unit × (Unit × Ja)) × (Hb × (Hb × Unit))) => Su x.1.1 x.1.2.1 x.1.2.2.1 x.1.2.2.2.1 x.2.1 x.2.2.1) m.2.1[i] (fun _ _ => true) (fun j => (((), (), (i : Int), j, ()), (m, m, ()))) (.inl (((), (), (i : Int), ()), (m, m, ()))) (.inr ((false, ()), ())) (by
  intro k hk
  simp only [Su]
  rw [Wb hi]
  simp only [jb]
  rw [Aa (show (k : Int) < ((ja m.2.1[i] : Nat) : Int) by omega), Wb hk]
  simp only [cond_true, jb, A5]; rfl) (by
  simp only [Su]
  rw [Wb hi]
  simp only [jb]
  rw [Ca (by omega)]; rfl) (by omega)
 unfold Xo
 erw [hl]
 rw [AJ]; rfl
theorem W9 (m : Hb) (hn : m.2.1.length ≤ Ga) (hr : ∀ x ∈ m.2.1, x.length ≤ Ga) : XD m m = some (true, ()) := by
 have h20 : Ga = 1048576 := rfl
 have hl := Le (step := fun x : ((Unit × (Unit × (Int × Unit))) × (Hb × (Hb × Unit))) => Ru x.1.1 x.1.2.1 x.1.2.2.1 x.2.1 x.2.2.1) m.2.1 (fun _ _ => true) (fun j => (((), (), j, ()), (m, m, ()))) (.inl ((), ())) (.inr ((false, ()), ())) (by
  intro k hk
  simp only [Ru]
  rw [Aa (show (k : Int) < ((ja m.2.1 : Nat) : Int) by omega), Wb hk, Qaa m k hk (hr _ (qv hk))]
  simp) (by
  simp only [Ru]
  rw [Ca (by omega)]; rfl) (by omega)
 unfold XD Ow
 erw [hl]
 rw [AJ]
 simp
theorem ZZ (e : Jb) (h1 : e.1.2.1.length ≤ Ga) (h2 : ∀ x ∈ e.1.2.1, x.length ≤ Ga) (h3 : e.2.2.2.1.length ≤ Ga) : Nx e e = some (true, ()) := by
 unfold Nx
 rw [W9 _ h1 h2, K5 _ h3]
 simp
theorem ZaD (n : Nat) : IV n 0 0 := ⟨by omega, by have := Nat.two_pow_pos n; omega, by decide, by omega, by omega⟩
theorem Hav {m : Hb} (hm : Wd m = true) : Up (W7 m 0 0 false []) :=
 (OM _).1 (Yag hm (ZaD _) false ZaH (by simp))
def Zm (e : Jb) (t : Xb) : Xa := (e, t, ([] : List Ba), (0 : Int), (0 : Int), (0 : Int), (0 : Int), ())
theorem Caq (d k : Int) : Jc [] d k = true := rfl
theorem Eak {e : Jb} (he : Up e) {t : Xb} (ht : Se t = true) {q : List Ba} {now clock tp ta : Int} (hn : 0 ≤ now ∧ now ≤ 1000000) (hc : 0 ≤ clock ∧ clock ≤ now)
 (hq : Jc q (Yo e.2.2.2.1) e.1.1 = true) (hb : Rh q now = true) (htp : 0 ≤ tp ∧ tp ≤ e.1.1) (hta : 0 ≤ ta ∧ ta ≤ now) : Sd (e, t, q, now, clock, tp, ta, ()) = true := by
 unfold Sd
 simp only [jd, decide_eq_true_eq]
 exact ⟨(OM e).2 he, ht, hn, hc, hq, hb, htp, hta⟩
theorem V0 {e : Jb} (he : Up e) {t : Xb} (ht : Se t = true) : Cx e t = some (Zm e t, true, ()) := by
 have h20 : Ga = 1048576 := rfl
 have hz := JT he
 have hk := (Nj he.km).k1
 unfold Cx
 rw [Wl _ (by omega)]
 simp only [jb]
 have : Dl (e, t, ([] : List Ba), (0 : Int), (0 : Int), (0 : Int), (0 : Int), ()) = some (true, ()) := by
  rw [← Eak he ht (q := []) (now := 0) (clock := 0) (tp := 0) (ta := 0) (by omega) (by omega) (Caq _ _) rfl (by omega) (by omega)]
  exact Pr _ (by rw [Jv, Qm]; show Lc Pc e + 0 ≤ _; omega)
 rw [this]
 rfl



structure YaT (k : Nat) (s : La × List UInt8) : Prop where
 r : s.1.2.1.length ≤ Ga
 t : s.2.length ≤ 56 * k

theorem OV {a : Nat} {k : Nat} (ha : a < 2 ^ 63) (hk : k ≤ 64) : Rd (a : Int) (k : Int) = cond (a.testBit k) 1 0 := by
 have h := Kj ha hk
 rcases Jaj ha hk with h1 | h1
 ·rw [h1] at h ⊢
  cases ht : a.testBit k with
  | true => rw [ht] at h; exact absurd h (by decide)
  | false => rfl
 ·rw [h1] at h ⊢
  cases ht : a.testBit k with
  | true => rfl
  | false => rw [ht] at h; exact absurd h (by decide)
theorem I7 {a b k : Nat} (ha : a < 2 ^ 63) (hb : b < 2 ^ 63) (hk : k ≤ 64) : (Rd (a : Int) (k : Int) != Rd (b : Int) (k : Int)) = (a ^^^ b).testBit k := by
 rw [OV ha hk, OV hb hk, qq]
 cases a.testBit k <;> cases b.testBit k <;> rfl
def XE (d : Ib) (raw : Int) (k : Nat) (x : Int) : Int :=
 cond ((d.1 == 0) && (Rd raw (k : Int) != Rd d.2.2.2.2.1 (k : Int))) 1 (cond ((d.1 == 1) && (raw != d.2.2.2.2.1)) 1 (min (j9 .i64 (x + 1)) 99))
def Gp (d : Ib) (raw : Int) (k : Nat) (x : Int) : Bool := decide (XE d raw k x ≥ d.2.1) && (Rd raw (k : Int) != Rd d.2.2.2.1 (k : Int))
def NC (d : Ib) (raw : Int) (k : Nat) (s : Int × List Int) (x : Int) : Int × List Int :=
 (cond (Gp d raw k x) (Kf .i64 s.1 (Ra .i64 1 (k : Int))) s.1, jf s.2 [cond (Gp d raw k x && (d.1 == 2)) 0 (XE d raw k x)])
def OC (d : Ib) (raw : Int) : Int × List Int := Dd (fun k s x => NC d raw k s x) 0 (d.2.2.2.1, []) d.2.2.2.2.2.1
def FK : Ib := ((0 : Int), (0 : Int), (0 : Int), (0 : Int), (0 : Int), ([] : List Int), ())
def Sm (d : Ib) (raw : Int) : Bool := Bd d && Ff d.2.2.1 raw
def Nq (d : Ib) (raw : Int) : Ib × (Bool × Unit) := cond (Sm d raw) ((d.1, d.2.1, d.2.2.1, (OC d raw).1, raw, (OC d raw).2, ()), true, ()) (FK, false, ())
structure Aao (d : Ib) : Prop where
 k1 : 1 ≤ d.2.2.1
 k2 : d.2.2.1 ≤ 24
 len : ((ja d.2.2.2.2.2.1 : Nat) : Int) = d.2.2.1
 sh : Ff d.2.2.1 d.2.2.2.1 = true
 la : Ff d.2.2.1 d.2.2.2.2.1 = true
theorem Xt {d : Ib} (h : Bd d = true) : Aao d := by
 simp only [Bd, jd, decide_eq_true_eq, beq_iff_eq] at h
 exact ⟨h.2.2.1.1, h.2.2.1.2, h.2.2.2.1, h.2.2.2.2.1, h.2.2.2.2.2.1⟩
theorem MB {k x : Int} (h : Ff k x = true) : ∃ n : Nat, x = (n : Int) ∧ n < 2 ^ k.toNat := by
 simp only [Ff, decide_eq_true_eq] at h
 obtain ⟨n, rfl⟩ := jv h.1
 exact ⟨n, rfl, by exact_mod_cast h.2⟩
theorem Yah {k : Int} {n : Nat} (hk : k ≤ 24) (h : n < 2 ^ k.toNat) : n < 2 ^ 63 :=
 qo h (qp (by omega) (by omega))
theorem C5 (d : Ib) (raw : Int) (k : Nat) (hk : k < d.2.2.2.2.2.1.length) (s : Int × List Int) (hs : s.2.length = k) (hn : d.2.2.2.2.2.1.length ≤ 24) :
 Lj raw () () () d.2.2.2.2.2.1 ((ja d.2.2.2.2.2.1 : Nat) : Int) (k : Int) d FK (d.1, d.2.1, d.2.2.1, s.1, d.2.2.2.2.1, s.2, ()) =
  some (.inl ((raw, (), (), (), d.2.2.2.2.2.1, ((ja d.2.2.2.2.2.1 : Nat) : Int), j9 .i64 ((k : Int) + 1), ()), (d, FK, (d.1, d.2.1, d.2.2.1, (NC d raw k s d.2.2.2.2.2.1[k]).1, d.2.2.2.2.1, (NC d raw k s d.2.2.2.2.2.1[k]).2, ()), ()))) := by
 have hb : ∀ x : Int, jx (ja s.2 + ja ([x] : List Int)) Bb = true := fun x => ji (by rw [Kg]; simp only [jw, qb]; omega)
 have hbit : ∀ m : Int, He m (k : Int) = some (Rd m (k : Int), ()) := fun m => Nl m (by omega)
 unfold Lj
 rw [Aa (show (k : Int) < ((ja d.2.2.2.2.2.1 : Nat) : Int) by omega), Wb hk, Aa (show (0 : Int) ≤ (k : Int) by omega)]
 simp only [cond_true, jb, hb, hbit]
 unfold NC Gp XE
 generalize d.2.2.2.2.2.1[k] = x
 cases d.1 == 0 <;> (try simp only [cond_true, cond_false, jk, qs]) <;>
  cases Rd raw (k : Int) != Rd d.2.2.2.2.1 (k : Int) <;> (try simp only [cond_true, cond_false]) <;>
  cases d.1 == 1 <;> (try simp only [cond_true, cond_false, jk, qs]) <;>
  cases raw != d.2.2.2.2.1 <;> (try simp only [cond_true, cond_false]) <;>
  cases decide ((1 : Int) ≥ d.2.1) <;> (try simp only [cond_true, cond_false, jk, qs]) <;>
  cases decide (min (j9 .i64 (x + 1)) 99 ≥ d.2.1) <;> (try simp only [cond_true, cond_false, jk, qs]) <;>
  cases Rd raw (k : Int) != Rd d.2.2.2.1 (k : Int) <;> (try simp only [cond_true, cond_false, jk, qs]) <;>
  cases d.1 == 2 <;> rfl
structure P6 (d : Ib) (k : Nat) (s : Int × List Int) : Prop where
 len : s.2.length = k
 sh : Ff d.2.2.1 s.1 = true
theorem Uap {d : Ib} (hd : Aao d) (raw : Int) {k : Nat} (hk : k < d.2.2.2.2.2.1.length) {s : Int × List Int} (hs : P6 d k s) (x : Int) : P6 d (k + 1) (NC d raw k s x) := by
 have h1 := hd.k2
 have h2 := hd.len
 refine ⟨by simp [NC, hs.len], ?_⟩
 obtain ⟨a, ha, ha2⟩ := MB hs.sh
 unfold NC
 cases Gp d raw k x with
 | false => exact hs.sh
 | true =>
  show Ff d.2.2.1 (Kf .i64 s.1 (Ra .i64 1 (k : Int))) = true
  rw [ha, Qf (by omega), Mo (Yah h1 ha2) (Gf (by omega))]
  have hk2 : 2 ^ k < 2 ^ d.2.2.1.toNat := Nat.pow_lt_pow_right (by omega) (by omega)
  have := qu ha2 hk2
  simp only [Ff, decide_eq_true_eq]
  exact ⟨by omega, by exact_mod_cast this⟩
theorem A1 {d : Ib} (hd : Aao d) (raw : Int) : P6 d d.2.2.2.2.2.1.length (OC d raw) := by
 have h : ∀ (l : List Int) (k : Nat) (s : Int × List Int), d.2.2.2.2.2.1.drop k = l → k ≤ d.2.2.2.2.2.1.length → P6 d k s → P6 d d.2.2.2.2.2.1.length (Dd (fun k s x => NC d raw k s x) k s l) := by
  intro l
  induction l with
  | nil =>
   intro k s hl hk hs
   have := JJ hl hk
   rw [← this]; exact hs
  | cons y l ih =>
   intro k s hl hk hs
   obtain ⟨hk', hy, hl'⟩ := CD hl
   exact ih (k + 1) _ hl' hk' (Uap hd raw hk' hs y)
 exact h _ 0 _ rfl (Nat.zero_le _) ⟨rfl, hd.sh⟩
theorem QU (d : Ib) (raw : Int) (hn : d.2.2.2.2.2.1.length ≤ Ga) : Ek d raw = some (Nq d raw) := by
 unfold Ek Nq Sm
 rw [Kw d hn]
 cases hv : Bd d with
 | false => rfl
 | true =>
  have hd := Xt hv
  have h1 := hd.k1
  have h2 := hd.k2
  have h3 := hd.len
  simp only [jb, jg, cond_false, jk]
  rw [Aa (show (0 : Int) ≤ d.2.2.1 by omega), YT (show 0 ≤ d.2.2.1 ∧ d.2.2.1 ≤ 62 by omega)]
  simp only [cond_true]
  by_cases h0 : raw < 0
  ·rw [Aa h0, show Ff d.2.2.1 raw = false by unfold Ff; exact Ca (by omega)]; rfl
  ·by_cases h9 : raw ≥ ((2 ^ d.2.2.1.toNat : Nat) : Int)
   ·rw [Ca h0, Aa h9, show Ff d.2.2.1 raw = false by unfold Ff; exact Ca (by omega)]; rfl
   ·rw [Ca h0, Ca h9, show Ff d.2.2.1 raw = true by unfold Ff; exact Aa (by omega)]
    simp only [cond_false, cond_true]
    have hl := (Qh (step := fun x => Lj x.1.1 x.1.2.1 x.1.2.2.1 x.1.2.2.2.1 x.1.2.2.2.2.1 x.1.2.2.2.2.2.1 x.1.2.2.2.2.2.2.1 x.2.1 x.2.2.1 x.2.2.2.1) d.2.2.2.2.2.1 (fun k s x => NC d raw k s x)
     (fun s i => ((raw, (), (), (), d.2.2.2.2.2.1, ((ja d.2.2.2.2.2.1 : Nat) : Int), i, ()), (d, FK, (d.1, d.2.1, d.2.2.1, s.1, d.2.2.2.2.1, s.2, ()), ())))
     (fun s => .inl ((raw, (), (), ()), (FK, (d.1, d.2.1, d.2.2.1, s.1, d.2.2.2.2.1, s.2, ()), ()))) (fun k s => s.2.length = k) (by
      intro k hk s hs
      exact ⟨C5 d raw k hk s hs (by omega), by simp [NC, hs]⟩) (by
      intro s hs
      simp only [Lj]
      rw [Ca (by omega)]; rfl) (by omega) (d.2.2.2.1, []) rfl).1
    unfold Io
    erw [hl]
    rfl
def Dj (L : List Ja) (set : Int) : Bool := !Ad (fun _ (c : Ja) => !(Gc .i64 set c.1 == 0)) 0 L
theorem AN (L : List Ja) (set : Int) (hn : L.length ≤ Ga) : LB L set = some (Dj L set, ()) := by
 have h20 : Ga = 1048576 := rfl
 have hl := Le (step := fun x => Mx x.1.1 x.1.2.1 x.1.2.2.1 x.1.2.2.2.1) L (fun _ (c : Ja) => !(Gc .i64 set c.1 == 0)) (fun i => ((set, L, ((ja L : Nat) : Int), i, ()), ()))
  (.inl ((), ())) (.inr ((true, ()), ())) (by
   intro k hk
   simp only [Mx]
   rw [Aa (by omega), Wb hk]
   simp only [cond_true, jb]
   cases Gc .i64 set L[k].1 == 0 <;> rfl) (by
   simp only [Mx]
   rw [Ca (by omega)]; rfl) (by omega)
 unfold LB Ry Dj
 erw [hl]
 cases Ad (fun _ (c : Ja) => !(Gc .i64 set c.1 == 0)) 0 L <;> rfl
def Z9 (set : Int) (s : Int × Bool) (c : Ja) : Int × Bool := cond (c.1 == set) (c.2.1, s.2) (cond (Gc .i64 set c.1 == 0) (s.1, true) s)
def Hf (L : List Ja) (set : Int) : Int × Bool := Dd (fun _ s c => Z9 set s c) 0 (-1, false) L
theorem WH (L : List Ja) (set : Int) (hn : L.length ≤ Ga) : Gm L set = some ((Hf L set).1, (Hf L set).2, ()) := by
 have h20 : Ga = 1048576 := rfl
 have hl := (Qh (step := fun x => Uo x.1.1 x.1.2.1 x.1.2.2.1 x.1.2.2.2.1 x.1.2.2.2.2.1 x.1.2.2.2.2.2.1) L (fun _ s c => Z9 set s c) (fun s i => ((set, s.1, s.2, L, ((ja L : Nat) : Int), i, ()), ()))
  (fun s => .inl ((s.1, s.2, ()), ())) (fun _ _ => True) (by
   intro k hk s _
   refine ⟨?_, trivial⟩
   simp only [Uo]
   rw [Aa (by omega), Wb hk]
   simp only [cond_true, jb]
   unfold Z9
   cases L[k].1 == set <;> cases Gc .i64 set L[k].1 == 0 <;> rfl) (by
   intro s _
   simp only [Uo]
   rw [Ca (by omega)]; rfl) (by omega) (-1, false) trivial).1
 unfold Gm Uq Hf
 erw [hl]
 rfl
def Sj (x : Ba) : Bool := Uf x && decide (x.2.1 < 24)
theorem QR (x : Ba) : Yl x = some (Sj x, ()) := by
 unfold Yl Sj
 rw [UD]
 cases Uf x <;> rfl
def Zs (L : List Ja) (e : Int) (k : Nat) (set : Int) (x : Ba) : Int ⊕ ((Int × Nat × Int) ⊕ (Int × Int × Int)) :=
 cond (Sj x) (cond (decide (x.1 ≥ e)) (.inr (.inl (set, k + 1, e))) (cond x.2.2.1
  (cond (Dj L (Tc .i64 set (Ra .i64 1 x.2.1))) (cond (decide ((Hf L (Tc .i64 set (Ra .i64 1 x.2.1))).1 ≥ 0) && !(Hf L (Tc .i64 set (Ra .i64 1 x.2.1))).2)
   (.inr (.inr (((k + 2 : Nat) : Int), x.1, (Hf L (Tc .i64 set (Ra .i64 1 x.2.1))).1))) (.inl (Tc .i64 set (Ra .i64 1 x.2.1))))
   (.inr (.inl (set, k + 1, x.1))))
  (.inr (.inl (set, k + 1, x.1))))) (.inr (.inr (0, 0, -1)))
def Vy (L : List Ja) (set : Int) (n : Nat) (at_ : Int) : Int × Int × Int := cond (decide ((Hf L set).1 ≥ 0)) ((n : Int), at_, (Hf L set).1) (1, at_, -1)
def YD (L : List Ja) (e now : Int) (set : Int) (r : List Ba) : Int × Int × Int :=
 match Sa (fun k s x => Zs L e k s x) 0 set r with
 | .inl s => cond (decide (now < e)) (0, 0, -1) (Vy L s (r.length + 1) e)
 | .inr (.inl b) => Vy L b.1 b.2.1 b.2.2
 | .inr (.inr b) => b
def Xd (L : List Ja) (term : Int) (q : List Ba) (now : Int) : Int × Int × Int :=
 match q with
 | [] => (0, 0, -1)
 | f :: r => cond (Ke L && (decide (1 ≤ term ∧ term ≤ 200) && (Sj f && f.2.2.1)))
  (cond (Dj L (Ra .i64 1 f.2.1)) (YD L (j9 .i64 (f.1 + term)) now (Ra .i64 1 f.2.1) r) (1, f.1, -1)) (0, 0, -1)
theorem Nan {x : Ba} (h : Sj x = true) : 0 ≤ x.1 ∧ x.1 ≤ 1000000 ∧ 0 ≤ x.2.1 ∧ x.2.1 < 24 := by
 simp only [Sj, jd, decide_eq_true_eq] at h
 have := Ul h.1
 omega
theorem DZ (L : List Ja) (term now : Int) (f : Ba) (e : Int) (he : j9 .i64 (f.1 + term) = e) (set : Int) (r : List Ba) (hn : L.length ≤ Ga) (hr : r.length ≤ Ga) :
 Xk ((L, term, now, (), set, e, (1 : Int), true, r, ((ja r : Nat) : Int), (0 : Int), ()), (f, ())) =
  some (match Sa (fun k s x => Zs L e k s x) 0 set r with
   | .inl s => .inl ((L, now, s, e, ((r.length + 1 : Nat) : Int), true, ()), ())
   | .inr (.inl b) => .inl ((L, now, b.1, b.2.2, (b.2.1 : Int), false, ()), ())
   | .inr (.inr b) => .inr ((b.1, b.2.1, b.2.2, ()), ())) := by
 have h20 : Ga = 1048576 := rfl
 have hl := VU (step := fun x => Ln x.1.1 x.1.2.1 x.1.2.2.1 x.1.2.2.2.1 x.1.2.2.2.2.1 x.1.2.2.2.2.2.1 x.1.2.2.2.2.2.2.1 x.1.2.2.2.2.2.2.2.1 x.1.2.2.2.2.2.2.2.2.1 x.1.2.2.2.2.2.2.2.2.2.1 x.1.2.2.2.2.2.2.2.2.2.2.1 x.2.1) r (fun k s x => Zs L e k s x)
  (fun k s => ((L, term, now, (), s, e, ((k + 1 : Nat) : Int), true, r, ((ja r : Nat) : Int), (k : Int), ()), (f, ())))
  (fun s => .inl ((L, now, s, e, ((r.length + 1 : Nat) : Int), true, ()), ()))
  (fun b => match b with | .inl b => .inl ((L, now, b.1, b.2.2, (b.2.1 : Int), false, ()), ()) | .inr b => .inr ((b.1, b.2.1, b.2.2, ()), ())) (fun _ _ => True) (by
   intro k hk s _
   refine ⟨?_, fun _ _ => trivial⟩
   simp only [Ln]
   rw [Aa (show (k : Int) < ((ja r : Nat) : Int) by omega), Wb hk, he]
   simp only [cond_true, jb]
   rw [QR]
   simp only [jb]
   unfold Zs
   generalize r[k] = x
   cases hx : Sj x with
   | false => rfl
   | true =>
    have hk' := Nan hx
    rw [Aa hk'.2.2.1, AN _ _ hn, WH _ _ hn, Ig (show k + 1 < _ by omega), Ig (show k < _ by omega)]
    simp only [jg, cond_false, cond_true, jb]
    by_cases h1 : x.1 ≥ e
    ·rw [Aa h1, show min e x.1 = e by omega]; rfl
    ·rw [Ca h1, show min e x.1 = x.1 by omega]
     simp only [cond_false]
     cases x.2.2.1 with
     | false => rfl
     | true =>
      simp only [jg, cond_false, cond_true]
      cases Dj L (Tc .i64 s (Ra .i64 1 x.2.1)) with
      | false => rfl
      | true =>
       simp only [jg, cond_false, cond_true]
       cases decide ((Hf L (Tc .i64 s (Ra .i64 1 x.2.1))).1 ≥ 0) <;> cases (Hf L (Tc .i64 s (Ra .i64 1 x.2.1))).2 <;> rfl) (by
   intro s _
   simp only [Ln]
   rw [Ca (by omega)]; rfl) set trivial
 unfold Xk
 refine hl.trans ?_
 cases Sa (fun k s x => Zs L e k s x) 0 set r with
 | inl s => rfl
 | inr b => cases b <;> rfl
theorem D5 (L : List Ja) (term : Int) (q : List Ba) (now : Int) (hn : L.length ≤ Ga) (hq : q.length ≤ Ga) :
 Bx L term q now = some ((Xd L term q now).1, (Xd L term q now).2.1, (Xd L term q now).2.2, ()) := by
 have h20 : Ga = 1048576 := rfl
 unfold Bx Xd
 rw [MJ _ hn]
 cases q with
 | nil =>
  cases Ke L <;> simp only [jb, jg, qd, cond_true, cond_false]
  cases decide (term < 1) <;> cases decide (term > 200) <;> rfl
 | cons f r =>
  have hr : r.length ≤ Ga := by simp at hq; omega
  cases Ke L with
  | false => rfl
  | true =>
   simp only [jb, jg, jk, cond_false, Wt]
   cases decide (1 ≤ term ∧ term ≤ 200) with
   | false => rfl
   | true =>
    rw [show (((ja (f :: r) : Nat) : Int) == 0) = false by simp; omega]
    simp only [Iaq, jb, QR, cond_false, cond_true, jk]
    cases hf : Sj f with
    | false => rfl
    | true =>
     have hk := Nan hf
     cases f.2.2.1 with
     | false => rfl
     | true =>
      have hc : Af (ja (f :: r)) (1 : Int) ((ja (f :: r) : Nat) : Int) = true := Nt (lo := 1) (by simp) (by simp)
      have hc2 : Qb (f :: r) (jy (1 : Int)) (jy ((ja (f :: r) : Nat) : Int)) = r := by
       show List.drop 1 (List.take _ (f :: r)) = r
       rw [jn, List.take_length]; rfl
      rw [Aa hk.2.2.1, AN _ _ hn, hc, hc2]
      simp only [jg, cond_false, cond_true, jb, qt, jk]
      cases Dj L (Ra .i64 1 f.2.1) with
      | false => rfl
      | true =>
       simp only [jg, cond_false, cond_true]
       rw [DZ L term now f _ rfl _ _ hn hr]
       unfold YD
       cases Sa (fun k s x => Zs L (j9 .i64 (f.1 + term)) k s x) 0 (Ra .i64 1 f.2.1) r with
       | inl s =>
        simp only [jb, qn, cond_true]
        rw [WH _ _ hn]
        unfold Vy
        simp only [jb]
        cases decide (now < j9 .i64 (f.1 + term)) <;> cases decide ((Hf L s).1 ≥ 0) <;> rfl
       | inr b =>
        cases b with
        | inl b =>
         simp only [jb, qn, cond_false]
         rw [WH _ _ hn]
         unfold Vy
         simp only [jb]
         cases decide ((Hf L b.1).1 ≥ 0) <;> rfl
        | inr b => rfl
theorem OW (L : List Ja) (term : Int) (f : Ba) (r : List Ba) (now : Int) : ∃ n : Nat, (Xd L term (f :: r) now).1 = (n : Int) ∧ n ≤ r.length + 1 := by
 have key : ∀ (e : Int) (l : List Ba) (k : Nat) (set : Int) (b : (Int × Nat × Int) ⊕ (Int × Int × Int)), Sa (fun k s x => Zs L e k s x) k set l = .inr b →
  match b with | .inl b => b.2.1 ≤ k + l.length | .inr b => ∃ n : Nat, b.1 = (n : Int) ∧ n ≤ k + l.length + 1 := by
  intro e l
  induction l with
  | nil => intro k set b h; simp [Sa] at h
  | cons x l ih =>
   intro k set b h
   simp only [Sa] at h
   revert h
   cases hg : Zs L e k set x with
   | inl s =>
    intro h
    have := ih (k + 1) s b h
    cases b with
    | inl b => simp only [jw] at this ⊢; omega
    | inr b => obtain ⟨n, h1, h2⟩ := this; exact ⟨n, h1, by simp only [jw]; omega⟩
   | inr r =>
    intro h
    simp only [Sum.inr.injEq] at h
    subst h
    unfold Zs at hg
    revert hg
    cases Sj x <;> cases decide (x.1 ≥ e) <;> cases x.2.2.1 <;> cases Dj L (Tc .i64 set (Ra .i64 1 x.2.1)) <;> cases (decide ((Hf L (Tc .i64 set (Ra .i64 1 x.2.1))).1 ≥ 0) && !(Hf L (Tc .i64 set (Ra .i64 1 x.2.1))).2) <;>
     (intro hg; cases hg) <;>
     first
      | exact ⟨0, rfl, by omega⟩
      | exact ⟨_, rfl, by simp only [jw]; omega⟩
      | (simp only [jw]; omega)
 have Hg : ∀ s n a, n ≤ r.length + 1 → 1 ≤ n → ∃ m : Nat, (Vy L s n a).1 = (m : Int) ∧ m ≤ r.length + 1 := by
  intro s n a hn _
  unfold Vy
  cases decide ((Hf L s).1 ≥ 0)
  ·exact ⟨1, rfl, by omega⟩
  ·exact ⟨n, rfl, hn⟩
 simp only [Xd]
 cases Ke L && (decide (1 ≤ term ∧ term ≤ 200) && (Sj f && f.2.2.1)) with
 | false => exact ⟨0, rfl, by omega⟩
 | true =>
  cases Dj L (Ra .i64 1 f.2.1) with
  | false => exact ⟨1, rfl, by omega⟩
  | true =>
   simp only [cond_true, YD]
   cases h : Sa (fun k s x => Zs L (j9 .i64 (f.1 + term)) k s x) 0 (Ra .i64 1 f.2.1) r with
   | inl s =>
    cases decide (now < j9 .i64 (f.1 + term)) with
    | true => exact ⟨0, rfl, by omega⟩
    | false => exact Hg s _ _ (jo _) (by omega)
   | inr b =>
    have := key _ _ _ _ _ h
    cases b with
    | inl b =>
     unfold Vy
     simp only at this ⊢
     cases decide ((Hf L b.1).1 ≥ 0)
     ·exact ⟨1, rfl, by omega⟩
     ·exact ⟨b.2.1, rfl, by omega⟩
    | inr b => obtain ⟨n, h1, h2⟩ := this; exact ⟨n, h1, by omega⟩
abbrev Vb (c : Da) : List Ba := c.2.2.2.2.2.2.1
abbrev Oag (c : Da) (l : List Ba) : Da := (c.1, c.2.1, c.2.2.1, c.2.2.2.1, c.2.2.2.2.1, c.2.2.2.2.2.1, l, ())
def woE {α : Type} (l : List α) (i : Nat) : List α := jf (l.take i) (l.drop (i + 1))
def TS : Ba := (0, 0, false, ())
def PL (l : List Ba) (key : Int) (j : Nat) : List Ba :=
 cond (Gc .i64 (l.getD j TS).2.1 (Ra .i64 1 key) == 0) (woE l j) (l.set j ((l.getD j TS).1, Gc .i64 (l.getD j TS).2.1 (Ra .i64 1 key), false, ()))
def QG (l : List Ba) (at_ : Int) (j : Nat) : List Ba := cond (l.getD j TS).2.2.1 [(at_, (l.getD j TS).1, false, ())] []
def NF (c : Da) (key : Int) : Int := Cd (fun (a : Ba) => !(Rd a.2.1 key == 0)) 0 (Vb c)
def Lt (c : Da) (key at_ : Int) : Da × List Ba :=
 if NF c key = -1 then ((c.1, c.2.1, c.2.2.1, c.2.2.2.1, c.2.2.2.2.1, Gc .i64 c.2.2.2.2.2.1 (Ra .i64 1 key), Vb c, ()), [(at_, key, false, ())])
 else (Oag c (PL (Vb c) key (NF c key).toNat), QG (Vb c) at_ (NF c key).toNat)
theorem Dae {α : Type} (l : List α) (j : Nat) (hj : j < l.length) (v : α) :
 Qb (l.set j v) (jy (0 : Int)) (jy (j : Int)) = l.take j ∧ Qb (l.set j v) (jy ((j + 1 : Nat) : Int)) (jy ((ja (l.set j v) : Nat) : Int)) = l.drop (j + 1) := by
 constructor
 ·show List.drop 0 (List.take _ (l.set j v)) = _
  rw [jn, List.drop_zero, List.take_set_of_le (jo j)]
 ·show List.drop _ (List.take _ (l.set j v)) = _
  rw [jn, jn, List.take_length, List.drop_set_of_lt (by omega)]
theorem Lah (c : Da) (key at_ : Int) (hk : 0 ≤ key) (hn : (Vb c).length ≤ Ga) : Fo c key at_ = some ((Lt c key at_).1, ((Lt c key at_).2, ())) := by
 have h20 : Ga = 1048576 := rfl
 have hlim := Kg
 have hl := EG (step := fun x => Cn x.1.1 x.1.2.1 x.1.2.2.1 x.1.2.2.2.1 x.1.2.2.2.2.1 x.2.1) (Vb c) (fun (a : Ba) => !(Rd a.2.1 key == 0)) (fun i => (((), key, at_, ((ja (Vb c) : Nat) : Int), i, ()), (c, ())))
  (.inl (((), key, at_, ()), (c, ()))) (fun i => .inr (((), QG (Vb c) at_ i.toNat, ()), (Oag c (PL (Vb c) key i.toNat), ()))) (by
   intro j hj
   simp only [Cn]
   rw [Aa (show (j : Int) < ((ja (Vb c) : Nat) : Int) by omega), Qp, Aa hj]
   have hg : (Vb c)[jy (j : Int)]? = some (Vb c)[j] := by rw [jn, je hj]
   have hgd : (Vb c).getD j TS = (Vb c)[j] := by rw [qm, je hj]; rfl
   simp only [hg, cond_true, jb]
   rw [Nl _ hk, Aa hk]
   simp only [jb, cond_true]
   cases hb : Rd (Vb c)[j].2.1 key == 0 with
   | true => rfl
   | false =>
    simp only [cond_false, qd, cond_true]
    have hs2 : ∀ v w : Ba, (((Vb c).set j v).set j w) = (Vb c).set j w := fun v w => List.set_set ..
    have hs3 : ∀ v : Ba, ((Vb c).set j v)[jy (j : Int)]? = some v := fun v => by
     rw [jn, List.getElem?_set_self (by omega)]
    have ht : ∀ (l : List Ba) (v : Ba), l.set (jy (j : Int)) v = l.set j v := fun l v => by rw [jn]
    simp only [hs2, hs3, ht, jb, Ig (show j < 9223372036854775807 by omega), (Dae (Vb c) j hj _).1, (Dae (Vb c) j hj _).2]
    have hc1 : ∀ v : Ba, Af (ja ((Vb c).set j v)) 0 (j : Int) = true := fun v => Nt (lo := 0) (by omega) (by rw [qc]; omega)
    have hc2 : ∀ v : Ba, Af (ja ((Vb c).set j v)) ((j + 1 : Nat) : Int) ((ja ((Vb c).set j v) : Nat) : Int) = true := fun v => Nt (by rw [qc]; omega) (jo _)
    have hb1 : jx (ja ([] : List Ba) + ja ((Vb c).take j)) Bb = true := ji (by simp; omega)
    have hb2 : jx (ja (jf ([] : List Ba) ((Vb c).take j)) + ja ((Vb c).drop (j + 1))) Bb = true := ji (by simp; omega)
    simp only [hc1, hc2, hb1, hb2, cond_true, jn]
    unfold PL QG
    rw [hgd]
    generalize hx : (Vb c)[j] = x
    obtain ⟨xo, xl, xd, xu⟩ := x
    cases xd <;> cases Gc .i64 xl (Ra .i64 1 key) == 0 <;> rfl) (by
   simp only [Cn]
   rw [Ca (by omega)]; rfl) (by omega)
 unfold Fo Ip Lt NF
 erw [hl]
 simp only [jb]
 by_cases hc : Cd (fun (a : Ba) => !(Rd a.2.1 key == 0)) 0 (Vb c) = -1
 ·rw [if_pos hc, if_pos hc]
  simp only [qn]
  rw [Aa hk]; rfl
 ·rw [if_neg hc, if_neg hc]; rfl
theorem May (n : Int) : j9 .i64 n ≤ 9223372036854775807 := by
 rw [IntKind.wrap_i64]; omega
theorem Gaq (x y : Int) : Gc .i64 x y ≤ 9223372036854775807 := May _
theorem Van (l : List Ba) (at_ : Int) (j : Nat) : (QG l at_ j).length ≤ 1 := by
 unfold QG
 cases (l.getD j TS).2.2.1 <;> simp
theorem DaE (l : List Ba) (key : Int) (j : Nat) (hx : ∀ x ∈ l, x.2.1 ≤ 9223372036854775807) : (PL l key j).length ≤ l.length ∧ ∀ x ∈ PL l key j, x.2.1 ≤ 9223372036854775807 := by
 unfold PL
 cases Gc .i64 (l.getD j TS).2.1 (Ra .i64 1 key) == 0 with
 | true =>
  simp only [cond_true, woE]
  refine ⟨by simp; omega, fun x h => ?_⟩
  rcases jl.1 (show x ∈ l.take j ++ l.drop (j + 1) from h) with h | h
  ·exact hx x (List.mem_of_mem_take h)
  ·exact hx x (qw h)
 | false =>
  simp only [cond_false]
  refine ⟨by simp, fun x h => ?_⟩
  rcases List.mem_or_eq_of_mem_set h with h | h
  ·exact hx x h
  ·rw [h]; exact Gaq _ _
structure GV (c : Da) : Prop where
 len : c.2.2.1.length ≤ 64
 ev : ∀ x ∈ c.2.2.1, 0 ≤ x.2.1
 L : c.1.length ≤ 8
 cb : Ke c.1 = true
 r : ∀ x ∈ Vb c, x.2.1 ≤ 9223372036854775807
def We (c : Da) (x : Ba) (r : List Ba) : Option (Da × List Ba) :=
 cond x.2.2.1
  (
   let m := Xd c.1 c.2.1 c.2.2.1 c.2.2.2.1
   cond (m.1 == 0) none
    (cond (decide (m.2.2 < 0))
     (some ((c.1, c.2.1, c.2.2.1.drop m.1.toNat, c.2.2.2.1, max (max c.2.2.2.2.1 x.1) m.2.1, Tc .i64 c.2.2.2.2.2.1 (Ra .i64 1 x.2.1), Vb c, ()), [(max (max c.2.2.2.2.1 x.1) m.2.1, x.2.1, true, ())]))
     (some ((c.1, c.2.1, c.2.2.1.drop m.1.toNat, c.2.2.2.1, max (max c.2.2.2.2.1 x.1) m.2.1, c.2.2.2.2.2.1, jf (Vb c) [(m.2.2, Sy c.1 m.2.2, true, ())], ()), [(max (max c.2.2.2.2.1 x.1) m.2.1, m.2.2, true, ())]))))
  (some (Lt (c.1, c.2.1, r, c.2.2.2.1, max c.2.2.2.2.1 x.1, c.2.2.2.2.2) x.2.1 (max c.2.2.2.2.1 x.1)))
def Bau (c : Da) : Option (Da × List Ba) → Da × ((List Ba) × (Bool × Unit))
 | none => (c, ([], false, ()))
 | some (c', l) => (c', (l, true, ()))
theorem Sap {α : Type} (l : List α) (n : Nat) : Qb l (jy (n : Int)) (jy ((ja l : Nat) : Int)) = l.drop n := by
 show List.drop _ (List.take _ l) = _
 rw [jn, jn, List.take_length]
theorem P1 {c : Da} {x : Ba} {r : List Ba} (h : GV c) (hq : c.2.2.1 = x :: r) (ha : (Vb c).length ≤ 100000) : Di c = some (Bau c (We c x r)) := by
 have h20 : Ga = 1048576 := rfl
 have hlim := Kg
 have h64 := h.len
 have hl8 := h.L
 have hkx : 0 ≤ x.2.1 := h.ev x (by rw [hq]; simp)
 have hlen : r.length ≤ 64 := by have := h.len; rw [hq] at this; simp at this; omega
 have hc := Q7 x r hlen
 have i0 : Ei (ja (x :: r)) (0 : Int) = true := by rw [show (0 : Int) = ((0 : Nat) : Int) from rfl, Qp]; exact Aa (by simp)
 have g0 : (x :: r)[(jy (0 : Int))]? = some x := rfl
 have hb : jx (ja ([] : List Ba) + ja r) Bb = true := ji (by simp; omega)
 obtain ⟨cL, ct, q, now, clk, dn, act, u⟩ := c
 cases u
 simp only at hq ha h64 hl8
 have ha' : act.length ≤ 100000 := ha
 subst hq
 unfold Di We
 simp only [i0, g0, hc.1, hc.2, hb, cond_true, jb]
 cases x.2.2.1 with
 | false =>
  simp only [qd, cond_true, cond_false]
  show jz (Fo (cL, ct, r, now, max clk x.1, dn, act, ()) x.2.1 (max clk x.1)) _ = _
  rw [Lah _ _ _ hkx (by show act.length ≤ Ga; omega)]
  rfl
 | true =>
  simp only [jg, cond_false, cond_true]
  rw [D5 _ _ _ _ (by omega) (by omega)]
  obtain ⟨n, hn, hn2⟩ := OW cL ct x r now
  simp only [jb]
  cases hm : (Xd cL ct (x :: r) now).1 == 0 with
  | true => rfl
  | false =>
   simp only [cond_false]
   rw [hn, Sap, jn, Nt (show n ≤ (x :: r).length by simp; omega) (jo _)]
   have hb2 : jx (ja ([] : List Ba) + ja ((x :: r).drop n)) Bb = true := ji (by rw [qz]; simp only [jw, qb] at h64 ⊢; omega)
   rw [hb2, Aa hkx, ZK _ _ (by omega)]
   simp only [cond_true, jb]
   have hb3 : ∀ v : Ba, jx (ja act + ja [v]) Bb = true := fun v => ji (by simp only [jw, qb]; omega)
   simp only [hb3, cond_true]
   cases decide ((Xd cL ct (x :: r) now).2.2 < 0) <;> rfl
theorem Cab {c c' : Da} {x : Ba} {r : List Ba} {l : List Ba} (h : GV c) (hq : c.2.2.1 = x :: r) (hs : We c x r = some (c', l)) :
 GV c' ∧ c'.2.2.1.length < c.2.2.1.length ∧ (Vb c').length ≤ (Vb c).length + 1 ∧ l.length ≤ 1 ∧ c'.2.2.2.1 = c.2.2.2.1 := by
 have h64 := h.len
 have hlen : c.2.2.1.length = r.length + 1 := by rw [hq]; rfl
 unfold We at hs
 cases hd : x.2.2.1 with
 | false =>
  rw [hd] at hs
  simp only [cond_false, jc] at hs
  have e1 : c' = (Lt (c.1, c.2.1, r, c.2.2.2.1, max c.2.2.2.2.1 x.1, c.2.2.2.2.2) x.2.1 (max c.2.2.2.2.1 x.1)).1 := by rw [hs]
  have e2 : l = (Lt (c.1, c.2.1, r, c.2.2.2.1, max c.2.2.2.2.1 x.1, c.2.2.2.2.2) x.2.1 (max c.2.2.2.2.1 x.1)).2 := by rw [hs]
  have hr : ∀ y ∈ r, 0 ≤ y.2.1 := fun y hy => h.ev y (by rw [hq]; simp [hy])
  unfold Lt at e1 e2
  split at e1
  ·rename_i hc
   rw [if_pos hc] at e2
   subst e1 e2
   exact ⟨⟨by show r.length ≤ 64; omega, hr, h.L, h.cb, h.r⟩, by show r.length < _; omega, by show (Vb c).length ≤ _; omega, by simp, rfl⟩
  ·rename_i hc
   rw [if_neg hc] at e2
   have hu := DaE (Vb c) x.2.1 (NF (c.1, c.2.1, r, c.2.2.2.1, max c.2.2.2.2.1 x.1, c.2.2.2.2.2) x.2.1).toNat h.r
   subst e1 e2
   refine ⟨⟨by show r.length ≤ 64; omega, hr, h.L, h.cb, hu.2⟩, by show r.length < _; omega, ?_, ?_, rfl⟩
   ·have := hu.1
    show (PL (Vb c) _ _).length ≤ _
    omega
   ·exact Van _ _ _
 | true =>
  rw [hd] at hs
  simp only [cond_true] at hs
  obtain ⟨n, hn, hn2⟩ := OW c.1 c.2.1 x r c.2.2.2.1
  rw [hq] at hs
  cases hm : (Xd c.1 c.2.1 (x :: r) c.2.2.2.1).1 == 0 with
  | true => rw [hm] at hs; simp at hs
  | false =>
   have hn0 : n ≠ 0 := by intro h0; rw [hn, h0] at hm; simp at hm
   rw [hm, hn, jn] at hs
   have hdl : ((x :: r).drop n).length < r.length + 1 := by rw [qz]; simp only [jw]; omega
   have hde : ∀ y ∈ (x :: r).drop n, 0 ≤ y.2.1 := fun y hy => h.ev y (by rw [hq]; exact qw hy)
   cases h2 : decide ((Xd c.1 c.2.1 (x :: r) c.2.2.2.1).2.2 < 0) with
   | true =>
    rw [h2] at hs
    simp only [cond_true, cond_false, jc, jh] at hs
    obtain ⟨rfl, rfl⟩ := hs
    exact ⟨⟨by show ((x :: r).drop n).length ≤ 64; omega, hde, h.L, h.cb, h.r⟩, by show ((x :: r).drop n).length < _; omega, by show (Vb c).length ≤ _; omega, by simp, rfl⟩
   | false =>
    rw [h2] at hs
    simp only [cond_false, jc, jh] at hs
    obtain ⟨rfl, rfl⟩ := hs
    refine ⟨⟨by show ((x :: r).drop n).length ≤ 64; omega, hde, h.L, h.cb, fun y hy => ?_⟩, by show ((x :: r).drop n).length < _; omega, by show (jf (Vb c) [_]).length ≤ _; simp, by simp, rfl⟩
    rcases jl.1 (show y ∈ Vb c ++ [_] from hy) with hy | hy
    ·exact h.r y hy
    ·rw [qh.1 hy]
     show Sy c.1 _ ≤ _
     unfold Sy
     cases hf : (Fh c.1 (Xd c.1 c.2.1 (x :: r) c.2.2.2.1).2.2).isSome with
     | true => have := WE h.cb hf; omega
     | false =>
      have e : Fh c.1 (Xd c.1 c.2.1 (x :: r) c.2.2.2.1).2.2 = none := Option.not_isSome_iff_eq_none.1 (by rw [hf]; simp)
      rw [e]
      decide
def Za : Nat → Da → List Ba → Da × List Ba
 | 0, c, o => (c, o)
 | n + 1, c, o => match c.2.2.1 with
  | [] => (c, o)
  | x :: r => match We c x r with
   | none => (c, o)
   | some (c', l) => Za n c' (jf o l)
theorem AQ (z : Da) : ∀ (n : Nat) (c : Da) (o : List Ba), GV c → c.2.2.1.length ≤ n → o.length + n ≤ 1000 → (Vb c).length + n ≤ 100000 →
 Tf (((), (), o, ()), (z, c, ())) = some (.inl (((), (), (Za n c o).2, ()), (z, (Za n c o).1, ())))
 | n, c, o, h, hl, ho, ha => by
  unfold Tf
  cases hq : c.2.2.1 with
  | nil =>
   have e1 : Za n c o = (c, o) := by
    cases n with
    | zero => rfl
    | succ n => simp only [Za, hq]
   have hstep : Pg () () o z c = some (.inr (.inl (((), (), o, ()), (z, c, ())))) := by
    unfold Pg
    rw [Ca (by rw [hq]; simp)]; rfl
   erw [Hh hstep]
   rw [e1]; rfl
  | cons x r =>
   have hlen : c.2.2.1.length = r.length + 1 := by rw [hq]; rfl
   cases n with
   | zero => omega
   | succ n =>
    have e1 : Za (n + 1) c o = match We c x r with
     | none => (c, o)
     | some (c', l) => Za n c' (jf o l) := by simp only [Za, hq]
    rw [e1]
    have hp := P1 h hq (by omega)
    cases hst : We c x r with
    | none =>
     have hstep : Pg () () o z c = some (.inr (.inl (((), (), o, ()), (z, c, ())))) := by
      unfold Pg
      rw [Aa (by rw [hlen]; omega)]
      show (jz (Di c) _) = _
      rw [hp, hst]; rfl
     erw [Hh hstep]; rfl
    | some p =>
     obtain ⟨c', l⟩ := p
     have hn := Cab h hq hst
     have hstep : Pg () () o z c = some (.inl (((), (), jf o l, ()), (z, c', ()))) := by
      unfold Pg
      rw [Aa (by rw [hlen]; omega)]
      show (jz (Di c) _) = _
      rw [hp, hst]
      have hb : jx (ja o + ja l) Bb = true := ji (by rw [Kg]; omega)
      simp only [Bau, jb, jg, cond_false, hb, cond_true]
     erw [Hh hstep]
     have ih := AQ z n c' (jf o l) hn.1 (by omega) (by
      have : (jf o l).length = o.length + l.length := by simp
      omega) (by omega)
     unfold Tf at ih
     exact ih
theorem JY : ∀ (n : Nat) (c : Da) (o : List Ba), GV c → GV (Za n c o).1 ∧ (Vb (Za n c o).1).length ≤ (Vb c).length + n ∧ (Za n c o).2.length ≤ o.length + n
 | 0, c, o, h => ⟨h, by show (Vb c).length ≤ _; omega, by show o.length ≤ _; omega⟩
 | n + 1, c, o, h => by
  cases hq : c.2.2.1 with
  | nil =>
   have e : Za (n + 1) c o = (c, o) := by simp only [Za, hq]
   rw [e]; exact ⟨h, by show (Vb c).length ≤ _; omega, by show o.length ≤ _; omega⟩
  | cons x r =>
   cases hst : We c x r with
   | none =>
    have e : Za (n + 1) c o = (c, o) := by simp only [Za, hq, hst]
    rw [e]; exact ⟨h, by show (Vb c).length ≤ _; omega, by show o.length ≤ _; omega⟩
   | some p =>
    obtain ⟨c', l⟩ := p
    have e : Za (n + 1) c o = Za n c' (jf o l) := by simp only [Za, hq, hst]
    have hn := Cab h hq hst
    have ih := JY n c' (jf o l) hn.1
    have e2 : (jf o l).length = o.length + l.length := by simp
    rw [e]
    exact ⟨ih.1, by omega, by omega⟩
def Z4 : Da := (([] : List Ja), (0 : Int), ([] : List Ba), (0 : Int), (0 : Int), (0 : Int), ([] : List Ba), ())
def Tz (c : Da) (l : List Ba) (til : Int) : Bool :=
 Kd c && (decide (c.2.2.2.1 ≤ til ∧ til ≤ 1000000) && (Wi l c.2.2.2.1 && (Rh l til && Jc (jf c.2.2.1 l) (Wk c) 24)))
def Ug (c : Da) (l : List Ba) (til : Int) : Da := (c.1, c.2.1, jf c.2.2.1 l, til, c.2.2.2.2)
def UF (c : Da) (l : List Ba) (til : Int) : Da × ((List Ba) × (Bool × Unit)) :=
 cond (Tz c l til) ((Za 64 (Ug c l til) []).1, (Za 64 (Ug c l til) []).2, true, ()) (Z4, [], false, ())
theorem Oam {l : List Ba} (h : ∀ x ∈ l, 0 ≤ x.1 ∧ x.1 ≤ 31) (hp : (l.map fun x => x.1.toNat).Nodup) : l.length ≤ 32 := by
 have := RW 32 (l.map fun x => x.1.toNat) hp (by
  intro y hy
  obtain ⟨x, hx, rfl⟩ := qy.1 hy
  have := h x hx
  omega)
 rwa [List.length_map] at this
theorem Z2 {L : List Ja} : ∀ {l pre : List Ba}, Hs L pre l = true → (∀ x ∈ l, 0 ≤ x.1) → (∀ x ∈ pre, 0 ≤ x.1) → (pre.map fun x => x.1.toNat).Nodup → ((pre ++ l).map fun x => x.1.toNat).Nodup
 | [], pre, _, _, _, hn => by simpa using hn
 | x :: l, pre, h, hx, hpre, hn => by
  simp only [Hs, jd] at h
  have hne : At pre x = true := h.1.2
  have := Z2 (l := l) (pre := pre ++ [x]) h.2 (fun y hy => hx y (by simp [hy])) (fun y hy => by
   rcases jl.1 hy with hy | hy
   ·exact hpre y hy
   ·rw [qh.1 hy]; exact hx x (by simp)) (by
   rw [List.map_append, List.nodup_append]
   refine ⟨hn, by simp, ?_⟩
   intro a ha b hb hab
   obtain ⟨y, hy, rfl⟩ := qy.1 ha
   simp only [List.map_cons, List.map_nil, qh] at hb
   subst hb
   have h1 := (Al (p := fun y : Ba => !(y.1 == x.1))).1 hne y hy
   simp only [Bool.not_eq_true', beq_eq_false_iff_ne] at h1
   have := hpre y hy
   have := hx x (by simp)
   omega)
  simpa using this
theorem ET {c : Da} (h : Kd c = true) : (Vb c).length ≤ 32 := by
 have ha := TB h
 refine Oam (fun x hx => ⟨(ha x hx).lo, (ha x hx).hi⟩) ?_
 simp only [Kd, jd] at h
 have := Z2 (pre := []) (l := Vb c) h.2.2.2.2.1.2.1 (fun x hx => (ha x hx).lo) (by simp) (by simp)
 simpa using this
theorem Maj {c : Da} {l : List Ba} {til : Int} (hz : Vj c) (hc : Kd c = true) (hf : Jc (jf c.2.2.1 l) (Wk c) 24 = true) : GV (Ug c l til) := by
 have h1 : Ke c.1 = true := by simp only [Kd, jd] at hc; exact hc.1
 have h2 : c.1.length ≤ 8 := by simp only [Ke, jd, decide_eq_true_eq] at h1; exact h1.1
 refine ⟨LO hf, fun x hx => ?_, h2, h1, hz.r⟩
 have := Ul (MO (BW hf) x hx)
 omega
theorem UK (c : Da) (l : List Ba) (til : Int) (hz : Vj c) (hl : l.length ≤ 1000000) : Gi c l til = some (UF c l til) := by
 have h20 : Ga = 1048576 := rfl
 have hzq := hz.q
 have hze := hz.e
 have hlapp : (jf c.2.2.1 l).length = c.2.2.1.length + l.length := by simp
 have hlim : jx (ja c.2.2.1 + ja l) Bb = true := ji (by rw [Kg]; omega)
 unfold Gi UF
 rw [ZG _ hz, Vr _ _ (by omega), VD _ hz, Ou _ hz.e]
 cases hd : Kd c with
 | false => rw [show Tz c l til = false by unfold Tz; rw [hd]; rfl]; rfl
 | true =>
  have hsw : NS c = true := by simp only [Kd, jd] at hd; exact hd.2.2.2.2.1.2.2
  have h64 : c.2.2.1.length ≤ 64 := by
   simp only [Kd, jd] at hd
   exact LO hd.2.2.2.2.2.1
  simp only [jb, jg, cond_false, hlim, cond_true, hsw]
  rw [Wr _ _ _ (by rw [hlapp]; omega)]
  simp only [jb]
  have key : ∀ (K : Option (Da × ((List Ba) × (Bool × Unit)))), (Jc (jf c.2.2.1 l) (Wk c) 24 = true → K = some ((Za 64 (Ug c l til) []).1, (Za 64 (Ug c l til) []).2, true, ())) →
   (cond (decide (til < c.2.2.2.1)) (some (Z4, [], false, ())) (cond (decide (til > 1000000)) (some (Z4, [], false, ())) (cond (!Wi l c.2.2.2.1) (some (Z4, [], false, ())) (cond (!Rh l til) (some (Z4, [], false, ())) (cond (!Jc (jf c.2.2.1 l) (Wk c) 24) (some (Z4, [], false, ())) K))))) =
   some (cond (Tz c l til) ((Za 64 (Ug c l til) []).1, (Za 64 (Ug c l til) []).2, true, ()) (Z4, [], false, ())) := by
   intro K hK
   unfold Tz
   rw [hd]
   by_cases h1 : til < c.2.2.2.1
   ·rw [Aa h1, Ca (show ¬ (c.2.2.2.1 ≤ til ∧ til ≤ 1000000) by omega)]; rfl
   ·by_cases h2 : til > 1000000
    ·rw [Ca h1, Aa h2, Ca (show ¬ (c.2.2.2.1 ≤ til ∧ til ≤ 1000000) by omega)]; rfl
    ·rw [Ca h1, Ca h2, Aa (show (c.2.2.2.1 ≤ til ∧ til ≤ 1000000) by omega)]
     cases Wi l c.2.2.2.1 with
     | false => rfl
     | true =>
      cases Rh l til with
      | false => rfl
      | true =>
       cases hq : Jc (jf c.2.2.1 l) (Wk c) 24 with
       | false => rfl
       | true => exact hK hq
  have hrun : Jc (jf c.2.2.1 l) (Wk c) 24 = true → ∀ z : Da, Tf (((), (), ([] : List Ba), ()), (z, (c.1, c.2.1, jf c.2.2.1 l, til, c.2.2.2.2), ())) = some (.inl (((), (), (Za 64 (Ug c l til) []).2, ()), (z, (Za 64 (Ug c l til) []).1, ()))) := by
   intro hq z
   have h1 := Maj (til := til) hz hd hq
   have h2 := h1.len
   have h3 := ET hd
   exact AQ z 64 (Ug c l til) [] h1 h2 (by simp) (by show (Vb c).length + 64 ≤ _; omega)
  by_cases h0 : l.length = 0
  ·have hna : Wi l c.2.2.2.1 = true := by unfold Wi; rw [h0]; rfl
   rw [Ca (show ¬ ((ja l : Nat) : Int) > 0 by omega)]
   simp only [cond_false]
   simp only [hna, jg, cond_false] at key
   exact key _ (fun hq => by rw [hrun hq]; rfl)
  ·obtain ⟨x, hx, hx1⟩ := M8 (l := l) (by omega)
   have hna : Wi l c.2.2.2.1 = !decide (x.1 < c.2.2.2.1) := by
    unfold Wi
    rw [show ((l.length : Int) == 0) = false by simp; intro h; rw [h] at h0; simp at h0, hx1]; rfl
   rw [Aa (show ((ja l : Nat) : Int) > 0 by omega), hx]
   simp only [cond_true, jb]
   simp only [hna, Bool.not_not] at key
   exact key _ (fun hq => by rw [hrun hq]; rfl)
def OL (w : Nat → Nat) (t : Nat) : Nat := ((cond (t.testBit 0) (w 0) 0) ||| (cond (t.testBit 1) (w 1) 0)) ||| ((cond (t.testBit 2) (w 2) 0) ||| (cond (t.testBit 3) (w 3) 0))
theorem Uan (w : Nat → Nat) (s t : Nat) : OL w (s ||| t) = OL w s ||| OL w t := by
 apply Nat.eq_of_testBit_eq
 intro i
 simp only [OL, Nat.testBit_or]
 cases s.testBit 0 <;> cases s.testBit 1 <;> cases s.testBit 2 <;> cases s.testBit 3 <;> cases t.testBit 0 <;> cases t.testBit 1 <;> cases t.testBit 2 <;> cases t.testBit 3 <;>
  simp only [Bool.or_true, Bool.true_or, Bool.or_false, Bool.false_or, cond_true, cond_false, Nat.zero_testBit] <;>
  cases (w 0).testBit i <;> cases (w 1).testBit i <;> cases (w 2).testBit i <;> cases (w 3).testBit i <;> rfl
def tri (i j : Nat) : Nat := if i ≤ j then j * (j + 1) / 2 + i else i * (i + 1) / 2 + j
def BD (e i j : Nat) : Bool := e.testBit (tri i j)
def ST (e s t : Nat) : Bool :=
 (s.testBit 0 && (t.testBit 0 && BD e 0 0 || t.testBit 1 && BD e 0 1 || (t.testBit 2 && BD e 0 2 || t.testBit 3 && BD e 0 3)) || s.testBit 1 && (t.testBit 0 && BD e 1 0 || t.testBit 1 && BD e 1 1 || (t.testBit 2 && BD e 1 2 || t.testBit 3 && BD e 1 3))) ||
 (s.testBit 2 && (t.testBit 0 && BD e 2 0 || t.testBit 1 && BD e 2 1 || (t.testBit 2 && BD e 2 2 || t.testBit 3 && BD e 2 3)) || s.testBit 3 && (t.testBit 0 && BD e 3 0 || t.testBit 1 && BD e 3 1 || (t.testBit 2 && BD e 3 2 || t.testBit 3 && BD e 3 3)))
def Mai (e a b s : Nat) : Nat := cond (ST e (rowN 4 s a) (rowN 4 s b)) (s ||| rowN 4 s b <<< (a * 4)) s
def a3 (e a : Nat) : Nat → Nat → Nat := fun b s => Mai e a b s
def a2 (e R : Nat) : Nat → Nat → Nat := fun a s => Zd (a3 e a) R s
def a1 (e R : Nat) : Nat → Nat → Nat := fun _ s => Zd (a2 e R) R s
def NP (e R : Nat) : Nat := Zd (a1 e R) R 33825
def RI (e R s : Nat) : Bool := (List.range R).all fun a => (List.range R).all fun b => !ST e (rowN 4 s a) (rowN 4 s b) || (rowN 4 s a ||| rowN 4 s b == rowN 4 s a)
theorem Cav : ∀ e : Fin 2, RI e.val 1 (NP e.val 1) = true := by decide +kernel
theorem Dav : ∀ e : Fin 8, RI e.val 2 (NP e.val 2) = true := by decide +kernel
theorem Eav : ∀ e : Fin 64, RI e.val 3 (NP e.val 3) = true := by decide +kernel
theorem Fav : ∀ e : Fin 1024, RI e.val 4 (NP e.val 4) = true := by decide +kernel
theorem Uag {e R : Nat} (he : e < 2 ^ (R * (R + 1) / 2)) (h1 : 1 ≤ R) (h4 : R ≤ 4) : RI e R (NP e R) = true := by
 have : R = 1 ∨ R = 2 ∨ R = 3 ∨ R = 4 := by omega
 rcases this with rfl | rfl | rfl | rfl
 ·exact Cav ⟨e, he⟩
 ·exact Dav ⟨e, he⟩
 ·exact Eav ⟨e, he⟩
 ·exact Fav ⟨e, he⟩
theorem MD (x y : Nat) : (x &&& y != 0) = true ↔ ∃ k, x.testBit k = true ∧ y.testBit k = true := by
 rw [bne_iff_ne]
 constructor
 ·intro h
  obtain ⟨k, hk⟩ := Nat.exists_testBit_of_ne_zero h
  rw [Nat.testBit_and, jd] at hk
  exact ⟨k, hk⟩
 ·rintro ⟨k, h1, h2⟩ h0
  have : (x &&& y).testBit k = true := by rw [Nat.testBit_and, h1, h2]; rfl
  rw [h0, Nat.zero_testBit] at this
  exact absurd this (by decide)
theorem BU (w : Nat → Nat) (t k : Nat) : (OL w t).testBit k = true ↔ ∃ i, i < 4 ∧ t.testBit i = true ∧ (w i).testBit k = true := by
 have e : (OL w t).testBit k = ((t.testBit 0 && (w 0).testBit k || t.testBit 1 && (w 1).testBit k) || (t.testBit 2 && (w 2).testBit k || t.testBit 3 && (w 3).testBit k)) := by
  simp only [OL, Nat.testBit_or]
  cases t.testBit 0 <;> cases t.testBit 1 <;> cases t.testBit 2 <;> cases t.testBit 3 <;> simp
 rw [e]
 simp only [Bool.or_eq_true, jd]
 constructor
 ·rintro ((h | h) | (h | h))
  ·exact ⟨0, by omega, h⟩
  ·exact ⟨1, by omega, h⟩
  ·exact ⟨2, by omega, h⟩
  ·exact ⟨3, by omega, h⟩
 ·rintro ⟨i, hi, h⟩
  have : i = 0 ∨ i = 1 ∨ i = 2 ∨ i = 3 := by omega
  rcases this with rfl | rfl | rfl | rfl
  ·exact .inl (.inl h)
  ·exact .inl (.inr h)
  ·exact .inr (.inl h)
  ·exact .inr (.inr h)
theorem Lam (e s t : Nat) : ST e s t = true ↔ ∃ i j, i < 4 ∧ j < 4 ∧ s.testBit i = true ∧ t.testBit j = true ∧ BD e i j = true := by
 have h4 : ∀ p : Nat → Prop, (∃ i, i < 4 ∧ p i) ↔ ((p 0 ∨ p 1) ∨ (p 2 ∨ p 3)) := by
  intro p
  constructor
  ·rintro ⟨i, hi, h⟩
   have : i = 0 ∨ i = 1 ∨ i = 2 ∨ i = 3 := by omega
   rcases this with rfl | rfl | rfl | rfl
   ·exact .inl (.inl h)
   ·exact .inl (.inr h)
   ·exact .inr (.inl h)
   ·exact .inr (.inr h)
  ·rintro ((h | h) | (h | h))
   ·exact ⟨0, by omega, h⟩
   ·exact ⟨1, by omega, h⟩
   ·exact ⟨2, by omega, h⟩
   ·exact ⟨3, by omega, h⟩
 have h5 : (∃ i j, i < 4 ∧ j < 4 ∧ s.testBit i = true ∧ t.testBit j = true ∧ BD e i j = true) ↔ ∃ i, i < 4 ∧ (s.testBit i = true ∧ ∃ j, j < 4 ∧ (t.testBit j = true ∧ BD e i j = true)) := by
  constructor
  ·rintro ⟨i, j, a, b, c, d, f⟩; exact ⟨i, a, c, j, b, d, f⟩
  ·rintro ⟨i, a, c, j, b, d, f⟩; exact ⟨i, j, a, b, c, d, f⟩
 rw [h5, h4]
 simp only [h4]
 simp only [ST, Bool.or_eq_true, jd]
def Tt (w : Nat → Nat) : Nat :=
 ((cond (w 0 &&& w 0 != 0) 1 0) ||| (cond (w 0 &&& w 1 != 0) 2 0) ||| (cond (w 1 &&& w 1 != 0) 4 0) ||| (cond (w 0 &&& w 2 != 0) 8 0) ||| (cond (w 1 &&& w 2 != 0) 16 0)) |||
 ((cond (w 2 &&& w 2 != 0) 32 0) ||| (cond (w 0 &&& w 3 != 0) 64 0) ||| (cond (w 1 &&& w 3 != 0) 128 0) ||| (cond (w 2 &&& w 3 != 0) 256 0) ||| (cond (w 3 &&& w 3 != 0) 512 0))
theorem DY (w : Nat → Nat) : ∀ i j, i < 4 → j < 4 → BD (Tt w) i j = (w i &&& w j != 0) := by
 have hc : ∀ i j, (w i &&& w j != 0) = (w j &&& w i != 0) := fun i j => by rw [Nat.and_comm]
 have key : ∀ b0 b1 b2 b3 b4 b5 b6 b7 b8 b9 : Bool,
  (let e := ((cond b0 1 0) ||| (cond b1 2 0) ||| (cond b2 4 0) ||| (cond b3 8 0) ||| (cond b4 16 0)) |||
 ((cond b5 32 0) ||| (cond b6 64 0) ||| (cond b7 128 0) ||| (cond b8 256 0) ||| (cond b9 512 0))
  e.testBit 0 = b0 ∧ e.testBit 1 = b1 ∧ e.testBit 2 = b2 ∧ e.testBit 3 = b3 ∧ e.testBit 4 = b4 ∧ e.testBit 5 = b5 ∧ e.testBit 6 = b6 ∧ e.testBit 7 = b7 ∧ e.testBit 8 = b8 ∧ e.testBit 9 = b9) := by decide +kernel
 have := key (w 0 &&& w 0 != 0) (w 0 &&& w 1 != 0) (w 1 &&& w 1 != 0) (w 0 &&& w 2 != 0) (w 1 &&& w 2 != 0) (w 2 &&& w 2 != 0) (w 0 &&& w 3 != 0) (w 1 &&& w 3 != 0) (w 2 &&& w 3 != 0) (w 3 &&& w 3 != 0)
 obtain ⟨h0, h1, h2, h3, h4, h5, h6, h7, h8, h9⟩ := this
 intro i j hi hj
 have i4 : i = 0 ∨ i = 1 ∨ i = 2 ∨ i = 3 := by omega
 have j4 : j = 0 ∨ j = 1 ∨ j = 2 ∨ j = 3 := by omega
 rcases i4 with rfl | rfl | rfl | rfl <;> rcases j4 with rfl | rfl | rfl | rfl
 ·exact h0
 ·exact h1
 ·exact h3
 ·exact h6
 ·rw [hc]; exact h1
 ·exact h2
 ·exact h4
 ·exact h7
 ·rw [hc]; exact h3
 ·rw [hc]; exact h4
 ·exact h5
 ·exact h8
 ·rw [hc]; exact h6
 ·rw [hc]; exact h7
 ·rw [hc]; exact h8
 ·exact h9
theorem Gap (w : Nat → Nat) {R : Nat} (h1 : 1 ≤ R) (h4 : R ≤ 4) (hw : ∀ i, R ≤ i → w i = 0) : Tt w < 2 ^ (R * (R + 1) / 2) := by
 have k1 : ∀ b : Bool, cond b 1 0 < 2 := by decide
 have k2 : ∀ b0 b1 b2 : Bool, (cond b0 1 0 ||| cond b1 2 0 ||| cond b2 4 0) < 8 := by decide
 have k3 : ∀ b0 b1 b2 b3 b4 b5 : Bool, ((cond b0 1 0 ||| cond b1 2 0 ||| cond b2 4 0 ||| cond b3 8 0 ||| cond b4 16 0) ||| cond b5 32 0) < 64 := by decide +kernel
 have k4 : ∀ b0 b1 b2 b3 b4 b5 b6 b7 b8 b9 : Bool, ((((cond b0 1 0) ||| (cond b1 2 0) ||| (cond b2 4 0) ||| (cond b3 8 0) ||| (cond b4 16 0)) |||  ((cond b5 32 0) ||| (cond b6 64 0) ||| (cond b7 128 0) ||| (cond b8 256 0) ||| (cond b9 512 0))) < 1024) := by decide +kernel
 have : R = 1 ∨ R = 2 ∨ R = 3 ∨ R = 4 := by omega
 rcases this with rfl | rfl | rfl | rfl
 ·have := k1 (w 0 &&& w 0 != 0)
  simpa [Tt, hw 1 (by omega), hw 2 (by omega), hw 3 (by omega)] using this
 ·have := k2 (w 0 &&& w 0 != 0) (w 0 &&& w 1 != 0) (w 1 &&& w 1 != 0)
  simpa [Tt, hw 2 (by omega), hw 3 (by omega)] using this
 ·have := k3 (w 0 &&& w 0 != 0) (w 0 &&& w 1 != 0) (w 1 &&& w 1 != 0) (w 0 &&& w 2 != 0) (w 1 &&& w 2 != 0) (w 2 &&& w 2 != 0)
  simpa [Tt, hw 3 (by omega)] using this
 ·exact k4 _ _ _ _ _ _ _ _ _ _
theorem A4 (w : Nat → Nat) (s t : Nat) : (OL w s &&& OL w t != 0) = ST (Tt w) s t := by
 rw [q7, MD, Lam]
 constructor
 ·rintro ⟨k, h1, h2⟩
  obtain ⟨i, hi, a, b⟩ := (BU w s k).1 h1
  obtain ⟨j, hj, c, d⟩ := (BU w t k).1 h2
  refine ⟨i, j, hi, hj, a, c, ?_⟩
  rw [DY w i j hi hj, MD]
  exact ⟨k, b, d⟩
 ·rintro ⟨i, j, hi, hj, a, c, h⟩
  rw [DY w i j hi hj, MD] at h
  obtain ⟨k, b, d⟩ := h
  exact ⟨k, (BU w s k).2 ⟨i, hi, a, b⟩, (BU w t k).2 ⟨j, hj, c, d⟩⟩
def QE (w : Nat → Nat) (C R m s : Nat) : Prop := ∀ r, r < R → rowN C m r = OL w (rowN 4 s r)
theorem YO {S T : Type} {g : Nat → S → S} {h : Nat → T → T} {p : S → T → Prop} {n : Nat} {s0 : S} {t0 : T} (h0 : p s0 t0) (hs : ∀ k s t, k < n → p s t → p (g k s) (h k t)) : ∀ k, k ≤ n → p (Zd g k s0) (Zd h k t0)
 | 0, _ => h0
 | k + 1, hk => hs k _ _ (by omega) (YO h0 hs k (by omega))
theorem Mar {w : Nat → Nat} {C R m s a b : Nat} (ha : a < R) (hb : b < R) (h : QE w C R m s) : QE w C R (Dv C a b m) (Mai (Tt w) a b s) := by
 unfold Dv Mai
 rw [h a ha, h b hb, A4]
 cases ST (Tt w) (rowN 4 s a) (rowN 4 s b) with
 | false => exact h
 | true =>
  simp only [cond_true]
  intro r hr
  rw [S9 C m a _ r (by rw [← h b hb]; exact XJ C m b), S9 4 s a _ r (XJ 4 s b)]
  by_cases e : r = a
  ·rw [if_pos e, if_pos e, Uan, h a ha]
  ·rw [if_neg e, if_neg e, h r hr]
theorem WaP {w : Nat → Nat} {C R m s a : Nat} (ha : a < R) (h : QE w C R m s) : QE w C R (Zd (g3 C a) R m) (Zd (a3 (Tt w) a) R s) :=
 YO (p := QE w C R) (g := g3 C a) (h := a3 (Tt w) a) (n := R) h (fun b s t hb h3 => Mar ha hb h3) R (jo R)
theorem VaP {w : Nat → Nat} {C R m s : Nat} (h : QE w C R m s) : QE w C R (Zd (g2 C R) R m) (Zd (a2 (Tt w) R) R s) :=
 YO (p := QE w C R) (g := g2 C R) (h := a2 (Tt w) R) (n := R) h (fun a s t ha h3 => WaP ha h3) R (jo R)
theorem UaP {w : Nat → Nat} {C R m s : Nat} (h : QE w C R m s) : QE w C R (Zd (g1 C R) R m) (Zd (a1 (Tt w) R) R s) :=
 YO (p := QE w C R) (g := g1 C R) (h := a1 (Tt w) R) (n := R) h (fun _ s t _ h3 => VaP h3) R (jo R)
def U4 (C R m i : Nat) : Nat := if i < R then rowN C m i else 0
theorem Lar {C R m : Nat} (hR : R ≤ 4) : QE (U4 C R m) C R (Sh C R m) (NP (Tt (U4 C R m)) R) := by
 have h0 : QE (U4 C R m) C R m 33825 := by
  intro r hr
  have : r = 0 ∨ r = 1 ∨ r = 2 ∨ r = 3 := by omega
  have e0 : rowN 4 33825 0 = 1 := by decide
  have e1 : rowN 4 33825 1 = 2 := by decide
  have e2 : rowN 4 33825 2 = 4 := by decide
  have e3 : rowN 4 33825 3 = 8 := by decide
  rcases this with rfl | rfl | rfl | rfl
  ·rw [e0, show rowN C m 0 = U4 C R m 0 from (if_pos hr).symm]; simp [OL, show Nat.testBit 1 1 = false from by decide, show Nat.testBit 1 2 = false from by decide, show Nat.testBit 1 3 = false from by decide]
  ·rw [e1, show rowN C m 1 = U4 C R m 1 from (if_pos hr).symm]; simp [OL, show Nat.testBit 2 0 = false from by decide, show Nat.testBit 2 1 = true from by decide, show Nat.testBit 2 2 = false from by decide, show Nat.testBit 2 3 = false from by decide]
  ·rw [e2, show rowN C m 2 = U4 C R m 2 from (if_pos hr).symm]; simp [OL, show Nat.testBit 4 0 = false from by decide, show Nat.testBit 4 1 = false from by decide, show Nat.testBit 4 2 = true from by decide, show Nat.testBit 4 3 = false from by decide]
  ·rw [e3, show rowN C m 3 = U4 C R m 3 from (if_pos hr).symm]; simp [OL, show Nat.testBit 8 0 = false from by decide, show Nat.testBit 8 1 = false from by decide, show Nat.testBit 8 2 = false from by decide, show Nat.testBit 8 3 = true from by decide]
 unfold Sh NP
 exact UaP h0
theorem Eai {C m a x : Nat} (h : rowN C m a ||| x = rowN C m a) : m ||| x <<< (a * C) = m := by
 apply Nat.eq_of_testBit_eq
 intro i
 rw [Nat.testBit_or, Nat.testBit_shiftLeft]
 cases hx : (decide (i ≥ a * C) && x.testBit (i - a * C)) with
 | false => simp
 | true =>
  simp only [jd, decide_eq_true_eq] at hx
  have h1 : (rowN C m a).testBit (i - a * C) = true := by rw [← h, Nat.testBit_or, hx.2]; simp
  rw [JD, jd] at h1
  have h2 := h1.2
  rw [show a * C + (i - a * C) = i by omega] at h2
  rw [h2]; rfl
theorem XO {S : Type} {g : Nat → S → S} {n : Nat} {s : S} (h : ∀ k, k < n → g k s = s) : ∀ k, k ≤ n → Zd g k s = s
 | 0, _ => rfl
 | k + 1, hk => by
  show g k (Zd g k s) = s
  rw [XO h k (by omega)]
  exact h k (by omega)
theorem I4 {C R m : Nat} (h : RG C R) : Sh C R (Sh C R m) = Sh C R m := by
 have hrel := Lar (C := C) (m := m) h.r2
 have hcl := Uag (Gap (U4 C R m) h.r1 h.r2 fun i hi => if_neg (by omega)) h.r1 h.r2
 have hst : ∀ a b, a < R → b < R → Dv C a b (Sh C R m) = Sh C R m := by
  intro a b ha hb
  unfold Dv
  cases hc : (rowN C (Sh C R m) a &&& rowN C (Sh C R m) b != 0) with
  | false => rfl
  | true =>
   simp only [cond_true]
   apply Eai
   rw [hrel a ha, hrel b hb] at hc ⊢
   rw [A4] at hc
   simp only [RI, List.all_eq_true, List.mem_range, Bool.or_eq_true, Bool.not_eq_true', beq_iff_eq] at hcl
   rcases hcl a ha b hb with h1 | h1
   ·rw [hc] at h1; exact absurd h1 (by decide)
   ·rw [← Uan, h1]
 unfold Sh at hst ⊢
 exact XO (n := R) (fun _ _ => XO (n := R) (fun a ha => XO (n := R) (fun b hb => hst a b ha hb) R (jo R)) R (jo R)) R (jo R)
theorem AV {M : Md} {x : Int} (h : Pb M x = true) : Rp M (Ki M x) = true := by
 unfold Rp
 rw [Zam h, jk, beq_iff_eq]
 obtain ⟨C, R, m, d, rfl, rfl, hd, hm⟩ := Wy h
 rw [JH, JH]
 cases d with
 | true => rfl
 | false =>
  show ((Sh C R (Sh C R m) : Nat) : Int) = _
  rw [I4 hd]; rfl
def GB (a b t : Int) (k : Nat) (o : List Ba) : List Ba := cond (Rd a (k : Int) != Rd b (k : Int)) (jf o [(t, (k : Int), Rd b (k : Int) == 1, ())]) o
def XG (a b t : Int) : List Ba := Zd (GB a b t) 32 []
theorem SY (a b t : Int) : ∀ n, (Zd (GB a b t) n []).length ≤ n
 | 0 => jo _
 | n + 1 => by
  have ih := SY a b t n
  show (GB a b t n (Zd (GB a b t) n [])).length ≤ n + 1
  unfold GB at ih ⊢
  cases Rd a (n : Int) != Rd b (n : Int)
  ·simp only [cond_false]; omega
  ·simp only [cond_true]; simp; omega
theorem XK (a b t : Int) : Xl a b t = some (XG a b t, ()) := by
 have hl := Un (step := fun x => Ol x.1.1 x.1.2.1 x.1.2.2.1 x.1.2.2.2.1 x.1.2.2.2.2.1) 32 (by omega) (GB a b t) [] (fun o i => ((a, b, t, o, i, ()), ())) (fun o => .inl ((o, ()), ())) (by
  intro k hk
  have hlen := SY a b t k
  simp only [Ol]
  rw [Aa (by omega), Nl a (by omega), Nl b (by omega)]
  simp only [cond_true, jb]
  show _ = some (Sum.inl ((a, b, t, GB a b t k (Zd (GB a b t) k []), _, ()), ()))
  generalize Zd (GB a b t) k [] = o at hlen ⊢
  unfold GB
  have hb : ∀ v : Ba, jx (ja o + ja [v]) Bb = true := fun v => ji (by rw [Kg]; simp only [jw, qb]; omega)
  cases Rd a (k : Int) != Rd b (k : Int)
  ·rfl
  ·simp only [cond_true, hb]) (by
  simp only [Ol]
  rw [Ca (by omega)]; rfl)
 unfold Xl Mn
 erw [hl]
 rfl
noncomputable def VI (b : Mb) (x : Int) : Bool := Hl b && (Pb b.1 x && !decide (b.2.2.2.2.2.1 ≥ 1000000))
def Xi (b : Mb) (x : Int) : Int := JV b.1 b.2.2.2.2.1 (Ki b.1 x)
def Og (b : Mb) (x : Int) : Ib := (Nq b.2.1 (Xi b x)).1
def Iv (b : Mb) (x : Int) : Da × ((List Ba) × (Bool × Unit)) := UF b.2.2.1 (XG b.2.1.2.2.2.1 (Og b x).2.2.2.1 b.2.2.2.2.2.1) b.2.2.2.2.2.1
noncomputable def Tv (b : Mb) (x : Int) : Xa × ((List Yc) × (Bool × Unit)) := FG b.2.2.2.1 (Iv b x).2.1 b.2.2.2.2.2.1
noncomputable def Th (b : Mb) (x : Int) : Mb × ((List Yc) × (Bool × Unit)) :=
 cond (VI b x && ((Iv b x).2.2.1 && (Tv b x).2.2.1))
  ((b.1, Og b x, (Iv b x).1, (Tv b x).1, Xi b x, j9 .i64 (b.2.2.2.2.2.1 + 1), ()), (Tv b x).2.1, true, ()) (EK, [], false, ())
structure Waf (b : Mb) (x : Int) : Prop where
 bd : Hl b = true
 msk : Pb b.1 x = true
 old : Pb b.1 b.2.2.2.2.1 = true
 dk : b.2.1.2.2.1 = Mc b.1
 db : Bd b.2.1 = true
 cb : Kd b.2.2.1 = true
 dc : Sd b.2.2.2.1 = true
 t : 0 ≤ b.2.2.2.2.2.1 ∧ b.2.2.2.2.2.1 ≤ 1000000
theorem CK {b : Mb} {x : Int} (h : Hl b = true) (hm : Pb b.1 x = true) : Waf b x := by
 have hb := h
 simp only [Hl, jd, decide_eq_true_eq, beq_iff_eq] at h
 exact ⟨hb, hm, h.2.2.2.2.2.2.1, h.2.2.2.2.1, h.2.1, h.2.2.1, h.2.2.2.1, h.2.2.2.2.2.2.2.2.1⟩
theorem LF {b : Mb} {x : Int} (h : Waf b x) : RH b.1 b.2.2.2.2.1 (Ki b.1 x) = true ∧ Pb b.1 (Xi b x) = true ∧ Sm b.2.1 (Xi b x) = true := by
 have h1 : RH b.1 b.2.2.2.2.1 (Ki b.1 x) = true := by
  unfold RH
  rw [h.old, AV h.msk]; rfl
 have h2 := Fap h1
 refine ⟨h1, h2, ?_⟩
 unfold Sm
 rw [h.db, jk, h.dk]
 have h3 : Pb b.1 (Xi b x) = true := h2
 simp only [Pb, jd] at h3
 exact h3.2
theorem BR {b : Mb} {x : Int} (h : Waf b x) : Nq b.2.1 (Xi b x) = (Og b x, true, ()) ∧ Og b x = (b.2.1.1, b.2.1.2.1, b.2.1.2.2.1, (OC b.2.1 (Xi b x)).1, Xi b x, (OC b.2.1 (Xi b x)).2, ()) := by
 have := (LF h).2.2
 unfold Og Nq
 rw [this]
 exact ⟨rfl, rfl⟩
theorem O7 (c : Da) (l : List Ba) (til : Int) (hz : Vj c) : (UF c l til).2.1.length ≤ 64 ∧ Vj (UF c l til).1 ∧ Lc Yd (UF c l til).1 ≤ 200 := by
 unfold UF
 cases h : Tz c l til with
 | false =>
  simp only [cond_false]
  exact ⟨by simp, ⟨by decide, by decide, by decide, fun x hx => by simp [Z4] at hx⟩, by decide⟩
 | true =>
  simp only [Tz, jd] at h
  have h1 := Maj (til := til) hz h.1 h.2.2.2.2
  have h2 := JY 64 (Ug c l til) [] h1
  have h3 : (Vb (Ug c l til)).length ≤ 32 := show (Vb c).length ≤ 32 from ET h.1
  have h4 := h2.1.L
  have h5 := h2.1.len
  have h6 := h2.2.1
  have h7 := h2.2.2
  have h20 : Ga = 1048576 := rfl
  simp only [cond_true]
  refine ⟨by simp at h7; omega, ⟨by omega, by omega, by show (Vb _).length ≤ _; omega, h2.1.r⟩, ?_⟩
  rw [Fab]
  have : (Za 64 (Ug c l til) []).1.2.2.2.2.2.2.1.length ≤ 96 := by show (Vb _).length ≤ _; omega
  omega
theorem ER {e : Jb} (h : Up e) : Lc Pc e ≤ 1000 := by
 have hh := Uz h.hd
 have h2 : Lc (.sl (.sl Td)) e.2.1 ≤ (16 + 1) * e.2.1.length := AU (e := .sl Td) (c := 16) fun x hx => by
  have := h.mac x hx
  simp only [Vd, jd, decide_eq_true_eq] at this
  have e2 : Lc (.sl Td) x = x.length := Cr (e := Td) rfl x
  omega
 have := h.m4
 have hm := Nj h.km
 have h3 : Lc Ec e.1 ≤ 200 := by
  have h1 : Lc Ec e.1 = 0 + (Lc (.sl (.sl Sc)) e.1.2.1 + 0) := rfl
  have h2 : Lc (.sl (.sl Sc)) e.1.2.1 ≤ (32 + 1) * ja e.1.2.1 := AU (e := .sl Sc) (c := 32) fun x hx => by
   obtain ⟨i, hi, rfl⟩ := qx hx
   rw [N0]
   have := hm.row i hi
   have := hm.k2
   omega
  have := hm.l2
  omega
 rw [Um, Im]
 omega
theorem TZ : ∀ (n : Nat) (d : Xa) (s : List Yc), QN d → (∀ y ∈ s, y.2.1.2.1.length ≤ 56) → QN (Lb n d s).1 ∧ (Lb n d s).2.length ≤ s.length + 17 * n ∧ (∀ y ∈ (Lb n d s).2, y.2.1.2.1.length ≤ 56)
 | 0, d, s, h, hs => ⟨h, by show s.length ≤ _; omega, hs⟩
 | n + 1, d, s, h, hs => by
  cases hq : d.2.2.1 with
  | nil =>
   have e : Lb (n + 1) d s = (d, s) := by simp only [Lb, hq]
   rw [e]; exact ⟨h, by show s.length ≤ _; omega, hs⟩
  | cons x r =>
   cases hst : Mg d x r with
   | none =>
    have e : Lb (n + 1) d s = (d, s) := by simp only [Lb, hq, hst]
    rw [e]; exact ⟨h, by show s.length ≤ _; omega, hs⟩
   | some p =>
    obtain ⟨d', l⟩ := p
    have e : Lb (n + 1) d s = Lb n d' (Yh s d'.2.2.2.2.1 l) := by simp only [Lb, hq, hst]
    have hn := B2 h hq hst
    have ih := TZ n d' (Yh s d'.2.2.2.2.1 l) hn.1 (fun y hy => by
     rcases jl.1 (show y ∈ s ++ _ from hy) with hy | hy
     ·exact hs y hy
     ·obtain ⟨r', hr', rfl⟩ := qy.1 hy
      exact hn.2.2.2 r' hr')
    have e2 := L4 s d'.2.2.2.2.1 l
    have h17 := hn.2.2.1
    rw [e]
    exact ⟨ih.1, by omega, ih.2.2⟩
theorem Far (d : Xa) (l : List Ba) (til : Int) : Lc Be (FG d l til).1 ≤ 2000 ∧ (FG d l til).2.1.length ≤ 1088 ∧ (∀ y ∈ (FG d l til).2.1, y.2.1.2.1.length ≤ 56) := by
 unfold FG
 cases h : Cw d l til with
 | false => simp only [cond_false]; exact ⟨by decide, by simp, by simp⟩
 | true =>
  simp only [Cw, jd] at h
  have h1 := B1 (til := til) h.1 h.2.2.2.2
  have h2 := TZ (Qd d l til).2.2.1.length (Qd d l til) [] h1 (by simp)
  have h64 := h1.len
  simp only [cond_true]
  refine ⟨?_, by have := h2.2.1; simp at this; omega, h2.2.2⟩
  rw [Jv, Qm]
  have h3 := ER h2.1.eng
  have := h2.1.len
  omega
theorem O8 (b : Mb) (x : Int) (hb : Xv b) : Ps b x = some (Th b x) := by
 have h20 : Ga = 1048576 := rfl
 unfold Ps Th VI
 rw [VK b hb, Fl]
 cases h1 : Hl b with
 | false => rfl
 | true =>
  cases h2 : Pb b.1 x with
  | false => rfl
  | true =>
   have hp := CK h1 h2
   have ha := LF hp
   have hd := BR hp
   simp only [jb, jg, cond_false, jk]
   cases h3 : decide (b.2.2.2.2.2.1 ≥ 1000000) with
   | true => rfl
   | false =>
    rw [OT h2]
    simp only [jb, cond_false]
    rw [UM, ha.1]
    simp only [jb, cond_true, jg, cond_false]
    show jz (Ek b.2.1 (Xi b x)) _ = _
    rw [QU _ _ hb.d, hd.1]
    simp only [jb, jg, cond_false]
    rw [XK]
    simp only [jb]
    have hev := SY b.2.1.2.2.2.1 (Og b x).2.2.2.1 b.2.2.2.2.2.1 32
    rw [UK _ _ _ hb.c (by unfold XG; omega)]
    have hcl := O7 b.2.2.1 (XG b.2.1.2.2.2.1 (Og b x).2.2.2.1 b.2.2.2.2.2.1) b.2.2.2.2.2.1 hb.c
    have e1 : UF b.2.2.1 (XG b.2.1.2.2.2.1 (Og b x).2.2.2.1 b.2.2.2.2.2.1) b.2.2.2.2.2.1 = Iv b x := rfl
    rw [e1] at hcl ⊢
    simp only [jb]
    rw [AH _ _ _ hb.x (by omega)]
    have e2 : FG b.2.2.2.1 (Iv b x).2.1 b.2.2.2.2.2.1 = Tv b x := rfl
    rw [e2]
    simp only [jb, qd, jk]
    cases (Iv b x).2.2.1 with
    | false => rfl
    | true => cases (Tv b x).2.2.1 <;> rfl
theorem Lae (b : Mb) (x : Int) (hb : Xv b) : Xv (Th b x).1 ∧ Lc Ze (Th b x).1 ≤ 3000 ∧ (Th b x).2.1.length ≤ 1088 ∧ (∀ y ∈ (Th b x).2.1, y.2.1.2.1.length ≤ 56) := by
 have h20 : Ga = 1048576 := rfl
 unfold Th
 cases h : VI b x && ((Iv b x).2.2.1 && (Tv b x).2.2.1) with
 | false => simp only [cond_false]; exact ⟨⟨by decide, ⟨by decide, by decide, by decide, fun x hx => by simp [EK] at hx⟩, by decide⟩, by decide, by simp, by simp⟩
 | true =>
  simp only [jd, VI] at h
  have hp := CK h.1.1 h.1.2.1
  have hd := BR hp
  have hdp := Xt hp.db
  have hcl := O7 b.2.2.1 (XG b.2.1.2.2.2.1 (Og b x).2.2.2.1 b.2.2.2.2.2.1) b.2.2.2.2.2.1 hb.c
  have hpl := Far b.2.2.2.1 (Iv b x).2.1 b.2.2.2.2.2.1
  have hda : (Og b x).2.2.2.2.2.1.length ≤ 24 := by
   rw [hd.2]
   have h1 := (A1 hdp (Xi b x)).len
   have h2 := hdp.len
   have h3 := hdp.k2
   show (OC b.2.1 (Xi b x)).2.length ≤ 24
   omega
  simp only [cond_true]
  refine ⟨⟨by show (Og b x).2.2.2.2.2.1.length ≤ _; omega, hcl.2.1, by show Lc Be (Tv b x).1 ≤ _; have := hpl.1; unfold Tv; omega⟩, ?_, hpl.2.1, hpl.2.2⟩
  rw [J7]
  show Lc Zc (Og b x) + (Lc Yd (Iv b x).1 + Lc Be (Tv b x).1) ≤ 3000
  rw [Zaj]
  have h1 : Lc Yd (Iv b x).1 ≤ 200 := hcl.2.2
  have h2 : Lc Be (Tv b x).1 ≤ 2000 := hpl.1
  omega
def Fas : Jb := (((0 : Int), ([] : List (List Pa)), ()), ([] : List (List Xb)), (0 : Int), ([] : List Va), (0 : Int), false, ())
noncomputable def DN (e : Jb) (t : Xb) : Xa × (Bool × Unit) := cond (Sd (Zm e t)) (Zm e t, true, ()) (GK, false, ())
theorem Hab (e : Jb) (t : Xb) : Lc Be (Zm e t) = Lc Pc e := by
 rw [Jv]
 show Lc Pc e + Lc (.sl Nc) [] = _
 rw [Qm]; rfl
theorem DQ (e : Jb) (t : Xb) (hz : Lc Pc e ≤ Ga) : Cx e t = some (DN e t) := by
 unfold Cx DN
 rw [Wl _ hz]
 simp only [jb]
 have := Pr (Zm e t) (by rw [Hab]; exact hz)
 unfold Zm at this
 rw [this]
 unfold Zm
 cases Sd (e, t, ([] : List Ba), (0 : Int), (0 : Int), (0 : Int), (0 : Int), ()) <;> rfl
theorem EQ (e : Jb) (t : Xb) (hz : Lc Pc e ≤ Ga) : Hq e t = some (DN e t) := by
 unfold Hq DN
 have := CI (Zm e t) (by rw [Hab]; exact hz)
 unfold Zm at this
 rw [this]
 simp only [jb]
 unfold Zm
 cases Sd (e, t, ([] : List Ba), (0 : Int), (0 : Int), (0 : Int), (0 : Int), ()) with
 | false => rfl
 | true =>
  simp only [jg, cond_false, cond_true]
  rw [IF _ hz]
  rfl
theorem RK {α S R : Type} (g : S → α → S ⊕ R) : ∀ (l l2 : List α) (k j : Nat) (s s' : S), Sa (fun _ s x => g s x) k s l = .inl s' → Sa (fun _ s x => g s x) k s (l ++ l2) = Sa (fun _ s x => g s x) j s' l2
 | [], l2, k, j, s, s', h => by
  simp only [Sa, Sum.inl.injEq] at h
  subst h
  exact Aw g l2 k j s
 | x :: l, l2, k, j, s, s', h => by
  simp only [Sa, List.cons_append] at h ⊢
  cases hx : g s x with
  | inl s1 => rw [hx] at h; exact RK g l l2 (k + 1) j s1 s' h
  | inr r => rw [hx] at h; simp at h
theorem A9 {l l2 : List Xb} {L : List Va} (h : CP l = .inl L) : CP (l ++ l2) = Sa (fun _ L x => Sk L x) 0 L l2 := RK Sk l l2 0 0 [] L h
theorem Pax {c m : Int} (h : Qc (2, c, m, 0, ()) = true) : Sa (fun _ L x => Sk L x) 0 [] [((0 : Int), c, m, ())] = .inl [] := by
 simp only [Sa, Sk, Cd, Jk]
 rw [h]
 rfl
theorem Jam {c m c2 : Int} (h : Qc (2, c, m, 0, ()) = true) (h2 : Qc (2, c2, 8, 0, ()) = true) (hm : m ≠ 8) :
 Sa (fun _ L x => Sk L x) 0 [] [((1 : Int), c, m, ()), ((0 : Int), c2, (8 : Int), ()), ((2 : Int), c, m, ())] = .inl [] := by
 have e1 : Oh c2 8 (Gh ((1 : Int), c, m, ())) = false := by unfold Oh Gh; simp [hm]
 have e2 : Oh c m (Gh ((1 : Int), c, m, ())) = true := by unfold Oh Gh; simp
 have a1 : Sk [] ((1 : Int), c, m, ()) = .inl [Gh ((1 : Int), c, m, ())] := by
  simp only [Sk, Cd, Jk]
  rw [h]
  rfl
 have a2 : Sk [Gh ((1 : Int), c, m, ())] ((0 : Int), c2, (8 : Int), ()) = .inl [Gh ((1 : Int), c, m, ())] := by
  have f : Cd (Oh c2 8) 0 [Gh ((1 : Int), c, m, ())] = -1 := by simp only [Cd]; rw [e1]; rfl
  show cond (Jk ((0 : Int), c2, (8 : Int), ()) (Cd (Oh c2 8) 0 [Gh ((1 : Int), c, m, ())])) (Sum.inl (DF ((0 : Int), c2, (8 : Int), ()) [Gh ((1 : Int), c, m, ())] (Cd (Oh c2 8) 0 [Gh ((1 : Int), c, m, ())]))) (Sum.inr ()) = _
  rw [f]
  unfold Jk
  rw [h2]
  rfl
 have a3 : Sk [Gh ((1 : Int), c, m, ())] ((2 : Int), c, m, ()) = .inl [] := by
  have f : Cd (Oh c m) 0 [Gh ((1 : Int), c, m, ())] = 0 := by simp only [Cd]; rw [e2]; rfl
  show cond (Jk ((2 : Int), c, m, ()) (Cd (Oh c m) 0 [Gh ((1 : Int), c, m, ())])) (Sum.inl (DF ((2 : Int), c, m, ()) [Gh ((1 : Int), c, m, ())] (Cd (Oh c m) 0 [Gh ((1 : Int), c, m, ())]))) (Sum.inr ()) = _
  rw [f]
  unfold Jk
  rw [h]
  rfl
 simp only [Sa, a1, a2, a3]
theorem WaA {c m : Int} (hc : 1 ≤ c ∧ c ≤ 56) (hm : 0 ≤ m ∧ m ≤ 15) : Qc (2, c, m, 0, ()) = true := by
 rw [Tb]
 show Yb 2 c m 0
 unfold Yb
 omega
theorem Raq {l : List Xb} (h : CP l = .inl []) (hl : l.length ≤ 6) : Vd l = true := by
 unfold Vd
 rw [h, Aa (by omega)]
 rfl
theorem Vak {c : Ab} (hc : Uh c) : ∃ (c' : Ab) (l : List Xb), OG c = some (c', (l, ())) ∧ Uh c' ∧ Vd l = true ∧ l.length ≤ 6 := by
 obtain ⟨c1, x1, e1, hc1, b1⟩ := Eh hc 3 (by omega)
 obtain ⟨x, rfl⟩ := jv b1.1
 unfold OG
 rw [e1]
 simp only [jb]
 have step := Uy (s := fun x : ((Unit × (List Xb × (Int × Unit))) × (Ab × Unit)) => KE x.1.1 x.1.2.1 x.1.2.2.1 x.2.1)
  (fun z y => ∃ (c' : Ab) (l : List Xb), y = (((), l, (z : Int), ()), (c', ())) ∧ Uh c' ∧ CP l = .inl [] ∧ l.length + 3 * z ≤ 6)
  (fun r => ∃ (c' : Ab) (l : List Xb), r = .inl (((), l, ()), (c', ())) ∧ Uh c' ∧ CP l = .inl [] ∧ l.length ≤ 6) (by
  rintro z y ⟨c', l, rfl, hc', hm, hl⟩
  simp only [KE]
  by_cases h1 : (z : Int) > 0
  ·rw [Aa h1]
   obtain ⟨c3, k, e3, hc3, bk⟩ := Eh hc' 56 (by omega)
   obtain ⟨c4, m, e4, hc4, hmm⟩ := Xad hc3 [(0 : Int), (0 : Int), (2 : Int), (1 : Int)] (by simp) (by simp)
   obtain ⟨c5, b, e5, hc5⟩ := Ct hc4 2 (by omega)
   have hm3 : m = 0 ∨ m = 2 ∨ m = 1 := by simpa using hmm
   have hw : j9 .i64 ((z : Int) - 1) = ((z - 1 : Nat) : Int) := by rw [Xc (by omega) (by omega)]; omega
   rw [e3]
   simp only [cond_true, jb, e4, e5]
   rw [hw, Xc (n := 1 + k) (by omega) (by omega)]
   have ha := WaA (c := 1 + k) (m := m) (by omega) (by omega)
   cases b with
   | true =>
    simp only [cond_true]
    rw [Gg (by simp; omega)]
    refine .inr ⟨_, z - 1, by omega, rfl, c5, _, rfl, hc5, ?_, ?_⟩
    ·rw [List.append_eq, A9 hm]; exact Pax ha
    ·rw [List.append_eq, qi]; simp; omega
   | false =>
    simp only [cond_false]
    rw [Gg (by simp; omega)]
    refine .inr ⟨_, z - 1, by omega, rfl, c5, _, rfl, hc5, ?_, ?_⟩
    ·rw [List.append_eq, A9 hm, Xc (n := (60 : Int) - ((ja l : Nat) : Int)) (by omega) (by omega), Xc (n := (60 : Int) - ((ja l : Nat) : Int) - 10) (by omega) (by omega)]
     exact Jam ha (WaA (by omega) (by omega)) (by omega)
    ·rw [List.append_eq, qi]; simp; omega
  ·rw [Ca h1]
   exact .inl ⟨_, rfl, c', l, rfl, hc', hm, by omega⟩) x (((), ([] : List Xb), (x : Int), ()), (c1, ())) ⟨c1, [], rfl, hc1, rfl, by simp; omega⟩
 obtain ⟨r, e, c', l, rfl, hc', hm, hl⟩ := step
 unfold Mz
 erw [e]
 exact ⟨c', l, rfl, hc', Raq hm hl, hl⟩
def Sl (m : Hb) (M : List (List Xb)) : Jb := (m, M, (0 : Int), ([] : List Va), (0 : Int), false, ())
theorem E1 {m : Hb} {M : List (List Xb)} (hm : Wd m = true) (h4 : M.length ≤ 4) (hM : ∀ x ∈ M, Vd x = true) : Up (Sl m M) :=
 ⟨hm, h4, (Hav hm).hd, hM, fun x hx => absurd hx (by simp [Sl]), ZaD _⟩
theorem GX {m : Hb} {M : List (List Xb)} (hm : Wd m = true) (h4 : M.length ≤ 4) (hM : ∀ x ∈ M, Vd x = true) : JA m M = some (Sl m M, true, ()) := by
 have h := E1 hm h4 hM
 have hs := JT h
 have h1 := AK (Sl m M) (by omega)
 have h2 := IF (Sl m M) (by omega)
 rw [(OM _).2 h] at h1
 unfold JA
 unfold Sl at h1 h2 ⊢
 rw [h1]
 simp only [jb, jg, cond_false]
 rw [h2]
 rfl
theorem Qaq {c : Ab} (hc : Uh c) {keys : Nat} (hk1 : 1 ≤ keys) (hk : keys ≤ 32) : ∃ (c' : Ab) (m : Hb) (M : List (List Xb)), QI c (keys : Int) = some (c', (Sl m M, ())) ∧ Uh c' ∧ Wd m = true ∧ m.1 = (keys : Int) ∧ M.length ≤ 3 ∧ ∀ x ∈ M, Vd x = true ∧ x.length ≤ 6 := by
 obtain ⟨c1, x1, e1, hc1, b1⟩ := Eh hc 4 (by omega)
 obtain ⟨x, rfl⟩ := jv b1.1
 unfold QI
 rw [e1]
 simp only [jb]
 have step := Uy (s := fun x : ((Unit × (Int × (Unit × (List (List Xb) × (Int × Unit))))) × (Ab × (Jb × Unit))) => JF x.1.1 x.1.2.1 x.1.2.2.1 x.1.2.2.2.1 x.1.2.2.2.2.1 x.2.1 x.2.2.1)
  (fun z y => ∃ (c' : Ab) (M : List (List Xb)), y = (((), (keys : Int), (), M, (z : Int), ()), (c', Fas, ())) ∧ Uh c' ∧ M.length + z ≤ 3 ∧ ∀ x ∈ M, Vd x = true ∧ x.length ≤ 6)
  (fun r => ∃ (c' : Ab) (M : List (List Xb)), r = .inl (((), (keys : Int), (), M, ()), (c', Fas, ())) ∧ Uh c' ∧ M.length ≤ 3 ∧ ∀ x ∈ M, Vd x = true ∧ x.length ≤ 6) (by
  rintro z y ⟨c', M, rfl, hc', hz, hM⟩
  simp only [JF]
  by_cases h1 : (z : Int) > 0
  ·rw [Aa h1]
   obtain ⟨c3, l, e3, hc3, hl, hl6⟩ := Vak hc'
   have hw : j9 .i64 ((z : Int) - 1) = ((z - 1 : Nat) : Int) := by rw [Xc (by omega) (by omega)]; omega
   rw [e3]
   simp only [cond_true, jb]
   rw [hw, Gg (by simp; omega)]
   refine .inr ⟨_, z - 1, by omega, rfl, c3, _, rfl, hc3, ?_, ?_⟩
   ·rw [List.append_eq, qi]; simp; omega
   ·intro x hx
    rcases jl.1 (show x ∈ M ++ [l] from hx) with h | h
    ·exact hM x h
    ·simp at h; subst h; exact ⟨hl, hl6⟩
  ·rw [Ca h1]
   exact .inl ⟨_, rfl, c', M, rfl, hc', by omega, hM⟩) x (((), (keys : Int), (), ([] : List (List Xb)), (x : Int), ()), (c1, Fas, ())) ⟨c1, [], rfl, hc1, by simp; omega, by simp⟩
 obtain ⟨r, e, c', M, rfl, hc', hz, hM⟩ := step
 unfold AB
 erw [e]
 simp only [jb, qn]
 obtain ⟨c2, m, e2, hc2, hm, hmk⟩ := Uak hc' hk1 hk
 rw [e2]
 simp only [jb]
 rw [GX hm (by omega) (fun x hx => (hM x hx).1)]
 exact ⟨c2, m, M, rfl, hc2, hm, hmk, hz, hM⟩
theorem V3 {c : Ab} (hc : Uh c) {keys : Nat} (hk1 : 1 ≤ keys) (hk : keys ≤ 32) : ∃ (c' : Ab) (m : Hb) (M : List (List Xb)) (t : Xb), Rf c (keys : Int) = some (c', (Zm (Sl m M) t, ())) ∧ Uh c' ∧ Wd m = true ∧ m.1 = (keys : Int) ∧ M.length ≤ 3 ∧
 (∀ x ∈ M, Vd x = true ∧ x.length ≤ 6) ∧ Se t = true ∧ t.1 ≤ 9 := by
 obtain ⟨c1, m1, M, e1, hc1, hm1, hmk1, hM3, hM⟩ := Qaq hc hk1 hk
 unfold Rf
 rw [e1]
 simp only [jb]
 have step := Uy (s := fun x : ((Unit × (Int × (Unit × (Unit × (Int × Unit))))) × (Ab × (Xa × (Jb × Unit)))) => EE x.1.1 x.1.2.1 x.1.2.2.1 x.1.2.2.2.1 x.1.2.2.2.2.1 x.2.1 x.2.2.1 x.2.2.2.1)
  (fun z y => ∃ (c' : Ab) (m : Hb) (k : Nat), y = (((), (keys : Int), (), (), (k : Int), ()), (c', GK, Sl m M, ())) ∧ z + k = keys ∧ Uh c' ∧ Wd m = true ∧ m.1 = (keys : Int))
  (fun r => ∃ (c' : Ab) (m : Hb), r = .inl (((), (), (), ()), (c', GK, Sl m M, ())) ∧ Uh c' ∧ Wd m = true ∧ m.1 = (keys : Int)) (by
  rintro z y ⟨c', m, k, rfl, hz, hc', hm, hmk⟩
  simp only [EE]
  by_cases h1 : (k : Int) < (keys : Int)
  ·rw [Aa h1]
   obtain ⟨c3, b, e3, hc3⟩ := Ct hc' 2 (by omega)
   rw [e3]
   simp only [cond_true, jb]
   rw [Ig (by omega)]
   cases b with
   | false => exact .inr ⟨_, z - 1, by omega, rfl, c3, m, k + 1, rfl, by omega, hc3, hm, hmk⟩
   | true =>
    have hm0 := hm
    unfold Wd at hm0
    simp only [jd, decide_eq_true_eq] at hm0
    obtain ⟨⟨hk', hL⟩, hall⟩ := hm0
    have hi : 0 < m.2.1.length := by omega
    have hrow := Kk.1 hall 0 hi
    rw [js] at hrow
    have hlen := Naa hrow
    have hkk : k < (m.2.1[0]).length := by omega
    obtain ⟨c4, u, e4, hc4, bu⟩ := Eh hc3 40 (by omega)
    obtain ⟨c5, v, e5, hc5, bv⟩ := Eh hc4 15 (by omega)
    have i1 : Ei (ja (Sl m M).1.2.1) (0 : Int) = true := by
     show Ei (ja m.2.1) ((0 : Nat) : Int) = true
     rw [Qp, Aa hi]
    have i2 : (Sl m M).1.2.1[jy (0 : Int)]? = some m.2.1[0] := by
     show m.2.1[0]? = _
     exact je hi
    have i3 : Ei (ja m.2.1[0]) (k : Int) = true := by rw [Qp, Aa hkk]
    have i4 : m.2.1[0][jy (k : Int)]? = some m.2.1[0][k] := by rw [jn]; exact je hkk
    rw [i1, i2]
    simp only [cond_true, jb, e4, e5]
    rw [i3, i4]
    simp only [cond_true, jb]
    rw [Xc (n := 1 + u) (by omega) (by omega), Xc (n := 1 + v) (by omega) (by omega)]
    refine .inr ⟨_, z - 1, by omega, rfl, c5, (m.1, qa m.2.1 0 (qa m.2.1[0] k ((6 : Int), 1 + u, 1 + v, (0 : Int), ())), ()), k + 1, rfl, by omega, hc5, ?_, hmk⟩
    have hok : Lg m.2.1.length 0 ((6 : Int), 1 + u, 1 + v, (0 : Int), ()) = true := by
     unfold Lg
     have : Qc ((6 : Int), 1 + u, 1 + v, (0 : Int), ()) = true := by
      rw [Tb]; show Yb 6 (1 + u) (1 + v) 0; unfold Yb; omega
     rw [this]
     rw [Ca (show ¬ (0 : Int) ≥ ((m.2.1.length : Nat) : Int) by omega)]
     rfl
    unfold Wd
    simp only [jd, decide_eq_true_eq, qc]
    exact ⟨⟨hk', hL⟩, G7 hall (Oaa hrow hok)⟩
  ·rw [Ca h1]
   exact .inl ⟨_, rfl, c', m, rfl, hc', hm, hmk⟩) keys (((), (keys : Int), (), (), ((0 : Nat) : Int), ()), (c1, GK, Sl m1 M, ())) ⟨c1, m1, 0, rfl, by omega, hc1, hm1, hmk1⟩
 obtain ⟨r, e, c', m, rfl, hc', hm, hmk⟩ := step
 unfold Dz
 erw [e]
 simp only [jb, qn]
 obtain ⟨c2, a, ea, hca, ba⟩ := Eh hc' 9 (by omega)
 obtain ⟨c3, p, ep, hcp, hp⟩ := Xad hca [(0 : Int), (0 : Int), (3 : Int), (6 : Int)] (by simp) (by simp)
 obtain ⟨c4, f, ef, hcf, bf⟩ := Eh hcp 3 (by omega)
 have hp' : p = 0 ∨ p = 3 ∨ p = 6 := by simpa using hp
 unfold GF
 rw [ea]
 simp only [jb, ep, ef]
 rw [Xc (n := 1 + a) (by omega) (by omega)]
 have hE := E1 hm (by omega) (fun x hx => (hM x hx).1)
 have hz := JT hE
 have ht : Se (1 + a, p, f, ()) = true := by
  unfold Se
  simp only [jd, decide_eq_true_eq]
  omega
 have hd : Sd (Zm (Sl m M) (1 + a, p, f, ())) = true := by
  have h := V0 hE ht
  rw [DQ _ _ (by omega)] at h
  unfold DN at h
  cases hx : Sd (Zm (Sl m M) (1 + a, p, f, ())) with
  | true => rfl
  | false => rw [hx] at h; simp at h
 have hn := EQ (Sl m M) (1 + a, p, f, ()) (by omega)
 unfold DN at hn
 rw [hd] at hn
 have hn' : Hq (((Sl m M).1.1, (Sl m M).1.2.1, ()), (Sl m M).2) (1 + a, p, f, ()) = some (Zm (Sl m M) (1 + a, p, f, ()), true, ()) := hn
 erw [hn']
 exact ⟨c4, m, M, (1 + a, p, f, ()), rfl, hcf, hm, hmk, hM3, hM, ht, by show 1 + a ≤ 9; omega⟩
structure Fi (keys : Nat) (t0 : Int) (m0 : Nat) (l : List Ba) (t : Int) (m : Nat) : Prop where
 f : Sa (fun _ s x => Bm (keys : Int) s x) 0 (t0, (m0 : Int)) l = .inl (t, (m : Int))
 m0 : m0 < 2 ^ 63
 m : m < 2 ^ 63
theorem Js (keys : Nat) (t : Int) {m : Nat} (hm : m < 2 ^ 63) : Fi keys t m [] t m := ⟨rfl, hm, hm⟩
theorem YG {keys : Nat} {t0 t t2 : Int} {m0 m m2 : Nat} {l l2 : List Ba} (h : Fi keys t0 m0 l t m) (h2 : Fi keys t m l2 t2 m2) : Fi keys t0 m0 (l ++ l2) t2 m2 :=
 ⟨by rw [RK (Bm (keys : Int)) l l2 0 0 _ _ h.f]; exact h2.f, h.m0, h2.m⟩
theorem N3 {keys : Int} {s s' : Int × Int} {x : Ba} (h : Bm keys s x = .inl s') : Gj s x = true ∧ x.2.1 < keys ∧ s' = (x.1, Kf .i64 s.2 (Ra .i64 1 x.2.1)) := by
 unfold Bm at h
 revert h
 cases h1 : Gj s x with
 | false => intro h; simp at h
 | true =>
  by_cases h2 : x.2.1 ≥ keys
  ·rw [Aa h2]; intro h; simp at h
  ·rw [Ca h2]
   intro h
   simp only [qd, qt, cond_true, Sum.inl.injEq] at h
   exact ⟨rfl, by omega, h.symm⟩
theorem Pab {s : Int × Int} {x : Ba} (h : Gj s x = true) : Uf x = true ∧ s.1 ≤ x.1 ∧ (x.2.2.1 == (Rd s.2 x.2.1 == 1)) = false := by
 simp only [Gj, jd, Bool.not_eq_true', decide_eq_false_iff_not] at h
 exact ⟨h.1, by have := h.2.1; omega, h.2.2⟩
theorem Dk {keys : Nat} {t0 t : Int} {m0 m : Nat} {x : Ba} {l : List Ba} (h : Fi keys t0 m0 (x :: l) t m) : ∃ k : Nat, x.2.1 = (k : Int) ∧ k < keys ∧ k ≤ 31 ∧ t0 ≤ x.1 ∧ 0 ≤ x.1 ∧ x.1 ≤ 1000000 ∧
 (x.2.2.1 == (m0.testBit k)) = false ∧ Fi keys x.1 (m0 ^^^ 2 ^ k) l t m := by
 have hf := h.f
 simp only [Sa] at hf
 cases hx : Bm (keys : Int) (t0, (m0 : Int)) x with
 | inr u => rw [hx] at hf; simp at hf
 | inl s' =>
  rw [hx] at hf
  obtain ⟨h1, h2, rfl⟩ := N3 hx
  obtain ⟨h3, h4, h5⟩ := Pab h1
  have hk := Ul h3
  obtain ⟨k, hk'⟩ := jv hk.2.2.1
  have hk' : x.2.1 = (k : Int) := hk'
  simp only [hk'] at hf h5
  rw [Kj h.m0 (by omega)] at h5
  rw [Qf (by omega), Mo h.m0 (Gf (by omega)), Aw (Bm (keys : Int)) l 1 0] at hf
  exact ⟨k, hk', by omega, by omega, h4, hk.1, hk.2.1, h5, ⟨hf, qu h.m0 (Gf (by omega)), h.m⟩⟩
theorem RD {keys : Nat} : ∀ {l : List Ba} {t0 t : Int} {m0 m : Nat}, Fi keys t0 m0 l t m → t0 ≤ t
 | [], t0, t, m0, m, h => by have := h.f; simp only [Sa, Sum.inl.injEq, jh] at this; omega
 | x :: l, t0, t, m0, m, h => by
  obtain ⟨k, _, _, _, h1, _, _, _, h2⟩ := Dk h
  have := RD h2
  omega
theorem Kab {keys : Nat} : ∀ {l : List Ba} {t0 t : Int} {m0 m : Nat}, Fi keys t0 m0 l t m → l ≠ [] → KI l = t ∧ 0 ≤ t ∧ t ≤ 1000000
 | [], _, _, _, _, _, h => absurd rfl h
 | [x], t0, t, m0, m, h, _ => by
  obtain ⟨k, _, _, _, h1, h3, h4, _, h2⟩ := Dk h
  have := h2.f
  simp only [Sa, Sum.inl.injEq, jh] at this
  refine ⟨?_, by omega, by omega⟩
  show x.1 = t
  exact this.1
 | x :: y :: l, t0, t, m0, m, h, _ => by
  obtain ⟨k, _, _, _, h1, _, _, _, h2⟩ := Dk h
  obtain ⟨h3, h4⟩ := Kab h2 (by simp)
  refine ⟨?_, h4⟩
  rw [← h3]
  simp [KI]
theorem RM {keys : Nat} {t0 t : Int} {m0 m : Nat} (h : Fi keys t0 m0 [] t m) : t = t0 ∧ m = m0 := by
 have := h.f
 simp only [Sa, Sum.inl.injEq, jh] at this
 exact ⟨this.1.symm, by omega⟩
theorem An {keys : Nat} {l : List Ba} {t0 t0' t : Int} {m0 m : Nat} (h : Fi keys t0 m0 l t m) (hle : t0' ≤ t0) : ∃ t', t' ≤ t ∧ Fi keys t0' m0 l t' m := by
 cases l with
 | nil =>
  obtain ⟨rfl, rfl⟩ := RM h
  exact ⟨t0', hle, Js _ _ h.m0⟩
 | cons x l =>
  refine ⟨t, Int.le_refl _, ?_, h.m0, h.m⟩
  have hf := h.f
  simp only [Sa] at hf ⊢
  cases hx : Bm (keys : Int) (t0, (m0 : Int)) x with
  | inr u => rw [hx] at hf; simp at hf
  | inl s' =>
   rw [hx] at hf
   obtain ⟨h1, h2, rfl⟩ := N3 hx
   obtain ⟨h3, h4, h5⟩ := Pab h1
   have : Bm (keys : Int) (t0', (m0 : Int)) x = .inl (x.1, Kf .i64 (m0 : Int) (Ra .i64 1 x.2.1)) := by
    unfold Bm Gj
    simp only at h4 h5 ⊢
    rw [h3, Ca (show ¬ t0' > x.1 by omega), h5, Ca (show ¬ x.2.1 ≥ (keys : Int) by omega)]
    rfl
   rw [this]
   exact hf
theorem KT {keys : Nat} {l : List Ba} {t0 t : Int} {m0 m : Nat} (h : Fi keys t0 m0 l t m) (h0 : 0 ≤ t0) (hl : l.length ≤ 64) : Jc l (m0 : Int) (keys : Int) = true := by
 obtain ⟨t', _, h'⟩ := An h h0
 have h2 := CM (keys : Int) l 0 (0, (m0 : Int))
 rw [h'.f] at h2
 have h3 := h2.symm
 simp only [Ok, jd] at h3
 unfold Jc BN ED G8
 rw [h3.1, Aa hl]
 have h4 := h3.2
 cases hx : Sa (fun _ s x => Oq s x) 0 (0, (m0 : Int)) l with
 | inl s => rfl
 | inr u => rw [hx] at h4; simp [Ok] at h4
theorem Z7 {keys : Nat} {l : List Ba} {t0 t : Int} {m0 m : Nat} (h : Fi keys t0 m0 l t m) : Wi l t0 = true := by
 cases l with
 | nil => rfl
 | cons x l =>
  obtain ⟨k, _, _, _, h1, _⟩ := Dk h
  unfold Wi
  rw [Ca (show ¬ Hah (x :: l) < t0 by show ¬ x.1 < t0; omega)]
  simp
theorem PK {keys : Nat} {l : List Ba} {t0 t til : Int} {m0 m : Nat} (h : Fi keys t0 m0 l t m) (ht : t ≤ til) : Rh l til = true := by
 unfold Rh
 by_cases hl : l = []
 ·subst hl; rfl
 ·have := (Kab h hl).1
  rw [Aa (show KI l ≤ til by omega)]
  simp
theorem Lab {keys : Nat} : ∀ {l : List Ba} {t0 t : Int} {m0 m : Nat} (k : Nat), Fi keys t0 m0 l t m → Dd (fun _ s (x : Ba) => Kf .i64 s (Ra .i64 1 x.2.1)) k (m0 : Int) l = (m : Int)
 | [], t0, t, m0, m, k, h => by obtain ⟨_, rfl⟩ := RM h; rfl
 | x :: l, t0, t, m0, m, k, h => by
  obtain ⟨j, hj, h1, h2, h3, h4, h5, h6, h7⟩ := Dk h
  simp only [Dd]
  rw [hj, Qf (by omega), Mo h.m0 (Gf (by omega))]
  exact Lab (k + 1) h7
structure GQ (keys : Nat) (d : Xa) : Prop where
 pl : QN d
 ks : d.1.1.1 = (keys : Int)
 mac : ∀ x ∈ d.1.2.1, x.length ≤ 6
 tim : Se d.2.1 = true
 now : 0 ≤ d.2.2.2.1 ∧ d.2.2.2.1 ≤ 1000000
 clk : 0 ≤ d.2.2.2.2.1 ∧ d.2.2.2.2.1 ≤ d.2.2.2.1
 tp : 0 ≤ d.2.2.2.2.2.1 ∧ d.2.2.2.2.2.1 ≤ (keys : Int)
 ta : 0 ≤ d.2.2.2.2.2.2.1 ∧ d.2.2.2.2.2.2.1 ≤ d.2.2.2.1
 q : ∃ (t0 t : Int) (m0 m : Nat), Rm d.1.2.2.2.1 m0 ∧ Fi keys t0 m0 d.2.2.1 t m ∧ 0 ≤ t0 ∧ t ≤ d.2.2.2.1
theorem WR {l : List Va} {m m' : Nat} (h : Rm l m) (h' : Rm l m') : m = m' := Nat.eq_of_testBit_eq fun j => by rw [h.bit, h'.bit]
theorem Aak {keys : Nat} {d : Xa} (h : GQ keys d) : Sd d = true := by
 obtain ⟨t0, t, m0, m, h1, h2, h3, h4⟩ := h.q
 obtain ⟨m1, h5, h6⟩ := RT h.pl.eng.hd
 obtain rfl := WR h1 h6
 have hE := (OM _).2 h.pl.eng
 have hF := KT h2 h3 h.pl.len
 have hB := PK h2 h4
 have a1 := h.now; have a2 := h.clk; have a3 := h.tp; have a4 := h.ta; have a5 := h.ks
 unfold Sd
 rw [hE, h.tim, h5, a5, hF, hB, Aa a1, Aa a2, Aa a3, Aa a4]
 rfl
theorem IR {α S R : Type} (g : S → α → S ⊕ R) : ∀ (l : List α) (k : Nat) (s : S) (r : R), Sa (fun _ s x => g s x) k s l = .inr r → ∃ x ∈ l, ∃ s', g s' x = .inr r
 | [], k, s, r, h => by simp [Sa] at h
 | x :: l, k, s, r, h => by
  simp only [Sa] at h
  cases hx : g s x with
  | inr r' => rw [hx] at h; simp only [Sum.inr.injEq] at h; subst h; exact ⟨x, by simp, s, hx⟩
  | inl s' =>
   rw [hx] at h
   obtain ⟨y, hy, s2, h2⟩ := IR g l (k + 1) s' r h
   exact ⟨y, jr _ hy, s2, h2⟩
theorem Uaj {t : Mp} {key at_ : Int} {l : List Ba} {til : Int} (hl : ∀ x ∈ l, x.1 ≤ til) (h : (Ed t key at_ l til).1 ≠ 0) : (Ed t key at_ l til).2.1 ≤ til := by
 revert h
 unfold Ed
 cases Se t && decide (0 ≤ at_ ∧ at_ ≤ 1000000) with
 | false => intro h; exact absurd rfl h
 | true =>
  simp only [cond_true]
  generalize j9 .i64 (at_ + t.1) = e
  cases hc : chR t.2.2.1 key e l with
  | inl s =>
   by_cases h1 : til ≥ e
   ·rw [Aa h1]; intro _; exact h1
   ·rw [Ca h1]; intro h; exact absurd rfl h
  | inr r =>
   intro h
   show r.2 ≤ til
   obtain ⟨x, hx, s, hg⟩ := IR (GJ t.2.2.1 key e) l 0 0 r hc
   have hxl := hl x hx
   have h' : r.1 ≠ 0 := h
   unfold GJ at hg
   revert hg
   cases Uf x with
   | false => intro hg; simp only [cond_false, Sum.inr.injEq] at hg; subst hg; exact absurd rfl h'
   | true =>
    simp only [cond_true]
    by_cases he : x.1 ≥ e
    ·rw [Aa he]; intro hg; simp only [cond_true, Sum.inr.injEq] at hg; subst hg; show e ≤ til; omega
    ·rw [Ca he]
     simp only [cond_false]
     cases x.2.1 == key <;> cases x.2.2.1 <;> cases t.2.2.1 == 1 <;> cases t.2.2.1 == 2 <;> cases Rd s x.2.1 == 1 <;> (intro hg; simp only [cond_true, cond_false, Sum.inr.injEq, reduceCtorEq] at hg; try (subst hg; exact hxl))
theorem A8 {keys : Nat} : ∀ {l : List Ba} {t0 t : Int} {m0 m : Nat}, Fi keys t0 m0 l t m → ∀ x ∈ l, x.1 ≤ t
 | [], _, _, _, _, _, x, hx => absurd hx (by simp)
 | y :: l, t0, t, m0, m, h, x, hx => by
  obtain ⟨j, hj, h1, h2, h3, h4, h5, h6, h7⟩ := Dk h
  rcases jp.1 hx with rfl | hx
  ·exact RD h7
  ·exact A8 h7 x hx
theorem Cak {keys : Nat} {d d' : Xa} {x : Ba} {r : List Ba} {l : List La} (h : GQ keys d) (hq : d.2.2.1 = x :: r) (hs : Mg d x r = some (d', l)) :
 GQ keys d' ∧ d'.2.2.1 = r ∧ d'.2.2.2.1 = d.2.2.2.1 ∧ d'.2.1 = d.2.1 ∧ d'.1.1 = d.1.1 := by
 have hN := B2 h.pl hq hs
 have hF := KO h.pl hq
 obtain ⟨t0, t, m0, m, hm, hE, h0, ht⟩ := h.q
 rw [hq] at hE
 obtain ⟨k, hk, hkk, hk31, hx0, hx1, hx2, hdn, hR⟩ := Dk hE
 have hxt := RD hR
 have hp := ((QC d.1.2.2.2.1).1 h.pl.eng.hd).2
 have hrl : ∀ y ∈ r, y.1 ≤ d.2.2.2.1 := fun y hy => by have := A8 hR y hy; omega
 have b1 := h.clk; have b2 := h.tp; have b3 := h.ta; have b4 := h.now
 have hks : keys ≤ 32 := by have := (Nj h.pl.eng.km).k2; have := h.ks; omega
 have hw : j9 .i64 (x.2.1 + 1) = (k : Int) + 1 := by rw [hk, Xc (by omega) (by omega)]
 have press : ∀ b : Bool, x.2.2.1 = true → Rm (pE d.1 k b).2.2.2.1 (m0 ^^^ 2 ^ k) := by
  intro b hd
  have hn2 := hF.down hd
  refine DP hm (by omega) ?_ _
  cases hh : Co d.1.2.2.2.1 k with
  | false => rfl
  | true =>
   simp only [Co, List.any_eq_true, beq_iff_eq] at hh
   obtain ⟨y, hy, hyk⟩ := hh
   exact absurd (hyk.trans hk.symm) (hn2 y hy)
 unfold Mg at hs
 cases hd : x.2.2.1 with
 | false =>
  rw [hd] at hs
  simp only [qd, cond_true, jc, jh] at hs
  obtain ⟨rfl, rfl⟩ := hs
  obtain ⟨hi, hi1, hi2⟩ := hF.up hd
  refine ⟨⟨hN.1, h.ks, h.mac, h.tim, b4, ?_, b2, ?_, x.1, t, _, m, TJ hp hm (by omega) hi (by rw [hi2, hk]), hR, hx1, ht⟩, rfl, rfl, rfl, rfl⟩
  ·show 0 ≤ max d.2.2.2.2.1 x.1 ∧ max d.2.2.2.2.1 x.1 ≤ d.2.2.2.1
   omega
  ·show 0 ≤ cond (d.2.2.2.2.2.1 == j9 .i64 (x.2.1 + 1)) x.1 d.2.2.2.2.2.2.1 ∧ cond (d.2.2.2.2.2.1 == j9 .i64 (x.2.1 + 1)) x.1 d.2.2.2.2.2.2.1 ≤ d.2.2.2.1
   cases d.2.2.2.2.2.1 == j9 .i64 (x.2.1 + 1)
   ·exact b3
   ·show 0 ≤ x.1 ∧ x.1 ≤ d.2.2.2.1; omega
 | true =>
  rw [hd, hw, hk] at hs
  simp only [jg, cond_false, jn] at hs
  cases htp : Jf (Rj d.1.1.2.1 (Ji d.1.1 (Ik d.1.2.2.1 d.1.2.2.2.1) k) k) with
  | false =>
   rw [htp] at hs
   simp only [cond_false, jc, jh] at hs
   obtain ⟨rfl, rfl⟩ := hs
   refine ⟨⟨hN.1, h.ks, h.mac, h.tim, b4, ?_, b2, b3, x.1, t, _, m, press false hd, hR, hx1, ht⟩, rfl, rfl, rfl, rfl⟩
   show 0 ≤ max d.2.2.2.2.1 x.1 ∧ max d.2.2.2.2.1 x.1 ≤ d.2.2.2.1
   omega
  | true =>
   rw [htp] at hs
   simp only [cond_true] at hs
   have hch : ∀ ch : Int × Int, ch = (cond ((d.2.2.2.2.2.1 == (k : Int) + 1) && !decide (j9 .i64 (x.1 - d.2.2.2.2.2.2.1) ≥ d.2.1.2.1)) ((1 : Int), x.1) ((Ed d.2.1 (k : Int) x.1 r d.2.2.2.1).1, (Ed d.2.1 (k : Int) x.1 r d.2.2.2.1).2.1)) → ch.1 ≠ 0 → ch.2 ≤ d.2.2.2.1 := by
    rintro ch rfl
    cases (d.2.2.2.2.2.1 == (k : Int) + 1) && !decide (j9 .i64 (x.1 - d.2.2.2.2.2.2.1) ≥ d.2.1.2.1) with
    | true => intro _; show x.1 ≤ _; omega
    | false => intro h0; exact Uaj hrl h0
   revert hs
   generalize hche : (cond ((d.2.2.2.2.2.1 == (k : Int) + 1) && !decide (j9 .i64 (x.1 - d.2.2.2.2.2.2.1) ≥ d.2.1.2.1)) ((1 : Int), x.1) ((Ed d.2.1 (k : Int) x.1 r d.2.2.2.1).1, (Ed d.2.1 (k : Int) x.1 r d.2.2.2.1).2.1)) = ch
   have hcl := hch ch hche.symm
   intro hs
   cases h0' : ch.1 == 0 with
   | true => rw [h0'] at hs; simp at hs
   | false =>
    have hcl := hcl (by simpa using h0')
    rw [h0'] at hs
    simp only [cond_false, jc, jh] at hs
    obtain ⟨rfl, rfl⟩ := hs
    refine ⟨⟨hN.1, h.ks, h.mac, h.tim, b4, ?_, ?_, ?_, x.1, t, _, m, press _ hd, hR, hx1, ht⟩, rfl, rfl, rfl, rfl⟩
    ·show 0 ≤ max (max d.2.2.2.2.1 x.1) ch.2 ∧ max (max d.2.2.2.2.1 x.1) ch.2 ≤ d.2.2.2.1
     omega
    ·show 0 ≤ cond (ch.1 == 2) 0 ((k : Int) + 1) ∧ cond (ch.1 == 2) 0 ((k : Int) + 1) ≤ (keys : Int)
     cases ch.1 == 2
     ·show 0 ≤ (k : Int) + 1 ∧ (k : Int) + 1 ≤ _; omega
     ·show 0 ≤ (0 : Int) ∧ (0 : Int) ≤ _; omega
    ·show 0 ≤ cond (ch.1 == 2) d.2.2.2.2.2.2.1 x.1 ∧ cond (ch.1 == 2) d.2.2.2.2.2.2.1 x.1 ≤ d.2.2.2.1
     cases ch.1 == 2
     ·show 0 ≤ x.1 ∧ x.1 ≤ _; omega
     ·exact b3
theorem Bak {keys : Nat} {d : Xa} (h : GQ keys d) {l : List Ba} {t0 tq t : Int} {mh mq m : Nat} (hm : Rm d.1.2.2.2.1 mh) (h0 : 0 ≤ t0) (hQ : Fi keys t0 mh d.2.2.1 tq mq) (hqn : tq ≤ d.2.2.2.1)
 (hL : Fi keys d.2.2.2.1 mq l t m) (hlen : d.2.2.1.length + l.length ≤ 64) {til : Int} (ht : t ≤ til) (h6 : til ≤ 1000000) : Cw d l til = true ∧ GQ keys (Qd d l til) := by
 have hB := Aak h
 have hn := RD hL
 obtain ⟨t', ht', hL'⟩ := An hL hqn
 have hC := YG hQ hL'
 obtain ⟨m1, h5, h6'⟩ := RT h.pl.eng.hd
 obtain rfl := WR hm h6'
 have hF := KT hC h0 (by rw [qi]; omega)
 have b1 := h.clk; have b2 := h.tp; have b3 := h.ta; have b4 := h.now; have b5 := h.ks
 have hF' : Jc (jf d.2.2.1 l) (Yo d.1.2.2.2.1) d.1.1.1 = true := by rw [h5, b5]; exact hF
 refine ⟨?_, B1 hB hF', h.ks, h.mac, h.tim, ?_, ?_, h.tp, ?_, t0, t', mh, m, hm, hC, h0, ?_⟩
 ·unfold Cw
  rw [hB, Aa (show d.2.2.2.1 ≤ til ∧ til ≤ 1000000 by omega), Z7 hL, PK hL ht, hF']
  rfl
 ·show 0 ≤ til ∧ til ≤ 1000000; omega
 ·show 0 ≤ d.2.2.2.2.1 ∧ d.2.2.2.2.1 ≤ til; omega
 ·show 0 ≤ d.2.2.2.2.2.2.1 ∧ d.2.2.2.2.2.2.1 ≤ til; omega
 ·show t' ≤ til; omega
theorem Vap {keys : Nat} {m : Hb} {M : List (List Xb)} {t : Xb} (hm : Wd m = true) (hk : m.1 = (keys : Int)) (h3 : M.length ≤ 4) (hM : ∀ x ∈ M, Vd x = true ∧ x.length ≤ 6) (ht : Se t = true) : GQ keys (Zm (Sl m M) t) := by
 have hE := E1 hm h3 (fun x hx => (hM x hx).1)
 have h0 : Rm ([] : List Va) 0 := ⟨by decide, fun j => by simp [Co]⟩
 refine ⟨⟨hE, by show (0 : Nat) ≤ 64; omega, fun x hx => absurd hx (by simp [Zm]), 0, 0, h0, rfl⟩, hk, fun x hx => (hM x hx).2, ht, ⟨Int.le_refl _, by show (0 : Int) ≤ 1000000; omega⟩, ⟨Int.le_refl _, Int.le_refl _⟩, ⟨Int.le_refl _, by show (0 : Int) ≤ _; omega⟩, ⟨Int.le_refl _, Int.le_refl _⟩, 0, 0, 0, 0, h0, Js _ _ (by decide), Int.le_refl _, Int.le_refl _⟩
theorem H8 {α S R : Type} (g : S → α → S ⊕ R) (l l2 : List α) (k : Nat) (s : S) : Sa (fun _ s x => g s x) k s (l ++ l2) = (match Sa (fun _ s x => g s x) k s l with
 | .inl s' => Sa (fun _ s x => g s x) 0 s' l2
 | .inr r => .inr r) := by
 cases h : Sa (fun _ s x => g s x) k s l with
 | inl s' => exact RK g l l2 k 0 s s' h
 | inr r =>
  have key : ∀ (l : List α) (k : Nat) (s : S), Sa (fun _ s x => g s x) k s l = .inr r → Sa (fun _ s x => g s x) k s (l ++ l2) = .inr r := by
   intro l
   induction l with
   | nil => intro k s h; simp [Sa] at h
   | cons x l ih =>
    intro k s h
    simp only [Sa, List.cons_append] at h ⊢
    cases hx : g s x with
    | inl s1 => rw [hx] at h; exact ih (k + 1) s1 h
    | inr r' => rw [hx] at h; exact h
  exact key l k s h
structure A6 (l2 : List Ba) (t1 t2 : Int) : Prop where
 ev : ∀ x ∈ l2, Uf x = true
 t : ∀ x ∈ l2, t1 ≤ x.1
 le : t1 ≤ t2
theorem Gaa {t : Mp} {key at_ : Int} {r l2 : List Ba} {t1 t2 : Int} (hL : A6 l2 t1 t2) (h : (Ed t key at_ r t1).1 ≠ 0) : Ed t key at_ (r ++ l2) t2 = Ed t key at_ r t1 := by
 revert h
 unfold Ed
 cases Se t && decide (0 ≤ at_ ∧ at_ ≤ 1000000) with
 | false => intro h; exact absurd rfl h
 | true =>
  simp only [cond_true]
  generalize j9 .i64 (at_ + t.1) = e
  unfold chR
  rw [H8 (GJ t.2.2.1 key e)]
  cases hc : Sa (fun _ s x => GJ t.2.2.1 key e s x) 0 0 r with
  | inr b => intro _; rfl
  | inl s =>
   by_cases h1 : t1 ≥ e
   ·intro _
    simp only
    rw [Aa h1]
    cases l2 with
    | nil =>
     have := hL.le
     simp only [Sa]
     rw [Aa (show t2 ≥ e by omega)]
    | cons x l2 =>
     have hx := hL.t x (by simp)
     simp only [Sa]
     have : GJ t.2.2.1 key e s x = .inr (2, e) := by
      unfold GJ
      rw [hL.ev x (by simp), Aa (show x.1 ≥ e by omega)]
      rfl
     rw [this]
     rfl
   ·intro h
    simp only [Ca h1] at h
    exact absurd rfl h
def IJ (d : Xa) (l2 : List Ba) (t2 : Int) : Xa := (d.1, d.2.1, jf d.2.2.1 l2, t2, d.2.2.2.2)
theorem Lan {d d' : Xa} {x : Ba} {r l2 : List Ba} {l : List La} {t2 : Int} (hL : A6 l2 d.2.2.2.1 t2) (hs : Mg d x r = some (d', l)) : Mg (IJ d l2 t2) x (r ++ l2) = some (IJ d' l2 t2, l) := by
 unfold Mg at hs ⊢
 show cond (!x.2.2.1) _ (cond (Jf (Rj d.1.1.2.1 (Ji d.1.1 (Ik d.1.2.2.1 d.1.2.2.2.1) x.2.1.toNat) x.2.1.toNat)) _ _) = _
 cases hd : x.2.2.1 with
 | false =>
  rw [hd] at hs
  simp only [qd, cond_true, jc, jh] at hs
  obtain ⟨rfl, rfl⟩ := hs
  rfl
 | true =>
  rw [hd] at hs
  simp only [jg, cond_false] at hs ⊢
  cases htp : Jf (Rj d.1.1.2.1 (Ji d.1.1 (Ik d.1.2.2.1 d.1.2.2.2.1) x.2.1.toNat) x.2.1.toNat) with
  | false =>
   rw [htp] at hs
   simp only [cond_false, jc, jh] at hs
   obtain ⟨rfl, rfl⟩ := hs
   rfl
  | true =>
   rw [htp] at hs
   simp only [cond_true] at hs ⊢
   show (cond ((cond ((d.2.2.2.2.2.1 == j9 .i64 (x.2.1 + 1)) && !decide (j9 .i64 (x.1 - d.2.2.2.2.2.2.1) ≥ d.2.1.2.1)) ((1 : Int), x.1) ((Ed d.2.1 x.2.1 x.1 (r ++ l2) t2).1, (Ed d.2.1 x.2.1 x.1 (r ++ l2) t2).2.1)).1 == 0) none
    (some ((pE d.1 x.2.1.toNat ((cond ((d.2.2.2.2.2.1 == j9 .i64 (x.2.1 + 1)) && !decide (j9 .i64 (x.1 - d.2.2.2.2.2.2.1) ≥ d.2.1.2.1)) ((1 : Int), x.1) ((Ed d.2.1 x.2.1 x.1 (r ++ l2) t2).1, (Ed d.2.1 x.2.1 x.1 (r ++ l2) t2).2.1)).1 == 2), d.2.1, r ++ l2, t2,
     max (max d.2.2.2.2.1 x.1) (cond ((d.2.2.2.2.2.1 == j9 .i64 (x.2.1 + 1)) && !decide (j9 .i64 (x.1 - d.2.2.2.2.2.2.1) ≥ d.2.1.2.1)) ((1 : Int), x.1) ((Ed d.2.1 x.2.1 x.1 (r ++ l2) t2).1, (Ed d.2.1 x.2.1 x.1 (r ++ l2) t2).2.1)).2,
     cond ((cond ((d.2.2.2.2.2.1 == j9 .i64 (x.2.1 + 1)) && !decide (j9 .i64 (x.1 - d.2.2.2.2.2.2.1) ≥ d.2.1.2.1)) ((1 : Int), x.1) ((Ed d.2.1 x.2.1 x.1 (r ++ l2) t2).1, (Ed d.2.1 x.2.1 x.1 (r ++ l2) t2).2.1)).1 == 2) 0 (j9 .i64 (x.2.1 + 1)),
     cond ((cond ((d.2.2.2.2.2.1 == j9 .i64 (x.2.1 + 1)) && !decide (j9 .i64 (x.1 - d.2.2.2.2.2.2.1) ≥ d.2.1.2.1)) ((1 : Int), x.1) ((Ed d.2.1 x.2.1 x.1 (r ++ l2) t2).1, (Ed d.2.1 x.2.1 x.1 (r ++ l2) t2).2.1)).1 == 2) d.2.2.2.2.2.2.1 x.1, ()), pR d.1 x.2.1.toNat ((cond ((d.2.2.2.2.2.1 == j9 .i64 (x.2.1 + 1)) && !decide (j9 .i64 (x.1 - d.2.2.2.2.2.2.1) ≥ d.2.1.2.1)) ((1 : Int), x.1) ((Ed d.2.1 x.2.1 x.1 (r ++ l2) t2).1, (Ed d.2.1 x.2.1 x.1 (r ++ l2) t2).2.1)).1 == 2)))) = _
   cases hq : (d.2.2.2.2.2.1 == j9 .i64 (x.2.1 + 1)) && !decide (j9 .i64 (x.1 - d.2.2.2.2.2.2.1) ≥ d.2.1.2.1) with
   | true =>
    rw [hq] at hs
    simp only [cond_true] at hs ⊢
    rw [show ((1 : Int) == 0) = false from rfl] at hs ⊢
    simp only [cond_false, jc, jh] at hs
    obtain ⟨rfl, rfl⟩ := hs
    rfl
   | false =>
    rw [hq] at hs
    simp only [cond_false] at hs ⊢
    cases h0 : (Ed d.2.1 x.2.1 x.1 r d.2.2.2.1).1 == 0 with
    | true => rw [h0] at hs; simp at hs
    | false =>
     have hm := Gaa (t := d.2.1) (key := x.2.1) (at_ := x.1) (r := r) hL (by simpa using h0)
     rw [hm, h0]
     rw [h0] at hs
     simp only [cond_false, jc, jh] at hs
     obtain ⟨rfl, rfl⟩ := hs
     rfl
theorem IL : ∀ (n : Nat) (d : Xa) (s : List Yc), Lb n d s = ((Lb n d []).1, s ++ (Lb n d []).2)
 | 0, d, s => by simp [Lb]
 | n + 1, d, s => by
  cases hq : d.2.2.1 with
  | nil => simp only [Lb, hq]; simp
  | cons x r =>
   cases hst : Mg d x r with
   | none => simp only [Lb, hq, hst]; simp
   | some p =>
    obtain ⟨d', l⟩ := p
    simp only [Lb, hq, hst]
    rw [IL n d' (Yh s _ l), IL n d' (Yh [] _ l)]
    simp [Yh]
theorem MP : ∀ (n m : Nat) (d : Xa) (s : List Yc), d.2.2.1.length ≤ n → d.2.2.1.length ≤ m → Lb n d s = Lb m d s
 | 0, m, d, s, hn, hm => by
  have : d.2.2.1 = [] := List.eq_nil_of_length_eq_zero (by omega)
  cases m with
  | zero => rfl
  | succ m => simp only [Lb, this]
 | n + 1, 0, d, s, hn, hm => by
  have : d.2.2.1 = [] := List.eq_nil_of_length_eq_zero (by omega)
  simp only [Lb, this]
 | n + 1, m + 1, d, s, hn, hm => by
  cases hq : d.2.2.1 with
  | nil => simp only [Lb, hq]
  | cons x r =>
   cases hst : Mg d x r with
   | none => simp only [Lb, hq, hst]
   | some p =>
    obtain ⟨d', l⟩ := p
    simp only [Lb, hq, hst]
    have h2 : d'.2.2.1 = r := by rw [Zl hst]
    rw [hq] at hn hm
    simp only [jw] at hn hm
    exact MP n m d' _ (by rw [h2]; omega) (by rw [h2]; omega)
theorem FS : ∀ (n : Nat) (d : Xa) (s : List Yc), (Lb n d s).1.2.2.1.length ≤ d.2.2.1.length ∧ (Lb n d s).1.2.2.2.1 = d.2.2.2.1
 | 0, d, s => ⟨jo _, rfl⟩
 | n + 1, d, s => by
  cases hq : d.2.2.1 with
  | nil => simp only [Lb, hq]; exact ⟨by simp, trivial⟩
  | cons x r =>
   cases hst : Mg d x r with
   | none => simp only [Lb, hq, hst]; exact ⟨by simp, trivial⟩
   | some p =>
    obtain ⟨d', l⟩ := p
    have h2 : d'.2.2.1 = r := by rw [Zl hst]
    have h3 : d'.2.2.2.1 = d.2.2.2.1 := by rw [Zl hst]
    simp only [Lb, hq, hst]
    have ih := FS n d' (Yh s d'.2.2.2.2.1 l)
    rw [h2, h3] at ih
    exact ⟨by simp; omega, ih.2⟩
theorem UZ {l2 : List Ba} {t2 : Int} : ∀ (n : Nat) (d : Xa) (s : List Yc) (m : Nat), d.2.2.1.length ≤ n → d.2.2.1.length + l2.length ≤ m → A6 l2 d.2.2.2.1 t2 → Lb m (IJ d l2 t2) s = Lb m (IJ (Lb n d s).1 l2 t2) (Lb n d s).2
 | 0, d, s, m, hn, hm, hL => by simp only [Lb]
 | n + 1, d, s, m, hn, hm, hL => by
  cases hq : d.2.2.1 with
  | nil => simp only [Lb, hq]
  | cons x r =>
   cases hst : Mg d x r with
   | none => simp only [Lb, hq, hst]
   | some p =>
    obtain ⟨d', l⟩ := p
    have h2 : d'.2.2.1 = r := by rw [Zl hst]
    have h3 : d'.2.2.2.1 = d.2.2.2.1 := by rw [Zl hst]
    have e1 : Lb (n + 1) d s = Lb n d' (Yh s d'.2.2.2.2.1 l) := by simp only [Lb, hq, hst]
    rw [hq] at hn hm
    simp only [jw] at hn hm
    cases m with
    | zero => omega
    | succ m =>
     have hq2 : (IJ d l2 t2).2.2.1 = x :: (r ++ l2) := by
      show jf d.2.2.1 l2 = _
      rw [hq]; rfl
     have e2 : Lb (m + 1) (IJ d l2 t2) s = Lb m (IJ d' l2 t2) (Yh s d'.2.2.2.2.1 l) := by
      simp only [Lb, hq2, Lan hL hst]
      rfl
     rw [e1, e2]
     have ih := UZ (l2 := l2) (t2 := t2) n d' (Yh s d'.2.2.2.2.1 l) m (by rw [h2]; omega) (by rw [h2]; omega) (by rw [h3]; exact hL)
     rw [ih]
     have hl := (FS n d' (Yh s d'.2.2.2.2.1 l)).1
     rw [h2] at hl
     have hq3 : (IJ (Lb n d' (Yh s d'.2.2.2.2.1 l)).1 l2 t2).2.2.1.length ≤ m := by
      show (jf _ l2).length ≤ m
      rw [List.append_eq, qi]
      omega
     exact MP _ _ _ _ hq3 (by omega)
theorem Ean {d : Xa} {l1 l2 : List Ba} {t1 t2 : Int} (hL : A6 l2 t1 t2) :
 Lb (Qd d (l1 ++ l2) t2).2.2.1.length (Qd d (l1 ++ l2) t2) [] =
  ((
   Lb (Qd (Lb (Qd d l1 t1).2.2.1.length (Qd d l1 t1) []).1 l2 t2).2.2.1.length (Qd (Lb (Qd d l1 t1).2.2.1.length (Qd d l1 t1) []).1 l2 t2) []).1,
   (Lb (Qd d l1 t1).2.2.1.length (Qd d l1 t1) []).2 ++ (Lb (Qd (Lb (Qd d l1 t1).2.2.1.length (Qd d l1 t1) []).1 l2 t2).2.2.1.length (Qd (Lb (Qd d l1 t1).2.2.1.length (Qd d l1 t1) []).1 l2 t2) []).2) := by
 have e0 : Qd d (l1 ++ l2) t2 = IJ (Qd d l1 t1) l2 t2 := by
  unfold IJ Qd
  simp
 have e1 : ∀ d' : Xa, IJ d' l2 t2 = Qd d' l2 t2 := fun _ => rfl
 have hlen : (Qd d (l1 ++ l2) t2).2.2.1.length = (Qd d l1 t1).2.2.1.length + l2.length := by
  show (jf d.2.2.1 (l1 ++ l2)).length = (jf d.2.2.1 l1).length + l2.length
  simp only [List.append_eq, qi]
  omega
 rw [hlen, e0, UZ (Qd d l1 t1).2.2.1.length (Qd d l1 t1) [] _ (jo _) (jo _) hL]
 have hq := (FS (Qd d l1 t1).2.2.1.length (Qd d l1 t1) []).1
 generalize Lb (Qd d l1 t1).2.2.1.length (Qd d l1 t1) [] = p at hq
 rw [e1, IL]
 have hl2 : (Qd p.1 l2 t2).2.2.1.length = p.1.2.2.1.length + l2.length := by
  show (jf p.1.2.2.1 l2).length = _
  rw [List.append_eq, qi]
 rw [MP ((Qd d l1 t1).2.2.1.length + l2.length) (Qd p.1 l2 t2).2.2.1.length (Qd p.1 l2 t2) [] (by omega) (jo _)]
theorem IB {α S R : Type} (g : Nat → S → α → S ⊕ R) : ∀ (l l2 : List α) (k : Nat) (s : S), Sa g k s (l ++ l2) = (match Sa g k s l with
 | .inl s' => Sa g (k + l.length) s' l2
 | .inr r => .inr r)
 | [], l2, k, s => rfl
 | x :: l, l2, k, s => by
  simp only [Sa, List.cons_append, jw]
  cases hx : g k s x with
  | inl s1 =>
   simp only
   rw [IB g l l2 (k + 1) s1, show k + 1 + l.length = k + (l.length + 1) by omega]
  | inr r => rfl
structure JM (l2 : List Ba) (t1 t2 : Int) : Prop where
 ev : ∀ x ∈ l2, Sj x = true
 t : ∀ x ∈ l2, t1 ≤ x.1
 le : t1 ≤ t2
theorem Iam {L : List Ja} {e set : Int} {r l2 : List Ba} {t1 t2 : Int} (hL : JM l2 t1 t2) (h : (YD L e t1 set r).1 ≠ 0) : YD L e t2 set (r ++ l2) = YD L e t1 set r := by
 revert h
 unfold YD
 rw [IB (fun k s x => Zs L e k s x)]
 cases hc : Sa (fun k s x => Zs L e k s x) 0 set r with
 | inr b => intro _; cases b <;> rfl
 | inl s =>
  by_cases h1 : t1 < e
  ·intro h; simp only [Aa h1] at h; exact absurd rfl h
  ·intro _
   simp only
   rw [Ca h1]
   cases l2 with
   | nil =>
    have := hL.le
    simp only [Sa, List.append_nil]
    rw [Ca (show ¬ t2 < e by omega)]
   | cons x l2 =>
    have hx := hL.t x (by simp)
    have : Zs L e (0 + r.length) s x = .inr (.inl (s, 0 + r.length + 1, e)) := by
     unfold Zs
     rw [hL.ev x (by simp), Aa (show x.1 ≥ e by omega)]
     rfl
    simp only [Sa, this]
    rw [js]
    rfl
theorem Sah {L : List Ja} {term : Int} {x : Ba} {r l2 : List Ba} {t1 t2 : Int} (hL : JM l2 t1 t2) (h : (Xd L term (x :: r) t1).1 ≠ 0) : Xd L term (x :: (r ++ l2)) t2 = Xd L term (x :: r) t1 := by
 revert h
 unfold Xd
 simp only
 cases Ke L && (decide (1 ≤ term ∧ term ≤ 200) && (Sj x && x.2.2.1)) with
 | false => intro h; exact absurd rfl h
 | true =>
  simp only [cond_true]
  cases Dj L (Ra .i64 1 x.2.1) with
  | false => intro _; rfl
  | true =>
   simp only [cond_true]
   intro h
   exact Iam hL h
def UG (c : Da) (l2 : List Ba) (t2 : Int) : Da := (c.1, c.2.1, jf c.2.2.1 l2, t2, c.2.2.2.2)
theorem WaS (c : Da) (q : List Ba) (t key at_ : Int) : Lt (c.1, c.2.1, q, t, c.2.2.2.2) key at_ = (((Lt c key at_).1.1, (Lt c key at_).1.2.1, q, t, (Lt c key at_).1.2.2.2.2), (Lt c key at_).2) ∧
 (Lt c key at_).1.2.2.1 = c.2.2.1 ∧ (Lt c key at_).1.2.2.2.1 = c.2.2.2.1 := by
 have e : NF (c.1, c.2.1, q, t, c.2.2.2.2) key = NF c key := rfl
 unfold Lt
 rw [e]
 split
 ·exact ⟨rfl, rfl, rfl⟩
 ·exact ⟨rfl, rfl, rfl⟩
theorem Bab {c c' : Da} {x : Ba} {r l2 l : List Ba} {t2 : Int} (hq : c.2.2.1 = x :: r) (hL : JM l2 c.2.2.2.1 t2) (hs : We c x r = some (c', l)) : We (UG c l2 t2) x (r ++ l2) = some (UG c' l2 t2, l) ∧ c'.2.2.2.1 = c.2.2.2.1 ∧ c'.2.2.1.length ≤ r.length := by
 unfold We at hs ⊢
 cases hd : x.2.2.1 with
 | false =>
  rw [hd] at hs
  simp only [cond_false, jc] at hs ⊢
  obtain ⟨u1, u2, u3⟩ := WaS (c.1, c.2.1, r, c.2.2.2.1, max c.2.2.2.2.1 x.1, c.2.2.2.2.2) (r ++ l2) t2 x.2.1 (max c.2.2.2.2.1 x.1)
  rw [hs] at u1 u2 u3
  refine ⟨?_, u3, by rw [show c'.2.2.1 = r from u2]; exact jo _⟩
  refine Eq.trans u1 ?_
  show _ = (UG c' l2 t2, l)
  unfold UG
  rw [show c'.2.2.1 = r from u2]
  rfl
 | true =>
  rw [hd] at hs
  simp only [cond_true] at hs ⊢
  have hq2 : (UG c l2 t2).2.2.1 = x :: (r ++ l2) := by
   show jf c.2.2.1 l2 = _
   rw [hq]; rfl
  rw [hq2]
  rw [hq] at hs
  cases h0 : (Xd c.1 c.2.1 (x :: r) c.2.2.2.1).1 == 0 with
  | true => rw [h0] at hs; simp at hs
  | false =>
   have hm := Sah (L := c.1) (term := c.2.1) (x := x) (r := r) hL (by simpa using h0)
   obtain ⟨n, hn, hnb⟩ := OW c.1 c.2.1 x r c.2.2.2.1
   rw [h0] at hs
   simp only [cond_false] at hs
   have e1 : Xd (UG c l2 t2).1 (UG c l2 t2).2.1 (x :: (r ++ l2)) (UG c l2 t2).2.2.2.1 = Xd c.1 c.2.1 (x :: r) c.2.2.2.1 := hm
   rw [e1, h0]
   simp only [cond_false]
   have hn0 : n ≠ 0 := by
    intro e
    rw [e] at hn
    rw [hn] at h0
    simp at h0
   have hdrop : List.drop (Xd c.1 c.2.1 (x :: r) c.2.2.2.1).1.toNat (x :: (r ++ l2)) = List.drop (Xd c.1 c.2.1 (x :: r) c.2.2.2.1).1.toNat (x :: r) ++ l2 := by
    rw [← List.cons_append, List.drop_append_of_le_length (by rw [hn, jn]; simp; omega)]
   have hlen : (List.drop (Xd c.1 c.2.1 (x :: r) c.2.2.2.1).1.toNat (x :: r)).length ≤ r.length := by
    rw [qz, hn, jn]
    simp only [jw]
    omega
   rw [hdrop]
   cases h2 : decide ((Xd c.1 c.2.1 (x :: r) c.2.2.2.1).2.2 < 0) with
   | true =>
    rw [h2] at hs
    simp only [cond_true, jc, jh] at hs
    obtain ⟨rfl, rfl⟩ := hs
    exact ⟨rfl, rfl, hlen⟩
   | false =>
    rw [h2] at hs
    simp only [cond_false, jc, jh] at hs
    obtain ⟨rfl, rfl⟩ := hs
    exact ⟨rfl, rfl, hlen⟩
theorem Cy : ∀ (n : Nat) (c : Da) (o : List Ba), Za n c o = ((Za n c []).1, o ++ (Za n c []).2)
 | 0, c, o => by simp [Za]
 | n + 1, c, o => by
  cases hq : c.2.2.1 with
  | nil => simp only [Za, hq]; simp
  | cons x r =>
   cases hst : We c x r with
   | none => simp only [Za, hq, hst]; simp
   | some p =>
    obtain ⟨c', l⟩ := p
    simp only [Za, hq, hst]
    rw [Cy n c' (jf o l), Cy n c' (jf [] l)]
    simp
theorem Eam (t : Int) : JM [] t t := ⟨fun x hx => by simp at hx, fun x hx => by simp at hx, Int.le_refl _⟩
theorem UQ {c c' : Da} {x : Ba} {r l : List Ba} (hq : c.2.2.1 = x :: r) (hs : We c x r = some (c', l)) : c'.2.2.2.1 = c.2.2.2.1 ∧ c'.2.2.1.length ≤ r.length :=
 (Bab hq (Eam _) hs).2
theorem IY : ∀ (n m : Nat) (c : Da) (o : List Ba), c.2.2.1.length ≤ n → c.2.2.1.length ≤ m → Za n c o = Za m c o
 | 0, m, c, o, hn, hm => by
  have : c.2.2.1 = [] := List.eq_nil_of_length_eq_zero (by omega)
  cases m with
  | zero => rfl
  | succ m => simp only [Za, this]
 | n + 1, 0, c, o, hn, hm => by
  have : c.2.2.1 = [] := List.eq_nil_of_length_eq_zero (by omega)
  simp only [Za, this]
 | n + 1, m + 1, c, o, hn, hm => by
  cases hq : c.2.2.1 with
  | nil => simp only [Za, hq]
  | cons x r =>
   cases hst : We c x r with
   | none => simp only [Za, hq, hst]
   | some p =>
    obtain ⟨c', l⟩ := p
    simp only [Za, hq, hst]
    have h2 := (UQ hq hst).2
    rw [hq] at hn hm
    simp only [jw] at hn hm
    exact IY n m c' _ (by omega) (by omega)
theorem VG : ∀ (n : Nat) (c : Da) (o : List Ba), (Za n c o).1.2.2.1.length ≤ c.2.2.1.length ∧ (Za n c o).1.2.2.2.1 = c.2.2.2.1
 | 0, c, o => ⟨jo _, rfl⟩
 | n + 1, c, o => by
  cases hq : c.2.2.1 with
  | nil => simp only [Za, hq]; exact ⟨by simp, trivial⟩
  | cons x r =>
   cases hst : We c x r with
   | none => simp only [Za, hq, hst]; exact ⟨by simp, trivial⟩
   | some p =>
    obtain ⟨c', l⟩ := p
    obtain ⟨h3, h2⟩ := UQ hq hst
    simp only [Za, hq, hst]
    have ih := VG n c' (jf o l)
    rw [h3] at ih
    exact ⟨by simp only [jw]; have := ih.1; omega, ih.2⟩
theorem KY {l2 : List Ba} {t2 : Int} : ∀ (n : Nat) (c : Da) (o : List Ba) (m : Nat), c.2.2.1.length ≤ n → c.2.2.1.length + l2.length ≤ m → JM l2 c.2.2.2.1 t2 → Za m (UG c l2 t2) o = Za m (UG (Za n c o).1 l2 t2) (Za n c o).2
 | 0, c, o, m, hn, hm, hL => by simp only [Za]
 | n + 1, c, o, m, hn, hm, hL => by
  cases hq : c.2.2.1 with
  | nil => simp only [Za, hq]
  | cons x r =>
   cases hst : We c x r with
   | none => simp only [Za, hq, hst]
   | some p =>
    obtain ⟨c', l⟩ := p
    obtain ⟨h3, h2⟩ := UQ hq hst
    have e1 : Za (n + 1) c o = Za n c' (jf o l) := by simp only [Za, hq, hst]
    rw [hq] at hn hm
    simp only [jw] at hn hm
    cases m with
    | zero => omega
    | succ m =>
     have hq2 : (UG c l2 t2).2.2.1 = x :: (r ++ l2) := by
      show jf c.2.2.1 l2 = _
      rw [hq]; rfl
     have e2 : Za (m + 1) (UG c l2 t2) o = Za m (UG c' l2 t2) (jf o l) := by
      simp only [Za, hq2, (Bab hq hL hst).1]
     rw [e1, e2]
     have ih := KY (l2 := l2) (t2 := t2) n c' (jf o l) m (by omega) (by omega) (by rw [h3]; exact hL)
     rw [ih]
     have hl := (VG n c' (jf o l)).1
     have hq3 : (UG (Za n c' (jf o l)).1 l2 t2).2.2.1.length ≤ m := by
      show (jf _ l2).length ≤ m
      rw [List.append_eq, qi]
      omega
     exact IY _ _ _ _ hq3 (by omega)
theorem Vag {c : Da} {l1 l2 : List Ba} {t1 t2 : Int} (hL : JM l2 t1 t2) (h64 : c.2.2.1.length + l1.length + l2.length ≤ 64) :
 Za 64 (Ug c (l1 ++ l2) t2) [] = ((Za 64 (Ug (Za 64 (Ug c l1 t1) []).1 l2 t2) []).1, (Za 64 (Ug c l1 t1) []).2 ++ (Za 64 (Ug (Za 64 (Ug c l1 t1) []).1 l2 t2) []).2) := by
 have e0 : Ug c (l1 ++ l2) t2 = UG (Ug c l1 t1) l2 t2 := by
  unfold UG Ug
  simp
 have e1 : ∀ c' : Da, UG c' l2 t2 = Ug c' l2 t2 := fun _ => rfl
 have hlen : (Ug c l1 t1).2.2.1.length = c.2.2.1.length + l1.length := by
  show (jf c.2.2.1 l1).length = _
  rw [List.append_eq, qi]
 rw [e0, KY 64 (Ug c l1 t1) [] 64 (by omega) (by omega) hL, e1, Cy]
def Df : List Ba → Nat
 | [] => 0
 | x :: l => x.2.1.toNat ||| Df l
structure Uaf (A : List Ba) : Prop where
 b : ∀ x ∈ A, 1 ≤ x.2.1 ∧ x.2.1 ≤ 16777215
theorem Tad : ∀ (A : List Ba) (k : Nat) (s : Nat), s < 2 ^ 24 → Uaf A → RZ k (s : Int) A = ((s ||| Df A : Nat) : Int) ∧ s ||| Df A < 2 ^ 24
 | [], k, s, hs, _ => ⟨by simp [RZ, Dd, Df], by simpa [Df] using hs⟩
 | x :: A, k, s, hs, h => by
  have hx := h.b x (by simp)
  obtain ⟨n, hn⟩ := jv (show 0 ≤ x.2.1 by omega)
  have hn24 : n < 2 ^ 24 := by
   have : (2 : Nat) ^ 24 = 16777216 := by decide
   omega
  have h1 := Nat.or_lt_two_pow hs hn24
  have h63 : (2 : Nat) ^ 24 < 2 ^ 63 := by decide
  have ih := Tad A (k + 1) (s ||| n) h1 ⟨fun y hy => h.b y (by simp [hy])⟩
  unfold RZ at ih ⊢
  simp only [Dd, Df]
  rw [hn, Hk (by omega) (by omega), jn, ← Nat.or_assoc]
  exact ih
def ON : Nat → List Ba → Prop
 | _, [] => True
 | s, x :: l => s &&& x.2.1.toNat = 0 ∧ ON (s ||| x.2.1.toNat) l
theorem Oan : ∀ (A : List Ba) (k : Nat) (s : Nat), s < 2 ^ 24 → Uaf A → (Ok (Sa (fun _ s x => OS s x) k (s : Int) A) = true ↔ ON s A)
 | [], k, s, hs, _ => by simp [Sa, Ok, ON]
 | x :: A, k, s, hs, h => by
  have hx := h.b x (by simp)
  obtain ⟨n, hn⟩ := jv (show 0 ≤ x.2.1 by omega)
  have hn24 : n < 2 ^ 24 := by
   have : (2 : Nat) ^ 24 = 16777216 := by decide
   omega
  have h1 := Nat.or_lt_two_pow hs hn24
  have h63 : (2 : Nat) ^ 24 < 2 ^ 63 := by decide
  have ih := Oan A (k + 1) (s ||| n) h1 ⟨fun y hy => h.b y (by simp [hy])⟩
  simp only [Sa, ON, OS]
  rw [hn, Gy (by omega) (by omega), Hk (by omega) (by omega), jn]
  by_cases h0 : s &&& n = 0
  ·rw [h0]
   simp only [show (((0 : Nat) : Int) != 0) = false from rfl, cond_false, true_and]
   exact ih
  ·have : (((s &&& n : Nat) : Int) != 0) = true := by rw [bne_iff_ne]; omega
   rw [this]
   simp [Ok, h0]
def mk (x : Ba) : Nat := x.2.1.toNat
def YH (x : Ba) : Nat := cond x.2.2.1 (2 ^ x.1.toNat) 0
def Jj : List Ba → Nat
 | [] => 0
 | x :: l => YH x ||| Jj l
theorem Ii {a b c : Nat} : a &&& (b ||| c) = 0 ↔ a &&& b = 0 ∧ a &&& c = 0 := by
 rw [Nat.and_or_distrib_left]
 constructor
 ·intro h
  exact ⟨Nat.eq_zero_of_not_pos fun hp => by have := Nat.left_le_or (n := a &&& b) (m := a &&& c); omega, Nat.eq_zero_of_not_pos fun hp => by have := Nat.right_le_or (n := a &&& b) (m := a &&& c); omega⟩
 ·rintro ⟨h1, h2⟩; rw [h1, h2]; rfl
theorem V7 : ∀ (A : List Ba) (s : Nat), ON s A ↔ s &&& Df A = 0 ∧ A.Pairwise (fun x y => mk x &&& mk y = 0)
 | [], s => by simp [ON, Df]
 | x :: A, s => by
  have ih := V7 A (s ||| x.2.1.toNat)
  simp only [ON, Df, List.pairwise_cons]
  rw [ih, Ii]
  have h1 : ∀ (A : List Ba) (m : Nat), m &&& Df A = 0 ↔ ∀ y ∈ A, m &&& mk y = 0 := by
   intro A
   induction A with
   | nil => intro m; simp [Df]
   | cons y A ihA =>
    intro m
    simp only [Df]
    rw [Ii, ihA]
    simp [mk]
  rw [← h1 A (mk x)]
  have h2 : (s ||| x.2.1.toNat) &&& Df A = 0 ↔ s &&& Df A = 0 ∧ mk x &&& Df A = 0 := by
   rw [Nat.and_comm, Ii, Nat.and_comm (Df A) s, Nat.and_comm (Df A)]
   rfl
  rw [h2]
  constructor
  ·rintro ⟨a, ⟨b, c⟩, d⟩; exact ⟨⟨a, b⟩, c, d⟩
  ·rintro ⟨⟨a, b⟩, c, d⟩; exact ⟨a, ⟨b, c⟩, d⟩
theorem Y4 {a b : Nat} (h : a ^^^ b = 0) : a = b := Nat.eq_of_testBit_eq fun j => by
 have := congrArg (fun n => n.testBit j) h
 simp only [qq, Nat.zero_testBit] at this
 cases ha : a.testBit j <;> cases hb : b.testBit j <;> rw [ha, hb] at this <;> first | rfl | simp at this
theorem Vp : ∀ (A : List Ba) (k : Nat), (Df A).testBit k = A.any (fun x => (mk x).testBit k)
 | [], k => by simp [Df]
 | x :: A, k => by simp only [Df, Nat.testBit_or, List.any_cons]; rw [Vp A k]; rfl
theorem Yx : ∀ (A : List Ba) (k : Nat), (Jj A).testBit k = A.any (fun x => (YH x).testBit k)
 | [], k => by simp [Jj]
 | x :: A, k => by simp only [Jj, Nat.testBit_or, List.any_cons]; rw [Yx A k]
theorem RE (A B : List Ba) : Df (A ++ B) = Df A ||| Df B := by
 apply Nat.eq_of_testBit_eq; intro k; rw [Nat.testBit_or, Vp, Vp, Vp, List.any_append]
theorem WN (A B : List Ba) : Jj (A ++ B) = Jj A ||| Jj B := by
 apply Nat.eq_of_testBit_eq; intro k; rw [Nat.testBit_or, Yx, Yx, Yx, List.any_append]
structure FQ (c : Da) (D : Nat) : Prop where
 d : c.2.2.2.2.2.1 = (D : Int)
 d24 : D < 2 ^ 24
 m : Uaf (Vb c)
 ok : ∀ x ∈ Vb c, ID c.1 x = true
 nd : (Vb c).Pairwise (fun x y => x.1 ≠ y.1)
 dm : D &&& Df (Vb c) = 0
 pm : (Vb c).Pairwise (fun x y => mk x &&& mk y = 0)
 cb : Ke c.1 = true
theorem ZX (L : List Ja) : ∀ (r pre : List Ba), Hs L pre r = true ↔ (∀ x ∈ r, ID L x = true) ∧ (∀ x ∈ r, ∀ y ∈ pre, y.1 ≠ x.1) ∧ r.Pairwise (fun x y => x.1 ≠ y.1)
 | [], pre => by simp [Hs]
 | x :: r, pre => by
  have hn : At pre x = true ↔ ∀ y ∈ pre, y.1 ≠ x.1 := by
   unfold At
   rw [show Ad (fun _ (y : Ba) => !(y.1 == x.1)) 0 pre = true ↔ ∀ y ∈ pre, (!(y.1 == x.1)) = true from Al (p := fun y : Ba => !(y.1 == x.1))]
   simp
  simp only [Hs, jd]
  rw [hn, ZX L r (pre ++ [x])]
  simp only [jp, jl, List.not_mem_nil, or_false, List.pairwise_cons, forall_eq_or_imp]
  constructor
  ·rintro ⟨⟨h1, h2⟩, h3, h4, h5⟩
   exact ⟨⟨h1, h3⟩, ⟨h2, fun z hz y hy => h4 z hz y (.inl hy)⟩, fun z hz => h4 z hz x (.inr rfl), h5⟩
  ·rintro ⟨⟨h1, h3⟩, ⟨h2, h4⟩, h6, h5⟩
   refine ⟨⟨h1, h2⟩, h3, fun z hz y hy => ?_, h5⟩
   rcases hy with hy | rfl
   ·exact h4 z hz y hy
   ·exact h6 z hz
theorem TI {L : List Ja} (hL : Ke L = true) {x : Ba} (h : ID L x = true) : 24 ≤ x.1 ∧ x.1 ≤ 31 ∧ 0 ≤ Sy L x.1 ∧ Sy L x.1 ≤ 16777215 ∧ 0 < x.2.1 := by
 unfold ID BS at h
 simp only [jd, Bool.not_eq_true', decide_eq_false_iff_not] at h
 have := WE hL h.1
 exact ⟨this.1, this.2.1, this.2.2.1, this.2.2.2, by have := h.2.1; omega⟩
def Tm (c : Da) (D : Nat) : Nat := D ||| Df (Vb c)
def Ci (c : Da) (D : Nat) : Nat := D ||| Jj (Vb c)
theorem G4 : (2 : Nat) ^ 24 = 16777216 := by decide
theorem Dt : (2 : Nat) ^ 63 = 9223372036854775808 := by decide
theorem C1 {c : Da} {D : Nat} (h : FQ c D) : Wk c = ((Tm c D : Nat) : Int) ∧ Tm c D < 2 ^ 24 := by
 unfold Wk Tm
 rw [h.d]
 exact Tad (Vb c) 0 D h.d24 h.m
theorem Iak {L : List Ja} (hL : Ke L = true) : ∀ (A : List Ba) (k s : Nat), s < 2 ^ 32 → (∀ x ∈ A, ID L x = true) → Dd (fun _ s x => Q3 s x) k (s : Int) A = ((s ||| Jj A : Nat) : Int) ∧ s ||| Jj A < 2 ^ 32
 | [], k, s, hs, _ => by simp [Dd, Jj]; exact hs
 | x :: A, k, s, hs, h => by
  have hx := TI hL (h x (by simp))
  have p32 : (2 : Nat) ^ 32 = 4294967296 := by decide
  obtain ⟨o, ho⟩ := jv (show 0 ≤ x.1 by omega)
  have ho31 : o ≤ 31 := by omega
  have hpo : 2 ^ o < 2 ^ 32 := Nat.pow_lt_pow_right (by omega) (by omega)
  have e : Q3 (s : Int) x = ((s ||| YH x : Nat) : Int) ∧ s ||| YH x < 2 ^ 32 := by
   unfold Q3 YH
   cases x.2.2.1 with
   | false => simp only [cond_false, Nat.or_zero]; exact ⟨trivial, hs⟩
   | true =>
    simp only [cond_true]
    rw [ho, Qf (by omega), Hk (by rw [Dt]; omega) (by rw [Dt]; omega), jn]
    exact ⟨rfl, Nat.or_lt_two_pow hs hpo⟩
  simp only [Dd, Jj]
  rw [e.1, ← Nat.or_assoc]
  exact Iak hL A (k + 1) _ e.2 (fun y hy => h y (by simp [hy]))
theorem ZY {c : Da} {D : Nat} (h : FQ c D) : R3 c = ((Ci c D : Nat) : Int) ∧ Ci c D < 2 ^ 32 := by
 unfold R3 Ci
 rw [h.d]
 exact Iak h.cb (Vb c) 0 D (by
  have := h.d24; have : (2 : Nat) ^ 32 = 4294967296 := by decide
  have := G4; omega) h.ok
theorem EN {a k : Nat} (h : a.testBit k = false) : a ||| 2 ^ k = a ^^^ 2 ^ k := by
 apply Nat.eq_of_testBit_eq; intro j
 rw [Nat.testBit_or, qq, qr]
 by_cases hj : k = j
 ·subst hj; rw [h]; simp
 ·rw [show decide (k = j) = false from decide_eq_false hj]; simp
theorem D7 {c : Da} {D : Nat} (h : FQ c D) {k : Nat} (hk : k < 24) : (Jj (Vb c)).testBit k = false := by
 rw [Yx]
 rw [List.any_eq_false]
 intro x hx
 have := TI h.cb (h.ok x hx)
 unfold YH
 cases x.2.2.1 with
 | false => simp
 | true =>
  simp only [cond_true, qr]
  simp
  omega
theorem Qt {a b : Nat} (h : a &&& b = 0) (k : Nat) : (a.testBit k && b.testBit k) = false := by
 have := congrArg (fun n => n.testBit k) h
 simpa [Nat.testBit_and] using this
theorem GD {a b : Nat} (h : ∀ k, (a.testBit k && b.testBit k) = false) : a &&& b = 0 := by
 apply Nat.eq_of_testBit_eq; intro k
 rw [Nat.testBit_and, h, Nat.zero_testBit]
theorem Xam {c : Da} {D k : Nat} (h : FQ c D) (hk : k < 24) (hb : (Tm c D).testBit k = false) {c' : Da} (hL : c'.1 = c.1) (hA : Vb c' = Vb c) (hd : c'.2.2.2.2.2.1 = Tc .i64 c.2.2.2.2.2.1 (Ra .i64 1 (k : Int))) :
 FQ c' (D ^^^ 2 ^ k) ∧ Tm c' (D ^^^ 2 ^ k) = Tm c D ^^^ 2 ^ k ∧ Ci c' (D ^^^ 2 ^ k) = Ci c D ^^^ 2 ^ k ∧ (Ci c D).testBit k = false := by
 have hb' := hb
 unfold Tm at hb'
 rw [Nat.testBit_or] at hb'
 simp only [Bool.or_eq_false_iff] at hb'
 have hD := EN hb'.1
 have hk2 : 2 ^ k < 2 ^ 24 := Nat.pow_lt_pow_right (by omega) hk
 have hg : (Ci c D).testBit k = false := by
  unfold Ci
  rw [Nat.testBit_or, hb'.1, D7 h hk]; rfl
 refine ⟨⟨?_, by rw [← hD]; exact Nat.or_lt_two_pow h.d24 hk2, by rw [hA]; exact h.m, by rw [hA, hL]; exact h.ok, by rw [hA]; exact h.nd, ?_, by rw [hA]; exact h.pm, by rw [hL]; exact h.cb⟩, ?_, ?_, hg⟩
 ·rw [hd, h.d, Qf (by omega), Hk (by have := h.d24; have := G4; have := Dt; omega) (Gf (by omega)), hD]
 ·rw [hA, ← hD]
  refine GD fun j => ?_
  have h1 := Qt h.dm j
  rw [Nat.testBit_or, qr]
  by_cases hj : k = j
  ·subst hj; rw [hb'.2]; simp
  ·rw [show decide (k = j) = false from decide_eq_false hj]; simpa using h1
 ·rw [← EN hb]
  unfold Tm
  rw [hA, ← hD]
  apply Nat.eq_of_testBit_eq; intro j
  simp only [Nat.testBit_or]
  cases D.testBit j <;> cases (Df (Vb c)).testBit j <;> cases (2 ^ k).testBit j <;> rfl
 ·rw [← EN hg]
  unfold Ci
  rw [hA, ← hD]
  apply Nat.eq_of_testBit_eq; intro j
  simp only [Nat.testBit_or]
  cases D.testBit j <;> cases (Jj (Vb c)).testBit j <;> cases (2 ^ k).testBit j <;> rfl
theorem Wam {c : Da} {D K : Nat} {o : Int} (h : FQ c D) (hs : (Fh c.1 o).isSome = true) (hK : Sy c.1 o = (K : Int)) (hK0 : K ≠ 0) (hb : K &&& Tm c D = 0) {c' : Da} (hL : c'.1 = c.1) (hA : Vb c' = Vb c ++ [(o, (K : Int), true, ())]) (hd : c'.2.2.2.2.2.1 = c.2.2.2.2.2.1) :
 FQ c' D ∧ Tm c' D = Tm c D ||| K ∧ Ci c' D = Ci c D ^^^ 2 ^ o.toNat ∧ (Ci c D).testBit o.toNat = false ∧ 24 ≤ o ∧ o ≤ 31 := by
 have hci := WE h.cb hs
 have hK24 : K ≤ 16777215 := by
  have h1 := hci.2.2.2
  unfold Sy at hK
  omega
 have hbb := Ii.1 (show K &&& (D ||| Df (Vb c)) = 0 from hb)
 have hne : ∀ x ∈ Vb c, x.1 ≠ o := by
  intro x hx e
  have hok := h.ok x hx
  have hkx := TI h.cb hok
  unfold ID BS at hok
  simp only [jd, Bool.not_eq_true', bne_eq_false_iff_eq] at hok
  have h4 := hok.2.2.1
  rw [e, hK] at h4
  have hm := h.m.b x hx
  obtain ⟨n, hn⟩ := jv (show 0 ≤ x.2.1 by omega)
  rw [hn, Tn (by rw [Dt]; omega) (by rw [Dt]; omega)] at h4
  have h5 : n &&& K = n := (Y4 (show n ^^^ (n &&& K) = 0 by omega)).symm
  have h6 : n ||| Df (Vb c) = Df (Vb c) := by
   apply Nat.eq_of_testBit_eq; intro j
   rw [Nat.testBit_or, Vp]
   cases hj : n.testBit j with
   | false => simp
   | true =>
    have : (Vb c).any (fun x => (mk x).testBit j) = true := List.any_eq_true.2 ⟨x, hx, by unfold mk; rw [hn]; exact hj⟩
    rw [this]; rfl
  have h7 : n = 0 := by
   apply Nat.eq_of_testBit_eq; intro j
   have h8 := Qt hbb.2 j
   have h9 := congrArg (fun z => z.testBit j) h5
   have h10 := congrArg (fun z => z.testBit j) h6
   simp only [Nat.testBit_and, Nat.testBit_or] at h9 h10
   rw [Nat.zero_testBit]
   cases hn1 : n.testBit j with
   | false => rfl
   | true =>
    rw [hn1] at h9 h10
    simp only [jk, Bool.true_or] at h9 h10
    rw [h9, ← h10] at h8
    simp at h8
  omega
 have ho : YH (o, (K : Int), true, ()) = 2 ^ o.toNat := rfl
 have hmk : mk (o, (K : Int), true, ()) = K := jn K
 have hM : Df (Vb c') = Df (Vb c) ||| K := by
  rw [hA, RE]
  simp only [Df, Nat.or_zero, jn]
 have hO : Jj (Vb c') = Jj (Vb c) ||| 2 ^ o.toNat := by
  rw [hA, WN]
  simp only [Jj, Nat.or_zero, ho]
 have hgo : (Ci c D).testBit o.toNat = false := by
  unfold Ci
  rw [Nat.testBit_or]
  have h1 : D.testBit o.toNat = false := Nat.testBit_lt_two_pow (qo h.d24 (qp (by omega) (by omega)))
  rw [h1, Yx, Bool.false_or, List.any_eq_false]
  intro x hx
  have hkx := TI h.cb (h.ok x hx)
  have := hne x hx
  unfold YH
  cases x.2.2.1 with
  | false => simp
  | true =>
   simp only [cond_true, qr]
   simp
   omega
 refine ⟨⟨by rw [hd]; exact h.d, h.d24, ⟨fun x hx => ?_⟩, fun x hx => ?_, ?_, ?_, ?_, by rw [hL]; exact h.cb⟩, ?_, ?_, hgo, hci.1, hci.2.1⟩
 ·rw [hA] at hx
  rcases jl.1 hx with hx | hx
  ·exact h.m.b x hx
  ·simp only [qh] at hx
   subst hx
   show 1 ≤ (K : Int) ∧ (K : Int) ≤ 16777215
   omega
 ·rw [hA] at hx
  rw [hL]
  rcases jl.1 hx with hx | hx
  ·exact h.ok x hx
  ·simp only [qh] at hx
   subst hx
   unfold ID BS
   simp only [hs, hK]
   rw [Tn (by rw [Dt]; omega) (by rw [Dt]; omega), Nat.and_self, Nat.xor_self]
   rw [show decide ((K : Int) ≤ 0) = false from decide_eq_false (by omega)]
   simp
 ·rw [hA, List.pairwise_append]
  exact ⟨h.nd, by simp, fun x hx y hy => by simp only [qh] at hy; subst hy; exact hne x hx⟩
 ·rw [hM, Ii]
  exact ⟨h.dm, by rw [Nat.and_comm]; exact hbb.1⟩
 ·rw [hA, List.pairwise_append]
  refine ⟨h.pm, by simp, fun x hx y hy => ?_⟩
  simp only [qh] at hy
  subst hy
  rw [hmk]
  refine GD fun j => ?_
  have h8 := Qt hbb.2 j
  rw [Vp] at h8
  cases hj : (mk x).testBit j with
  | false => rfl
  | true =>
   have : (Vb c).any (fun x => (mk x).testBit j) = true := List.any_eq_true.2 ⟨x, hx, hj⟩
   rw [this] at h8
   simpa using h8
 ·unfold Tm
  rw [hM, Nat.or_assoc]
 ·rw [← EN hgo]
  unfold Ci
  rw [hO, Nat.or_assoc]
end KF
