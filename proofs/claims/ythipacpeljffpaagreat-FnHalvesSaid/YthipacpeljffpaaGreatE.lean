/- An evaluator of Go functions on plain data, its soundness, and plain laws on what the functions compute, part 5 (conditions: as each lemma tells). -/
import Derived.Test.YthipacpeljffpaaGreatD
set_option linter.unusedSimpArgs false
set_option linter.unusedVariables false
namespace KF
open Go
open List renaming length → ja, getElem?_eq_getElem → je, append → jf, mem_append → jl, mem_cons → jp, mem_cons_of_mem → jr, length_cons → jw, set → qa, length_nil → qb, mem_singleton → qg, length_append → qh, getD_eq_getElem?_getD → qj, getElem_mem → qt, getElem_of_mem → qu, mem_map → qv, length_drop → qw, ext_getElem? → q0, drop_drop → q7, toArray → q8, getD → q9, getElem?_eq_none → ya, mem_append_left → yb, mem_append_right → yc, any_eq_true → yf, append_assoc → yh, eq_nil_of_length_eq_zero → yj, getElem?_eq_some_iff → yk, drop → yo, replicate → yp, cons_append → yu, map_cons → yw, nodup_cons → yy, nodup_append → yz, flatten_cons → y0, mem_map_of_mem → ze, map_append → zf, all_eq_true → zg, range → zi, append_eq → zv, not_mem_nil → zw, pairwise_append → zx
open Option renaming bind_some → jb, bind → jz, map_some → qf, bind_eq_some_iff → qi, getD_some → yg, map_eq_some_iff → zh
open Option.some renaming injEq → jc
open Bool renaming and_eq_true → jd, not_true → jg, true_and → jk, false_eq_true → jq, not_false → qc, not_eq_true → qd, false_and → qr, eq_iff_iff → qx, or_eq_true → ye, not_eq_true' → yx, or_eq_false_iff → zb, false_or → zd
open Prod.mk renaming injEq → jh
open Nat renaming ble_eq_true_of_le → ji, mul_le_mul_right → jm, le_refl → jo, zero_add → js, add_assoc → jt, eq_of_beq_eq_true → ju, ble → jx, le_trans → qe, shiftLeft_eq → ql, lt_of_lt_of_le → qn, pow_le_pow_right → qo, testBit_xor → qp, testBit_two_pow → qq, xor_lt_two_pow → qs, beq → yd, le_of_ble_eq_true → yi, add_zero → yl, blt → ym, blt_eq → yq, add_mul → yr, one_mul → yt, succ_mul → y3, zero_le → zj, and_le_left → zm, or_lt_two_pow → zn, shiftRight_eq_div_pow → zo, eq_of_testBit_eq → zp, testBit_or → zq, testBit_and → zr, two_pow_pos → zt, testBit_lt_two_pow → zu, testBit → zy
open Int renaming toNat_natCast → jn, eq_ofNat_of_zero_le → jv, toNat → jy, tmod → yn, le_refl → za
open Go.IntKind renaming wrap → j8, wrap → j9
open Sum renaming elim_inl → qm
open Result renaming andThen_ok → qy
open Sem renaming run_bind → qz
open List.cons renaming injEq → yv
open Sum.inl renaming injEq → zk
open Sum.inr renaming injEq → zl
def LK (n : Int) (a : Pa) : Prop := Zc a = true ∧ a.1 ≠ 1 ∧ (a.1 = 9 ∨ a.2.2.2.1 < n)
theorem Cw {n k c m x : Int} (h : Xb k c m x) (h1 : k ≠ 1) (h2 : k = 9 ∨ x < n) : LK n (k, c, m, x, ()) := ⟨(Qb _).2 h, h1, h2⟩
def Zr (n : Int) (o : Option (Ab × (Pa × Unit))) : Prop := ∃ (c : Ab) (a : Pa), o = some (c, (a, ())) ∧ Di c ∧ LK n a
theorem FD {n : Int} {c : Ab} {a : Pa} (h : Di c) (ha : LK n a) : Zr n (some (c, (a, ()))) := ⟨c, a, rfl, h, ha⟩
theorem Ht {n : Int} {b : Bool} {x y : Option (Ab × (Pa × Unit))} (h1 : Zr n x) (h2 : Zr n y) : Zr n (cond b x y) := by cases b <;> assumption
theorem Lat {n : Int} {p : Prop} [Decidable p] {x y : Option (Ab × (Pa × Unit))} (h1 : p → Zr n x) (h2 : Zr n y) : Zr n (cond (decide p) x y) := by
 by_cases h : p
 ·rw [Aa h]; exact h1 h
 ·rw [Ba h]; exact h2
theorem YG {n m : Int} {c : Ab} (hc : Di c) (hm : 0 < m) {f : (Ab × (Int × Unit)) → Option (Ab × (Pa × Unit))}
 (h : ∀ (c' : Ab) (x : Int), Di c' → 0 ≤ x → x < m → Zr n (f (c', (x, ())))) : Zr n (jz (Hb c m) f) := by
 obtain ⟨c1, x1, e1, h1, b1⟩ := Fh hc m hm
 rw [e1]
 exact h c1 x1 h1 b1.1 b1.2
theorem Daz {n m : Int} {c : Ab} (hc : Di c) (hm : 0 < m) {f : (Ab × (Bool × Unit)) → Option (Ab × (Pa × Unit))}
 (h : ∀ (c' : Ab) (x : Bool), Di c' → Zr n (f (c', (x, ())))) : Zr n (jz (Yh c m) f) := by
 obtain ⟨c1, x1, e1, h1⟩ := MB hc m hm
 rw [e1]
 exact h c1 x1 h1
theorem JaP {c : Ab} {n x : Int} {a0 a1 a2 : Pa} (hc : Di c) (h0 : 0 ≤ x) (h3 : x < 3) (g0 : LK n a0) (g1 : LK n a1) (g2 : LK n a2) :
 Zr n (cond (Ci (ja [a0, a1, a2]) x) (jz [a0, a1, a2][(jy x)]? fun y => some (c, (y, ()))) none) := by
 have : x = 0 ∨ x = 1 ∨ x = 2 := by omega
 rcases this with rfl | rfl | rfl
 ·exact FD hc g0
 ·exact FD hc g1
 ·exact FD hc g2
theorem Xan {c : Ab} (h : Di c) (n : Int) (hn : 1 ≤ n) (hn4 : n ≤ 4) : Zr n (FI c n) := by
 unfold FI
 rw [Qc (n := n - 1) (by omega) (by omega)]
 refine YG h (by omega) fun c1 x1 h1 l1 u1 => ?_
 refine YG h1 (by omega) fun c2 x2 h2 l2 u2 => ?_
 refine Daz h2 (by omega) fun c3 x3 h3 => ?_
 simp only
 rw [Qc (n := 1 + x1) (by omega) (by omega), Qc (n := 1 + x2) (by omega) (by omega)]
 have tail : ∀ (md : Int), 1 ≤ md → md ≤ 15 → Zr n (jz (Hb c3 (max (1 : Int) (n - 1))) fun r4 =>
  (jz (Hb r4.1 (16 : Int)) fun r5 =>
  (cond (r5.2.1 == (0 : Int)) (some (r5.1, (((2 : Int), (1 + x1), md, (0 : Int), ()), ())))
  (cond (r5.2.1 == (1 : Int)) (some (r5.1, (((2 : Int), (0 : Int), md, (0 : Int), ()), ())))
  (cond (r5.2.1 == (2 : Int)) (some (r5.1, (((6 : Int), (1 + x1), md, (0 : Int), ()), ())))
  (cond (r5.2.1 == (3 : Int)) (some (r5.1, (((6 : Int), (1 + x1), md, (0 : Int), ()), ())))
  (cond (r5.2.1 == (4 : Int)) (some (r5.1, (((8 : Int), (0 : Int), md, (0 : Int), ()), ())))
  (cond (r5.2.1 == (5 : Int)) (jz (Hb r5.1 (4 : Int)) fun r6 => (some (r6.1, (((9 : Int), (0 : Int), (0 : Int), r6.2.1, ()), ()))))
  (cond (r5.2.1 == (6 : Int)) (some (r5.1, (((10 : Int), (0 : Int), (0 : Int), (0 : Int), ()), ())))
  (cond (r5.2.1 == (7 : Int)) (jz (Hb r5.1 (max (1 : Int) n)) fun r7 => (some (r7.1, (((5 : Int), (0 : Int), (0 : Int), r7.2.1, ()), ()))))
  (cond (r5.2.1 == (8 : Int)) (cond (decide (n > (1 : Int))) (jz (Hb r5.1 (3 : Int)) fun r8 => (cond (Ci (ja ([((3 : Int), (0 : Int), (0 : Int), (j8 .i64 ((1 : Int) + r4.2.1)), ()), ((4 : Int), (0 : Int), (0 : Int), (j8 .i64 ((1 : Int) + r4.2.1)), ()), ((7 : Int), (1 + x1), (0 : Int), (j8 .i64 ((1 : Int) + r4.2.1)), ())] : List Pa)) r8.2.1) (jz ([((3 : Int), (0 : Int), (0 : Int), (j8 .i64 ((1 : Int) + r4.2.1)), ()), ((4 : Int), (0 : Int), (0 : Int), (j8 .i64 ((1 : Int) + r4.2.1)), ()), ((7 : Int), (1 + x1), (0 : Int), (j8 .i64 ((1 : Int) + r4.2.1)), ())] : List Pa)[(jy r8.2.1)]? fun x9 => (some (r8.1, (x9, ())))) none)) (some (r5.1, (((2 : Int), (1 + x1), (0 : Int), (0 : Int), ()), ()))))
  (cond (r5.2.1 == (9 : Int)) (cond (decide (n > (1 : Int))) (jz (Hb r5.1 (3 : Int)) fun r8 => (cond (Ci (ja ([((3 : Int), (0 : Int), (0 : Int), (j8 .i64 ((1 : Int) + r4.2.1)), ()), ((4 : Int), (0 : Int), (0 : Int), (j8 .i64 ((1 : Int) + r4.2.1)), ()), ((7 : Int), (1 + x1), (0 : Int), (j8 .i64 ((1 : Int) + r4.2.1)), ())] : List Pa)) r8.2.1) (jz ([((3 : Int), (0 : Int), (0 : Int), (j8 .i64 ((1 : Int) + r4.2.1)), ()), ((4 : Int), (0 : Int), (0 : Int), (j8 .i64 ((1 : Int) + r4.2.1)), ()), ((7 : Int), (1 + x1), (0 : Int), (j8 .i64 ((1 : Int) + r4.2.1)), ())] : List Pa)[(jy r8.2.1)]? fun x9 => (some (r8.1, (x9, ())))) none)) (some (r5.1, (((2 : Int), (1 + x1), (0 : Int), (0 : Int), ()), ()))))
  (cond (r5.2.1 == (10 : Int)) (cond (decide (n > (1 : Int))) (jz (Hb r5.1 (3 : Int)) fun r8 => (cond (Ci (ja ([((3 : Int), (0 : Int), (0 : Int), (j8 .i64 ((1 : Int) + r4.2.1)), ()), ((4 : Int), (0 : Int), (0 : Int), (j8 .i64 ((1 : Int) + r4.2.1)), ()), ((7 : Int), (1 + x1), (0 : Int), (j8 .i64 ((1 : Int) + r4.2.1)), ())] : List Pa)) r8.2.1) (jz ([((3 : Int), (0 : Int), (0 : Int), (j8 .i64 ((1 : Int) + r4.2.1)), ()), ((4 : Int), (0 : Int), (0 : Int), (j8 .i64 ((1 : Int) + r4.2.1)), ()), ((7 : Int), (1 + x1), (0 : Int), (j8 .i64 ((1 : Int) + r4.2.1)), ())] : List Pa)[(jy r8.2.1)]? fun x9 => (some (r8.1, (x9, ())))) none)) (some (r5.1, (((2 : Int), (1 + x1), (0 : Int), (0 : Int), ()), ()))))
  (some (r5.1, (((2 : Int), (1 + x1), (0 : Int), (0 : Int), ()), ())))))))))))))))) := by
  intro md lm um
  refine YG h3 (by omega) fun c4 x4 h4 l4 u4 => ?_
  refine YG h4 (by omega) fun c5 x5 h5 l5 u5 => ?_
  simp only
  rw [Qc (n := 1 + x4) (by omega) (by omega)]
  have last : Zr n (some (c5, (((2 : Int), (1 + x1), (0 : Int), (0 : Int), ()), ()))) := FD h5 (Cw (by unfold Xb; omega) (by omega) (by omega))
  have mid : Zr n (cond (decide (n > (1 : Int))) (jz (Hb c5 (3 : Int)) fun r8 => (cond (Ci (ja ([((3 : Int), (0 : Int), (0 : Int), (1 + x4), ()), ((4 : Int), (0 : Int), (0 : Int), (1 + x4), ()), ((7 : Int), (1 + x1), (0 : Int), (1 + x4), ())] : List Pa)) r8.2.1) (jz ([((3 : Int), (0 : Int), (0 : Int), (1 + x4), ()), ((4 : Int), (0 : Int), (0 : Int), (1 + x4), ()), ((7 : Int), (1 + x1), (0 : Int), (1 + x4), ())] : List Pa)[(jy r8.2.1)]? fun x9 => (some (r8.1, (x9, ())))) none)) (some (c5, (((2 : Int), (1 + x1), (0 : Int), (0 : Int), ()), ())))) := by
   refine Lat (fun hn1 => ?_) last
   have hx : 1 + x4 < n := by omega
   refine YG h5 (by omega) fun c6 x6 h6 l6 u6 => ?_
   exact JaP h6 l6 u6 (Cw (by unfold Xb; omega) (by omega) (by omega)) (Cw (by unfold Xb; omega) (by omega) (by omega)) (Cw (by unfold Xb; omega) (by omega) (by omega))
  refine Ht (FD h5 (Cw (by unfold Xb; omega) (by omega) (by omega))) ?_
  refine Ht (FD h5 (Cw (by unfold Xb; omega) (by omega) (by omega))) ?_
  refine Ht (FD h5 (Cw (by unfold Xb; omega) (by omega) (by omega))) ?_
  refine Ht (FD h5 (Cw (by unfold Xb; omega) (by omega) (by omega))) ?_
  refine Ht (FD h5 (Cw (by unfold Xb; omega) (by omega) (by omega))) ?_
  refine Ht (YG h5 (by omega) fun c6 x6 h6 l6 u6 => by simp only; exact FD h6 (Cw (by unfold Xb; omega) (by omega) (by omega))) ?_
  refine Ht (FD h5 (Cw (by unfold Xb; omega) (by omega) (by omega))) ?_
  refine Ht (YG h5 (by omega) fun c6 x6 h6 l6 u6 => by simp only; exact FD h6 (Cw (by unfold Xb; omega) (by omega) (by omega))) ?_
  exact Ht mid (Ht mid (Ht mid last))
 cases x3 with
 | true => exact tail 2 (by omega) (by omega)
 | false => exact tail (1 + x2) (by omega) (by omega)
def AD : Na := (0, 0, ())
def Gh (L : List Na) (o : Int) : Option Na := L.find? (fun c => c.2.1 == o)
theorem CR {α : Type} (p : α → Bool) : ∀ (xs : List α) (k : Nat), (Wa (fun _ (_ : Unit) x => cond (p x) (.inr x) (.inl ())) k () xs : Unit ⊕ α) = match xs.find? p with | some x => .inr x | none => .inl ()
 | [], _ => rfl
 | x :: xs, k => by
  rcases Bool.eq_false_or_eq_true (p x) with hp | hp
  ·simp only [Wa, hp, zz, List.find?_cons]
  ·simp only [Wa, hp, ua, List.find?_cons]; exact CR p xs (k + 1)
theorem ZM (L : List Na) (o : Int) (hn : L.length ≤ Ga) : Sz L o = some ((Gh L o).getD AD, (Gh L o).isSome, ()) := by
 have h20 : Ga = 1048576 := rfl
 have hl := Wg (step := fun x => Dv x.1.1 x.1.2.1 x.1.2.2.1 x.1.2.2.2.1 x.1.2.2.2.2.1 x.2.1) L (fun _ (_ : Unit) (x : Na) => cond (x.2.1 == o) (.inr x) (.inl ())) (fun _ i => ((o, (), L, ((ja L : Nat) : Int), i, ()), (((0 : Int), (0 : Int), ()), ())))
  (fun _ => .inl (((), ()), (((0 : Int), (0 : Int), ()), ()))) (fun x => .inr (((), true, ()), (x, ()))) (fun _ _ => True) (by
   intro k hk s _
   refine ⟨?_, fun _ _ => trivial⟩
   simp only [Dv]
   rw [Aa (show (k : Int) < ((ja L : Nat) : Int) by omega), Ub hk]
   simp only [zz, jb]
   cases (L[k].2.1 == o) <;> rfl) (by
   intro s _
   simp only [Dv]
   rw [Ba (by omega)]; rfl) (by omega) () trivial
 unfold Sz Mx Gh
 erw [hl, CR]
 cases List.find? (fun c => c.2.1 == o) L <;> rfl
theorem E3 (L : List Na) (o : Int) (hn : L.length ≤ Ga) : BG L o = some (((Gh L o).getD AD).1, ()) := by
 have h20 : Ga = 1048576 := rfl
 have hl := Wg (step := fun x => Vv x.1.1 x.1.2.1 x.1.2.2.1) L (fun _ (_ : Unit) (x : Na) => cond (x.2.1 == o) (.inr x) (.inl ())) (fun _ i => ((L, o, i, ()), ()))
  (fun _ => .inl ((), ())) (fun x => .inr ((x.1, ()), ())) (fun _ _ => True) (by
   intro k hk s _
   refine ⟨?_, fun _ _ => trivial⟩
   simp only [Vv]
   rw [Aa (show (k : Int) < ((ja L : Nat) : Int) by omega), Ub hk]
   simp only [zz, jb]
   cases (L[k].2.1 == o) <;> rfl) (by
   intro s _
   simp only [Vv]
   rw [Ba (by omega)]; rfl) (by omega) () trivial
 unfold BG Sx Gh
 erw [hl, CR]
 cases List.find? (fun c => c.2.1 == o) L <;> rfl
theorem TG {L : List Na} {o : Int} (h : Qe L = true) (hs : (Gh L o).isSome = true) : 24 ≤ o ∧ o ≤ 31 ∧ 0 ≤ ((Gh L o).getD AD).1 ∧ ((Gh L o).getD AD).1 ≤ 16777215 := by
 unfold Gh at *
 cases hc : List.find? (fun c => c.2.1 == o) L with
 | none => rw [hc] at hs; simp at hs
 | some c =>
  have h1 := List.find?_some hc
  have h2 := List.mem_of_find?_eq_some hc
  obtain ⟨i, hi, rfl⟩ := qu h2
  simp only [Qe, jd] at h
  have h3 := Pk.1 h.2 i hi
  simp only [Nu, jd, decide_eq_true_eq] at h3
  simp only [beq_iff_eq] at h1
  simp only [yg]
  omega
def PU (K : Int) (x : Ca) : Bool := !decide (x.2.1 ≤ 0) && (!(Pc .i64 x.2.1 K != 0) && !(x.2.2.1 != (x.2.1 == K)))
def AA (L : List Na) (o : Int) : Int := ((Gh L o).getD AD).1
def XE (L : List Na) (x : Ca) : Bool := (Gh L x.1).isSome && PU (AA L x.1) x
theorem Ham {x : Int} (h0 : 0 < x) (h1 : x ≤ 9223372036854775807) : Pc .i64 x 0 = x := by
 obtain ⟨n, rfl⟩ := jv (show 0 ≤ x by omega)
 show Pc .i64 (n : Int) ((0 : Nat) : Int) = _
 rw [Yn (by rw [Nw]; omega) (by decide), Nat.and_zero, Nat.xor_zero]
theorem KaM {L : List Na} {x : Ca} (h1 : x.2.1 ≤ 9223372036854775807) : PU (AA L x.1) x = XE L x := by
 unfold XE AA
 cases hc : Gh L x.1 with
 | some c => rfl
 | none =>
  simp only [Option.getD_none, Option.isSome_none, qr, PU, AD]
  by_cases h0 : x.2.1 ≤ 0
  ·rw [Aa h0]; rfl
  ·rw [Ham (by omega) h1, Ba h0]
   have : (x.2.1 != 0) = true := by simp; omega
   rw [this]; rfl
def Wt (pre : List Ca) (x : Ca) : Bool := Cd (fun _ (y : Ca) => !(y.1 == x.1)) 0 pre
def Et (L : List Na) : List Ca → List Ca → Bool
 | _, [] => true
 | pre, x :: r => (XE L x && Wt pre x) && Et L (pre ++ [x]) r
def PE (c : Ea) : Bool := Et c.1 [] c.2.2.2.2.2.2.1
theorem V0 {α : Type} (p : α → Bool) : ∀ (xs : List α) (k j : Nat), Cd (fun _ x => p x) k xs = Cd (fun _ x => p x) j xs
 | [], _, _ => rfl
 | x :: xs, k, j => by simp only [Cd]; rw [V0 p xs (k + 1) (j + 1)]
theorem H9 {α : Type} (p : α → Bool) : ∀ (xs ys : List α) (k : Nat), Cd (fun _ x => p x) k (xs ++ ys) = (Cd (fun _ x => p x) k xs && Cd (fun _ x => p x) k ys)
 | [], ys, k => by simp [Cd]
 | x :: xs, ys, k => by
  simp only [yu, Cd]
  rw [H9 p xs ys (k + 1), Bool.and_assoc, V0 p ys (k + 1) k]
theorem Wap (pre : List Ca) (y x : Ca) : Wt (pre ++ [y]) x = (Wt pre x && !(y.1 == x.1)) := by
 unfold Wt
 rw [H9]
 simp [Cd]
def D9 (L : List Na) (s : Int) (x : Ca) : Int ⊕ Unit := cond (XE L x && !(Wd s x.1 == 1)) (.inl (Lc .i64 s (Ma .i64 1 x.1))) (.inr ())
theorem E9 {L : List Na} (hL : Qe L = true) : ∀ (l pre : List Ca) (k : Nat) (s : Nat), s < 2 ^ 63 →
 (∀ x : Ca, 24 ≤ x.1 → x.1 ≤ 31 → (Wd (s : Int) x.1 == 1) = !Wt pre x) → Rk (Wa (fun _ s x => D9 L s x) k (s : Int) l) = Et L pre l
 | [], _, _, _, _, _ => rfl
 | x :: l, pre, k, s, hs, hb => by
  simp only [Wa, Et, D9]
  cases ho : XE L x with
  | false => rfl
  | true =>
   have hk : 24 ≤ x.1 ∧ x.1 ≤ 31 := by
    simp only [XE, jd] at ho
    have := TG hL ho.1
    omega
   rw [hb x hk.1 hk.2]
   simp only [Bool.not_not, jk]
   cases hn : Wt pre x with
   | false => rfl
   | true =>
    simp only [zz, jk]
    obtain ⟨n, hn2⟩ := jv (show 0 ≤ x.1 by omega)
    have hor : Lc .i64 (s : Int) (Ma .i64 1 x.1) = ((s ||| 2 ^ n : Nat) : Int) := by
     rw [hn2, Ve (by omega), Fi hs (Ye (by omega))]
    rw [hor]
    refine E9 hL l (pre ++ [x]) (k + 1) _ (zn hs (Ye (by omega))) fun y h1 h2 => ?_
    obtain ⟨m, hm⟩ := jv (show 0 ≤ y.1 by omega)
    rw [← hor, hm, hn2, CaF hs (by omega) (by omega), ← hm, hb y h1 h2, Wap]
    have : (x.1 == y.1) = decide (n = m) := by rw [hm, hn2, qx, beq_iff_eq, decide_eq_true_eq]; omega
    rw [this]
    cases Wt pre y <;> cases decide (n = m) <;> rfl
theorem DU (c : Ea) (hc : Qe c.1 = true) (hn : c.2.2.2.2.2.2.1.length ≤ Ga) (hn1 : c.1.length ≤ Ga) : Jy c = some (PE c, ()) := by
 have h20 : Ga = 1048576 := rfl
 have hl := Wg (step := fun x => Ep x.1.1 x.1.2.1 x.1.2.2.1 x.1.2.2.2.1 x.1.2.2.2.2.1 x.2.1) c.2.2.2.2.2.2.1 (fun _ s x => D9 c.1 s x) (fun s i => (((), s, c.2.2.2.2.2.2.1, ((ja c.2.2.2.2.2.2.1 : Nat) : Int), i, ()), (c, ())))
  (fun _ => .inl ((), ())) (fun _ => .inr ((false, ()), ())) (fun _ _ => True) (by
   intro k hk s _
   refine ⟨?_, fun _ _ => trivial⟩
   simp only [Ep]
   rw [Aa (show (k : Int) < ((ja c.2.2.2.2.2.2.1 : Nat) : Int) by omega), Ub hk]
   simp only [zz, jb]
   generalize c.2.2.2.2.2.2.1[k] = x
   rw [ZM _ _ hn1]
   simp only [jb, D9, XE]
   cases hsome : (Gh c.1 x.1).isSome with
   | false => rfl
   | true =>
    have hk := TG hc hsome
    simp only [jg, ua, jk]
    rw [Tl s (by omega), Aa (show 0 ≤ x.1 by omega)]
    simp only [jb, zz, PU, AA]
    cases Wd s x.1 == 1 <;> cases decide (x.2.1 ≤ 0) <;> cases (Pc .i64 x.2.1 ((Gh c.1 x.1).getD AD).1 != 0) <;> cases (x.2.2.1 != (x.2.1 == ((Gh c.1 x.1).getD AD).1)) <;> rfl) (by
   intro s _
   simp only [Ep]
   rw [Ba (by omega)]; rfl) (by omega) 0 trivial
 unfold Jy Hr PE
 erw [hl]
 rw [← E9 hc c.2.2.2.2.2.2.1 [] 0 0 (by decide) (fun x h1 h2 => by
  obtain ⟨m, hm⟩ := jv (show 0 ≤ x.1 by omega)
  rw [hm, Qj (by decide) (by omega), Nat.zero_testBit]; rfl)]
 show jz (some _) _ = _
 simp only [jb]
 show Sum.elim _ _ _ = _
 cases Wa (fun x s x => D9 c.1 s x) 0 ((0 : Nat) : Int) c.2.2.2.2.2.2.1 <;> rfl
def DV (s : Int) (x : Ca) : Int ⊕ Unit := cond (Ya .i64 s x.2.1 != 0) (.inr ()) (.inl (Lc .i64 s x.2.1))
def CV (c : Ea) : Bool := Rk (Wa (fun _ s x => DV s x) 0 c.2.2.2.2.2.1 c.2.2.2.2.2.2.1)
def Q2 (k : Nat) (s : Int) (l : List Ca) : Int := Bd (fun _ s (x : Ca) => Lc .i64 s x.2.1) k s l
def Al (c : Ea) : Int := Q2 0 c.2.2.2.2.2.1 c.2.2.2.2.2.2.1
theorem Hay : ∀ (l : List Ca) (k : Nat) (s : Int), Wa (fun _ s x => DV s x) k s l = cond (Rk (Wa (fun _ s x => DV s x) k s l)) (.inl (Q2 k s l)) (.inr ())
 | [], _, _ => rfl
 | x :: l, k, s => by
  simp only [Wa, Q2, Bd, DV]
  cases Ya .i64 s x.2.1 != 0 with
  | true => rfl
  | false => simp only [ua]; exact Hay l (k + 1) _
theorem Gv (c : Ea) (hn : c.2.2.2.2.2.2.1.length ≤ Ga) : Aj c = some (cond (CV c) (Al c) 0, CV c, ()) := by
 have h20 : Ga = 1048576 := rfl
 have hl := Wg (step := fun x => Km x.1.1 x.1.2.1 x.1.2.2.1 x.1.2.2.2.1) c.2.2.2.2.2.2.1 (fun _ s x => DV s x) (fun s i => ((s, c.2.2.2.2.2.2.1, ((ja c.2.2.2.2.2.2.1 : Nat) : Int), i, ()), ()))
  (fun s => .inl ((s, ()), ())) (fun _ => .inr (((0 : Int), false, ()), ())) (fun _ _ => True) (by
   intro k hk s _
   refine ⟨?_, fun _ _ => trivial⟩
   simp only [Km]
   rw [Aa (show (k : Int) < ((ja c.2.2.2.2.2.2.1 : Nat) : Int) by omega), Ub hk]
   simp only [zz, jb, DV]
   cases (Ya .i64 s c.2.2.2.2.2.2.1[k].2.1 != 0) <;> rfl) (by
   intro s _
   simp only [Km]
   rw [Ba (by omega)]; rfl) (by omega) c.2.2.2.2.2.1 trivial
 unfold Aj Vo CV Al
 erw [hl, Hay]
 show jz (some _) _ = _
 cases Rk (Wa (fun _ s x => DV s x) 0 c.2.2.2.2.2.1 c.2.2.2.2.2.2.1) <;> rfl
theorem QN (c : Ea) (hn : c.2.2.2.2.2.2.1.length ≤ Ga) : OA c = some (Al c, ()) := by
 have h20 : Ga = 1048576 := rfl
 have hl := (Kg (step := fun x => Uv x.1.1 x.1.2.1 x.1.2.2.1 x.2.1) c.2.2.2.2.2.2.1 (fun _ s (x : Ca) => Lc .i64 s x.2.1) (fun s i => (((), s, i, ()), (c, ())))
  (fun s => .inl ((s, ()), ())) (fun _ _ => True) (by
   intro k hk s _
   refine ⟨?_, trivial⟩
   simp only [Uv]
   rw [Aa (show (k : Int) < ((ja c.2.2.2.2.2.2.1 : Nat) : Int) by omega), Ub hk]; rfl) (by
   intro s _
   simp only [Uv]
   rw [Ba (by omega)]; rfl) (by omega) c.2.2.2.2.2.1 trivial).1
 unfold OA Rx Al Q2
 erw [hl]; rfl
def G9 (L : List Na) (l : List Ca) (k : Nat) (s : Int) (x : Ca) : Int ⊕ Unit :=
 cond (PU (AA L x.1) x && (!(Ya .i64 x.2.1 s != 0) && Wt (l.take k) x)) (.inl (Lc .i64 s x.2.1)) (.inr ())
theorem Pan (x y : Int) : Ya .i64 x y = Ya .i64 y x := by unfold Ya; rw [BitVec.and_comm]
theorem P0 (L : List Na) (l : List Ca) : ∀ (r : List Ca) (k : Nat) (s : Int), l.drop k = r → k ≤ l.length → (∀ x ∈ r, x.2.1 ≤ 9223372036854775807) →
 Rk (Wa (G9 L l) k s r) = (Et L (l.take k) r && Rk (Wa (fun _ s x => DV s x) k s r))
 | [], _, _, _, _, _ => rfl
 | x :: r, k, s, hd, hle, hr => by
  obtain ⟨hk, hx, hd'⟩ := Lz hd
  have ht : l.take (k + 1) = l.take k ++ [x] := by rw [Xaq hk, hx]
  simp only [Wa, Et, G9, DV]
  rw [KaM (hr x (by simp)), Pan x.2.1 s]
  cases XE L x with
  | false => rfl
  | true =>
   cases (Ya .i64 s x.2.1 != 0) with
   | true => simp [Rk]
   | false =>
    cases Wt (l.take k) x with
    | false => rfl
    | true =>
     simp only [qc, jk, zz, ua]
     rw [P0 L l r (k + 1) _ hd' hk (fun y hy => hr y (by simp [hy])), ht]; rfl
theorem VW (c : Ea) (hr : ∀ x ∈ c.2.2.2.2.2.2.1, x.2.1 ≤ 9223372036854775807) (hn : c.2.2.2.2.2.2.1.length ≤ Ga) (hn1 : c.1.length ≤ Ga) :
 SB c = some (decide (0 ≤ c.2.2.2.2.2.1 ∧ c.2.2.2.2.2.1 ≤ 16777215) && (PE c && CV c), ()) := by
 have h20 : Ga = 1048576 := rfl
 have hl := Wg (step := fun x => Zq x.1.1 x.1.2.1 x.1.2.2.1 x.2.1) c.2.2.2.2.2.2.1 (G9 c.1 c.2.2.2.2.2.2.1) (fun s i => (((), s, i, ()), (c, ())))
  (fun _ => .inl (((), ()), (c, ()))) (fun _ => .inr ((false, ()), ())) (fun _ _ => True) (by
   intro k hk s _
   refine ⟨?_, fun _ _ => trivial⟩
   simp only [Zq]
   rw [Aa (show (k : Int) < ((ja c.2.2.2.2.2.2.1 : Nat) : Int) by omega), Ub hk]
   simp only [zz, jb]
   rw [E3 _ _ hn1]
   generalize hx : c.2.2.2.2.2.2.1[k] = x
   simp only [jb, G9, PU, AA]
   have hin := Re (step := fun y => Pp y.1.1 y.1.2.1 y.1.2.2.1 y.1.2.2.2.1 y.1.2.2.2.2.1 y.2.1 y.2.2.1) (c.2.2.2.2.2.2.1.take k) (fun _ (y : Ca) => !(y.1 == x.1)) (fun i => (((), s, (k : Int), (), i, ()), (c, x, ())))
    (.inl (((), s, (k : Int), (), ()), (c, x, ()))) (.inr ((false, ()), ())) (by
     intro j hj
     have hj2 : j < k := by simp at hj; omega
     simp only [Pp]
     rw [Aa (show (j : Int) < (k : Int) by omega), Ub (show j < c.2.2.2.2.2.2.1.length by omega), Y6 hj]
     simp only [zz, jb]
     cases (c.2.2.2.2.2.2.1[j].1 == x.1) <;> rfl) (by
     have : ((ja (c.2.2.2.2.2.2.1.take k) : Nat) : Int) = (k : Int) := by simp; omega
     simp only [Pp]
     rw [Ba (by omega)]; rfl) (by simp; omega)
   unfold Ur Wt
   erw [hin]
   cases decide (x.2.1 ≤ 0) with
   | true => rfl
   | false =>
    cases (Pc .i64 x.2.1 ((Gh c.1 x.1).getD AD).1 != 0) with
    | true => rfl
    | false =>
     cases (x.2.2.1 != (x.2.1 == ((Gh c.1 x.1).getD AD).1)) with
     | true => rfl
     | false =>
      cases (Ya .i64 x.2.1 s != 0) with
      | true => rfl
      | false => cases Cd (fun _ (y : Ca) => !(y.1 == x.1)) 0 (c.2.2.2.2.2.2.1.take k) <;> rfl) (by
   intro s _
   simp only [Zq]
   rw [Ba (by omega)]; rfl) (by omega) c.2.2.2.2.2.1 trivial
 unfold SB Bu PE CV
 erw [hl]
 have hs := P0 c.1 c.2.2.2.2.2.2.1 c.2.2.2.2.2.2.1 0 c.2.2.2.2.2.1 rfl (zj _) hr
 rw [List.take_zero] at hs
 rw [← hs]
 show jz (some _) _ = _
 cases Wa (G9 c.1 c.2.2.2.2.2.2.1) 0 c.2.2.2.2.2.1 c.2.2.2.2.2.2.1 with
 | inl s =>
  simp only [jb, qm, Fe, Rk, Bool.and_true]
 | inr u => simp only [jb, Sum.elim_inr, Rk, Bool.and_false]
def Md (c : Ea) : Bool :=
 Qe c.1 && (decide (1 ≤ c.2.1 ∧ c.2.1 ≤ 200) && (decide (0 ≤ c.2.2.2.1 ∧ c.2.2.2.1 ≤ 1000000) && (decide (0 ≤ c.2.2.2.2.1 ∧ c.2.2.2.2.1 ≤ c.2.2.2.1) && ((decide (0 ≤ c.2.2.2.2.2.1 ∧ c.2.2.2.2.2.1 ≤ 16777215) && (PE c && CV c)) &&
  (Rc c.2.2.1 (Al c) 24 && Th c.2.2.1 c.2.2.2.1)))))
structure Ck (c : Ea) : Prop where
 a : c.1.length ≤ Ga
 q : c.2.2.1.length ≤ Ga
 e : c.2.2.2.2.2.2.1.length ≤ Ga
 r : ∀ x ∈ c.2.2.2.2.2.2.1, x.2.1 ≤ 9223372036854775807
theorem RI (c : Ea) (h : Ck c) : Nq c = some (Md c, ()) := by
 unfold Nq Md
 rw [EL _ h.a]
 cases hc : Qe c.1 with
 | false => rfl
 | true =>
  rw [DU c hc h.e h.a, Gv c h.e]
  simp only [jb, Hq, zz, jk, Ou]
  cases decide (1 ≤ c.2.1 ∧ c.2.1 ≤ 200) with
  | false => rfl
  | true =>
   cases decide (0 ≤ c.2.2.2.1 ∧ c.2.2.2.1 ≤ 1000000) with
   | false => rfl
   | true =>
    cases decide (0 ≤ c.2.2.2.2.1 ∧ c.2.2.2.2.1 ≤ c.2.2.2.1) with
    | false => rfl
    | true =>
     cases decide (0 ≤ c.2.2.2.2.2.1 ∧ c.2.2.2.2.2.1 ≤ 16777215) with
     | false => rfl
     | true =>
      cases PE c with
      | false => rfl
      | true =>
       cases CV c with
       | false => rfl
       | true =>
        simp only [zz, jk]
        rw [Us _ _ _ h.q, Ts _ _ h.q]
        cases Rc c.2.2.1 (Al c) 24 <;> rfl
theorem BJ (c : Ea) (h : Ck c) : Wq c = some (Md c, ()) := by
 have h20 : Ga = 1048576 := rfl
 unfold Wq Md
 rw [GZ _ h.a]
 cases hc : Qe c.1 with
 | false => rfl
 | true =>
  rw [VW c h.r h.e h.a, QN c h.e]
  simp only [jb, Hq, zz, jk, Fe]
  cases decide (1 ≤ c.2.1 ∧ c.2.1 ≤ 200) with
  | false => rfl
  | true =>
   cases decide (0 ≤ c.2.2.2.1 ∧ c.2.2.2.1 ≤ 1000000) with
   | false => rfl
   | true =>
    cases decide (0 ≤ c.2.2.2.2.1 ∧ c.2.2.2.2.1 ≤ c.2.2.2.1) with
    | false => rfl
    | true =>
     cases (decide (0 ≤ c.2.2.2.2.2.1 ∧ c.2.2.2.2.2.1 ≤ 16777215) && (PE c && CV c)) with
     | false => rfl
     | true =>
      simp only [zz, jk]
      rw [CJ _ _ _ h.q]
      simp only [jb]
      cases Rc c.2.2.1 (Al c) 24 with
      | false => rfl
      | true =>
       simp only [zz, jk, Th]
       by_cases h0 : c.2.2.1.length = 0
       ·have : (((c.2.2.1.length : Nat) : Int) == 0) = true := by simp [h0]
        rw [this]; rfl
       ·obtain ⟨x, h1, h2⟩ := LY (l := c.2.2.1) (by omega) h.q
        have : (((c.2.2.1.length : Nat) : Int) == 0) = false := by
         rw [beq_eq_false_iff_ne]; omega
        rw [this, h1]
        simp only [ua, jb, zd, h2]
def qdG (s : Int) (x : Ca) : Int := cond x.2.2.1 (Lc .i64 s (Ma .i64 1 x.2.1)) (Pc .i64 s (Ma .i64 1 x.2.1))
def qdI (d : Int) (q : List Ca) : Int := Bd (fun _ s x => qdG s x) 0 d q
def Z6 (s : Int) (x : Ca) : Int := Yb .i64 s (Ma .i64 1 x.2.1)
def EV (d : Int) (q : List Ca) : Int := Bd (fun _ s x => Z6 s x) 0 d q
theorem PJ (d : Int) (q : List Ca) (hn : q.length ≤ Ga) (hx : ∀ x ∈ q, 0 ≤ x.2.1) : St d q = some (qdI d q, ()) := by
 have h20 : Ga = 1048576 := rfl
 have hl := (Kg (step := fun x => Sq x.1.1 x.1.2.1 x.1.2.2.1 x.1.2.2.2.1) q (fun _ s x => qdG s x) (fun s i => ((s, q, ((ja q : Nat) : Int), i, ()), ()))
  (fun s => .inl ((s, ()), ())) (fun _ _ => True) (by
   intro k hk s _
   refine ⟨?_, trivial⟩
   simp only [Sq]
   rw [Aa (show (k : Int) < ((ja q : Nat) : Int) by omega), Ub hk]
   simp only [zz, jb]
   rw [Aa (hx _ (qt hk))]
   unfold qdG
   cases q[k].2.2.1 <;> rfl) (by
   intro s _
   simp only [Sq]
   rw [Ba (by omega)]; rfl) (by omega) d trivial).1
 unfold St Tt qdI
 erw [hl]; rfl
theorem VP {k : Int} (h : 0 ≤ k ∧ k ≤ 31) : Sr k = some (Ma .i64 1 k, ()) := by
 unfold Sr
 rw [Fe, Aa h, Aa h.1]; rfl
theorem DJ (d : Int) (q : List Ca) (hn : q.length ≤ Ga) (hx : ∀ x ∈ q, 0 ≤ x.2.1 ∧ x.2.1 ≤ 31) : Ar d q = some (EV d q, ()) := by
 have h20 : Ga = 1048576 := rfl
 have hl := (Kg (step := fun x => Qp x.1.1 x.1.2.1 x.1.2.2.1) q (fun _ s x => Z6 s x) (fun s i => ((s, q, i, ()), ()))
  (fun s => .inl ((s, ()), ())) (fun _ _ => True) (by
   intro k hk s _
   refine ⟨?_, trivial⟩
   simp only [Qp]
   rw [Aa (show (k : Int) < ((ja q : Nat) : Int) by omega), Ub hk]
   simp only [zz, jb]
   rw [VP (hx _ (qt hk))]; rfl) (by
   intro s _
   simp only [Qp]
   rw [Ba (by omega)]; rfl) (by omega) d trivial).1
 unfold Ar Vr EV
 erw [hl]; rfl
theorem BR : ∀ {q : List Ca} {k : Nat} {s : Int × Int}, Rk (Wa (fun _ s x => Er s x) k s q) = true → ∀ x ∈ q, Fg x = true
 | [], _, _, _, x, hx => by simp at hx
 | y :: q, k, s, h, x, hx => by
  simp only [Wa, Er] at h
  cases hc : Jj s y with
  | false => rw [hc] at h; simp [Rk] at h
  | true =>
   rw [hc] at h
   rcases jp.1 hx with rfl | hx
   ·simp only [Jj, jd] at hc; exact hc.1
   ·exact BR h x hx
theorem Fay : ∀ (q : List Ca) (k : Nat) (t : Int) (d : Nat), d < 2 ^ 63 → Rk (Wa (fun _ s x => Er s x) k (t, (d : Int)) q) = true →
 Bd (fun _ s x => qdG s x) k (d : Int) q = Bd (fun _ s x => Z6 s x) k (d : Int) q
 | [], _, _, _, _, _ => rfl
 | x :: q, k, t, d, hd, h => by
  simp only [Wa, Er] at h
  cases hc : Jj (t, (d : Int)) x with
  | false => rw [hc] at h; simp [Rk] at h
  | true =>
   rw [hc] at h
   simp only [zz] at h
   simp only [Jj, jd, yx] at hc
   have hk := Zl hc.1
   obtain ⟨n, hn⟩ := jv hk.2.2.1
   have hn31 : n ≤ 31 := by omega
   have e : qdG (d : Int) x = Z6 (d : Int) x := by
    unfold qdG Z6
    have hb := hc.2.2
    rw [hn] at hb ⊢
    cases hp : x.2.2.1 with
    | true =>
     rw [hp] at hb
     exact TaH hd (by omega) (by cases hz : (Wd (d : Int) (n : Int) == 1) with
      | false => rfl
      | true => rw [hz] at hb; simp at hb)
    | false =>
     rw [hp] at hb
     exact Oas hd (by omega) (by cases hz : (Wd (d : Int) (n : Int) == 1) with
      | true => rfl
      | false => rw [hz] at hb; simp at hb)
   obtain ⟨b, hb1, hb2⟩ := Oad (a := d) (k := n) hd (by omega)
   have hg : Z6 (d : Int) x = (b : Int) := by unfold Z6; rw [hn]; exact hb1
   simp only [Bd]
   rw [e, hg]
   rw [hn, hb1] at h
   exact Fay q (k + 1) x.1 b hb2 h
theorem JY {q : List Ca} {d keys : Int} (h : Rc q d keys = true) : Rk (Wa (fun _ s x => Er s x) 0 (0, d) q) = true := by
 simp only [Rc, TE, Qaa, jd] at h
 have h2 := h.2
 cases hf : Wa (fun _ s x => Er s x) 0 (0, d) q with
 | inl s => rfl
 | inr u => rw [hf] at h2; cases hd : decide (q.length ≤ 64) <;> rw [hd] at h2 <;> simp at h2
theorem BW {q : List Ca} {d keys : Int} (hd : 0 ≤ d ∧ d ≤ 9223372036854775807) (h : Rc q d keys = true) : (∀ x ∈ q, 0 ≤ x.2.1 ∧ x.2.1 ≤ 31) ∧ qdI d q = EV d q := by
 have hf := JY h
 refine ⟨fun x hx => ?_, ?_⟩
 ·have := Zl (BR hf x hx); omega
 ·obtain ⟨n, rfl⟩ := jv hd.1
  exact Fay q 0 0 n (by rw [Nw]; omega) hf
theorem SY : ∀ (l : List Va) (k : Nat) (s : Nat), s < 2 ^ 63 → (∀ x ∈ l, Xv x) → ∃ m : Nat, Bd (fun _ s (x : Va) => Lc .i64 s (Ma .i64 1 x.1)) k (s : Int) l = (m : Int) ∧ m < 2 ^ 63
 | [], _, s, hs, _ => ⟨s, rfl, hs⟩
 | x :: l, k, s, hs, h => by
  have hx := h x (by simp)
  obtain ⟨n, hn⟩ := jv hx.lo
  have := hx.hi
  simp only [Bd]
  rw [hn, Ve (by omega), Fi hs (Ye (by omega))]
  exact SY l (k + 1) _ (zn hs (Ye (by omega))) (fun y hy => h y (by simp [hy]))
theorem Caq : ∀ (l : List Ca) (k : Nat) (s : Nat), s < 2 ^ 63 → (∀ x ∈ l, 0 ≤ x.2.1 ∧ x.2.1 ≤ 9223372036854775807) → ∃ m : Nat, Q2 k (s : Int) l = (m : Int) ∧ m < 2 ^ 63
 | [], _, s, hs, _ => ⟨s, rfl, hs⟩
 | x :: l, k, s, hs, h => by
  have hx := h x (by simp)
  obtain ⟨n, hn⟩ := jv hx.1
  have hn2 : n < 2 ^ 63 := by rw [Nw]; omega
  have := Caq l (k + 1) (s ||| n) (zn hs hn2) (fun y hy => h y (by simp [hy]))
  simp only [Q2, Bd] at this ⊢
  rw [hn, Fi hs hn2]
  exact this
theorem Sad {L : List Na} : ∀ {l pre : List Ca}, Et L pre l = true → ∀ x ∈ l, XE L x = true
 | [], _, _, x, hx => by simp at hx
 | y :: l, pre, h, x, hx => by
  simp only [Et, jd] at h
  rcases jp.1 hx with rfl | hx
  ·exact h.1.1
  ·exact Sad h.2 x hx
structure Iah (x : Ca) : Prop where
 lo : 0 ≤ x.1
 hi : x.1 ≤ 31
 left : 0 ≤ x.2.1
theorem DD {c : Ea} (h : Md c = true) : ∀ x ∈ c.2.2.2.2.2.2.1, Iah x := by
 intro x hx
 simp only [Md, jd] at h
 have h1 := Sad (l := c.2.2.2.2.2.2.1) h.2.2.2.2.1.2.1 x hx
 simp only [XE, jd] at h1
 have h2 := TG h.1 h1.1
 have h3 := h1.2
 simp only [PU, jd, yx, decide_eq_false_iff_not] at h3
 exact ⟨by omega, by omega, by omega⟩
theorem KS {c : Ea} (hz : Ck c) (h : Md c = true) : 0 ≤ Al c ∧ Al c ≤ 9223372036854775807 := by
 have ha := DD h
 simp only [Md, jd, decide_eq_true_eq] at h
 have h1 := h.2.2.2.2.1.1
 obtain ⟨n, hn⟩ := jv h1.1
 obtain ⟨m, hm, hm2⟩ := Caq c.2.2.2.2.2.2.1 0 n (by rw [Nw]; omega) (fun x hx => ⟨(ha x hx).left, hz.r x hx⟩)
 rw [Nw] at hm2
 unfold Al
 rw [hn, hm]
 omega
def C6 (s : Int) (x : Ca) : Int := cond x.2.2.1 (Lc .i64 s (Ma .i64 1 x.1)) s
def D6 (c : Ea) : Int := Bd (fun _ s x => C6 s x) 0 c.2.2.2.2.2.1 c.2.2.2.2.2.2.1
theorem B5 (c : Ea) (hn : c.2.2.2.2.2.2.1.length ≤ Ga) (ha : ∀ x ∈ c.2.2.2.2.2.2.1, Iah x) : CI c = some (D6 c, ()) := by
 have h20 : Ga = 1048576 := rfl
 have hl := (Kg (step := fun x => Yy x.1.1 x.1.2.1 x.1.2.2.1 x.2.1) c.2.2.2.2.2.2.1 (fun _ s x => C6 s x) (fun s i => (((), s, i, ()), (c, ())))
  (fun s => .inl ((s, ()), ())) (fun _ _ => True) (by
   intro k hk s _
   refine ⟨?_, trivial⟩
   have hx := ha _ (qt hk)
   simp only [Yy]
   rw [Aa (show (k : Int) < ((ja c.2.2.2.2.2.2.1 : Nat) : Int) by omega), Ub hk]
   simp only [zz, jb]
   rw [VP ⟨hx.lo, hx.hi⟩]
   unfold C6
   cases c.2.2.2.2.2.2.1[k].2.2.1 <;> rfl) (by
   intro s _
   simp only [Yy]
   rw [Ba (by omega)]; rfl) (by omega) c.2.2.2.2.2.1 trivial).1
 unfold CI QA D6
 erw [hl]; rfl
theorem O7 (b : Vb) (t : Int) (hn : b.2.2.1.2.2.2.2.2.2.1.length ≤ Ga) (ha : ∀ x ∈ b.2.2.1.2.2.2.2.2.2.1, Iah x) :
 Jn (((), t, b.2.2.1.2.2.2.2.2.1, b.2.2.1.2.2.2.2.2.2.1, ((ja b.2.2.1.2.2.2.2.2.2.1 : Nat) : Int), (0 : Int), ()), (b, ())) = some (.inl (((), t, D6 b.2.2.1, ()), (b, ()))) := by
 have h20 : Ga = 1048576 := rfl
 have hl := (Kg (step := fun x => Is x.1.1 x.1.2.1 x.1.2.2.1 x.1.2.2.2.1 x.1.2.2.2.2.1 x.1.2.2.2.2.2.1 x.2.1) b.2.2.1.2.2.2.2.2.2.1 (fun _ s x => C6 s x) (fun s i => (((), t, s, b.2.2.1.2.2.2.2.2.2.1, ((ja b.2.2.1.2.2.2.2.2.2.1 : Nat) : Int), i, ()), (b, ())))
  (fun s => .inl (((), t, s, ()), (b, ()))) (fun _ _ => True) (by
   intro k hk s _
   refine ⟨?_, trivial⟩
   have hx := ha _ (qt hk)
   simp only [Is]
   rw [Aa (show (k : Int) < ((ja b.2.2.1.2.2.2.2.2.2.1 : Nat) : Int) by omega), Ub hk]
   simp only [zz, jb]
   rw [Aa hx.lo]
   unfold C6
   cases b.2.2.1.2.2.2.2.2.2.1[k].2.2.1 <;> rfl) (by
   intro s _
   simp only [Is]
   rw [Ba (by omega)]; rfl) (by omega) b.2.2.1.2.2.2.2.2.1 trivial).1
 unfold Jn D6
 exact hl
def LL (m : Qd) (keys : Int) (L : List Na) : Bool := Cd (fun _ (x : Na) => Ic m x.1 && !decide (x.2.1 ≥ keys)) 0 L
noncomputable def Rj (b : Vb) : Bool :=
 Jf b.1 && (Gd b.2.1 && (Md b.2.2.1 && (Xd b.2.2.2.1 && ((b.2.1.2.2.1 == Dc b.1) && (!decide (b.2.2.2.1.1.1.1 < Dc b.1) && (Ic b.1 b.2.2.2.2.1 &&
  (LL b.1 b.2.2.2.1.1.1.1 b.2.2.1.1 && (decide (0 ≤ b.2.2.2.2.2.1 ∧ b.2.2.2.2.2.1 ≤ 1000000) && (!decide (b.2.2.1.2.2.2.1 > b.2.2.2.2.2.1) && (!decide (b.2.2.2.1.2.2.2.1 > b.2.2.2.2.2.1) &&
  ((EV (Al b.2.2.1) b.2.2.1.2.2.1 == b.2.1.2.2.2.1) && (EV (Kp b.2.2.2.1.1.2.2.2.1) b.2.2.2.1.2.2.1 == D6 b.2.2.1))))))))))))
structure Co (b : Vb) : Prop where
 d : b.2.1.2.2.2.2.2.1.length ≤ Ga
 c : Ck b.2.2.1
 x : Jc Ge b.2.2.2.1 ≤ Ga
theorem PF (b : Vb) (h : Co b) : Kt b = some (Rj b, ()) := by
 have h20 : Ga = 1048576 := rfl
 have hq := h.x
 rw [Bw, An, Cn, Qm] at hq
 have hn1 := h.c.a
 have hl := Re (step := fun x => Wu x.1.1 x.1.2.1 x.1.2.2.1 x.1.2.2.2.1 x.1.2.2.2.2.1 x.2.1) b.2.2.1.1 (fun _ (x : Na) => Ic b.1 x.1 && !decide (x.2.1 ≥ b.2.2.2.1.1.1.1)) (fun i => (((), b.2.2.2.1.1.1.1, b.2.2.1.1, ((ja b.2.2.1.1 : Nat) : Int), i, ()), (b, ())))
  (.inl (((), ()), (b, ()))) (.inr ((false, ()), ())) (by
   intro k hk
   simp only [Wu]
   rw [Aa (show (k : Int) < ((ja b.2.2.1.1 : Nat) : Int) by omega), Ub hk]
   simp only [zz, jb, Nt]
   cases Ic b.1 b.2.2.1.1[k].1 <;> cases decide (b.2.2.1.1[k].2.1 ≥ b.2.2.2.1.1.1.1) <;> rfl) (by
   simp only [Wu]
   rw [Ba (by omega)]; rfl) (by omega)
 unfold Kt Ix Rj
 rw [EE, IG _ h.d, RI _ h.c, Ks _ h.x, To, Nt]
 simp only [jb, Hq, bne]
 cases Jf b.1 with
 | false => rfl
 | true =>
  cases Gd b.2.1 with
  | false => rfl
  | true =>
   cases hc : Md b.2.2.1 with
   | false => rfl
   | true =>
    cases hd : Xd b.2.2.2.1 with
    | false => rfl
    | true =>
     cases b.2.1.2.2.1 == Dc b.1 with
     | false => rfl
     | true =>
      cases decide (b.2.2.2.1.1.1.1 < Dc b.1) with
      | true => rfl
      | false =>
       cases Ic b.1 b.2.2.2.2.1 with
       | false => rfl
       | true =>
        simp only [zz, ua, jk, qc]
        erw [hl]
        unfold LL
        cases Cd (fun _ (x : Na) => Ic b.1 x.1 && !decide (x.2.1 ≥ b.2.2.2.1.1.1.1)) 0 b.2.2.1.1 with
        | false => rfl
        | true =>
         have ha := DD hc
         have hdn := KS h.c hc
         have hc2 := hc
         simp only [Md, jd] at hc2
         have hf := BW hdn hc2.2.2.2.2.2.1
         have hd2 := hd
         simp only [Xd, jd] at hd2
         have hh := Iu (OC hd2.1)
         obtain ⟨m, hm, hm2⟩ := SY b.2.2.2.1.1.2.2.2.1 0 0 (by decide) hh
         rw [Nw] at hm2
         have hm' : Kp b.2.2.2.1.1.2.2.2.1 = (m : Int) := hm
         have hf2 := BW (by rw [hm']; omega) hd2.2.2.2.2.1
         simp only [zz, jb, qm, Ou]
         rw [Gv _ h.c.e, hc2.2.2.2.2.1.2.2]
         simp only [zz, jb]
         rw [O7 _ _ h.c.e ha]
         simp only [jb, qm]
         rw [PJ _ _ h.c.q (fun x hx => (hf.1 x hx).1), hf.2]
         simp only [jb]
         rw [GE _ (by omega) hh]
         simp only [jb]
         rw [PJ _ _ (by omega) (fun x hx => (hf2.1 x hx).1), hf2.2]
         simp only [jb, jk]
         cases decide (0 ≤ b.2.2.2.2.2.1 ∧ b.2.2.2.2.2.1 ≤ 1000000) <;> cases decide (b.2.2.1.2.2.2.1 > b.2.2.2.2.2.1) <;> cases decide (b.2.2.2.1.2.2.2.1 > b.2.2.2.2.2.1) <;> cases (EV (Al b.2.2.1) b.2.2.1.2.2.1 == b.2.1.2.2.2.1) <;> rfl
theorem NN (b : Vb) (h : Co b) : JA b = some (Rj b, ()) := by
 have h20 : Ga = 1048576 := rfl
 have hq := h.x
 rw [Bw, An, Cn, Qm] at hq
 have hn1 := h.c.a
 have hl := Re (step := fun x => Ov x.1.1 x.1.2.1 x.1.2.2.1 x.2.1) b.2.2.1.1 (fun _ (x : Na) => Ic b.1 x.1 && !decide (x.2.1 ≥ b.2.2.2.1.1.1.1)) (fun i => (((), b.2.2.2.1.1.1.1, i, ()), (b, ())))
  (.inl (((), ()), (b, ()))) (.inr ((false, ()), ())) (by
   intro k hk
   simp only [Ov]
   rw [Aa (show (k : Int) < ((ja b.2.2.1.1 : Nat) : Int) by omega), Ub hk]
   simp only [zz, jb, TP]
   cases Ic b.1 b.2.2.1.1[k].1 <;> cases decide (b.2.2.1.1[k].2.1 ≥ b.2.2.2.1.1.1.1) <;> rfl) (by
   simp only [Ov]
   rw [Ba (by omega)]; rfl) (by omega)
 unfold JA Ox Rj
 rw [KG _ h.d, BJ _ h.c, QJ _ h.x, Rv, TP]
 simp only [jb, Hq, bne]
 cases hmat : Jf b.1 with
 | false =>
  have : Dc b.1 = 0 := by unfold Dc; rw [hmat]; rfl
  rw [this]; rfl
 | true =>
  have hk := C2 hmat
  have : (Dc b.1 == 0) = false := by rw [beq_eq_false_iff_ne]; omega
  rw [this]
  cases Gd b.2.1 with
  | false => rfl
  | true =>
   cases b.2.1.2.2.1 == Dc b.1 with
   | false => cases Md b.2.2.1 <;> cases Xd b.2.2.2.1 <;> rfl
   | true =>
    cases Ic b.1 b.2.2.2.2.1 with
    | false => cases Md b.2.2.1 <;> cases Xd b.2.2.2.1 <;> cases decide (b.2.2.2.1.1.1.1 < Dc b.1) <;> rfl
    | true =>
     cases hc : Md b.2.2.1 with
     | false => rfl
     | true =>
      cases hd : Xd b.2.2.2.1 with
      | false => rfl
      | true =>
       cases decide (b.2.2.2.1.1.1.1 < Dc b.1) with
       | true => rfl
       | false =>
        simp only [zz, ua, jk, qc]
        erw [hl]
        unfold LL
        cases Cd (fun _ (x : Na) => Ic b.1 x.1 && !decide (x.2.1 ≥ b.2.2.2.1.1.1.1)) 0 b.2.2.1.1 with
        | false => rfl
        | true =>
         have ha := DD hc
         have hdn := KS h.c hc
         have hc2 := hc
         simp only [Md, jd] at hc2
         have hf := BW hdn hc2.2.2.2.2.2.1
         have hd2 := hd
         simp only [Xd, jd] at hd2
         have hh := Iu (OC hd2.1)
         obtain ⟨m, hm, hm2⟩ := SY b.2.2.2.1.1.2.2.2.1 0 0 (by decide) hh
         rw [Nw] at hm2
         have hm' : Kp b.2.2.2.1.1.2.2.2.1 = (m : Int) := hm
         have hf2 := BW (by rw [hm']; omega) hd2.2.2.2.2.1
         simp only [zz, jb, qm, Fe, Hq]
         rw [QN _ h.c.e]
         simp only [zz, jb]
         rw [DJ _ _ h.c.q hf.1]
         simp only [jb]
         rw [ON _ (by omega) hh]
         simp only [jb]
         rw [DJ _ _ (by omega) hf2.1, B5 _ h.c.e ha]
         simp only [jb, jk]
         cases decide (0 ≤ b.2.2.2.2.2.1 ∧ b.2.2.2.2.2.1 ≤ 1000000) <;> cases decide (b.2.2.1.2.2.2.1 > b.2.2.2.2.2.1) <;> cases decide (b.2.2.2.1.2.2.2.1 > b.2.2.2.2.2.1) <;> cases (EV (Al b.2.2.1) b.2.2.1.2.2.1 == b.2.1.2.2.2.1) <;> rfl
theorem Can (d : Rb) : Jc Je d = d.2.2.2.2.2.1.length := by
 have := DaI d.2.2.2.2.2.1
 simp only [Jc, yl, js] at this ⊢
 exact this
theorem Xad (c : Ea) : Jc De c = c.1.length + (c.2.2.1.length + c.2.2.2.2.2.2.1.length) := by
 have h1 := Bp (e := Nc) rfl c.1
 have h2 := Bp (e := Bc) rfl c.2.2.1
 have h3 := Bp (e := Bc) rfl c.2.2.2.2.2.2.1
 simp only [Jc, yl, js] at h1 h2 h3 ⊢
 rw [h1, h2, h3]
theorem M9 (b : Vb) : Jc Af b = Jc Je b.2.1 + (Jc De b.2.2.1 + Jc Ge b.2.2.2.1) := by
 simp only [Jc, yl, js]
theorem Lab {m : Db} (hz : Jc Oc m ≤ Ga) : ja m.2.1 ≤ Ga ∧ ∀ k (hk : k < m.2.1.length), m.2.1[k].length ≤ Ga := by
 have h0 : Jc Oc m = 0 + (Jc (.sl (.sl Mc)) m.2.1 + 0) := rfl
 have h1 : Jc (.sl (.sl Mc)) m.2.1 = ja m.2.1 + (List.map (Jc (.sl Mc)) m.2.1).sum := rfl
 refine ⟨by omega, fun k hk => ?_⟩
 have h2 := FG (f := Jc (.sl Mc)) hk
 rw [J3] at h2
 omega
theorem EU (m : Db) (hz : Jc Oc m ≤ Ga) : Ky m = some (m, ()) := by
 have h20 : Ga = 1048576 := rfl
 obtain ⟨h1, h2⟩ := Lab hz
 have hl := FN (step := fun x : (Unit × Unit × List (List Pa) × Int × Int × Unit) × Db × Db × Unit => Fp x.1.1 x.1.2.1 x.1.2.2.1 x.1.2.2.2.1 x.1.2.2.2.2.1 x.2.1 x.2.2.1) m.2.1 (fun x => x)
  (fun o k => (((), (), m.2.1, (m.2.1.length : Int), k, ()), ((0, [], ()), (m.1, o, ()), ()))) (fun o => .inl (((), (), ()), ((0, [], ()), (m.1, o, ()), ()))) (by omega) (fun k hk o ho => by
   have := h2 k hk
   simp only [Fp]
   rw [Aa (by omega), Ub hk]
   simp only [zz, jb]
   rw [Ng (by simp; omega), Ng (by simp only [jw, qb]; omega)]
   rfl) (fun o => by
   simp only [Fp]
   rw [Ba (by omega)]
   rfl)
 unfold Ky Ir
 erw [hl]
 rw [List.map_id']
 rfl
theorem C5 (m : Db) (hz : Jc Oc m ≤ Ga) : GI m = some (m, ()) := by
 have h20 : Ga = 1048576 := rfl
 obtain ⟨h1, h2⟩ := Lab hz
 have hl := FN (step := fun x : (Unit × Unit × Unit × Int × Unit) × Db × Db × Db × Unit => Zy x.1.1 x.1.2.1 x.1.2.2.1 x.1.2.2.2.1 x.2.1 x.2.2.1 x.2.2.2.1) m.2.1 (fun x => x)
  (fun o k => (((), (), (), k, ()), (m, (0, [], ()), (m.1, o, ()), ()))) (fun o => .inl (((), (), ()), ((0, [], ()), (m.1, o, ()), ()))) (by omega) (fun k hk o ho => by
   have := h2 k hk
   simp only [Zy]
   rw [Aa (by omega), Ub hk]
   simp only [zz, jb]
   rw [Ng (by simp; omega), Ng (by simp only [jw, qb]; omega)]
   rfl) (fun o => by
   simp only [Zy]
   rw [Ba (by omega)]
   rfl)
 unfold GI SA
 erw [hl]
 rw [List.map_id']
 rfl
def Vg (r : Sc) : Bool := decide (r.1.length < 6) && (decide (-1 ≤ r.2.1 ∧ r.2.1 ≤ 255) && (decide (0 ≤ r.2.2.1 ∧ r.2.2.1 ≤ 16777215) && decide (0 ≤ r.2.2.2.1 ∧ r.2.2.2.1 ≤ 20)))
theorem Qq (r : Sc) : Ik r = some (Vg r, ()) := by
 unfold Ik Vg
 simp only [Oh, Ph]
 apply Tc
 simp only [Dd, decide_eq_true_eq, jq, and_false, or_false, jd]
 omega
theorem AV (r : Sc) : Wy r = some (Vg r, ()) := by
 unfold Wy Vg
 simp only [Fe, jb, Oh, Ph]
 apply Tc
 simp only [Dd, decide_eq_true_eq, jq, and_false, or_false, jd]
 omega
def Kj (m : Qd) : Int := cond (yn m.1 2 != 0) 0 (Int.tdiv (Dc m) 2)
theorem Jab (m : Qd) : 0 ≤ Dc m ∧ Dc m ≤ 24 := by
 cases h : Jf m with
 | true => have := C2 h; omega
 | false => unfold Dc; rw [h]; exact ⟨za _, by show (0 : Int) ≤ 24; decide⟩
theorem A4 (m : Qd) : 0 ≤ Kj m ∧ Kj m ≤ 12 := by
 have h := Jab m
 unfold Kj
 cases yn m.1 2 != 0 with
 | true => exact ⟨za _, by show (0 : Int) ≤ 12; decide⟩
 | false =>
  simp only [ua]
  rw [Int.tdiv_eq_ediv_of_nonneg h.1]
  omega
theorem AM (h : Ob) : Pw h = some (Kj h.1.1, ()) := by
 have hb := Jab h.1.1
 unfold Pw Kj
 rw [Rv]
 have e : j9 .i64 (Int.tdiv (Dc h.1.1) 2) = Int.tdiv (Dc h.1.1) 2 := by
  rw [Int.tdiv_eq_ediv_of_nonneg hb.1, Qc (by omega) (by omega)]
 simp only [jb, e]
 cases yn h.1.1.1 2 != 0 <;> rfl
theorem DE (h : Ob) : Xp h = some (Kj h.1.1, ()) := by
 have hb := Jab h.1.1
 unfold Xp Kj
 rw [To]
 have e : j9 .i64 (Int.tdiv (Dc h.1.1) 2) = Int.tdiv (Dc h.1.1) 2 := by
  rw [Int.tdiv_eq_ediv_of_nonneg hb.1, Qc (by omega) (by omega)]
 simp only [jb, e]
 cases yn h.1.1.1 2 != 0 <;> rfl
noncomputable def Ji (h : Ob) : Bool := Rj h.1 && (decide (Kj h.1.1 > 0) && (Vg h.2.1 && decide (0 ≤ h.2.2.1 ∧ h.2.2.1 ≤ 255)))
theorem FL (h : Ob) (hb : Co h.1) : Iw h = some (Ji h, ()) := by
 have hh := A4 h.1.1
 unfold Iw Ji
 rw [PF _ hb, Qq, DE]
 simp only [jb, Oh, Ph]
 apply Tc
 simp only [Dd, decide_eq_true_eq, jq, and_false, or_false, jd, TK]
 constructor
 ·rintro ⟨h1, h2, h3, h4, h5⟩; exact ⟨h1, by omega, h2, by omega, by omega⟩
 ·rintro ⟨h1, h2, h3, h4, h5⟩; exact ⟨h1, h3, by omega, by omega, by omega⟩
theorem HZ (h : Ob) (hb : Co h.1) : Rw h = some (Ji h, ()) := by
 unfold Rw Ji
 rw [NN _ hb, AV, AM]
 simp only [jb, Fe]
 cases Rj h.1 <;> cases decide (Kj h.1.1 > 0) <;> cases Vg h.2.1 <;> rfl
theorem F6 (h : Ob) : Jc Df h = Jc Af h.1 + Jc Dh h.2.1 := by
 simp only [Jc, yl, js]
theorem U6 {L : List (List Cc)} (hz : Jc (.sl (.sl Ad)) L ≤ Ga) : ja L ≤ Ga ∧ ∀ k (hk : k < L.length), L[k].length ≤ Ga := by
 have h1 : Jc (.sl (.sl Ad)) L = ja L + (List.map (Jc (.sl Ad)) L).sum := rfl
 refine ⟨by omega, fun k hk => ?_⟩
 have h2 := FG (f := Jc (.sl Ad)) hk
 rw [G5] at h2
 omega
theorem FU (L : List (List Cc)) (hz : Jc (.sl (.sl Ad)) L ≤ Ga) : Ly L = some (L, ()) := by
 have h20 : Ga = 1048576 := rfl
 obtain ⟨h1, h2⟩ := U6 hz
 have hl := FN (step := fun x => Gp x.1.1 x.1.2.1 x.1.2.2.1 x.1.2.2.2.1) L (fun x => x)
  (fun o k => ((o, L, ((ja L : Nat) : Int), k, ()), ())) (fun o => .inl ((o, ()), ())) (by omega) (fun k hk o ho => by
   have := h2 k hk
   simp only [Gp]
   rw [Aa (by omega), Ub hk]
   simp only [zz, jb]
   rw [Ng (by simp; omega), Ng (by simp only [jw, qb]; omega)]
   rfl) (fun o => by
   simp only [Gp]
   rw [Ba (by omega)]
   rfl)
 unfold Ly Jr
 erw [hl]
 rw [List.map_id']
 rfl
theorem Am (e : Jb) (hz : Jc Xc e ≤ Ga) : Kk e = some (e, ()) := by
 have h20 : Ga = 1048576 := rfl
 rw [Cn, Qm] at hz
 unfold Kk
 rw [EU _ (by omega), FU _ (by omega), Ng (by simp; omega)]
 rfl
theorem JG (d : Eb) (hz : Jc Ge d ≤ Ga) : Jl d = some (d, ()) := by
 have h20 : Ga = 1048576 := rfl
 rw [Bw, An] at hz
 unfold Jl
 rw [Am _ (by omega), Ng (by simp; omega)]
 rfl
theorem SF (c : Ea) (h : Ck c) : Nk c = some (c, ()) := by
 have h20 : Ga = 1048576 := rfl
 have h1 := h.a
 have h2 := h.q
 have h3 := h.e
 unfold Nk
 rw [Ng (by simp; omega), Ng (by simp; omega), Ng (by simp; omega)]
 rfl
theorem PN (c : Ea) (h : Ck c) : NA c = some (c, ()) := by
 have h20 : Ga = 1048576 := rfl
 have h1 := h.a
 have h2 := h.q
 have h3 := h.e
 unfold NA
 rw [Ng (by simp; omega), Ng (by simp; omega), Ng (by simp; omega)]
 rfl
theorem IH (e : Jb) (hz : Jc Xc e ≤ Ga) : Bx e = some (e, ()) := by
 have h20 : Ga = 1048576 := rfl
 rw [Cn, Qm] at hz
 obtain ⟨h1, h2⟩ := U6 (L := e.2.1) (by omega)
 have hl := FN (step := fun x => Bz x.1.1 x.1.2.1 x.1.2.2.1 x.1.2.2.2.1 x.2.1 x.2.2.1 x.2.2.2.1) e.2.1 (fun x => x)
  (fun o k => (((), (), (), k, ()), (e, (((0 : Int), ([] : List (List Pa)), ()), ([] : List (List Cc)), (0 : Int), ([] : List Va), (0 : Int), false, ()), (e.1, o, e.2.2), ())))
  (fun o => .inl (((), (), (), ()), (e, (((0 : Int), ([] : List (List Pa)), ()), ([] : List (List Cc)), (0 : Int), ([] : List Va), (0 : Int), false, ()), (e.1, o, e.2.2), ()))) (by omega) (fun k hk o ho => by
   have := h2 k hk
   simp only [Bz]
   rw [Aa (by omega), Ub hk]
   simp only [zz, jb]
   rw [Ng (by simp; omega), Ng (by simp only [jw, qb]; omega)]
   rfl) (fun o => by
   simp only [Bz]
   rw [Ba (by omega)]
   rfl)
 unfold Bx XA
 rw [C5 _ (by omega)]
 simp only [jb]
 erw [hl]
 rw [List.map_id']
 simp only [jb, qm]
 rw [Ng (by simp; omega)]
 rfl
theorem OJ (b : Vb) (h : Co b) : Qt b = some (b, ()) := by
 unfold Qt
 rw [FE _ h.d, SF _ h.c, JG _ h.x]
 rfl
theorem RN (b : Vb) (h : Co b) : PA b = some (b, ()) := by
 have h20 : Ga = 1048576 := rfl
 have h1 := h.d
 have h2 := h.x
 rw [Bw, An] at h2
 unfold PA
 rw [Ng (by simp; omega), PN _ h.c, IH _ (by omega)]
 simp only [zz, jb]
 rw [Ng (by simp; omega)]
 rfl
def GG : Vb := (((0 : Int), (0 : Int), false, ()), ((0 : Int), (0 : Int), (0 : Int), (0 : Int), (0 : Int), ([] : List Int), ()), (([] : List Na), (0 : Int), ([] : List Ca), (0 : Int), (0 : Int), (0 : Int), ([] : List Ca), ()), ((((0 : Int), ([] : List (List Pa)), ()), ([] : List (List Cc)), (0 : Int), ([] : List Va), (0 : Int), false, ()), ((0 : Int), (0 : Int), (0 : Int), ()), ([] : List Ca), (0 : Int), (0 : Int), (0 : Int), (0 : Int), ()), (0 : Int), (0 : Int), ())
theorem Tat : ∀ (a b : List Int), a.length = b.length → Cd (fun k x => b.getD k 0 == x) 0 a = (b == a)
 | a, b, h => by
  rw [qx, Pk, beq_iff_eq]
  constructor
  ·intro hj
   apply List.ext_getElem h.symm
   intro i h1 h2
   have := hj i h2
   rw [js, beq_iff_eq, qj, je h1] at this
   exact this
  ·rintro rfl i hi
   rw [js, beq_iff_eq, qj, je hi]; rfl
theorem KL (a b : List Int) (hn : a.length ≤ Xa) : KD a b = some (a == b, ()) := by
 have hlim := Tf
 unfold KD
 by_cases h : a.length = b.length
 ·have hl := Re (step := fun x => Vs x.1.1 x.1.2.1 x.1.2.2.1 x.1.2.2.2.1) a (fun k x => b.getD k 0 == x) (fun i => ((a, b, ((ja a : Nat) : Int), i, ()), ()))
   (.inl ((), ())) (.inr ((false, ()), ())) (by
    intro k hk
    simp only [Vs]
    rw [Aa (show (k : Int) < ((ja a : Nat) : Int) by omega), Ub hk, Ub (show k < b.length by omega), qj, je (show k < b.length by omega)]
    simp only [zz, jb, yg, bne]
    rw [show (a[k] == b[k]) = (b[k] == a[k]) by rw [qx, beq_iff_eq, beq_iff_eq]; exact eq_comm]
    cases b[k] == a[k] <;> rfl) (by
    simp only [Vs]
    rw [Ba (by omega)]; rfl) (by omega)
  have e : (((ja a : Nat) : Int) != ((ja b : Nat) : Int)) = false := by simp [h]
  rw [e]
  simp only [ua]
  unfold Fv
  erw [hl]
  rw [Tat a b h, show (b == a) = (a == b) by rw [qx, beq_iff_eq, beq_iff_eq]; exact eq_comm]
  cases a == b <;> rfl
 ·have e : (((ja a : Nat) : Int) != ((ja b : Nat) : Int)) = true := by simp; omega
  have e2 : (a == b) = false := by rw [beq_eq_false_iff_ne]; intro hh; exact h (by rw [hh])
  rw [e, e2]; rfl
theorem Eav (a b : T Ah) (h1 : ja a.2.1 ≤ Xa) (_ : ja b.2.1 ≤ Xa) : (fun x : T (.p Ah (.p Ah .u)) => Cj x.1 x.2.1) (a, b, ()) = some (PD a b, ()) := by
 show Cj a b = _
 unfold Cj
 rw [KL _ _ h1]
 simp only [jb, PD]
 cases (show Int from a.1) == (show Int from b.1) <;> rfl
theorem Wam (c : T Ze → T Ze → Option Bool) (l : List (T Ze)) (hl : ja l ≤ Xa) : ∀ (ys : List (T Ze)) (k : Nat) (out q : List (T Ze)) (a : T Ze), l.drop k = ys → k ≤ ja l → ja out + ja ys ≤ Xa →
 XQ c a ys = some q → Vw c (((), out, l, ((ja l : Nat) : Int), (k : Int), ()), (a, ())) = some (.inl ((jf out q, ()), ())) := by
 have hlim := Tf
 intro ys
 induction ys with
 | nil =>
  intro k out q a hd hk _ hq
  have := AL hd hk
  subst this
  simp only [XQ, jc] at hq
  subst hq
  have hs : SG c () out l ((ja l : Nat) : Int) ((ja l : Nat) : Int) a = some (.inr (.inl ((out, ()), ()))) := by
   unfold SG
   rw [Ba (by omega)]; rfl
  unfold Vw
  rw [Mf hs]
  simp
 | cons y ys ih =>
  intro k out q a hd hk hlen hq
  obtain ⟨hk', hy, hd'⟩ := Lz hd
  simp only [XQ] at hq
  cases hc : c a y with
  | none => rw [hc] at hq; simp at hq
  | some b =>
   rw [hc] at hq
   simp only [jb] at hq
   cases hq2 : XQ c y ys with
   | none => rw [hq2] at hq; simp at hq
   | some q2 =>
    rw [hq2] at hq
    simp only [jb, jc] at hq
    have hlc : ja (y :: ys) = ja ys + 1 := rfl
    have hs : SG c () out l ((ja l : Nat) : Int) (k : Int) a = some (.inl (((), cond b out (jf out [y]), l, ((ja l : Nat) : Int), ((k + 1 : Nat) : Int), ()), (y, ()))) := by
     unfold SG Jax
     rw [Aa (show (k : Int) < ((ja l : Nat) : Int) by omega), Ub hk', hy]
     simp only [zz, jb, hc]
     rw [Ag (by omega)]
     cases b with
     | true => rfl
     | false =>
      rw [show jx (ja out + ja ([y] : List (Int × ((T .o) × Unit)))) Xa = true from ji (by simp only [jw, qb]; omega)]
      rfl
    unfold Vw
    rw [Mf hs]
    simp only [jb, qm]
    have := ih (k + 1) (cond b out (jf out [y])) q2 y hd' hk' (by cases b with
     | true => simp only [zz]; omega
     | false => simp only [ua, zv, qh, jw, qb]; omega) hq2
    unfold Vw at this
    rw [this, ← hq]
    cases b with
    | true => rfl
    | false => simp
theorem Say (c : T Ze → T Ze → Option Bool) : ∀ (a : T Ze) (l r : List (T Ze)), ja l ≤ Xa → XQ c a l = some r → (fun x : T (.p Ze (.p (.sl Ze) .u)) => Raj c x.1 x.2.1) (a, l, ()) = some (r, ()) := by
 intro a l r hl hq
 show Raj c a l = _
 unfold Raj
 have := Wam c l hl l 0 [] r a rfl (zj _) (by simpa using hl) hq
 erw [this]
 rfl
theorem W6 : ∀ {a b : List Int}, a.Pairwise (· < ·) → b.Pairwise (· < ·) → (∀ x, x ∈ a ↔ x ∈ b) → a = b
 | [], [], _, _, _ => rfl
 | [], y :: b, _, _, h => by have := (h y).2 (by simp); simp at this
 | x :: a, [], _, _, h => by have := (h x).1 (by simp); simp at this
 | x :: a, y :: b, ha, hb, h => by
  rw [List.pairwise_cons] at ha hb
  have hxy : x = y := by
   rcases jp.1 ((h x).1 (by simp)) with h1 | h1
   ·exact h1
   ·rcases jp.1 ((h y).2 (by simp)) with h2 | h2
    ·exact h2.symm
    ·have := hb.1 x h1; have := ha.1 y h2; omega
  subst hxy
  congr 1
  refine W6 ha.2 hb.2 fun z => ⟨fun hz => ?_, fun hz => ?_⟩
  ·rcases jp.1 ((h z).1 (by simp [hz])) with h1 | h1
   ·have := ha.1 z hz; omega
   ·exact h1
  ·rcases jp.1 ((h z).2 (by simp [hz])) with h1 | h1
   ·have := hb.1 z hz; omega
   ·exact h1
def LS (o : List Int) (x : Int) : List Int := cond ((x != 0) && !o.any (fun y => y == x)) (jf o [x]) o
def ddK (k : Nat) (o l : List Int) : List Int := Bd (fun _ o x => LS o x) k o l
theorem Zam : ∀ (l : List Int) (k : Nat) (o : List Int) (y : Int), y ∈ ddK k o l ↔ y ∈ o ∨ (y ∈ l ∧ y ≠ 0)
 | [], _, o, y => by simp [ddK, Bd]
 | x :: l, k, o, y => by
  have := Zam l (k + 1) (LS o x) y
  simp only [ddK, Bd] at this ⊢
  rw [this]
  unfold LS
  by_cases h0 : x = 0
  ·subst h0
   simp only [bne_self_eq_false, qr, ua, jp]
   constructor
   ·rintro (h | ⟨h1, h2⟩)
    ·exact .inl h
    ·exact .inr ⟨.inr h1, h2⟩
   ·rintro (h | ⟨h1 | h1, h2⟩)
    ·exact .inl h
    ·exact absurd h1 h2
    ·exact .inr ⟨h1, h2⟩
  ·by_cases h1 : o.any (fun y => y == x) = true
   ·rw [h1]
    simp only [jg, Bool.and_false, ua, jp]
    have hx : x ∈ o := by
     obtain ⟨z, hz, e⟩ := yf.1 h1
     rw [beq_iff_eq] at e; rw [← e]; exact hz
    constructor
    ·rintro (h | ⟨h1, h2⟩)
     ·exact .inl h
     ·exact .inr ⟨.inr h1, h2⟩
    ·rintro (h | ⟨h1 | h1, h2⟩)
     ·exact .inl h
     ·exact .inl (h1 ▸ hx)
     ·exact .inr ⟨h1, h2⟩
   ·have e : ((x != 0) && !o.any (fun y => y == x)) = true := by
     simp only [qd] at h1
     rw [h1]; simp [h0]
    rw [e]
    simp only [zz, zv, jl, jp, zw, or_false]
    constructor
    ·rintro ((h | h) | ⟨h1, h2⟩)
     ·exact .inl h
     ·exact .inr ⟨.inl h, by rw [h]; exact h0⟩
     ·exact .inr ⟨.inr h1, h2⟩
    ·rintro (h | ⟨h1 | h1, h2⟩)
     ·exact .inl (.inl h)
     ·exact .inl (.inr h1)
     ·exact .inr ⟨h1, h2⟩
theorem U5 : ∀ (l : List Int) (k : Nat) (o : List Int), o.Pairwise (· < ·) → l.Pairwise (· ≤ ·) → (∀ y ∈ o, ∀ x ∈ l, y ≤ x) → (ddK k o l).Pairwise (· < ·)
 | [], _, o, ho, _, _ => by simpa [ddK, Bd] using ho
 | x :: l, k, o, ho, hl, h => by
  rw [List.pairwise_cons] at hl
  have key : (LS o x).Pairwise (· < ·) ∧ ∀ y ∈ LS o x, ∀ z ∈ l, y ≤ z := by
   unfold LS
   cases hc : (x != 0) && !o.any (fun y => y == x) with
   | false => exact ⟨ho, fun y hy z hz => h y hy z (by simp [hz])⟩
   | true =>
    simp only [jd, yx, List.any_eq_false, beq_iff_eq] at hc
    simp only [zz, zv]
    refine ⟨?_, ?_⟩
    ·rw [zx]
     refine ⟨ho, by simp, fun y hy z hz => ?_⟩
     simp only [jp, zw, or_false] at hz
     subst hz
     have h1 := h y hy z (by simp)
     have h2 := hc.2 y hy
     omega
    ·intro y hy z hz
     rcases jl.1 hy with hy | hy
     ·exact h y hy z (by simp [hz])
     ·simp only [jp, zw, or_false] at hy
      subst hy
      exact hl.1 z hz
  have := U5 l (k + 1) (LS o x) key.1 hl.2 key.2
  simpa [ddK, Bd] using this
def Mo (l : List Va) : Nat → List Int
 | 0 => []
 | n + 1 => cond (l.any fun h => h.2.1.2.1 == ((n + 1 : Nat) : Int)) (Mo l n ++ [((n + 1 : Nat) : Int)]) (Mo l n)
theorem HF (l : List Va) : ∀ (n : Nat) (x : Int), x ∈ Mo l n ↔ (1 ≤ x ∧ x ≤ (n : Int)) ∧ ∃ h ∈ l, h.2.1.2.1 = x
 | 0, x => by simp [Mo]; intro h1 h2; omega
 | n + 1, x => by
  simp only [Mo]
  cases hc : (l.any fun h => h.2.1.2.1 == ((n + 1 : Nat) : Int)) with
  | true =>
   simp only [zz, jl, HF l n x, jp, zw, or_false]
   obtain ⟨h, hh, e⟩ := yf.1 hc
   rw [beq_iff_eq] at e
   constructor
   ·rintro (⟨h1, h2⟩ | rfl)
    ·exact ⟨by omega, h2⟩
    ·exact ⟨by omega, h, hh, e⟩
   ·rintro ⟨h1, h2⟩
    by_cases hx : x = ((n + 1 : Nat) : Int)
    ·exact .inr hx
    ·exact .inl ⟨by omega, h2⟩
  | false =>
   simp only [ua, HF l n x]
   rw [List.any_eq_false] at hc
   constructor
   ·rintro ⟨h1, h2⟩; exact ⟨by omega, h2⟩
   ·rintro ⟨h1, h, hh, e⟩
    refine ⟨?_, h, hh, e⟩
    have := hc h hh
    rw [beq_iff_eq] at this
    omega
theorem HJ (l : List Va) : ∀ n, (Mo l n).Pairwise (· < ·)
 | 0 => by simp [Mo]
 | n + 1 => by
  simp only [Mo]
  cases (l.any fun h => h.2.1.2.1 == ((n + 1 : Nat) : Int)) with
  | true =>
   simp only [zz]
   rw [zx]
   refine ⟨HJ l n, by simp, fun y hy z hz => ?_⟩
   simp only [jp, zw, or_false] at hz
   have := (HF l n y).1 hy
   omega
  | false => exact HJ l n
theorem E1 (l : List Va) : ∀ n, (Mo l n).length ≤ n
 | 0 => by simp [Mo]
 | n + 1 => by
  have := E1 l n
  simp only [Mo]
  cases (l.any fun h => h.2.1.2.1 == ((n + 1 : Nat) : Int)) <;> simp <;> omega
def JaM (l : List Va) : Int := Bd (fun _ s (h : Va) => cond (h.2.1.1 == 2 || h.2.1.1 == 8) (Lc .i64 s h.2.1.2.2.1) s) 0 0 l
def Ue (l : List Va) : Ra := (JaM l, Mo l 56, ())
theorem AO {a : Pa} (h : Zc a = true) : 0 ≤ a.2.1 ∧ a.2.1 ≤ 56 := by
 rw [Qb] at h
 unfold Xb at h
 omega
theorem K4 (l : List Int) (x : Int) (hn : l.length ≤ Xa) : XH l x = some (l.any (fun y => y == x), ()) := by
 have hlim := Tf
 have hl := Re (step := fun y => Ny y.1.1 y.1.2.1 y.1.2.2.1 y.1.2.2.2.1) l (fun _ y => !(y == x)) (fun i => ((x, l, ((ja l : Nat) : Int), i, ()), ()))
  (.inl ((), ())) (.inr ((true, ()), ())) (by
   intro k hk
   simp only [Ny]
   rw [Aa (show (k : Int) < ((ja l : Nat) : Int) by omega), Ub hk]
   simp only [zz, jb]
   cases l[k] == x <;> rfl) (by
   simp only [Ny]
   rw [Ba (by omega)]; rfl) (by omega)
 unfold XH Uz
 erw [hl]
 have : ∀ (l : List Int) (k : Nat), Cd (fun _ y => !(y == x)) k l = !l.any (fun y => y == x) := by
  intro l
  induction l with
  | nil => intro k; rfl
  | cons y l ih => intro k; simp only [Cd, List.any_cons, ih, Bool.not_or]
 rw [this]
 cases l.any (fun y => y == x) <;> rfl
theorem YM (l : List Va) (hn : l.length ≤ Ga) (hx : ∀ h ∈ l, 0 ≤ h.2.1.2.1 ∧ h.2.1.2.1 ≤ 56) : Pt (l.map fun h => h.2.1.2.1) = some (Mo l 56, ()) := by
 have h20 : Ga = 1048576 := rfl
 have hlim := Tf
 generalize hcs : (l.map fun h => h.2.1.2.1) = cs
 have hcl : cs.length = l.length := by rw [← hcs]; simp
 unfold Pt
 rw [FE _ (by omega)]
 simp only [jb, sort_Ints, srt]
 rw [show jx (ja cs) Xa = true from ji (by omega)]
 simp only [zz, jb]
 generalize hss : (List.mergeSort cs fun x y => decide (x ≤ y)) = ss
 have hsl : ss.length = cs.length := by rw [← hss]; exact List.length_mergeSort _
 have hsm : ∀ x, x ∈ ss ↔ x ∈ cs := fun x => by rw [← hss]; exact List.mem_mergeSort
 have hsp : ss.Pairwise (· ≤ ·) := by
  rw [← hss]
  have := List.pairwise_mergeSort (le := fun x y : Int => decide (x ≤ y)) (by intro a b c; simp; omega) (by intro a b; simp; omega) cs
  exact this.imp (by intro a b h; simpa using h)
 have hl := (Kg (step := fun x => Cv x.1.1 x.1.2.1 x.1.2.2.1 x.1.2.2.2.1) ss (fun _ o x => LS o x) (fun o i => ((o, ss, ((ja ss : Nat) : Int), i, ()), ())) (fun o => .inl ((o, ()), ())) (fun k o => o.length ≤ k) (by
  intro k hk o ho
  have hd : (LS o ss[k]).length ≤ k + 1 := by
   unfold LS
   cases (ss[k] != 0) && !o.any (fun y => y == ss[k]) <;> simp <;> omega
  refine ⟨?_, hd⟩
  simp only [Cv]
  rw [Aa (show (k : Int) < ((ja ss : Nat) : Int) by omega), show Ci (ja ss) (k : Int) = true by rw [Mm]; exact Aa hk, jn, je hk]
  simp only [zz, jb]
  rw [K4 _ _ (by omega), show jx (ja o + ja ([ss[k]] : List Int)) Xa = true from ji (by simp only [jw, qb]; omega)]
  simp only [jb, LS]
  cases ss[k] != 0 <;> cases o.any (fun y => y == ss[k]) <;> rfl)
  (by
   intro o _
   simp only [Cv]
   rw [Ba (by omega)]; rfl) (by omega) [] (jo _)).1
 unfold Lx
 erw [hl]
 simp only [jb, qm]
 congr 2
 refine W6 (U5 ss 0 [] (by simp) hsp (by simp)) (HJ l 56) fun x => ?_
 rw [show Bd (fun _ o x => LS o x) 0 [] ss = ddK 0 [] ss from rfl, Zam, HF, hsm, ← hcs]
 simp only [zw, false_or, qv]
 constructor
 ·rintro ⟨⟨h, hh, rfl⟩, h0⟩
  have := hx h hh
  exact ⟨by omega, h, hh, rfl⟩
 ·rintro ⟨h1, h, hh, rfl⟩
  exact ⟨⟨h, hh, rfl⟩, by omega⟩
theorem Av (l : List Va) (hn : l.length ≤ Ga) (hv : Dg l = true) : Ae l = some (Ue l, ()) := by
 have h20 : Ga = 1048576 := rfl
 have hlim := Tf
 have hh := Iu hv
 have hl := (Kg (step := fun x => Qs x.1.1 x.1.2.1 x.1.2.2.1 x.1.2.2.2.1 x.1.2.2.2.2.1 x.1.2.2.2.2.2.1 x.2.1 x.2.2.1) l
  (fun _ (s : Int × List Int) (h : Va) => (cond (h.2.1.1 == 2 || h.2.1.1 == 8) (Lc .i64 s.1 h.2.1.2.2.1) s.1, jf s.2 [h.2.1.2.1])) (fun s i => (((), (), s.2, l, ((ja l : Nat) : Int), i, ()), (((0 : Int), ([] : List Int), ()), (s.1, ([] : List Int), ()), ())))
  (fun s => .inl (((), (), s.2, ()), (((0 : Int), ([] : List Int), ()), (s.1, ([] : List Int), ()), ()))) (fun k s => s.2.length = k) (by
   intro k hk s hs
   refine ⟨?_, by simp [hs]⟩
   simp only [Qs]
   rw [Aa (show (k : Int) < ((ja l : Nat) : Int) by omega), Ub hk]
   simp only [zz, jb]
   rw [show jx (ja s.2 + ja ([l[k].2.1.2.1] : List Int)) Xa = true from ji (by simp only [jw, qb]; omega)]
   cases l[k].2.1.1 == 2 <;> cases l[k].2.1.1 == 8 <;> rfl)
  (by
   intro s _
   simp only [Qs]
   rw [Ba (by omega)]; rfl) (by omega) (0, []) rfl).1
 have key : ∀ (l : List Va) (k : Nat) (s : Int × List Int), Bd (fun _ (s : Int × List Int) (h : Va) => (cond (h.2.1.1 == 2 || h.2.1.1 == 8) (Lc .i64 s.1 h.2.1.2.2.1) s.1, jf s.2 [h.2.1.2.1])) k s l =
  (Bd (fun _ s (h : Va) => cond (h.2.1.1 == 2 || h.2.1.1 == 8) (Lc .i64 s h.2.1.2.2.1) s) k s.1 l, s.2 ++ l.map fun h => h.2.1.2.1) := by
  intro l
  induction l with
  | nil => intro k s; simp [Bd]
  | cons x l ih => intro k s; simp only [Bd]; rw [ih]; simp
 unfold Ae Zu
 rw [FB _ hn, hv]
 simp only [jb, jg, ua]
 erw [hl]
 rw [key]
 simp only [jb, qm, List.nil_append]
 rw [YM l hn (fun h hm => AO (hh h hm).act)]
 rfl
def HK (c : Int) : Bool := decide (1 ≤ c ∧ c ≤ 36) || ((c == 39) || (c == 42))
theorem BU (c : Int) : Cy c = some (HK c, ()) := by
 unfold Cy HK
 by_cases h1 : c ≥ 1
 ·by_cases h2 : c ≤ 36
  ·rw [Aa h1, Aa h2, Aa (show 1 ≤ c ∧ c ≤ 36 by omega)]; rfl
  ·rw [Aa h1, Ba h2, Ba (show ¬ (1 ≤ c ∧ c ≤ 36) by omega)]
   cases c == 39 <;> rfl
 ·rw [Ba h1, Ba (show ¬ (1 ≤ c ∧ c ≤ 36) by omega)]
  cases c == 39 <;> rfl
def YL (f o : Int) (c : Bool) (a : Pa) : Int × Int × Bool × Pa :=
 cond (a.1 == 2) (cond (a.2.1 == 0) (f, o, c, a) (f, 0, c && HK a.2.1, a.1, a.2.1, cond ((c && HK a.2.1) && (decide (a.2.1 ≤ 26) && (Pc .i64 (Lc .i64 a.2.2.1 o) 2 == 0))) 2 (Lc .i64 a.2.2.1 o), a.2.2.2))
  (cond (a.1 == 4) (Yb .i64 f (Ma .i64 1 a.2.2.2.1), o, c, a) (cond (a.1 == 5) (Pc .i64 (Ma .i64 1 a.2.2.2.1) 1, o, c, a)
   (cond (a.1 == 8) (f, cond (Ya .i64 o a.2.2.1 == a.2.2.1) (Pc .i64 o a.2.2.1) (Lc .i64 o a.2.2.1), c, a) (cond (a.1 == 10) (f, o, !c, a) (f, o, c, a)))))
theorem OQ {a : Pa} (h : Zc a = true) : 0 ≤ a.2.2.2.1 := by
 rw [Qb] at h
 unfold Xb at h
 omega
theorem HP (m : Db) (M : List (List Cc)) (f o : Int) (h : List Va) (c : Bool) (a : Pa) (ha : Zc a = true) :
 Lr (m, M, f, h, o, c, ()) a = some ((m, M, (YL f o c a).1, h, (YL f o c a).2.1, (YL f o c a).2.2.1, ()), (YL f o c a).2.2.2, ()) := by
 have hn := OQ ha
 unfold Lr YL
 rw [Aa hn]
 cases a.1 == 2 with
 | true =>
  cases a.2.1 == 0 with
  | true => rfl
  | false =>
   simp only [zz, ua, BU, jb]
   cases c with
   | false => rfl
   | true =>
    cases HK a.2.1 with
    | false => rfl
    | true => cases decide (a.2.1 ≤ 26) <;> cases Pc .i64 (Lc .i64 a.2.2.1 o) 2 == 0 <;> rfl
 | false =>
  cases a.1 == 4 with
  | true => rfl
  | false =>
   cases a.1 == 5 with
   | true => rfl
   | false =>
    cases a.1 == 8 with
    | true => cases Ya .i64 o a.2.2.1 == a.2.2.1 <;> rfl
    | false => cases a.1 == 10 <;> rfl
theorem Caz : ∀ f : Fin 16, ∀ n : Fin 4, ∀ l : Fin 5, 1 ≤ n.val → n.val < l.val → f.val < 2 ^ l.val → f.val % 2 = 0 →
 0 ≤ Yb .i64 (f.val : Int) (Ma .i64 1 (n.val : Int)) ∧ Yb .i64 (f.val : Int) (Ma .i64 1 (n.val : Int)) < ((2 ^ l.val : Nat) : Int) ∧ (Yb .i64 (f.val : Int) (Ma .i64 1 (n.val : Int))).tmod 2 = 0 := by decide +kernel
theorem GaC : ∀ n : Fin 4, ∀ l : Fin 5, n.val < l.val →
 0 ≤ Pc .i64 (Ma .i64 1 (n.val : Int)) 1 ∧ Pc .i64 (Ma .i64 1 (n.val : Int)) 1 < ((2 ^ l.val : Nat) : Int) ∧ (Pc .i64 (Ma .i64 1 (n.val : Int)) 1).tmod 2 = 0 := by decide +kernel
theorem Oag : ∀ o m : Fin 16, (0 ≤ Pc .i64 (o.val : Int) (m.val : Int) ∧ Pc .i64 (o.val : Int) (m.val : Int) ≤ 15) ∧ (0 ≤ Lc .i64 (o.val : Int) (m.val : Int) ∧ Lc .i64 (o.val : Int) (m.val : Int) ≤ 15) := by decide +kernel
structure Q3 (nl : Nat) (f o : Int) : Prop where
 f0 : 0 ≤ f
 f1 : f < ((2 ^ nl : Nat) : Int)
 f2 : f.tmod 2 = 0
 o0 : 0 ≤ o
 o1 : o ≤ 15
structure RX (nl : Nat) (a : Pa) : Prop where
 act : Zc a = true
 n1 : a.1 ≠ 1
 n6 : a.1 ≠ 6
 n7 : a.1 ≠ 7
 n : a.1 ≠ 9 → a.2.2.2.1 < (nl : Int)
theorem RaH {a b : Int} (ha : 0 ≤ a ∧ a ≤ 15) (hb : 0 ≤ b ∧ b ≤ 15) : 0 ≤ Lc .i64 a b ∧ Lc .i64 a b ≤ 15 := by
 obtain ⟨n, rfl⟩ := jv ha.1
 obtain ⟨m, rfl⟩ := jv hb.1
 exact (Oag ⟨n, by omega⟩ ⟨m, by omega⟩).2
theorem BaF {a b : Int} (ha : 0 ≤ a ∧ a ≤ 15) (hb : 0 ≤ b ∧ b ≤ 15) : 0 ≤ Pc .i64 a b ∧ Pc .i64 a b ≤ 15 := by
 obtain ⟨n, rfl⟩ := jv ha.1
 obtain ⟨m, rfl⟩ := jv hb.1
 exact (Oag ⟨n, by omega⟩ ⟨m, by omega⟩).1
theorem XaH {nl : Nat} (h : nl ≤ 4) : 2 ^ nl ≤ 16 := qo (n := 2) (by omega) h
theorem BaI {nl : Nat} (hnl : nl ≤ 4) {f o : Int} {c : Bool} {a : Pa} (hs : Q3 nl f o) (ha : RX nl a) :
 Q3 nl (YL f o c a).1 (YL f o c a).2.1 ∧ RX nl (YL f o c a).2.2.2 := by
 have hP := ha.act
 rw [Qb] at hP
 unfold Xb at hP
 have h16 := XaH hnl
 obtain ⟨k, code, mods, n, u⟩ := a
 have hn1 := ha.n1; have hn6 := ha.n6; have hn7 := ha.n7; have hnn := ha.n
 simp only at hP hn1 hn6 hn7 hnn
 have hf1 := hs.f1
 unfold YL
 simp only
 by_cases h2 : k = 2
 ·subst h2
  by_cases h0 : code = 0
  ·subst h0; exact ⟨hs, ha⟩
  ·rw [show ((2 : Int) == 2) = true from rfl, show (code == 0) = false by simp [h0]]
   simp only [zz, ua]
   refine ⟨⟨hs.f0, hs.f1, hs.f2, by decide, by decide⟩, ?_⟩
   have hm := RaH (a := mods) (b := o) (by omega) ⟨hs.o0, hs.o1⟩
   refine ⟨?_, hn1, hn6, hn7, hnn⟩
   have hn0 : n = 0 := by omega
   have hcd : 1 ≤ code ∧ code ≤ 56 := by omega
   rw [Qb]
   cases ((c && HK code) && (decide (code ≤ 26) && (Pc .i64 (Lc .i64 mods o) 2 == 0))) with
   | true => exact .inr (.inl ⟨rfl, hn0, .inr hcd, .inr ⟨by show (1 : Int) ≤ 2; decide, by show (2 : Int) ≤ 15; decide⟩, .inl (by show code ≠ 0; omega)⟩)
   | false =>
    refine .inr (.inl ⟨rfl, hn0, .inr hcd, ?_, .inl (by show code ≠ 0; omega)⟩)
    show Lc .i64 mods o = 0 ∨ 1 ≤ Lc .i64 mods o ∧ Lc .i64 mods o ≤ 15
    omega
 ·rw [show (k == 2) = false by simp [h2]]
  simp only [ua]
  by_cases h4 : k = 4
  ·subst h4
   have hr : 1 ≤ n ∧ n ≤ 3 := by omega
   have hlt := hnn (by omega)
   obtain ⟨fn, hfn⟩ := jv hs.f0
   obtain ⟨nn, hnn'⟩ := jv (show 0 ≤ n by omega)
   have hf2 := hs.f2
   rw [hfn] at hf1 hf2
   have hfl : fn < 2 ^ nl := Int.ofNat_lt.1 hf1
   have := Caz ⟨fn, by omega⟩ ⟨nn, by omega⟩ ⟨nl, by omega⟩ (by show 1 ≤ nn; omega) (by show nn < nl; omega) hfl (by
    rw [Int.tmod_eq_emod_of_nonneg (by omega)] at hf2; show fn % 2 = 0; omega)
   simp only [show ((4 : Int) == 4) = true from rfl, zz]
   rw [hfn, hnn']
   exact ⟨⟨this.1, this.2.1, this.2.2, hs.o0, hs.o1⟩, by rw [← hnn']; exact ha⟩
  ·rw [show (k == 4) = false by simp [h4]]
   simp only [ua]
   by_cases h5 : k = 5
   ·subst h5
    have hr : 0 ≤ n ∧ n ≤ 3 := by omega
    have hlt := hnn (by omega)
    obtain ⟨nn, hnn'⟩ := jv (show 0 ≤ n by omega)
    have := GaC ⟨nn, by omega⟩ ⟨nl, by omega⟩ (by show nn < nl; omega)
    simp only [show ((5 : Int) == 5) = true from rfl, zz]
    rw [hnn']
    exact ⟨⟨this.1, this.2.1, this.2.2, hs.o0, hs.o1⟩, by rw [← hnn']; exact ha⟩
   ·rw [show (k == 5) = false by simp [h5]]
    simp only [ua]
    by_cases h8 : k = 8
    ·subst h8
     have hm : 0 ≤ mods ∧ mods ≤ 15 := by omega
     simp only [show ((8 : Int) == 8) = true from rfl, zz]
     cases Ya .i64 o mods == mods with
     | true => have := BaF ⟨hs.o0, hs.o1⟩ hm; exact ⟨⟨hs.f0, hs.f1, hs.f2, this.1, this.2⟩, ha⟩
     | false => have := RaH ⟨hs.o0, hs.o1⟩ hm; exact ⟨⟨hs.f0, hs.f1, hs.f2, this.1, this.2⟩, ha⟩
    ·rw [show (k == 8) = false by simp [h8]]
     simp only [ua]
     cases k == 10 <;> exact ⟨hs, ha⟩
theorem Nap {m : Db} (hm : MK m) (on : Int) {k : Nat} (hk : (k : Int) < m.1) : Og m.2.1.length (Vj m on k) (Pl m.2.1 (Vj m on k) k) = true ∧ (Pl m.2.1 (Vj m on k) k).1 ≠ 1 := by
 have hl := IU hm on k
 have hrow := hm.row _ hl
 have hk' : k < m.2.1[Vj m on k].length := by omega
 have hact := hm.act _ hl k hk'
 rw [UX hl hk']
 refine ⟨hact, ?_⟩
 have key : ∀ n, Dj m.2.1 on k n = 0 ∨ (Pl m.2.1 (Dj m.2.1 on k n) k).1 ≠ 1 := by
  intro n
  induction n with
  | zero => exact .inl rfl
  | succ n ih =>
   simp only [Dj]
   cases hc : ((Wd on ((n + 1 : Nat) : Int) == 1) && ((Pl m.2.1 (n + 1) k).1 != 1)) with
   | true =>
    simp only [jd, bne_iff_ne] at hc
    exact .inr hc.2
   | false => exact ih
 rcases key (m.2.1.length - 1) with h0 | h1
 ·have h0' : Vj m on k = 0 := h0
  intro h1
  simp only [Og, jd, yx, Bool.and_eq_false_iff, beq_eq_false_iff_ne] at hact
  rcases hact.1.2 with h2 | h2
  ·exact h2 (by rw [h0']; rfl)
  ·exact h2 h1
 ·have e : Pl m.2.1 (Dj m.2.1 on k (m.2.1.length - 1)) k = m.2.1[Vj m on k][k] := UX hl hk'
  rw [e] at h1
  exact h1
theorem EaC {nl i : Nat} {a : Pa} (h : Og nl i a = true) (h1 : a.1 ≠ 1) : RX nl (XP a) := by
 have ha := QU h
 have hP := ha
 rw [Qb] at hP
 unfold Xb at hP
 unfold XP Jg
 rw [ha]
 by_cases h67 : a.1 = 6 ∨ a.1 = 7
 ·have e : (true && ((a.1 == 6) || (a.1 == 7))) = true := by rcases h67 with h | h <;> rw [h] <;> rfl
  rw [e]
  simp only [zz]
  refine ⟨?_, by show (2 : Int) ≠ 1; decide, by show (2 : Int) ≠ 6; decide, by show (2 : Int) ≠ 7; decide, fun _ => ?_⟩
  ·rw [Qb]
   exact .inr (.inl ⟨rfl, rfl, .inr (by show 1 ≤ a.2.1 ∧ a.2.1 ≤ 56; omega), .inl rfl, .inl (by show a.2.1 ≠ 0; omega)⟩)
  ·show (0 : Int) < (nl : Int)
   have := IW h (by omega)
   omega
 ·have e : (true && ((a.1 == 6) || (a.1 == 7))) = false := by
   rw [jk, zb, beq_eq_false_iff_ne, beq_eq_false_iff_ne]; omega
  rw [e]
  exact ⟨ha, h1, fun h => h67 (.inl h), fun h => h67 (.inr h), fun hk => IW h hk⟩
def Gaa (m : Db) (f o : Int) (c : Bool) (h : List Va) : Jb := (m, [], f, h, o, c, ())
theorem Xaj {m : Db} (hv : Ce m = true) {f o : Int} (hs : Q3 m.2.1.length f o) (c : Bool) {h : List Va} (hh : Dg h = true) (hi : ∀ x ∈ h, Gl m.1 m.2.1.length x = true) : Tj (Gaa m f o c h) = true := by
 have hk := Uj hv
 have e1 : Cd (fun _ x => Gl m.1 m.2.1.length x) 0 h = true := Pk.2 fun j hj => hi _ (qt hj)
 show (Ce m && (decide (([] : List (List Cc)).length ≤ 4) && (Dg h && (true && (Cd (fun _ x => Gl m.1 m.2.1.length x) 0 h &&
  (decide (0 ≤ f ∧ f < ((2 ^ m.2.1.length : Nat) : Int)) && ((yn f 2 == 0) && decide (0 ≤ o ∧ o ≤ 15)))))))) = true
 rw [hv, hh, e1, Aa (⟨hs.f0, hs.f1⟩ : 0 ≤ f ∧ f < ((2 ^ m.2.1.length : Nat) : Int)), Aa (⟨hs.o0, hs.o1⟩ : 0 ≤ o ∧ o ≤ 15), hs.f2]
 rfl
theorem Zay (m : Db) (f o : Int) (c : Bool) (h : List Va) : Jc Xc (Gaa m f o c h) = Jc Oc m + h.length := by
 rw [Cn, Qm]
 have : Jc (.sl (.sl Ad)) (Gaa m f o c h).2.1 = 0 := rfl
 rw [this, js]; rfl
theorem OaF {nl : Nat} (h4 : nl ≤ 4) {f o : Int} (hs : Q3 nl f o) : 0 ≤ f ∧ f ≤ 15 := by
 have := XaH h4
 have h1 := hs.f1
 have h0 := hs.f0
 omega
theorem G4 (e : Jb) (k : Int) (hn : e.2.2.2.1.length ≤ Ga) : UH e k = some (Ed (fun h => h.1 == k) 0 e.2.2.2.1, ()) := by
 have h20 : Ga = 1048576 := rfl
 have hl := ZH (step := fun x => Zx x.1.1 x.1.2.1 x.1.2.2.1 x.1.2.2.2.1) e.2.2.2.1 (fun h => h.1 == k) (fun i => ((k, e.2.2.2.1, ((ja e.2.2.2.1 : Nat) : Int), i, ()), ())) (.inl ((), ())) (fun i => .inr ((i, ()), ()))
  (by
   intro j hj
   simp only [Zx]
   rw [Aa (show (j : Int) < ((ja e.2.2.2.1 : Nat) : Int) by omega), Ub hj]
   simp only [zz, jb]
   cases e.2.2.2.1[j].1 == k <;> rfl) (by
   simp only [Zx]
   rw [Ba (by omega)]; rfl) (by omega)
 unfold UH Pz
 erw [hl]
 simp only [jb]
 by_cases hc : Ed (fun h : Va => h.1 == k) 0 e.2.2.2.1 = -1
 ·rw [if_pos hc, hc]; rfl
 ·rw [if_neg hc]; rfl
theorem WM (a : Ra) (l : List Ra) (hn : l.length ≤ Ga) (ha : a.2.1.length ≤ Ga) (hx : ∀ x ∈ l, x.2.1.length ≤ Ga) : Hf a l = some (AE PD a l, ()) := by
 have h20 : Ga = 1048576 := rfl
 have hlim := Tf
 unfold Hf Qaj
 have e : (jx (ja l) Xa && (ZL a && l.all ZL)) = true := by
  rw [jd, jd, zg]
  refine ⟨ji (by omega), ji (by show ja a.2.1 ≤ _; omega), fun x hm => ji ?_⟩
  have := hx x hm
  show ja x.2.1 ≤ _
  omega
 rw [e]; rfl
theorem BY : ∀ (l : List Ra) (a : Ra), (AE PD a l).length ≤ l.length
 | [], _ => by simp [AE]
 | x :: l, a => by
  have := BY l x
  simp only [AE]
  cases PD a x <;> simp <;> omega
theorem DK (l : List Va) : (Ue l).2.1.length ≤ 56 := E1 l 56
theorem WQ : ∀ (l : List Ra) (a x : Ra), x ∈ AE PD a l → x ∈ l
 | [], _, x, h => by simp [AE] at h
 | y :: l, a, x, h => by
  simp only [AE] at h
  cases hs : PD a y with
  | true => rw [hs] at h; exact jr _ (WQ l y x h)
  | false =>
   rw [hs] at h
   rcases jp.1 h with h | h
   ·exact h ▸ List.mem_cons_self ..
   ·exact jr _ (WQ l y x h)
noncomputable def MaU (m : Db) (f : Int) (k : Nat) : Pa := XP (Pl m.2.1 (Vj m (Lc .i64 1 f) k) k)
noncomputable def stK (m : Db) (f o : Int) (c : Bool) (k : Nat) : Int × Int × Bool × Pa := YL f o c (MaU m f k)
noncomputable def hK (m : Db) (f o : Int) (c : Bool) (k : Nat) : List Va := [((k : Int), (stK m f o c k).2.2.2, ())]
structure Iax (m : Db) : Prop where
 v : Ce m = true
 z : Jc Oc m ≤ Ga - 10
theorem z20 {m : Db} (hM : Iax m) (f o : Int) (c : Bool) (h : List Va) (hh : h.length ≤ 1) : Jc Xc (Gaa m f o c h) ≤ Ga := by
 have h20 : Ga = 1048576 := rfl
 have := hM.z
 rw [Zay]; omega
theorem JW (l : List Va) : (Ue l).2.1.length ≤ Ga := by
 have h20 : Ga = 1048576 := rfl
 have := DK l
 omega
theorem GaM : Dg [] = true := rfl
theorem Rap {m : Db} (hv : Ce m = true) : Iax m := by
 have hm := Uj hv
 refine ⟨hv, ?_⟩
 have h20 : Ga = 1048576 := rfl
 have h1 : Jc Oc m = 0 + (Jc (.sl (.sl Mc)) m.2.1 + 0) := rfl
 have h2 : Jc (.sl (.sl Mc)) m.2.1 ≤ (32 + 1) * ja m.2.1 := NW (e := .sl Mc) (c := 32) fun x hx => by
  obtain ⟨i, hi, rfl⟩ := qu hx
  rw [J3]
  have := hm.row i hi
  have := hm.k2
  omega
 have := hm.l2
 omega
theorem JX {n i : Nat} {a : Pa} (h : LK (n : Int) a) : Og n i a = true := by
 obtain ⟨h1, h2, h3⟩ := h
 unfold Og
 rw [h1]
 have e1 : (a.1 == 1) = false := by simp; exact h2
 rw [e1]
 rcases h3 with h | h
 ·simp [h]
 ·simp; exact .inr h
theorem Vak {n i : Nat} (hi : 0 < i) (hn : 1 ≤ n) : Og n i ((1 : Int), (0 : Int), (0 : Int), (0 : Int), ()) = true := by
 unfold Og
 have : Zc ((1 : Int), (0 : Int), (0 : Int), (0 : Int), ()) = true := (Qb _).2 (by simp [Xb])
 rw [this]
 have hi' : ((i : Int) == 0) = false := by simp; omega
 rw [hi']
 simp; omega
theorem N5 {α : Type} {p : Nat → α → Bool} {xs : List α} {x : α} (h : Cd p 0 xs = true) (hx : p xs.length x = true) : Cd p 0 (xs ++ [x]) = true := by
 rw [Pk] at h ⊢
 intro j hj
 rw [qh, List.length_singleton] at hj
 rw [List.getElem_append]
 split
 ·rename_i h1; exact h j h1
 ·have : j = xs.length := by omega
  subst this
  simpa using hx
theorem Xat {c : Ab} (hc : Di c) {keys n i : Nat} (hk : keys ≤ 32) (hn : 1 ≤ n) (hn4 : n ≤ 4) (b4 b6 : Db) :
 ∃ (c' : Ab) (row : List Pa), UA (((), (keys : Int), (), (n : Int), (), (i : Int), ([] : List Pa), (0 : Int), ()), (c, b4, b6, ())) = some (.inl (((), (keys : Int), (), (n : Int), (), (i : Int), row, ()), (c', b4, b6, ()))) ∧
  Di c' ∧ row.length = keys ∧ Cd (fun _ a => Og n i a) 0 row = true := by
 have hlim : Xa = 1073741824 := rfl
 have := CA (s := fun x : ((Unit × (Int × (Unit × (Int × (Unit × (Int × ((List Pa) × (Int × Unit)))))))) × (Ab × (Db × (Db × Unit)))) => DG x.1.1 x.1.2.1 x.1.2.2.1 x.1.2.2.2.1 x.1.2.2.2.2.1 x.1.2.2.2.2.2.1 x.1.2.2.2.2.2.2.1 x.1.2.2.2.2.2.2.2.1 x.2.1 x.2.2.1 x.2.2.2.1)
  (fun m x => ∃ (c' : Ab) (row : List Pa) (k : Nat), x = (((), (keys : Int), (), (n : Int), (), (i : Int), row, (k : Int), ()), (c', b4, b6, ())) ∧ m + k = keys ∧ row.length = k ∧ Di c' ∧ Cd (fun _ a => Og n i a) 0 row = true)
  (fun r => ∃ (c' : Ab) (row : List Pa), r = .inl (((), (keys : Int), (), (n : Int), (), (i : Int), row, ()), (c', b4, b6, ())) ∧ Di c' ∧ row.length = keys ∧ Cd (fun _ a => Og n i a) 0 row = true) (by
  rintro m x ⟨c', row, k, rfl, hm, hl, hc', hr⟩
  simp only [DG]
  by_cases h1 : (k : Int) < (keys : Int)
  ·rw [Aa h1]
   obtain ⟨c1, a, e1, hc1, ha⟩ := Xan hc' (n : Int) (by omega) (by omega)
   rw [e1]
   simp only [zz, jb]
   have room : ∀ z : Pa, jx (ja row + ja [z]) Xa = true := fun z => ji (by simp; omega)
   rw [Ag (by omega)]
   have Sg : ∀ (z : Pa) (c2 : Ab), Og n i z = true → Di c2 → ∃ c' row' k', (((), (keys : Int), (), (n : Int), (), (i : Int), jf row [z], ((k + 1 : Nat) : Int), ()), (c2, b4, b6, ())) = (((), (keys : Int), (), (n : Int), (), (i : Int), row', ((k' : Nat) : Int), ()), (c', b4, b6, ())) ∧ (m - 1) + k' = keys ∧ ja row' = k' ∧ Di c' ∧ Cd (fun _ a => Og n i a) 0 row' = true :=
    fun z c2 hz h2 => ⟨c2, _, k + 1, rfl, by omega, by simp [hl], h2, N5 hr hz⟩
   by_cases h2 : (i : Int) > 0
   ·rw [Aa h2]
    obtain ⟨c2, b, e2, hc2⟩ := MB hc1 3 (by omega)
    rw [e2]
    simp only [zz, jb, room]
    cases b with
    | true => exact .inr ⟨_, m - 1, by omega, rfl, Sg _ _ (Vak (by omega) hn) hc2⟩
    | false => exact .inr ⟨_, m - 1, by omega, rfl, Sg _ _ (JX ha) hc2⟩
   ·rw [Ba h2]
    simp only [zz, ua, room]
    exact .inr ⟨_, m - 1, by omega, rfl, Sg _ _ (JX ha) hc1⟩
  ·rw [Ba h1]; exact .inl ⟨_, rfl, c', row, rfl, hc', by omega, hr⟩) keys (((), (keys : Int), (), (n : Int), (), (i : Int), ([] : List Pa), ((0 : Nat) : Int), ()), (c, b4, b6, ())) ⟨c, [], 0, rfl, rfl, rfl, hc, rfl⟩
 obtain ⟨r, e, c', row, rfl, h⟩ := this
 exact ⟨c', row, e, h⟩
theorem Yan {c : Ab} (hc : Di c) {keys : Nat} (hk1 : 1 ≤ keys) (hk : keys ≤ 32) : ∃ (c' : Ab) (m : Db), HI c (keys : Int) = some (c', (m, ())) ∧ Di c' ∧ Ce m = true ∧ m.1 = (keys : Int) := by
 have hlim : Xa = 1073741824 := rfl
 obtain ⟨c1, x1, e1, hc1, b1⟩ := Fh hc 4 (by omega)
 obtain ⟨n0, rfl⟩ := jv b1.1
 obtain ⟨n, hn⟩ : ∃ n : Nat, n = n0 + 1 := ⟨_, rfl⟩
 have hw : j9 .i64 ((1 : Int) + (n0 : Int)) = (n : Int) := by rw [Qc (by omega) (by omega)]; omega
 unfold HI
 rw [e1]
 simp only [jb, hw]
 have := CA (s := fun x : ((Unit × (Int × (Unit × (Int × (Unit × (Int × Unit)))))) × (Ab × (Db × (Db × Unit)))) => CG x.1.1 x.1.2.1 x.1.2.2.1 x.1.2.2.2.1 x.1.2.2.2.2.1 x.1.2.2.2.2.2.1 x.2.1 x.2.2.1 x.2.2.2.1)
  (fun m x => ∃ (c' : Ab) (L : List (List Pa)) (k : Nat), x = (((), (keys : Int), (), (n : Int), (), (k : Int), ()), (c', ((0 : Int), ([] : List (List Pa)), ()), ((keys : Int), L, ()), ())) ∧ m + k = n ∧ L.length = k ∧ Di c' ∧ Cd (fun i l => Ih (keys : Int) n i l) 0 L = true)
  (fun r => ∃ (c' : Ab) (L : List (List Pa)), r = .inl (((), (), (), ()), (c', ((0 : Int), ([] : List (List Pa)), ()), ((keys : Int), L, ()), ())) ∧ Di c' ∧ L.length = n ∧ Cd (fun i l => Ih (keys : Int) n i l) 0 L = true) (by
  rintro m x ⟨c', L, k, rfl, hm, hl, hc', hr⟩
  simp only [CG]
  by_cases h1 : (k : Int) < (n : Int)
  ·rw [Aa h1]
   obtain ⟨c2, row, e2, hc2, hrow, hall⟩ := Xat hc' (i := k) hk (show 1 ≤ n by omega) (show n ≤ 4 by omega) ((0 : Int), ([] : List (List Pa)), ()) ((keys : Int), L, ())
   erw [e2]
   simp only [zz, jb, qm]
   rw [show jx (ja L + ja [row]) Xa = true from ji (by simp; omega), Ag (by omega)]
   refine .inr ⟨_, m - 1, by omega, rfl, c2, _, k + 1, rfl, by omega, by simp [hl], hc2, ?_⟩
   refine N5 hr ?_
   unfold Ih
   rw [hl, hall, hrow]
   simp
  ·rw [Ba h1]; exact .inl ⟨_, rfl, c', L, rfl, hc', by omega, hr⟩) n (((), (keys : Int), (), (n : Int), (), ((0 : Nat) : Int), ()), (c1, ((0 : Int), ([] : List (List Pa)), ()), ((keys : Int), ([] : List (List Pa)), ()), ())) ⟨c1, [], 0, rfl, rfl, rfl, hc1, rfl⟩
 obtain ⟨r, e, c', L, rfl, hc', hL, hall⟩ := this
 unfold TA
 erw [e]
 refine ⟨c', ((keys : Int), L, ()), rfl, hc', ?_, rfl⟩
 unfold Ce
 simp only [jd, decide_eq_true_eq]
 refine ⟨⟨by omega, by omega⟩, ?_⟩
 show Cd (fun i l => Ih (keys : Int) L.length i l) 0 L = true
 rw [hL]; exact hall
theorem I9 {α : Type} {p : Nat → α → Bool} {xs : List α} {i : Nat} {x : α} (h : Cd p 0 xs = true) (hx : p i x = true) : Cd p 0 (qa xs i x) = true := by
 rw [Pk] at h ⊢
 intro j hj
 rw [List.length_set] at hj
 rw [List.getElem_set]
 split
 ·rename_i e; subst e; simpa using hx
 ·exact h j hj
theorem Iad {keys : Int} {n i : Nat} {l : List Pa} {k : Nat} {a : Pa} (h : Ih keys n i l = true) (ha : Og n i a = true) : Ih keys n i (qa l k a) = true := by
 unfold Ih at h ⊢
 rw [jd] at h ⊢
 exact ⟨by rw [List.length_set]; exact h.1, I9 h.2 ha⟩
theorem Had {keys : Int} {n i : Nat} {l : List Pa} (h : Ih keys n i l = true) : (l.length : Int) = keys := by
 unfold Ih at h
 rw [jd] at h
 simpa using h.1
def TF (p : Int → Bool) : Nat → List Int
 | 0 => []
 | n + 1 => cond (p ((n + 1 : Nat) : Int)) (TF p n ++ [((n + 1 : Nat) : Int)]) (TF p n)
theorem H6 (p : Int → Bool) : ∀ n, (TF p n).length ≤ n
 | 0 => by simp [TF]
 | n + 1 => by
  have := H6 p n
  simp only [TF]
  cases p ((n + 1 : Nat) : Int) <;> simp <;> omega
theorem KT (l : List Va) : ∀ n, Mo l n = TF (fun c => l.any fun h => h.2.1.2.1 == c) n
 | 0 => rfl
 | n + 1 => by simp only [Mo, TF, KT l n]
theorem QY (cs : List Int) (hn : cs.length ≤ Ga) (hx : ∀ c ∈ cs, 0 ≤ c ∧ c ≤ 56) : Pt cs = some (TF (fun c => cs.any (fun y => y == c)) 56, ()) := by
 have := YM (cs.map fun c => ((0, (0, c, 0, 0, ()), ()) : Va)) (by simpa using hn) (fun h hh => by
  obtain ⟨c, hc, rfl⟩ := qv.1 hh
  exact hx c hc)
 rw [List.map_map] at this
 have e : List.map ((fun h : Va => h.2.1.2.1) ∘ fun c => ((0, (0, c, 0, 0, ()), ()) : Va)) cs = cs := by
  rw [show ((fun h : Va => h.2.1.2.1) ∘ fun c => ((0, (0, c, 0, 0, ()), ()) : Va)) = id from rfl, List.map_id]
 rw [e] at this
 rw [this, KT]
 congr 3
 funext c
 rw [List.any_map]
 rfl
def Eay (s : Int) (D : List Na) : Int := Bd (fun _ s (p : Na) => Lc .i64 s p.2.1) 0 s D
def FS (b : Ra) (D : List Na) : Ra := (Eay b.1 D, TF (fun c => b.2.1.any (fun y => y == c) || D.any (fun p => p.1 == c)) 56, ())
theorem RW (b : Ra) (D : List Na) (hb : b.2.1.length ≤ 56) (hD : D.length ≤ 1000) (hbx : ∀ c ∈ b.2.1, 0 ≤ c ∧ c ≤ 56) (hDx : ∀ p ∈ D, 0 ≤ p.1 ∧ p.1 ≤ 56) :
 Hg b D = some (FS b D, ()) := by
 have h20 : Ga = 1048576 := rfl
 have hl := (Kg (step := fun x => Uq x.1.1 x.1.2.1 x.1.2.2.1 x.1.2.2.2.1 x.1.2.2.2.2.1 x.1.2.2.2.2.2.1 x.2.1 x.2.2.1) D
  (fun _ (s : Int × List Int) (p : Na) => (Lc .i64 s.1 p.2.1, jf s.2 [p.1])) (fun s i => (((), (), s.2, D, ((ja D : Nat) : Int), i, ()), (((0 : Int), ([] : List Int), ()), (s.1, ([] : List Int), ()), ())))
  (fun s => .inl (((), (), s.2, ()), (((0 : Int), ([] : List Int), ()), (s.1, ([] : List Int), ()), ()))) (fun k s => s.2.length = b.2.1.length + k) (by
   intro k hk s hs
   refine ⟨?_, by simp [hs]; omega⟩
   simp only [Uq]
   rw [Aa (show (k : Int) < ((ja D : Nat) : Int) by omega), Ub hk]
   simp only [zz, jb]
   rw [show jx (ja s.2 + ja ([D[k].1] : List Int)) Xa = true from ji (by simp only [jw, qb, Tf]; omega)]
   rfl)
  (by
   intro s _
   simp only [Uq]
   rw [Ba (by omega)]; rfl) (by omega) (b.1, b.2.1) (by simp)).1
 have key : ∀ (D : List Na) (k : Nat) (s : Int × List Int), Bd (fun _ (s : Int × List Int) (p : Na) => (Lc .i64 s.1 p.2.1, jf s.2 [p.1])) k s D =
  (Bd (fun _ s (p : Na) => Lc .i64 s p.2.1) k s.1 D, s.2 ++ D.map fun p => p.1) := by
  intro D
  induction D with
  | nil => intro k s; simp [Bd]
  | cons x D ih => intro k s; simp only [Bd]; rw [ih]; simp
 unfold Hg Vt
 rw [FE _ (by omega)]
 simp only [jb]
 erw [hl]
 rw [key]
 simp only [jb, qm]
 rw [QY _ (by simp; omega) (fun c hc => by
  rcases jl.1 hc with h | h
  ·exact hbx c h
  ·obtain ⟨p, hp, rfl⟩ := qv.1 h
   exact hDx p hp)]
 simp only [jb, FS, Eay]
 congr 4
 apply congrArg (fun p => TF p 56)
 funext c
 rw [List.any_append, List.any_map]
 rfl

noncomputable def rM (L : List Va) (x : Cc) : Int := Ed (Qh x.2.1 x.2.2.1) 0 L
noncomputable def T2 (b : Ra) (L : List Va) (x : Cc) : List Ra :=
 cond (x.1 == 0) [FS b ((jf L [Hh x]).map Le), FS b (L.map Le)] [FS b ((DH x L (rM L x)).map Le)]
noncomputable def mG (b : Ra) (s : List Ra × List Va) (x : Cc) : List Ra × List Va := (jf s.1 (T2 b s.2 x), DH x s.2 (rM s.2 x))
noncomputable def KU (b : Ra) (l : List Cc) : List Ra := (Bd (fun _ s x => mG b s x) 0 ([], []) l).1
structure Qai (l : List Cc) (k : Nat) (s : List Ra × List Va) : Prop where
 ok : ∃ L', Wa (fun _ L x => Wk L x) k s.2 (l.drop k) = .inl L'
 len : s.2.length ≤ k
 out : s.1.length ≤ 2 * k
 cod : ∀ h ∈ s.2, 0 ≤ h.2.1.2.1 ∧ h.2.1.2.1 ≤ 56
theorem Uat {l : List Cc} {k : Nat} (hk : k < l.length) {b : Ra} {s : List Ra × List Va} (hi : Qai l k s) : Ok l[k] (rM s.2 l[k]) = true ∧ Qai l (k + 1) (mG b s l[k]) := by
 obtain ⟨L', hL⟩ := hi.ok
 rw [List.drop_eq_getElem_cons hk] at hL
 simp only [Wa] at hL
 unfold rM
 cases hc : Ok l[k] (Ed (Qh l[k].2.1 l[k].2.2.1) 0 s.2) with
 | false =>
  have : Wk s.2 l[k] = .inr () := by unfold Wk; rw [hc]; rfl
  rw [this] at hL; simp at hL
 | true =>
  have hm : Wk s.2 l[k] = .inl (DH l[k] s.2 (rM s.2 l[k])) := by unfold Wk rM; rw [hc]; rfl
  rw [hm] at hL
  refine ⟨rfl, ⟨L', hL⟩, ?_, ?_, ?_⟩
  ·have := O4 hm
   have := hi.len
   show (DH l[k] s.2 (rM s.2 l[k])).length ≤ k + 1
   omega
  ·have := hi.out
   show (jf s.1 (T2 b s.2 l[k])).length ≤ _
   unfold T2
   cases l[k].1 == 0 <;> simp <;> omega
  ·have hcode : 0 ≤ l[k].2.1 ∧ l[k].2.1 ≤ 56 := by
    simp only [Ok, jd] at hc
    exact AO hc.1
   intro h hh
   have hh' : h ∈ DH l[k] s.2 (rM s.2 l[k]) := hh
   unfold DH at hh'
   cases h1 : l[k].1 == 1 with
   | true =>
    rw [h1] at hh'
    rcases jl.1 (show h ∈ s.2 ++ [Hh l[k]] from hh') with hh' | hh'
    ·exact hi.cod h hh'
    ·simp only [jp, zw, or_false] at hh'
     rw [hh']; exact hcode
   | false =>
    rw [h1] at hh'
    cases h2 : l[k].1 == 2 with
    | true =>
     rw [h2] at hh'
     have hsub : h ∈ s.2 := by
      have hw : h ∈ Hj s.2 (rM s.2 l[k]).toNat := hh'
      unfold Hj Lb at hw
      rcases jl.1 (show h ∈ _ ++ _ from hw) with hw | hw
      ·exact List.mem_of_mem_take (List.mem_of_mem_drop hw)
      ·exact List.mem_of_mem_take (List.mem_of_mem_drop hw)
     exact hi.cod h hsub
    | false => rw [h2] at hh'; exact hi.cod h hh'
theorem Eau {x : Cc} {r : Int} (h : Ok x r = true) : (x.1 = 0 ∧ r < 0) ∨ (x.1 = 1 ∧ r < 0) ∨ (x.1 = 2 ∧ r ≥ 0) := by
 simp only [Ok, jd, ye, beq_iff_eq, yx, decide_eq_false_iff_not, decide_eq_true_eq] at h
 omega
theorem Ia {n m : Nat} (h : n ≤ 1000) (hm : m ≤ 10) : jx (n + m) Xa = true := ji (by rw [Tf]; omega)
theorem Yau (a : List Va) : ∀ c ∈ (Ue a).2.1, 0 ≤ c ∧ c ≤ 56 := by
 intro c hc
 have := (HF a 56 c).1 hc
 omega
theorem IR (a : List Va) (l : List Cc) (hn : a.length ≤ Ga) (ha : Dg a = true) (hm : Be l = true) : Mk a l = some (KU (Ue a) l, ()) := by
 have h20 : Ga = 1048576 := rfl
 have hm' := hm
 simp only [Be, jd, decide_eq_true_eq, RR] at hm'
 have h0 : Qai l 0 ([], []) := ⟨by
  rw [List.drop_zero]
  cases hf : Wa (fun _ L x => Wk L x) 0 [] l with
  | inl L => exact ⟨L, rfl⟩
  | inr u => rw [hf] at hm'; simp at hm', jo _, jo _, by simp⟩
 have hl := (Kg (step := fun x => Jm x.1.1 x.1.2.1 x.1.2.2.1 x.1.2.2.2.1 x.1.2.2.2.2.1 x.1.2.2.2.2.2.1 x.2.1) l (fun _ s x => mG (Ue a) s x) (fun s i => (((), s.1, s.2.map Le, l, ((ja l : Nat) : Int), i, ()), (Ue a, ()))) (fun s => .inl ((s.1, ()), ())) (Qai l) (by
  intro k hk s hi
  obtain ⟨hok, hi'⟩ := Uat (b := Ue a) hk hi
  refine ⟨?_, hi'⟩
  have hlen := hi.len
  have hout := hi.out
  have hl8 := hm'.1
  have hcode : 0 ≤ l[k].2.1 ∧ l[k].2.1 ≤ 56 := by
   simp only [Ok, jd] at hok
   exact AO hok.1
  simp only [Jm]
  rw [Aa (show (k : Int) < ((ja l : Nat) : Int) by omega), Ub hk]
  simp only [zz, jb]
  generalize hx : l[k] = x at *
  have hW : ∀ L : List Va, L.length ≤ 1000 → (∀ h ∈ L, 0 ≤ h.2.1.2.1 ∧ h.2.1.2.1 ≤ 56) → Hg (Ue a) (L.map Le) = some (FS (Ue a) (L.map Le), ()) := fun L h1 h2 =>
   RW _ _ (DK a) (by simpa using h1) (Yau a) (fun p hp => by
    obtain ⟨h, hh, rfl⟩ := qv.1 hp
    exact h2 h hh)
  have hcs : ∀ h ∈ jf s.2 [Hh x], 0 ≤ h.2.1.2.1 ∧ h.2.1.2.1 ≤ 56 := by
   intro h hh
   rcases jl.1 (show h ∈ s.2 ++ [Hh x] from hh) with hh | hh
   ·exact hi.cod h hh
   ·simp only [jp, zw, or_false] at hh
    rw [hh]; exact hcode
  have happ : jf (s.2.map Le) ([(x.2.1, x.2.2.1, ())] : List Na) = (jf s.2 [Hh x]).map Le := by
   show _ ++ _ = List.map Le (_ ++ _)
   rw [zf]; rfl
  have happ2 : jf (jf ([] : List Na) (s.2.map Le)) ([(x.2.1, x.2.2.1, ())] : List Na) = (jf s.2 [Hh x]).map Le := happ
  have hR1 := hW (jf s.2 [Hh x]) (by simp; omega) hcs
  have hR0 := hW s.2 (by omega) hi.cod
  have b1 : jx (ja (s.2.map Le) + ja ([(x.2.1, x.2.2.1, ())] : List Na)) Xa = true := Ia (by simp; omega) (by simp)
  have b0 : jx (ja ([] : List Na) + ja (s.2.map Le)) Xa = true := ji (by simp [Tf]; omega)
  unfold mG T2 DH
  rcases Eau hok with ⟨h0, hr⟩ | ⟨h1, hr⟩ | ⟨h2, hr⟩
  ·rw [h0, b0]
   simp only [show ((0 : Int) == 0) = true from rfl, show ((0 : Int) == 1) = false from rfl, show ((0 : Int) == 2) = false from rfl, zz, ua]
   show cond (jx (ja (s.2.map Le) + ja ([(x.2.1, x.2.2.1, ())] : List Na)) Xa) _ _ = _
   rw [b1, happ2]
   simp only [zz]
   show jz (Hg (Ue a) _) _ = _
   rw [hR1]
   simp only [jb]
   rw [show ∀ r : Ra, jx (ja s.1 + ja ([r] : List Ra)) Xa = true from fun r => Ia (by omega) (by simp)]
   simp only [zz]
   show jz (Hg (Ue a) _) _ = _
   rw [hR0]
   simp only [jb]
   rw [show ∀ r r' : Ra, jx (ja (jf s.1 [r]) + ja ([r'] : List Ra)) Xa = true from fun r r' => Ia (by simp; omega) (by simp)]
   simp
  ·rw [h1, b1, happ]
   simp only [show ((1 : Int) == 0) = false from rfl, show ((1 : Int) == 1) = true from rfl, zz, ua]
   show jz (Hg (Ue a) _) _ = _
   rw [hR1]
   simp only [jb]
   rw [show ∀ r : Ra, jx (ja s.1 + ja ([r] : List Ra)) Xa = true from fun r => Ia (by omega) (by simp)]
   rfl
  ·rw [h2]
   simp only [show ((2 : Int) == 0) = false from rfl, show ((2 : Int) == 1) = false from rfl, show ((2 : Int) == 2) = true from rfl, zz, ua]
   rcases Nz (Qh x.2.1 x.2.2.1) s.2 0 with h | ⟨j, hj, h⟩
   ·unfold rM at hr; omega
   ·rw [js] at h
    rw [GP (s.2.map Le) _ (by simp; omega), R2, h]
    simp only [jb]
    have hj' : j < (s.2.map Le).length := by simpa using hj
    have hc := NT hj'
    have e1 : jx (ja (Lb (s.2.map Le) (jy 0) (jy (j : Int))) + ja (Lb (s.2.map Le) (jy ((j + 1 : Nat) : Int)) (jy ((ja (s.2.map Le) : Nat) : Int)))) Xa = true :=
     ji (by simp [Lb]; rw [Tf]; omega)
    have e2 : jf (Lb (s.2.map Le) (jy 0) (jy (j : Int))) (Lb (s.2.map Le) (jy ((j + 1 : Nat) : Int)) (jy ((ja (s.2.map Le) : Nat) : Int))) = (Hj s.2 j).map Le := by
     rw [← PX]
     simp [Hj]
    have hsub : ∀ h ∈ Hj s.2 j, 0 ≤ h.2.1.2.1 ∧ h.2.1.2.1 ≤ 56 := by
     intro h hw
     unfold Hj Lb at hw
     rcases jl.1 (show h ∈ _ ++ _ from hw) with hw | hw
     ·exact hi.cod h (List.mem_of_mem_take (List.mem_of_mem_drop hw))
     ·exact hi.cod h (List.mem_of_mem_take (List.mem_of_mem_drop hw))
    rw [Ag (k := j) (by omega), hc.1, hc.2, e1, e2]
    simp only [zz]
    show jz (Hg (Ue a) _) _ = _
    rw [hW (Hj s.2 j) (by rw [Nad hj]; omega) hsub]
    simp only [jb]
    rw [show ∀ r : Ra, jx (ja s.1 + ja ([r] : List Ra)) Xa = true from fun r => Ia (by omega) (by simp)]
    unfold rM
    rw [h, jn]
    rfl)
  (by
   intro s _
   simp only [Jm]
   rw [Ba (by omega)]; rfl) (by omega) ([], []) h0).1
 unfold Mk Uo
 rw [FB _ hn, ha, XM _ (by omega), hm, Av _ hn ha]
 simp only [jb, jg, ua]
 erw [hl]
 rfl
theorem D7 (b : Ra) (D : List Na) : (FS b D).2.1.length ≤ 56 := by
 show (TF (fun c => b.2.1.any (fun y => y == c) || D.any (fun p => p.1 == c)) 56).length ≤ 56
 exact H6 _ 56
theorem Qab (b : Ra) : ∀ (l : List Cc) (k : Nat) (s : List Ra × List Va), (∀ x ∈ s.1, x.2.1.length ≤ 56) →
 (Bd (fun _ s x => mG b s x) k s l).1.length ≤ s.1.length + 2 * l.length ∧ ∀ x ∈ (Bd (fun _ s x => mG b s x) k s l).1, x.2.1.length ≤ 56
 | [], _, s, h => by simp only [Bd]; exact ⟨by omega, h⟩
 | x :: l, k, s, h => by
  have h1 : (mG b s x).1.length ≤ s.1.length + 2 ∧ ∀ y ∈ (mG b s x).1, y.2.1.length ≤ 56 := by
   unfold mG T2
   cases x.1 == 0 with
   | true =>
    refine ⟨by simp, fun y hy => ?_⟩
    rcases jl.1 (show y ∈ s.1 ++ _ from hy) with hy | hy
    ·exact h y hy
    ·simp only [zz, jp, zw, or_false] at hy
     rcases hy with rfl | rfl <;> exact D7 _ _
   | false =>
    refine ⟨by simp, fun y hy => ?_⟩
    rcases jl.1 (show y ∈ s.1 ++ _ from hy) with hy | hy
    ·exact h y hy
    ·simp only [ua, jp, zw, or_false] at hy
     rw [hy]; exact D7 _ _
  have := Qab b l (k + 1) (mG b s x) h1.2
  simp only [Bd, jw]
  exact ⟨by omega, this.2⟩
def Ho (f : Int) (l : List Va) : Int := Bd (fun _ s (h : Va) => cond (h.2.1.1 == 3) (Lc .i64 s (Ma .i64 1 h.2.1.2.2.2.1)) s) 0 (Lc .i64 1 f) l
theorem CP {f : Int} (hf : 0 ≤ f ∧ f ≤ 15) (l : List Va) (hn : l.length ≤ Ga) (hv : Dg l = true) : Lw f l = some (Ho f l, ()) := by
 have h20 : Ga = 1048576 := rfl
 have hh := Iu hv
 have hl := (Kg (step := fun x => Ps x.1.1 x.1.2.1 x.1.2.2.1 x.1.2.2.2.1) l
  (fun _ s (h : Va) => cond (h.2.1.1 == 3) (Lc .i64 s (Ma .i64 1 h.2.1.2.2.2.1)) s) (fun s i => ((s, l, ((ja l : Nat) : Int), i, ()), ()))
  (fun s => .inl ((s, ()), ())) (fun _ _ => True) (by
   intro k hk s _
   refine ⟨?_, trivial⟩
   simp only [Ps]
   rw [Aa (show (k : Int) < (ja l : Int) by omega), Ub hk]
   simp only [zz, jb]
   rw [Aa (OQ (hh _ (qt hk)).act)]
   cases l[k].2.1.1 == 3 <;> rfl)
  (by
   intro s _
   simp only [Ps]
   rw [Ba (by omega)]; rfl) (by omega) (Lc .i64 1 f) trivial).1
 unfold Lw Jk
 rw [Aa (show f ≥ 0 by omega), Aa hf.2, FB _ hn, hv]
 simp only [zz, jb, jg, ua]
 erw [hl]
 rfl
theorem H4 (a : Pa) : VH a = some (BP a, ()) := by
 unfold VH BP
 rw [ZB]
 cases Jg a <;> cases a.1 == 6 <;> rfl
theorem N2 {a : Nat} (ha : a < 2 ^ 63) (x : Va) : LB (a : Int) x = true ↔ Xv x ∧ a.testBit x.1.toNat = false := by
 constructor
 ·intro h
  obtain ⟨h1, h2⟩ := Xap h
  refine ⟨h1, ?_⟩
  have hx : x.1 = ((x.1.toNat : Nat) : Int) := (Int.toNat_of_nonneg h1.lo).symm
  have := Qj (a := a) (k := x.1.toNat) ha (by have := h1.hi; omega)
  rw [← hx] at this
  rw [← this]
  simp [h2]
 ·rintro ⟨h1, h2⟩
  have hx : x.1 = ((x.1.toNat : Nat) : Int) := (Int.toNat_of_nonneg h1.lo).symm
  have := Qj (a := a) (k := x.1.toNat) ha (by have := h1.hi; omega)
  rw [← hx, h2] at this
  simp only [LB, jd, decide_eq_true_eq, yx, beq_eq_false_iff_ne]
  exact ⟨⟨h1.lo, h1.hi⟩, by rw [beq_eq_false_iff_ne] at this; exact this, h1.act, h1.n1, h1.n6, h1.n7⟩
theorem DX : ∀ (l : List Va) (k a : Nat), a < 2 ^ 63 → (Rk (Wa (fun _ s x => Yx s x) k (a : Int) l) = true ↔
 (∀ x ∈ l, Xv x ∧ a.testBit x.1.toNat = false) ∧ l.Pairwise (fun x y => x.1 ≠ y.1))
 | [], k, a, ha => by simp [Wa, Rk]
 | y :: l, k, a, ha => by
  simp only [Wa]
  cases hc : LB (a : Int) y with
  | false =>
   rw [show Yx (a : Int) y = .inr () by unfold Yx; rw [hc]; rfl]
   simp only [Rk, jq, false_iff]
   rintro ⟨h, _⟩
   have := (N2 ha y).2 (h y (List.mem_cons_self ..))
   rw [hc] at this; cases this
  | true =>
   rw [show Yx (a : Int) y = .inl (Lc .i64 (a : Int) (Ma .i64 1 y.1)) by unfold Yx; rw [hc]; rfl]
   simp only []
   obtain ⟨hy, hb⟩ := (N2 ha y).1 hc
   have h1 := hy.lo; have h2 := hy.hi
   have hyx : y.1 = ((y.1.toNat : Nat) : Int) := (Int.toNat_of_nonneg h1).symm
   have e : Lc .i64 (a : Int) (Ma .i64 1 y.1) = ((a ||| 2 ^ y.1.toNat : Nat) : Int) := by
    conv => lhs; rw [hyx]
    rw [Ve (by omega), Fi ha (Ye (by omega))]
   rw [e, DX l (k + 1) _ (zn ha (Ye (by omega)))]
   have tb : ∀ n, (a ||| 2 ^ y.1.toNat).testBit n = false ↔ a.testBit n = false ∧ y.1.toNat ≠ n := by
    intro n
    rw [zq, qq, zb, decide_eq_false_iff_not]
   simp only [jp, List.pairwise_cons, forall_eq_or_imp]
   constructor
   ·rintro ⟨h, hp⟩
    refine ⟨⟨⟨hy, hb⟩, fun x hx => ⟨(h x hx).1, ((tb _).1 (h x hx).2).1⟩⟩, fun x hx hxy => ?_, hp⟩
    exact ((tb _).1 (h x hx).2).2 (by rw [hxy])
   ·rintro ⟨⟨_, h⟩, hq, hp⟩
    refine ⟨fun x hx => ⟨(h x hx).1, (tb _).2 ⟨(h x hx).2, fun hn => hq x hx ?_⟩⟩, hp⟩
    have := (h x hx).1.lo
    omega
theorem CE (l : List Va) : Dg l = true ↔ (∀ x ∈ l, Xv x) ∧ l.Pairwise (fun x y => x.1 ≠ y.1) := by
 have := DX l 0 0 (by decide)
 unfold Dg N8
 erw [this]
 simp
theorem Nan {l : List Va} (h : Dg l = true) {x : Va} (hx : Xv x) (hn : ∀ y ∈ l, y.1 ≠ x.1) : Dg (jf l [x]) = true := by
 rw [CE] at h ⊢
 obtain ⟨h1, h2⟩ := h
 refine ⟨fun y hy => ?_, ?_⟩
 ·rcases jl.1 (show y ∈ l ++ [x] from hy) with hy | hy
  ·exact h1 y hy
  ·rw [qg.1 hy]; exact hx
 ·show (l ++ [x]).Pairwise _
  rw [zx]
  exact ⟨h2, List.pairwise_singleton _ _, fun y hy z hz => by rw [qg.1 hz]; exact hn y hy⟩
theorem Xaa {l r : List Va} (h : Dg l = true) (hs : r.Sublist l) : Dg r = true := by
 rw [CE] at h ⊢
 exact ⟨fun y hy => h.1 y (hs.subset hy), h.2.sublist hs⟩
theorem WY : ∀ (n : Nat) (l : List Nat), l.Nodup → (∀ x ∈ l, x < n) → l.length ≤ n
 | 0, l, _, h => by
  cases l with
  | nil => exact jo _
  | cons x l => exact absurd (h x (List.mem_cons_self ..)) (Nat.not_lt_zero _)
 | n + 1, l, hn, h => by
  have := WY n (l.erase n) (hn.erase n) (fun x hx => by
   have h1 := (hn.mem_erase_iff).1 hx
   have := h x h1.2
   have := h1.1
   omega)
  have h2 := List.length_erase (a := n) (l := l)
  split at h2 <;> omega
theorem DB {l : List Va} (h : Dg l = true) : l.length ≤ 32 := by
 rw [CE] at h
 have hn : (l.map fun x => x.1.toNat).Nodup := by
  rw [List.Nodup, List.pairwise_map]
  refine (List.Pairwise.and_mem.1 h.2).imp ?_
  rintro x y ⟨hx, hy, hxy⟩ he
  have h1 := (h.1 x hx).lo; have h2 := (h.1 y hy).lo
  omega
 have hs : ∀ y ∈ (l.map fun x => x.1.toNat), y < 32 := by
  intro y hy
  obtain ⟨x, hx, rfl⟩ := qv.1 hy
  have := (h.1 x hx).hi; have := (h.1 x hx).lo
  omega
 have := WY 32 _ hn hs
 simpa using this
structure Dq (e : Jb) : Prop where
 km : Ce e.1 = true
 m4 : e.2.1.length ≤ 4
 hd : Dg e.2.2.2.1 = true
 mac : ∀ x ∈ e.2.1, Be x = true
 hin : ∀ x ∈ e.2.2.2.1, Gl e.1.1 e.1.2.1.length x = true
 st : Q3 e.1.2.1.length e.2.2.1 e.2.2.2.2.1
theorem Dl {α : Type} {p : α → Bool} {l : List α} : Cd (fun _ x => p x) 0 l = true ↔ ∀ x ∈ l, p x = true := by
 rw [Pk]
 constructor
 ·intro h x hx
  obtain ⟨i, hi, rfl⟩ := qu hx
  exact h i hi
 ·intro h j hj
  exact h _ (qt hj)
theorem TO (e : Jb) : Tj e = true ↔ Dq e := by
 unfold Tj
 simp only [jd, decide_eq_true_eq, beq_iff_eq, Dl]
 constructor
 ·rintro ⟨h1, h2, h3, h4, h5, h6, h7, h8⟩
  exact ⟨h1, h2, h3, h4, h5, ⟨h6.1, h6.2, h7, h8.1, h8.2⟩⟩
 ·rintro ⟨h1, h2, h3, h4, h5, h6⟩
  exact ⟨h1, h2, h3, h4, h5, ⟨h6.f0, h6.f1⟩, h6.f2, h6.o0, h6.o1⟩
theorem XV {e : Jb} (h : Dq e) : Jc Xc e ≤ Ga - 5 := by
 have h20 : Ga = 1048576 := rfl
 have h1 := (Rap h.km).z
 have hh := DB h.hd
 have h2 : Jc (.sl (.sl Ad)) e.2.1 ≤ (8 + 1) * e.2.1.length := NW (e := .sl Ad) (c := 8) fun x hx => by
  have := h.mac x hx
  simp only [Be, jd, decide_eq_true_eq] at this
  have e2 : Jc (.sl Ad) x = x.length := Bp (e := Ad) rfl x
  omega
 have := h.m4
 have hm := Uj h.km
 have h3 : Jc Oc e.1 ≤ 200 := by
  have h1 : Jc Oc e.1 = 0 + (Jc (.sl (.sl Mc)) e.1.2.1 + 0) := rfl
  have h2 : Jc (.sl (.sl Mc)) e.1.2.1 ≤ (32 + 1) * ja e.1.2.1 := NW (e := .sl Mc) (c := 32) fun x hx => by
   obtain ⟨i, hi, rfl⟩ := qu hx
   rw [J3]
   have := hm.row i hi
   have := hm.k2
   omega
  have := hm.l2
  omega
 rw [Cn, Qm]
 omega
noncomputable def Bac (e : Jb) (k : Nat) (b : Bool) : Pa :=
 cond b (BP (Pl e.1.2.1 (Vj e.1 (Ho e.2.2.1 e.2.2.2.1) k) k)) (XP (Pl e.1.2.1 (Vj e.1 (Ho e.2.2.1 e.2.2.2.1) k) k))
noncomputable def Rp (e : Jb) (k : Nat) (b : Bool) : Int × Int × Bool × Pa := YL e.2.2.1 e.2.2.2.2.1 e.2.2.2.2.2.1 (Bac e k b)
noncomputable def pH (e : Jb) (k : Nat) (b : Bool) : List Va := jf e.2.2.2.1 [((k : Int), (Rp e k b).2.2.2, ())]
noncomputable def pE (e : Jb) (k : Nat) (b : Bool) : Jb := (e.1, e.2.1, (Rp e k b).1, pH e k b, (Rp e k b).2.1, (Rp e k b).2.2.1, ())
noncomputable def pM (e : Jb) (k : Nat) (b : Bool) : List Ra :=
 cond ((Rp e k b).2.2.2.1 == 9) (cond (decide ((Rp e k b).2.2.2.2.2.2.1 < ((ja e.2.1 : Nat) : Int))) (KU (Ue (pH e k b)) (e.2.1.getD (Rp e k b).2.2.2.2.2.2.1.toNat [])) []) []
noncomputable def pR (e : Jb) (k : Nat) (b : Bool) : List Ra := AE PD (Ue e.2.2.2.1) (jf (pM e k b) [Ue (pH e k b)])
theorem Oat {nl i : Nat} {a : Pa} (h : Og nl i a = true) (h1 : a.1 ≠ 1) : RX nl (BP a) := by
 have ha := QU h
 have hP := ha
 rw [Qb] at hP
 unfold Xb at hP
 unfold BP Jg
 rw [ha]
 by_cases h67 : a.1 = 6 ∨ a.1 = 7
 ·have e : (true && ((a.1 == 6) || (a.1 == 7))) = true := by rcases h67 with h | h <;> rw [h] <;> rfl
  rw [e]
  have hn := IW h (by omega)
  rcases h67 with h6 | h7
  ·rw [h6]
   refine ⟨?_, by show (2 : Int) ≠ 1; decide, by show (2 : Int) ≠ 6; decide, by show (2 : Int) ≠ 7; decide, fun _ => ?_⟩
   ·rw [Qb]
    exact .inr (.inl ⟨rfl, rfl, .inl rfl, .inr (by show 1 ≤ a.2.2.1 ∧ a.2.2.1 ≤ 15; omega), .inr (by show a.2.2.1 ≠ 0; omega)⟩)
   ·show (0 : Int) < (nl : Int)
    omega
  ·rw [h7]
   refine ⟨?_, by show (3 : Int) ≠ 1; decide, by show (3 : Int) ≠ 6; decide, by show (3 : Int) ≠ 7; decide, fun _ => hn⟩
   rw [Qb]
   exact .inr (.inr (.inl ⟨.inl rfl, rfl, rfl, by show 1 ≤ a.2.2.2.1; omega, by show a.2.2.2.1 ≤ 3; omega⟩))
 ·have e : (true && ((a.1 == 6) || (a.1 == 7))) = false := by
   rw [jk, zb, beq_eq_false_iff_ne, beq_eq_false_iff_ne]; omega
  rw [e]
  exact ⟨ha, h1, fun h => h67 (.inl h), fun h => h67 (.inr h), fun hk => IW h hk⟩
structure Tal (e : Jb) (k : Nat) (b : Bool) : Prop where
 act : RX e.1.2.1.length (Bac e k b)
 ah : RX e.1.2.1.length (Rp e k b).2.2.2
 hd : Dg (pH e k b) = true
 ok : Dq (pE e k b)
 ml : (pM e k b).length ≤ 16
 mx : ∀ x ∈ pM e k b, x.2.1.length ≤ 56
theorem Rag {e : Jb} (h : Dq e) {k : Nat} (hk : (k : Int) < e.1.1) (hn : ∀ y ∈ e.2.2.2.1, y.1 ≠ (k : Int)) (b : Bool) : Tal e k b := by
 have hm := Uj h.km
 have h1 := Nap hm (Ho e.2.2.1 e.2.2.2.1) hk
 have h2 : RX e.1.2.1.length (Bac e k b) := by
  cases b
  ·exact EaC h1.1 h1.2
  ·exact Oat h1.1 h1.2
 have h3 := BaI (c := e.2.2.2.2.2.1) hm.l2 h.st h2
 have h4 : Dg (pH e k b) = true := Nan h.hd (x := ((k : Int), (Rp e k b).2.2.2, ())) ⟨by show (0 : Int) ≤ (k : Int); omega, by have := hm.k2; show (k : Int) ≤ 31; omega, h3.2.act, h3.2.n1, h3.2.n6, h3.2.n7⟩ hn
 refine ⟨h2, h3.2, h4, ⟨h.km, h.m4, h4, h.mac, fun x hx => ?_, h3.1⟩, ?_, ?_⟩
 ·rcases jl.1 (show x ∈ e.2.2.2.1 ++ [((k : Int), (Rp e k b).2.2.2, ())] from hx) with hx | hx
  ·exact h.hin x hx
  ·simp only [jp, zw, or_false] at hx
   subst hx
   simp only [Gl, jd, yx, Bool.and_eq_false_iff, decide_eq_false_iff_not]
   refine ⟨by show ¬ (k : Int) ≥ e.1.1; omega, ?_⟩
   by_cases h9 : (Rp e k b).2.2.2.1 = 9
   ·exact .inl (by show ((Rp e k b).2.2.2.1 != 9) = false; simp [h9])
   ·exact .inr (Int.not_le.2 (h3.2.n h9))
 all_goals
  unfold pM
  cases (Rp e k b).2.2.2.1 == 9 with
  | false => simp
  | true =>
   simp only [zz]
   by_cases hl : (Rp e k b).2.2.2.2.2.2.1 < ((ja e.2.1 : Nat) : Int)
   ·rw [Aa hl]
    have h0 := OQ h3.2.act
    have hmem : (e.2.1.getD (Rp e k b).2.2.2.2.2.2.1.toNat []) ∈ e.2.1 := by
     have hlt : (Rp e k b).2.2.2.2.2.2.1.toNat < e.2.1.length := by
      have : (0 : Int) ≤ (Rp e k b).2.2.2.2.2.2.1 := h0
      omega
     rw [qj, je hlt, yg]
     exact qt hlt
    have hmc := h.mac _ hmem
    simp only [Be, jd, decide_eq_true_eq] at hmc
    have := Qab (Ue (pH e k b)) (e.2.1.getD (Rp e k b).2.2.2.2.2.2.1.toNat []) 0 ([], []) (by simp)
    simp only [zz]
    unfold KU
    first
     | exact this.2
     | (have h5 := this.1; simp only [qb] at h5; omega)
   ·rw [Ba hl]; simp
theorem Aal {β : Type} (MR : List Va → List Cc → Option ((List Ra) × Unit)) (RO : List Va → Option (Ra × Unit)) (CH : Ra → List Ra → Option ((List Ra) × Unit)) (K : List Ra → Option β)
 (hMR : ∀ a l, a.length ≤ Ga → Dg a = true → Be l = true → MR a l = some (KU (Ue a) l, ()))
 (hRO : ∀ l, l.length ≤ Ga → Dg l = true → RO l = some (Ue l, ()))
 (hCH : ∀ (a : Ra) (l : List Ra), l.length ≤ Ga → a.2.1.length ≤ Ga → (∀ x ∈ l, x.2.1.length ≤ Ga) → CH a l = some (AE PD a l, ()))
 {e : Jb} (h : Dq e) {k : Nat} {b : Bool} (F : Tal e k b) :
 (cond (jx (ja e.2.2.2.1 + ja ([((k : Int), (Rp e k b).2.2.2, ())] : List Va)) Xa)
  (cond ((Rp e k b).2.2.2.1 == (9 : Int))
   (cond (decide ((Rp e k b).2.2.2.2.2.2.1 < ((ja e.2.1 : Nat) : Int)))
    (jz (Wb e.2.1 (Rp e k b).2.2.2.2.2.2.1) fun x8 => jz (MR (pH e k b) x8) fun r9 => jz (RO (pH e k b)) fun r10 =>
     cond (jx (ja r9.1 + ja ([r10.1] : List Ra)) Xa) (jz (RO e.2.2.2.1) fun r11 => jz (CH r11.1 (jf r9.1 ([r10.1] : List Ra))) fun r12 => K r12.1) none)
    (jz (RO (pH e k b)) fun r13 => cond (jx (ja ([] : List Ra) + ja ([r13.1] : List Ra)) Xa)
     (jz (RO e.2.2.2.1) fun r14 => jz (CH r14.1 (jf ([] : List Ra) ([r13.1] : List Ra))) fun r15 => K r15.1) none))
   (jz (RO (pH e k b)) fun r16 => cond (jx (ja ([] : List Ra) + ja ([r16.1] : List Ra)) Xa)
    (jz (RO e.2.2.2.1) fun r17 => jz (CH r17.1 (jf ([] : List Ra) ([r16.1] : List Ra))) fun r18 => K r18.1) none))
  none) = K (pR e k b) := by
 have h20 : Ga = 1048576 := rfl
 have hlim := Tf
 have hl1 := DB h.hd
 have hl2 := DB F.hd
 have R1 := hRO (pH e k b) (by omega) F.hd
 have R0 := hRO e.2.2.2.1 (by omega) h.hd
 have hr : ∀ r : Ra, jx (ja ([] : List Ra) + ja ([r] : List Ra)) Xa = true := fun r => ji (by simp only [jw, qb]; omega)
 rw [show jx (ja e.2.2.2.1 + ja ([((k : Int), (Rp e k b).2.2.2, ())] : List Va)) Xa = true from ji (by simp only [jw, qb]; omega)]
 have plain : pM e k b = [] → (jz (RO (pH e k b)) fun r13 => cond (jx (ja ([] : List Ra) + ja ([r13.1] : List Ra)) Xa)
  (jz (RO e.2.2.2.1) fun r14 => jz (CH r14.1 (jf ([] : List Ra) ([r13.1] : List Ra))) fun r15 => K r15.1) none) = K (pR e k b) := by
  intro hm
  rw [R1, R0]
  simp only [jb]
  rw [hr, hCH _ _ (by simp; omega) (JW _) (fun x hx => by rw [qg.1 (show x ∈ [Ue (pH e k b)] from hx)]; exact JW _)]
  simp only [zz, jb]
  unfold pR
  rw [hm]
 simp only [zz]
 cases h9 : (Rp e k b).2.2.2.1 == (9 : Int) with
 | false => exact plain (by unfold pM; rw [h9]; rfl)
 | true =>
  simp only [zz]
  by_cases hl : (Rp e k b).2.2.2.2.2.2.1 < ((ja e.2.1 : Nat) : Int)
  ·rw [Aa hl]
   simp only [zz]
   have h0 : (0 : Int) ≤ (Rp e k b).2.2.2.2.2.2.1 := OQ F.ah.act
   have hlt : (Rp e k b).2.2.2.2.2.2.1.toNat < e.2.1.length := by omega
   have hi : Wb e.2.1 (Rp e k b).2.2.2.2.2.2.1 = some e.2.1[(Rp e k b).2.2.2.2.2.2.1.toNat] := by
    have := Ub (xs := e.2.1) hlt
    rw [Int.toNat_of_nonneg h0] at this
    exact this
   have hM : pM e k b = KU (Ue (pH e k b)) e.2.1[(Rp e k b).2.2.2.2.2.2.1.toNat] := by
    unfold pM
    rw [h9, Aa hl, qj, je hlt, yg]
    rfl
   have ml := F.ml
   have mx := F.mx
   rw [hi]
   simp only [jb]
   rw [hMR _ _ (by omega) F.hd (h.mac _ (qt hlt)), R1, R0, ← hM]
   simp only [jb]
   rw [show jx (ja (pM e k b) + ja ([Ue (pH e k b)] : List Ra)) Xa = true from ji (by simp only [jw, qb]; omega)]
   simp only [zz]
   rw [hCH _ _ (by show (pM e k b ++ [Ue (pH e k b)]).length ≤ _; simp; omega) (JW _) (fun x hx => by
    rcases jl.1 (show x ∈ pM e k b ++ [Ue (pH e k b)] from hx) with hx | hx
    ·have := mx x hx; omega
    ·rw [qg.1 hx]; exact JW _)]
   rfl
  ·rw [Ba hl]
   exact plain (by unfold pM; rw [h9, Ba hl]; rfl)
theorem L4 {e : Jb} (h : Dq e) {k : Nat} (hk : (k : Int) < e.1.1) (hn : ∀ y ∈ e.2.2.2.1, y.1 ≠ (k : Int)) (b : Bool) :
 Xi e (k : Int) b = some (pE e k b, pR e k b, ()) := by
 have h20 : Ga = 1048576 := rfl
 have hm := Uj h.km
 have F := Rag h hk hn b
 have hz := XV h
 have hle := DB h.hd
 have hl := IU hm (Ho e.2.2.1 e.2.2.2.1) k
 have hrow := hm.row _ hl
 have tail := Aal Mk Ae Hf (fun r => some (pE e k b, r, ())) IR Av WM h F
 unfold Xi
 rw [Am _ (by omega), CP (OaF hm.l2 h.st) _ (by omega) h.hd]
 simp only [jb]
 rw [BN hm _ hk]
 simp only [jb]
 show jz (Wb e.1.2.1 ((Vj e.1 (Ho e.2.2.1 e.2.2.2.1) k : Nat) : Int)) _ = _
 rw [Qat hl (by omega)]
 cases b with
 | true =>
  simp only [zz]
  rw [H4]
  simp only [jb]
  show jz (Lr (e.1, e.2.1, e.2.2.1, e.2.2.2.1, e.2.2.2.2.1, e.2.2.2.2.2.1, ()) (Bac e k true)) _ = _
  rw [HP _ _ _ _ _ _ _ F.act.act]
  simp only [jb]
  exact tail
 | false =>
  simp only [ua]
  rw [L7]
  simp only [jb]
  show jz (Lr (e.1, e.2.1, e.2.2.1, e.2.2.2.1, e.2.2.2.2.1, e.2.2.2.2.2.1, ()) (Bac e k false)) _ = _
  rw [HP _ _ _ _ _ _ _ F.act.act]
  simp only [jb]
  exact tail
theorem Eak {l : List Va} {k : Int} : Ed (fun h : Va => h.1 == k) 0 l = -1 ↔ ∀ y ∈ l, y.1 ≠ k := by
 have key : ∀ (l : List Va) (n : Nat), Ed (fun h : Va => h.1 == k) n l = -1 ↔ ∀ y ∈ l, y.1 ≠ k := by
  intro l
  induction l with
  | nil => intro n; simp [Ed]
  | cons x l ih =>
   intro n
   simp only [Ed]
   cases hx : x.1 == k with
   | true =>
    simp only [zz, jp, forall_eq_or_imp]
    have hx := eq_of_beq hx
    constructor
    ·intro h; omega
    ·intro h; exact absurd hx h.1
   | false =>
    simp only [ua, jp, forall_eq_or_imp]
    rw [ih]
    exact ⟨fun h => ⟨beq_eq_false_iff_ne.1 hx, h⟩, fun h => h.2⟩
 exact key l 0
def wo (l : List Va) (i : Nat) : List Va := jf (l.take i) (l.drop (i + 1))
theorem Sac (l : List Va) (i : Nat) : (wo l i).Sublist l := by
 have h : (l.drop (i + 1)).Sublist (l.drop i) := List.drop_sublist_drop_left l (Nat.le_succ i)
 have h2 := List.Sublist.append (List.Sublist.refl (l.take i)) h
 rw [List.take_append_drop] at h2
 exact h2
def rE (e : Jb) (i : Nat) : Jb := (e.1, e.2.1, e.2.2.1, wo e.2.2.2.1 i, e.2.2.2.2)
def rR (e : Jb) (i : Nat) : List Ra := AE PD (Ue e.2.2.2.1) [Ue (wo e.2.2.2.1 i)]
theorem LaM {e : Jb} (h : Dq e) (i : Nat) : Dq (rE e i) :=
 ⟨h.km, h.m4, Xaa h.hd (Sac _ i), h.mac, fun x hx => h.hin x ((Sac _ i).subset hx), h.st⟩
theorem KaF {α : Type} (l : List α) (i : Nat) : Lb l (jy (0 : Int)) (jy (i : Int)) = l.take i := by
 simp [Lb]
theorem JaF {α : Type} (l : List α) (i : Nat) : Lb l (jy ((i + 1 : Nat) : Int)) (jy ((ja l : Nat) : Int)) = l.drop (i + 1) := by
 simp [Lb]
theorem RY {e : Jb} (h : Dq e) {k : Int} {i : Nat} (hi : i < e.2.2.2.1.length) (hf : Ed (fun h : Va => h.1 == k) 0 e.2.2.2.1 = (i : Int)) :
 Yz e k = some (rE e i, rR e i, ()) := by
 have h20 : Ga = 1048576 := rfl
 have hlim := Tf
 have hz := XV h
 have hle := DB h.hd
 have hw := Xaa h.hd (Sac e.2.2.2.1 i)
 have hwl := DB hw
 unfold Yz
 rw [Am _ (by omega), G4 _ _ (by omega), hf]
 simp only [jb]
 rw [Ag (by omega)]
 rw [KaF, JaF]
 rw [show We (ja e.2.2.2.1) (0 : Int) ((i : Nat) : Int) = true from Iq (lo := 0) (by omega) (by omega), Iq (by omega) (by omega)]
 rw [show jx (ja (e.2.2.2.1.take i) + ja (e.2.2.2.1.drop (i + 1))) Xa = true from ji (by simp; omega)]
 simp only [zz]
 rw [Av _ (by omega) h.hd]
 simp only [jb]
 show jz (Ae (wo e.2.2.2.1 i)) _ = _
 rw [Av _ (by omega) hw]
 simp only [jb]
 rw [WM _ _ (by simp; omega) (JW _) (fun x hx => by rw [qg.1 hx]; exact JW _)]
 rfl
def IT (md key e : Int) (s : Int) (x : Ca) : Int ⊕ (Int × Int) :=
 cond (Fg x) (cond (decide (x.1 ≥ e)) (.inr (2, e)) (cond (x.2.1 == key) (cond x.2.2.1 (.inl s) (.inr (1, x.1)))
  (cond x.2.2.1 (cond (md == 1) (.inr (2, x.1)) (.inl (Lc .i64 s (Ma .i64 1 x.2.1))))
   (cond (md == 2) (cond (Wd s x.2.1 == 1) (.inr (2, x.1)) (.inl s)) (.inl s))))) (.inr (0, 0))
def chR (md key e : Int) (l : List Ca) : Int ⊕ (Int × Int) := Wa (fun _ s x => IT md key e s x) 0 0 l
def Xg (t : Dt) (key at_ : Int) (l : List Ca) (til : Int) : Na :=
 cond (Kf t && decide (0 ≤ at_ ∧ at_ ≤ 1000000)) (match chR t.2.2.1 key (j9 .i64 (at_ + t.1)) l with
  | .inl _ => cond (decide (til ≥ j9 .i64 (at_ + t.1))) (2, j9 .i64 (at_ + t.1), ()) (0, 0, ())
  | .inr r => (r.1, r.2, ())) (0, 0, ())
theorem NY (t : Dt) (key at_ : Int) (l : List Ca) (til : Int) (hn : l.length ≤ Ga) : Gw t key at_ l til = some (Xg t key at_ l til) := by
 have h20 : Ga = 1048576 := rfl
 have hl := Wg (step := fun x => Hs x.1.1 x.1.2.1 x.1.2.2.1 x.1.2.2.2.1 x.1.2.2.2.2.1 x.1.2.2.2.2.2.1 x.1.2.2.2.2.2.2.1 x.1.2.2.2.2.2.2.2.1 x.2.1) l
  (fun _ s x => IT t.2.2.1 key (j9 .i64 (at_ + t.1)) s x) (fun s i => ((key, at_, til, (), s, l, ((ja l : Nat) : Int), i, ()), (t, ())))
  (fun s => .inl ((at_, til, (), ()), (t, ()))) (fun r => .inr ((r.1, r.2, ()), ())) (fun _ _ => True) (by
   intro k hk s _
   refine ⟨?_, fun _ _ => trivial⟩
   simp only [Hs]
   rw [Aa (show (k : Int) < ((ja l : Nat) : Int) by omega), Ub hk]
   simp only [zz, jb]
   rw [QF]
   unfold IT
   cases he : Fg l[k] with
   | false => rfl
   | true =>
    have hk' := Zl he
    rw [Aa hk'.2.2.1, Tl s hk'.2.2.1]
    simp only [zz, jb, jg, ua]
    cases decide (l[k].1 ≥ j9 .i64 (at_ + t.1)) <;> cases l[k].2.1 == key <;> cases l[k].2.2.1 <;> cases t.2.2.1 == 1 <;> cases t.2.2.1 == 2 <;> cases Wd s l[k].2.1 == 1 <;> rfl) (by
   intro s _
   simp only [Hs]
   rw [Ba (by omega)]; rfl) (by omega) 0 trivial
 unfold Gw Uu Xg
 rw [NJ]
 simp only [jb]
 cases Kf t with
 | false => rfl
 | true =>
  by_cases h1 : at_ < 0
  ·rw [Aa h1, Ba (show ¬ (0 ≤ at_ ∧ at_ ≤ 1000000) by omega)]; rfl
  ·by_cases h2 : at_ > 1000000
   ·rw [Ba h1, Aa h2, Ba (show ¬ (0 ≤ at_ ∧ at_ ≤ 1000000) by omega)]; rfl
   ·rw [Ba h1, Ba h2, Aa (show (0 ≤ at_ ∧ at_ ≤ 1000000) by omega)]
    simp only [jg, ua]
    erw [hl]
    unfold chR
    cases Wa (fun _ s x => IT t.2.2.1 key (j9 .i64 (at_ + t.1)) s x) 0 0 l with
    | inl s =>
     simp only [jb, qm]
     cases decide (til ≥ j9 .i64 (at_ + t.1)) <;> rfl
    | inr r => rfl
def Oo (l : List Va) (j : Nat) : Bool := l.any (fun h => h.1 == (j : Int))
structure Bn (l : List Va) (m : Nat) : Prop where
 lt : m < 2 ^ 63
 bit : ∀ j, m.testBit j = Oo l j
theorem Jag : ∀ (l : List Va) (k : Nat) (s : Nat), s < 2 ^ 63 → (∀ x ∈ l, Xv x) →
 ∃ m : Nat, Bd (fun _ s (x : Va) => Lc .i64 s (Ma .i64 1 x.1)) k (s : Int) l = (m : Int) ∧ m < 2 ^ 63 ∧ ∀ j, m.testBit j = (s.testBit j || Oo l j)
 | [], _, s, hs, _ => ⟨s, rfl, hs, fun j => by simp [Oo]⟩
 | x :: l, k, s, hs, h => by
  have hx := h x (by simp)
  obtain ⟨n, hn⟩ := jv hx.lo
  have := hx.hi
  simp only [Bd]
  rw [hn, Ve (by omega), Fi hs (Ye (by omega))]
  obtain ⟨m, h1, h2, h3⟩ := Jag l (k + 1) _ (zn hs (Ye (show n ≤ 62 by omega))) (fun y hy => h y (by simp [hy]))
  refine ⟨m, h1, h2, fun j => ?_⟩
  rw [h3, zq, qq]
  simp only [Oo, List.any_cons, hn]
  rw [show (((n : Nat) : Int) == ((j : Nat) : Int)) = decide (n = j) by rw [qx]; simp [Int.ofNat_inj]]
  rw [Bool.or_assoc]
theorem FW {l : List Va} (h : Dg l = true) : ∃ m : Nat, Kp l = (m : Int) ∧ Bn l m := by
 obtain ⟨m, h1, h2, h3⟩ := Jag l 0 0 (by decide) (Iu h)
 exact ⟨m, h1, h2, fun j => by rw [h3]; simp⟩
theorem TR {l : List Va} {m k : Nat} (h : Bn l m) (hk : k ≤ 62) (hb : Oo l k = false) (a : Pa) : Bn (jf l [((k : Int), a, ())]) (m ^^^ 2 ^ k) := by
 refine ⟨qs h.lt (Ye hk), fun j => ?_⟩
 rw [qp, qq, h.bit]
 show _ = Oo (l ++ [((k : Int), a, ())]) j
 simp only [Oo, List.any_append, List.any_cons, List.any_nil, Bool.or_false]
 rw [show (((k : Nat) : Int) == ((j : Nat) : Int)) = decide (k = j) by rw [qx]; simp [Int.ofNat_inj]]
 by_cases hj : k = j
 ·subst hj
  simp only [Oo] at hb
  rw [hb, Aa rfl]; rfl
 ·rw [Ba hj]; simp
theorem IaI {l : List Va} (hp : l.Pairwise (fun x y => x.1 ≠ y.1)) {i : Nat} (hi : i < l.length) (j : Int) : (wo l i).any (fun h => h.1 == j) = (l.any (fun h => h.1 == j) && !(l[i].1 == j)) := by
 rw [qx]
 simp only [yf, jd, yx, beq_iff_eq, beq_eq_false_iff_ne, wo]
 rw [List.pairwise_iff_getElem] at hp
 constructor
 ·rintro ⟨x, hx, hj⟩
  rcases jl.1 (show x ∈ l.take i ++ l.drop (i + 1) from hx) with hx | hx
  ·obtain ⟨n, hn, rfl⟩ := qu hx
   rw [List.getElem_take] at hj
   have hn2 : n < i ∧ n < l.length := by rw [List.length_take] at hn; omega
   exact ⟨⟨_, qt hn2.2, hj⟩, fun h => hp n i hn2.2 hi hn2.1 (hj.trans h.symm)⟩
  ·obtain ⟨n, hn, rfl⟩ := qu hx
   rw [List.getElem_drop] at hj
   have hn2 : i + 1 + n < l.length := by rw [qw] at hn; omega
   exact ⟨⟨_, qt hn2, hj⟩, fun h => hp i (i + 1 + n) hi hn2 (by omega) (h.trans hj.symm)⟩
 ·rintro ⟨⟨x, hx, hj⟩, hne⟩
  obtain ⟨n, hn, rfl⟩ := qu hx
  refine ⟨l[n], jl.2 ?_, hj⟩
  rcases Nat.lt_trichotomy n i with h | h | h
  ·exact .inl (List.mem_take_iff_getElem.2 ⟨n, by omega, rfl⟩)
  ·subst h; exact absurd hj hne
  ·exact .inr (List.mem_drop_iff_getElem.2 ⟨n - (i + 1), by omega, by congr 1; omega⟩)
theorem OL {l : List Va} (hp : l.Pairwise (fun x y => x.1 ≠ y.1)) {m k i : Nat} (h : Bn l m) (hk : k ≤ 62) (hi : i < l.length) (hb : l[i].1 = (k : Int)) : Bn (wo l i) (m ^^^ 2 ^ k) := by
 refine ⟨qs h.lt (Ye hk), fun j => ?_⟩
 rw [qp, qq, h.bit]
 simp only [Oo]
 rw [IaI hp hi, hb]
 rw [show (((k : Nat) : Int) == ((j : Nat) : Int)) = decide (k = j) by rw [qx]; simp [Int.ofNat_inj]]
 by_cases hj : k = j
 ·subst hj
  rw [Aa rfl]
  have : l.any (fun h => h.1 == (k : Int)) = true := yf.2 ⟨l[i], qt hi, by rw [hb]; simp⟩
  rw [this]; rfl
 ·rw [Ba hj]; simp
theorem Rl {α S R : Type} (g : S → α → S ⊕ R) : ∀ (l : List α) (k j : Nat) (s : S), Wa (fun _ s x => g s x) k s l = Wa (fun _ s x => g s x) j s l
 | [], _, _, _ => rfl
 | x :: l, k, j, s => by
  simp only [Wa]
  cases g s x with
  | inl s' => exact Rl g l (k + 1) (j + 1) s'
  | inr r => rfl
structure EQ (d : Eb) : Prop where
 eng : Dq d.1
 len : d.2.2.1.length ≤ 64
 key : ∀ x ∈ d.2.2.1, x.2.1 < d.1.1.1
 fol : ∃ (m : Nat) (t : Int), Bn d.1.2.2.2.1 m ∧ Rk (Wa (fun _ s x => Er s x) 0 (t, (m : Int)) d.2.2.1) = true
def E6 (e : Jb) (k : Int) : Nat := (Ed (fun h : Va => h.1 == k) 0 e.2.2.2.1).toNat
noncomputable def Xj (d : Eb) (x : Ca) (r : List Ca) : Option (Eb × List Ra) :=
 cond (!x.2.2.1)
  (some ((rE d.1 (E6 d.1 x.2.1), d.2.1, r, d.2.2.2.1, max d.2.2.2.2.1 x.1, d.2.2.2.2.2.1, cond (d.2.2.2.2.2.1 == j9 .i64 (x.2.1 + 1)) x.1 d.2.2.2.2.2.2.1, ()), rR d.1 (E6 d.1 x.2.1)))
  (cond (Jg (Pl d.1.1.2.1 (Vj d.1.1 (Ho d.1.2.2.1 d.1.2.2.2.1) x.2.1.toNat) x.2.1.toNat))
   (
    let ch : Int × Int := cond ((d.2.2.2.2.2.1 == j9 .i64 (x.2.1 + 1)) && !decide (j9 .i64 (x.1 - d.2.2.2.2.2.2.1) ≥ d.2.1.2.1)) (1, x.1) ((Xg d.2.1 x.2.1 x.1 r d.2.2.2.1).1, (Xg d.2.1 x.2.1 x.1 r d.2.2.2.1).2.1)
    cond (ch.1 == 0) none
     (some ((pE d.1 x.2.1.toNat (ch.1 == 2), d.2.1, r, d.2.2.2.1, max (max d.2.2.2.2.1 x.1) ch.2, cond (ch.1 == 2) 0 (j9 .i64 (x.2.1 + 1)), cond (ch.1 == 2) d.2.2.2.2.2.2.1 x.1, ()), pR d.1 x.2.1.toNat (ch.1 == 2))))
   (some ((pE d.1 x.2.1.toNat false, d.2.1, r, d.2.2.2.1, max d.2.2.2.2.1 x.1, d.2.2.2.2.2.1, d.2.2.2.2.2.2.1, ()), pR d.1 x.2.1.toNat false)))
structure Kay (d : Eb) (x : Ca) (r : List Ca) : Prop where
 ev : Fg x = true
 key : x.2.1 < d.1.1.1
 up : x.2.2.1 = false → ∃ hi : E6 d.1 x.2.1 < d.1.2.2.2.1.length, Ed (fun h : Va => h.1 == x.2.1) 0 d.1.2.2.2.1 = ((E6 d.1 x.2.1 : Nat) : Int) ∧ (d.1.2.2.2.1[E6 d.1 x.2.1]'hi).1 = x.2.1
 down : x.2.2.1 = true → ∀ y ∈ d.1.2.2.2.1, y.1 ≠ x.2.1
theorem TT {α : Type} (p : α → Bool) : ∀ (xs : List α) (k j : Nat), j < xs.length → Ed p k xs = ((k + j : Nat) : Int) → ∃ h : j < xs.length, p xs[j] = true
 | [], _, _, hj, _ => absurd hj (by simp)
 | x :: xs, k, j, hj, h => by
  simp only [Ed] at h
  cases hx : p x with
  | true =>
   rw [hx] at h
   simp only [zz] at h
   have : j = 0 := by omega
   subst this
   exact ⟨hj, hx⟩
  | false =>
   rw [hx] at h
   simp only [ua] at h
   cases j with
   | zero =>
    rcases Nz p xs (k + 1) with h1 | ⟨i, _, h1⟩ <;> (rw [h1] at h; omega)
   | succ j =>
    have hj' : j < xs.length := by simp at hj; omega
    obtain ⟨_, h2⟩ := TT p xs (k + 1) j hj' (by rw [h]; omega)
    exact ⟨hj, h2⟩
theorem ZQ {d : Eb} {x : Ca} {r : List Ca} (h : EQ d) (hq : d.2.2.1 = x :: r) : Kay d x r := by
 obtain ⟨m, t, hm, hf⟩ := h.fol
 rw [hq] at hf
 simp only [Wa, Er] at hf
 cases ho : Jj (t, (m : Int)) x with
 | false => rw [ho] at hf; exact absurd hf (by simp [Rk])
 | true =>
  simp only [Jj, jd] at ho
  obtain ⟨h1, h2, h3⟩ := ho
  have hk := Zl h1
  obtain ⟨n, hn⟩ := jv hk.2.2.1
  have hn' : x.2.1 = (n : Int) := hn
  rw [hn', Qj hm.lt (by omega), hm.bit] at h3
  refine ⟨h1, h.key x (by rw [hq]; simp), fun hu => ?_, fun hd => ?_⟩
  ·rw [hu] at h3
   have h4 : Oo d.1.2.2.2.1 n = true := by
    cases hh : Oo d.1.2.2.2.1 n with
    | true => rfl
    | false => rw [hh] at h3; exact absurd h3 (by decide)
   rcases Nz (fun h : Va => h.1 == x.2.1) d.1.2.2.2.1 0 with h5 | ⟨j, hj, h5⟩
   ·rw [Eak] at h5
    simp only [Oo, yf, beq_iff_eq] at h4
    obtain ⟨y, hy, hyk⟩ := h4
    exact absurd (hyk.trans hn'.symm) (h5 y hy)
   ·have e : E6 d.1 x.2.1 = j := by unfold E6; rw [h5]; omega
    obtain ⟨h6, h7⟩ := TT _ _ _ _ hj h5
    have h7' := eq_of_beq h7
    refine ⟨by omega, by rw [h5, e]; omega, ?_⟩
    simp only [e]
    exact h7'
  ·rw [hd] at h3
   intro y hy he
   have : Oo d.1.2.2.2.1 n = true := yf.2 ⟨y, hy, by rw [he, hn']; simp⟩
   rw [this] at h3
   exact absurd h3 (by decide)
theorem T4 {d d' : Eb} {x : Ca} {r : List Ca} {l : List Ra} (h : EQ d) (hq : d.2.2.1 = x :: r) (hs : Xj d x r = some (d', l)) :
 EQ d' ∧ d'.2.2.1 = r ∧ l.length ≤ 17 ∧ (∀ y ∈ l, y.2.1.length ≤ 56) := by
 have hF := ZQ h hq
 have hk := Zl hF.ev
 obtain ⟨n, hn⟩ := jv hk.2.2.1
 have hn' : x.2.1 = (n : Int) := hn
 obtain ⟨m, t, hm, hf⟩ := h.fol
 have hfol : Rk (Wa (fun _ s x => Er s x) 0 (x.1, ((m ^^^ 2 ^ n : Nat) : Int)) r) = true := by
  rw [hq] at hf
  simp only [Wa, Er] at hf
  cases ho : Jj (t, (m : Int)) x with
  | false => rw [ho] at hf; exact absurd hf (by simp [Rk])
  | true =>
   rw [ho] at hf
   simp only [zz, hn', Ve (show n ≤ 62 by omega)] at hf
   rw [Vm hm.lt (Ye (by omega))] at hf
   rw [Rl Er r 0 1]
   exact hf
 have hlen : r.length ≤ 64 := by have := h.len; rw [hq] at this; simp at this; omega
 have hkey : ∀ y ∈ r, y.2.1 < d.1.1.1 := fun y hy => h.key y (by rw [hq]; simp [hy])
 have hp := ((CE d.1.2.2.2.1).1 h.eng.hd).2
 have press : ∀ b : Bool, x.2.2.1 = true → Dq (pE d.1 n b) ∧ Bn (pE d.1 n b).2.2.2.1 (m ^^^ 2 ^ n) ∧ (pR d.1 n b).length ≤ 17 ∧ (∀ y ∈ pR d.1 n b, y.2.1.length ≤ 56) := by
  intro b hd
  have hn2 := hF.down hd
  rw [hn'] at hn2
  have F := Rag h.eng (k := n) (by have := hF.key; omega) hn2 b
  refine ⟨F.ok, TR hm (by omega) ?_ _, ?_, fun y hy => ?_⟩
  ·cases hh : Oo d.1.2.2.2.1 n with
   | false => rfl
   | true =>
    simp only [Oo, yf, beq_iff_eq] at hh
    obtain ⟨y, hy, hyk⟩ := hh
    exact absurd hyk (hn2 y hy)
  ·have := BY (jf (pM d.1 n b) [Ue (pH d.1 n b)]) (Ue d.1.2.2.2.1)
   have h9 := F.ml
   unfold pR
   have : (jf (pM d.1 n b) [Ue (pH d.1 n b)]).length = (pM d.1 n b).length + 1 := by simp
   omega
  ·have := WQ _ _ _ hy
   rcases jl.1 (show y ∈ pM d.1 n b ++ [Ue (pH d.1 n b)] from this) with h1 | h1
   ·exact F.mx y h1
   ·rw [qg.1 h1]; exact DK _
 unfold Xj at hs
 cases hd : x.2.2.1 with
 | false =>
  rw [hd] at hs
  simp only [qc, zz, jc, jh] at hs
  obtain ⟨rfl, rfl⟩ := hs
  obtain ⟨hi, hi1, hi2⟩ := hF.up hd
  refine ⟨⟨LaM h.eng _, hlen, hkey, _, _, OL hp hm (by omega) hi (by rw [hi2, hn']), hfol⟩, rfl, ?_, fun y hy => ?_⟩
  ·have := BY [Ue (wo d.1.2.2.2.1 (E6 d.1 x.2.1))] (Ue d.1.2.2.2.1)
   unfold rR
   simp only [jw, qb] at this
   omega
  ·have := WQ _ _ _ hy
   rw [qg.1 this]; exact DK _
 | true =>
  rw [hd] at hs
  simp only [jg, ua, hn', jn] at hs
  cases ht : Jg (Pl d.1.1.2.1 (Vj d.1.1 (Ho d.1.2.2.1 d.1.2.2.2.1) n) n) with
  | false =>
   rw [ht] at hs
   simp only [ua, jc, jh] at hs
   obtain ⟨rfl, rfl⟩ := hs
   have P := press false hd
   exact ⟨⟨P.1, hlen, hkey, _, _, P.2.1, hfol⟩, rfl, P.2.2⟩
  | true =>
   rw [ht] at hs
   simp only [zz] at hs
   revert hs
   generalize (cond ((d.2.2.2.2.2.1 == j9 .i64 ((n : Int) + 1)) && !decide (j9 .i64 (x.1 - d.2.2.2.2.2.2.1) ≥ d.2.1.2.1)) ((1 : Int), x.1) ((Xg d.2.1 (n : Int) x.1 r d.2.2.2.1).1, (Xg d.2.1 (n : Int) x.1 r d.2.2.2.1).2.1)) = ch
   intro hs
   cases h0 : ch.1 == 0 with
   | true => rw [h0] at hs; simp at hs
   | false =>
    rw [h0] at hs
    simp only [ua, jc, jh] at hs
    obtain ⟨rfl, rfl⟩ := hs
    have P := press (ch.1 == 2) hd
    exact ⟨⟨P.1, hlen, hkey, _, _, P.2.1, hfol⟩, rfl, P.2.2⟩
theorem MY {m : Db} (hz : Jc Oc m ≤ Ga) (hv : Ce m = true) (on : Int) {k : Nat} (hk : (k : Int) < m.1) :
 GD m on (k : Int) = some (Pl m.2.1 (Vj m on k) k, ()) := by
 have hm := Uj hv
 have hl := IU hm on k
 have hrow := hm.row _ hl
 unfold GD HL
 rw [GL _ hz, hv, Ba (show ¬ (k : Int) < 0 by omega), Ba (show ¬ (k : Int) ≥ m.1 by omega), BN hm _ hk]
 simp only [jb, jg, ua]
 rw [Ba (by omega)]
 simp only [ua]
 show (jz (Wb m.2.1 ((Vj m on k : Nat) : Int)) _) = _
 rw [Qat hl (by omega)]
theorem Taj (t : Dt) (key at_ : Int) (l : List Ca) (til : Int) : (Xg t key at_ l til).1 = 0 ∨ (Xg t key at_ l til).1 = 1 ∨ (Xg t key at_ l til).1 = 2 := by
 have key2 : ∀ (md k' e : Int) (l : List Ca) (k : Nat) (s : Int) (r : Int × Int), Wa (fun _ s x => IT md k' e s x) k s l = .inr r → r.1 = 0 ∨ r.1 = 1 ∨ r.1 = 2 := by
  intro md k' e l
  induction l with
  | nil => intro k s r h; simp [Wa] at h
  | cons x l ih =>
   intro k s r h
   simp only [Wa] at h
   revert h
   cases hg : IT md k' e s x with
   | inl s' => intro h; exact ih _ _ _ h
   | inr r' =>
    intro h
    simp only [zl] at h
    subst h
    unfold IT at hg
    revert hg
    cases Fg x <;> cases decide (x.1 ≥ e) <;> cases x.2.1 == k' <;> cases x.2.2.1 <;> cases md == 1 <;> cases md == 2 <;> cases Wd s x.2.1 == 1 <;> (intro hg; cases hg) <;> simp
 unfold Xg
 cases Kf t && decide (0 ≤ at_ ∧ at_ ≤ 1000000) with
 | false => exact .inl rfl
 | true =>
  simp only [zz]
  cases h : chR t.2.2.1 key (j9 .i64 (at_ + t.1)) l with
  | inl s => cases decide (til ≥ j9 .i64 (at_ + t.1)) <;> simp
  | inr r => exact key2 _ _ _ _ _ _ _ h
theorem Baa {α : Type} (x : α) (r : List α) (hr : r.length ≤ 64) : We (ja (x :: r)) (1 : Int) ((ja (x :: r) : Nat) : Int) = true ∧ Lb (x :: r) (jy (1 : Int)) (jy ((ja (x :: r) : Nat) : Int)) = r := by
 refine ⟨Iq (lo := 1) (by simp) (by simp), ?_⟩
 show yo 1 (List.take _ (x :: r)) = r
 rw [jn, List.take_length]; rfl
def TaB (d : Eb) : Option (Eb × List Ra) → Eb × ((List Ra) × (Bool × Unit))
 | none => (d, ([], false, ()))
 | some (d', l) => (d', (l, true, ()))
theorem X1 {d : Eb} {x : Ca} {r : List Ca} (h : EQ d) (hq : d.2.2.1 = x :: r) : Vi d = some (TaB d (Xj d x r)) := by
 have h20 : Ga = 1048576 := rfl
 have hF := ZQ h hq
 have hk := Zl hF.ev
 have hlen : r.length ≤ 64 := by have := h.len; rw [hq] at this; simp at this; omega
 have hz := XV h.eng
 have hzm := (Rap h.eng.km).z
 have hle := DB h.eng.hd
 obtain ⟨n, hn⟩ := jv hk.2.2.1
 have hn' : x.2.1 = (n : Int) := hn
 obtain ⟨e, t, q, now, clk, tp, ta, u⟩ := d
 obtain ⟨xt, xk, xd, xu⟩ := x
 cases u
 simp only at hq hn' hF hz hzm hle hk
 subst hq
 subst hn'
 have hc := Baa ((xt, (n : Int), xd, xu) : Ca) r hlen
 have hb : jx (ja ([] : List Ca) + ja r) Xa = true := ji (by simp; rw [Tf]; omega)
 have i0 : Ci (ja (((xt, (n : Int), xd, xu) : Ca) :: r)) (0 : Int) = true := by rw [show (0 : Int) = ((0 : Nat) : Int) from rfl, Mm]; exact Aa (by simp)
 have g0 : (((xt, (n : Int), xd, xu) : Ca) :: r)[(jy (0 : Int))]? = some (xt, (n : Int), xd, xu) := rfl
 unfold Vi
 simp only [i0, g0, hc.1, hc.2, hb, zz, jb]
 unfold Xj
 cases xd with
 | false =>
  obtain ⟨hi, hi1, hi2⟩ := hF.up rfl
  rw [RY h.eng hi hi1]
  simp only [qc, zz, jb]
  cases tp == j9 .i64 ((n : Int) + 1) <;> rfl
 | true =>
  have hd := hF.down rfl
  have hkey := hF.key
  have hp := fun b => L4 h.eng (k := n) hkey hd b
  simp only at hp hkey hd
  have hly := CP (OaF (Uj h.eng.km).l2 h.eng.st) _ (show e.2.2.2.1.length ≤ Ga by omega) h.eng.hd
  simp only at hly
  rw [hly]
  have hch := NY t (n : Int) xt r now (by omega)
  have hac := MY (m := e.1) (by omega) h.eng.km (Ho e.2.2.1 e.2.2.2.1) hkey
  simp only [jb, jg, ua, jn, hac, ZB, hch, hp]
  cases Jg (Pl e.1.2.1 (Vj e.1 (Ho e.2.2.1 e.2.2.2.1) n) n) with
  | false => rfl
  | true =>
   simp only [zz]
   have hv := Taj t (n : Int) xt r now
   have hne : (tp != j9 .i64 ((n : Int) + 1)) = !(tp == j9 .i64 ((n : Int) + 1)) := rfl
   rw [hne]
   cases tp == j9 .i64 ((n : Int) + 1) with
   | false =>
    simp only [qc, zz, qr, ua]
    rcases hv with hv | hv | hv <;> (rw [hv]; rfl)
   | true =>
    simp only [jg, ua, jk]
    cases decide (j9 .i64 (xt - ta) ≥ t.2.1) with
    | true =>
     simp only [jg, zz, ua]
     rcases hv with hv | hv | hv <;> (rw [hv]; rfl)
    | false => rfl
theorem Gad {X R : Type} {step : X → Option (X ⊕ R)} {α S : Type} (xs : List α) (g : S → α → S) (I : S → Nat → X) (out : S → R) (Oi : Nat → S → Prop)
 (h : ∀ k (hk : k < xs.length) s, Oi k s → step (I s k) = some (.inl (I (g s xs[k]) (k + 1))) ∧ Oi (k + 1) (g s xs[k]))
 (he : ∀ s, Oi xs.length s → step (I s xs.length) = some (.inr (out s))) (s0 : S) (h0 : Oi 0 s0) :
 Ib step (I s0 0) = some (out (xs.foldl g s0)) ∧ Oi xs.length (xs.foldl g s0) := by
 have key : ∀ (ys : List α) (k : Nat) (s : S), xs.drop k = ys → k ≤ xs.length → Oi k s → Ib step (I s k) = some (out (ys.foldl g s)) ∧ Oi xs.length (ys.foldl g s) := by
  intro ys
  induction ys with
  | nil =>
   intro k s hd hle hi
   have := AL hd hle
   subst this
   rw [Mf (he s hi)]
   exact ⟨rfl, hi⟩
  | cons y ys ih =>
   intro k s hd hle hi
   obtain ⟨hk, hy, hd'⟩ := Lz hd
   obtain ⟨h1, h2⟩ := h k hk s hi
   rw [Mf h1, hy]
   rw [hy] at h2
   exact ih (k + 1) _ hd' hk h2
 exact key xs 0 s0 rfl (zj _) h0
def Lp (s : List Sd) (w : Int) (l : List Ra) : List Sd := jf s (l.map fun r => ((w, r, ()) : Sd))
theorem A6 (w : Int) : ∀ (l : List Ra) (s : List Sd), l.foldl (fun s r => jf s [((w, r, ()) : Sd)]) s = Lp s w l
 | [], s => by simp [Lp]
 | x :: l, s => by
  rw [List.foldl_cons, A6 w l]
  simp [Lp]
theorem S6 (s : List Sd) (w : Int) (l : List Ra) : (Lp s w l).length = s.length + l.length := by simp [Lp]
theorem Cab (s : List Sd) (w : Int) (l : List Ra) (hl : l.length ≤ 1000) (hs : s.length ≤ 1000000) : SI s w l = some (Lp s w l, ()) := by
 have h := (Gad (step := fun x => LD x.1.1 x.1.2.1 x.1.2.2.1 x.1.2.2.2.1 x.1.2.2.2.2.1) l (fun s r => jf s [((w, r, ()) : Sd)])
  (fun o k => ((o, w, (l, (k : Int)), ((ja l : Nat) : Int), (k : Int), ()), ())) (fun o => .inl ((o, ()), ())) (fun k o => o.length = s.length + k) (by
   intro k hk o ho
   refine ⟨?_, by simp [ho]; omega⟩
   simp only [LD]
   rw [Aa (by omega), Mm, Aa hk, jn, je hk]
   simp only [zz, jb, Nat.beq_refl]
   rw [show jx (ja o + ja ([(w, l[k], ())] : List Sd)) Xa = true from ji (by simp only [jw, qb]; rw [Tf]; omega)]
   rw [Ag (by omega)]
   rfl) (by
   intro o ho
   simp only [LD]
   rw [Ba (by omega)]; rfl) s rfl).1
 unfold SI IE
 erw [h]
 rw [A6]
 rfl
noncomputable def Fd : Nat → Eb → List Sd → Eb × List Sd
 | 0, d, s => (d, s)
 | n + 1, d, s => match d.2.2.1 with
  | [] => (d, s)
  | x :: r => match Xj d x r with
   | none => (d, s)
   | some (d', l) => Fd n d' (Lp s d'.2.2.2.2.1 l)
theorem PL {d d' : Eb} {x : Ca} {r : List Ca} {l : List Ra} (hs : Xj d x r = some (d', l)) :
 d' = (d'.1, d.2.1, r, d.2.2.2.1, d'.2.2.2.2.1, d'.2.2.2.2.2.1, d'.2.2.2.2.2.2.1, ()) := by
 unfold Xj at hs
 revert hs
 generalize (cond ((d.2.2.2.2.2.1 == j9 .i64 (x.2.1 + 1)) && !decide (j9 .i64 (x.1 - d.2.2.2.2.2.2.1) ≥ d.2.1.2.1)) ((1 : Int), x.1) ((Xg d.2.1 x.2.1 x.1 r d.2.2.2.1).1, (Xg d.2.1 x.2.1 x.1 r d.2.2.2.1).2.1)) = ch
 generalize Jg _ = b1
 cases x.2.2.1 <;> cases b1 <;> cases h0 : ch.1 == 0 <;>
  simp only [jg, qc, zz, ua, jc, jh, reduceCtorEq, false_implies, h0, and_imp] <;> (intro h1 _; subst h1; rfl)
theorem FX (z : Eb) : ∀ (n : Nat) (d : Eb) (s : List Sd), EQ d → d.2.2.1.length ≤ n → s.length + 17 * n ≤ 100000 →
 Ug (((), (), s, ()), (z, d, ())) = some (.inl (((), (), (Fd n d s).2, ()), (z, (Fd n d s).1, ())))
 | n, d, s, h, hl, hs => by
  unfold Ug
  cases hq : d.2.2.1 with
  | nil =>
   have e1 : Fd n d s = (d, s) := by
    cases n with
    | zero => rfl
    | succ n => simp only [Fd, hq]
   have hstep : Zh () () s z d = some (.inr (.inl (((), (), s, ()), (z, d, ())))) := by
    unfold Zh
    rw [hq, Ba (by simp)]; rfl
   erw [Mf hstep]
   rw [e1]; rfl
  | cons x r =>
   have hlen : d.2.2.1.length = r.length + 1 := by rw [hq]; rfl
   cases n with
   | zero => omega
   | succ n =>
    have e1 : Fd (n + 1) d s = match Xj d x r with
     | none => (d, s)
     | some (d', l) => Fd n d' (Lp s d'.2.2.2.2.1 l) := by simp only [Fd, hq]
    rw [e1]
    have hp := X1 h hq
    cases hst : Xj d x r with
    | none =>
     have hstep : Zh () () s z d = some (.inr (.inl (((), (), s, ()), (z, d, ())))) := by
      unfold Zh
      rw [Aa (by rw [hlen]; omega)]
      show (jz (Vi d) _) = _
      rw [hp, hst]; rfl
     erw [Mf hstep]; rfl
    | some p =>
     obtain ⟨d', l⟩ := p
     have hn := T4 h hq hst
     have hstep : Zh () () s z d = some (.inl (((), (), Lp s d'.2.2.2.2.1 l, ()), (z, d', ()))) := by
      unfold Zh
      rw [Aa (by rw [hlen]; omega)]
      show (jz (Vi d) _) = _
      rw [hp, hst]
      show jz (SI s d'.2.2.2.2.1 l) _ = _
      rw [Cab _ _ _ (by have := hn.2.2.1; omega) (by omega)]
      rfl
     erw [Mf hstep]
     have ih := FX z n d' (Lp s d'.2.2.2.2.1 l) hn.1 (by rw [hn.2.1]; omega) (by rw [S6]; have := hn.2.2.1; omega)
     unfold Ug at ih
     exact ih
def GM : Eb := ((((0 : Int), ([] : List (List Pa)), ()), ([] : List (List Cc)), (0 : Int), ([] : List Va), (0 : Int), false, ()), ((0 : Int), (0 : Int), (0 : Int), ()), ([] : List Ca), (0 : Int), (0 : Int), (0 : Int), (0 : Int), ())
def Gak (l : List Ca) : Int := (l.headD (0, 0, false, ())).1
def Bj (l : List Ca) (t : Int) : Bool := ((l.length : Int) == 0) || !decide (Gak l < t)
noncomputable def Yw (d : Eb) (l : List Ca) (til : Int) : Bool :=
 Xd d && (decide (d.2.2.2.1 ≤ til ∧ til ≤ 1000000) && (Bj l d.2.2.2.1 && (Th l til && Rc (jf d.2.2.1 l) (Kp d.1.2.2.2.1) d.1.1.1)))
def Si (d : Eb) (l : List Ca) (til : Int) : Eb := (d.1, d.2.1, jf d.2.2.1 l, til, d.2.2.2.2)
noncomputable def CK (d : Eb) (l : List Ca) (til : Int) : Eb × ((List Sd) × (Bool × Unit)) :=
 cond (Yw d l til) ((Fd (Si d l til).2.2.1.length (Si d l til) []).1, (Fd (Si d l til).2.2.1.length (Si d l til) []).2, true, ()) (GM, [], false, ())
theorem AR {q : List Ca} {d k : Int} (h : Rc q d k = true) : q.length ≤ 64 := by
 simp only [Rc, jd, TE] at h
 by_cases h1 : q.length ≤ 64
 ·exact h1
 ·rw [Ba h1] at h; simp at h
theorem V3 {d : Eb} {l : List Ca} {til : Int} (hd : Xd d = true) (hf : Rc (jf d.2.2.1 l) (Kp d.1.2.2.2.1) d.1.1.1 = true) : EQ (Si d l til) := by
 have he : Dq d.1 := by
  rw [← TO]
  simp only [Xd, jd] at hd
  exact hd.1
 obtain ⟨m, hm, hm2⟩ := FW he.hd
 refine ⟨he, AR hf, ?_, m, 0, hm2, ?_⟩
 ·have h1 := hf
  simp only [Rc, jd, JP] at h1
  have h2 := h1.1
  intro x hx
  have h3 := (Dl (p := fun x : Ca => !decide (x.2.1 ≥ d.1.1.1))).1 h2 x hx
  simp only [yx, decide_eq_false_iff_not] at h3
  show x.2.1 < d.1.1.1
  omega
 ·have := JY hf
  rw [hm] at this
  exact this
theorem Yaa {l : List Ca} (h : 0 < l.length) : ∃ x, Wb l (0 : Int) = some x ∧ x.1 = Gak l := by
 cases l with
 | nil => simp at h
 | cons x l => exact ⟨x, rfl, rfl⟩
theorem CU (d : Eb) (l : List Ca) (til : Int) (hz : Jc Ge d ≤ Ga) (hl : l.length ≤ 1000000) : Gy d l til = some (CK d l til) := by
 have h20 : Ga = 1048576 := rfl
 have hz' := hz
 rw [Bw, An] at hz'
 have hz2 := hz'
 rw [Cn, Qm] at hz2
 have hlapp : (jf d.2.2.1 l).length = d.2.2.1.length + l.length := by simp
 have hlim : jx (ja d.2.2.1 + ja l) Xa = true := ji (by rw [Tf]; omega)
 unfold Gy CK
 rw [Ks _ hz, Ts _ _ (by omega), JG _ hz]
 cases hd : Xd d with
 | false => rw [show Yw d l til = false by unfold Yw; rw [hd]; rfl]; rfl
 | true =>
  have hh : ∀ x ∈ d.1.2.2.2.1, Xv x := by
   have : Tj d.1 = true := by simp only [Xd, jd] at hd; exact hd.1
   exact Iu (OC this)
  have h64 : d.2.2.1.length ≤ 64 := by
   simp only [Xd, jd] at hd
   exact AR hd.2.2.2.2.1
  rw [GE _ (by omega) hh]
  simp only [jb, jg, ua, hlim, zz]
  rw [Us _ _ _ (by rw [hlapp]; omega)]
  simp only [jb]
  have key : ∀ (K : Option (Eb × ((List Sd) × (Bool × Unit)))), (Rc (jf d.2.2.1 l) (Kp d.1.2.2.2.1) d.1.1.1 = true → K = some ((Fd (Si d l til).2.2.1.length (Si d l til) []).1, (Fd (Si d l til).2.2.1.length (Si d l til) []).2, true, ())) →
   (cond (decide (til < d.2.2.2.1)) (some (GM, [], false, ())) (cond (decide (til > 1000000)) (some (GM, [], false, ())) (cond (!Bj l d.2.2.2.1) (some (GM, [], false, ())) (cond (!Th l til) (some (GM, [], false, ())) (cond (!Rc (jf d.2.2.1 l) (Kp d.1.2.2.2.1) d.1.1.1) (some (GM, [], false, ())) K))))) =
   some (cond (Yw d l til) ((Fd (Si d l til).2.2.1.length (Si d l til) []).1, (Fd (Si d l til).2.2.1.length (Si d l til) []).2, true, ()) (GM, [], false, ())) := by
   intro K hK
   unfold Yw
   rw [hd]
   by_cases h1 : til < d.2.2.2.1
   ·rw [Aa h1, Ba (show ¬ (d.2.2.2.1 ≤ til ∧ til ≤ 1000000) by omega)]; rfl
   ·by_cases h2 : til > 1000000
    ·rw [Ba h1, Aa h2, Ba (show ¬ (d.2.2.2.1 ≤ til ∧ til ≤ 1000000) by omega)]; rfl
    ·rw [Ba h1, Ba h2, Aa (show (d.2.2.2.1 ≤ til ∧ til ≤ 1000000) by omega)]
     cases Bj l d.2.2.2.1 with
     | false => rfl
     | true =>
      cases Th l til with
      | false => rfl
      | true =>
       cases hq : Rc (jf d.2.2.1 l) (Kp d.1.2.2.2.1) d.1.1.1 with
       | false => rfl
       | true => exact hK hq
  have hrun : Rc (jf d.2.2.1 l) (Kp d.1.2.2.2.1) d.1.1.1 = true → ∀ z : Eb, Ug (((), (), ([] : List Sd), ()), (z, (d.1, d.2.1, jf d.2.2.1 l, til, d.2.2.2.2), ())) = some (.inl (((), (), (Fd (Si d l til).2.2.1.length (Si d l til) []).2, ()), (z, (Fd (Si d l til).2.2.1.length (Si d l til) []).1, ()))) := by
   intro hq z
   have h1 := V3 (til := til) hd hq
   have := h1.len
   exact FX z _ (Si d l til) [] h1 (jo _) (by simp; omega)
  by_cases h0 : l.length = 0
  ·have hna : Bj l d.2.2.2.1 = true := by unfold Bj; rw [h0]; rfl
   rw [Ba (show ¬ ((ja l : Nat) : Int) > 0 by omega)]
   simp only [ua]
   simp only [hna, jg, ua] at key
   exact key _ (fun hq => by rw [hrun hq]; rfl)
  ·obtain ⟨x, hx, hx1⟩ := Yaa (l := l) (by omega)
   have hna : Bj l d.2.2.2.1 = !decide (x.1 < d.2.2.2.1) := by
    unfold Bj
    rw [show ((l.length : Int) == 0) = false by simp; intro h; rw [h] at h0; simp at h0, hx1]; rfl
   rw [Aa (show ((ja l : Nat) : Int) > 0 by omega), hx]
   simp only [zz, jb]
   simp only [hna, Bool.not_not] at key
   exact key _ (fun hq => by rw [hrun hq]; rfl)
def wd (w : List Int) (n : Nat) : Int := w.getD n 0












theorem Kam {a : List Int} (h : a.length ≤ Ga) : BH a = some (false, ()) := by
 have h20 : Ga = 1048576 := rfl
 unfold BH
 rw [Ba (by omega)]
theorem Qas {a : List Int} (h : ¬ a.length ≤ Ga) : BH a = some (true, ()) := by
 have h20 : Ga = 1048576 := rfl
 unfold BH
 rw [Aa (by omega)]
theorem QK {α : Type} (l : List α) (k : Nat) : Cd (fun _ (_ : α) => true) k l = true := Pk.2 fun _ _ => rfl
theorem Zac (x : Va) : Ml Xn x x = true := by simp [Ml]
theorem H7 (x : Pa) : Ml Mc x x = true := by simp [Ml]
theorem Haa (x : Ca) : Ml Bc x x = true := by simp [Ml]
theorem S7 (l : List Va) (hn : l.length ≤ Ga) : ND l l = some (true, ()) := by
 have h20 : Ga = 1048576 := rfl
 have hl := Re (step := fun x => Ws x.1.1 x.1.2.1 x.1.2.2.1) l (fun _ _ => true) (fun i => ((l, l, i, ()), ())) (.inl ((), ())) (.inr ((false, ()), ())) (by
  intro k hk
  simp only [Ws]
  rw [Aa (show (k : Int) < ((ja l : Nat) : Int) by omega), Ub hk]
  simp only [zz, jb, Zac]; rfl) (by
  simp only [Ws]
  rw [Ba (by omega)]; rfl) (by omega)
 unfold ND Iv
 erw [hl]
 rw [QK]
 simp
theorem Kad (m : Db) (i : Nat) (hi : i < m.2.1.length) (hl : m.2.1[i].length ≤ Ga) :
 Jp (((), (), (i : Int), (0 : Int), ()), (m, m, ())) = some (.inl (((), (), (i : Int), ()), (m, m, ()))) := by
 have h20 : Ga = 1048576 := rfl
 have hl := Re (step := fun x : ((Unit × (Unit × Na)) × (Db × (Db × Unit))) => Kv x.1.1 x.1.2.1 x.1.2.2.1 x.1.2.2.2.1 x.2.1 x.2.2.1) m.2.1[i] (fun _ _ => true) (fun j => (((), (), (i : Int), j, ()), (m, m, ()))) (.inl (((), (), (i : Int), ()), (m, m, ()))) (.inr ((false, ()), ())) (by
  intro k hk
  simp only [Kv]
  rw [Ub hi]
  simp only [jb]
  rw [Aa (show (k : Int) < ((ja m.2.1[i] : Nat) : Int) by omega), Ub hk]
  simp only [zz, jb, H7]; rfl) (by
  simp only [Kv]
  rw [Ub hi]
  simp only [jb]
  rw [Ba (by omega)]; rfl) (by omega)
 unfold Jp
 erw [hl]
 rw [QK]; rfl
theorem Mac (m : Db) (hn : m.2.1.length ≤ Ga) (hr : ∀ x ∈ m.2.1, x.length ≤ Ga) : UF m m = some (true, ()) := by
 have h20 : Ga = 1048576 := rfl
 have hl := Re (step := fun x : ((Unit × (Unit × (Int × Unit))) × (Db × (Db × Unit))) => Jv x.1.1 x.1.2.1 x.1.2.2.1 x.2.1 x.2.2.1) m.2.1 (fun _ _ => true) (fun j => (((), (), j, ()), (m, m, ()))) (.inl ((), ())) (.inr ((false, ()), ())) (by
  intro k hk
  simp only [Jv]
  rw [Aa (show (k : Int) < ((ja m.2.1 : Nat) : Int) by omega), Ub hk, Kad m k hk (hr _ (qt hk))]
  simp) (by
  simp only [Jv]
  rw [Ba (by omega)]; rfl) (by omega)
 unfold UF Nx
 erw [hl]
 rw [QK]
 simp
theorem X2 (e : Jb) (h1 : e.1.2.1.length ≤ Ga) (h2 : ∀ x ∈ e.1.2.1, x.length ≤ Ga) (h3 : e.2.2.2.1.length ≤ Ga) : Qy e e = some (true, ()) := by
 unfold Qy
 rw [Mac _ h1 h2, S7 _ h3]
 simp
theorem CaI (n : Nat) : Q3 n 0 0 := ⟨by omega, by have := zt n; omega, by decide, by omega, by omega⟩
theorem Yay {m : Db} (hm : Ce m = true) : Dq (Gaa m 0 0 false []) :=
 (TO _).1 (Xaj hm (CaI _) false GaM (by simp))
def No (e : Jb) (t : Cc) : Eb := (e, t, ([] : List Ca), (0 : Int), (0 : Int), (0 : Int), (0 : Int), ())
theorem Kat (d k : Int) : Rc [] d k = true := rfl
theorem Ian {e : Jb} (he : Dq e) {t : Cc} (ht : Kf t = true) {q : List Ca} {now clock tp ta : Int} (hn : 0 ≤ now ∧ now ≤ 1000000) (hc : 0 ≤ clock ∧ clock ≤ now)
 (hq : Rc q (Kp e.2.2.2.1) e.1.1 = true) (hb : Th q now = true) (htp : 0 ≤ tp ∧ tp ≤ e.1.1) (hta : 0 ≤ ta ∧ ta ≤ now) : Xd (e, t, q, now, clock, tp, ta, ()) = true := by
 unfold Xd
 simp only [jd, decide_eq_true_eq]
 exact ⟨(TO e).2 he, ht, hn, hc, hq, hb, htp, hta⟩
theorem O3 {e : Jb} (he : Dq e) {t : Cc} (ht : Kf t = true) : Ey e t = some (No e t, true, ()) := by
 have h20 : Ga = 1048576 := rfl
 have hz := XV he
 have hk := (Uj he.km).k1
 unfold Ey
 rw [Am _ (by omega)]
 simp only [jb]
 have : Il (e, t, ([] : List Ca), (0 : Int), (0 : Int), (0 : Int), (0 : Int), ()) = some (true, ()) := by
  rw [← Ian he ht (q := []) (now := 0) (clock := 0) (tp := 0) (ta := 0) (by omega) (by omega) (Kat _ _) rfl (by omega) (by omega)]
  exact Ks _ (by rw [Bw, An]; show Jc Xc e + 0 ≤ _; omega)
 rw [this]
 rfl





theorem YX {a : Nat} {k : Nat} (ha : a < 2 ^ 63) (hk : k ≤ 64) : Wd (a : Int) (k : Int) = cond (a.testBit k) 1 0 := by
 have h := Qj ha hk
 rcases Lam ha hk with h1 | h1
 ·rw [h1] at h ⊢
  cases ht : a.testBit k with
  | true => rw [ht] at h; exact absurd h (by decide)
  | false => rfl
 ·rw [h1] at h ⊢
  cases ht : a.testBit k with
  | true => rfl
  | false => rw [ht] at h; exact absurd h (by decide)
theorem L9 {a b k : Nat} (ha : a < 2 ^ 63) (hb : b < 2 ^ 63) (hk : k ≤ 64) : (Wd (a : Int) (k : Int) != Wd (b : Int) (k : Int)) = (a ^^^ b).testBit k := by
 rw [YX ha hk, YX hb hk, qp]
 cases a.testBit k <;> cases b.testBit k <;> rfl
def UG (d : Rb) (raw : Int) (k : Nat) (x : Int) : Int :=
 cond ((d.1 == 0) && (Wd raw (k : Int) != Wd d.2.2.2.2.1 (k : Int))) 1 (cond ((d.1 == 1) && (raw != d.2.2.2.2.1)) 1 (min (j9 .i64 (x + 1)) 99))
def Sp (d : Rb) (raw : Int) (k : Nat) (x : Int) : Bool := decide (UG d raw k x ≥ d.2.1) && (Wd raw (k : Int) != Wd d.2.2.2.1 (k : Int))
def BE (d : Rb) (raw : Int) (k : Nat) (s : Int × List Int) (x : Int) : Int × List Int :=
 (cond (Sp d raw k x) (Yb .i64 s.1 (Ma .i64 1 (k : Int))) s.1, jf s.2 [cond (Sp d raw k x && (d.1 == 2)) 0 (UG d raw k x)])
def IF (d : Rb) (raw : Int) : Int × List Int := Bd (fun k s x => BE d raw k s x) 0 (d.2.2.2.1, []) d.2.2.2.2.2.1
def QZ : Rb := ((0 : Int), (0 : Int), (0 : Int), (0 : Int), (0 : Int), ([] : List Int), ())
def MC (d : Rb) (raw : Int) : Bool := Gd d && Rd d.2.2.1 raw
def JF (d : Rb) (raw : Int) : Rb × (Bool × Unit) := cond (MC d raw) ((d.1, d.2.1, d.2.2.1, (IF d raw).1, raw, (IF d raw).2, ()), true, ()) (QZ, false, ())
structure Far (d : Rb) : Prop where
 k1 : 1 ≤ d.2.2.1
 k2 : d.2.2.1 ≤ 24
 len : ((ja d.2.2.2.2.2.1 : Nat) : Int) = d.2.2.1
 sh : Rd d.2.2.1 d.2.2.2.1 = true
 la : Rd d.2.2.1 d.2.2.2.2.1 = true
theorem ED {d : Rb} (h : Gd d = true) : Far d := by
 simp only [Gd, jd, decide_eq_true_eq, beq_iff_eq] at h
 exact ⟨h.2.2.1.1, h.2.2.1.2, h.2.2.2.1, h.2.2.2.2.1, h.2.2.2.2.2.1⟩
theorem UC {k x : Int} (h : Rd k x = true) : ∃ n : Nat, x = (n : Int) ∧ n < 2 ^ k.toNat := by
 simp only [Rd, decide_eq_true_eq] at h
 obtain ⟨n, rfl⟩ := jv h.1
 exact ⟨n, rfl, by exact_mod_cast h.2⟩
theorem Zak {k : Int} {n : Nat} (hk : k ≤ 24) (h : n < 2 ^ k.toNat) : n < 2 ^ 63 :=
 qn h (qo (by omega) (by omega))
theorem J7 (d : Rb) (raw : Int) (k : Nat) (hk : k < d.2.2.2.2.2.1.length) (s : Int × List Int) (hs : s.2.length = k) (hn : d.2.2.2.2.2.1.length ≤ 24) :
 Sj raw () () () d.2.2.2.2.2.1 ((ja d.2.2.2.2.2.1 : Nat) : Int) (k : Int) d QZ (d.1, d.2.1, d.2.2.1, s.1, d.2.2.2.2.1, s.2, ()) =
  some (.inl ((raw, (), (), (), d.2.2.2.2.2.1, ((ja d.2.2.2.2.2.1 : Nat) : Int), j9 .i64 ((k : Int) + 1), ()), (d, QZ, (d.1, d.2.1, d.2.2.1, (BE d raw k s d.2.2.2.2.2.1[k]).1, d.2.2.2.2.1, (BE d raw k s d.2.2.2.2.2.1[k]).2, ()), ()))) := by
 have hb : ∀ x : Int, jx (ja s.2 + ja ([x] : List Int)) Xa = true := fun x => ji (by rw [Tf]; simp only [jw, qb]; omega)
 have hbit : ∀ m : Int, Me m (k : Int) = some (Wd m (k : Int), ()) := fun m => Tl m (by omega)
 unfold Sj
 rw [Aa (show (k : Int) < ((ja d.2.2.2.2.2.1 : Nat) : Int) by omega), Ub hk, Aa (show (0 : Int) ≤ (k : Int) by omega)]
 simp only [zz, jb, hb, hbit]
 unfold BE Sp UG
 generalize d.2.2.2.2.2.1[k] = x
 cases d.1 == 0 <;> (try simp only [zz, ua, jk, qr]) <;>
  cases Wd raw (k : Int) != Wd d.2.2.2.2.1 (k : Int) <;> (try simp only [zz, ua]) <;>
  cases d.1 == 1 <;> (try simp only [zz, ua, jk, qr]) <;>
  cases raw != d.2.2.2.2.1 <;> (try simp only [zz, ua]) <;>
  cases decide ((1 : Int) ≥ d.2.1) <;> (try simp only [zz, ua, jk, qr]) <;>
  cases decide (min (j9 .i64 (x + 1)) 99 ≥ d.2.1) <;> (try simp only [zz, ua, jk, qr]) <;>
  cases Wd raw (k : Int) != Wd d.2.2.2.1 (k : Int) <;> (try simp only [zz, ua, jk, qr]) <;>
  cases d.1 == 2 <;> rfl
structure S8 (d : Rb) (k : Nat) (s : Int × List Int) : Prop where
 len : s.2.length = k
 sh : Rd d.2.2.1 s.1 = true
theorem Cat {d : Rb} (hd : Far d) (raw : Int) {k : Nat} (hk : k < d.2.2.2.2.2.1.length) {s : Int × List Int} (hs : S8 d k s) (x : Int) : S8 d (k + 1) (BE d raw k s x) := by
 have h1 := hd.k2
 have h2 := hd.len
 refine ⟨by simp [BE, hs.len], ?_⟩
 obtain ⟨a, ha, ha2⟩ := UC hs.sh
 unfold BE
 cases Sp d raw k x with
 | false => exact hs.sh
 | true =>
  show Rd d.2.2.1 (Yb .i64 s.1 (Ma .i64 1 (k : Int))) = true
  rw [ha, Ve (by omega), Vm (Zak h1 ha2) (Ye (by omega))]
  have hk2 : 2 ^ k < 2 ^ d.2.2.1.toNat := Nat.pow_lt_pow_right (by omega) (by omega)
  have := qs ha2 hk2
  simp only [Rd, decide_eq_true_eq]
  exact ⟨by omega, by exact_mod_cast this⟩
theorem Zad {d : Rb} (hd : Far d) (raw : Int) : S8 d d.2.2.2.2.2.1.length (IF d raw) := by
 have h : ∀ (l : List Int) (k : Nat) (s : Int × List Int), d.2.2.2.2.2.1.drop k = l → k ≤ d.2.2.2.2.2.1.length → S8 d k s → S8 d d.2.2.2.2.2.1.length (Bd (fun k s x => BE d raw k s x) k s l) := by
  intro l
  induction l with
  | nil =>
   intro k s hl hk hs
   have := AL hl hk
   rw [← this]; exact hs
  | cons y l ih =>
   intro k s hl hk hs
   obtain ⟨hk', hy, hl'⟩ := Lz hl
   exact ih (k + 1) _ hl' hk' (Cat hd raw hk' hs y)
 exact h _ 0 _ rfl (zj _) ⟨rfl, hd.sh⟩
theorem Cad (d : Rb) (raw : Int) (hn : d.2.2.2.2.2.1.length ≤ Ga) : Dn d raw = some (JF d raw) := by
 unfold Dn JF MC
 rw [IG d hn]
 cases hv : Gd d with
 | false => rfl
 | true =>
  have hd := ED hv
  have h1 := hd.k1
  have h2 := hd.k2
  have h3 := hd.len
  simp only [jb, jg, ua, jk]
  rw [Aa (show (0 : Int) ≤ d.2.2.1 by omega), SP (show 0 ≤ d.2.2.1 ∧ d.2.2.1 ≤ 62 by omega)]
  simp only [zz]
  by_cases h0 : raw < 0
  ·rw [Aa h0, show Rd d.2.2.1 raw = false by unfold Rd; exact Ba (by omega)]; rfl
  ·by_cases h9 : raw ≥ ((2 ^ d.2.2.1.toNat : Nat) : Int)
   ·rw [Ba h0, Aa h9, show Rd d.2.2.1 raw = false by unfold Rd; exact Ba (by omega)]; rfl
   ·rw [Ba h0, Ba h9, show Rd d.2.2.1 raw = true by unfold Rd; exact Aa (by omega)]
    simp only [ua, zz]
    have hl := (Kg (step := fun x => Sj x.1.1 x.1.2.1 x.1.2.2.1 x.1.2.2.2.1 x.1.2.2.2.2.1 x.1.2.2.2.2.2.1 x.1.2.2.2.2.2.2.1 x.2.1 x.2.2.1 x.2.2.2.1) d.2.2.2.2.2.1 (fun k s x => BE d raw k s x)
     (fun s i => ((raw, (), (), (), d.2.2.2.2.2.1, ((ja d.2.2.2.2.2.1 : Nat) : Int), i, ()), (d, QZ, (d.1, d.2.1, d.2.2.1, s.1, d.2.2.2.2.1, s.2, ()), ())))
     (fun s => .inl ((raw, (), (), ()), (QZ, (d.1, d.2.1, d.2.2.1, s.1, d.2.2.2.2.1, s.2, ()), ()))) (fun k s => s.2.length = k) (by
      intro k hk s hs
      exact ⟨J7 d raw k hk s hs (by omega), by simp [BE, hs]⟩) (by
      intro s hs
      simp only [Sj]
      rw [Ba (by omega)]; rfl) (by omega) (d.2.2.2.1, []) rfl).1
    unfold Qo
    erw [hl]
    rfl
def Sh (L : List Na) (set : Int) : Bool := !Cd (fun _ (c : Na) => !(Pc .i64 set c.1 == 0)) 0 L
theorem IP (L : List Na) (set : Int) (hn : L.length ≤ Ga) : TC L set = some (Sh L set, ()) := by
 have h20 : Ga = 1048576 := rfl
 have hl := Re (step := fun x => Py x.1.1 x.1.2.1 x.1.2.2.1 x.1.2.2.2.1) L (fun _ (c : Na) => !(Pc .i64 set c.1 == 0)) (fun i => ((set, L, ((ja L : Nat) : Int), i, ()), ()))
  (.inl ((), ())) (.inr ((true, ()), ())) (by
   intro k hk
   simp only [Py]
   rw [Aa (by omega), Ub hk]
   simp only [zz, jb]
   cases Pc .i64 set L[k].1 == 0 <;> rfl) (by
   simp only [Py]
   rw [Ba (by omega)]; rfl) (by omega)
 unfold TC Zz Sh
 erw [hl]
 cases Cd (fun _ (c : Na) => !(Pc .i64 set c.1 == 0)) 0 L <;> rfl
def whG (set : Int) (s : Int × Bool) (c : Na) : Int × Bool := cond (c.1 == set) (c.2.1, s.2) (cond (Pc .i64 set c.1 == 0) (s.1, true) s)
def Bf (L : List Na) (set : Int) : Int × Bool := Bd (fun _ s c => whG set s c) 0 (-1, false) L
theorem IJ (L : List Na) (set : Int) (hn : L.length ≤ Ga) : Lm L set = some ((Bf L set).1, (Bf L set).2, ()) := by
 have h20 : Ga = 1048576 := rfl
 have hl := (Kg (step := fun x => Hp x.1.1 x.1.2.1 x.1.2.2.1 x.1.2.2.2.1 x.1.2.2.2.2.1 x.1.2.2.2.2.2.1) L (fun _ s c => whG set s c) (fun s i => ((set, s.1, s.2, L, ((ja L : Nat) : Int), i, ()), ()))
  (fun s => .inl ((s.1, s.2, ()), ())) (fun _ _ => True) (by
   intro k hk s _
   refine ⟨?_, trivial⟩
   simp only [Hp]
   rw [Aa (by omega), Ub hk]
   simp only [zz, jb]
   unfold whG
   cases L[k].1 == set <;> cases Pc .i64 set L[k].1 == 0 <;> rfl) (by
   intro s _
   simp only [Hp]
   rw [Ba (by omega)]; rfl) (by omega) (-1, false) trivial).1
 unfold Lm Mr Bf
 erw [hl]
 rfl
def Ak (x : Ca) : Bool := Fg x && decide (x.2.1 < 24)
theorem GU (x : Ca) : Bm x = some (Ak x, ()) := by
 unfold Bm Ak
 rw [QF]
 cases Fg x <;> rfl
def Yr (L : List Na) (e : Int) (k : Nat) (set : Int) (x : Ca) : Int ⊕ ((Int × Nat × Int) ⊕ (Int × Int × Int)) :=
 cond (Ak x) (cond (decide (x.1 ≥ e)) (.inr (.inl (set, k + 1, e))) (cond x.2.2.1
  (cond (Sh L (Lc .i64 set (Ma .i64 1 x.2.1))) (cond (decide ((Bf L (Lc .i64 set (Ma .i64 1 x.2.1))).1 ≥ 0) && !(Bf L (Lc .i64 set (Ma .i64 1 x.2.1))).2)
   (.inr (.inr (((k + 2 : Nat) : Int), x.1, (Bf L (Lc .i64 set (Ma .i64 1 x.2.1))).1))) (.inl (Lc .i64 set (Ma .i64 1 x.2.1))))
   (.inr (.inl (set, k + 1, x.1))))
  (.inr (.inl (set, k + 1, x.1))))) (.inr (.inr (0, 0, -1)))
def DA (L : List Na) (set : Int) (n : Nat) (at_ : Int) : Int × Int × Int := cond (decide ((Bf L set).1 ≥ 0)) ((n : Int), at_, (Bf L set).1) (1, at_, -1)
def JE (L : List Na) (e now : Int) (set : Int) (r : List Ca) : Int × Int × Int :=
 match Wa (fun k s x => Yr L e k s x) 0 set r with
 | .inl s => cond (decide (now < e)) (0, 0, -1) (DA L s (r.length + 1) e)
 | .inr (.inl b) => DA L b.1 b.2.1 b.2.2
 | .inr (.inr b) => b
def Vd (L : List Na) (term : Int) (q : List Ca) (now : Int) : Int × Int × Int :=
 match q with
 | [] => (0, 0, -1)
 | f :: r => cond (Qe L && (decide (1 ≤ term ∧ term ≤ 200) && (Ak f && f.2.2.1)))
  (cond (Sh L (Ma .i64 1 f.2.1)) (JE L (j9 .i64 (f.1 + term)) now (Ma .i64 1 f.2.1) r) (1, f.1, -1)) (0, 0, -1)
theorem Uaq {x : Ca} (h : Ak x = true) : 0 ≤ x.1 ∧ x.1 ≤ 1000000 ∧ 0 ≤ x.2.1 ∧ x.2.1 < 24 := by
 simp only [Ak, jd, decide_eq_true_eq] at h
 have := Zl h.1
 omega
theorem W1 (L : List Na) (term now : Int) (f : Ca) (e : Int) (he : j9 .i64 (f.1 + term) = e) (set : Int) (r : List Ca) (hn : L.length ≤ Ga) (hr : r.length ≤ Ga) :
 Bl ((L, term, now, (), set, e, (1 : Int), true, r, ((ja r : Nat) : Int), (0 : Int), ()), (f, ())) =
  some (match Wa (fun k s x => Yr L e k s x) 0 set r with
   | .inl s => .inl ((L, now, s, e, ((r.length + 1 : Nat) : Int), true, ()), ())
   | .inr (.inl b) => .inl ((L, now, b.1, b.2.2, (b.2.1 : Int), false, ()), ())
   | .inr (.inr b) => .inr ((b.1, b.2.1, b.2.2, ()), ())) := by
 have h20 : Ga = 1048576 := rfl
 have hl := HX (step := fun x => On x.1.1 x.1.2.1 x.1.2.2.1 x.1.2.2.2.1 x.1.2.2.2.2.1 x.1.2.2.2.2.2.1 x.1.2.2.2.2.2.2.1 x.1.2.2.2.2.2.2.2.1 x.1.2.2.2.2.2.2.2.2.1 x.1.2.2.2.2.2.2.2.2.2.1 x.1.2.2.2.2.2.2.2.2.2.2.1 x.2.1) r (fun k s x => Yr L e k s x)
  (fun k s => ((L, term, now, (), s, e, ((k + 1 : Nat) : Int), true, r, ((ja r : Nat) : Int), (k : Int), ()), (f, ())))
  (fun s => .inl ((L, now, s, e, ((r.length + 1 : Nat) : Int), true, ()), ()))
  (fun b => match b with | .inl b => .inl ((L, now, b.1, b.2.2, (b.2.1 : Int), false, ()), ()) | .inr b => .inr ((b.1, b.2.1, b.2.2, ()), ())) (fun _ _ => True) (by
   intro k hk s _
   refine ⟨?_, fun _ _ => trivial⟩
   simp only [On]
   rw [Aa (show (k : Int) < ((ja r : Nat) : Int) by omega), Ub hk, he]
   simp only [zz, jb]
   rw [GU]
   simp only [jb]
   unfold Yr
   generalize r[k] = x
   cases hx : Ak x with
   | false => rfl
   | true =>
    have hk' := Uaq hx
    rw [Aa hk'.2.2.1, IP _ _ hn, IJ _ _ hn, Ag (show k + 1 < _ by omega), Ag (show k < _ by omega)]
    simp only [jg, ua, zz, jb]
    by_cases h1 : x.1 ≥ e
    ·rw [Aa h1, show min e x.1 = e by omega]; rfl
    ·rw [Ba h1, show min e x.1 = x.1 by omega]
     simp only [ua]
     cases x.2.2.1 with
     | false => rfl
     | true =>
      simp only [jg, ua, zz]
      cases Sh L (Lc .i64 s (Ma .i64 1 x.2.1)) with
      | false => rfl
      | true =>
       simp only [jg, ua, zz]
       cases decide ((Bf L (Lc .i64 s (Ma .i64 1 x.2.1))).1 ≥ 0) <;> cases (Bf L (Lc .i64 s (Ma .i64 1 x.2.1))).2 <;> rfl) (by
   intro s _
   simp only [On]
   rw [Ba (by omega)]; rfl) set trivial
 unfold Bl
 refine hl.trans ?_
 cases Wa (fun k s x => Yr L e k s x) 0 set r with
 | inl s => rfl
 | inr b => cases b <;> rfl
theorem K7 (L : List Na) (term : Int) (q : List Ca) (now : Int) (hn : L.length ≤ Ga) (hq : q.length ≤ Ga) :
 Dy L term q now = some ((Vd L term q now).1, (Vd L term q now).2.1, (Vd L term q now).2.2, ()) := by
 have h20 : Ga = 1048576 := rfl
 unfold Dy Vd
 rw [EL _ hn]
 cases q with
 | nil =>
  cases Qe L <;> simp only [jb, jg, qc, zz, ua]
  cases decide (term < 1) <;> cases decide (term > 200) <;> rfl
 | cons f r =>
  have hr : r.length ≤ Ga := by simp at hq; omega
  cases Qe L with
  | false => rfl
  | true =>
   simp only [jb, jg, jk, ua, Ou]
   cases decide (1 ≤ term ∧ term ≤ 200) with
   | false => rfl
   | true =>
    rw [show (((ja (f :: r) : Nat) : Int) == 0) = false by simp; omega]
    simp only [Rat, jb, GU, ua, zz, jk]
    cases hf : Ak f with
    | false => rfl
    | true =>
     have hk := Uaq hf
     cases f.2.2.1 with
     | false => rfl
     | true =>
      have hc : We (ja (f :: r)) (1 : Int) ((ja (f :: r) : Nat) : Int) = true := Iq (lo := 1) (by simp) (by simp)
      have hc2 : Lb (f :: r) (jy (1 : Int)) (jy ((ja (f :: r) : Nat) : Int)) = r := by
       show yo 1 (List.take _ (f :: r)) = r
       rw [jn, List.take_length]; rfl
      rw [Aa hk.2.2.1, IP _ _ hn, hc, hc2]
      simp only [jg, ua, zz, jb, Bool.and_self, jk]
      cases Sh L (Ma .i64 1 f.2.1) with
      | false => rfl
      | true =>
       simp only [jg, ua, zz]
       rw [W1 L term now f _ rfl _ _ hn hr]
       unfold JE
       cases Wa (fun k s x => Yr L (j9 .i64 (f.1 + term)) k s x) 0 (Ma .i64 1 f.2.1) r with
       | inl s =>
        simp only [jb, qm, zz]
        rw [IJ _ _ hn]
        unfold DA
        simp only [jb]
        cases decide (now < j9 .i64 (f.1 + term)) <;> cases decide ((Bf L s).1 ≥ 0) <;> rfl
       | inr b =>
        cases b with
        | inl b =>
         simp only [jb, qm, ua]
         rw [IJ _ _ hn]
         unfold DA
         simp only [jb]
         cases decide ((Bf L b.1).1 ≥ 0) <;> rfl
        | inr b => rfl
theorem TY (L : List Na) (term : Int) (f : Ca) (r : List Ca) (now : Int) : ∃ n : Nat, (Vd L term (f :: r) now).1 = (n : Int) ∧ n ≤ r.length + 1 := by
 have key : ∀ (e : Int) (l : List Ca) (k : Nat) (set : Int) (b : (Int × Nat × Int) ⊕ (Int × Int × Int)), Wa (fun k s x => Yr L e k s x) k set l = .inr b →
  match b with | .inl b => b.2.1 ≤ k + l.length | .inr b => ∃ n : Nat, b.1 = (n : Int) ∧ n ≤ k + l.length + 1 := by
  intro e l
  induction l with
  | nil => intro k set b h; simp [Wa] at h
  | cons x l ih =>
   intro k set b h
   simp only [Wa] at h
   revert h
   cases hg : Yr L e k set x with
   | inl s =>
    intro h
    have := ih (k + 1) s b h
    cases b with
    | inl b => simp only [jw] at this ⊢; omega
    | inr b => obtain ⟨n, h1, h2⟩ := this; exact ⟨n, h1, by simp only [jw]; omega⟩
   | inr r =>
    intro h
    simp only [zl] at h
    subst h
    unfold Yr at hg
    revert hg
    cases Ak x <;> cases decide (x.1 ≥ e) <;> cases x.2.2.1 <;> cases Sh L (Lc .i64 set (Ma .i64 1 x.2.1)) <;> cases (decide ((Bf L (Lc .i64 set (Ma .i64 1 x.2.1))).1 ≥ 0) && !(Bf L (Lc .i64 set (Ma .i64 1 x.2.1))).2) <;>
     (intro hg; cases hg) <;>
     first
      | exact ⟨0, rfl, by omega⟩
      | exact ⟨_, rfl, by simp only [jw]; omega⟩
      | (simp only [jw]; omega)
 have Sg : ∀ s n a, n ≤ r.length + 1 → 1 ≤ n → ∃ m : Nat, (DA L s n a).1 = (m : Int) ∧ m ≤ r.length + 1 := by
  intro s n a hn _
  unfold DA
  cases decide ((Bf L s).1 ≥ 0)
  ·exact ⟨1, rfl, by omega⟩
  ·exact ⟨n, rfl, hn⟩
 simp only [Vd]
 cases Qe L && (decide (1 ≤ term ∧ term ≤ 200) && (Ak f && f.2.2.1)) with
 | false => exact ⟨0, rfl, by omega⟩
 | true =>
  cases Sh L (Ma .i64 1 f.2.1) with
  | false => exact ⟨1, rfl, by omega⟩
  | true =>
   simp only [zz, JE]
   cases h : Wa (fun k s x => Yr L (j9 .i64 (f.1 + term)) k s x) 0 (Ma .i64 1 f.2.1) r with
   | inl s =>
    cases decide (now < j9 .i64 (f.1 + term)) with
    | true => exact ⟨0, rfl, by omega⟩
    | false => exact Sg s _ _ (jo _) (by omega)
   | inr b =>
    have := key _ _ _ _ _ h
    cases b with
    | inl b =>
     unfold DA
     simp only at this ⊢
     cases decide ((Bf L b.1).1 ≥ 0)
     ·exact ⟨1, rfl, by omega⟩
     ·exact ⟨b.2.1, rfl, by omega⟩
    | inr b => obtain ⟨n, h1, h2⟩ := this; exact ⟨n, h1, by omega⟩
abbrev Tb (c : Ea) : List Ca := c.2.2.2.2.2.2.1
abbrev Oaj (c : Ea) (l : List Ca) : Ea := (c.1, c.2.1, c.2.2.1, c.2.2.2.1, c.2.2.2.2.1, c.2.2.2.2.2.1, l, ())
def woE {α : Type} (l : List α) (i : Nat) : List α := jf (l.take i) (l.drop (i + 1))
def IV : Ca := (0, 0, false, ())
def UN (l : List Ca) (key : Int) (j : Nat) : List Ca :=
 cond (Pc .i64 (l.getD j IV).2.1 (Ma .i64 1 key) == 0) (woE l j) (l.set j ((l.getD j IV).1, Pc .i64 (l.getD j IV).2.1 (Ma .i64 1 key), false, ()))
def LI (l : List Ca) (at_ : Int) (j : Nat) : List Ca := cond (l.getD j IV).2.2.1 [(at_, (l.getD j IV).1, false, ())] []
def KH (c : Ea) (key : Int) : Int := Ed (fun (a : Ca) => !(Wd a.2.1 key == 0)) 0 (Tb c)
def Fu (c : Ea) (key at_ : Int) : Ea × List Ca :=
 if KH c key = -1 then ((c.1, c.2.1, c.2.2.1, c.2.2.2.1, c.2.2.2.2.1, Pc .i64 c.2.2.2.2.2.1 (Ma .i64 1 key), Tb c, ()), [(at_, key, false, ())])
 else (Oaj c (UN (Tb c) key (KH c key).toNat), LI (Tb c) at_ (KH c key).toNat)
theorem Yag {α : Type} (l : List α) (j : Nat) (hj : j < l.length) (v : α) :
 Lb (l.set j v) (jy (0 : Int)) (jy (j : Int)) = l.take j ∧ Lb (l.set j v) (jy ((j + 1 : Nat) : Int)) (jy ((ja (l.set j v) : Nat) : Int)) = l.drop (j + 1) := by
 constructor
 ·show yo 0 (List.take _ (l.set j v)) = _
  rw [jn, List.drop_zero, List.take_set_of_le (jo j)]
 ·show yo _ (List.take _ (l.set j v)) = _
  rw [jn, jn, List.take_length, List.drop_set_of_lt (by omega)]
theorem Mak (c : Ea) (key at_ : Int) (hk : 0 ≤ key) (hn : (Tb c).length ≤ Ga) : Po c key at_ = some ((Fu c key at_).1, ((Fu c key at_).2, ())) := by
 have h20 : Ga = 1048576 := rfl
 have hlim := Tf
 have hl := ZH (step := fun x => Hn x.1.1 x.1.2.1 x.1.2.2.1 x.1.2.2.2.1 x.1.2.2.2.2.1 x.2.1) (Tb c) (fun (a : Ca) => !(Wd a.2.1 key == 0)) (fun i => (((), key, at_, ((ja (Tb c) : Nat) : Int), i, ()), (c, ())))
  (.inl (((), key, at_, ()), (c, ()))) (fun i => .inr (((), LI (Tb c) at_ i.toNat, ()), (Oaj c (UN (Tb c) key i.toNat), ()))) (by
   intro j hj
   simp only [Hn]
   rw [Aa (show (j : Int) < ((ja (Tb c) : Nat) : Int) by omega), Mm, Aa hj]
   have hg : (Tb c)[jy (j : Int)]? = some (Tb c)[j] := by rw [jn, je hj]
   have hgd : (Tb c).getD j IV = (Tb c)[j] := by rw [qj, je hj]; rfl
   simp only [hg, zz, jb]
   rw [Tl _ hk, Aa hk]
   simp only [jb, zz]
   cases hb : Wd (Tb c)[j].2.1 key == 0 with
   | true => rfl
   | false =>
    simp only [ua, qc, zz]
    have hs2 : ∀ v w : Ca, (((Tb c).set j v).set j w) = (Tb c).set j w := fun v w => List.set_set ..
    have hs3 : ∀ v : Ca, ((Tb c).set j v)[jy (j : Int)]? = some v := fun v => by
     rw [jn, List.getElem?_set_self (by omega)]
    have ht : ∀ (l : List Ca) (v : Ca), l.set (jy (j : Int)) v = l.set j v := fun l v => by rw [jn]
    simp only [hs2, hs3, ht, jb, Ag (show j < 9223372036854775807 by omega), (Yag (Tb c) j hj _).1, (Yag (Tb c) j hj _).2]
    have hc1 : ∀ v : Ca, We (ja ((Tb c).set j v)) 0 (j : Int) = true := fun v => Iq (lo := 0) (by omega) (by rw [List.length_set]; omega)
    have hc2 : ∀ v : Ca, We (ja ((Tb c).set j v)) ((j + 1 : Nat) : Int) ((ja ((Tb c).set j v) : Nat) : Int) = true := fun v => Iq (by rw [List.length_set]; omega) (jo _)
    have hb1 : jx (ja ([] : List Ca) + ja ((Tb c).take j)) Xa = true := ji (by simp; omega)
    have hb2 : jx (ja (jf ([] : List Ca) ((Tb c).take j)) + ja ((Tb c).drop (j + 1))) Xa = true := ji (by simp; omega)
    simp only [hc1, hc2, hb1, hb2, zz, jn]
    unfold UN LI
    rw [hgd]
    generalize hx : (Tb c)[j] = x
    obtain ⟨xo, xl, xd, xu⟩ := x
    cases xd <;> cases Pc .i64 xl (Ma .i64 1 key) == 0 <;> rfl) (by
   simp only [Hn]
   rw [Ba (by omega)]; rfl) (by omega)
 unfold Po Tp Fu KH
 erw [hl]
 simp only [jb]
 by_cases hc : Ed (fun (a : Ca) => !(Wd a.2.1 key == 0)) 0 (Tb c) = -1
 ·rw [if_pos hc, if_pos hc]
  simp only [qm]
  rw [Aa hk]; rfl
 ·rw [if_neg hc, if_neg hc]; rfl
theorem JaC (n : Int) : j9 .i64 n ≤ 9223372036854775807 := by
 rw [IntKind.wrap_i64]; omega
theorem Pat (x y : Int) : Pc .i64 x y ≤ 9223372036854775807 := JaC _
theorem Bar (l : List Ca) (at_ : Int) (j : Nat) : (LI l at_ j).length ≤ 1 := by
 unfold LI
 cases (l.getD j IV).2.2.1 <;> simp
theorem GaI (l : List Ca) (key : Int) (j : Nat) (hx : ∀ x ∈ l, x.2.1 ≤ 9223372036854775807) : (UN l key j).length ≤ l.length ∧ ∀ x ∈ UN l key j, x.2.1 ≤ 9223372036854775807 := by
 unfold UN
 cases Pc .i64 (l.getD j IV).2.1 (Ma .i64 1 key) == 0 with
 | true =>
  simp only [zz, woE]
  refine ⟨by simp; omega, fun x h => ?_⟩
  rcases jl.1 (show x ∈ l.take j ++ l.drop (j + 1) from h) with h | h
  ·exact hx x (List.mem_of_mem_take h)
  ·exact hx x (List.mem_of_mem_drop h)
 | false =>
  simp only [ua]
  refine ⟨by simp, fun x h => ?_⟩
  rcases List.mem_or_eq_of_mem_set h with h | h
  ·exact hx x h
  ·rw [h]; exact Pat _ _
structure SX (c : Ea) : Prop where
 len : c.2.2.1.length ≤ 64
 ev : ∀ x ∈ c.2.2.1, 0 ≤ x.2.1
 L : c.1.length ≤ 8
 cb : Qe c.1 = true
 r : ∀ x ∈ Tb c, x.2.1 ≤ 9223372036854775807
def Rf (c : Ea) (x : Ca) (r : List Ca) : Option (Ea × List Ca) :=
 cond x.2.2.1
  (
   let m := Vd c.1 c.2.1 c.2.2.1 c.2.2.2.1
   cond (m.1 == 0) none
    (cond (decide (m.2.2 < 0))
     (some ((c.1, c.2.1, c.2.2.1.drop m.1.toNat, c.2.2.2.1, max (max c.2.2.2.2.1 x.1) m.2.1, Lc .i64 c.2.2.2.2.2.1 (Ma .i64 1 x.2.1), Tb c, ()), [(max (max c.2.2.2.2.1 x.1) m.2.1, x.2.1, true, ())]))
     (some ((c.1, c.2.1, c.2.2.1.drop m.1.toNat, c.2.2.2.1, max (max c.2.2.2.2.1 x.1) m.2.1, c.2.2.2.2.2.1, jf (Tb c) [(m.2.2, AA c.1 m.2.2, true, ())], ()), [(max (max c.2.2.2.2.1 x.1) m.2.1, m.2.2, true, ())]))))
  (some (Fu (c.1, c.2.1, r, c.2.2.2.1, max c.2.2.2.2.1 x.1, c.2.2.2.2.2) x.2.1 (max c.2.2.2.2.1 x.1)))
def Uax (c : Ea) : Option (Ea × List Ca) → Ea × ((List Ca) × (Bool × Unit))
 | none => (c, ([], false, ()))
 | some (c', l) => (c', (l, true, ()))
theorem Aaa {α : Type} (l : List α) (n : Nat) : Lb l (jy (n : Int)) (jy ((ja l : Nat) : Int)) = l.drop n := by
 show yo _ (List.take _ l) = _
 rw [jn, jn, List.take_length]
theorem I4 {c : Ea} {x : Ca} {r : List Ca} (h : SX c) (hq : c.2.2.1 = x :: r) (ha : (Tb c).length ≤ 100000) : Ei c = some (Uax c (Rf c x r)) := by
 have h20 : Ga = 1048576 := rfl
 have hlim := Tf
 have h64 := h.len
 have hl8 := h.L
 have hkx : 0 ≤ x.2.1 := h.ev x (by rw [hq]; simp)
 have hlen : r.length ≤ 64 := by have := h.len; rw [hq] at this; simp at this; omega
 have hc := Baa x r hlen
 have i0 : Ci (ja (x :: r)) (0 : Int) = true := by rw [show (0 : Int) = ((0 : Nat) : Int) from rfl, Mm]; exact Aa (by simp)
 have g0 : (x :: r)[(jy (0 : Int))]? = some x := rfl
 have hb : jx (ja ([] : List Ca) + ja r) Xa = true := ji (by simp; omega)
 obtain ⟨cL, ct, q, now, clk, dn, act, u⟩ := c
 cases u
 simp only at hq ha h64 hl8
 have ha' : act.length ≤ 100000 := ha
 subst hq
 unfold Ei Rf
 simp only [i0, g0, hc.1, hc.2, hb, zz, jb]
 cases x.2.2.1 with
 | false =>
  simp only [qc, zz, ua]
  show jz (Po (cL, ct, r, now, max clk x.1, dn, act, ()) x.2.1 (max clk x.1)) _ = _
  rw [Mak _ _ _ hkx (by show act.length ≤ Ga; omega)]
  rfl
 | true =>
  simp only [jg, ua, zz]
  rw [K7 _ _ _ _ (by omega) (by omega)]
  obtain ⟨n, hn, hn2⟩ := TY cL ct x r now
  simp only [jb]
  cases hm : (Vd cL ct (x :: r) now).1 == 0 with
  | true => rfl
  | false =>
   simp only [ua]
   rw [hn, Aaa, jn, Iq (show n ≤ (x :: r).length by simp; omega) (jo _)]
   have hb2 : jx (ja ([] : List Ca) + ja ((x :: r).drop n)) Xa = true := ji (by rw [qw]; simp only [jw, qb] at h64 ⊢; omega)
   rw [hb2, Aa hkx, ZM _ _ (by omega)]
   simp only [zz, jb]
   have hb3 : ∀ v : Ca, jx (ja act + ja [v]) Xa = true := fun v => ji (by simp only [jw, qb]; omega)
   simp only [hb3, zz]
   cases decide ((Vd cL ct (x :: r) now).2.2 < 0) <;> rfl
theorem Vad {c c' : Ea} {x : Ca} {r : List Ca} {l : List Ca} (h : SX c) (hq : c.2.2.1 = x :: r) (hs : Rf c x r = some (c', l)) :
 SX c' ∧ c'.2.2.1.length < c.2.2.1.length ∧ (Tb c').length ≤ (Tb c).length + 1 ∧ l.length ≤ 1 ∧ c'.2.2.2.1 = c.2.2.2.1 := by
 have h64 := h.len
 have hlen : c.2.2.1.length = r.length + 1 := by rw [hq]; rfl
 unfold Rf at hs
 cases hd : x.2.2.1 with
 | false =>
  rw [hd] at hs
  simp only [ua, jc] at hs
  have e1 : c' = (Fu (c.1, c.2.1, r, c.2.2.2.1, max c.2.2.2.2.1 x.1, c.2.2.2.2.2) x.2.1 (max c.2.2.2.2.1 x.1)).1 := by rw [hs]
  have e2 : l = (Fu (c.1, c.2.1, r, c.2.2.2.1, max c.2.2.2.2.1 x.1, c.2.2.2.2.2) x.2.1 (max c.2.2.2.2.1 x.1)).2 := by rw [hs]
  have hr : ∀ y ∈ r, 0 ≤ y.2.1 := fun y hy => h.ev y (by rw [hq]; simp [hy])
  unfold Fu at e1 e2
  split at e1
  ·rename_i hc
   rw [if_pos hc] at e2
   subst e1 e2
   exact ⟨⟨by show r.length ≤ 64; omega, hr, h.L, h.cb, h.r⟩, by show r.length < _; omega, by show (Tb c).length ≤ _; omega, by simp, rfl⟩
  ·rename_i hc
   rw [if_neg hc] at e2
   have hu := GaI (Tb c) x.2.1 (KH (c.1, c.2.1, r, c.2.2.2.1, max c.2.2.2.2.1 x.1, c.2.2.2.2.2) x.2.1).toNat h.r
   subst e1 e2
   refine ⟨⟨by show r.length ≤ 64; omega, hr, h.L, h.cb, hu.2⟩, by show r.length < _; omega, ?_, ?_, rfl⟩
   ·have := hu.1
    show (UN (Tb c) _ _).length ≤ _
    omega
   ·exact Bar _ _ _
 | true =>
  rw [hd] at hs
  simp only [zz] at hs
  obtain ⟨n, hn, hn2⟩ := TY c.1 c.2.1 x r c.2.2.2.1
  rw [hq] at hs
  cases hm : (Vd c.1 c.2.1 (x :: r) c.2.2.2.1).1 == 0 with
  | true => rw [hm] at hs; simp at hs
  | false =>
   have hn0 : n ≠ 0 := by intro h0; rw [hn, h0] at hm; simp at hm
   rw [hm, hn, jn] at hs
   have hdl : ((x :: r).drop n).length < r.length + 1 := by rw [qw]; simp only [jw]; omega
   have hde : ∀ y ∈ (x :: r).drop n, 0 ≤ y.2.1 := fun y hy => h.ev y (by rw [hq]; exact List.mem_of_mem_drop hy)
   cases h2 : decide ((Vd c.1 c.2.1 (x :: r) c.2.2.2.1).2.2 < 0) with
   | true =>
    rw [h2] at hs
    simp only [zz, ua, jc, jh] at hs
    obtain ⟨rfl, rfl⟩ := hs
    exact ⟨⟨by show ((x :: r).drop n).length ≤ 64; omega, hde, h.L, h.cb, h.r⟩, by show ((x :: r).drop n).length < _; omega, by show (Tb c).length ≤ _; omega, by simp, rfl⟩
   | false =>
    rw [h2] at hs
    simp only [ua, jc, jh] at hs
    obtain ⟨rfl, rfl⟩ := hs
    refine ⟨⟨by show ((x :: r).drop n).length ≤ 64; omega, hde, h.L, h.cb, fun y hy => ?_⟩, by show ((x :: r).drop n).length < _; omega, by show (jf (Tb c) [_]).length ≤ _; simp, by simp, rfl⟩
    rcases jl.1 (show y ∈ Tb c ++ [_] from hy) with hy | hy
    ·exact h.r y hy
    ·rw [qg.1 hy]
     show AA c.1 _ ≤ _
     unfold AA
     cases hf : (Gh c.1 (Vd c.1 c.2.1 (x :: r) c.2.2.2.1).2.2).isSome with
     | true => have := TG h.cb hf; omega
     | false =>
      have e : Gh c.1 (Vd c.1 c.2.1 (x :: r) c.2.2.2.1).2.2 = none := Option.not_isSome_iff_eq_none.1 (by rw [hf]; simp)
      rw [e]
      decide
def Mb : Nat → Ea → List Ca → Ea × List Ca
 | 0, c, o => (c, o)
 | n + 1, c, o => match c.2.2.1 with
  | [] => (c, o)
  | x :: r => match Rf c x r with
   | none => (c, o)
   | some (c', l) => Mb n c' (jf o l)
theorem OS (z : Ea) : ∀ (n : Nat) (c : Ea) (o : List Ca), SX c → c.2.2.1.length ≤ n → o.length + n ≤ 1000 → (Tb c).length + n ≤ 100000 →
 Wf (((), (), o, ()), (z, c, ())) = some (.inl (((), (), (Mb n c o).2, ()), (z, (Mb n c o).1, ())))
 | n, c, o, h, hl, ho, ha => by
  unfold Wf
  cases hq : c.2.2.1 with
  | nil =>
   have e1 : Mb n c o = (c, o) := by
    cases n with
    | zero => rfl
    | succ n => simp only [Mb, hq]
   have hstep : Qg () () o z c = some (.inr (.inl (((), (), o, ()), (z, c, ())))) := by
    unfold Qg
    rw [Ba (by rw [hq]; simp)]; rfl
   erw [Mf hstep]
   rw [e1]; rfl
  | cons x r =>
   have hlen : c.2.2.1.length = r.length + 1 := by rw [hq]; rfl
   cases n with
   | zero => omega
   | succ n =>
    have e1 : Mb (n + 1) c o = match Rf c x r with
     | none => (c, o)
     | some (c', l) => Mb n c' (jf o l) := by simp only [Mb, hq]
    rw [e1]
    have hp := I4 h hq (by omega)
    cases hst : Rf c x r with
    | none =>
     have hstep : Qg () () o z c = some (.inr (.inl (((), (), o, ()), (z, c, ())))) := by
      unfold Qg
      rw [Aa (by rw [hlen]; omega)]
      show (jz (Ei c) _) = _
      rw [hp, hst]; rfl
     erw [Mf hstep]; rfl
    | some p =>
     obtain ⟨c', l⟩ := p
     have hn := Vad h hq hst
     have hstep : Qg () () o z c = some (.inl (((), (), jf o l, ()), (z, c', ()))) := by
      unfold Qg
      rw [Aa (by rw [hlen]; omega)]
      show (jz (Ei c) _) = _
      rw [hp, hst]
      have hb : jx (ja o + ja l) Xa = true := ji (by rw [Tf]; omega)
      simp only [Uax, jb, jg, ua, hb, zz]
     erw [Mf hstep]
     have ih := OS z n c' (jf o l) hn.1 (by omega) (by
      have : (jf o l).length = o.length + l.length := by simp
      omega) (by omega)
     unfold Wf at ih
     exact ih
theorem X0 : ∀ (n : Nat) (c : Ea) (o : List Ca), SX c → SX (Mb n c o).1 ∧ (Tb (Mb n c o).1).length ≤ (Tb c).length + n ∧ (Mb n c o).2.length ≤ o.length + n
 | 0, c, o, h => ⟨h, by show (Tb c).length ≤ _; omega, by show o.length ≤ _; omega⟩
 | n + 1, c, o, h => by
  cases hq : c.2.2.1 with
  | nil =>
   have e : Mb (n + 1) c o = (c, o) := by simp only [Mb, hq]
   rw [e]; exact ⟨h, by show (Tb c).length ≤ _; omega, by show o.length ≤ _; omega⟩
  | cons x r =>
   cases hst : Rf c x r with
   | none =>
    have e : Mb (n + 1) c o = (c, o) := by simp only [Mb, hq, hst]
    rw [e]; exact ⟨h, by show (Tb c).length ≤ _; omega, by show o.length ≤ _; omega⟩
   | some p =>
    obtain ⟨c', l⟩ := p
    have e : Mb (n + 1) c o = Mb n c' (jf o l) := by simp only [Mb, hq, hst]
    have hn := Vad h hq hst
    have ih := X0 n c' (jf o l) hn.1
    have e2 : (jf o l).length = o.length + l.length := by simp
    rw [e]
    exact ⟨ih.1, by omega, by omega⟩
def F7 : Ea := (([] : List Na), (0 : Int), ([] : List Ca), (0 : Int), (0 : Int), (0 : Int), ([] : List Ca), ())
def CB (c : Ea) (l : List Ca) (til : Int) : Bool :=
 Md c && (decide (c.2.2.2.1 ≤ til ∧ til ≤ 1000000) && (Bj l c.2.2.2.1 && (Th l til && Rc (jf c.2.2.1 l) (Al c) 24)))
def Oj (c : Ea) (l : List Ca) (til : Int) : Ea := (c.1, c.2.1, jf c.2.2.1 l, til, c.2.2.2.2)
def XJ (c : Ea) (l : List Ca) (til : Int) : Ea × ((List Ca) × (Bool × Unit)) :=
 cond (CB c l til) ((Mb 64 (Oj c l til) []).1, (Mb 64 (Oj c l til) []).2, true, ()) (F7, [], false, ())
theorem Vap {l : List Ca} (h : ∀ x ∈ l, 0 ≤ x.1 ∧ x.1 ≤ 31) (hp : (l.map fun x => x.1.toNat).Nodup) : l.length ≤ 32 := by
 have := WY 32 (l.map fun x => x.1.toNat) hp (by
  intro y hy
  obtain ⟨x, hx, rfl⟩ := qv.1 hy
  have := h x hx
  omega)
 rwa [List.length_map] at this
theorem K5 {L : List Na} : ∀ {l pre : List Ca}, Et L pre l = true → (∀ x ∈ l, 0 ≤ x.1) → (∀ x ∈ pre, 0 ≤ x.1) → (pre.map fun x => x.1.toNat).Nodup → ((pre ++ l).map fun x => x.1.toNat).Nodup
 | [], pre, _, _, _, hn => by simpa using hn
 | x :: l, pre, h, hx, hpre, hn => by
  simp only [Et, jd] at h
  have hne : Wt pre x = true := h.1.2
  have := K5 (l := l) (pre := pre ++ [x]) h.2 (fun y hy => hx y (by simp [hy])) (fun y hy => by
   rcases jl.1 hy with hy | hy
   ·exact hpre y hy
   ·rw [qg.1 hy]; exact hx x (by simp)) (by
   rw [zf, yz]
   refine ⟨hn, by simp, ?_⟩
   intro a ha b hb hab
   obtain ⟨y, hy, rfl⟩ := qv.1 ha
   simp only [yw, List.map_nil, qg] at hb
   subst hb
   have h1 := (Dl (p := fun y : Ca => !(y.1 == x.1))).1 hne y hy
   simp only [yx, beq_eq_false_iff_ne] at h1
   have := hpre y hy
   have := hx x (by simp)
   omega)
  simpa using this
theorem TV {c : Ea} (h : Md c = true) : (Tb c).length ≤ 32 := by
 have ha := DD h
 refine Vap (fun x hx => ⟨(ha x hx).lo, (ha x hx).hi⟩) ?_
 simp only [Md, jd] at h
 have := K5 (pre := []) (l := Tb c) h.2.2.2.2.1.2.1 (fun x hx => (ha x hx).lo) (by simp) (by simp)
 simpa using this
theorem Oam {c : Ea} {l : List Ca} {til : Int} (hz : Ck c) (hc : Md c = true) (hf : Rc (jf c.2.2.1 l) (Al c) 24 = true) : SX (Oj c l til) := by
 have h1 : Qe c.1 = true := by simp only [Md, jd] at hc; exact hc.1
 have h2 : c.1.length ≤ 8 := by simp only [Qe, jd, decide_eq_true_eq] at h1; exact h1.1
 refine ⟨AR hf, fun x hx => ?_, h2, h1, hz.r⟩
 have := Zl (BR (JY hf) x hx)
 omega
theorem T1 (c : Ea) (l : List Ca) (til : Int) (hz : Ck c) (hl : l.length ≤ 1000000) : Lq c l til = some (XJ c l til) := by
 have h20 : Ga = 1048576 := rfl
 have hzq := hz.q
 have hze := hz.e
 have hlapp : (jf c.2.2.1 l).length = c.2.2.1.length + l.length := by simp
 have hlim : jx (ja c.2.2.1 + ja l) Xa = true := ji (by rw [Tf]; omega)
 unfold Lq XJ
 rw [RI _ hz, Ts _ _ (by omega), SF _ hz, Gv _ hz.e]
 cases hd : Md c with
 | false => rw [show CB c l til = false by unfold CB; rw [hd]; rfl]; rfl
 | true =>
  have hsw : CV c = true := by simp only [Md, jd] at hd; exact hd.2.2.2.2.1.2.2
  have h64 : c.2.2.1.length ≤ 64 := by
   simp only [Md, jd] at hd
   exact AR hd.2.2.2.2.2.1
  simp only [jb, jg, ua, hlim, zz, hsw]
  rw [Us _ _ _ (by rw [hlapp]; omega)]
  simp only [jb]
  have key : ∀ (K : Option (Ea × ((List Ca) × (Bool × Unit)))), (Rc (jf c.2.2.1 l) (Al c) 24 = true → K = some ((Mb 64 (Oj c l til) []).1, (Mb 64 (Oj c l til) []).2, true, ())) →
   (cond (decide (til < c.2.2.2.1)) (some (F7, [], false, ())) (cond (decide (til > 1000000)) (some (F7, [], false, ())) (cond (!Bj l c.2.2.2.1) (some (F7, [], false, ())) (cond (!Th l til) (some (F7, [], false, ())) (cond (!Rc (jf c.2.2.1 l) (Al c) 24) (some (F7, [], false, ())) K))))) =
   some (cond (CB c l til) ((Mb 64 (Oj c l til) []).1, (Mb 64 (Oj c l til) []).2, true, ()) (F7, [], false, ())) := by
   intro K hK
   unfold CB
   rw [hd]
   by_cases h1 : til < c.2.2.2.1
   ·rw [Aa h1, Ba (show ¬ (c.2.2.2.1 ≤ til ∧ til ≤ 1000000) by omega)]; rfl
   ·by_cases h2 : til > 1000000
    ·rw [Ba h1, Aa h2, Ba (show ¬ (c.2.2.2.1 ≤ til ∧ til ≤ 1000000) by omega)]; rfl
    ·rw [Ba h1, Ba h2, Aa (show (c.2.2.2.1 ≤ til ∧ til ≤ 1000000) by omega)]
     cases Bj l c.2.2.2.1 with
     | false => rfl
     | true =>
      cases Th l til with
      | false => rfl
      | true =>
       cases hq : Rc (jf c.2.2.1 l) (Al c) 24 with
       | false => rfl
       | true => exact hK hq
  have hrun : Rc (jf c.2.2.1 l) (Al c) 24 = true → ∀ z : Ea, Wf (((), (), ([] : List Ca), ()), (z, (c.1, c.2.1, jf c.2.2.1 l, til, c.2.2.2.2), ())) = some (.inl (((), (), (Mb 64 (Oj c l til) []).2, ()), (z, (Mb 64 (Oj c l til) []).1, ()))) := by
   intro hq z
   have h1 := Oam (til := til) hz hd hq
   have h2 := h1.len
   have h3 := TV hd
   exact OS z 64 (Oj c l til) [] h1 h2 (by simp) (by show (Tb c).length + 64 ≤ _; omega)
  by_cases h0 : l.length = 0
  ·have hna : Bj l c.2.2.2.1 = true := by unfold Bj; rw [h0]; rfl
   rw [Ba (show ¬ ((ja l : Nat) : Int) > 0 by omega)]
   simp only [ua]
   simp only [hna, jg, ua] at key
   exact key _ (fun hq => by rw [hrun hq]; rfl)
  ·obtain ⟨x, hx, hx1⟩ := Yaa (l := l) (by omega)
   have hna : Bj l c.2.2.2.1 = !decide (x.1 < c.2.2.2.1) := by
    unfold Bj
    rw [show ((l.length : Int) == 0) = false by simp; intro h; rw [h] at h0; simp at h0, hx1]; rfl
   rw [Aa (show ((ja l : Nat) : Int) > 0 by omega), hx]
   simp only [zz, jb]
   simp only [hna, Bool.not_not] at key
   exact key _ (fun hq => by rw [hrun hq]; rfl)
def TN (w : Nat → Nat) (t : Nat) : Nat := ((cond (t.testBit 0) (w 0) 0) ||| (cond (t.testBit 1) (w 1) 0)) ||| ((cond (t.testBit 2) (w 2) 0) ||| (cond (t.testBit 3) (w 3) 0))
theorem Aar (w : Nat → Nat) (s t : Nat) : TN w (s ||| t) = TN w s ||| TN w t := by
 apply zp
 intro i
 simp only [TN, zq]
 cases s.testBit 0 <;> cases s.testBit 1 <;> cases s.testBit 2 <;> cases s.testBit 3 <;> cases t.testBit 0 <;> cases t.testBit 1 <;> cases t.testBit 2 <;> cases t.testBit 3 <;>
  simp only [Bool.or_true, Bool.true_or, Bool.or_false, zd, zz, ua, Nat.zero_testBit] <;>
  cases (w 0).testBit i <;> cases (w 1).testBit i <;> cases (w 2).testBit i <;> cases (w 3).testBit i <;> rfl
def tri (i j : Nat) : Nat := if i ≤ j then j * (j + 1) / 2 + i else i * (i + 1) / 2 + j
def QE (e i j : Nat) : Bool := e.testBit (tri i j)
def GW (e s t : Nat) : Bool :=
 (s.testBit 0 && (t.testBit 0 && QE e 0 0 || t.testBit 1 && QE e 0 1 || (t.testBit 2 && QE e 0 2 || t.testBit 3 && QE e 0 3)) || s.testBit 1 && (t.testBit 0 && QE e 1 0 || t.testBit 1 && QE e 1 1 || (t.testBit 2 && QE e 1 2 || t.testBit 3 && QE e 1 3))) ||
 (s.testBit 2 && (t.testBit 0 && QE e 2 0 || t.testBit 1 && QE e 2 1 || (t.testBit 2 && QE e 2 2 || t.testBit 3 && QE e 2 3)) || s.testBit 3 && (t.testBit 0 && QE e 3 0 || t.testBit 1 && QE e 3 1 || (t.testBit 2 && QE e 3 2 || t.testBit 3 && QE e 3 3)))
def Lal (e a b s : Nat) : Nat := cond (GW e (rowN 4 s a) (rowN 4 s b)) (s ||| rowN 4 s b <<< (a * 4)) s
def a3 (e a : Nat) : Nat → Nat → Nat := fun b s => Lal e a b s
def a2 (e R : Nat) : Nat → Nat → Nat := fun a s => Yd (a3 e a) R s
def a1 (e R : Nat) : Nat → Nat → Nat := fun _ s => Yd (a2 e R) R s
def CS (e R : Nat) : Nat := Yd (a1 e R) R 33825
def GK (e R s : Nat) : Bool := (zi R).all fun a => (zi R).all fun b => !GW e (rowN 4 s a) (rowN 4 s b) || (rowN 4 s a ||| rowN 4 s b == rowN 4 s a)
theorem Tay : ∀ e : Fin 2, GK e.val 1 (CS e.val 1) = true := by decide +kernel
theorem Uay : ∀ e : Fin 8, GK e.val 2 (CS e.val 2) = true := by decide +kernel
theorem Vay : ∀ e : Fin 64, GK e.val 3 (CS e.val 3) = true := by decide +kernel
theorem Way : ∀ e : Fin 1024, GK e.val 4 (CS e.val 4) = true := by decide +kernel
theorem Uaj {e R : Nat} (he : e < 2 ^ (R * (R + 1) / 2)) (h1 : 1 ≤ R) (h4 : R ≤ 4) : GK e R (CS e R) = true := by
 have : R = 1 ∨ R = 2 ∨ R = 3 ∨ R = 4 := by omega
 rcases this with rfl | rfl | rfl | rfl
 ·exact Tay ⟨e, he⟩
 ·exact Uay ⟨e, he⟩
 ·exact Vay ⟨e, he⟩
 ·exact Way ⟨e, he⟩
theorem DF (x y : Nat) : (x &&& y != 0) = true ↔ ∃ k, x.testBit k = true ∧ y.testBit k = true := by
 rw [bne_iff_ne]
 constructor
 ·intro h
  obtain ⟨k, hk⟩ := Nat.exists_testBit_of_ne_zero h
  rw [zr, jd] at hk
  exact ⟨k, hk⟩
 ·rintro ⟨k, h1, h2⟩ h0
  have : (x &&& y).testBit k = true := by rw [zr, h1, h2]; rfl
  rw [h0, Nat.zero_testBit] at this
  exact absurd this (by decide)
theorem OW (w : Nat → Nat) (t k : Nat) : (TN w t).testBit k = true ↔ ∃ i, i < 4 ∧ t.testBit i = true ∧ (w i).testBit k = true := by
 have e : (TN w t).testBit k = ((t.testBit 0 && (w 0).testBit k || t.testBit 1 && (w 1).testBit k) || (t.testBit 2 && (w 2).testBit k || t.testBit 3 && (w 3).testBit k)) := by
  simp only [TN, zq]
  cases t.testBit 0 <;> cases t.testBit 1 <;> cases t.testBit 2 <;> cases t.testBit 3 <;> simp
 rw [e]
 simp only [ye, jd]
 constructor
 ·rintro ((h | h) | (h | h))
  ·exact ⟨0, by omega, h⟩
  ·exact ⟨1, by omega, h⟩
  ·exact ⟨2, by omega, h⟩
  ·exact ⟨3, by omega, h⟩
 ·rintro ⟨i, hi, h⟩
  have : i = 0 ∨ i = 1 ∨ i = 2 ∨ i = 3 := by omega
  rcases this with rfl | rfl | rfl | rfl
  ·exact .inl (.inl h)
  ·exact .inl (.inr h)
  ·exact .inr (.inl h)
  ·exact .inr (.inr h)
theorem Sap (e s t : Nat) : GW e s t = true ↔ ∃ i j, i < 4 ∧ j < 4 ∧ s.testBit i = true ∧ t.testBit j = true ∧ QE e i j = true := by
 have h4 : ∀ p : Nat → Prop, (∃ i, i < 4 ∧ p i) ↔ ((p 0 ∨ p 1) ∨ (p 2 ∨ p 3)) := by
  intro p
  constructor
  ·rintro ⟨i, hi, h⟩
   have : i = 0 ∨ i = 1 ∨ i = 2 ∨ i = 3 := by omega
   rcases this with rfl | rfl | rfl | rfl
   ·exact .inl (.inl h)
   ·exact .inl (.inr h)
   ·exact .inr (.inl h)
   ·exact .inr (.inr h)
  ·rintro ((h | h) | (h | h))
   ·exact ⟨0, by omega, h⟩
   ·exact ⟨1, by omega, h⟩
   ·exact ⟨2, by omega, h⟩
   ·exact ⟨3, by omega, h⟩
 have h5 : (∃ i j, i < 4 ∧ j < 4 ∧ s.testBit i = true ∧ t.testBit j = true ∧ QE e i j = true) ↔ ∃ i, i < 4 ∧ (s.testBit i = true ∧ ∃ j, j < 4 ∧ (t.testBit j = true ∧ QE e i j = true)) := by
  constructor
  ·rintro ⟨i, j, a, b, c, d, f⟩; exact ⟨i, a, c, j, b, d, f⟩
  ·rintro ⟨i, a, c, j, b, d, f⟩; exact ⟨i, j, a, b, c, d, f⟩
 rw [h5, h4]
 simp only [h4]
 simp only [GW, ye, jd]
def Lu (w : Nat → Nat) : Nat :=
 ((cond (w 0 &&& w 0 != 0) 1 0) ||| (cond (w 0 &&& w 1 != 0) 2 0) ||| (cond (w 1 &&& w 1 != 0) 4 0) ||| (cond (w 0 &&& w 2 != 0) 8 0) ||| (cond (w 1 &&& w 2 != 0) 16 0)) |||
 ((cond (w 2 &&& w 2 != 0) 32 0) ||| (cond (w 0 &&& w 3 != 0) 64 0) ||| (cond (w 1 &&& w 3 != 0) 128 0) ||| (cond (w 2 &&& w 3 != 0) 256 0) ||| (cond (w 3 &&& w 3 != 0) 512 0))
theorem U0 (w : Nat → Nat) : ∀ i j, i < 4 → j < 4 → QE (Lu w) i j = (w i &&& w j != 0) := by
 have hc : ∀ i j, (w i &&& w j != 0) = (w j &&& w i != 0) := fun i j => by rw [Nat.and_comm]
 have key : ∀ b0 b1 b2 b3 b4 b5 b6 b7 b8 b9 : Bool,
  (let e := ((cond b0 1 0) ||| (cond b1 2 0) ||| (cond b2 4 0) ||| (cond b3 8 0) ||| (cond b4 16 0)) |||
 ((cond b5 32 0) ||| (cond b6 64 0) ||| (cond b7 128 0) ||| (cond b8 256 0) ||| (cond b9 512 0))
  e.testBit 0 = b0 ∧ e.testBit 1 = b1 ∧ e.testBit 2 = b2 ∧ e.testBit 3 = b3 ∧ e.testBit 4 = b4 ∧ e.testBit 5 = b5 ∧ e.testBit 6 = b6 ∧ e.testBit 7 = b7 ∧ e.testBit 8 = b8 ∧ e.testBit 9 = b9) := by decide +kernel
 have := key (w 0 &&& w 0 != 0) (w 0 &&& w 1 != 0) (w 1 &&& w 1 != 0) (w 0 &&& w 2 != 0) (w 1 &&& w 2 != 0) (w 2 &&& w 2 != 0) (w 0 &&& w 3 != 0) (w 1 &&& w 3 != 0) (w 2 &&& w 3 != 0) (w 3 &&& w 3 != 0)
 obtain ⟨h0, h1, h2, h3, h4, h5, h6, h7, h8, h9⟩ := this
 intro i j hi hj
 have i4 : i = 0 ∨ i = 1 ∨ i = 2 ∨ i = 3 := by omega
 have j4 : j = 0 ∨ j = 1 ∨ j = 2 ∨ j = 3 := by omega
 rcases i4 with rfl | rfl | rfl | rfl <;> rcases j4 with rfl | rfl | rfl | rfl
 ·exact h0
 ·exact h1
 ·exact h3
 ·exact h6
 ·rw [hc]; exact h1
 ·exact h2
 ·exact h4
 ·exact h7
 ·rw [hc]; exact h3
 ·rw [hc]; exact h4
 ·exact h5
 ·exact h8
 ·rw [hc]; exact h6
 ·rw [hc]; exact h7
 ·rw [hc]; exact h8
 ·exact h9
theorem Mas (w : Nat → Nat) {R : Nat} (h1 : 1 ≤ R) (h4 : R ≤ 4) (hw : ∀ i, R ≤ i → w i = 0) : Lu w < 2 ^ (R * (R + 1) / 2) := by
 have k1 : ∀ b : Bool, cond b 1 0 < 2 := by decide
 have k2 : ∀ b0 b1 b2 : Bool, (cond b0 1 0 ||| cond b1 2 0 ||| cond b2 4 0) < 8 := by decide
 have k3 : ∀ b0 b1 b2 b3 b4 b5 : Bool, ((cond b0 1 0 ||| cond b1 2 0 ||| cond b2 4 0 ||| cond b3 8 0 ||| cond b4 16 0) ||| cond b5 32 0) < 64 := by decide +kernel
 have k4 : ∀ b0 b1 b2 b3 b4 b5 b6 b7 b8 b9 : Bool, ((((cond b0 1 0) ||| (cond b1 2 0) ||| (cond b2 4 0) ||| (cond b3 8 0) ||| (cond b4 16 0)) |||  ((cond b5 32 0) ||| (cond b6 64 0) ||| (cond b7 128 0) ||| (cond b8 256 0) ||| (cond b9 512 0))) < 1024) := by decide +kernel
 have : R = 1 ∨ R = 2 ∨ R = 3 ∨ R = 4 := by omega
 rcases this with rfl | rfl | rfl | rfl
 ·have := k1 (w 0 &&& w 0 != 0)
  simpa [Lu, hw 1 (by omega), hw 2 (by omega), hw 3 (by omega)] using this
 ·have := k2 (w 0 &&& w 0 != 0) (w 0 &&& w 1 != 0) (w 1 &&& w 1 != 0)
  simpa [Lu, hw 2 (by omega), hw 3 (by omega)] using this
 ·have := k3 (w 0 &&& w 0 != 0) (w 0 &&& w 1 != 0) (w 1 &&& w 1 != 0) (w 0 &&& w 2 != 0) (w 1 &&& w 2 != 0) (w 2 &&& w 2 != 0)
  simpa [Lu, hw 3 (by omega)] using this
 ·exact k4 _ _ _ _ _ _ _ _ _ _
theorem K6 (w : Nat → Nat) (s t : Nat) : (TN w s &&& TN w t != 0) = GW (Lu w) s t := by
 rw [qx, DF, Sap]
 constructor
 ·rintro ⟨k, h1, h2⟩
  obtain ⟨i, hi, a, b⟩ := (OW w s k).1 h1
  obtain ⟨j, hj, c, d⟩ := (OW w t k).1 h2
  refine ⟨i, j, hi, hj, a, c, ?_⟩
  rw [U0 w i j hi hj, DF]
  exact ⟨k, b, d⟩
 ·rintro ⟨i, j, hi, hj, a, c, h⟩
  rw [U0 w i j hi hj, DF] at h
  obtain ⟨k, b, d⟩ := h
  exact ⟨k, (OW w s k).2 ⟨i, hi, a, b⟩, (OW w t k).2 ⟨j, hj, c, d⟩⟩
def MG (w : Nat → Nat) (C R m s : Nat) : Prop := ∀ r, r < R → rowN C m r = TN w (rowN 4 s r)
theorem NR {S T : Type} {g : Nat → S → S} {h : Nat → T → T} {p : S → T → Prop} {n : Nat} {s0 : S} {t0 : T} (h0 : p s0 t0) (hs : ∀ k s t, k < n → p s t → p (g k s) (h k t)) : ∀ k, k ≤ n → p (Yd g k s0) (Yd h k t0)
 | 0, _ => h0
 | k + 1, hk => hs k _ _ (by omega) (NR h0 hs k (by omega))
theorem Xau {w : Nat → Nat} {C R m s a b : Nat} (ha : a < R) (hb : b < R) (h : MG w C R m s) : MG w C R (Wv C a b m) (Lal (Lu w) a b s) := by
 unfold Wv Lal
 rw [h a ha, h b hb, K6]
 cases GW (Lu w) (rowN 4 s a) (rowN 4 s b) with
 | false => exact h
 | true =>
  simp only [zz]
  intro r hr
  rw [Hac C m a _ r (by rw [← h b hb]; exact XL C m b), Hac 4 s a _ r (XL 4 s b)]
  by_cases e : r = a
  ·rw [if_pos e, if_pos e, Aar, h a ha]
  ·rw [if_neg e, if_neg e, h r hr]
theorem QaU {w : Nat → Nat} {C R m s a : Nat} (ha : a < R) (h : MG w C R m s) : MG w C R (Yd (g3 C a) R m) (Yd (a3 (Lu w) a) R s) :=
 NR (p := MG w C R) (g := g3 C a) (h := a3 (Lu w) a) (n := R) h (fun b s t hb h3 => Xau ha hb h3) R (jo R)
theorem PaU {w : Nat → Nat} {C R m s : Nat} (h : MG w C R m s) : MG w C R (Yd (g2 C R) R m) (Yd (a2 (Lu w) R) R s) :=
 NR (p := MG w C R) (g := g2 C R) (h := a2 (Lu w) R) (n := R) h (fun a s t ha h3 => QaU ha h3) R (jo R)
theorem OaU {w : Nat → Nat} {C R m s : Nat} (h : MG w C R m s) : MG w C R (Yd (g1 C R) R m) (Yd (a1 (Lu w) R) R s) :=
 NR (p := MG w C R) (g := g1 C R) (h := a1 (Lu w) R) (n := R) h (fun _ s t _ h3 => PaU h3) R (jo R)
def A7 (C R m i : Nat) : Nat := if i < R then rowN C m i else 0
theorem Wau {C R m : Nat} (hR : R ≤ 4) : MG (A7 C R m) C R (Uh C R m) (CS (Lu (A7 C R m)) R) := by
 have h0 : MG (A7 C R m) C R m 33825 := by
  intro r hr
  have : r = 0 ∨ r = 1 ∨ r = 2 ∨ r = 3 := by omega
  have e0 : rowN 4 33825 0 = 1 := by decide
  have e1 : rowN 4 33825 1 = 2 := by decide
  have e2 : rowN 4 33825 2 = 4 := by decide
  have e3 : rowN 4 33825 3 = 8 := by decide
  rcases this with rfl | rfl | rfl | rfl
  ·rw [e0, show rowN C m 0 = A7 C R m 0 from (if_pos hr).symm]; simp [TN, show zy 1 1 = false from by decide, show zy 1 2 = false from by decide, show zy 1 3 = false from by decide]
  ·rw [e1, show rowN C m 1 = A7 C R m 1 from (if_pos hr).symm]; simp [TN, show zy 2 0 = false from by decide, show zy 2 1 = true from by decide, show zy 2 2 = false from by decide, show zy 2 3 = false from by decide]
  ·rw [e2, show rowN C m 2 = A7 C R m 2 from (if_pos hr).symm]; simp [TN, show zy 4 0 = false from by decide, show zy 4 1 = false from by decide, show zy 4 2 = true from by decide, show zy 4 3 = false from by decide]
  ·rw [e3, show rowN C m 3 = A7 C R m 3 from (if_pos hr).symm]; simp [TN, show zy 8 0 = false from by decide, show zy 8 1 = false from by decide, show zy 8 2 = false from by decide, show zy 8 3 = true from by decide]
 unfold Uh CS
 exact OaU h0
theorem Fal {C m a x : Nat} (h : rowN C m a ||| x = rowN C m a) : m ||| x <<< (a * C) = m := by
 apply zp
 intro i
 rw [zq, Nat.testBit_shiftLeft]
 cases hx : (decide (i ≥ a * C) && x.testBit (i - a * C)) with
 | false => simp
 | true =>
  simp only [jd, decide_eq_true_eq] at hx
  have h1 : (rowN C m a).testBit (i - a * C) = true := by rw [← h, zq, hx.2]; simp
  rw [YE, jd] at h1
  have h2 := h1.2
  rw [show a * C + (i - a * C) = i by omega] at h2
  rw [h2]; rfl
theorem LR {S : Type} {g : Nat → S → S} {n : Nat} {s : S} (h : ∀ k, k < n → g k s = s) : ∀ k, k ≤ n → Yd g k s = s
 | 0, _ => rfl
 | k + 1, hk => by
  show g k (Yd g k s) = s
  rw [LR h k (by omega)]
  exact h k (by omega)
theorem P6 {C R m : Nat} (h : MJ C R) : Uh C R (Uh C R m) = Uh C R m := by
 have hrel := Wau (C := C) (m := m) h.r2
 have hcl := Uaj (Mas (A7 C R m) h.r1 h.r2 fun i hi => if_neg (by omega)) h.r1 h.r2
 have hst : ∀ a b, a < R → b < R → Wv C a b (Uh C R m) = Uh C R m := by
  intro a b ha hb
  unfold Wv
  cases hc : (rowN C (Uh C R m) a &&& rowN C (Uh C R m) b != 0) with
  | false => rfl
  | true =>
   simp only [zz]
   apply Fal
   rw [hrel a ha, hrel b hb] at hc ⊢
   rw [K6] at hc
   simp only [GK, zg, List.mem_range, ye, yx, beq_iff_eq] at hcl
   rcases hcl a ha b hb with h1 | h1
   ·rw [hc] at h1; exact absurd h1 (by decide)
   ·rw [← Aar, h1]
 unfold Uh at hst ⊢
 exact LR (n := R) (fun _ _ => LR (n := R) (fun a ha => LR (n := R) (fun b hb => hst a b ha hb) R (jo R)) R (jo R)) R (jo R)
theorem MX {M : Qd} {x : Int} (h : Ic M x = true) : Aq M (Cm M x) = true := by
 unfold Aq
 rw [Haq h, jk, beq_iff_eq]
 obtain ⟨C, R, m, d, rfl, rfl, hd, hm⟩ := EA h
 rw [ZI, ZI]
 cases d with
 | true => rfl
 | false =>
  show ((Uh C R (Uh C R m) : Nat) : Int) = _
  rw [P6 hd]; rfl
def PC (a b t : Int) (k : Nat) (o : List Ca) : List Ca := cond (Wd a (k : Int) != Wd b (k : Int)) (jf o [(t, (k : Int), Wd b (k : Int) == 1, ())]) o
def UO (a b t : Int) : List Ca := Yd (PC a b t) 32 []
theorem Jaa (a b t : Int) : ∀ n, (Yd (PC a b t) n []).length ≤ n
 | 0 => jo _
 | n + 1 => by
  have ih := Jaa a b t n
  show (PC a b t n (Yd (PC a b t) n [])).length ≤ n + 1
  unfold PC at ih ⊢
  cases Wd a (n : Int) != Wd b (n : Int)
  ·simp only [ua]; omega
  ·simp only [zz]; simp; omega
theorem U1 (a b t : Int) : Rq a b t = some (UO a b t, ()) := by
 have hl := Vl (step := fun x => Ul x.1.1 x.1.2.1 x.1.2.2.1 x.1.2.2.2.1 x.1.2.2.2.2.1) 32 (by omega) (PC a b t) [] (fun o i => ((a, b, t, o, i, ()), ())) (fun o => .inl ((o, ()), ())) (by
  intro k hk
  have hlen := Jaa a b t k
  simp only [Ul]
  rw [Aa (by omega), Tl a (by omega), Tl b (by omega)]
  simp only [zz, jb]
  show _ = some (Sum.inl ((a, b, t, PC a b t k (Yd (PC a b t) k []), _, ()), ()))
  generalize Yd (PC a b t) k [] = o at hlen ⊢
  unfold PC
  have hb : ∀ v : Ca, jx (ja o + ja [v]) Xa = true := fun v => ji (by rw [Tf]; simp only [jw, qb]; omega)
  cases Wd a (k : Int) != Wd b (k : Int)
  ·rfl
  ·simp only [zz, hb]) (by
  simp only [Ul]
  rw [Ba (by omega)]; rfl)
 unfold Rq Pn
 erw [hl]
 rfl
noncomputable def KK (b : Vb) (x : Int) : Bool := Rj b && (Ic b.1 x && !decide (b.2.2.2.2.2.1 ≥ 1000000))
def Ol (b : Vb) (x : Int) : Int := C9 b.1 b.2.2.2.2.1 (Cm b.1 x)
def Kh (b : Vb) (x : Int) : Rb := (JF b.2.1 (Ol b x)).1
def Aw (b : Vb) (x : Int) : Ea × ((List Ca) × (Bool × Unit)) := XJ b.2.2.1 (UO b.2.1.2.2.2.1 (Kh b x).2.2.2.1 b.2.2.2.2.2.1) b.2.2.2.2.2.1
noncomputable def Ow (b : Vb) (x : Int) : Eb × ((List Sd) × (Bool × Unit)) := CK b.2.2.2.1 (Aw b x).2.1 b.2.2.2.2.2.1
noncomputable def Uf (b : Vb) (x : Int) : Vb × ((List Sd) × (Bool × Unit)) :=
 cond (KK b x && ((Aw b x).2.2.1 && (Ow b x).2.2.1))
  ((b.1, Kh b x, (Aw b x).1, (Ow b x).1, Ol b x, j9 .i64 (b.2.2.2.2.2.1 + 1), ()), (Ow b x).2.1, true, ()) (GG, [], false, ())
structure Vai (b : Vb) (x : Int) : Prop where
 bd : Rj b = true
 msk : Ic b.1 x = true
 old : Ic b.1 b.2.2.2.2.1 = true
 dk : b.2.1.2.2.1 = Dc b.1
 db : Gd b.2.1 = true
 cb : Md b.2.2.1 = true
 dc : Xd b.2.2.2.1 = true
 t : 0 ≤ b.2.2.2.2.2.1 ∧ b.2.2.2.2.2.1 ≤ 1000000
theorem YP {b : Vb} {x : Int} (h : Rj b = true) (hm : Ic b.1 x = true) : Vai b x := by
 have hb := h
 simp only [Rj, jd, decide_eq_true_eq, beq_iff_eq] at h
 exact ⟨hb, hm, h.2.2.2.2.2.2.1, h.2.2.2.2.1, h.2.1, h.2.2.1, h.2.2.2.1, h.2.2.2.2.2.2.2.2.1⟩
theorem EM {b : Vb} {x : Int} (h : Vai b x) : MQ b.1 b.2.2.2.2.1 (Cm b.1 x) = true ∧ Ic b.1 (Ol b x) = true ∧ MC b.2.1 (Ol b x) = true := by
 have h1 : MQ b.1 b.2.2.2.2.1 (Cm b.1 x) = true := by
  unfold MQ
  rw [h.old, MX h.msk]; rfl
 have h2 := Las h1
 refine ⟨h1, h2, ?_⟩
 unfold MC
 rw [h.db, jk, h.dk]
 have h3 : Ic b.1 (Ol b x) = true := h2
 simp only [Ic, jd] at h3
 exact h3.2
theorem OT {b : Vb} {x : Int} (h : Vai b x) : JF b.2.1 (Ol b x) = (Kh b x, true, ()) ∧ Kh b x = (b.2.1.1, b.2.1.2.1, b.2.1.2.2.1, (IF b.2.1 (Ol b x)).1, Ol b x, (IF b.2.1 (Ol b x)).2, ()) := by
 have := (EM h).2.2
 unfold Kh JF
 rw [this]
 exact ⟨rfl, rfl⟩
theorem Y9 (c : Ea) (l : List Ca) (til : Int) (hz : Ck c) : (XJ c l til).2.1.length ≤ 64 ∧ Ck (XJ c l til).1 ∧ Jc De (XJ c l til).1 ≤ 200 := by
 unfold XJ
 cases h : CB c l til with
 | false =>
  simp only [ua]
  exact ⟨by simp, ⟨by decide, by decide, by decide, fun x hx => by simp [F7] at hx⟩, by decide⟩
 | true =>
  simp only [CB, jd] at h
  have h1 := Oam (til := til) hz h.1 h.2.2.2.2
  have h2 := X0 64 (Oj c l til) [] h1
  have h3 : (Tb (Oj c l til)).length ≤ 32 := show (Tb c).length ≤ 32 from TV h.1
  have h4 := h2.1.L
  have h5 := h2.1.len
  have h6 := h2.2.1
  have h7 := h2.2.2
  have h20 : Ga = 1048576 := rfl
  simp only [zz]
  refine ⟨by simp at h7; omega, ⟨by omega, by omega, by show (Tb _).length ≤ _; omega, h2.1.r⟩, ?_⟩
  rw [Xad]
  have : (Mb 64 (Oj c l til) []).1.2.2.2.2.2.2.1.length ≤ 96 := by show (Tb _).length ≤ _; omega
  omega
theorem RT {e : Jb} (h : Dq e) : Jc Xc e ≤ 1000 := by
 have hh := DB h.hd
 have h2 : Jc (.sl (.sl Ad)) e.2.1 ≤ (16 + 1) * e.2.1.length := NW (e := .sl Ad) (c := 16) fun x hx => by
  have := h.mac x hx
  simp only [Be, jd, decide_eq_true_eq] at this
  have e2 : Jc (.sl Ad) x = x.length := Bp (e := Ad) rfl x
  omega
 have := h.m4
 have hm := Uj h.km
 have h3 : Jc Oc e.1 ≤ 200 := by
  have h1 : Jc Oc e.1 = 0 + (Jc (.sl (.sl Mc)) e.1.2.1 + 0) := rfl
  have h2 : Jc (.sl (.sl Mc)) e.1.2.1 ≤ (32 + 1) * ja e.1.2.1 := NW (e := .sl Mc) (c := 32) fun x hx => by
   obtain ⟨i, hi, rfl⟩ := qu hx
   rw [J3]
   have := hm.row i hi
   have := hm.k2
   omega
  have := hm.l2
  omega
 rw [Cn, Qm]
 omega
theorem S2 : ∀ (n : Nat) (d : Eb) (s : List Sd), EQ d → (∀ y ∈ s, y.2.1.2.1.length ≤ 56) → EQ (Fd n d s).1 ∧ (Fd n d s).2.length ≤ s.length + 17 * n ∧ (∀ y ∈ (Fd n d s).2, y.2.1.2.1.length ≤ 56)
 | 0, d, s, h, hs => ⟨h, by show s.length ≤ _; omega, hs⟩
 | n + 1, d, s, h, hs => by
  cases hq : d.2.2.1 with
  | nil =>
   have e : Fd (n + 1) d s = (d, s) := by simp only [Fd, hq]
   rw [e]; exact ⟨h, by show s.length ≤ _; omega, hs⟩
  | cons x r =>
   cases hst : Xj d x r with
   | none =>
    have e : Fd (n + 1) d s = (d, s) := by simp only [Fd, hq, hst]
    rw [e]; exact ⟨h, by show s.length ≤ _; omega, hs⟩
   | some p =>
    obtain ⟨d', l⟩ := p
    have e : Fd (n + 1) d s = Fd n d' (Lp s d'.2.2.2.2.1 l) := by simp only [Fd, hq, hst]
    have hn := T4 h hq hst
    have ih := S2 n d' (Lp s d'.2.2.2.2.1 l) hn.1 (fun y hy => by
     rcases jl.1 (show y ∈ s ++ _ from hy) with hy | hy
     ·exact hs y hy
     ·obtain ⟨r', hr', rfl⟩ := qv.1 hy
      exact hn.2.2.2 r' hr')
    have e2 := S6 s d'.2.2.2.2.1 l
    have h17 := hn.2.2.1
    rw [e]
    exact ⟨ih.1, by omega, ih.2.2⟩
theorem Pau (d : Eb) (l : List Ca) (til : Int) : Jc Ge (CK d l til).1 ≤ 2000 ∧ (CK d l til).2.1.length ≤ 1088 ∧ (∀ y ∈ (CK d l til).2.1, y.2.1.2.1.length ≤ 56) := by
 unfold CK
 cases h : Yw d l til with
 | false => simp only [ua]; exact ⟨by decide, by simp, by simp⟩
 | true =>
  simp only [Yw, jd] at h
  have h1 := V3 (til := til) h.1 h.2.2.2.2
  have h2 := S2 (Si d l til).2.2.1.length (Si d l til) [] h1 (by simp)
  have h64 := h1.len
  simp only [zz]
  refine ⟨?_, by have := h2.2.1; simp at this; omega, h2.2.2⟩
  rw [Bw, An]
  have h3 := RT h2.1.eng
  have := h2.1.len
  omega
theorem IL (b : Vb) (x : Int) (hb : Co b) : Ui b x = some (Uf b x) := by
 have h20 : Ga = 1048576 := rfl
 unfold Ui Uf KK
 rw [PF b hb, Nt]
 cases h1 : Rj b with
 | false => rfl
 | true =>
  cases h2 : Ic b.1 x with
  | false => rfl
  | true =>
   have hp := YP h1 h2
   have ha := EM hp
   have hd := OT hp
   simp only [jb, jg, ua, jk]
   cases h3 : decide (b.2.2.2.2.2.1 ≥ 1000000) with
   | true => rfl
   | false =>
    rw [M4 h2]
    simp only [jb, ua]
    rw [E4, ha.1]
    simp only [jb, zz, jg, ua]
    show jz (Dn b.2.1 (Ol b x)) _ = _
    rw [Cad _ _ hb.d, hd.1]
    simp only [jb, jg, ua]
    rw [U1]
    simp only [jb]
    have hev := Jaa b.2.1.2.2.2.1 (Kh b x).2.2.2.1 b.2.2.2.2.2.1 32
    rw [T1 _ _ _ hb.c (by unfold UO; omega)]
    have hcl := Y9 b.2.2.1 (UO b.2.1.2.2.2.1 (Kh b x).2.2.2.1 b.2.2.2.2.2.1) b.2.2.2.2.2.1 hb.c
    have e1 : XJ b.2.2.1 (UO b.2.1.2.2.2.1 (Kh b x).2.2.2.1 b.2.2.2.2.2.1) b.2.2.2.2.2.1 = Aw b x := rfl
    rw [e1] at hcl ⊢
    simp only [jb]
    rw [CU _ _ _ hb.x (by omega)]
    have e2 : CK b.2.2.2.1 (Aw b x).2.1 b.2.2.2.2.2.1 = Ow b x := rfl
    rw [e2]
    simp only [jb, qc, jk]
    cases (Aw b x).2.2.1 with
    | false => rfl
    | true => cases (Ow b x).2.2.1 <;> rfl
theorem H5 (b : Vb) (x : Int) (hb : Co b) : Co (Uf b x).1 ∧ Jc Af (Uf b x).1 ≤ 3000 ∧ (Uf b x).2.1.length ≤ 1088 ∧ (∀ y ∈ (Uf b x).2.1, y.2.1.2.1.length ≤ 56) := by
 have h20 : Ga = 1048576 := rfl
 unfold Uf
 cases h : KK b x && ((Aw b x).2.2.1 && (Ow b x).2.2.1) with
 | false => simp only [ua]; exact ⟨⟨by decide, ⟨by decide, by decide, by decide, fun x hx => by simp [GG] at hx⟩, by decide⟩, by decide, by simp, by simp⟩
 | true =>
  simp only [jd, KK] at h
  have hp := YP h.1.1 h.1.2.1
  have hd := OT hp
  have hdp := ED hp.db
  have hcl := Y9 b.2.2.1 (UO b.2.1.2.2.2.1 (Kh b x).2.2.2.1 b.2.2.2.2.2.1) b.2.2.2.2.2.1 hb.c
  have hpl := Pau b.2.2.2.1 (Aw b x).2.1 b.2.2.2.2.2.1
  have hda : (Kh b x).2.2.2.2.2.1.length ≤ 24 := by
   rw [hd.2]
   have h1 := (Zad hdp (Ol b x)).len
   have h2 := hdp.len
   have h3 := hdp.k2
   show (IF b.2.1 (Ol b x)).2.length ≤ 24
   omega
  simp only [zz]
  refine ⟨⟨by show (Kh b x).2.2.2.2.2.1.length ≤ _; omega, hcl.2.1, by show Jc Ge (Ow b x).1 ≤ _; have := hpl.1; unfold Ow; omega⟩, ?_, hpl.2.1, hpl.2.2⟩
  rw [M9]
  show Jc Je (Kh b x) + (Jc De (Aw b x).1 + Jc Ge (Ow b x).1) ≤ 3000
  rw [Can]
  have h1 : Jc De (Aw b x).1 ≤ 200 := hcl.2.2
  have h2 : Jc Ge (Ow b x).1 ≤ 2000 := hpl.1
  omega
def Tav : Jb := (((0 : Int), ([] : List (List Pa)), ()), ([] : List (List Cc)), (0 : Int), ([] : List Va), (0 : Int), false, ())
noncomputable def LP (e : Jb) (t : Cc) : Eb × (Bool × Unit) := cond (Xd (No e t)) (No e t, true, ()) (GM, false, ())
theorem Aae (e : Jb) (t : Cc) : Jc Ge (No e t) = Jc Xc e := by
 rw [Bw]
 show Jc Xc e + Jc (.sl Bc) [] = _
 rw [An]; rfl
theorem RS (e : Jb) (t : Cc) (hz : Jc Xc e ≤ Ga) : Ey e t = some (LP e t) := by
 unfold Ey LP
 rw [Am _ hz]
 simp only [jb]
 have := Ks (No e t) (by rw [Aae]; exact hz)
 unfold No at this
 rw [this]
 unfold No
 cases Xd (e, t, ([] : List Ca), (0 : Int), (0 : Int), (0 : Int), (0 : Int), ()) <;> rfl
theorem SS (e : Jb) (t : Cc) (hz : Jc Xc e ≤ Ga) : Xq e t = some (LP e t) := by
 unfold Xq LP
 have := QJ (No e t) (by rw [Aae]; exact hz)
 unfold No at this
 rw [this]
 simp only [jb]
 unfold No
 cases Xd (e, t, ([] : List Ca), (0 : Int), (0 : Int), (0 : Int), (0 : Int), ()) with
 | false => rfl
 | true =>
  simp only [jg, ua, zz]
  rw [IH _ hz]
  rfl
theorem UT {α S R : Type} (g : S → α → S ⊕ R) : ∀ (l l2 : List α) (k j : Nat) (s s' : S), Wa (fun _ s x => g s x) k s l = .inl s' → Wa (fun _ s x => g s x) k s (l ++ l2) = Wa (fun _ s x => g s x) j s' l2
 | [], l2, k, j, s, s', h => by
  simp only [Wa, zk] at h
  subst h
  exact Rl g l2 k j s
 | x :: l, l2, k, j, s, s', h => by
  simp only [Wa, yu] at h ⊢
  cases hx : g s x with
  | inl s1 => rw [hx] at h; exact UT g l l2 (k + 1) j s1 s' h
  | inr r => rw [hx] at h; simp at h
theorem Pab {l l2 : List Cc} {L : List Va} (h : RR l = .inl L) : RR (l ++ l2) = Wa (fun _ L x => Wk L x) 0 L l2 := UT Wk l l2 0 0 [] L h
theorem IaB {c m : Int} (h : Zc (2, c, m, 0, ()) = true) : Wa (fun _ L x => Wk L x) 0 [] [((0 : Int), c, m, ())] = .inl [] := by
 simp only [Wa, Wk, Ed, Ok]
 rw [h]
 rfl
theorem Qap {c m c2 : Int} (h : Zc (2, c, m, 0, ()) = true) (h2 : Zc (2, c2, 8, 0, ()) = true) (hm : m ≠ 8) :
 Wa (fun _ L x => Wk L x) 0 [] [((1 : Int), c, m, ()), ((0 : Int), c2, (8 : Int), ()), ((2 : Int), c, m, ())] = .inl [] := by
 have e1 : Qh c2 8 (Hh ((1 : Int), c, m, ())) = false := by unfold Qh Hh; simp [hm]
 have e2 : Qh c m (Hh ((1 : Int), c, m, ())) = true := by unfold Qh Hh; simp
 have a1 : Wk [] ((1 : Int), c, m, ()) = .inl [Hh ((1 : Int), c, m, ())] := by
  simp only [Wk, Ed, Ok]
  rw [h]
  rfl
 have a2 : Wk [Hh ((1 : Int), c, m, ())] ((0 : Int), c2, (8 : Int), ()) = .inl [Hh ((1 : Int), c, m, ())] := by
  have f : Ed (Qh c2 8) 0 [Hh ((1 : Int), c, m, ())] = -1 := by simp only [Ed]; rw [e1]; rfl
  show cond (Ok ((0 : Int), c2, (8 : Int), ()) (Ed (Qh c2 8) 0 [Hh ((1 : Int), c, m, ())])) (Sum.inl (DH ((0 : Int), c2, (8 : Int), ()) [Hh ((1 : Int), c, m, ())] (Ed (Qh c2 8) 0 [Hh ((1 : Int), c, m, ())]))) (Sum.inr ()) = _
  rw [f]
  unfold Ok
  rw [h2]
  rfl
 have a3 : Wk [Hh ((1 : Int), c, m, ())] ((2 : Int), c, m, ()) = .inl [] := by
  have f : Ed (Qh c m) 0 [Hh ((1 : Int), c, m, ())] = 0 := by simp only [Ed]; rw [e2]; rfl
  show cond (Ok ((2 : Int), c, m, ()) (Ed (Qh c m) 0 [Hh ((1 : Int), c, m, ())])) (Sum.inl (DH ((2 : Int), c, m, ()) [Hh ((1 : Int), c, m, ())] (Ed (Qh c m) 0 [Hh ((1 : Int), c, m, ())]))) (Sum.inr ()) = _
  rw [f]
  unfold Ok
  rw [h]
  rfl
 simp only [Wa, a1, a2, a3]
theorem XaE {c m : Int} (hc : 1 ≤ c ∧ c ≤ 56) (hm : 0 ≤ m ∧ m ≤ 15) : Zc (2, c, m, 0, ()) = true := by
 rw [Qb]
 show Xb 2 c m 0
 unfold Xb
 omega
theorem Aau {l : List Cc} (h : RR l = .inl []) (hl : l.length ≤ 6) : Be l = true := by
 unfold Be
 rw [h, Aa (by omega)]
 rfl
theorem Zan {c : Ab} (hc : Di c) : ∃ (c' : Ab) (l : List Cc), JI c = some (c', (l, ())) ∧ Di c' ∧ Be l = true ∧ l.length ≤ 6 := by
 obtain ⟨c1, x1, e1, hc1, b1⟩ := Fh hc 3 (by omega)
 obtain ⟨x, rfl⟩ := jv b1.1
 unfold JI
 rw [e1]
 simp only [jb]
 have step := CA (s := fun x : ((Unit × (List Cc × (Int × Unit))) × (Ab × Unit)) => EG x.1.1 x.1.2.1 x.1.2.2.1 x.2.1)
  (fun z y => ∃ (c' : Ab) (l : List Cc), y = (((), l, (z : Int), ()), (c', ())) ∧ Di c' ∧ RR l = .inl [] ∧ l.length + 3 * z ≤ 6)
  (fun r => ∃ (c' : Ab) (l : List Cc), r = .inl (((), l, ()), (c', ())) ∧ Di c' ∧ RR l = .inl [] ∧ l.length ≤ 6) (by
  rintro z y ⟨c', l, rfl, hc', hm, hl⟩
  simp only [EG]
  by_cases h1 : (z : Int) > 0
  ·rw [Aa h1]
   obtain ⟨c3, k, e3, hc3, bk⟩ := Fh hc' 56 (by omega)
   obtain ⟨c4, m, e4, hc4, hmm⟩ := Tag hc3 [(0 : Int), (0 : Int), (2 : Int), (1 : Int)] (by simp) (by simp)
   obtain ⟨c5, b, e5, hc5⟩ := MB hc4 2 (by omega)
   have hm3 : m = 0 ∨ m = 2 ∨ m = 1 := by simpa using hmm
   have hw : j9 .i64 ((z : Int) - 1) = ((z - 1 : Nat) : Int) := by rw [Qc (by omega) (by omega)]; omega
   rw [e3]
   simp only [zz, jb, e4, e5]
   rw [hw, Qc (n := 1 + k) (by omega) (by omega)]
   have ha := XaE (c := 1 + k) (m := m) (by omega) (by omega)
   cases b with
   | true =>
    simp only [zz]
    rw [Ng (by simp; omega)]
    refine .inr ⟨_, z - 1, by omega, rfl, c5, _, rfl, hc5, ?_, ?_⟩
    ·rw [zv, Pab hm]; exact IaB ha
    ·rw [zv, qh]; simp; omega
   | false =>
    simp only [ua]
    rw [Ng (by simp; omega)]
    refine .inr ⟨_, z - 1, by omega, rfl, c5, _, rfl, hc5, ?_, ?_⟩
    ·rw [zv, Pab hm, Qc (n := (60 : Int) - ((ja l : Nat) : Int)) (by omega) (by omega), Qc (n := (60 : Int) - ((ja l : Nat) : Int) - 10) (by omega) (by omega)]
     exact Qap ha (XaE (by omega) (by omega)) (by omega)
    ·rw [zv, qh]; simp; omega
  ·rw [Ba h1]
   exact .inl ⟨_, rfl, c', l, rfl, hc', hm, by omega⟩) x (((), ([] : List Cc), (x : Int), ()), (c1, ())) ⟨c1, [], rfl, hc1, rfl, by simp; omega⟩
 obtain ⟨r, e, c', l, rfl, hc', hm, hl⟩ := step
 unfold VA
 erw [e]
 exact ⟨c', l, rfl, hc', Aau hm hl, hl⟩
def Tm (m : Db) (M : List (List Cc)) : Jb := (m, M, (0 : Int), ([] : List Va), (0 : Int), false, ())
theorem X3 {m : Db} {M : List (List Cc)} (hm : Ce m = true) (h4 : M.length ≤ 4) (hM : ∀ x ∈ M, Be x = true) : Dq (Tm m M) :=
 ⟨hm, h4, (Yay hm).hd, hM, fun x hx => absurd hx (by simp [Tm]), CaI _⟩
theorem KZ {m : Db} {M : List (List Cc)} (hm : Ce m = true) (h4 : M.length ≤ 4) (hM : ∀ x ∈ M, Be x = true) : RB m M = some (Tm m M, true, ()) := by
 have h := X3 hm h4 hM
 have hs := XV h
 have h1 := BM (Tm m M) (by omega)
 have h2 := IH (Tm m M) (by omega)
 rw [(TO _).2 h] at h1
 unfold RB
 unfold Tm at h1 h2 ⊢
 rw [h1]
 simp only [jb, jg, ua]
 rw [h2]
 rfl
theorem Yat {c : Ab} (hc : Di c) {keys : Nat} (hk1 : 1 ≤ keys) (hk : keys ≤ 32) : ∃ (c' : Ab) (m : Db) (M : List (List Cc)), FK c (keys : Int) = some (c', (Tm m M, ())) ∧ Di c' ∧ Ce m = true ∧ m.1 = (keys : Int) ∧ M.length ≤ 3 ∧ ∀ x ∈ M, Be x = true ∧ x.length ≤ 6 := by
 obtain ⟨c1, x1, e1, hc1, b1⟩ := Fh hc 4 (by omega)
 obtain ⟨x, rfl⟩ := jv b1.1
 unfold FK
 rw [e1]
 simp only [jb]
 have step := CA (s := fun x : ((Unit × (Int × (Unit × (List (List Cc) × (Int × Unit))))) × (Ab × (Jb × Unit))) => JH x.1.1 x.1.2.1 x.1.2.2.1 x.1.2.2.2.1 x.1.2.2.2.2.1 x.2.1 x.2.2.1)
  (fun z y => ∃ (c' : Ab) (M : List (List Cc)), y = (((), (keys : Int), (), M, (z : Int), ()), (c', Tav, ())) ∧ Di c' ∧ M.length + z ≤ 3 ∧ ∀ x ∈ M, Be x = true ∧ x.length ≤ 6)
  (fun r => ∃ (c' : Ab) (M : List (List Cc)), r = .inl (((), (keys : Int), (), M, ()), (c', Tav, ())) ∧ Di c' ∧ M.length ≤ 3 ∧ ∀ x ∈ M, Be x = true ∧ x.length ≤ 6) (by
  rintro z y ⟨c', M, rfl, hc', hz, hM⟩
  simp only [JH]
  by_cases h1 : (z : Int) > 0
  ·rw [Aa h1]
   obtain ⟨c3, l, e3, hc3, hl, hl6⟩ := Zan hc'
   have hw : j9 .i64 ((z : Int) - 1) = ((z - 1 : Nat) : Int) := by rw [Qc (by omega) (by omega)]; omega
   rw [e3]
   simp only [zz, jb]
   rw [hw, Ng (by simp; omega)]
   refine .inr ⟨_, z - 1, by omega, rfl, c3, _, rfl, hc3, ?_, ?_⟩
   ·rw [zv, qh]; simp; omega
   ·intro x hx
    rcases jl.1 (show x ∈ M ++ [l] from hx) with h | h
    ·exact hM x h
    ·simp at h; subst h; exact ⟨hl, hl6⟩
  ·rw [Ba h1]
   exact .inl ⟨_, rfl, c', M, rfl, hc', by omega, hM⟩) x (((), (keys : Int), (), ([] : List (List Cc)), (x : Int), ()), (c1, Tav, ())) ⟨c1, [], rfl, hc1, by simp; omega, by simp⟩
 obtain ⟨r, e, c', M, rfl, hc', hz, hM⟩ := step
 unfold JC
 erw [e]
 simp only [jb, qm]
 obtain ⟨c2, m, e2, hc2, hm, hmk⟩ := Yan hc' hk1 hk
 rw [e2]
 simp only [jb]
 rw [KZ hm (by omega) (fun x hx => (hM x hx).1)]
 exact ⟨c2, m, M, rfl, hc2, hm, hmk, hz, hM⟩
theorem I6 {c : Ab} (hc : Di c) {keys : Nat} (hk1 : 1 ≤ keys) (hk : keys ≤ 32) : ∃ (c' : Ab) (m : Db) (M : List (List Cc)) (t : Cc), Ax c (keys : Int) = some (c', (No (Tm m M) t, ())) ∧ Di c' ∧ Ce m = true ∧ m.1 = (keys : Int) ∧ M.length ≤ 3 ∧
 (∀ x ∈ M, Be x = true ∧ x.length ≤ 6) ∧ Kf t = true ∧ t.1 ≤ 9 := by
 obtain ⟨c1, m1, M, e1, hc1, hm1, hmk1, hM3, hM⟩ := Yat hc hk1 hk
 unfold Ax
 rw [e1]
 simp only [jb]
 have step := CA (s := fun x : ((Unit × (Int × (Unit × (Unit × (Int × Unit))))) × (Ab × (Eb × (Jb × Unit)))) => AG x.1.1 x.1.2.1 x.1.2.2.1 x.1.2.2.2.1 x.1.2.2.2.2.1 x.2.1 x.2.2.1 x.2.2.2.1)
  (fun z y => ∃ (c' : Ab) (m : Db) (k : Nat), y = (((), (keys : Int), (), (), (k : Int), ()), (c', GM, Tm m M, ())) ∧ z + k = keys ∧ Di c' ∧ Ce m = true ∧ m.1 = (keys : Int))
  (fun r => ∃ (c' : Ab) (m : Db), r = .inl (((), (), (), ()), (c', GM, Tm m M, ())) ∧ Di c' ∧ Ce m = true ∧ m.1 = (keys : Int)) (by
  rintro z y ⟨c', m, k, rfl, hz, hc', hm, hmk⟩
  simp only [AG]
  by_cases h1 : (k : Int) < (keys : Int)
  ·rw [Aa h1]
   obtain ⟨c3, b, e3, hc3⟩ := MB hc' 2 (by omega)
   rw [e3]
   simp only [zz, jb]
   rw [Ag (by omega)]
   cases b with
   | false => exact .inr ⟨_, z - 1, by omega, rfl, c3, m, k + 1, rfl, by omega, hc3, hm, hmk⟩
   | true =>
    have hm0 := hm
    unfold Ce at hm0
    simp only [jd, decide_eq_true_eq] at hm0
    obtain ⟨⟨hk', hL⟩, hall⟩ := hm0
    have hi : 0 < m.2.1.length := by omega
    have hrow := Pk.1 hall 0 hi
    rw [js] at hrow
    have hlen := Had hrow
    have hkk : k < (m.2.1[0]).length := by omega
    obtain ⟨c4, u, e4, hc4, bu⟩ := Fh hc3 40 (by omega)
    obtain ⟨c5, v, e5, hc5, bv⟩ := Fh hc4 15 (by omega)
    have i1 : Ci (ja (Tm m M).1.2.1) (0 : Int) = true := by
     show Ci (ja m.2.1) ((0 : Nat) : Int) = true
     rw [Mm, Aa hi]
    have i2 : (Tm m M).1.2.1[jy (0 : Int)]? = some m.2.1[0] := by
     show m.2.1[0]? = _
     exact je hi
    have i3 : Ci (ja m.2.1[0]) (k : Int) = true := by rw [Mm, Aa hkk]
    have i4 : m.2.1[0][jy (k : Int)]? = some m.2.1[0][k] := by rw [jn]; exact je hkk
    rw [i1, i2]
    simp only [zz, jb, e4, e5]
    rw [i3, i4]
    simp only [zz, jb]
    rw [Qc (n := 1 + u) (by omega) (by omega), Qc (n := 1 + v) (by omega) (by omega)]
    refine .inr ⟨_, z - 1, by omega, rfl, c5, (m.1, qa m.2.1 0 (qa m.2.1[0] k ((6 : Int), 1 + u, 1 + v, (0 : Int), ())), ()), k + 1, rfl, by omega, hc5, ?_, hmk⟩
    have hok : Og m.2.1.length 0 ((6 : Int), 1 + u, 1 + v, (0 : Int), ()) = true := by
     unfold Og
     have : Zc ((6 : Int), 1 + u, 1 + v, (0 : Int), ()) = true := by
      rw [Qb]; show Xb 6 (1 + u) (1 + v) 0; unfold Xb; omega
     rw [this]
     rw [Ba (show ¬ (0 : Int) ≥ ((m.2.1.length : Nat) : Int) by omega)]
     rfl
    unfold Ce
    simp only [jd, decide_eq_true_eq, List.length_set]
    exact ⟨⟨hk', hL⟩, I9 hall (Iad hrow hok)⟩
  ·rw [Ba h1]
   exact .inl ⟨_, rfl, c', m, rfl, hc', hm, hmk⟩) keys (((), (keys : Int), (), (), ((0 : Nat) : Int), ()), (c1, GM, Tm m1 M, ())) ⟨c1, m1, 0, rfl, by omega, hc1, hm1, hmk1⟩
 obtain ⟨r, e, c', m, rfl, hc', hm, hmk⟩ := step
 unfold MA
 erw [e]
 simp only [jb, qm]
 obtain ⟨c2, a, ea, hca, ba⟩ := Fh hc' 9 (by omega)
 obtain ⟨c3, p, ep, hcp, hp⟩ := Tag hca [(0 : Int), (0 : Int), (3 : Int), (6 : Int)] (by simp) (by simp)
 obtain ⟨c4, f, ef, hcf, bf⟩ := Fh hcp 3 (by omega)
 have hp' : p = 0 ∨ p = 3 ∨ p = 6 := by simpa using hp
 unfold GH
 rw [ea]
 simp only [jb, ep, ef]
 rw [Qc (n := 1 + a) (by omega) (by omega)]
 have hE := X3 hm (by omega) (fun x hx => (hM x hx).1)
 have hz := XV hE
 have ht : Kf (1 + a, p, f, ()) = true := by
  unfold Kf
  simp only [jd, decide_eq_true_eq]
  omega
 have hd : Xd (No (Tm m M) (1 + a, p, f, ())) = true := by
  have h := O3 hE ht
  rw [RS _ _ (by omega)] at h
  unfold LP at h
  cases hx : Xd (No (Tm m M) (1 + a, p, f, ())) with
  | true => rfl
  | false => rw [hx] at h; simp at h
 have hn := SS (Tm m M) (1 + a, p, f, ()) (by omega)
 unfold LP at hn
 rw [hd] at hn
 have hn' : Xq (((Tm m M).1.1, (Tm m M).1.2.1, ()), (Tm m M).2) (1 + a, p, f, ()) = some (No (Tm m M) (1 + a, p, f, ()), true, ()) := hn
 erw [hn']
 exact ⟨c4, m, M, (1 + a, p, f, ()), rfl, hcf, hm, hmk, hM3, hM, ht, by show 1 + a ≤ 9; omega⟩
structure Zi (keys : Nat) (t0 : Int) (m0 : Nat) (l : List Ca) (t : Int) (m : Nat) : Prop where
 f : Wa (fun _ s x => Hm (keys : Int) s x) 0 (t0, (m0 : Int)) l = .inl (t, (m : Int))
 m0 : m0 < 2 ^ 63
 m : m < 2 ^ 63
theorem Mz (keys : Nat) (t : Int) {m : Nat} (hm : m < 2 ^ 63) : Zi keys t m [] t m := ⟨rfl, hm, hm⟩
theorem VO {keys : Nat} {t0 t t2 : Int} {m0 m m2 : Nat} {l l2 : List Ca} (h : Zi keys t0 m0 l t m) (h2 : Zi keys t m l2 t2 m2) : Zi keys t0 m0 (l ++ l2) t2 m2 :=
 ⟨by rw [UT (Hm (keys : Int)) l l2 0 0 _ _ h.f]; exact h2.f, h.m0, h2.m⟩
theorem Y5 {keys : Int} {s s' : Int × Int} {x : Ca} (h : Hm keys s x = .inl s') : Jj s x = true ∧ x.2.1 < keys ∧ s' = (x.1, Yb .i64 s.2 (Ma .i64 1 x.2.1)) := by
 unfold Hm at h
 revert h
 cases h1 : Jj s x with
 | false => intro h; simp at h
 | true =>
  by_cases h2 : x.2.1 ≥ keys
  ·rw [Aa h2]; intro h; simp at h
  ·rw [Ba h2]
   intro h
   simp only [qc, Bool.and_self, zz, zk] at h
   exact ⟨rfl, by omega, h.symm⟩
theorem Iae {s : Int × Int} {x : Ca} (h : Jj s x = true) : Fg x = true ∧ s.1 ≤ x.1 ∧ (x.2.2.1 == (Wd s.2 x.2.1 == 1)) = false := by
 simp only [Jj, jd, yx, decide_eq_false_iff_not] at h
 exact ⟨h.1, by have := h.2.1; omega, h.2.2⟩
theorem Fj {keys : Nat} {t0 t : Int} {m0 m : Nat} {x : Ca} {l : List Ca} (h : Zi keys t0 m0 (x :: l) t m) : ∃ k : Nat, x.2.1 = (k : Int) ∧ k < keys ∧ k ≤ 31 ∧ t0 ≤ x.1 ∧ 0 ≤ x.1 ∧ x.1 ≤ 1000000 ∧
 (x.2.2.1 == (m0.testBit k)) = false ∧ Zi keys x.1 (m0 ^^^ 2 ^ k) l t m := by
 have hf := h.f
 simp only [Wa] at hf
 cases hx : Hm (keys : Int) (t0, (m0 : Int)) x with
 | inr u => rw [hx] at hf; simp at hf
 | inl s' =>
  rw [hx] at hf
  obtain ⟨h1, h2, rfl⟩ := Y5 hx
  obtain ⟨h3, h4, h5⟩ := Iae h1
  have hk := Zl h3
  obtain ⟨k, hk'⟩ := jv hk.2.2.1
  have hk' : x.2.1 = (k : Int) := hk'
  simp only [hk'] at hf h5
  rw [Qj h.m0 (by omega)] at h5
  rw [Ve (by omega), Vm h.m0 (Ye (by omega)), Rl (Hm (keys : Int)) l 1 0] at hf
  exact ⟨k, hk', by omega, by omega, h4, hk.1, hk.2.1, h5, ⟨hf, qs h.m0 (Ye (by omega)), h.m⟩⟩
theorem NF {keys : Nat} : ∀ {l : List Ca} {t0 t : Int} {m0 m : Nat}, Zi keys t0 m0 l t m → t0 ≤ t
 | [], t0, t, m0, m, h => by have := h.f; simp only [Wa, zk, jh] at this; omega
 | x :: l, t0, t, m0, m, h => by
  obtain ⟨k, _, _, _, h1, _, _, _, h2⟩ := Fj h
  have := NF h2
  omega
theorem Dae {keys : Nat} : ∀ {l : List Ca} {t0 t : Int} {m0 m : Nat}, Zi keys t0 m0 l t m → l ≠ [] → ZJ l = t ∧ 0 ≤ t ∧ t ≤ 1000000
 | [], _, _, _, _, _, h => absurd rfl h
 | [x], t0, t, m0, m, h, _ => by
  obtain ⟨k, _, _, _, h1, h3, h4, _, h2⟩ := Fj h
  have := h2.f
  simp only [Wa, zk, jh] at this
  refine ⟨?_, by omega, by omega⟩
  show x.1 = t
  exact this.1
 | x :: y :: l, t0, t, m0, m, h, _ => by
  obtain ⟨k, _, _, _, h1, _, _, _, h2⟩ := Fj h
  obtain ⟨h3, h4⟩ := Dae h2 (by simp)
  refine ⟨?_, h4⟩
  rw [← h3]
  simp [ZJ]
theorem YO {keys : Nat} {t0 t : Int} {m0 m : Nat} (h : Zi keys t0 m0 [] t m) : t = t0 ∧ m = m0 := by
 have := h.f
 simp only [Wa, zk, jh] at this
 exact ⟨this.1.symm, by omega⟩
theorem Pu {keys : Nat} {l : List Ca} {t0 t0' t : Int} {m0 m : Nat} (h : Zi keys t0 m0 l t m) (hle : t0' ≤ t0) : ∃ t', t' ≤ t ∧ Zi keys t0' m0 l t' m := by
 cases l with
 | nil =>
  obtain ⟨rfl, rfl⟩ := YO h
  exact ⟨t0', hle, Mz _ _ h.m0⟩
 | cons x l =>
  refine ⟨t, za _, ?_, h.m0, h.m⟩
  have hf := h.f
  simp only [Wa] at hf ⊢
  cases hx : Hm (keys : Int) (t0, (m0 : Int)) x with
  | inr u => rw [hx] at hf; simp at hf
  | inl s' =>
   rw [hx] at hf
   obtain ⟨h1, h2, rfl⟩ := Y5 hx
   obtain ⟨h3, h4, h5⟩ := Iae h1
   have : Hm (keys : Int) (t0', (m0 : Int)) x = .inl (x.1, Yb .i64 (m0 : Int) (Ma .i64 1 x.2.1)) := by
    unfold Hm Jj
    simp only at h4 h5 ⊢
    rw [h3, Ba (show ¬ t0' > x.1 by omega), h5, Ba (show ¬ x.2.1 ≥ (keys : Int) by omega)]
    rfl
   rw [this]
   exact hf
theorem YV {keys : Nat} {l : List Ca} {t0 t : Int} {m0 m : Nat} (h : Zi keys t0 m0 l t m) (h0 : 0 ≤ t0) (hl : l.length ≤ 64) : Rc l (m0 : Int) (keys : Int) = true := by
 obtain ⟨t', _, h'⟩ := Pu h h0
 have h2 := EO (keys : Int) l 0 (0, (m0 : Int))
 rw [h'.f] at h2
 have h3 := h2.symm
 simp only [Rk, jd] at h3
 unfold Rc JP TE Qaa
 rw [h3.1, Aa hl]
 have h4 := h3.2
 cases hx : Wa (fun _ s x => Er s x) 0 (0, (m0 : Int)) l with
 | inl s => rfl
 | inr u => rw [hx] at h4; simp [Rk] at h4
theorem Iaa {keys : Nat} {l : List Ca} {t0 t : Int} {m0 m : Nat} (h : Zi keys t0 m0 l t m) : Bj l t0 = true := by
 cases l with
 | nil => rfl
 | cons x l =>
  obtain ⟨k, _, _, _, h1, _⟩ := Fj h
  unfold Bj
  rw [Ba (show ¬ Gak (x :: l) < t0 by show ¬ x.1 < t0; omega)]
  simp
theorem RM {keys : Nat} {l : List Ca} {t0 t til : Int} {m0 m : Nat} (h : Zi keys t0 m0 l t m) (ht : t ≤ til) : Th l til = true := by
 unfold Th
 by_cases hl : l = []
 ·subst hl; rfl
 ·have := (Dae h hl).1
  rw [Aa (show ZJ l ≤ til by omega)]
  simp
theorem Eae {keys : Nat} : ∀ {l : List Ca} {t0 t : Int} {m0 m : Nat} (k : Nat), Zi keys t0 m0 l t m → Bd (fun _ s (x : Ca) => Yb .i64 s (Ma .i64 1 x.2.1)) k (m0 : Int) l = (m : Int)
 | [], t0, t, m0, m, k, h => by obtain ⟨_, rfl⟩ := YO h; rfl
 | x :: l, t0, t, m0, m, k, h => by
  obtain ⟨j, hj, h1, h2, h3, h4, h5, h6, h7⟩ := Fj h
  simp only [Bd]
  rw [hj, Ve (by omega), Vm h.m0 (Ye (by omega))]
  exact Eae (k + 1) h7
structure US (keys : Nat) (d : Eb) : Prop where
 pl : EQ d
 ks : d.1.1.1 = (keys : Int)
 mac : ∀ x ∈ d.1.2.1, x.length ≤ 6
 tim : Kf d.2.1 = true
 now : 0 ≤ d.2.2.2.1 ∧ d.2.2.2.1 ≤ 1000000
 clk : 0 ≤ d.2.2.2.2.1 ∧ d.2.2.2.2.1 ≤ d.2.2.2.1
 tp : 0 ≤ d.2.2.2.2.2.1 ∧ d.2.2.2.2.2.1 ≤ (keys : Int)
 ta : 0 ≤ d.2.2.2.2.2.2.1 ∧ d.2.2.2.2.2.2.1 ≤ d.2.2.2.1
 q : ∃ (t0 t : Int) (m0 m : Nat), Bn d.1.2.2.2.1 m0 ∧ Zi keys t0 m0 d.2.2.1 t m ∧ 0 ≤ t0 ∧ t ≤ d.2.2.2.1
theorem LU {l : List Va} {m m' : Nat} (h : Bn l m) (h' : Bn l m') : m = m' := zp fun j => by rw [h.bit, h'.bit]
theorem Dan {keys : Nat} {d : Eb} (h : US keys d) : Xd d = true := by
 obtain ⟨t0, t, m0, m, h1, h2, h3, h4⟩ := h.q
 obtain ⟨m1, h5, h6⟩ := FW h.pl.eng.hd
 obtain rfl := LU h1 h6
 have hE := (TO _).2 h.pl.eng
 have hF := YV h2 h3 h.pl.len
 have hB := RM h2 h4
 have a1 := h.now; have a2 := h.clk; have a3 := h.tp; have a4 := h.ta; have a5 := h.ks
 unfold Xd
 rw [hE, h.tim, h5, a5, hF, hB, Aa a1, Aa a2, Aa a3, Aa a4]
 rfl
theorem WT {α S R : Type} (g : S → α → S ⊕ R) : ∀ (l : List α) (k : Nat) (s : S) (r : R), Wa (fun _ s x => g s x) k s l = .inr r → ∃ x ∈ l, ∃ s', g s' x = .inr r
 | [], k, s, r, h => by simp [Wa] at h
 | x :: l, k, s, r, h => by
  simp only [Wa] at h
  cases hx : g s x with
  | inr r' => rw [hx] at h; simp only [zl] at h; subst h; exact ⟨x, by simp, s, hx⟩
  | inl s' =>
   rw [hx] at h
   obtain ⟨y, hy, s2, h2⟩ := WT g l (k + 1) s' r h
   exact ⟨y, jr _ hy, s2, h2⟩
theorem Xam {t : Dt} {key at_ : Int} {l : List Ca} {til : Int} (hl : ∀ x ∈ l, x.1 ≤ til) (h : (Xg t key at_ l til).1 ≠ 0) : (Xg t key at_ l til).2.1 ≤ til := by
 revert h
 unfold Xg
 cases Kf t && decide (0 ≤ at_ ∧ at_ ≤ 1000000) with
 | false => intro h; exact absurd rfl h
 | true =>
  simp only [zz]
  generalize j9 .i64 (at_ + t.1) = e
  cases hc : chR t.2.2.1 key e l with
  | inl s =>
   by_cases h1 : til ≥ e
   ·rw [Aa h1]; intro _; exact h1
   ·rw [Ba h1]; intro h; exact absurd rfl h
  | inr r =>
   intro h
   show r.2 ≤ til
   obtain ⟨x, hx, s, hg⟩ := WT (IT t.2.2.1 key e) l 0 0 r hc
   have hxl := hl x hx
   have h' : r.1 ≠ 0 := h
   unfold IT at hg
   revert hg
   cases Fg x with
   | false => intro hg; simp only [ua, zl] at hg; subst hg; exact absurd rfl h'
   | true =>
    simp only [zz]
    by_cases he : x.1 ≥ e
    ·rw [Aa he]; intro hg; simp only [zz, zl] at hg; subst hg; show e ≤ til; omega
    ·rw [Ba he]
     simp only [ua]
     cases x.2.1 == key <;> cases x.2.2.1 <;> cases t.2.2.1 == 1 <;> cases t.2.2.1 == 2 <;> cases Wd s x.2.1 == 1 <;> (intro hg; simp only [zz, ua, zl, reduceCtorEq] at hg; try (subst hg; exact hxl))
theorem Kaa {keys : Nat} : ∀ {l : List Ca} {t0 t : Int} {m0 m : Nat}, Zi keys t0 m0 l t m → ∀ x ∈ l, x.1 ≤ t
 | [], _, _, _, _, _, x, hx => absurd hx (by simp)
 | y :: l, t0, t, m0, m, h, x, hx => by
  obtain ⟨j, hj, h1, h2, h3, h4, h5, h6, h7⟩ := Fj h
  rcases jp.1 hx with rfl | hx
  ·exact NF h7
  ·exact Kaa h7 x hx
theorem Fan {keys : Nat} {d d' : Eb} {x : Ca} {r : List Ca} {l : List Ra} (h : US keys d) (hq : d.2.2.1 = x :: r) (hs : Xj d x r = some (d', l)) :
 US keys d' ∧ d'.2.2.1 = r ∧ d'.2.2.2.1 = d.2.2.2.1 ∧ d'.2.1 = d.2.1 ∧ d'.1.1 = d.1.1 := by
 have hN := T4 h.pl hq hs
 have hF := ZQ h.pl hq
 obtain ⟨t0, t, m0, m, hm, hE, h0, ht⟩ := h.q
 rw [hq] at hE
 obtain ⟨k, hk, hkk, hk31, hx0, hx1, hx2, hdn, hR⟩ := Fj hE
 have hxt := NF hR
 have hp := ((CE d.1.2.2.2.1).1 h.pl.eng.hd).2
 have hrl : ∀ y ∈ r, y.1 ≤ d.2.2.2.1 := fun y hy => by have := Kaa hR y hy; omega
 have b1 := h.clk; have b2 := h.tp; have b3 := h.ta; have b4 := h.now
 have hks : keys ≤ 32 := by have := (Uj h.pl.eng.km).k2; have := h.ks; omega
 have hw : j9 .i64 (x.2.1 + 1) = (k : Int) + 1 := by rw [hk, Qc (by omega) (by omega)]
 have press : ∀ b : Bool, x.2.2.1 = true → Bn (pE d.1 k b).2.2.2.1 (m0 ^^^ 2 ^ k) := by
  intro b hd
  have hn2 := hF.down hd
  refine TR hm (by omega) ?_ _
  cases hh : Oo d.1.2.2.2.1 k with
  | false => rfl
  | true =>
   simp only [Oo, yf, beq_iff_eq] at hh
   obtain ⟨y, hy, hyk⟩ := hh
   exact absurd (hyk.trans hk.symm) (hn2 y hy)
 unfold Xj at hs
 cases hd : x.2.2.1 with
 | false =>
  rw [hd] at hs
  simp only [qc, zz, jc, jh] at hs
  obtain ⟨rfl, rfl⟩ := hs
  obtain ⟨hi, hi1, hi2⟩ := hF.up hd
  refine ⟨⟨hN.1, h.ks, h.mac, h.tim, b4, ?_, b2, ?_, x.1, t, _, m, OL hp hm (by omega) hi (by rw [hi2, hk]), hR, hx1, ht⟩, rfl, rfl, rfl, rfl⟩
  ·show 0 ≤ max d.2.2.2.2.1 x.1 ∧ max d.2.2.2.2.1 x.1 ≤ d.2.2.2.1
   omega
  ·show 0 ≤ cond (d.2.2.2.2.2.1 == j9 .i64 (x.2.1 + 1)) x.1 d.2.2.2.2.2.2.1 ∧ cond (d.2.2.2.2.2.1 == j9 .i64 (x.2.1 + 1)) x.1 d.2.2.2.2.2.2.1 ≤ d.2.2.2.1
   cases d.2.2.2.2.2.1 == j9 .i64 (x.2.1 + 1)
   ·exact b3
   ·show 0 ≤ x.1 ∧ x.1 ≤ d.2.2.2.1; omega
 | true =>
  rw [hd, hw, hk] at hs
  simp only [jg, ua, jn] at hs
  cases htp : Jg (Pl d.1.1.2.1 (Vj d.1.1 (Ho d.1.2.2.1 d.1.2.2.2.1) k) k) with
  | false =>
   rw [htp] at hs
   simp only [ua, jc, jh] at hs
   obtain ⟨rfl, rfl⟩ := hs
   refine ⟨⟨hN.1, h.ks, h.mac, h.tim, b4, ?_, b2, b3, x.1, t, _, m, press false hd, hR, hx1, ht⟩, rfl, rfl, rfl, rfl⟩
   show 0 ≤ max d.2.2.2.2.1 x.1 ∧ max d.2.2.2.2.1 x.1 ≤ d.2.2.2.1
   omega
  | true =>
   rw [htp] at hs
   simp only [zz] at hs
   have hch : ∀ ch : Int × Int, ch = (cond ((d.2.2.2.2.2.1 == (k : Int) + 1) && !decide (j9 .i64 (x.1 - d.2.2.2.2.2.2.1) ≥ d.2.1.2.1)) ((1 : Int), x.1) ((Xg d.2.1 (k : Int) x.1 r d.2.2.2.1).1, (Xg d.2.1 (k : Int) x.1 r d.2.2.2.1).2.1)) → ch.1 ≠ 0 → ch.2 ≤ d.2.2.2.1 := by
    rintro ch rfl
    cases (d.2.2.2.2.2.1 == (k : Int) + 1) && !decide (j9 .i64 (x.1 - d.2.2.2.2.2.2.1) ≥ d.2.1.2.1) with
    | true => intro _; show x.1 ≤ _; omega
    | false => intro h0; exact Xam hrl h0
   revert hs
   generalize hche : (cond ((d.2.2.2.2.2.1 == (k : Int) + 1) && !decide (j9 .i64 (x.1 - d.2.2.2.2.2.2.1) ≥ d.2.1.2.1)) ((1 : Int), x.1) ((Xg d.2.1 (k : Int) x.1 r d.2.2.2.1).1, (Xg d.2.1 (k : Int) x.1 r d.2.2.2.1).2.1)) = ch
   have hcl := hch ch hche.symm
   intro hs
   cases h0' : ch.1 == 0 with
   | true => rw [h0'] at hs; simp at hs
   | false =>
    have hcl := hcl (by simpa using h0')
    rw [h0'] at hs
    simp only [ua, jc, jh] at hs
    obtain ⟨rfl, rfl⟩ := hs
    refine ⟨⟨hN.1, h.ks, h.mac, h.tim, b4, ?_, ?_, ?_, x.1, t, _, m, press _ hd, hR, hx1, ht⟩, rfl, rfl, rfl, rfl⟩
    ·show 0 ≤ max (max d.2.2.2.2.1 x.1) ch.2 ∧ max (max d.2.2.2.2.1 x.1) ch.2 ≤ d.2.2.2.1
     omega
    ·show 0 ≤ cond (ch.1 == 2) 0 ((k : Int) + 1) ∧ cond (ch.1 == 2) 0 ((k : Int) + 1) ≤ (keys : Int)
     cases ch.1 == 2
     ·show 0 ≤ (k : Int) + 1 ∧ (k : Int) + 1 ≤ _; omega
     ·show 0 ≤ (0 : Int) ∧ (0 : Int) ≤ _; omega
    ·show 0 ≤ cond (ch.1 == 2) d.2.2.2.2.2.2.1 x.1 ∧ cond (ch.1 == 2) d.2.2.2.2.2.2.1 x.1 ≤ d.2.2.2.1
     cases ch.1 == 2
     ·show 0 ≤ x.1 ∧ x.1 ≤ _; omega
     ·exact b3
theorem Ean {keys : Nat} {d : Eb} (h : US keys d) {l : List Ca} {t0 tq t : Int} {mh mq m : Nat} (hm : Bn d.1.2.2.2.1 mh) (h0 : 0 ≤ t0) (hQ : Zi keys t0 mh d.2.2.1 tq mq) (hqn : tq ≤ d.2.2.2.1)
 (hL : Zi keys d.2.2.2.1 mq l t m) (hlen : d.2.2.1.length + l.length ≤ 64) {til : Int} (ht : t ≤ til) (h6 : til ≤ 1000000) : Yw d l til = true ∧ US keys (Si d l til) := by
 have hB := Dan h
 have hn := NF hL
 obtain ⟨t', ht', hL'⟩ := Pu hL hqn
 have hC := VO hQ hL'
 obtain ⟨m1, h5, h6'⟩ := FW h.pl.eng.hd
 obtain rfl := LU hm h6'
 have hF := YV hC h0 (by rw [qh]; omega)
 have b1 := h.clk; have b2 := h.tp; have b3 := h.ta; have b4 := h.now; have b5 := h.ks
 have hF' : Rc (jf d.2.2.1 l) (Kp d.1.2.2.2.1) d.1.1.1 = true := by rw [h5, b5]; exact hF
 refine ⟨?_, V3 hB hF', h.ks, h.mac, h.tim, ?_, ?_, h.tp, ?_, t0, t', mh, m, hm, hC, h0, ?_⟩
 ·unfold Yw
  rw [hB, Aa (show d.2.2.2.1 ≤ til ∧ til ≤ 1000000 by omega), Iaa hL, RM hL ht, hF']
  rfl
 ·show 0 ≤ til ∧ til ≤ 1000000; omega
 ·show 0 ≤ d.2.2.2.2.1 ∧ d.2.2.2.2.1 ≤ til; omega
 ·show 0 ≤ d.2.2.2.2.2.2.1 ∧ d.2.2.2.2.2.2.1 ≤ til; omega
 ·show t' ≤ til; omega
theorem Dat {keys : Nat} {m : Db} {M : List (List Cc)} {t : Cc} (hm : Ce m = true) (hk : m.1 = (keys : Int)) (h3 : M.length ≤ 4) (hM : ∀ x ∈ M, Be x = true ∧ x.length ≤ 6) (ht : Kf t = true) : US keys (No (Tm m M) t) := by
 have hE := X3 hm h3 (fun x hx => (hM x hx).1)
 have h0 : Bn ([] : List Va) 0 := ⟨by decide, fun j => by simp [Oo]⟩
 refine ⟨⟨hE, by show (0 : Nat) ≤ 64; omega, fun x hx => absurd hx (by simp [No]), 0, 0, h0, rfl⟩, hk, fun x hx => (hM x hx).2, ht, ⟨za _, by show (0 : Int) ≤ 1000000; omega⟩, ⟨za _, za _⟩, ⟨za _, by show (0 : Int) ≤ _; omega⟩, ⟨za _, za _⟩, 0, 0, 0, 0, h0, Mz _ _ (by decide), za _, za _⟩

theorem TH {α S R : Type} (g : Nat → S → α → S ⊕ R) : ∀ (l l2 : List α) (k : Nat) (s : S), Wa g k s (l ++ l2) = (match Wa g k s l with
 | .inl s' => Wa g (k + l.length) s' l2
 | .inr r => .inr r)
 | [], l2, k, s => rfl
 | x :: l, l2, k, s => by
  simp only [Wa, yu, jw]
  cases hx : g k s x with
  | inl s1 =>
   simp only
   rw [TH g l l2 (k + 1) s1, show k + 1 + l.length = k + (l.length + 1) by omega]
  | inr r => rfl
structure SZ (l2 : List Ca) (t1 t2 : Int) : Prop where
 ev : ∀ x ∈ l2, Ak x = true
 t : ∀ x ∈ l2, t1 ≤ x.1
 le : t1 ≤ t2
theorem Pap {L : List Na} {e set : Int} {r l2 : List Ca} {t1 t2 : Int} (hL : SZ l2 t1 t2) (h : (JE L e t1 set r).1 ≠ 0) : JE L e t2 set (r ++ l2) = JE L e t1 set r := by
 revert h
 unfold JE
 rw [TH (fun k s x => Yr L e k s x)]
 cases hc : Wa (fun k s x => Yr L e k s x) 0 set r with
 | inr b => intro _; cases b <;> rfl
 | inl s =>
  by_cases h1 : t1 < e
  ·intro h; simp only [Aa h1] at h; exact absurd rfl h
  ·intro _
   simp only
   rw [Ba h1]
   cases l2 with
   | nil =>
    have := hL.le
    simp only [Wa, List.append_nil]
    rw [Ba (show ¬ t2 < e by omega)]
   | cons x l2 =>
    have hx := hL.t x (by simp)
    have : Yr L e (0 + r.length) s x = .inr (.inl (s, 0 + r.length + 1, e)) := by
     unfold Yr
     rw [hL.ev x (by simp), Aa (show x.1 ≥ e by omega)]
     rfl
    simp only [Wa, this]
    rw [js]
    rfl
theorem Tak {L : List Na} {term : Int} {x : Ca} {r l2 : List Ca} {t1 t2 : Int} (hL : SZ l2 t1 t2) (h : (Vd L term (x :: r) t1).1 ≠ 0) : Vd L term (x :: (r ++ l2)) t2 = Vd L term (x :: r) t1 := by
 revert h
 unfold Vd
 simp only
 cases Qe L && (decide (1 ≤ term ∧ term ≤ 200) && (Ak x && x.2.2.1)) with
 | false => intro h; exact absurd rfl h
 | true =>
  simp only [zz]
  cases Sh L (Ma .i64 1 x.2.1) with
  | false => intro _; rfl
  | true =>
   simp only [zz]
   intro h
   exact Pap hL h
def P5 (c : Ea) (l2 : List Ca) (t2 : Int) : Ea := (c.1, c.2.1, jf c.2.2.1 l2, t2, c.2.2.2.2)
theorem YaX (c : Ea) (q : List Ca) (t key at_ : Int) : Fu (c.1, c.2.1, q, t, c.2.2.2.2) key at_ = (((Fu c key at_).1.1, (Fu c key at_).1.2.1, q, t, (Fu c key at_).1.2.2.2.2), (Fu c key at_).2) ∧
 (Fu c key at_).1.2.2.1 = c.2.2.1 ∧ (Fu c key at_).1.2.2.2.1 = c.2.2.2.1 := by
 have e : KH (c.1, c.2.1, q, t, c.2.2.2.2) key = KH c key := rfl
 unfold Fu
 rw [e]
 split
 ·exact ⟨rfl, rfl, rfl⟩
 ·exact ⟨rfl, rfl, rfl⟩
theorem Qay {c c' : Ea} {x : Ca} {r l2 l : List Ca} {t2 : Int} (hq : c.2.2.1 = x :: r) (hL : SZ l2 c.2.2.2.1 t2) (hs : Rf c x r = some (c', l)) : Rf (P5 c l2 t2) x (r ++ l2) = some (P5 c' l2 t2, l) ∧ c'.2.2.2.1 = c.2.2.2.1 ∧ c'.2.2.1.length ≤ r.length := by
 unfold Rf at hs ⊢
 cases hd : x.2.2.1 with
 | false =>
  rw [hd] at hs
  simp only [ua, jc] at hs ⊢
  obtain ⟨u1, u2, u3⟩ := YaX (c.1, c.2.1, r, c.2.2.2.1, max c.2.2.2.2.1 x.1, c.2.2.2.2.2) (r ++ l2) t2 x.2.1 (max c.2.2.2.2.1 x.1)
  rw [hs] at u1 u2 u3
  refine ⟨?_, u3, by rw [show c'.2.2.1 = r from u2]; exact jo _⟩
  refine Eq.trans u1 ?_
  show _ = (P5 c' l2 t2, l)
  unfold P5
  rw [show c'.2.2.1 = r from u2]
  rfl
 | true =>
  rw [hd] at hs
  simp only [zz] at hs ⊢
  have hq2 : (P5 c l2 t2).2.2.1 = x :: (r ++ l2) := by
   show jf c.2.2.1 l2 = _
   rw [hq]; rfl
  rw [hq2]
  rw [hq] at hs
  cases h0 : (Vd c.1 c.2.1 (x :: r) c.2.2.2.1).1 == 0 with
  | true => rw [h0] at hs; simp at hs
  | false =>
   have hm := Tak (L := c.1) (term := c.2.1) (x := x) (r := r) hL (by simpa using h0)
   obtain ⟨n, hn, hnb⟩ := TY c.1 c.2.1 x r c.2.2.2.1
   rw [h0] at hs
   simp only [ua] at hs
   have e1 : Vd (P5 c l2 t2).1 (P5 c l2 t2).2.1 (x :: (r ++ l2)) (P5 c l2 t2).2.2.2.1 = Vd c.1 c.2.1 (x :: r) c.2.2.2.1 := hm
   rw [e1, h0]
   simp only [ua]
   have hn0 : n ≠ 0 := by
    intro e
    rw [e] at hn
    rw [hn] at h0
    simp at h0
   have hdrop : yo (Vd c.1 c.2.1 (x :: r) c.2.2.2.1).1.toNat (x :: (r ++ l2)) = yo (Vd c.1 c.2.1 (x :: r) c.2.2.2.1).1.toNat (x :: r) ++ l2 := by
    rw [← yu, List.drop_append_of_le_length (by rw [hn, jn]; simp; omega)]
   have hlen : (yo (Vd c.1 c.2.1 (x :: r) c.2.2.2.1).1.toNat (x :: r)).length ≤ r.length := by
    rw [qw, hn, jn]
    simp only [jw]
    omega
   rw [hdrop]
   cases h2 : decide ((Vd c.1 c.2.1 (x :: r) c.2.2.2.1).2.2 < 0) with
   | true =>
    rw [h2] at hs
    simp only [zz, jc, jh] at hs
    obtain ⟨rfl, rfl⟩ := hs
    exact ⟨rfl, rfl, hlen⟩
   | false =>
    rw [h2] at hs
    simp only [ua, jc, jh] at hs
    obtain ⟨rfl, rfl⟩ := hs
    exact ⟨rfl, rfl, hlen⟩
theorem RE : ∀ (n : Nat) (c : Ea) (o : List Ca), Mb n c o = ((Mb n c []).1, o ++ (Mb n c []).2)
 | 0, c, o => by simp [Mb]
 | n + 1, c, o => by
  cases hq : c.2.2.1 with
  | nil => simp only [Mb, hq]; simp
  | cons x r =>
   cases hst : Rf c x r with
   | none => simp only [Mb, hq, hst]; simp
   | some p =>
    obtain ⟨c', l⟩ := p
    simp only [Mb, hq, hst]
    rw [RE n c' (jf o l), RE n c' (jf [] l)]
    simp
theorem Map (t : Int) : SZ [] t t := ⟨fun x hx => by simp at hx, fun x hx => by simp at hx, za _⟩
theorem Qam {c c' : Ea} {x : Ca} {r l : List Ca} (hq : c.2.2.1 = x :: r) (hs : Rf c x r = some (c', l)) : c'.2.2.2.1 = c.2.2.2.1 ∧ c'.2.2.1.length ≤ r.length :=
 (Qay hq (Map _) hs).2
def Lf : List Ca → Nat
 | [] => 0
 | x :: l => x.2.1.toNat ||| Lf l
structure Sai (A : List Ca) : Prop where
 b : ∀ x ∈ A, 1 ≤ x.2.1 ∧ x.2.1 ≤ 16777215
theorem Qag : ∀ (A : List Ca) (k : Nat) (s : Nat), s < 2 ^ 24 → Sai A → Q2 k (s : Int) A = ((s ||| Lf A : Nat) : Int) ∧ s ||| Lf A < 2 ^ 24
 | [], k, s, hs, _ => ⟨by simp [Q2, Bd, Lf], by simpa [Lf] using hs⟩
 | x :: A, k, s, hs, h => by
  have hx := h.b x (by simp)
  obtain ⟨n, hn⟩ := jv (show 0 ≤ x.2.1 by omega)
  have hn24 : n < 2 ^ 24 := by
   have : (2 : Nat) ^ 24 = 16777216 := by decide
   omega
  have h1 := zn hs hn24
  have h63 : (2 : Nat) ^ 24 < 2 ^ 63 := by decide
  have ih := Qag A (k + 1) (s ||| n) h1 ⟨fun y hy => h.b y (by simp [hy])⟩
  unfold Q2 at ih ⊢
  simp only [Bd, Lf]
  rw [hn, Fi (by omega) (by omega), jn, ← Nat.or_assoc]
  exact ih
def CQ : Nat → List Ca → Prop
 | _, [] => True
 | s, x :: l => s &&& x.2.1.toNat = 0 ∧ CQ (s ||| x.2.1.toNat) l
theorem Vaq : ∀ (A : List Ca) (k : Nat) (s : Nat), s < 2 ^ 24 → Sai A → (Rk (Wa (fun _ s x => DV s x) k (s : Int) A) = true ↔ CQ s A)
 | [], k, s, hs, _ => by simp [Wa, Rk, CQ]
 | x :: A, k, s, hs, h => by
  have hx := h.b x (by simp)
  obtain ⟨n, hn⟩ := jv (show 0 ≤ x.2.1 by omega)
  have hn24 : n < 2 ^ 24 := by
   have : (2 : Nat) ^ 24 = 16777216 := by decide
   omega
  have h1 := zn hs hn24
  have h63 : (2 : Nat) ^ 24 < 2 ^ 63 := by decide
  have ih := Vaq A (k + 1) (s ||| n) h1 ⟨fun y hy => h.b y (by simp [hy])⟩
  simp only [Wa, CQ, DV]
  rw [hn, Qu (by omega) (by omega), Fi (by omega) (by omega), jn]
  by_cases h0 : s &&& n = 0
  ·rw [h0]
   simp only [show (((0 : Nat) : Int) != 0) = false from rfl, ua, true_and]
   exact ih
  ·have : (((s &&& n : Nat) : Int) != 0) = true := by rw [bne_iff_ne]; omega
   rw [this]
   simp [Rk, h0]
def mk (x : Ca) : Nat := x.2.1.toNat
def KJ (x : Ca) : Nat := cond x.2.2.1 (2 ^ x.1.toNat) 0
def Pj : List Ca → Nat
 | [] => 0
 | x :: l => KJ x ||| Pj l
theorem Li {a b c : Nat} : a &&& (b ||| c) = 0 ↔ a &&& b = 0 ∧ a &&& c = 0 := by
 rw [Nat.and_or_distrib_left]
 constructor
 ·intro h
  exact ⟨Nat.eq_zero_of_not_pos fun hp => by have := Nat.left_le_or (n := a &&& b) (m := a &&& c); omega, Nat.eq_zero_of_not_pos fun hp => by have := Nat.right_le_or (n := a &&& b) (m := a &&& c); omega⟩
 ·rintro ⟨h1, h2⟩; rw [h1, h2]; rfl
theorem Faa : ∀ (A : List Ca) (s : Nat), CQ s A ↔ s &&& Lf A = 0 ∧ A.Pairwise (fun x y => mk x &&& mk y = 0)
 | [], s => by simp [CQ, Lf]
 | x :: A, s => by
  have ih := Faa A (s ||| x.2.1.toNat)
  simp only [CQ, Lf, List.pairwise_cons]
  rw [ih, Li]
  have h1 : ∀ (A : List Ca) (m : Nat), m &&& Lf A = 0 ↔ ∀ y ∈ A, m &&& mk y = 0 := by
   intro A
   induction A with
   | nil => intro m; simp [Lf]
   | cons y A ihA =>
    intro m
    simp only [Lf]
    rw [Li, ihA]
    simp [mk]
  rw [← h1 A (mk x)]
  have h2 : (s ||| x.2.1.toNat) &&& Lf A = 0 ↔ s &&& Lf A = 0 ∧ mk x &&& Lf A = 0 := by
   rw [Nat.and_comm, Li, Nat.and_comm (Lf A) s, Nat.and_comm (Lf A)]
   rfl
  rw [h2]
  constructor
  ·rintro ⟨a, ⟨b, c⟩, d⟩; exact ⟨⟨a, b⟩, c, d⟩
  ·rintro ⟨⟨a, b⟩, c, d⟩; exact ⟨a, ⟨b, c⟩, d⟩
theorem E7 {a b : Nat} (h : a ^^^ b = 0) : a = b := zp fun j => by
 have := congrArg (fun n => n.testBit j) h
 simp only [qp, Nat.zero_testBit] at this
 cases ha : a.testBit j <;> cases hb : b.testBit j <;> rw [ha, hb] at this <;> first | rfl | simp at this
theorem Gq : ∀ (A : List Ca) (k : Nat), (Lf A).testBit k = A.any (fun x => (mk x).testBit k)
 | [], k => by simp [Lf]
 | x :: A, k => by simp only [Lf, zq, List.any_cons]; rw [Gq A k]; rfl
theorem Gz : ∀ (A : List Ca) (k : Nat), (Pj A).testBit k = A.any (fun x => (KJ x).testBit k)
 | [], k => by simp [Pj]
 | x :: A, k => by simp only [Pj, zq, List.any_cons]; rw [Gz A k]
theorem NG (A B : List Ca) : Lf (A ++ B) = Lf A ||| Lf B := by
 apply zp; intro k; rw [zq, Gq, Gq, Gq, List.any_append]
theorem NQ (A B : List Ca) : Pj (A ++ B) = Pj A ||| Pj B := by
 apply zp; intro k; rw [zq, Gz, Gz, Gz, List.any_append]
structure TS (c : Ea) (D : Nat) : Prop where
 d : c.2.2.2.2.2.1 = (D : Int)
 d24 : D < 2 ^ 24
 m : Sai (Tb c)
 ok : ∀ x ∈ Tb c, XE c.1 x = true
 nd : (Tb c).Pairwise (fun x y => x.1 ≠ y.1)
 dm : D &&& Lf (Tb c) = 0
 pm : (Tb c).Pairwise (fun x y => mk x &&& mk y = 0)
 cb : Qe c.1 = true
theorem N0 (L : List Na) : ∀ (r pre : List Ca), Et L pre r = true ↔ (∀ x ∈ r, XE L x = true) ∧ (∀ x ∈ r, ∀ y ∈ pre, y.1 ≠ x.1) ∧ r.Pairwise (fun x y => x.1 ≠ y.1)
 | [], pre => by simp [Et]
 | x :: r, pre => by
  have hn : Wt pre x = true ↔ ∀ y ∈ pre, y.1 ≠ x.1 := by
   unfold Wt
   rw [show Cd (fun _ (y : Ca) => !(y.1 == x.1)) 0 pre = true ↔ ∀ y ∈ pre, (!(y.1 == x.1)) = true from Dl (p := fun y : Ca => !(y.1 == x.1))]
   simp
  simp only [Et, jd]
  rw [hn, N0 L r (pre ++ [x])]
  simp only [jp, jl, zw, or_false, List.pairwise_cons, forall_eq_or_imp]
  constructor
  ·rintro ⟨⟨h1, h2⟩, h3, h4, h5⟩
   exact ⟨⟨h1, h3⟩, ⟨h2, fun z hz y hy => h4 z hz y (.inl hy)⟩, fun z hz => h4 z hz x (.inr rfl), h5⟩
  ·rintro ⟨⟨h1, h3⟩, ⟨h2, h4⟩, h6, h5⟩
   refine ⟨⟨h1, h2⟩, h3, fun z hz y hy => ?_, h5⟩
   rcases hy with hy | rfl
   ·exact h4 z hz y hy
   ·exact h6 z hz
theorem IK {L : List Na} (hL : Qe L = true) {x : Ca} (h : XE L x = true) : 24 ≤ x.1 ∧ x.1 ≤ 31 ∧ 0 ≤ AA L x.1 ∧ AA L x.1 ≤ 16777215 ∧ 0 < x.2.1 := by
 unfold XE PU at h
 simp only [jd, yx, decide_eq_false_iff_not] at h
 have := TG hL h.1
 exact ⟨this.1, this.2.1, this.2.2.1, this.2.2.2, by have := h.2.1; omega⟩
def Gm (c : Ea) (D : Nat) : Nat := D ||| Lf (Tb c)
def Hi (c : Ea) (D : Nat) : Nat := D ||| Pj (Tb c)
theorem p24 : (2 : Nat) ^ 24 = 16777216 := by decide
theorem Yt : (2 : Nat) ^ 63 = 9223372036854775808 := by decide
theorem W3 {c : Ea} {D : Nat} (h : TS c D) : Al c = ((Gm c D : Nat) : Int) ∧ Gm c D < 2 ^ 24 := by
 unfold Al Gm
 rw [h.d]
 exact Qag (Tb c) 0 D h.d24 h.m
theorem Man {L : List Na} (hL : Qe L = true) : ∀ (A : List Ca) (k s : Nat), s < 2 ^ 32 → (∀ x ∈ A, XE L x = true) → Bd (fun _ s x => C6 s x) k (s : Int) A = ((s ||| Pj A : Nat) : Int) ∧ s ||| Pj A < 2 ^ 32
 | [], k, s, hs, _ => by simp [Bd, Pj]; exact hs
 | x :: A, k, s, hs, h => by
  have hx := IK hL (h x (by simp))
  have p32 : (2 : Nat) ^ 32 = 4294967296 := by decide
  obtain ⟨o, ho⟩ := jv (show 0 ≤ x.1 by omega)
  have ho31 : o ≤ 31 := by omega
  have hpo : 2 ^ o < 2 ^ 32 := Nat.pow_lt_pow_right (by omega) (by omega)
  have e : C6 (s : Int) x = ((s ||| KJ x : Nat) : Int) ∧ s ||| KJ x < 2 ^ 32 := by
   unfold C6 KJ
   cases x.2.2.1 with
   | false => simp only [ua, Nat.or_zero]; exact ⟨trivial, hs⟩
   | true =>
    simp only [zz]
    rw [ho, Ve (by omega), Fi (by rw [Yt]; omega) (by rw [Yt]; omega), jn]
    exact ⟨rfl, zn hs hpo⟩
  simp only [Bd, Pj]
  rw [e.1, ← Nat.or_assoc]
  exact Man hL A (k + 1) _ e.2 (fun y hy => h y (by simp [hy]))
theorem O1 {c : Ea} {D : Nat} (h : TS c D) : D6 c = ((Hi c D : Nat) : Int) ∧ Hi c D < 2 ^ 32 := by
 unfold D6 Hi
 rw [h.d]
 exact Man h.cb (Tb c) 0 D (by
  have := h.d24; have : (2 : Nat) ^ 32 = 4294967296 := by decide
  have := p24; omega) h.ok
theorem MP {a k : Nat} (h : a.testBit k = false) : a ||| 2 ^ k = a ^^^ 2 ^ k := by
 apply zp; intro j
 rw [zq, qp, qq]
 by_cases hj : k = j
 ·subst hj; rw [h]; simp
 ·rw [show decide (k = j) = false from decide_eq_false hj]; simp
theorem F9 {c : Ea} {D : Nat} (h : TS c D) {k : Nat} (hk : k < 24) : (Pj (Tb c)).testBit k = false := by
 rw [Gz]
 rw [List.any_eq_false]
 intro x hx
 have := IK h.cb (h.ok x hx)
 unfold KJ
 cases x.2.2.1 with
 | false => simp
 | true =>
  simp only [zz, qq]
  simp
  omega
theorem Ju {a b : Nat} (h : a &&& b = 0) (k : Nat) : (a.testBit k && b.testBit k) = false := by
 have := congrArg (fun n => n.testBit k) h
 simpa [zr] using this
theorem VE {a b : Nat} (h : ∀ k, (a.testBit k && b.testBit k) = false) : a &&& b = 0 := by
 apply zp; intro k
 rw [zr, h, Nat.zero_testBit]
theorem Faq {c : Ea} {D k : Nat} (h : TS c D) (hk : k < 24) (hb : (Gm c D).testBit k = false) {c' : Ea} (hL : c'.1 = c.1) (hA : Tb c' = Tb c) (hd : c'.2.2.2.2.2.1 = Lc .i64 c.2.2.2.2.2.1 (Ma .i64 1 (k : Int))) :
 TS c' (D ^^^ 2 ^ k) ∧ Gm c' (D ^^^ 2 ^ k) = Gm c D ^^^ 2 ^ k ∧ Hi c' (D ^^^ 2 ^ k) = Hi c D ^^^ 2 ^ k ∧ (Hi c D).testBit k = false := by
 have hb' := hb
 unfold Gm at hb'
 rw [zq] at hb'
 simp only [zb] at hb'
 have hD := MP hb'.1
 have hk2 : 2 ^ k < 2 ^ 24 := Nat.pow_lt_pow_right (by omega) hk
 have hg : (Hi c D).testBit k = false := by
  unfold Hi
  rw [zq, hb'.1, F9 h hk]; rfl
 refine ⟨⟨?_, by rw [← hD]; exact zn h.d24 hk2, by rw [hA]; exact h.m, by rw [hA, hL]; exact h.ok, by rw [hA]; exact h.nd, ?_, by rw [hA]; exact h.pm, by rw [hL]; exact h.cb⟩, ?_, ?_, hg⟩
 ·rw [hd, h.d, Ve (by omega), Fi (by have := h.d24; have := p24; have := Yt; omega) (Ye (by omega)), hD]
 ·rw [hA, ← hD]
  refine VE fun j => ?_
  have h1 := Ju h.dm j
  rw [zq, qq]
  by_cases hj : k = j
  ·subst hj; rw [hb'.2]; simp
  ·rw [show decide (k = j) = false from decide_eq_false hj]; simpa using h1
 ·rw [← MP hb]
  unfold Gm
  rw [hA, ← hD]
  apply zp; intro j
  simp only [zq]
  cases D.testBit j <;> cases (Lf (Tb c)).testBit j <;> cases (2 ^ k).testBit j <;> rfl
 ·rw [← MP hg]
  unfold Hi
  rw [hA, ← hD]
  apply zp; intro j
  simp only [zq]
  cases D.testBit j <;> cases (Pj (Tb c)).testBit j <;> cases (2 ^ k).testBit j <;> rfl
theorem Eaq {c : Ea} {D K : Nat} {o : Int} (h : TS c D) (hs : (Gh c.1 o).isSome = true) (hK : AA c.1 o = (K : Int)) (hK0 : K ≠ 0) (hb : K &&& Gm c D = 0) {c' : Ea} (hL : c'.1 = c.1) (hA : Tb c' = Tb c ++ [(o, (K : Int), true, ())]) (hd : c'.2.2.2.2.2.1 = c.2.2.2.2.2.1) :
 TS c' D ∧ Gm c' D = Gm c D ||| K ∧ Hi c' D = Hi c D ^^^ 2 ^ o.toNat ∧ (Hi c D).testBit o.toNat = false ∧ 24 ≤ o ∧ o ≤ 31 := by
 have hci := TG h.cb hs
 have hK24 : K ≤ 16777215 := by
  have h1 := hci.2.2.2
  unfold AA at hK
  omega
 have hbb := Li.1 (show K &&& (D ||| Lf (Tb c)) = 0 from hb)
 have hne : ∀ x ∈ Tb c, x.1 ≠ o := by
  intro x hx e
  have hok := h.ok x hx
  have hkx := IK h.cb hok
  unfold XE PU at hok
  simp only [jd, yx, bne_eq_false_iff_eq] at hok
  have h4 := hok.2.2.1
  rw [e, hK] at h4
  have hm := h.m.b x hx
  obtain ⟨n, hn⟩ := jv (show 0 ≤ x.2.1 by omega)
  rw [hn, Yn (by rw [Yt]; omega) (by rw [Yt]; omega)] at h4
  have h5 : n &&& K = n := (E7 (show n ^^^ (n &&& K) = 0 by omega)).symm
  have h6 : n ||| Lf (Tb c) = Lf (Tb c) := by
   apply zp; intro j
   rw [zq, Gq]
   cases hj : n.testBit j with
   | false => simp
   | true =>
    have : (Tb c).any (fun x => (mk x).testBit j) = true := yf.2 ⟨x, hx, by unfold mk; rw [hn]; exact hj⟩
    rw [this]; rfl
  have h7 : n = 0 := by
   apply zp; intro j
   have h8 := Ju hbb.2 j
   have h9 := congrArg (fun z => z.testBit j) h5
   have h10 := congrArg (fun z => z.testBit j) h6
   simp only [zr, zq] at h9 h10
   rw [Nat.zero_testBit]
   cases hn1 : n.testBit j with
   | false => rfl
   | true =>
    rw [hn1] at h9 h10
    simp only [jk, Bool.true_or] at h9 h10
    rw [h9, ← h10] at h8
    simp at h8
  omega
 have ho : KJ (o, (K : Int), true, ()) = 2 ^ o.toNat := rfl
 have hmk : mk (o, (K : Int), true, ()) = K := jn K
 have hM : Lf (Tb c') = Lf (Tb c) ||| K := by
  rw [hA, NG]
  simp only [Lf, Nat.or_zero, jn]
 have hO : Pj (Tb c') = Pj (Tb c) ||| 2 ^ o.toNat := by
  rw [hA, NQ]
  simp only [Pj, Nat.or_zero, ho]
 have hgo : (Hi c D).testBit o.toNat = false := by
  unfold Hi
  rw [zq]
  have h1 : D.testBit o.toNat = false := zu (qn h.d24 (qo (by omega) (by omega)))
  rw [h1, Gz, zd, List.any_eq_false]
  intro x hx
  have hkx := IK h.cb (h.ok x hx)
  have := hne x hx
  unfold KJ
  cases x.2.2.1 with
  | false => simp
  | true =>
   simp only [zz, qq]
   simp
   omega
 refine ⟨⟨by rw [hd]; exact h.d, h.d24, ⟨fun x hx => ?_⟩, fun x hx => ?_, ?_, ?_, ?_, by rw [hL]; exact h.cb⟩, ?_, ?_, hgo, hci.1, hci.2.1⟩
 ·rw [hA] at hx
  rcases jl.1 hx with hx | hx
  ·exact h.m.b x hx
  ·simp only [qg] at hx
   subst hx
   show 1 ≤ (K : Int) ∧ (K : Int) ≤ 16777215
   omega
 ·rw [hA] at hx
  rw [hL]
  rcases jl.1 hx with hx | hx
  ·exact h.ok x hx
  ·simp only [qg] at hx
   subst hx
   unfold XE PU
   simp only [hs, hK]
   rw [Yn (by rw [Yt]; omega) (by rw [Yt]; omega), Nat.and_self, Nat.xor_self]
   rw [show decide ((K : Int) ≤ 0) = false from decide_eq_false (by omega)]
   simp
 ·rw [hA, zx]
  exact ⟨h.nd, by simp, fun x hx y hy => by simp only [qg] at hy; subst hy; exact hne x hx⟩
 ·rw [hM, Li]
  exact ⟨h.dm, by rw [Nat.and_comm]; exact hbb.1⟩
 ·rw [hA, zx]
  refine ⟨h.pm, by simp, fun x hx y hy => ?_⟩
  simp only [qg] at hy
  subst hy
  rw [hmk]
  refine VE fun j => ?_
  have h8 := Ju hbb.2 j
  rw [Gq] at h8
  cases hj : (mk x).testBit j with
  | false => rfl
  | true =>
   have : (Tb c).any (fun x => (mk x).testBit j) = true := yf.2 ⟨x, hx, hj⟩
   rw [this] at h8
   simpa using h8
 ·unfold Gm
  rw [hM, Nat.or_assoc]
 ·rw [← MP hgo]
  unfold Hi
  rw [hO, Nat.or_assoc]
theorem Hah {a k : Nat} (h : a.testBit k = true) : a ^^^ (a &&& 2 ^ k) = a ^^^ 2 ^ k := by
 apply zp; intro j
 rw [qp, qp, zr, qq]
 by_cases hj : k = j
 ·subst hj; rw [h]; simp
 ·rw [show decide (k = j) = false from decide_eq_false hj]; simp
theorem K1 {α : Type} (p : α → Bool) : ∀ (l : List α) (k : Nat), Ed p k l = -1 → ∀ x ∈ l, p x = false
 | [], _, _, x, hx => by simp at hx
 | y :: l, k, h, x, hx => by
  simp only [Ed] at h
  cases hy : p y with
  | true => rw [hy] at h; simp only [zz] at h; omega
  | false =>
   rw [hy] at h
   simp only [ua] at h
   rcases jp.1 hx with rfl | hx
   ·exact hy
   ·exact K1 p l (k + 1) h x hx
structure LaU (c : Ea) (D k : Nat) (at_ : Int) (r : Ea × List Ca) : Prop where
 ex : ∃ D', TS r.1 D' ∧ Gm r.1 D' = Gm c D ^^^ 2 ^ k ∧ ((r.2 = [] ∧ Hi r.1 D' = Hi c D) ∨ ∃ o : Nat, o ≤ 31 ∧ (o = k ∨ (Gh c.1 (o : Int)).isSome = true) ∧ r.2 = [(at_, (o : Int), false, ())] ∧ Hi r.1 D' = Hi c D ^^^ 2 ^ o ∧ (Hi c D).testBit o = true)
theorem Nav {α : Type} (A : List α) (j : Nat) (h : j < A.length) : A = A.take j ++ A[j] :: A.drop (j + 1) := by
 rw [← List.drop_eq_getElem_cons h, List.take_append_drop]
theorem Vau {c : Ea} {D k : Nat} {at_ : Int} (h : TS c D) (hk : k < 24) (hb : (Gm c D).testBit k = true) : LaU c D k at_ (Fu c (k : Int) at_) := by
 have hp : ∀ x ∈ Tb c, (!(Wd x.2.1 (k : Int) == 0)) = (mk x).testBit k := by
  intro x hx
  have hm := h.m.b x hx
  obtain ⟨n, hn⟩ := jv (show 0 ≤ x.2.1 by omega)
  unfold mk
  rw [hn, YX (by rw [Yt]; omega) (by omega), jn]
  cases n.testBit k <;> rfl
 unfold Fu
 by_cases hi : KH c (k : Int) = -1
 ·rw [if_pos hi]
  have hno : (Lf (Tb c)).testBit k = false := by
   rw [Gq, List.any_eq_false]
   intro x hx
   have := K1 _ _ _ hi x hx
   rw [hp x hx] at this
   simp [this]
  have hD : D.testBit k = true := by
   unfold Gm at hb
   rw [zq, hno] at hb
   simpa using hb
  have hDx : D ^^^ 2 ^ k < 2 ^ 24 := qs h.d24 (Nat.pow_lt_pow_right (by omega) hk)
  have hg : (Hi c D).testBit k = true := by unfold Hi; rw [zq, hD]; rfl
  have hlow := F9 h hk
  refine ⟨D ^^^ 2 ^ k, ⟨?_, hDx, h.m, h.ok, h.nd, ?_, h.pm, h.cb⟩, ?_, .inr ⟨k, by omega, .inl rfl, rfl, ?_, hg⟩⟩
  ·show Pc .i64 c.2.2.2.2.2.1 (Ma .i64 1 (k : Int)) = _
   rw [h.d, Ve (by omega), Yn (by have := h.d24; have := p24; rw [Yt]; omega) (Ye (by omega)), Hah hD]
  ·refine VE fun j => ?_
   have h1 := Ju h.dm j
   show ((D ^^^ 2 ^ k).testBit j && (Lf (Tb c)).testBit j) = false
   rw [qp, qq]
   by_cases hj : k = j
   ·subst hj; rw [hno]; simp
   ·rw [show decide (k = j) = false from decide_eq_false hj]; simpa using h1
  ·show (D ^^^ 2 ^ k) ||| Lf (Tb c) = (D ||| Lf (Tb c)) ^^^ 2 ^ k
   apply zp; intro j
   simp only [zq, qp, qq]
   by_cases hj : k = j
   ·subst hj; rw [hno]; simp
   ·rw [show decide (k = j) = false from decide_eq_false hj]; simp
  ·show (D ^^^ 2 ^ k) ||| Pj (Tb c) = (D ||| Pj (Tb c)) ^^^ 2 ^ k
   apply zp; intro j
   simp only [zq, qp, qq]
   by_cases hj : k = j
   ·subst hj; rw [hlow]; simp
   ·rw [show decide (k = j) = false from decide_eq_false hj]; simp
 ·rw [if_neg hi]
  obtain ⟨j, hj, hpj⟩ : ∃ j, j < (Tb c).length ∧ KH c (k : Int) = (j : Int) := by
   rcases Nz (fun (a : Ca) => !(Wd a.2.1 (k : Int) == 0)) (Tb c) 0 with h1 | ⟨j, hj, h1⟩
   ·exact absurd h1 hi
   ·exact ⟨j, hj, by unfold KH; rw [h1]; simp⟩
  obtain ⟨_, hxk⟩ := TT (fun (a : Ca) => !(Wd a.2.1 (k : Int) == 0)) (Tb c) 0 j hj (by unfold KH at hpj; rw [hpj]; simp)
  have hsp := Nav (Tb c) j hj
  rw [hpj, jn]
  have hget : (Tb c).getD j IV = (Tb c)[j] := by rw [qj, je hj]; rfl
  have hmem := qt hj
  rw [hp _ hmem] at hxk
  generalize hx : (Tb c)[j] = x at hsp hget hmem hxk
  generalize hP : (Tb c).take j = P at hsp
  generalize hQ : (Tb c).drop (j + 1) = Q at hsp
  have hset : ∀ y, (Tb c).set j y = P ++ y :: Q := by
   intro y
   rw [hsp, List.set_append_right _ _ (by rw [← hP, List.length_take]; omega)]
   have : j - P.length = 0 := by rw [← hP, List.length_take]; omega
   rw [this]; rfl
  have hwo : woE (Tb c) j = P ++ Q := by
   unfold woE
   rw [hP, hQ]; rfl
  have hm := h.m.b x hmem
  obtain ⟨n, hn⟩ := jv (show 0 ≤ x.2.1 by omega)
  have hmkx : mk x = n := by unfold mk; rw [hn]; rfl
  rw [hmkx] at hxk
  have hn63 : n < 2 ^ 63 := by rw [Yt]; omega
  have hand : Pc .i64 x.2.1 (Ma .i64 1 (k : Int)) = ((n ^^^ 2 ^ k : Nat) : Int) := by
   rw [hn, Ve (by omega), Yn hn63 (Ye (by omega)), Hah hxk]
  have hdn := h.dm
  have hpm := h.pm
  have hnd := h.nd
  rw [hsp] at hdn hpm hnd
  rw [NG] at hdn
  simp only [Lf] at hdn
  rw [Li, Li] at hdn
  rw [zx, List.pairwise_cons] at hpm hnd
  obtain ⟨hd1, hd2, hd3⟩ := hdn
  obtain ⟨pm1, ⟨pm2, pm3⟩, pm4⟩ := hpm
  obtain ⟨nd1, ⟨nd2, nd3⟩, nd4⟩ := hnd
  have hxn : x.2.1.toNat = n := hmkx
  rw [hxn] at hd2
  have bD : D.testBit k = false := by have := Ju hd2 k; rw [hxk] at this; simpa using this
  have bP : (Lf P).testBit k = false := by
   rw [Gq, List.any_eq_false]
   intro y hy
   have := Ju (pm4 y hy x (by simp)) k
   rw [hmkx, hxk] at this
   simpa using this
  have bQ : (Lf Q).testBit k = false := by
   rw [Gq, List.any_eq_false]
   intro y hy
   have := Ju (pm2 y hy) k
   rw [hmkx, hxk] at this
   simpa using this
  have hox := IK h.cb (h.ok x hmem)
  obtain ⟨o, ho⟩ := jv (show 0 ≤ x.1 by omega)
  have oD : D.testBit o = false := zu (qn h.d24 (qo (by omega) (by omega)))
  have noO : ∀ (B : List Ca), (∀ y ∈ B, y ∈ Tb c) → (∀ y ∈ B, y.1 ≠ x.1) → (Pj B).testBit o = false := by
   intro B hB hne
   rw [Gz, List.any_eq_false]
   intro y hy
   have hky := IK h.cb (h.ok y (hB y hy))
   have := hne y hy
   unfold KJ
   cases y.2.2.1 with
   | false => simp
   | true =>
    simp only [zz, qq]
    simp
    omega
  have oP := noO P (fun y hy => by rw [hsp]; simp [hy]) (fun y hy => nd4 y hy x (by simp))
  have oQ := noO Q (fun y hy => by rw [hsp]; simp [hy]) (fun y hy => (nd2 y hy).symm)
  have hn' : (n ^^^ 2 ^ k).testBit k = false := by rw [qp, hxk, qq]; simp
  have sub : ∀ b, (n ^^^ 2 ^ k).testBit b = true → n.testBit b = true := by
   intro b hb'
   rw [qp, qq] at hb'
   by_cases hkb : k = b
   ·subst hkb; exact hxk
   ·rw [show decide (k = b) = false from decide_eq_false hkb] at hb'; simpa using hb'
  have hdn' : ∀ M, (M = Lf P ||| ((n ^^^ 2 ^ k) ||| Lf Q)) → D ||| M = Gm c D ^^^ 2 ^ k := by
   rintro M rfl
   unfold Gm
   rw [hsp, NG]
   simp only [Lf]
   rw [hxn]
   apply zp; intro b
   simp only [zq, qp, qq]
   by_cases hkb : k = b
   ·subst hkb; rw [bD, bP, bQ, hxk]; simp
   ·rw [show decide (k = b) = false from decide_eq_false hkb]; simp
  have hout : ∀ c' : Ea, Pj (Tb c') = Pj P ||| Pj Q → ((LI (Tb c) at_ j = [] ∧ Hi c' D = Hi c D) ∨ ∃ o : Nat, o ≤ 31 ∧ (o = k ∨ (Gh c.1 (o : Int)).isSome = true) ∧ LI (Tb c) at_ j = [(at_, (o : Int), false, ())] ∧ Hi c' D = Hi c D ^^^ 2 ^ o ∧ (Hi c D).testBit o = true) := by
   intro c' hO
   have hgc : Hi c D = D ||| (Pj P ||| (KJ x ||| Pj Q)) := by
    unfold Hi
    rw [hsp, NQ]
    rfl
   unfold LI
   rw [hget, hgc]
   unfold Hi
   rw [hO]
   unfold KJ
   cases x.2.2.1 with
   | false =>
    refine .inl ⟨rfl, ?_⟩
    simp only [ua, Nat.zero_or]
   | true =>
    refine .inr ⟨o, by omega, .inr (by
     have hok := h.ok x hmem
     unfold XE at hok
     rw [jd, ho] at hok
     exact hok.1), by simp only [zz]; rw [ho], ?_, ?_⟩
    ·simp only [zz]
     rw [ho, jn]
     apply zp; intro b
     simp only [zq, qp, qq]
     by_cases hkb : o = b
     ·subst hkb; rw [oD, oP, oQ]; simp
     ·rw [show decide (o = b) = false from decide_eq_false hkb]; simp
    ·simp only [zz]
     rw [ho, jn]
     simp [zq]
  unfold UN
  rw [hget, hand]
  by_cases h0 : n ^^^ 2 ^ k = 0
  ·rw [h0]
   simp only [show (((0 : Nat) : Int) == 0) = true from rfl, zz]
   rw [hwo]
   have hA : Tb (Oaj c (P ++ Q)) = P ++ Q := rfl
   have hM : Lf (P ++ Q) = Lf P ||| ((n ^^^ 2 ^ k) ||| Lf Q) := by rw [NG, h0, Nat.zero_or]
   refine ⟨D, ⟨h.d, h.d24, ⟨fun y hy => h.m.b y ?_⟩, fun y hy => h.ok y ?_, ?_, ?_, ?_, h.cb⟩, ?_, hout _ (by rw [hA, NQ])⟩
   ·rw [hsp]
    rcases jl.1 (show y ∈ P ++ Q from hy) with hy | hy <;> simp [hy]
   ·rw [hsp]
    rcases jl.1 (show y ∈ P ++ Q from hy) with hy | hy <;> simp [hy]
   ·rw [hA, zx]
    exact ⟨nd1, nd3, fun y hy z hz => nd4 y hy z (by simp [hz])⟩
   ·rw [hA, NG, Li]
    exact ⟨hd1, hd3⟩
   ·rw [hA, zx]
    exact ⟨pm1, pm3, fun y hy z hz => pm4 y hy z (by simp [hz])⟩
   ·unfold Gm at hdn' ⊢
    rw [hA]
    exact hdn' _ hM
  ·have hb0 : (((n ^^^ 2 ^ k : Nat) : Int) == 0) = false := by rw [beq_eq_false_iff_ne]; omega
   rw [hb0]
   simp only [ua]
   rw [hset]
   generalize hx' : ((x.1, ((n ^^^ 2 ^ k : Nat) : Int), false, ()) : Ca) = x'
   have hmk' : mk x' = n ^^^ 2 ^ k := by rw [← hx']; exact jn _
   have hx1 : x'.1 = x.1 := by rw [← hx']
   have hA : Tb (Oaj c (P ++ x' :: Q)) = P ++ x' :: Q := rfl
   have hM : Lf (P ++ x' :: Q) = Lf P ||| ((n ^^^ 2 ^ k) ||| Lf Q) := by
    rw [NG]
    simp only [Lf]
    rw [show x'.2.1.toNat = n ^^^ 2 ^ k from hmk']
   have hO : Pj (P ++ x' :: Q) = Pj P ||| Pj Q := by
    rw [NQ]
    simp only [Pj]
    rw [show KJ x' = 0 from by rw [← hx']; rfl, Nat.zero_or]
   have hle : n ^^^ 2 ^ k ≤ n := by
    have e : (n ^^^ 2 ^ k) &&& n = n ^^^ 2 ^ k := by
     apply zp; intro b
     rw [zr]
     cases hb' : (n ^^^ 2 ^ k).testBit b with
     | false => rfl
     | true => rw [sub b hb']; rfl
    rw [← e]
    exact Nat.and_le_right
   have zsub : ∀ m : Nat, m &&& n = 0 → m &&& (n ^^^ 2 ^ k) = 0 := fun m hm' => VE fun b => by
    have := Ju hm' b
    cases hb' : (n ^^^ 2 ^ k).testBit b with
    | false => simp
    | true => rw [sub b hb'] at this; simpa using this
   refine ⟨D, ⟨h.d, h.d24, ⟨fun y hy => ?_⟩, fun y hy => ?_, ?_, ?_, ?_, h.cb⟩, ?_, hout _ (by rw [hA]; exact hO)⟩
   ·rcases jl.1 (show y ∈ P ++ x' :: Q from hy) with hy | hy
    ·exact h.m.b y (by rw [hsp]; simp [hy])
    ·rcases jp.1 hy with rfl | hy
     ·rw [← hx']
      show 1 ≤ ((n ^^^ 2 ^ k : Nat) : Int) ∧ ((n ^^^ 2 ^ k : Nat) : Int) ≤ 16777215
      omega
     ·exact h.m.b y (by rw [hsp]; simp [hy])
   ·show XE c.1 y = true
    rcases jl.1 (show y ∈ P ++ x' :: Q from hy) with hy | hy
    ·exact h.ok y (by rw [hsp]; simp [hy])
    ·rcases jp.1 hy with rfl | hy
     ·have hok := h.ok x hmem
      unfold XE PU at hok ⊢
      simp only [jd, yx, bne_eq_false_iff_eq] at hok
      obtain ⟨k1, k2, k3, k4⟩ := hok
      rw [hx1, k1]
      obtain ⟨K, hK⟩ := jv hox.2.2.1
      rw [hK] at k3 ⊢
      rw [hn, Yn hn63 (by rw [Yt]; omega)] at k3
      have hnK : n &&& K = n := (E7 (show n ^^^ (n &&& K) = 0 by omega)).symm
      have hKk : K.testBit k = true := by
       have := congrArg (fun z => z.testBit k) hnK
       simp only [zr, hxk, jk] at this
       exact this
      have hn'K : (n ^^^ 2 ^ k) &&& K = n ^^^ 2 ^ k := by
       apply zp; intro b
       rw [zr]
       cases hb' : (n ^^^ 2 ^ k).testBit b with
       | false => rfl
       | true =>
        have h9 := congrArg (fun z => z.testBit b) hnK
        simp only [zr, sub b hb', jk] at h9
        rw [h9]; rfl
      have hneK : (((n ^^^ 2 ^ k : Nat) : Int) == (K : Int)) = false := by
       rw [beq_eq_false_iff_ne]
       intro e
       have e' : n ^^^ 2 ^ k = K := by omega
       rw [e'] at hn'
       rw [hn'] at hKk
       simp at hKk
      rw [← hx']
      show (true && (!decide (((n ^^^ 2 ^ k : Nat) : Int) ≤ 0) && (!(Pc .i64 ((n ^^^ 2 ^ k : Nat) : Int) (K : Int) != 0) && !(false != (((n ^^^ 2 ^ k : Nat) : Int) == (K : Int)))))) = true
      rw [Yn (by omega) (by rw [Yt]; omega), hn'K, Nat.xor_self, hneK, show decide (((n ^^^ 2 ^ k : Nat) : Int) ≤ 0) = false from decide_eq_false (by omega)]
      rfl
     ·exact h.ok y (by rw [hsp]; simp [hy])
   ·rw [hA, zx, List.pairwise_cons]
    refine ⟨nd1, ⟨fun z hz => by rw [hx1]; exact nd2 z hz, nd3⟩, fun y hy z hz => ?_⟩
    rcases jp.1 hz with rfl | hz
    ·rw [hx1]; exact nd4 y hy x (by simp)
    ·exact nd4 y hy z (by simp [hz])
   ·rw [hA, hM, Li, Li]
    exact ⟨hd1, zsub D hd2, hd3⟩
   ·rw [hA, zx, List.pairwise_cons]
    refine ⟨pm1, ⟨fun z hz => ?_, pm3⟩, fun y hy z hz => ?_⟩
    ·rw [hmk', Nat.and_comm]
     have := pm2 z hz
     rw [hmkx, Nat.and_comm] at this
     exact zsub _ this
    ·rcases jp.1 hz with rfl | hz
     ·rw [hmk']
      have := pm4 y hy x (by simp)
      rw [hmkx] at this
      exact zsub _ this
     ·exact pm4 y hy z (by simp [hz])
   ·unfold Gm at hdn' ⊢
    rw [hA]
    exact hdn' _ hM
theorem C7 (set : Int) : ∀ (L : List Na) (k : Nat) (s : Int × Bool), (Bd (fun _ s c => whG set s c) k s L).1 = s.1 ∨ ∃ c ∈ L, c.1 = set ∧ (Bd (fun _ s c => whG set s c) k s L).1 = c.2.1
 | [], k, s => .inl rfl
 | c :: L, k, s => by
  simp only [Bd]
  rcases C7 set L (k + 1) (whG set s c) with h | ⟨c', hc, h1, h2⟩
  ·rw [h]
   unfold whG
   cases h0 : c.1 == set with
   | true => exact .inr ⟨c, by simp, by simpa using h0, rfl⟩
   | false =>
    simp only [ua]
    cases Pc .i64 set c.1 == 0 <;> exact .inl rfl
  ·exact .inr ⟨c', by simp [hc], h1, h2⟩
theorem S5 {L : List Na} (h : Qe L = true) : ∀ i j (hi : i < L.length) (hj : j < L.length), i < j → L[i].2.1 ≠ L[j].2.1 := by
 intro i j hi hj hij e
 simp only [Qe, jd] at h
 have h1 := Pk.1 h.2 j hj
 simp only [Nu, jd] at h1
 have h2 := (Dl (p := fun y : Na => !(y.1 == L[j].1) && !(y.2.1 == L[j].2.1))).1 (by
  have := h1.2.2.2
  rw [js] at this
  exact this) L[i] (by
  rw [List.mem_take_iff_getElem]
  exact ⟨i, by omega, rfl⟩)
 simp only [jd, yx, beq_eq_false_iff_ne] at h2
 exact h2.2 e
theorem B7 {L : List Na} (h : Qe L = true) {set : Int} (hw : (Bf L set).1 ≥ 0) : (Gh L (Bf L set).1).isSome = true ∧ AA L (Bf L set).1 = set := by
 unfold Bf at hw ⊢
 rcases C7 set L 0 (-1, false) with h1 | ⟨c, hc, h1, h2⟩
 ·rw [h1] at hw; exact absurd hw (by decide)
 ·rw [h2]
  unfold AA Gh
  cases hf : List.find? (fun c' : Na => c'.2.1 == c.2.1) L with
  | none =>
   have := List.find?_eq_none.1 hf c hc
   simp at this
  | some c' =>
   refine ⟨rfl, ?_⟩
   have e1 := List.find?_some hf
   have e2 := List.mem_of_find?_eq_some hf
   simp only [beq_iff_eq] at e1
   obtain ⟨i, hi, rfl⟩ := qu hc
   obtain ⟨j, hj, rfl⟩ := qu e2
   have : i = j := by
    rcases Nat.lt_trichotomy i j with hlt | heq | hgt
    ·exact absurd e1.symm (S5 h i j hi hj hlt)
    ·exact heq
    ·exact absurd e1 (S5 h j i hj hi hgt)
   subst this
   exact h1
structure U8 (kc : Nat) (L : List Na) (now t0 : Int) (m0 : Nat) (q : List Ca) (t : Int) (m : Nat) (b : Int × Int × Int) : Prop where
 at0 : 0 ≤ b.2.1
 at1 : b.2.1 ≤ now
 neg : b.2.2 < 0 → b.1 = 1
 pos : 0 ≤ b.2.2 → ∃ (n S : Nat) (t' : Int), b.1 = (n : Int) ∧ 1 ≤ n ∧ n ≤ q.length ∧ S ≠ 0 ∧ m0 &&& S = 0 ∧ AA L b.2.2 = (S : Int) ∧ (Gh L b.2.2).isSome = true ∧ t0 ≤ t' ∧ Zi kc t' (m0 ||| S) (q.drop n) t m
theorem K2 {kc : Nat} {L : List Na} (hL : Qe L = true) {now t0 t : Int} {m0 m : Nat} {q : List Ca} {S n : Nat} {a t' : Int} (ha0 : 0 ≤ a) (ha : a ≤ now) (hn : 1 ≤ n) (hnq : n ≤ q.length) (hS0 : S ≠ 0) (hd : m0 &&& S = 0) (ht : t0 ≤ t') (hE : Zi kc t' (m0 ||| S) (q.drop n) t m) :
 U8 kc L now t0 m0 q t m (DA L (S : Int) n a) := by
 unfold DA
 by_cases h : (Bf L (S : Int)).1 ≥ 0
 ·rw [Aa h]
  obtain ⟨h1, h2⟩ := B7 hL h
  exact ⟨ha0, ha, fun h' => by have : (Bf L (S : Int)).1 < 0 := h'; omega, fun _ => ⟨n, S, t', rfl, hn, hnq, hS0, hd, h2, h1, ht, hE⟩⟩
 ·rw [Ba h]
  exact ⟨ha0, ha, fun _ => rfl, fun h' => by have : (0 : Int) ≤ -1 := h'; omega⟩
theorem I2 {kc : Nat} (hkc : kc ≤ 24) {L : List Na} (hL : Qe L = true) {e now t0 t : Int} (he : 0 ≤ e) {m0 m : Nat} {f : Ca} {r : List Ca} (hf1 : t ≤ now) : ∀ (rest : List Ca) (i : Nat) (S : Nat) (t' : Int), r.drop i = rest → i ≤ r.length → S ≠ 0 → S < 2 ^ 24 → m0 &&& S = 0 → t0 ≤ t' → Zi kc t' (m0 ||| S) rest t m →
 ∀ b, (match Wa (fun k s x => Yr L e k s x) i (S : Int) rest with
  | .inl s => cond (decide (now < e)) (0, 0, -1) (DA L s (r.length + 1) e)
  | .inr (.inl b) => DA L b.1 b.2.1 b.2.2
  | .inr (.inr b) => b) = b → b.1 ≠ 0 → U8 kc L now t0 m0 (f :: r) t m b
 | [], i, S, t', hr, hi, hS0, hS, hd, ht, hE, b, hb, hb0 => by
  have hri : i = r.length := by
   have := congrArg ja hr
   rw [qw] at this
   simp at this
   omega
  simp only [Wa] at hb
  by_cases h1 : now < e
  ·rw [Aa h1] at hb
   subst hb
   exact absurd rfl hb0
  ·rw [Ba h1] at hb
   subst hb
   simp only [ua]
   exact K2 hL he (by omega) (by omega) (by simp) hS0 hd ht (by simpa using hE)
 | x :: rest, i, S, t', hr, hi, hS0, hS, hd, ht, hE, b, hb, hb0 => by
  obtain ⟨k, hk, hk24, hk31, hx0, hx1, hx2, hdn, hR⟩ := Fj hE
  have hxt := NF hR
  have hix : i < r.length := by
   have := congrArg ja hr
   rw [qw] at this
   simp at this
   omega
  have hr1 : r.drop (i + 1) = rest := by
   have := List.drop_eq_getElem_cons hix
   rw [hr] at this
   simp only [yv] at this
   exact this.2.symm
  have hdrop : (f :: r).drop (i + 1) = x :: rest := by simpa using hr
  have hdrop2 : (f :: r).drop (i + 2) = rest := by simpa using hr1
  simp only [Wa] at hb
  unfold Yr at hb
  have p24' := p24
  cases hsw : Ak x with
  | false => rw [hsw] at hb; simp only [ua] at hb; subst hb; exact absurd rfl hb0
  | true =>
   rw [hsw] at hb
   simp only [zz] at hb
   by_cases h1 : x.1 ≥ e
   ·rw [Aa h1] at hb
    simp only [zz] at hb
    subst hb
    exact K2 hL he (by omega) (by omega) (by simp; omega) hS0 hd ht (by rw [hdrop]; exact hE)
   ·rw [Ba h1] at hb
    simp only [ua] at hb
    cases hdd : x.2.2.1 with
    | false =>
     rw [hdd] at hb
     simp only [ua] at hb
     subst hb
     exact K2 hL hx1 (by omega) (by omega) (by simp; omega) hS0 hd ht (by rw [hdrop]; exact hE)
    | true =>
     rw [hdd] at hb hdn
     have hkb : (m0 ||| S).testBit k = false := by
      cases hh : (m0 ||| S).testBit k with
      | false => rfl
      | true => rw [hh] at hdn; simp at hdn
     have hkb' := hkb
     rw [zq] at hkb'
     simp only [zb] at hkb'
     have hior : Lc .i64 (S : Int) (Ma .i64 1 x.2.1) = ((S ||| 2 ^ k : Nat) : Int) := by
      rw [hk, Ve (by omega), Fi (by rw [Yt]; omega) (Ye (by omega))]
     rw [hior] at hb
     have hS1 : S ||| 2 ^ k ≠ 0 := by
      intro h0
      have := congrArg (fun z => z.testBit k) h0
      simp [zq, qq] at this
     have hS2 : S ||| 2 ^ k < 2 ^ 24 := zn hS (Nat.pow_lt_pow_right (by omega) (show k < 24 by omega))
     have hd2 : m0 &&& (S ||| 2 ^ k) = 0 := by
      rw [Li]
      refine ⟨hd, VE fun j => ?_⟩
      rw [qq]
      by_cases hj : k = j
      ·subst hj; rw [hkb'.1]; simp
      ·rw [show decide (k = j) = false from decide_eq_false hj]; simp
     have hmm : (m0 ||| S) ^^^ 2 ^ k = m0 ||| (S ||| 2 ^ k) := by
      rw [← MP hkb, Nat.or_assoc]
     rw [hmm] at hR
     simp only [zz] at hb
     cases hwi : Sh L ((S ||| 2 ^ k : Nat) : Int) with
     | false =>
      rw [hwi] at hb
      simp only [ua] at hb
      subst hb
      exact K2 hL hx1 (by omega) (by omega) (by simp; omega) hS0 hd ht (by rw [hdrop]; exact hE)
     | true =>
      rw [hwi] at hb
      simp only [zz] at hb
      cases hwo : decide ((Bf L ((S ||| 2 ^ k : Nat) : Int)).1 ≥ 0) && !(Bf L ((S ||| 2 ^ k : Nat) : Int)).2 with
      | true =>
       rw [hwo] at hb
       simp only [zz] at hb
       subst hb
       simp only [jd, decide_eq_true_eq] at hwo
       obtain ⟨w1, w2⟩ := B7 hL hwo.1
       exact ⟨hx1, show x.1 ≤ now by omega, fun h' => by have : (Bf L ((S ||| 2 ^ k : Nat) : Int)).1 < 0 := h'; have := hwo.1; omega,
        fun _ => ⟨i + 2, S ||| 2 ^ k, x.1, rfl, by omega, by simp; omega, hS1, hd2, w2, w1, by omega, by rw [hdrop2]; exact hR⟩⟩
      | false =>
       rw [hwo] at hb
       simp only [ua] at hb
       exact I2 hkc hL he hf1 rest (i + 1) (S ||| 2 ^ k) x.1 hr1 (by omega) hS1 hS2 hd2 (by omega) hR b hb hb0
theorem JaB {kc : Nat} (hkc : kc ≤ 24) {L : List Na} {term now t0 t : Int} {m0 m : Nat} {f : Ca} {r : List Ca} (h0 : 0 ≤ t0) (hE : Zi kc t0 m0 (f :: r) t m) (ht : t ≤ now) (hfd : f.2.2.1 = true) (hb0 : (Vd L term (f :: r) now).1 ≠ 0) : U8 kc L now t0 m0 (f :: r) t m (Vd L term (f :: r) now) := by
 obtain ⟨k, hk, hk24, hk31, hx0, hx1, hx2, hdn, hR⟩ := Fj hE
 have hxt := NF hR
 revert hb0
 unfold Vd
 simp only
 cases hg : Qe L && (decide (1 ≤ term ∧ term ≤ 200) && (Ak f && f.2.2.1)) with
 | false => intro hb0; exact absurd rfl hb0
 | true =>
  simp only [jd, decide_eq_true_eq] at hg
  simp only [zz]
  have hshl : Ma .i64 1 f.2.1 = ((2 ^ k : Nat) : Int) := by rw [hk, Ve (by omega)]
  rw [hshl]
  cases Sh L ((2 ^ k : Nat) : Int) with
  | false =>
   intro _
   exact ⟨hx1, show f.1 ≤ now by omega, fun _ => rfl, fun h' => by have : (0 : Int) ≤ -1 := h'; omega⟩
  | true =>
   simp only [zz]
   intro hb0
   rw [hfd] at hdn
   have hkb : m0.testBit k = false := by
    cases hh : m0.testBit k with
    | false => rfl
    | true => rw [hh] at hdn; simp at hdn
   have hd : m0 &&& 2 ^ k = 0 := VE fun j => by
    rw [qq]
    by_cases hj : k = j
    ·subst hj; rw [hkb]; simp
    ·rw [show decide (k = j) = false from decide_eq_false hj]; simp
   rw [← MP hkb] at hR
   have hw : j9 .i64 (f.1 + term) = f.1 + term := Qc (by omega) (by omega)
   unfold JE at hb0 ⊢
   rw [hw] at hb0 ⊢
   exact I2 hkc hg.1 (by omega) ht r 0 (2 ^ k) f.1 rfl (by omega) (by have := zt k; omega) (Nat.pow_lt_pow_right (by omega) (show k < 24 by omega)) hd hx0 hR _ rfl hb0
end KF
