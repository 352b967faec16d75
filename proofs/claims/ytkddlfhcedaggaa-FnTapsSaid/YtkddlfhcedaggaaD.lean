/- An evaluator of Go functions on plain data, its soundness, and plain laws on what the functions compute, part 4 (conditions: as each lemma tells). -/
import Derived.Test.YtkddlfhcedaggaaC
set_option linter.unusedSimpArgs false
set_option linter.unusedVariables false
namespace KF
open Go
open List renaming length → ja, getElem?_eq_getElem → je, append → jf, mem_append → jl, mem_cons → jp, mem_cons_of_mem → jr, length_cons → jw, set → j6, length_nil → j7, length_set → j8, mem_singleton → qd, length_append → qe, getElem?_append_left → qg, getElem?_append_right → qh, getD_eq_getElem?_getD → qi, getElem_mem → qn, mem_of_mem_drop → qo, getElem_of_mem → qp, mem_map → qq, length_drop → qr, mem_cons_self → qt
open Option renaming bind_some → jb, bind → jz, map_some → qc, bind_eq_some_iff → qf
open Option.some renaming injEq → jc
open Bool renaming and_eq_true → jd, not_true → jg, true_and → jk, false_eq_true → jq, not_false → j9, not_eq_true → qa, eq_iff_iff → qs
open Prod.mk renaming injEq → jh
open Nat renaming ble_eq_true_of_le → ji, mul_le_mul_right → jm, le_refl → jo, zero_add → js, add_assoc → jt, eq_of_beq_eq_true → ju, ble → jx, le_trans → qb, lt_of_lt_of_le → qk, testBit_two_pow → ql, xor_lt_two_pow → qm
open Int renaming toNat_natCast → jn, eq_ofNat_of_zero_le → jv, toNat → jy
open Go.IntKind renaming wrap → j4, wrap → j5
open Sum renaming elim_inl → qj
open Result renaming andThen_ok → qu
open Sem renaming run_bind → qv
theorem ZG {m : Na} (hm : Qu m) (on : Int) {k : Nat} (hk : (k : Int) < m.1) : Xe m.2.1.length (Lg m on k) (Rh m.2.1 (Lg m on k) k) = true ∧ (Rh m.2.1 (Lg m on k) k).1 ≠ 1 := by
 have hl := Zv hm on k
 have hrow := hm.row _ hl
 have hk' : k < m.2.1[Lg m on k].length := by omega
 have hact := hm.act _ hl k hk'
 rw [ZB hl hk']
 refine ⟨hact, ?_⟩
 have key : ∀ n, Rf m.2.1 on k n = 0 ∨ (Rh m.2.1 (Rf m.2.1 on k n) k).1 ≠ 1 := by
  intro n
  induction n with
  | zero => exact .inl rfl
  | succ n ih =>
   simp only [Rf]
   cases hc : ((Nl on ((n + 1 : Nat) : Int) == 1) && ((Rh m.2.1 (n + 1) k).1 != 1)) with
   | true =>
    simp only [jd, bne_iff_ne] at hc
    exact .inr hc.2
   | false => exact ih
 rcases key (m.2.1.length - 1) with h0 | h1
 ·have h0' : Lg m on k = 0 := h0
  intro h1
  simp only [Xe, jd, Bool.not_eq_true', Bool.and_eq_false_iff, beq_eq_false_iff_ne] at hact
  rcases hact.1.2 with h2 | h2
  ·exact h2 (by rw [h0']; rfl)
  ·exact h2 h1
 ·have e : Rh m.2.1 (Rf m.2.1 on k (m.2.1.length - 1)) k = m.2.1[Lg m on k][k] := ZB hl hk'
  rw [e] at h1
  exact h1
theorem KM {nl i : Nat} {a : Ia} (h : Xe nl i a = true) (h1 : a.1 ≠ 1) : Jw nl (Mx a) := by
 have ha := AA h
 have hP := ha
 rw [Vb] at hP
 unfold Ub at hP
 unfold Mx Vf
 rw [ha]
 by_cases h67 : a.1 = 6 ∨ a.1 = 7
 ·have e : (true && ((a.1 == 6) || (a.1 == 7))) = true := by rcases h67 with h | h <;> rw [h] <;> rfl
  rw [e]
  simp only [cond_true]
  refine ⟨?_, by show (2 : Int) ≠ 1; decide, by show (2 : Int) ≠ 6; decide, by show (2 : Int) ≠ 7; decide, fun _ => ?_⟩
  ·rw [Vb]
   exact .inr (.inl ⟨rfl, rfl, .inr (by show 1 ≤ a.2.1 ∧ a.2.1 ≤ 56; omega), .inl rfl, .inl (by show a.2.1 ≠ 0; omega)⟩)
  ·show (0 : Int) < (nl : Int)
   have := BB h (by omega)
   omega
 ·have e : (true && ((a.1 == 6) || (a.1 == 7))) = false := by
   rw [jk, Bool.or_eq_false_iff, beq_eq_false_iff_ne, beq_eq_false_iff_ne]; omega
  rw [e]
  exact ⟨ha, h1, fun h => h67 (.inl h), fun h => h67 (.inr h), fun hk => BB h hk⟩
def Sc (m : Na) (f o : Int) (c : Bool) (h : List Ka) : Wa := (m, [], f, h, o, c, ())
theorem YW {nl : Nat} {k : Nat} (hk : k ≤ 31) {a : Ia} (ha : Jw nl a) : Ld [((k : Int), a, ())] = true := by
 have e : Sm 0 ((k : Int), a, ()) = true := by
  simp only [Sm, ha.act, jk]
  rw [Da (show 0 ≤ (k : Int) ∧ (k : Int) ≤ 31 by omega)]
  have hb : (Nl 0 (k : Int) == 1) = false := by
   have := Vx (a := 0) (k := k) (by decide) (by omega)
   rw [Nat.zero_testBit] at this
   exact this
  rw [hb]
  simp [ha.n1, ha.n6, ha.n7]
 show Gv (Jc _ 0 0 [_]) = true
 simp only [Jc, Vp, e, cond_true, Gv]
theorem Fu {m : Na} (hv : Bd m = true) {f o : Int} (hs : Zo m.2.1.length f o) (c : Bool) {h : List Ka} (hh : Ld h = true) (hi : ∀ x ∈ h, Di m.1 m.2.1.length x = true) : Ai (Sc m f o c h) = true := by
 have hk := Qf hv
 have e1 : Zd (fun _ x => Di m.1 m.2.1.length x) 0 h = true := Yh.2 fun j hj => hi _ (qn hj)
 show (Bd m && (decide (([] : List (List Zb)).length ≤ 4) && (Ld h && (true && (Zd (fun _ x => Di m.1 m.2.1.length x) 0 h &&
  (decide (0 ≤ f ∧ f < ((2 ^ m.2.1.length : Nat) : Int)) && ((Int.tmod f 2 == 0) && decide (0 ≤ o ∧ o ≤ 15)))))))) = true
 rw [hv, hh, e1, Da (⟨hs.f0, hs.f1⟩ : 0 ≤ f ∧ f < ((2 ^ m.2.1.length : Nat) : Int)), Da (⟨hs.o0, hs.o1⟩ : 0 ≤ o ∧ o ≤ 15), hs.f2]
 rfl
theorem TW (m : Na) (f o : Int) (c : Bool) (h : List Ka) : Dc Tb (Sc m f o c h) = Dc Kb m + h.length := by
 rw [Ct, Hs]
 have : Dc (.sl (.sl Hc)) (Sc m f o c h).2.1 = 0 := rfl
 rw [this, js]; rfl
theorem UT {nl : Nat} (h4 : nl ≤ 4) {f o : Int} (hs : Zo nl f o) : 0 ≤ f ∧ f ≤ 15 := by
 have := D2 h4
 have h1 := hs.f1
 have h0 := hs.f0
 omega
theorem LJ {f : Int} (hf : 0 ≤ f ∧ f ≤ 15) : Sg f [] = some (Ud .i64 1 f, ()) := by
 unfold Sg
 rw [Da (show f ≥ 0 by omega), Da hf.2, Tk [] (by decide)]
 have hs : Ph (Ud .i64 1 f) [] ((ja ([] : List Ka) : Nat) : Int) 0 = some (.inr (.inl ((Ud .i64 1 f, ()), ()))) := rfl
 simp only [cond_true, jb]
 unfold Jf
 rw [Lf hs]
 rfl
theorem Wr (e : Wa) (k : Int) (hn : e.2.2.2.1.length ≤ La) : Lp e k = some (Pc (fun h => h.1 == k) 0 e.2.2.2.1, ()) := by
 have h20 : La = 1048576 := rfl
 have hl := RB (step := fun x => Gn x.1.1 x.1.2.1 x.1.2.2.1 x.1.2.2.2.1) e.2.2.2.1 (fun h => h.1 == k) (fun i => ((k, e.2.2.2.1, ((ja e.2.2.2.1 : Nat) : Int), i, ()), ())) (.inl ((), ())) (fun i => .inr ((i, ()), ()))
  (by
   intro j hj
   simp only [Gn]
   rw [Da (show (j : Int) < ((ja e.2.2.2.1 : Nat) : Int) by omega), Uc hj]
   simp only [cond_true, jb]
   cases e.2.2.2.1[j].1 == k <;> rfl) (by
   simp only [Gn]
   rw [Ea (by omega)]; rfl) (by omega)
 unfold Lp Ao
 erw [hl]
 simp only [jb]
 by_cases hc : Pc (fun h : Ka => h.1 == k) 0 e.2.2.2.1 = -1
 ·rw [if_pos hc, hc]; rfl
 ·rw [if_neg hc]; rfl
theorem Fn (a : Ga) (l : List Ga) (hn : l.length ≤ La) (ha : a.2.1.length ≤ La) (hx : ∀ x ∈ l, x.2.1.length ≤ La) : Wb a l = some (Xn Rn a l, ()) := by
 have h20 : La = 1048576 := rfl
 have hlim := Xf
 unfold Wb JN
 have e : (jx (ja l) Cb && (Mv a && l.all Mv)) = true := by
  rw [jd, jd, List.all_eq_true]
  refine ⟨ji (by omega), ji (by show ja a.2.1 ≤ _; omega), fun x hm => ji ?_⟩
  have := hx x hm
  show ja x.2.1 ≤ _
  omega
 rw [e]; rfl
theorem Fq : ∀ (l : List Ga) (a : Ga), (Xn Rn a l).length ≤ l.length
 | [], _ => by simp [Xn]
 | x :: l, a => by
  have := Fq l x
  simp only [Xn]
  cases Rn a x <;> simp <;> omega
theorem Wo (l : List Ka) : (Sb l).2.1.length ≤ 56 := XD l 56
theorem Pr : ∀ (l : List Ga) (a x : Ga), x ∈ Xn Rn a l → x ∈ l
 | [], _, x, h => by simp [Xn] at h
 | y :: l, a, x, h => by
  simp only [Xn] at h
  cases hs : Rn a y with
  | true => rw [hs] at h; exact jr _ (Pr l y x h)
  | false =>
   rw [hs] at h
   rcases jp.1 h with h | h
   ·exact h ▸ qt ..
   ·exact jr _ (Pr l y x h)
noncomputable def JT (m : Na) (f : Int) (k : Nat) : Ia := Mx (Rh m.2.1 (Lg m (Ud .i64 1 f) k) k)
noncomputable def Ag (m : Na) (f o : Int) (c : Bool) (k : Nat) : Int × Int × Bool × Ia := Lv f o c (JT m f k)
noncomputable def hK (m : Na) (f o : Int) (c : Bool) (k : Nat) : List Ka := [((k : Int), (Ag m f o c k).2.2.2, ())]
noncomputable def En (m : Na) (f o : Int) (c : Bool) (k : Nat) : List Ga := Xn Rn (Sb []) [Sb (hK m f o c k)]
noncomputable def LA (m : Na) (f o : Int) (c : Bool) (k : Nat) : List Ga := Xn Rn (Sb (hK m f o c k)) [Sb []]
structure Tp (m : Na) : Prop where
 v : Bd m = true
 z : Dc Kb m ≤ La - 10
theorem AB {m : Na} (hM : Tp m) {f o : Int} {c : Bool} (hs : Zo m.2.1.length f o) {k : Nat} (hk : (k : Int) < m.1) :
 Jw m.2.1.length (JT m f k) ∧ Zo m.2.1.length (Ag m f o c k).1 (Ag m f o c k).2.1 ∧ Jw m.2.1.length (Ag m f o c k).2.2.2 ∧ Ld (hK m f o c k) = true ∧
  (∀ x ∈ hK m f o c k, Di m.1 m.2.1.length x = true) := by
 have hm := Qf hM.v
 have h1 := ZG hm (Ud .i64 1 f) hk
 have h2 := KM h1.1 h1.2
 have h3 := TR (c := c) hm.l2 hs h2
 refine ⟨h2, h3.1, h3.2, YW (by have := hm.k2; omega) h3.2, fun x hx => ?_⟩
 simp only [hK, jp, List.not_mem_nil, or_false] at hx
 subst hx
 simp only [Di, jd, Bool.not_eq_true', Bool.and_eq_false_iff, decide_eq_false_iff_not]
 refine ⟨by omega, ?_⟩
 by_cases h9 : (Ag m f o c k).2.2.2.1 = 9
 ·exact .inl (by show ((Ag m f o c k).2.2.2.1 != 9) = false; simp [h9])
 ·exact .inr (Int.not_le.2 (h3.2.n h9))
theorem GS {m : Na} (hM : Tp m) (f o : Int) (c : Bool) (h : List Ka) (hh : h.length ≤ 1) : Dc Tb (Sc m f o c h) ≤ La := by
 have h20 : La = 1048576 := rfl
 have := hM.z
 rw [TW]; omega
theorem Us (l : List Ka) : (Sb l).2.1.length ≤ La := by
 have h20 : La = 1048576 := rfl
 have := Wo l
 omega
theorem XA : Ld [] = true := rfl
theorem Yy {m : Na} (hM : Tp m) {f o : Int} {c : Bool} (hs : Zo m.2.1.length f o) {k : Nat} (hk : (k : Int) < m.1) :
 De (Sc m f o c []) (k : Int) false = some (Sc m (Ag m f o c k).1 (Ag m f o c k).2.1 (Ag m f o c k).2.2.1 (hK m f o c k), En m f o c k, ()) := by
 have h20 : La = 1048576 := rfl
 have hm := Qf hM.v
 obtain ⟨h1, h2, h3, h4, h5⟩ := AB (o := o) (c := c) hM hs hk
 have hl := Zv hm (Ud .i64 1 f) k
 have hrow := hm.row _ hl
 unfold De
 rw [Cf _ (GS hM f o c [] (by simp))]
 show jz (some (Sc m f o c [], ())) _ = _
 simp only [jb]
 show jz (Sg f []) _ = _
 rw [LJ (UT hm.l2 hs)]
 simp only [jb]
 show jz (Xk m (Ud .i64 1 f) (k : Int)) _ = _
 rw [Yq hm _ hk]
 simp only [jb]
 show jz (Cd m.2.1 ((Lg m (Ud .i64 1 f) k : Nat) : Int)) _ = _
 rw [WN hl (by omega)]
 simp only [cond_false]
 rw [Xy]
 simp only [jb]
 show jz (Zh (m, [], f, [], o, c, ()) (JT m f k)) _ = _
 rw [Xr _ _ _ _ _ _ _ h1.act]
 simp only [jb]
 have e9 : decide ((Ag m f o c k).2.2.2.2.2.2.1 < ((ja ([] : List (List Zb)) : Nat) : Int)) = false := Ea (by have := Uu h3.act; show ¬ _ < (0 : Int); omega)
 have hR1 : Lb (hK m f o c k) = some (Sb (hK m f o c k), ()) := Bf _ (by simp [hK]; omega) h4
 have hR0 : Lb [] = some (Sb [], ()) := Bf [] (by decide) XA
 have hC : Wb (Sb []) [Sb (hK m f o c k)] = some (En m f o c k, ()) := Fn _ _ (by simp; omega) (Us _) (fun x hx => by
  simp only [jp, List.not_mem_nil, or_false] at hx; rw [hx]; exact Us _)
 have Kf : (jz (Lb (hK m f o c k)) fun r29 => jz (Lb ([] : List Ka)) fun r30 => jz (Wb r30.1 [r29.1]) fun r31 =>
  (some (Sc m (Ag m f o c k).1 (Ag m f o c k).2.1 (Ag m f o c k).2.2.1 (hK m f o c k), r31.1, ()) : Option (Wa × ((List Ga) × Unit)))) =
  some (Sc m (Ag m f o c k).1 (Ag m f o c k).2.1 (Ag m f o c k).2.2.1 (hK m f o c k), En m f o c k, ()) := by
  rw [hR1, hR0]
  simp only [jb]
  rw [hC]
  rfl
 have hb : jx (ja ([] : List Ka) + ja (hK m f o c k)) Cb = true := rfl
 show cond (jx (ja ([] : List Ka) + ja (hK m f o c k)) Cb) (cond ((Ag m f o c k).2.2.2.1 == 9) (cond (decide ((Ag m f o c k).2.2.2.2.2.2.1 < ((ja ([] : List (List Zb)) : Nat) : Int))) _ _) _) _ = _
 rw [hb, e9]
 cases (Ag m f o c k).2.2.2.1 == 9 <;> exact Kf
theorem WT {m : Na} {f o : Int} {c : Bool} {k : Nat} : Pc (fun h : Ka => h.1 == (k : Int)) 0 (hK m f o c k) = 0 := by
 have e : ((k : Int) == (k : Int)) = true := by simp
 show cond ((k : Int) == (k : Int)) ((0 : Nat) : Int) _ = 0
 rw [e]; rfl
theorem LE {m : Na} (hM : Tp m) {f o : Int} {c : Bool} (hs : Zo m.2.1.length f o) {k : Nat} (hk : (k : Int) < m.1) (f' o' : Int) (c' : Bool) :
 Gh (Sc m f' o' c' (hK m f o c k)) (k : Int) = some (Sc m f' o' c' [], LA m f o c k, ()) := by
 have h20 : La = 1048576 := rfl
 obtain ⟨h1, h2, h3, h4, h5⟩ := AB (o := o) (c := c) hM hs hk
 have hR1 : Lb (hK m f o c k) = some (Sb (hK m f o c k), ()) := Bf _ (by simp [hK]; omega) h4
 have hR0 : Lb [] = some (Sb [], ()) := Bf [] (by decide) XA
 have hC : Wb (Sb (hK m f o c k)) [Sb []] = some (LA m f o c k, ()) := Fn _ _ (by simp; omega) (Us _) (fun x hx => by
  simp only [jp, List.not_mem_nil, or_false] at hx; rw [hx]; exact Us _)
 unfold Gh
 rw [Cf _ (GS hM f' o' c' _ (by simp [hK])), Wr _ _ (by show (hK m f o c k).length ≤ _; simp [hK]; omega)]
 simp only [jb]
 have hf : Pc (fun h : Ka => h.1 == (k : Int)) 0 (Sc m f' o' c' (hK m f o c k)).2.2.2.1 = 0 := WT
 rw [hf]
 show jz (Lb (hK m f o c k)) (fun r3 => jz (Lb []) fun r4 => jz (Wb r3.1 [r4.1]) fun r5 => some (Sc m f' o' c' [], r5.1, ())) = _
 rw [hR1, hR0]
 simp only [jb]
 rw [hC]
 rfl
def IF : Wa := (((0 : Int), ([] : List (List Ia)), ()), ([] : List (List Zb)), (0 : Int), ([] : List Ka), (0 : Int), false, ())
theorem TE {m : Na} (hv : Bd m = true) : Tp m := by
 have hm := Qf hv
 refine ⟨hv, ?_⟩
 have h20 : La = 1048576 := rfl
 have h1 : Dc Kb m = 0 + (Dc (.sl (.sl Xc)) m.2.1 + 0) := rfl
 have h2 : Dc (.sl (.sl Xc)) m.2.1 ≤ (32 + 1) * ja m.2.1 := GF (e := .sl Xc) (c := 32) fun x hx => by
  obtain ⟨i, hi, rfl⟩ := qp hx
  rw [JK]
  have := hm.row i hi
  have := hm.k2
  omega
 have := hm.l2
 omega
abbrev St := (Int × Int × Bool) × List Ga
noncomputable def gT (m : Na) (s : St) (k : Int) : St ⊕ Unit :=
 cond (decide (0 ≤ k ∧ k < m.1)) (.inl (((Ag m s.1.1 s.1.2.1 s.1.2.2 k.toNat).1, (Ag m s.1.1 s.1.2.1 s.1.2.2 k.toNat).2.1, (Ag m s.1.1 s.1.2.1 s.1.2.2 k.toNat).2.2.1),
  jf (jf s.2 (En m s.1.1 s.1.2.1 s.1.2.2 k.toNat)) (LA m s.1.1 s.1.2.1 s.1.2.2 k.toNat))) (.inr ())
structure JF (m : Na) (k : Nat) (s : St) : Prop where
 st : Zo m.2.1.length s.1.1 s.1.2.1
 len : s.2.length ≤ 2 * k
 rep : ∀ x ∈ s.2, x.2.1.length ≤ 56
theorem SP {m : Na} (hM : Tp m) {k : Nat} {s s' : St} {x : Int} (hi : JF m k s) (h : gT m s x = .inl s') : JF m (k + 1) s' := by
 unfold gT at h
 by_cases hx : 0 ≤ x ∧ x < m.1
 ·rw [Da hx] at h
  simp only [cond_true, Sum.inl.injEq] at h
  obtain ⟨n, rfl⟩ := jv hx.1
  rw [jn] at h
  obtain ⟨h1, h2, h3, h4, h5⟩ := AB (o := s.1.2.1) (c := s.1.2.2) hM hi.st hx.2
  subst h
  refine ⟨h2, ?_, ?_⟩
  ·have e1 : (En m s.1.1 s.1.2.1 s.1.2.2 n).length ≤ 1 := Fq _ _
   have e2 : (LA m s.1.1 s.1.2.1 s.1.2.2 n).length ≤ 1 := Fq _ _
   have := hi.len
   show (jf (jf s.2 _) _).length ≤ _
   simp only [List.append_eq, qe]
   omega
  ·intro y hy
   have hy' : y ∈ (s.2 ++ En m s.1.1 s.1.2.1 s.1.2.2 n) ++ LA m s.1.1 s.1.2.1 s.1.2.2 n := hy
   rw [jl, jl] at hy'
   rcases hy' with (hy' | hy') | hy'
   ·exact hi.rep y hy'
   ·have := Pr _ _ _ hy'
    simp only [jp, List.not_mem_nil, or_false] at this
    rw [this]; exact Wo _
   ·have := Pr _ _ _ hy'
    simp only [jp, List.not_mem_nil, or_false] at this
    rw [this]; exact Wo _
 ·rw [Ea hx] at h; simp at h
theorem PH {m : Na} (hM : Tp m) {f o : Int} {c : Bool} (hs : Zo m.2.1.length f o) (x : Int) :
 Xq (Sc m f o c []) x false = some (cond (decide (0 ≤ x ∧ x < m.1)) (Sc m (Ag m f o c x.toNat).1 (Ag m f o c x.toNat).2.1 (Ag m f o c x.toNat).2.2.1 (hK m f o c x.toNat), En m f o c x.toNat, true, ()) (IF, [], false, ())) := by
 have h20 : La = 1048576 := rfl
 have hv := Fu hM.v hs c XA (by simp)
 unfold Xq
 rw [Rl _ (GS hM f o c [] (by simp)), hv]
 simp only [jb, jg, cond_false]
 by_cases hx : 0 ≤ x ∧ x < m.1
 ·rw [Da hx, Ea (show ¬ x < 0 by omega)]
  show cond (decide (x ≥ m.1)) _ _ = _
  rw [Ea (show ¬ x ≥ m.1 by omega), Wr _ _ (by show (0 : Nat) ≤ _; omega)]
  obtain ⟨n, rfl⟩ := jv hx.1
  rw [Yy hM hs hx.2, jn]
  simp only [cond_false, jb]
  show cond (decide ((-1 : Int) ≥ 0)) _ _ = _
  rw [Ea (by decide)]; rfl
 ·rw [Ea hx]
  by_cases h0 : x < 0
  ·rw [Da h0]; rfl
  ·rw [Ea h0]
   show cond (decide (x ≥ m.1)) _ _ = _
   rw [Da (show x ≥ m.1 by omega)]; rfl
def eS (m : Na) (s : St) : Wa := Sc m s.1.1 s.1.2.1 s.1.2.2 []
noncomputable def MV (m : Na) (s : St) (keys : List Int) : Wa × ((List Ga) × (Bool × Unit)) :=
 match Jc (fun _ s x => gT m s x) 0 s keys with | .inl s' => (eS m s', s'.2, true, ()) | .inr _ => (IF, [], false, ())
theorem HE {m : Na} (hM : Tp m) {f o : Int} {c : Bool} (hs : Zo m.2.1.length f o) (keys : List Int) (hn : keys.length ≤ La) : Fo (Sc m f o c []) keys = some (MV m ((f, o, c), []) keys) := by
 have h20 : La = 1048576 := rfl
 have hlim := Xf
 have hl := Rm (step := fun x => Tl x.1.1 x.1.2.1 x.1.2.2.1 x.1.2.2.2.1 x.1.2.2.2.2.1 x.1.2.2.2.2.2.1 x.2.1 x.2.2.1) keys (fun _ s x => gT m s x) (fun s i => (((), (), s.2, keys, ((ja keys : Nat) : Int), i, ()), (IF, eS m s, ())))
  (fun s => .inl (((), (), s.2, ()), (IF, eS m s, ()))) (fun _ => .inr (((), ([] : List Ga), false, ()), (IF, ()))) (JF m) (by
   intro k hk s hi
   refine ⟨?_, fun s' h => SP hM hi h⟩
   simp only [Tl]
   rw [Da (show (k : Int) < ((ja keys : Nat) : Int) by omega), Uc hk]
   simp only [cond_true, jb]
   generalize keys[k] = x
   show jz (Xq (Sc m s.1.1 s.1.2.1 s.1.2.2 []) x false) _ = _
   rw [PH hM hi.st]
   unfold gT
   by_cases hx : 0 ≤ x ∧ x < m.1
   ·rw [Da hx]
    simp only [cond_true, jb, jg, cond_false]
    obtain ⟨n, rfl⟩ := jv hx.1
    rw [jn, LE hM hi.st hx.2]
    have e1 : (En m s.1.1 s.1.2.1 s.1.2.2 n).length ≤ 1 := Fq _ _
    have e2 : (LA m s.1.1 s.1.2.1 s.1.2.2 n).length ≤ 1 := Fq _ _
    have := hi.len
    simp only [jb]
    rw [show jx (ja s.2 + ja (En m s.1.1 s.1.2.1 s.1.2.2 n)) Cb = true from ji (by omega),
     show jx (ja (jf s.2 (En m s.1.1 s.1.2.1 s.1.2.2 n)) + ja (LA m s.1.1 s.1.2.1 s.1.2.2 n)) Cb = true from ji (by simp only [List.append_eq, qe]; omega)]
    rfl
   ·rw [Ea hx]; rfl)
  (by
   intro s _
   simp only [Tl]
   rw [Ea (by omega)]; rfl) (by omega) ((f, o, c), []) ⟨hs, by simp, by simp⟩
 have hv := Fu hM.v hs c XA (by simp)
 unfold Fo Zm
 rw [Rl _ (GS hM f o c [] (by simp)), hv, Cf _ (GS hM f o c [] (by simp))]
 simp only [jb, jg, cond_false]
 erw [hl]
 unfold MV
 simp only [jb]
 cases Jc (fun x s x => gT m s x) 0 ((f, o, c), []) keys <;> rfl
theorem GJ {m : Na} (hM : Tp m) : ∀ (l : List Int) (k : Nat) (s s' : St), JF m k s → Jc (fun _ s x => gT m s x) k s l = .inl s' → JF m (k + l.length) s'
 | [], k, s, s', h, he => by simp only [Jc, Sum.inl.injEq] at he; rw [← he]; exact h
 | x :: l, k, s, s', h, he => by
  simp only [Jc] at he
  cases hg : gT m s x with
  | inr u => rw [hg] at he; simp at he
  | inl s1 =>
   rw [hg] at he
   have := GJ hM l (k + 1) s1 s' (SP hM h hg) he
   rw [jw, Nat.add_comm l.length 1, ← jt]
   exact this
def Zq (p : Int → Bool) : Nat → List Int
 | 0 => []
 | n + 1 => cond (p ((n + 1 : Nat) : Int)) (Zq p n ++ [((n + 1 : Nat) : Int)]) (Zq p n)
theorem YG (p : Int → Bool) : ∀ n, (Zq p n).length ≤ n
 | 0 => by simp [Zq]
 | n + 1 => by
  have := YG p n
  simp only [Zq]
  cases p ((n + 1 : Nat) : Int) <;> simp <;> omega
theorem Hz (l : List Ka) : ∀ n, Mi l n = Zq (fun c => l.any fun h => h.2.1.2.1 == c) n
 | 0 => rfl
 | n + 1 => by simp only [Mi, Zq, Hz l n]
theorem QC (cs : List Int) (hn : cs.length ≤ La) (hx : ∀ c ∈ cs, 0 ≤ c ∧ c ≤ 56) : Vk cs = some (Zq (fun c => cs.any (fun y => y == c)) 56, ()) := by
 have := Xv (cs.map fun c => ((0, (0, c, 0, 0, ()), ()) : Ka)) (by simpa using hn) (fun h hh => by
  obtain ⟨c, hc, rfl⟩ := qq.1 hh
  exact hx c hc)
 rw [List.map_map] at this
 have e : List.map ((fun h : Ka => h.2.1.2.1) ∘ fun c => ((0, (0, c, 0, 0, ()), ()) : Ka)) cs = cs := by
  rw [show ((fun h : Ka => h.2.1.2.1) ∘ fun c => ((0, (0, c, 0, 0, ()), ()) : Ka)) = id from rfl, List.map_id]
 rw [e] at this
 rw [this, Hz]
 congr 3
 funext c
 rw [List.any_map]
 rfl
def HW (s : Int) (D : List Mb) : Int := Ce (fun _ s (p : Mb) => Ud .i64 s p.2.1) 0 s D
def Qy (b : Ga) (D : List Mb) : Ga := (HW b.1 D, Zq (fun c => b.2.1.any (fun y => y == c) || D.any (fun p => p.1 == c)) 56, ())
theorem HB (b : Ga) (D : List Mb) (hb : b.2.1.length ≤ 56) (hD : D.length ≤ 1000) (hbx : ∀ c ∈ b.2.1, 0 ≤ c ∧ c ≤ 56) (hDx : ∀ p ∈ D, 0 ≤ p.1 ∧ p.1 ≤ 56) :
 Kd b D = some (Qy b D, ()) := by
 have h20 : La = 1048576 := rfl
 have hl := (Fm (step := fun x => Mj x.1.1 x.1.2.1 x.1.2.2.1 x.1.2.2.2.1 x.1.2.2.2.2.1 x.1.2.2.2.2.2.1 x.2.1 x.2.2.1) D
  (fun _ (s : Int × List Int) (p : Mb) => (Ud .i64 s.1 p.2.1, jf s.2 [p.1])) (fun s i => (((), (), s.2, D, ((ja D : Nat) : Int), i, ()), (((0 : Int), ([] : List Int), ()), (s.1, ([] : List Int), ()), ())))
  (fun s => .inl (((), (), s.2, ()), (((0 : Int), ([] : List Int), ()), (s.1, ([] : List Int), ()), ()))) (fun k s => s.2.length = b.2.1.length + k) (by
   intro k hk s hs
   refine ⟨?_, by simp [hs]; omega⟩
   simp only [Mj]
   rw [Da (show (k : Int) < ((ja D : Nat) : Int) by omega), Uc hk]
   simp only [cond_true, jb]
   rw [show jx (ja s.2 + ja ([D[k].1] : List Int)) Cb = true from ji (by simp only [jw, j7, Xf]; omega)]
   rfl)
  (by
   intro s _
   simp only [Mj]
   rw [Ea (by omega)]; rfl) (by omega) (b.1, b.2.1) (by simp)).1
 have key : ∀ (D : List Mb) (k : Nat) (s : Int × List Int), Ce (fun _ (s : Int × List Int) (p : Mb) => (Ud .i64 s.1 p.2.1, jf s.2 [p.1])) k s D =
  (Ce (fun _ s (p : Mb) => Ud .i64 s p.2.1) k s.1 D, s.2 ++ D.map fun p => p.1) := by
  intro D
  induction D with
  | nil => intro k s; simp [Ce]
  | cons x D ih => intro k s; simp only [Ce]; rw [ih]; simp
 unfold Kd Zk
 rw [Hq _ (by omega)]
 simp only [jb]
 erw [hl]
 rw [key]
 simp only [jb, qj]
 rw [QC _ (by simp; omega) (fun c hc => by
  rcases jl.1 hc with h | h
  ·exact hbx c h
  ·obtain ⟨p, hp, rfl⟩ := qq.1 h
   exact hDx p hp)]
 simp only [jb, Qy, HW]
 congr 4
 apply congrArg (fun p => Zq p 56)
 funext c
 rw [List.any_append, List.any_map]
 rfl

noncomputable def rM (L : List Ka) (x : Zb) : Int := Pc (Np x.2.1 x.2.2.1) 0 L
noncomputable def ZE (b : Ga) (L : List Ka) (x : Zb) : List Ga :=
 cond (x.1 == 0) [Qy b ((jf L [Wq x]).map Nc), Qy b (L.map Nc)] [Qy b ((Pw x L (rM L x)).map Nc)]
noncomputable def mG (b : Ga) (s : List Ga × List Ka) (x : Zb) : List Ga × List Ka := (jf s.1 (ZE b s.2 x), Pw x s.2 (rM s.2 x))
noncomputable def Xz (b : Ga) (l : List Zb) : List Ga := (Ce (fun _ s x => mG b s x) 0 ([], []) l).1
structure TM (l : List Zb) (k : Nat) (s : List Ga × List Ka) : Prop where
 ok : ∃ L', Jc (fun _ L x => Br L x) k s.2 (l.drop k) = .inl L'
 len : s.2.length ≤ k
 out : s.1.length ≤ 2 * k
 cod : ∀ h ∈ s.2, 0 ≤ h.2.1.2.1 ∧ h.2.1.2.1 ≤ 56
theorem FU {l : List Zb} {k : Nat} (hk : k < l.length) {b : Ga} {s : List Ga × List Ka} (hi : TM l k s) : Xo l[k] (rM s.2 l[k]) = true ∧ TM l (k + 1) (mG b s l[k]) := by
 obtain ⟨L', hL⟩ := hi.ok
 rw [List.drop_eq_getElem_cons hk] at hL
 simp only [Jc] at hL
 unfold rM
 cases hc : Xo l[k] (Pc (Np l[k].2.1 l[k].2.2.1) 0 s.2) with
 | false =>
  have : Br s.2 l[k] = .inr () := by unfold Br; rw [hc]; rfl
  rw [this] at hL; simp at hL
 | true =>
  have hm : Br s.2 l[k] = .inl (Pw l[k] s.2 (rM s.2 l[k])) := by unfold Br rM; rw [hc]; rfl
  rw [hm] at hL
  refine ⟨rfl, ⟨L', hL⟩, ?_, ?_, ?_⟩
  ·have := SL hm
   have := hi.len
   show (Pw l[k] s.2 (rM s.2 l[k])).length ≤ k + 1
   omega
  ·have := hi.out
   show (jf s.1 (ZE b s.2 l[k])).length ≤ _
   unfold ZE
   cases l[k].1 == 0 <;> simp <;> omega
  ·have hcode : 0 ≤ l[k].2.1 ∧ l[k].2.1 ≤ 56 := by
    simp only [Xo, jd] at hc
    exact Kw hc.1
   intro h hh
   have hh' : h ∈ Pw l[k] s.2 (rM s.2 l[k]) := hh
   unfold Pw at hh'
   cases h1 : l[k].1 == 1 with
   | true =>
    rw [h1] at hh'
    rcases jl.1 (show h ∈ s.2 ++ [Wq l[k]] from hh') with hh' | hh'
    ·exact hi.cod h hh'
    ·simp only [jp, List.not_mem_nil, or_false] at hh'
     rw [hh']; exact hcode
   | false =>
    rw [h1] at hh'
    cases h2 : l[k].1 == 2 with
    | true =>
     rw [h2] at hh'
     have hsub : h ∈ s.2 := by
      have hw : h ∈ Pg s.2 (rM s.2 l[k]).toNat := hh'
      unfold Pg Ob at hw
      rcases jl.1 (show h ∈ _ ++ _ from hw) with hw | hw
      ·exact List.mem_of_mem_take (qo hw)
      ·exact List.mem_of_mem_take (qo hw)
     exact hi.cod h hsub
    | false => rw [h2] at hh'; exact hi.cod h hh'
theorem MU {x : Zb} {r : Int} (h : Xo x r = true) : (x.1 = 0 ∧ r < 0) ∨ (x.1 = 1 ∧ r < 0) ∨ (x.1 = 2 ∧ r ≥ 0) := by
 simp only [Xo, jd, Bool.or_eq_true, beq_iff_eq, Bool.not_eq_true', decide_eq_false_iff_not, decide_eq_true_eq] at h
 omega
theorem Ca {n m : Nat} (h : n ≤ 1000) (hm : m ≤ 10) : jx (n + m) Cb = true := ji (by rw [Xf]; omega)
theorem AV (a : List Ka) : ∀ c ∈ (Sb a).2.1, 0 ≤ c ∧ c ≤ 56 := by
 intro c hc
 have := (Uq a 56 c).1 hc
 omega
theorem Cy (a : List Ka) (l : List Zb) (hn : a.length ≤ La) (ha : Ld a = true) (hm : Kg l = true) : Og a l = some (Xz (Sb a) l, ()) := by
 have h20 : La = 1048576 := rfl
 have hm' := hm
 simp only [Kg, jd, decide_eq_true_eq, KU] at hm'
 have h0 : TM l 0 ([], []) := ⟨by
  rw [List.drop_zero]
  cases hf : Jc (fun _ L x => Br L x) 0 [] l with
  | inl L => exact ⟨L, rfl⟩
  | inr u => rw [hf] at hm'; simp at hm', jo _, jo _, by simp⟩
 have hl := (Fm (step := fun x => Jh x.1.1 x.1.2.1 x.1.2.2.1 x.1.2.2.2.1 x.1.2.2.2.2.1 x.1.2.2.2.2.2.1 x.2.1) l (fun _ s x => mG (Sb a) s x) (fun s i => (((), s.1, s.2.map Nc, l, ((ja l : Nat) : Int), i, ()), (Sb a, ()))) (fun s => .inl ((s.1, ()), ())) (TM l) (by
  intro k hk s hi
  obtain ⟨hok, hi'⟩ := FU (b := Sb a) hk hi
  refine ⟨?_, hi'⟩
  have hlen := hi.len
  have hout := hi.out
  have hl8 := hm'.1
  have hcode : 0 ≤ l[k].2.1 ∧ l[k].2.1 ≤ 56 := by
   simp only [Xo, jd] at hok
   exact Kw hok.1
  simp only [Jh]
  rw [Da (show (k : Int) < ((ja l : Nat) : Int) by omega), Uc hk]
  simp only [cond_true, jb]
  generalize hx : l[k] = x at *
  have hW : ∀ L : List Ka, L.length ≤ 1000 → (∀ h ∈ L, 0 ≤ h.2.1.2.1 ∧ h.2.1.2.1 ≤ 56) → Kd (Sb a) (L.map Nc) = some (Qy (Sb a) (L.map Nc), ()) := fun L h1 h2 =>
   HB _ _ (Wo a) (by simpa using h1) (AV a) (fun p hp => by
    obtain ⟨h, hh, rfl⟩ := qq.1 hp
    exact h2 h hh)
  have hcs : ∀ h ∈ jf s.2 [Wq x], 0 ≤ h.2.1.2.1 ∧ h.2.1.2.1 ≤ 56 := by
   intro h hh
   rcases jl.1 (show h ∈ s.2 ++ [Wq x] from hh) with hh | hh
   ·exact hi.cod h hh
   ·simp only [jp, List.not_mem_nil, or_false] at hh
    rw [hh]; exact hcode
  have happ : jf (s.2.map Nc) ([(x.2.1, x.2.2.1, ())] : List Mb) = (jf s.2 [Wq x]).map Nc := by
   show _ ++ _ = List.map Nc (_ ++ _)
   rw [List.map_append]; rfl
  have happ2 : jf (jf ([] : List Mb) (s.2.map Nc)) ([(x.2.1, x.2.2.1, ())] : List Mb) = (jf s.2 [Wq x]).map Nc := happ
  have hR1 := hW (jf s.2 [Wq x]) (by simp; omega) hcs
  have hR0 := hW s.2 (by omega) hi.cod
  have b1 : jx (ja (s.2.map Nc) + ja ([(x.2.1, x.2.2.1, ())] : List Mb)) Cb = true := Ca (by simp; omega) (by simp)
  have b0 : jx (ja ([] : List Mb) + ja (s.2.map Nc)) Cb = true := ji (by simp [Xf]; omega)
  unfold mG ZE Pw
  rcases MU hok with ⟨h0, hr⟩ | ⟨h1, hr⟩ | ⟨h2, hr⟩
  ·rw [h0, b0]
   simp only [show ((0 : Int) == 0) = true from rfl, show ((0 : Int) == 1) = false from rfl, show ((0 : Int) == 2) = false from rfl, cond_true, cond_false]
   show cond (jx (ja (s.2.map Nc) + ja ([(x.2.1, x.2.2.1, ())] : List Mb)) Cb) _ _ = _
   rw [b1, happ2]
   simp only [cond_true]
   show jz (Kd (Sb a) _) _ = _
   rw [hR1]
   simp only [jb]
   rw [show ∀ r : Ga, jx (ja s.1 + ja ([r] : List Ga)) Cb = true from fun r => Ca (by omega) (by simp)]
   simp only [cond_true]
   show jz (Kd (Sb a) _) _ = _
   rw [hR0]
   simp only [jb]
   rw [show ∀ r r' : Ga, jx (ja (jf s.1 [r]) + ja ([r'] : List Ga)) Cb = true from fun r r' => Ca (by simp; omega) (by simp)]
   simp
  ·rw [h1, b1, happ]
   simp only [show ((1 : Int) == 0) = false from rfl, show ((1 : Int) == 1) = true from rfl, cond_true, cond_false]
   show jz (Kd (Sb a) _) _ = _
   rw [hR1]
   simp only [jb]
   rw [show ∀ r : Ga, jx (ja s.1 + ja ([r] : List Ga)) Cb = true from fun r => Ca (by omega) (by simp)]
   rfl
  ·rw [h2]
   simp only [show ((2 : Int) == 0) = false from rfl, show ((2 : Int) == 1) = false from rfl, show ((2 : Int) == 2) = true from rfl, cond_true, cond_false]
   rcases Et (Np x.2.1 x.2.2.1) s.2 0 with h | ⟨j, hj, h⟩
   ·unfold rM at hr; omega
   ·rw [js] at h
    rw [Gx (s.2.map Nc) _ (by simp; omega), YE, h]
    simp only [jb]
    have hj' : j < (s.2.map Nc).length := by simpa using hj
    have hc := OG hj'
    have e1 : jx (ja (Ob (s.2.map Nc) (jy 0) (jy (j : Int))) + ja (Ob (s.2.map Nc) (jy ((j + 1 : Nat) : Int)) (jy ((ja (s.2.map Nc) : Nat) : Int)))) Cb = true :=
     ji (by simp [Ob]; rw [Xf]; omega)
    have e2 : jf (Ob (s.2.map Nc) (jy 0) (jy (j : Int))) (Ob (s.2.map Nc) (jy ((j + 1 : Nat) : Int)) (jy ((ja (s.2.map Nc) : Nat) : Int))) = (Pg s.2 j).map Nc := by
     rw [← XB]
     simp [Pg]
    have hsub : ∀ h ∈ Pg s.2 j, 0 ≤ h.2.1.2.1 ∧ h.2.1.2.1 ≤ 56 := by
     intro h hw
     unfold Pg Ob at hw
     rcases jl.1 (show h ∈ _ ++ _ from hw) with hw | hw
     ·exact hi.cod h (List.mem_of_mem_take (qo hw))
     ·exact hi.cod h (List.mem_of_mem_take (qo hw))
    rw [Bg (k := j) (by omega), hc.1, hc.2, e1, e2]
    simp only [cond_true]
    show jz (Kd (Sb a) _) _ = _
    rw [hW (Pg s.2 j) (by rw [BL hj]; omega) hsub]
    simp only [jb]
    rw [show ∀ r : Ga, jx (ja s.1 + ja ([r] : List Ga)) Cb = true from fun r => Ca (by omega) (by simp)]
    unfold rM
    rw [h, jn]
    rfl)
  (by
   intro s _
   simp only [Jh]
   rw [Ea (by omega)]; rfl) (by omega) ([], []) h0).1
 unfold Og Oi
 rw [Tk _ hn, ha, Wv _ (by omega), hm, Bf _ hn ha]
 simp only [jb, jg, cond_false]
 erw [hl]
 rfl
theorem JH (b : Ga) (D : List Mb) : (Qy b D).2.1.length ≤ 56 := by
 show (Zq (fun c => b.2.1.any (fun y => y == c) || D.any (fun p => p.1 == c)) 56).length ≤ 56
 exact YG _ 56
theorem RJ (b : Ga) : ∀ (l : List Zb) (k : Nat) (s : List Ga × List Ka), (∀ x ∈ s.1, x.2.1.length ≤ 56) →
 (Ce (fun _ s x => mG b s x) k s l).1.length ≤ s.1.length + 2 * l.length ∧ ∀ x ∈ (Ce (fun _ s x => mG b s x) k s l).1, x.2.1.length ≤ 56
 | [], _, s, h => by simp only [Ce]; exact ⟨by omega, h⟩
 | x :: l, k, s, h => by
  have h1 : (mG b s x).1.length ≤ s.1.length + 2 ∧ ∀ y ∈ (mG b s x).1, y.2.1.length ≤ 56 := by
   unfold mG ZE
   cases x.1 == 0 with
   | true =>
    refine ⟨by simp, fun y hy => ?_⟩
    rcases jl.1 (show y ∈ s.1 ++ _ from hy) with hy | hy
    ·exact h y hy
    ·simp only [cond_true, jp, List.not_mem_nil, or_false] at hy
     rcases hy with rfl | rfl <;> exact JH _ _
   | false =>
    refine ⟨by simp, fun y hy => ?_⟩
    rcases jl.1 (show y ∈ s.1 ++ _ from hy) with hy | hy
    ·exact h y hy
    ·simp only [cond_false, jp, List.not_mem_nil, or_false] at hy
     rw [hy]; exact JH _ _
  have := RJ b l (k + 1) (mG b s x) h1.2
  simp only [Ce, jw]
  exact ⟨by omega, this.2⟩
def Al (f : Int) (l : List Ka) : Int := Ce (fun _ s (h : Ka) => cond (h.2.1.1 == 3) (Ud .i64 s (Ve .i64 1 h.2.1.2.2.2.1)) s) 0 (Ud .i64 1 f) l
theorem Dx {f : Int} (hf : 0 ≤ f ∧ f ≤ 15) (l : List Ka) (hn : l.length ≤ La) (hv : Ld l = true) : Sg f l = some (Al f l, ()) := by
 have h20 : La = 1048576 := rfl
 have hh := Jt hv
 have hl := (Fm (step := fun x => Ph x.1.1 x.1.2.1 x.1.2.2.1 x.1.2.2.2.1) l
  (fun _ s (h : Ka) => cond (h.2.1.1 == 3) (Ud .i64 s (Ve .i64 1 h.2.1.2.2.2.1)) s) (fun s i => ((s, l, ((ja l : Nat) : Int), i, ()), ()))
  (fun s => .inl ((s, ()), ())) (fun _ _ => True) (by
   intro k hk s _
   refine ⟨?_, trivial⟩
   simp only [Ph]
   rw [Da (show (k : Int) < (ja l : Int) by omega), Uc hk]
   simp only [cond_true, jb]
   rw [Da (Uu (hh _ (qn hk)).act)]
   cases l[k].2.1.1 == 3 <;> rfl)
  (by
   intro s _
   simp only [Ph]
   rw [Ea (by omega)]; rfl) (by omega) (Ud .i64 1 f) trivial).1
 unfold Sg Jf
 rw [Da (show f ≥ 0 by omega), Da hf.2, Tk _ hn, hv]
 simp only [cond_true, jb, jg, cond_false]
 erw [hl]
 rfl
theorem UF (a : Ia) : Qs a = some (Cx a, ()) := by
 unfold Qs Cx
 rw [Ep]
 cases Vf a <;> cases a.1 == 6 <;> rfl
theorem XE {a : Nat} (ha : a < 2 ^ 63) (x : Ka) : Sm (a : Int) x = true ↔ Gp x ∧ a.testBit x.1.toNat = false := by
 constructor
 ·intro h
  obtain ⟨h1, h2⟩ := KR h
  refine ⟨h1, ?_⟩
  have hx : x.1 = ((x.1.toNat : Nat) : Int) := (Int.toNat_of_nonneg h1.lo).symm
  have := Vx (a := a) (k := x.1.toNat) ha (by have := h1.hi; omega)
  rw [← hx] at this
  rw [← this]
  simp [h2]
 ·rintro ⟨h1, h2⟩
  have hx : x.1 = ((x.1.toNat : Nat) : Int) := (Int.toNat_of_nonneg h1.lo).symm
  have := Vx (a := a) (k := x.1.toNat) ha (by have := h1.hi; omega)
  rw [← hx, h2] at this
  simp only [Sm, jd, decide_eq_true_eq, Bool.not_eq_true', beq_eq_false_iff_ne]
  exact ⟨⟨h1.lo, h1.hi⟩, by rw [beq_eq_false_iff_ne] at this; exact this, h1.act, h1.n1, h1.n6, h1.n7⟩
theorem OB : ∀ (l : List Ka) (k a : Nat), a < 2 ^ 63 → (Gv (Jc (fun _ s x => Vp s x) k (a : Int) l) = true ↔
 (∀ x ∈ l, Gp x ∧ a.testBit x.1.toNat = false) ∧ l.Pairwise (fun x y => x.1 ≠ y.1))
 | [], k, a, ha => by simp [Jc, Gv]
 | y :: l, k, a, ha => by
  simp only [Jc]
  cases hc : Sm (a : Int) y with
  | false =>
   rw [show Vp (a : Int) y = .inr () by unfold Vp; rw [hc]; rfl]
   simp only [Gv, jq, false_iff]
   rintro ⟨h, _⟩
   have := (XE ha y).2 (h y (qt ..))
   rw [hc] at this; cases this
  | true =>
   rw [show Vp (a : Int) y = .inl (Ud .i64 (a : Int) (Ve .i64 1 y.1)) by unfold Vp; rw [hc]; rfl]
   simp only []
   obtain ⟨hy, hb⟩ := (XE ha y).1 hc
   have h1 := hy.lo; have h2 := hy.hi
   have hyx : y.1 = ((y.1.toNat : Nat) : Int) := (Int.toNat_of_nonneg h1).symm
   have e : Ud .i64 (a : Int) (Ve .i64 1 y.1) = ((a ||| 2 ^ y.1.toNat : Nat) : Int) := by
    conv => lhs; rw [hyx]
    rw [EB (by omega), OL ha (Hv (by omega))]
   rw [e, OB l (k + 1) _ (Nat.or_lt_two_pow ha (Hv (by omega)))]
   have tb : ∀ n, (a ||| 2 ^ y.1.toNat).testBit n = false ↔ a.testBit n = false ∧ y.1.toNat ≠ n := by
    intro n
    rw [Nat.testBit_or, ql, Bool.or_eq_false_iff, decide_eq_false_iff_not]
   simp only [jp, List.pairwise_cons, forall_eq_or_imp]
   constructor
   ·rintro ⟨h, hp⟩
    refine ⟨⟨⟨hy, hb⟩, fun x hx => ⟨(h x hx).1, ((tb _).1 (h x hx).2).1⟩⟩, fun x hx hxy => ?_, hp⟩
    exact ((tb _).1 (h x hx).2).2 (by rw [hxy])
   ·rintro ⟨⟨_, h⟩, hq, hp⟩
    refine ⟨fun x hx => ⟨(h x hx).1, (tb _).2 ⟨(h x hx).2, fun hn => hq x hx ?_⟩⟩, hp⟩
    have := (h x hx).1.lo
    omega
theorem Ay (l : List Ka) : Ld l = true ↔ (∀ x ∈ l, Gp x) ∧ l.Pairwise (fun x y => x.1 ≠ y.1) := by
 have := OB l 0 0 (by decide)
 unfold Ld VN
 erw [this]
 simp
theorem TP {l : List Ka} (h : Ld l = true) {x : Ka} (hx : Gp x) (hn : ∀ y ∈ l, y.1 ≠ x.1) : Ld (jf l [x]) = true := by
 rw [Ay] at h ⊢
 obtain ⟨h1, h2⟩ := h
 refine ⟨fun y hy => ?_, ?_⟩
 ·rcases jl.1 (show y ∈ l ++ [x] from hy) with hy | hy
  ·exact h1 y hy
  ·rw [qd.1 hy]; exact hx
 ·show (l ++ [x]).Pairwise _
  rw [List.pairwise_append]
  exact ⟨h2, List.pairwise_singleton _ _, fun y hy z hz => by rw [qd.1 hz]; exact hn y hy⟩
theorem JJ {l r : List Ka} (h : Ld l = true) (hs : r.Sublist l) : Ld r = true := by
 rw [Ay] at h ⊢
 exact ⟨fun y hy => h.1 y (hs.subset hy), h.2.sublist hs⟩
theorem UJ : ∀ (n : Nat) (l : List Nat), l.Nodup → (∀ x ∈ l, x < n) → l.length ≤ n
 | 0, l, _, h => by
  cases l with
  | nil => exact jo _
  | cons x l => exact absurd (h x (qt ..)) (Nat.not_lt_zero _)
 | n + 1, l, hn, h => by
  have := UJ n (l.erase n) (hn.erase n) (fun x hx => by
   have h1 := (hn.mem_erase_iff).1 hx
   have := h x h1.2
   have := h1.1
   omega)
  have h2 := List.length_erase (a := n) (l := l)
  split at h2 <;> omega
theorem Vr {l : List Ka} (h : Ld l = true) : l.length ≤ 32 := by
 rw [Ay] at h
 have hn : (l.map fun x => x.1.toNat).Nodup := by
  rw [List.Nodup, List.pairwise_map]
  refine (List.Pairwise.and_mem.1 h.2).imp ?_
  rintro x y ⟨hx, hy, hxy⟩ he
  have h1 := (h.1 x hx).lo; have h2 := (h.1 y hy).lo
  omega
 have hs : ∀ y ∈ (l.map fun x => x.1.toNat), y < 32 := by
  intro y hy
  obtain ⟨x, hx, rfl⟩ := qq.1 hy
  have := (h.1 x hx).hi; have := (h.1 x hx).lo
  omega
 have := UJ 32 _ hn hs
 simpa using this
structure Ak (e : Wa) : Prop where
 km : Bd e.1 = true
 m4 : e.2.1.length ≤ 4
 hd : Ld e.2.2.2.1 = true
 mac : ∀ x ∈ e.2.1, Kg x = true
 hin : ∀ x ∈ e.2.2.2.1, Di e.1.1 e.1.2.1.length x = true
 st : Zo e.1.2.1.length e.2.2.1 e.2.2.2.2.1
theorem BC {α : Type} {p : α → Bool} {l : List α} : Zd (fun _ x => p x) 0 l = true ↔ ∀ x ∈ l, p x = true := by
 rw [Yh]
 constructor
 ·intro h x hx
  obtain ⟨i, hi, rfl⟩ := qp hx
  exact h i hi
 ·intro h j hj
  exact h _ (qn hj)
theorem Yw (e : Wa) : Ai e = true ↔ Ak e := by
 unfold Ai
 simp only [jd, decide_eq_true_eq, beq_iff_eq, BC]
 constructor
 ·rintro ⟨h1, h2, h3, h4, h5, h6, h7, h8⟩
  exact ⟨h1, h2, h3, h4, h5, ⟨h6.1, h6.2, h7, h8.1, h8.2⟩⟩
 ·rintro ⟨h1, h2, h3, h4, h5, h6⟩
  exact ⟨h1, h2, h3, h4, h5, ⟨h6.f0, h6.f1⟩, h6.f2, h6.o0, h6.o1⟩
theorem VA {e : Wa} (h : Ak e) : Dc Tb e ≤ La - 5 := by
 have h20 : La = 1048576 := rfl
 have h1 := (TE h.km).z
 have hh := Vr h.hd
 have h2 : Dc (.sl (.sl Hc)) e.2.1 ≤ (8 + 1) * e.2.1.length := GF (e := .sl Hc) (c := 8) fun x hx => by
  have := h.mac x hx
  simp only [Kg, jd, decide_eq_true_eq] at this
  have e2 : Dc (.sl Hc) x = x.length := Is (e := Hc) rfl x
  omega
 have := h.m4
 have hm := Qf h.km
 have h3 : Dc Kb e.1 ≤ 200 := by
  have h1 : Dc Kb e.1 = 0 + (Dc (.sl (.sl Xc)) e.1.2.1 + 0) := rfl
  have h2 : Dc (.sl (.sl Xc)) e.1.2.1 ≤ (32 + 1) * ja e.1.2.1 := GF (e := .sl Xc) (c := 32) fun x hx => by
   obtain ⟨i, hi, rfl⟩ := qp hx
   rw [JK]
   have := hm.row i hi
   have := hm.k2
   omega
  have := hm.l2
  omega
 rw [Ct, Hs]
 omega
noncomputable def AK (e : Wa) (k : Nat) (b : Bool) : Ia :=
 cond b (Cx (Rh e.1.2.1 (Lg e.1 (Al e.2.2.1 e.2.2.2.1) k) k)) (Mx (Rh e.1.2.1 (Lg e.1 (Al e.2.2.1 e.2.2.2.1) k) k))
noncomputable def Wi (e : Wa) (k : Nat) (b : Bool) : Int × Int × Bool × Ia := Lv e.2.2.1 e.2.2.2.2.1 e.2.2.2.2.2.1 (AK e k b)
noncomputable def pH (e : Wa) (k : Nat) (b : Bool) : List Ka := jf e.2.2.2.1 [((k : Int), (Wi e k b).2.2.2, ())]
noncomputable def pE (e : Wa) (k : Nat) (b : Bool) : Wa := (e.1, e.2.1, (Wi e k b).1, pH e k b, (Wi e k b).2.1, (Wi e k b).2.2.1, ())
noncomputable def pM (e : Wa) (k : Nat) (b : Bool) : List Ga :=
 cond ((Wi e k b).2.2.2.1 == 9) (cond (decide ((Wi e k b).2.2.2.2.2.2.1 < ((ja e.2.1 : Nat) : Int))) (Xz (Sb (pH e k b)) (e.2.1.getD (Wi e k b).2.2.2.2.2.2.1.toNat [])) []) []
noncomputable def pR (e : Wa) (k : Nat) (b : Bool) : List Ga := Xn Rn (Sb e.2.2.2.1) (jf (pM e k b) [Sb (pH e k b)])
theorem AU {nl i : Nat} {a : Ia} (h : Xe nl i a = true) (h1 : a.1 ≠ 1) : Jw nl (Cx a) := by
 have ha := AA h
 have hP := ha
 rw [Vb] at hP
 unfold Ub at hP
 unfold Cx Vf
 rw [ha]
 by_cases h67 : a.1 = 6 ∨ a.1 = 7
 ·have e : (true && ((a.1 == 6) || (a.1 == 7))) = true := by rcases h67 with h | h <;> rw [h] <;> rfl
  rw [e]
  have hn := BB h (by omega)
  rcases h67 with h6 | h7
  ·rw [h6]
   refine ⟨?_, by show (2 : Int) ≠ 1; decide, by show (2 : Int) ≠ 6; decide, by show (2 : Int) ≠ 7; decide, fun _ => ?_⟩
   ·rw [Vb]
    exact .inr (.inl ⟨rfl, rfl, .inl rfl, .inr (by show 1 ≤ a.2.2.1 ∧ a.2.2.1 ≤ 15; omega), .inr (by show a.2.2.1 ≠ 0; omega)⟩)
   ·show (0 : Int) < (nl : Int)
    omega
  ·rw [h7]
   refine ⟨?_, by show (3 : Int) ≠ 1; decide, by show (3 : Int) ≠ 6; decide, by show (3 : Int) ≠ 7; decide, fun _ => hn⟩
   rw [Vb]
   exact .inr (.inr (.inl ⟨.inl rfl, rfl, rfl, by show 1 ≤ a.2.2.2.1; omega, by show a.2.2.2.1 ≤ 3; omega⟩))
 ·have e : (true && ((a.1 == 6) || (a.1 == 7))) = false := by
   rw [jk, Bool.or_eq_false_iff, beq_eq_false_iff_ne, beq_eq_false_iff_ne]; omega
  rw [e]
  exact ⟨ha, h1, fun h => h67 (.inl h), fun h => h67 (.inr h), fun hk => BB h hk⟩
structure AP (e : Wa) (k : Nat) (b : Bool) : Prop where
 act : Jw e.1.2.1.length (AK e k b)
 ah : Jw e.1.2.1.length (Wi e k b).2.2.2
 hd : Ld (pH e k b) = true
 ok : Ak (pE e k b)
 ml : (pM e k b).length ≤ 16
 mx : ∀ x ∈ pM e k b, x.2.1.length ≤ 56
theorem ZL {e : Wa} (h : Ak e) {k : Nat} (hk : (k : Int) < e.1.1) (hn : ∀ y ∈ e.2.2.2.1, y.1 ≠ (k : Int)) (b : Bool) : AP e k b := by
 have hm := Qf h.km
 have h1 := ZG hm (Al e.2.2.1 e.2.2.2.1) hk
 have h2 : Jw e.1.2.1.length (AK e k b) := by
  cases b
  ·exact KM h1.1 h1.2
  ·exact AU h1.1 h1.2
 have h3 := TR (c := e.2.2.2.2.2.1) hm.l2 h.st h2
 have h4 : Ld (pH e k b) = true := TP h.hd (x := ((k : Int), (Wi e k b).2.2.2, ())) ⟨by show (0 : Int) ≤ (k : Int); omega, by have := hm.k2; show (k : Int) ≤ 31; omega, h3.2.act, h3.2.n1, h3.2.n6, h3.2.n7⟩ hn
 refine ⟨h2, h3.2, h4, ⟨h.km, h.m4, h4, h.mac, fun x hx => ?_, h3.1⟩, ?_, ?_⟩
 ·rcases jl.1 (show x ∈ e.2.2.2.1 ++ [((k : Int), (Wi e k b).2.2.2, ())] from hx) with hx | hx
  ·exact h.hin x hx
  ·simp only [jp, List.not_mem_nil, or_false] at hx
   subst hx
   simp only [Di, jd, Bool.not_eq_true', Bool.and_eq_false_iff, decide_eq_false_iff_not]
   refine ⟨by show ¬ (k : Int) ≥ e.1.1; omega, ?_⟩
   by_cases h9 : (Wi e k b).2.2.2.1 = 9
   ·exact .inl (by show ((Wi e k b).2.2.2.1 != 9) = false; simp [h9])
   ·exact .inr (Int.not_le.2 (h3.2.n h9))
 all_goals
  unfold pM
  cases (Wi e k b).2.2.2.1 == 9 with
  | false => simp
  | true =>
   simp only [cond_true]
   by_cases hl : (Wi e k b).2.2.2.2.2.2.1 < ((ja e.2.1 : Nat) : Int)
   ·rw [Da hl]
    have h0 := Uu h3.2.act
    have hmem : (e.2.1.getD (Wi e k b).2.2.2.2.2.2.1.toNat []) ∈ e.2.1 := by
     have hlt : (Wi e k b).2.2.2.2.2.2.1.toNat < e.2.1.length := by
      have : (0 : Int) ≤ (Wi e k b).2.2.2.2.2.2.1 := h0
      omega
     rw [qi, je hlt, Option.getD_some]
     exact qn hlt
    have hmc := h.mac _ hmem
    simp only [Kg, jd, decide_eq_true_eq] at hmc
    have := RJ (Sb (pH e k b)) (e.2.1.getD (Wi e k b).2.2.2.2.2.2.1.toNat []) 0 ([], []) (by simp)
    simp only [cond_true]
    unfold Xz
    first
     | exact this.2
     | (have h5 := this.1; simp only [j7] at h5; omega)
   ·rw [Ea hl]; simp
theorem LO {β : Type} (MR : List Ka → List Zb → Option ((List Ga) × Unit)) (RO : List Ka → Option (Ga × Unit)) (CH : Ga → List Ga → Option ((List Ga) × Unit)) (K : List Ga → Option β)
 (hMR : ∀ a l, a.length ≤ La → Ld a = true → Kg l = true → MR a l = some (Xz (Sb a) l, ()))
 (hRO : ∀ l, l.length ≤ La → Ld l = true → RO l = some (Sb l, ()))
 (hCH : ∀ (a : Ga) (l : List Ga), l.length ≤ La → a.2.1.length ≤ La → (∀ x ∈ l, x.2.1.length ≤ La) → CH a l = some (Xn Rn a l, ()))
 {e : Wa} (h : Ak e) {k : Nat} {b : Bool} (F : AP e k b) :
 (cond (jx (ja e.2.2.2.1 + ja ([((k : Int), (Wi e k b).2.2.2, ())] : List Ka)) Cb)
  (cond ((Wi e k b).2.2.2.1 == (9 : Int))
   (cond (decide ((Wi e k b).2.2.2.2.2.2.1 < ((ja e.2.1 : Nat) : Int)))
    (jz (Cd e.2.1 (Wi e k b).2.2.2.2.2.2.1) fun x8 => jz (MR (pH e k b) x8) fun r9 => jz (RO (pH e k b)) fun r10 =>
     cond (jx (ja r9.1 + ja ([r10.1] : List Ga)) Cb) (jz (RO e.2.2.2.1) fun r11 => jz (CH r11.1 (jf r9.1 ([r10.1] : List Ga))) fun r12 => K r12.1) none)
    (jz (RO (pH e k b)) fun r13 => cond (jx (ja ([] : List Ga) + ja ([r13.1] : List Ga)) Cb)
     (jz (RO e.2.2.2.1) fun r14 => jz (CH r14.1 (jf ([] : List Ga) ([r13.1] : List Ga))) fun r15 => K r15.1) none))
   (jz (RO (pH e k b)) fun r16 => cond (jx (ja ([] : List Ga) + ja ([r16.1] : List Ga)) Cb)
    (jz (RO e.2.2.2.1) fun r17 => jz (CH r17.1 (jf ([] : List Ga) ([r16.1] : List Ga))) fun r18 => K r18.1) none))
  none) = K (pR e k b) := by
 have h20 : La = 1048576 := rfl
 have hlim := Xf
 have hl1 := Vr h.hd
 have hl2 := Vr F.hd
 have R1 := hRO (pH e k b) (by omega) F.hd
 have R0 := hRO e.2.2.2.1 (by omega) h.hd
 have hr : ∀ r : Ga, jx (ja ([] : List Ga) + ja ([r] : List Ga)) Cb = true := fun r => ji (by simp only [jw, j7]; omega)
 rw [show jx (ja e.2.2.2.1 + ja ([((k : Int), (Wi e k b).2.2.2, ())] : List Ka)) Cb = true from ji (by simp only [jw, j7]; omega)]
 have plain : pM e k b = [] → (jz (RO (pH e k b)) fun r13 => cond (jx (ja ([] : List Ga) + ja ([r13.1] : List Ga)) Cb)
  (jz (RO e.2.2.2.1) fun r14 => jz (CH r14.1 (jf ([] : List Ga) ([r13.1] : List Ga))) fun r15 => K r15.1) none) = K (pR e k b) := by
  intro hm
  rw [R1, R0]
  simp only [jb]
  rw [hr, hCH _ _ (by simp; omega) (Us _) (fun x hx => by rw [qd.1 (show x ∈ [Sb (pH e k b)] from hx)]; exact Us _)]
  simp only [cond_true, jb]
  unfold pR
  rw [hm]
 simp only [cond_true]
 cases h9 : (Wi e k b).2.2.2.1 == (9 : Int) with
 | false => exact plain (by unfold pM; rw [h9]; rfl)
 | true =>
  simp only [cond_true]
  by_cases hl : (Wi e k b).2.2.2.2.2.2.1 < ((ja e.2.1 : Nat) : Int)
  ·rw [Da hl]
   simp only [cond_true]
   have h0 : (0 : Int) ≤ (Wi e k b).2.2.2.2.2.2.1 := Uu F.ah.act
   have hlt : (Wi e k b).2.2.2.2.2.2.1.toNat < e.2.1.length := by omega
   have hi : Cd e.2.1 (Wi e k b).2.2.2.2.2.2.1 = some e.2.1[(Wi e k b).2.2.2.2.2.2.1.toNat] := by
    have := Uc (xs := e.2.1) hlt
    rw [Int.toNat_of_nonneg h0] at this
    exact this
   have hM : pM e k b = Xz (Sb (pH e k b)) e.2.1[(Wi e k b).2.2.2.2.2.2.1.toNat] := by
    unfold pM
    rw [h9, Da hl, qi, je hlt, Option.getD_some]
    rfl
   have ml := F.ml
   have mx := F.mx
   rw [hi]
   simp only [jb]
   rw [hMR _ _ (by omega) F.hd (h.mac _ (qn hlt)), R1, R0, ← hM]
   simp only [jb]
   rw [show jx (ja (pM e k b) + ja ([Sb (pH e k b)] : List Ga)) Cb = true from ji (by simp only [jw, j7]; omega)]
   simp only [cond_true]
   rw [hCH _ _ (by show (pM e k b ++ [Sb (pH e k b)]).length ≤ _; simp; omega) (Us _) (fun x hx => by
    rcases jl.1 (show x ∈ pM e k b ++ [Sb (pH e k b)] from hx) with hx | hx
    ·have := mx x hx; omega
    ·rw [qd.1 hx]; exact Us _)]
   rfl
  ·rw [Ea hl]
   exact plain (by unfold pM; rw [h9, Ea hl]; rfl)
theorem Hx {e : Wa} (h : Ak e) {k : Nat} (hk : (k : Int) < e.1.1) (hn : ∀ y ∈ e.2.2.2.1, y.1 ≠ (k : Int)) (b : Bool) :
 De e (k : Int) b = some (pE e k b, pR e k b, ()) := by
 have h20 : La = 1048576 := rfl
 have hm := Qf h.km
 have F := ZL h hk hn b
 have hz := VA h
 have hle := Vr h.hd
 have hl := Zv hm (Al e.2.2.1 e.2.2.2.1) k
 have hrow := hm.row _ hl
 have tail := LO Og Lb Wb (fun r => some (pE e k b, r, ())) Cy Bf Fn h F
 unfold De
 rw [Cf _ (by omega), Dx (UT hm.l2 h.st) _ (by omega) h.hd]
 simp only [jb]
 rw [Yq hm _ hk]
 simp only [jb]
 show jz (Cd e.1.2.1 ((Lg e.1 (Al e.2.2.1 e.2.2.2.1) k : Nat) : Int)) _ = _
 rw [WN hl (by omega)]
 cases b with
 | true =>
  simp only [cond_true]
  rw [UF]
  simp only [jb]
  show jz (Zh (e.1, e.2.1, e.2.2.1, e.2.2.2.1, e.2.2.2.2.1, e.2.2.2.2.2.1, ()) (AK e k true)) _ = _
  rw [Xr _ _ _ _ _ _ _ F.act.act]
  simp only [jb]
  exact tail
 | false =>
  simp only [cond_false]
  rw [Xy]
  simp only [jb]
  show jz (Zh (e.1, e.2.1, e.2.2.1, e.2.2.2.1, e.2.2.2.2.1, e.2.2.2.2.2.1, ()) (AK e k false)) _ = _
  rw [Xr _ _ _ _ _ _ _ F.act.act]
  simp only [jb]
  exact tail
theorem RN {l : List Ka} {k : Int} : Pc (fun h : Ka => h.1 == k) 0 l = -1 ↔ ∀ y ∈ l, y.1 ≠ k := by
 have key : ∀ (l : List Ka) (n : Nat), Pc (fun h : Ka => h.1 == k) n l = -1 ↔ ∀ y ∈ l, y.1 ≠ k := by
  intro l
  induction l with
  | nil => intro n; simp [Pc]
  | cons x l ih =>
   intro n
   simp only [Pc]
   cases hx : x.1 == k with
   | true =>
    simp only [cond_true, jp, forall_eq_or_imp]
    have hx := eq_of_beq hx
    constructor
    ·intro h; omega
    ·intro h; exact absurd hx h.1
   | false =>
    simp only [cond_false, jp, forall_eq_or_imp]
    rw [ih]
    exact ⟨fun h => ⟨beq_eq_false_iff_ne.1 hx, h⟩, fun h => h.2⟩
 exact key l 0
def wo (l : List Ka) (i : Nat) : List Ka := jf (l.take i) (l.drop (i + 1))
theorem MK (l : List Ka) (i : Nat) : (wo l i).Sublist l := by
 have h : (l.drop (i + 1)).Sublist (l.drop i) := List.drop_sublist_drop_left l (Nat.le_succ i)
 have h2 := List.Sublist.append (List.Sublist.refl (l.take i)) h
 rw [List.take_append_drop] at h2
 exact h2
def rE (e : Wa) (i : Nat) : Wa := (e.1, e.2.1, e.2.2.1, wo e.2.2.2.1 i, e.2.2.2.2)
def rR (e : Wa) (i : Nat) : List Ga := Xn Rn (Sb e.2.2.2.1) [Sb (wo e.2.2.2.1 i)]
theorem X2 {e : Wa} (h : Ak e) (i : Nat) : Ak (rE e i) :=
 ⟨h.km, h.m4, JJ h.hd (MK _ i), h.mac, fun x hx => h.hin x ((MK _ i).subset hx), h.st⟩
theorem ZZ {α : Type} (l : List α) (i : Nat) : Ob l (jy (0 : Int)) (jy (i : Int)) = l.take i := by
 simp [Ob]
theorem YZ {α : Type} (l : List α) (i : Nat) : Ob l (jy ((i + 1 : Nat) : Int)) (jy ((ja l : Nat) : Int)) = l.drop (i + 1) := by
 simp [Ob]
theorem RC {e : Wa} (h : Ak e) {k : Int} {i : Nat} (hi : i < e.2.2.2.1.length) (hf : Pc (fun h : Ka => h.1 == k) 0 e.2.2.2.1 = (i : Int)) :
 Gh e k = some (rE e i, rR e i, ()) := by
 have h20 : La = 1048576 := rfl
 have hlim := Xf
 have hz := VA h
 have hle := Vr h.hd
 have hw := JJ h.hd (MK e.2.2.2.1 i)
 have hwl := Vr hw
 unfold Gh
 rw [Cf _ (by omega), Wr _ _ (by omega), hf]
 simp only [jb]
 rw [Bg (by omega)]
 rw [ZZ, YZ]
 rw [show Te (ja e.2.2.2.1) (0 : Int) ((i : Nat) : Int) = true from Kz (lo := 0) (by omega) (by omega), Kz (by omega) (by omega)]
 rw [show jx (ja (e.2.2.2.1.take i) + ja (e.2.2.2.1.drop (i + 1))) Cb = true from ji (by simp; omega)]
 simp only [cond_true]
 rw [Bf _ (by omega) h.hd]
 simp only [jb]
 show jz (Lb (wo e.2.2.2.1 i)) _ = _
 rw [Bf _ (by omega) hw]
 simp only [jb]
 rw [Fn _ _ (by simp; omega) (Us _) (fun x hx => by rw [qd.1 hx]; exact Us _)]
 rfl
def WD (md key e : Int) (s : Int) (x : Ra) : Int ⊕ (Int × Int) :=
 cond (Zg x) (cond (decide (x.1 ≥ e)) (.inr (2, e)) (cond (x.2.1 == key) (cond x.2.2.1 (.inl s) (.inr (1, x.1)))
  (cond x.2.2.1 (cond (md == 1) (.inr (2, x.1)) (.inl (Ud .i64 s (Ve .i64 1 x.2.1))))
   (cond (md == 2) (cond (Nl s x.2.1 == 1) (.inr (2, x.1)) (.inl s)) (.inl s))))) (.inr (0, 0))
def EW (md key e : Int) (l : List Ra) : Int ⊕ (Int × Int) := Jc (fun _ s x => WD md key e s x) 0 0 l
def Aj (t : Uw) (key at_ : Int) (l : List Ra) (til : Int) : Mb :=
 cond (Ie t && decide (0 ≤ at_ ∧ at_ ≤ 1000000)) (match EW t.2.2.1 key (j5 .i64 (at_ + t.1)) l with
  | .inl _ => cond (decide (til ≥ j5 .i64 (at_ + t.1))) (2, j5 .i64 (at_ + t.1), ()) (0, 0, ())
  | .inr r => (r.1, r.2, ())) (0, 0, ())
theorem OC (t : Uw) (key at_ : Int) (l : List Ra) (til : Int) (hn : l.length ≤ La) : Lm t key at_ l til = some (Aj t key at_ l til) := by
 have h20 : La = 1048576 := rfl
 have hl := Rm (step := fun x => Ck x.1.1 x.1.2.1 x.1.2.2.1 x.1.2.2.2.1 x.1.2.2.2.2.1 x.1.2.2.2.2.2.1 x.1.2.2.2.2.2.2.1 x.1.2.2.2.2.2.2.2.1 x.2.1) l
  (fun _ s x => WD t.2.2.1 key (j5 .i64 (at_ + t.1)) s x) (fun s i => ((key, at_, til, (), s, l, ((ja l : Nat) : Int), i, ()), (t, ())))
  (fun s => .inl ((at_, til, (), ()), (t, ()))) (fun r => .inr ((r.1, r.2, ()), ())) (fun _ _ => True) (by
   intro k hk s _
   refine ⟨?_, fun _ _ => trivial⟩
   simp only [Ck]
   rw [Da (show (k : Int) < ((ja l : Nat) : Int) by omega), Uc hk]
   simp only [cond_true, jb]
   rw [Vv]
   unfold WD
   cases he : Zg l[k] with
   | false => rfl
   | true =>
    have hk' := Dt he
    rw [Da hk'.2.2.1, Rs s hk'.2.2.1]
    simp only [cond_true, jb, jg, cond_false]
    cases decide (l[k].1 ≥ j5 .i64 (at_ + t.1)) <;> cases l[k].2.1 == key <;> cases l[k].2.2.1 <;> cases t.2.2.1 == 1 <;> cases t.2.2.1 == 2 <;> cases Nl s l[k].2.1 == 1 <;> rfl) (by
   intro s _
   simp only [Ck]
   rw [Ea (by omega)]; rfl) (by omega) 0 trivial
 unfold Lm Pl Aj
 rw [Au]
 simp only [jb]
 cases Ie t with
 | false => rfl
 | true =>
  by_cases h1 : at_ < 0
  ·rw [Da h1, Ea (show ¬ (0 ≤ at_ ∧ at_ ≤ 1000000) by omega)]; rfl
  ·by_cases h2 : at_ > 1000000
   ·rw [Ea h1, Da h2, Ea (show ¬ (0 ≤ at_ ∧ at_ ≤ 1000000) by omega)]; rfl
   ·rw [Ea h1, Ea h2, Da (show (0 ≤ at_ ∧ at_ ≤ 1000000) by omega)]
    simp only [jg, cond_false]
    erw [hl]
    unfold EW
    cases Jc (fun _ s x => WD t.2.2.1 key (j5 .i64 (at_ + t.1)) s x) 0 0 l with
    | inl s =>
     simp only [jb, qj]
     cases decide (til ≥ j5 .i64 (at_ + t.1)) <;> rfl
    | inr r => rfl
def Gq (l : List Ka) (j : Nat) : Bool := l.any (fun h => h.1 == (j : Int))
structure Ru (l : List Ka) (m : Nat) : Prop where
 lt : m < 2 ^ 63
 bit : ∀ j, m.testBit j = Gq l j
theorem TL : ∀ (l : List Ka) (k : Nat) (s : Nat), s < 2 ^ 63 → (∀ x ∈ l, Gp x) →
 ∃ m : Nat, Ce (fun _ s (x : Ka) => Ud .i64 s (Ve .i64 1 x.1)) k (s : Int) l = (m : Int) ∧ m < 2 ^ 63 ∧ ∀ j, m.testBit j = (s.testBit j || Gq l j)
 | [], _, s, hs, _ => ⟨s, rfl, hs, fun j => by simp [Gq]⟩
 | x :: l, k, s, hs, h => by
  have hx := h x (by simp)
  obtain ⟨n, hn⟩ := jv hx.lo
  have := hx.hi
  simp only [Ce]
  rw [hn, EB (by omega), OL hs (Hv (by omega))]
  obtain ⟨m, h1, h2, h3⟩ := TL l (k + 1) _ (Nat.or_lt_two_pow hs (Hv (show n ≤ 62 by omega))) (fun y hy => h y (by simp [hy]))
  refine ⟨m, h1, h2, fun j => ?_⟩
  rw [h3, Nat.testBit_or, ql]
  simp only [Gq, List.any_cons, hn]
  rw [show (((n : Nat) : Int) == ((j : Nat) : Int)) = decide (n = j) by rw [qs]; simp [Int.ofNat_inj]]
  rw [Bool.or_assoc]
theorem EX {l : List Ka} (h : Ld l = true) : ∃ m : Nat, Cr l = (m : Int) ∧ Ru l m := by
 obtain ⟨m, h1, h2, h3⟩ := TL l 0 0 (by decide) (Jt h)
 exact ⟨m, h1, h2, fun j => by rw [h3]; simp⟩
theorem DO {l : List Ka} {m k : Nat} (h : Ru l m) (hk : k ≤ 62) (hb : Gq l k = false) (a : Ia) : Ru (jf l [((k : Int), a, ())]) (m ^^^ 2 ^ k) := by
 refine ⟨qm h.lt (Hv hk), fun j => ?_⟩
 rw [Nat.testBit_xor, ql, h.bit]
 show _ = Gq (l ++ [((k : Int), a, ())]) j
 simp only [Gq, List.any_append, List.any_cons, List.any_nil, Bool.or_false]
 rw [show (((k : Nat) : Int) == ((j : Nat) : Int)) = decide (k = j) by rw [qs]; simp [Int.ofNat_inj]]
 by_cases hj : k = j
 ·subst hj
  simp only [Gq] at hb
  rw [hb, Da rfl]; rfl
 ·rw [Ea hj]; simp
theorem Q2 {l : List Ka} (hp : l.Pairwise (fun x y => x.1 ≠ y.1)) {i : Nat} (hi : i < l.length) (j : Int) : (wo l i).any (fun h => h.1 == j) = (l.any (fun h => h.1 == j) && !(l[i].1 == j)) := by
 rw [qs]
 simp only [List.any_eq_true, jd, Bool.not_eq_true', beq_iff_eq, beq_eq_false_iff_ne, wo]
 rw [List.pairwise_iff_getElem] at hp
 constructor
 ·rintro ⟨x, hx, hj⟩
  rcases jl.1 (show x ∈ l.take i ++ l.drop (i + 1) from hx) with hx | hx
  ·obtain ⟨n, hn, rfl⟩ := qp hx
   rw [List.getElem_take] at hj
   have hn2 : n < i ∧ n < l.length := by rw [List.length_take] at hn; omega
   exact ⟨⟨_, qn hn2.2, hj⟩, fun h => hp n i hn2.2 hi hn2.1 (hj.trans h.symm)⟩
  ·obtain ⟨n, hn, rfl⟩ := qp hx
   rw [List.getElem_drop] at hj
   have hn2 : i + 1 + n < l.length := by rw [qr] at hn; omega
   exact ⟨⟨_, qn hn2, hj⟩, fun h => hp i (i + 1 + n) hi hn2 (by omega) (h.trans hj.symm)⟩
 ·rintro ⟨⟨x, hx, hj⟩, hne⟩
  obtain ⟨n, hn, rfl⟩ := qp hx
  refine ⟨l[n], jl.2 ?_, hj⟩
  rcases Nat.lt_trichotomy n i with h | h | h
  ·exact .inl (List.mem_take_iff_getElem.2 ⟨n, by omega, rfl⟩)
  ·subst h; exact absurd hj hne
  ·exact .inr (List.mem_drop_iff_getElem.2 ⟨n - (i + 1), by omega, by congr 1; omega⟩)
theorem SJ {l : List Ka} (hp : l.Pairwise (fun x y => x.1 ≠ y.1)) {m k i : Nat} (h : Ru l m) (hk : k ≤ 62) (hi : i < l.length) (hb : l[i].1 = (k : Int)) : Ru (wo l i) (m ^^^ 2 ^ k) := by
 refine ⟨qm h.lt (Hv hk), fun j => ?_⟩
 rw [Nat.testBit_xor, ql, h.bit]
 simp only [Gq]
 rw [Q2 hp hi, hb]
 rw [show (((k : Nat) : Int) == ((j : Nat) : Int)) = decide (k = j) by rw [qs]; simp [Int.ofNat_inj]]
 by_cases hj : k = j
 ·subst hj
  rw [Da rfl]
  have : l.any (fun h => h.1 == (k : Int)) = true := List.any_eq_true.2 ⟨l[i], qn hi, by rw [hb]; simp⟩
  rw [this]; rfl
 ·rw [Ea hj]; simp
theorem NB {α S R : Type} (g : S → α → S ⊕ R) : ∀ (l : List α) (k j : Nat) (s : S), Jc (fun _ s x => g s x) k s l = Jc (fun _ s x => g s x) j s l
 | [], _, _, _ => rfl
 | x :: l, k, j, s => by
  simp only [Jc]
  cases g s x with
  | inl s' => exact NB g l (k + 1) (j + 1) s'
  | inr r => rfl
structure NF (d : Nb) : Prop where
 eng : Ak d.1
 len : d.2.2.1.length ≤ 64
 key : ∀ x ∈ d.2.2.1, x.2.1 < d.1.1.1
 fol : ∃ (m : Nat) (t : Int), Ru d.1.2.2.2.1 m ∧ Gv (Jc (fun _ s x => Xm s x) 0 (t, (m : Int)) d.2.2.1) = true
def FE (e : Wa) (k : Int) : Nat := (Pc (fun h : Ka => h.1 == k) 0 e.2.2.2.1).toNat
noncomputable def Lo (d : Nb) (x : Ra) (r : List Ra) : Option (Nb × List Ga) :=
 cond (!x.2.2.1)
  (some ((rE d.1 (FE d.1 x.2.1), d.2.1, r, d.2.2.2.1, max d.2.2.2.2.1 x.1, d.2.2.2.2.2.1, cond (d.2.2.2.2.2.1 == j5 .i64 (x.2.1 + 1)) x.1 d.2.2.2.2.2.2.1, ()), rR d.1 (FE d.1 x.2.1)))
  (cond (Vf (Rh d.1.1.2.1 (Lg d.1.1 (Al d.1.2.2.1 d.1.2.2.2.1) x.2.1.toNat) x.2.1.toNat))
   (
    let ch : Int × Int := cond ((d.2.2.2.2.2.1 == j5 .i64 (x.2.1 + 1)) && !decide (j5 .i64 (x.1 - d.2.2.2.2.2.2.1) ≥ d.2.1.2.1)) (1, x.1) ((Aj d.2.1 x.2.1 x.1 r d.2.2.2.1).1, (Aj d.2.1 x.2.1 x.1 r d.2.2.2.1).2.1)
    cond (ch.1 == 0) none
     (some ((pE d.1 x.2.1.toNat (ch.1 == 2), d.2.1, r, d.2.2.2.1, max (max d.2.2.2.2.1 x.1) ch.2, cond (ch.1 == 2) 0 (j5 .i64 (x.2.1 + 1)), cond (ch.1 == 2) d.2.2.2.2.2.2.1 x.1, ()), pR d.1 x.2.1.toNat (ch.1 == 2))))
   (some ((pE d.1 x.2.1.toNat false, d.2.1, r, d.2.2.2.1, max d.2.2.2.2.1 x.1, d.2.2.2.2.2.1, d.2.2.2.2.2.2.1, ()), pR d.1 x.2.1.toNat false)))
structure LW (d : Nb) (x : Ra) (r : List Ra) : Prop where
 ev : Zg x = true
 key : x.2.1 < d.1.1.1
 up : x.2.2.1 = false → ∃ hi : FE d.1 x.2.1 < d.1.2.2.2.1.length, Pc (fun h : Ka => h.1 == x.2.1) 0 d.1.2.2.2.1 = ((FE d.1 x.2.1 : Nat) : Int) ∧ (d.1.2.2.2.1[FE d.1 x.2.1]'hi).1 = x.2.1
 down : x.2.2.1 = true → ∀ y ∈ d.1.2.2.2.1, y.1 ≠ x.2.1
theorem TG {α : Type} (p : α → Bool) : ∀ (xs : List α) (k j : Nat), j < xs.length → Pc p k xs = ((k + j : Nat) : Int) → ∃ h : j < xs.length, p xs[j] = true
 | [], _, _, hj, _ => absurd hj (by simp)
 | x :: xs, k, j, hj, h => by
  simp only [Pc] at h
  cases hx : p x with
  | true =>
   rw [hx] at h
   simp only [cond_true] at h
   have : j = 0 := by omega
   subst this
   exact ⟨hj, hx⟩
  | false =>
   rw [hx] at h
   simp only [cond_false] at h
   cases j with
   | zero =>
    rcases Et p xs (k + 1) with h1 | ⟨i, _, h1⟩ <;> (rw [h1] at h; omega)
   | succ j =>
    have hj' : j < xs.length := by simp at hj; omega
    obtain ⟨_, h2⟩ := TG p xs (k + 1) j hj' (by rw [h]; omega)
    exact ⟨hj, h2⟩
theorem AJ {d : Nb} {x : Ra} {r : List Ra} (h : NF d) (hq : d.2.2.1 = x :: r) : LW d x r := by
 obtain ⟨m, t, hm, hf⟩ := h.fol
 rw [hq] at hf
 simp only [Jc, Xm] at hf
 cases ho : Ft (t, (m : Int)) x with
 | false => rw [ho] at hf; exact absurd hf (by simp [Gv])
 | true =>
  simp only [Ft, jd] at ho
  obtain ⟨h1, h2, h3⟩ := ho
  have hk := Dt h1
  obtain ⟨n, hn⟩ := jv hk.2.2.1
  have hn' : x.2.1 = (n : Int) := hn
  rw [hn', Vx hm.lt (by omega), hm.bit] at h3
  refine ⟨h1, h.key x (by rw [hq]; simp), fun hu => ?_, fun hd => ?_⟩
  ·rw [hu] at h3
   have h4 : Gq d.1.2.2.2.1 n = true := by
    cases hh : Gq d.1.2.2.2.1 n with
    | true => rfl
    | false => rw [hh] at h3; exact absurd h3 (by decide)
   rcases Et (fun h : Ka => h.1 == x.2.1) d.1.2.2.2.1 0 with h5 | ⟨j, hj, h5⟩
   ·rw [RN] at h5
    simp only [Gq, List.any_eq_true, beq_iff_eq] at h4
    obtain ⟨y, hy, hyk⟩ := h4
    exact absurd (hyk.trans hn'.symm) (h5 y hy)
   ·have e : FE d.1 x.2.1 = j := by unfold FE; rw [h5]; omega
    obtain ⟨h6, h7⟩ := TG _ _ _ _ hj h5
    have h7' := eq_of_beq h7
    refine ⟨by omega, by rw [h5, e]; omega, ?_⟩
    simp only [e]
    exact h7'
  ·rw [hd] at h3
   intro y hy he
   have : Gq d.1.2.2.2.1 n = true := List.any_eq_true.2 ⟨y, hy, by rw [he, hn']; simp⟩
   rw [this] at h3
   exact absurd h3 (by decide)
theorem OX {d d' : Nb} {x : Ra} {r : List Ra} {l : List Ga} (h : NF d) (hq : d.2.2.1 = x :: r) (hs : Lo d x r = some (d', l)) :
 NF d' ∧ d'.2.2.1 = r ∧ l.length ≤ 17 ∧ (∀ y ∈ l, y.2.1.length ≤ 56) := by
 have hF := AJ h hq
 have hk := Dt hF.ev
 obtain ⟨n, hn⟩ := jv hk.2.2.1
 have hn' : x.2.1 = (n : Int) := hn
 obtain ⟨m, t, hm, hf⟩ := h.fol
 have hfol : Gv (Jc (fun _ s x => Xm s x) 0 (x.1, ((m ^^^ 2 ^ n : Nat) : Int)) r) = true := by
  rw [hq] at hf
  simp only [Jc, Xm] at hf
  cases ho : Ft (t, (m : Int)) x with
  | false => rw [ho] at hf; exact absurd hf (by simp [Gv])
  | true =>
   rw [ho] at hf
   simp only [cond_true, hn', EB (show n ≤ 62 by omega)] at hf
   rw [HU hm.lt (Hv (by omega))] at hf
   rw [NB Xm r 0 1]
   exact hf
 have hlen : r.length ≤ 64 := by have := h.len; rw [hq] at this; simp at this; omega
 have hkey : ∀ y ∈ r, y.2.1 < d.1.1.1 := fun y hy => h.key y (by rw [hq]; simp [hy])
 have hp := ((Ay d.1.2.2.2.1).1 h.eng.hd).2
 have press : ∀ b : Bool, x.2.2.1 = true → Ak (pE d.1 n b) ∧ Ru (pE d.1 n b).2.2.2.1 (m ^^^ 2 ^ n) ∧ (pR d.1 n b).length ≤ 17 ∧ (∀ y ∈ pR d.1 n b, y.2.1.length ≤ 56) := by
  intro b hd
  have hn2 := hF.down hd
  rw [hn'] at hn2
  have F := ZL h.eng (k := n) (by have := hF.key; omega) hn2 b
  refine ⟨F.ok, DO hm (by omega) ?_ _, ?_, fun y hy => ?_⟩
  ·cases hh : Gq d.1.2.2.2.1 n with
   | false => rfl
   | true =>
    simp only [Gq, List.any_eq_true, beq_iff_eq] at hh
    obtain ⟨y, hy, hyk⟩ := hh
    exact absurd hyk (hn2 y hy)
  ·have := Fq (jf (pM d.1 n b) [Sb (pH d.1 n b)]) (Sb d.1.2.2.2.1)
   have h9 := F.ml
   unfold pR
   have : (jf (pM d.1 n b) [Sb (pH d.1 n b)]).length = (pM d.1 n b).length + 1 := by simp
   omega
  ·have := Pr _ _ _ hy
   rcases jl.1 (show y ∈ pM d.1 n b ++ [Sb (pH d.1 n b)] from this) with h1 | h1
   ·exact F.mx y h1
   ·rw [qd.1 h1]; exact Wo _
 unfold Lo at hs
 cases hd : x.2.2.1 with
 | false =>
  rw [hd] at hs
  simp only [j9, cond_true, jc, jh] at hs
  obtain ⟨rfl, rfl⟩ := hs
  obtain ⟨hi, hi1, hi2⟩ := hF.up hd
  refine ⟨⟨X2 h.eng _, hlen, hkey, _, _, SJ hp hm (by omega) hi (by rw [hi2, hn']), hfol⟩, rfl, ?_, fun y hy => ?_⟩
  ·have := Fq [Sb (wo d.1.2.2.2.1 (FE d.1 x.2.1))] (Sb d.1.2.2.2.1)
   unfold rR
   simp only [jw, j7] at this
   omega
  ·have := Pr _ _ _ hy
   rw [qd.1 this]; exact Wo _
 | true =>
  rw [hd] at hs
  simp only [jg, cond_false, hn', jn] at hs
  cases ht : Vf (Rh d.1.1.2.1 (Lg d.1.1 (Al d.1.2.2.1 d.1.2.2.2.1) n) n) with
  | false =>
   rw [ht] at hs
   simp only [cond_false, jc, jh] at hs
   obtain ⟨rfl, rfl⟩ := hs
   have P := press false hd
   exact ⟨⟨P.1, hlen, hkey, _, _, P.2.1, hfol⟩, rfl, P.2.2⟩
  | true =>
   rw [ht] at hs
   simp only [cond_true] at hs
   revert hs
   generalize (cond ((d.2.2.2.2.2.1 == j5 .i64 ((n : Int) + 1)) && !decide (j5 .i64 (x.1 - d.2.2.2.2.2.2.1) ≥ d.2.1.2.1)) ((1 : Int), x.1) ((Aj d.2.1 (n : Int) x.1 r d.2.2.2.1).1, (Aj d.2.1 (n : Int) x.1 r d.2.2.2.1).2.1)) = ch
   intro hs
   cases h0 : ch.1 == 0 with
   | true => rw [h0] at hs; simp at hs
   | false =>
    rw [h0] at hs
    simp only [cond_false, jc, jh] at hs
    obtain ⟨rfl, rfl⟩ := hs
    have P := press (ch.1 == 2) hd
    exact ⟨⟨P.1, hlen, hkey, _, _, P.2.1, hfol⟩, rfl, P.2.2⟩
theorem NC {m : Na} (hz : Dc Kb m ≤ La) (hv : Bd m = true) (on : Int) {k : Nat} (hk : (k : Int) < m.1) :
 Wp m on (k : Int) = some (Rh m.2.1 (Lg m on k) k, ()) := by
 have hm := Qf hv
 have hl := Zv hm on k
 have hrow := hm.row _ hl
 unfold Wp Cv
 rw [Bv _ hz, hv, Ea (show ¬ (k : Int) < 0 by omega), Ea (show ¬ (k : Int) ≥ m.1 by omega), Yq hm _ hk]
 simp only [jb, jg, cond_false]
 rw [Ea (by omega)]
 simp only [cond_false]
 show (jz (Cd m.2.1 ((Lg m on k : Nat) : Int)) _) = _
 rw [WN hl (by omega)]
theorem NN (t : Uw) (key at_ : Int) (l : List Ra) (til : Int) : (Aj t key at_ l til).1 = 0 ∨ (Aj t key at_ l til).1 = 1 ∨ (Aj t key at_ l til).1 = 2 := by
 have key2 : ∀ (md k' e : Int) (l : List Ra) (k : Nat) (s : Int) (r : Int × Int), Jc (fun _ s x => WD md k' e s x) k s l = .inr r → r.1 = 0 ∨ r.1 = 1 ∨ r.1 = 2 := by
  intro md k' e l
  induction l with
  | nil => intro k s r h; simp [Jc] at h
  | cons x l ih =>
   intro k s r h
   simp only [Jc] at h
   revert h
   cases hg : WD md k' e s x with
   | inl s' => intro h; exact ih _ _ _ h
   | inr r' =>
    intro h
    simp only [Sum.inr.injEq] at h
    subst h
    unfold WD at hg
    revert hg
    cases Zg x <;> cases decide (x.1 ≥ e) <;> cases x.2.1 == k' <;> cases x.2.2.1 <;> cases md == 1 <;> cases md == 2 <;> cases Nl s x.2.1 == 1 <;> (intro hg; cases hg) <;> simp
 unfold Aj
 cases Ie t && decide (0 ≤ at_ ∧ at_ ≤ 1000000) with
 | false => exact .inl rfl
 | true =>
  simp only [cond_true]
  cases h : EW t.2.2.1 key (j5 .i64 (at_ + t.1)) l with
  | inl s => cases decide (til ≥ j5 .i64 (at_ + t.1)) <;> simp
  | inr r => exact key2 _ _ _ _ _ _ _ h
theorem QT {α : Type} (x : α) (r : List α) (hr : r.length ≤ 64) : Te (ja (x :: r)) (1 : Int) ((ja (x :: r) : Nat) : Int) = true ∧ Ob (x :: r) (jy (1 : Int)) (jy ((ja (x :: r) : Nat) : Int)) = r := by
 refine ⟨Kz (lo := 1) (by simp) (by simp), ?_⟩
 show List.drop 1 (List.take _ (x :: r)) = r
 rw [jn, List.take_length]; rfl
def NX (d : Nb) : Option (Nb × List Ga) → Nb × ((List Ga) × (Bool × Unit))
 | none => (d, ([], false, ()))
 | some (d', l) => (d', (l, true, ()))
theorem KE {d : Nb} {x : Ra} {r : List Ra} (h : NF d) (hq : d.2.2.1 = x :: r) : Hf d = some (NX d (Lo d x r)) := by
 have h20 : La = 1048576 := rfl
 have hF := AJ h hq
 have hk := Dt hF.ev
 have hlen : r.length ≤ 64 := by have := h.len; rw [hq] at this; simp at this; omega
 have hz := VA h.eng
 have hzm := (TE h.eng.km).z
 have hle := Vr h.eng.hd
 obtain ⟨n, hn⟩ := jv hk.2.2.1
 have hn' : x.2.1 = (n : Int) := hn
 obtain ⟨e, t, q, now, clk, tp, ta, u⟩ := d
 obtain ⟨xt, xk, xd, xu⟩ := x
 cases u
 simp only at hq hn' hF hz hzm hle hk
 subst hq
 subst hn'
 have hc := QT ((xt, (n : Int), xd, xu) : Ra) r hlen
 have hb : jx (ja ([] : List Ra) + ja r) Cb = true := ji (by simp; rw [Xf]; omega)
 have i0 : Vi (ja (((xt, (n : Int), xd, xu) : Ra) :: r)) (0 : Int) = true := by rw [show (0 : Int) = ((0 : Nat) : Int) from rfl, Mu]; exact Da (by simp)
 have g0 : (((xt, (n : Int), xd, xu) : Ra) :: r)[(jy (0 : Int))]? = some (xt, (n : Int), xd, xu) := rfl
 unfold Hf
 simp only [i0, g0, hc.1, hc.2, hb, cond_true, jb]
 unfold Lo
 cases xd with
 | false =>
  obtain ⟨hi, hi1, hi2⟩ := hF.up rfl
  rw [RC h.eng hi hi1]
  simp only [j9, cond_true, jb]
  cases tp == j5 .i64 ((n : Int) + 1) <;> rfl
 | true =>
  have hd := hF.down rfl
  have hkey := hF.key
  have hp := fun b => Hx h.eng (k := n) hkey hd b
  simp only at hp hkey hd
  have hly := Dx (UT (Qf h.eng.km).l2 h.eng.st) _ (show e.2.2.2.1.length ≤ La by omega) h.eng.hd
  simp only at hly
  rw [hly]
  have hch := OC t (n : Int) xt r now (by omega)
  have hac := NC (m := e.1) (by omega) h.eng.km (Al e.2.2.1 e.2.2.2.1) hkey
  simp only [jb, jg, cond_false, jn, hac, Ep, hch, hp]
  cases Vf (Rh e.1.2.1 (Lg e.1 (Al e.2.2.1 e.2.2.2.1) n) n) with
  | false => rfl
  | true =>
   simp only [cond_true]
   have hv := NN t (n : Int) xt r now
   have hne : (tp != j5 .i64 ((n : Int) + 1)) = !(tp == j5 .i64 ((n : Int) + 1)) := rfl
   rw [hne]
   cases tp == j5 .i64 ((n : Int) + 1) with
   | false =>
    simp only [j9, cond_true, Bool.false_and, cond_false]
    rcases hv with hv | hv | hv <;> (rw [hv]; rfl)
   | true =>
    simp only [jg, cond_false, jk]
    cases decide (j5 .i64 (xt - ta) ≥ t.2.1) with
    | true =>
     simp only [jg, cond_true, cond_false]
     rcases hv with hv | hv | hv <;> (rw [hv]; rfl)
    | false => rfl
theorem UK {X R : Type} {step : X → Option (X ⊕ R)} {α S : Type} (xs : List α) (g : S → α → S) (I : S → Nat → X) (out : S → R) (Of : Nat → S → Prop)
 (h : ∀ k (hk : k < xs.length) s, Of k s → step (I s k) = some (.inl (I (g s xs[k]) (k + 1))) ∧ Of (k + 1) (g s xs[k]))
 (he : ∀ s, Of xs.length s → step (I s xs.length) = some (.inr (out s))) (s0 : S) (h0 : Of 0 s0) :
 Cc step (I s0 0) = some (out (xs.foldl g s0)) ∧ Of xs.length (xs.foldl g s0) := by
 have key : ∀ (ys : List α) (k : Nat) (s : S), xs.drop k = ys → k ≤ xs.length → Of k s → Cc step (I s k) = some (out (ys.foldl g s)) ∧ Of xs.length (ys.foldl g s) := by
  intro ys
  induction ys with
  | nil =>
   intro k s hd hle hi
   have := HC hd hle
   subst this
   rw [Lf (he s hi)]
   exact ⟨rfl, hi⟩
  | cons y ys ih =>
   intro k s hd hle hi
   obtain ⟨hk, hy, hd'⟩ := Mz hd
   obtain ⟨h1, h2⟩ := h k hk s hi
   rw [Lf h1, hy]
   rw [hy] at h2
   exact ih (k + 1) _ hd' hk h2
 exact key xs 0 s0 rfl (Nat.zero_le _) h0
def Jk (s : List Dg) (w : Int) (l : List Ga) : List Dg := jf s (l.map fun r => ((w, r, ()) : Dg))
theorem UG (w : Int) : ∀ (l : List Ga) (s : List Dg), l.foldl (fun s r => jf s [((w, r, ()) : Dg)]) s = Jk s w l
 | [], s => by simp [Jk]
 | x :: l, s => by
  rw [List.foldl_cons, UG w l]
  simp [Jk]
theorem RR (s : List Dg) (w : Int) (l : List Ga) : (Jk s w l).length = s.length + l.length := by simp [Jk]
theorem MJ (s : List Dg) (w : Int) (l : List Ga) (hl : l.length ≤ 1000) (hs : s.length ≤ 1000000) : It s w l = some (Jk s w l, ()) := by
 have h := (UK (step := fun x => Yp x.1.1 x.1.2.1 x.1.2.2.1 x.1.2.2.2.1 x.1.2.2.2.2.1) l (fun s r => jf s [((w, r, ()) : Dg)])
  (fun o k => ((o, w, (l, (k : Int)), ((ja l : Nat) : Int), (k : Int), ()), ())) (fun o => .inl ((o, ()), ())) (fun k o => o.length = s.length + k) (by
   intro k hk o ho
   refine ⟨?_, by simp [ho]; omega⟩
   simp only [Yp]
   rw [Da (by omega), Mu, Da hk, jn, je hk]
   simp only [cond_true, jb, Nat.beq_refl]
   rw [show jx (ja o + ja ([(w, l[k], ())] : List Dg)) Cb = true from ji (by simp only [jw, j7]; rw [Xf]; omega)]
   rw [Bg (by omega)]
   rfl) (by
   intro o ho
   simp only [Yp]
   rw [Ea (by omega)]; rfl) s rfl).1
 unfold It Iq
 erw [h]
 rw [UG]
 rfl
noncomputable def Kh : Nat → Nb → List Dg → Nb × List Dg
 | 0, d, s => (d, s)
 | n + 1, d, s => match d.2.2.1 with
  | [] => (d, s)
  | x :: r => match Lo d x r with
   | none => (d, s)
   | some (d', l) => Kh n d' (Jk s d'.2.2.2.2.1 l)
theorem PB (z : Nb) : ∀ (n : Nat) (d : Nb) (s : List Dg), NF d → d.2.2.1.length ≤ n → s.length + 17 * n ≤ 100000 →
 Xd (((), (), s, ()), (z, d, ())) = some (.inl (((), (), (Kh n d s).2, ()), (z, (Kh n d s).1, ())))
 | n, d, s, h, hl, hs => by
  unfold Xd
  cases hq : d.2.2.1 with
  | nil =>
   have e1 : Kh n d s = (d, s) := by
    cases n with
    | zero => rfl
    | succ n => simp only [Kh, hq]
   have hstep : Ue () () s z d = some (.inr (.inl (((), (), s, ()), (z, d, ())))) := by
    unfold Ue
    rw [hq, Ea (by simp)]; rfl
   erw [Lf hstep]
   rw [e1]; rfl
  | cons x r =>
   have hlen : d.2.2.1.length = r.length + 1 := by rw [hq]; rfl
   cases n with
   | zero => omega
   | succ n =>
    have e1 : Kh (n + 1) d s = match Lo d x r with
     | none => (d, s)
     | some (d', l) => Kh n d' (Jk s d'.2.2.2.2.1 l) := by simp only [Kh, hq]
    rw [e1]
    have hp := KE h hq
    cases hst : Lo d x r with
    | none =>
     have hstep : Ue () () s z d = some (.inr (.inl (((), (), s, ()), (z, d, ())))) := by
      unfold Ue
      rw [Da (by rw [hlen]; omega)]
      show (jz (Hf d) _) = _
      rw [hp, hst]; rfl
     erw [Lf hstep]; rfl
    | some p =>
     obtain ⟨d', l⟩ := p
     have hn := OX h hq hst
     have hstep : Ue () () s z d = some (.inl (((), (), Jk s d'.2.2.2.2.1 l, ()), (z, d', ()))) := by
      unfold Ue
      rw [Da (by rw [hlen]; omega)]
      show (jz (Hf d) _) = _
      rw [hp, hst]
      show jz (It s d'.2.2.2.2.1 l) _ = _
      rw [MJ _ _ _ (by have := hn.2.2.1; omega) (by omega)]
      rfl
     erw [Lf hstep]
     have ih := PB z n d' (Jk s d'.2.2.2.2.1 l) hn.1 (by rw [hn.2.1]; omega) (by rw [RR]; have := hn.2.2.1; omega)
     unfold Xd at ih
     exact ih
def HD : Nb := ((((0 : Int), ([] : List (List Ia)), ()), ([] : List (List Zb)), (0 : Int), ([] : List Ka), (0 : Int), false, ()), ((0 : Int), (0 : Int), (0 : Int), ()), ([] : List Ra), (0 : Int), (0 : Int), (0 : Int), (0 : Int), ())
def UN (l : List Ra) : Int := (l.headD (0, 0, false, ())).1
def Gm (l : List Ra) (t : Int) : Bool := ((l.length : Int) == 0) || !decide (UN l < t)
noncomputable def As (d : Nb) (l : List Ra) (til : Int) : Bool :=
 Jg d && (decide (d.2.2.2.1 ≤ til ∧ til ≤ 1000000) && (Gm l d.2.2.2.1 && (Wh l til && Ed (jf d.2.2.1 l) (Cr d.1.2.2.2.1) d.1.1.1)))
def Pk (d : Nb) (l : List Ra) (til : Int) : Nb := (d.1, d.2.1, jf d.2.2.1 l, til, d.2.2.2.2)
noncomputable def KO (d : Nb) (l : List Ra) (til : Int) : Nb × ((List Dg) × (Bool × Unit)) :=
 cond (As d l til) ((Kh (Pk d l til).2.2.1.length (Pk d l til) []).1, (Kh (Pk d l til).2.2.1.length (Pk d l til) []).2, true, ()) (HD, [], false, ())
theorem BJ {q : List Ra} {d k : Int} (h : Ed q d k = true) : q.length ≤ 64 := by
 simp only [Ed, jd, Sr] at h
 by_cases h1 : q.length ≤ 64
 ·exact h1
 ·rw [Ea h1] at h; simp at h
theorem RW {d : Nb} {l : List Ra} {til : Int} (hd : Jg d = true) (hf : Ed (jf d.2.2.1 l) (Cr d.1.2.2.2.1) d.1.1.1 = true) : NF (Pk d l til) := by
 have he : Ak d.1 := by
  rw [← Yw]
  simp only [Jg, jd] at hd
  exact hd.1
 obtain ⟨m, hm, hm2⟩ := EX he.hd
 refine ⟨he, BJ hf, ?_, m, 0, hm2, ?_⟩
 ·have h1 := hf
  simp only [Ed, jd, PE] at h1
  have h2 := h1.1
  intro x hx
  have h3 := (BC (p := fun x : Ra => !decide (x.2.1 ≥ d.1.1.1))).1 h2 x hx
  simp only [Bool.not_eq_true', decide_eq_false_iff_not] at h3
  show x.2.1 < d.1.1.1
  omega
 ·have := XT hf
  rw [hm] at this
  exact this
theorem CU {l : List Ra} (h : 0 < l.length) : ∃ x, Cd l (0 : Int) = some x ∧ x.1 = UN l := by
 cases l with
 | nil => simp at h
 | cons x l => exact ⟨x, rfl, rfl⟩
theorem Rz (d : Nb) (l : List Ra) (til : Int) (hz : Dc Me d ≤ La) (hl : l.length ≤ 1000000) : Gj d l til = some (KO d l til) := by
 have h20 : La = 1048576 := rfl
 have hz' := hz
 rw [Lz, Nv] at hz'
 have hz2 := hz'
 rw [Ct, Hs] at hz2
 have hlapp : (jf d.2.2.1 l).length = d.2.2.1.length + l.length := by simp
 have hlim : jx (ja d.2.2.1 + ja l) Cb = true := ji (by rw [Xf]; omega)
 unfold Gj KO
 rw [Zt _ hz, Bu _ _ (by omega), Az _ hz]
 cases hd : Jg d with
 | false => rw [show As d l til = false by unfold As; rw [hd]; rfl]; rfl
 | true =>
  have hh : ∀ x ∈ d.1.2.2.2.1, Gp x := by
   have : Ai d.1 = true := by simp only [Jg, jd] at hd; exact hd.1
   exact Jt (KB this)
  have h64 : d.2.2.1.length ≤ 64 := by
   simp only [Jg, jd] at hd
   exact BJ hd.2.2.2.2.1
  rw [Dv _ (by omega) hh]
  simp only [jb, jg, cond_false, hlim, cond_true]
  rw [Cu _ _ _ (by rw [hlapp]; omega)]
  simp only [jb]
  have key : ∀ (K : Option (Nb × ((List Dg) × (Bool × Unit)))), (Ed (jf d.2.2.1 l) (Cr d.1.2.2.2.1) d.1.1.1 = true → K = some ((Kh (Pk d l til).2.2.1.length (Pk d l til) []).1, (Kh (Pk d l til).2.2.1.length (Pk d l til) []).2, true, ())) →
   (cond (decide (til < d.2.2.2.1)) (some (HD, [], false, ())) (cond (decide (til > 1000000)) (some (HD, [], false, ())) (cond (!Gm l d.2.2.2.1) (some (HD, [], false, ())) (cond (!Wh l til) (some (HD, [], false, ())) (cond (!Ed (jf d.2.2.1 l) (Cr d.1.2.2.2.1) d.1.1.1) (some (HD, [], false, ())) K))))) =
   some (cond (As d l til) ((Kh (Pk d l til).2.2.1.length (Pk d l til) []).1, (Kh (Pk d l til).2.2.1.length (Pk d l til) []).2, true, ()) (HD, [], false, ())) := by
   intro K hK
   unfold As
   rw [hd]
   by_cases h1 : til < d.2.2.2.1
   ·rw [Da h1, Ea (show ¬ (d.2.2.2.1 ≤ til ∧ til ≤ 1000000) by omega)]; rfl
   ·by_cases h2 : til > 1000000
    ·rw [Ea h1, Da h2, Ea (show ¬ (d.2.2.2.1 ≤ til ∧ til ≤ 1000000) by omega)]; rfl
    ·rw [Ea h1, Ea h2, Da (show (d.2.2.2.1 ≤ til ∧ til ≤ 1000000) by omega)]
     cases Gm l d.2.2.2.1 with
     | false => rfl
     | true =>
      cases Wh l til with
      | false => rfl
      | true =>
       cases hq : Ed (jf d.2.2.1 l) (Cr d.1.2.2.2.1) d.1.1.1 with
       | false => rfl
       | true => exact hK hq
  have hrun : Ed (jf d.2.2.1 l) (Cr d.1.2.2.2.1) d.1.1.1 = true → ∀ z : Nb, Xd (((), (), ([] : List Dg), ()), (z, (d.1, d.2.1, jf d.2.2.1 l, til, d.2.2.2.2), ())) = some (.inl (((), (), (Kh (Pk d l til).2.2.1.length (Pk d l til) []).2, ()), (z, (Kh (Pk d l til).2.2.1.length (Pk d l til) []).1, ()))) := by
   intro hq z
   have h1 := RW (til := til) hd hq
   have := h1.len
   exact PB z _ (Pk d l til) [] h1 (jo _) (by simp; omega)
  by_cases h0 : l.length = 0
  ·have hna : Gm l d.2.2.2.1 = true := by unfold Gm; rw [h0]; rfl
   rw [Ea (show ¬ ((ja l : Nat) : Int) > 0 by omega)]
   simp only [cond_false]
   simp only [hna, jg, cond_false] at key
   exact key _ (fun hq => by rw [hrun hq]; rfl)
  ·obtain ⟨x, hx, hx1⟩ := CU (l := l) (by omega)
   have hna : Gm l d.2.2.2.1 = !decide (x.1 < d.2.2.2.1) := by
    unfold Gm
    rw [show ((l.length : Int) == 0) = false by simp; intro h; rw [h] at h0; simp at h0, hx1]; rfl
   rw [Da (show ((ja l : Nat) : Int) > 0 by omega), hx]
   simp only [cond_true, jb]
   simp only [hna, Bool.not_not] at key
   exact key _ (fun hq => by rw [hrun hq]; rfl)
def rowN (C m r : Nat) : Nat := (m >>> (r * C)) &&& (2 ^ C - 1)
def Y2 (C a b m : Nat) : Nat := cond (rowN C m a &&& rowN C m b != 0) (m ||| rowN C m b <<< (a * C)) m
def g3 (C a : Nat) : Nat → Nat → Nat := fun b m => Y2 C a b m
def g2 (C R : Nat) : Nat → Nat → Nat := fun a m => YN (g3 C a) R m
def g1 (C R : Nat) : Nat → Nat → Nat := fun _ m => YN (g2 C R) R m
structure Dim (C R : Nat) : Prop where
 c1 : 1 ≤ C
 c2 : C ≤ 6
 r1 : 1 ≤ R
 r2 : R ≤ 4

structure Ji (c : Hb) : Prop where
 lo : 0 ≤ c.2.1
 hi : c.2.1 ≤ (c.1.length : Int)
 len : c.1.length ≤ La
theorem DP (z : Int) : 0 ≤ Zn .i64 z 255 ∧ Zn .i64 z 255 ≤ 255 := by
 have h : (BitVec.ofInt 64 z &&& BitVec.ofInt 64 255).toNat ≤ 255 := by
  rw [BitVec.toNat_and]
  exact Nat.and_le_right
 show 0 ≤ j5 .i64 ((BitVec.ofInt 64 z &&& BitVec.ofInt 64 255).toNat : Int) ∧ j5 .i64 ((BitVec.ofInt 64 z &&& BitVec.ofInt 64 255).toNat : Int) ≤ 255
 rw [Vd (by omega) (by omega)]
 omega
theorem UA {c : Hb} (h : Ji c) : ∃ (c' : Hb) (x : Int), Ci c = some (c', (x, ())) ∧ Ji c' ∧ 0 ≤ x ∧ x ≤ 255 := by
 have h20 : La = 1048576 := rfl
 have h1 := h.lo
 have h2 := h.len
 unfold Ci
 by_cases hi : c.2.1 < ((ja c.1 : Nat) : Int)
 ·obtain ⟨k, hk⟩ := jv h1
  rw [Da hi, hk, Uc (show k < c.1.length by omega)]
  refine ⟨_, _, rfl, ⟨?_, ?_, h2⟩, DP _⟩
  ·show 0 ≤ j5 .i64 ((k : Int) + 1)
   rw [Bg (by omega)]; omega
  ·show j5 .i64 ((k : Int) + 1) ≤ _
   rw [Bg (by omega)]; show _ ≤ ((ja c.1 : Nat) : Int); omega
 ·rw [Ea hi]
  exact ⟨_, _, rfl, ⟨h1, h.hi, h2⟩, DP _⟩
theorem Li {c : Hb} (h : Ji c) (n : Int) (hn : 0 < n) : ∃ (c' : Hb) (x : Int), Xa c n = some (c', (x, ())) ∧ Ji c' ∧ 0 ≤ x ∧ x < n := by
 obtain ⟨c1, x1, e1, h1, b1⟩ := UA h
 unfold Xa
 rw [Ea (show ¬ n ≤ 0 by omega), e1, show (n == 0) = false by simp; omega]
 simp only [cond_false, jb]
 by_cases h256 : n ≤ 256
 ·rw [Da h256]
  exact ⟨_, _, rfl, h1, Int.tmod_nonneg _ (by omega), Int.tmod_lt_of_pos _ hn⟩
 ·obtain ⟨c2, x2, e2, h2, b2⟩ := UA h1
  obtain ⟨c3, x3, e3, h3, b3⟩ := UA h2
  obtain ⟨c4, x4, e4, h4, b4⟩ := UA h3
  rw [Ea h256, e2]
  simp only [cond_false, jb]
  rw [e3]
  simp only [jb]
  rw [e4]
  simp only [jb]
  rw [Vd (n := x1 * 16777216) (by omega) (by omega), Vd (n := x2 * 65536) (by omega) (by omega), Vd (n := x3 * 256) (by omega) (by omega), Vd (n := x1 * 16777216 + x2 * 65536) (by omega) (by omega), Vd (n := x1 * 16777216 + x2 * 65536 + x3 * 256) (by omega) (by omega), Vd (n := x1 * 16777216 + x2 * 65536 + x3 * 256 + x4) (by omega) (by omega)]
  exact ⟨_, _, rfl, h4, Int.tmod_nonneg _ (by omega), Int.tmod_lt_of_pos _ hn⟩
theorem XL {c : Hb} (h : Ji c) (n : Int) (hn : 0 < n) : ∃ (c' : Hb) (b : Bool), Um c n = some (c', (b, ())) ∧ Ji c' := by
 obtain ⟨c1, x1, e1, h1, b1⟩ := Li h n hn
 unfold Um
 rw [e1]
 exact ⟨_, _, rfl, h1⟩
theorem CM {c : Hb} (h : Ji c) (l : List Int) (hl : 0 < l.length) (h2 : l.length ≤ 1000) : ∃ (c' : Hb) (x : Int), Dl c l = some (c', (x, ())) ∧ Ji c' ∧ x ∈ l := by
 obtain ⟨c1, x1, e1, h1, b1⟩ := Li h ((ja l : Nat) : Int) (by omega)
 unfold Dl
 rw [e1]
 obtain ⟨k, rfl⟩ := jv b1.1
 have hk : k < l.length := by omega
 simp only [jb]
 rw [Mu, Da hk, jn, je hk]
 exact ⟨_, _, rfl, h1, qn hk⟩
theorem W1 (a : List Int) (hn : a.length ≤ La) : ∃ h : Int, Ku a = some (a, (0, (h, ()))) := by
 have h20 : La = 1048576 := rfl
 have := Lt (s := fun x : (List Int × (Int × (Int × Unit))) × Unit => Es x.1.1 x.1.2.1 x.1.2.2.1) (fun n x => ∃ (h : Int) (k : Nat), x = ((a, h, (k : Int), ()), ()) ∧ n + k = a.length) (fun r => ∃ h : Int, r = .inl ((a, h, ()), ())) (by
  rintro n x ⟨h, k, rfl, hk⟩
  simp only [Es]
  by_cases h1 : (k : Int) < ((ja a : Nat) : Int)
  ·rw [Da h1]
   by_cases h2 : (k : Int) < 4000
   ·rw [Da h2, Uc (show k < a.length by omega), Bg (by omega)]
    exact .inr ⟨_, n - 1, by omega, rfl, _, k + 1, rfl, by omega⟩
   ·rw [Ea h2]; exact .inl ⟨_, rfl, _, rfl⟩
  ·rw [Ea h1]; exact .inl ⟨_, rfl, _, rfl⟩) a.length ((a, j5 .i64 (10729 + ((ja a : Nat) : Int)), ((0 : Nat) : Int), ()), ()) ⟨_, 0, rfl, rfl⟩
 obtain ⟨r, h1, h, rfl⟩ := this
 refine ⟨h, ?_⟩
 unfold Ku Fp
 erw [h1]
 rfl
theorem TC (a : List Int) (n : Int) (hn : a.length ≤ La) : ∃ c : Hb, Vm a n = some c ∧ Ji c := by
 obtain ⟨h, e⟩ := W1 a hn
 unfold Vm
 rw [e]
 exact ⟨_, rfl, ⟨Int.le_refl _, by show (0 : Int) ≤ _; omega, hn⟩⟩
theorem Ew (a : List Int) (p n : Int) (hl : a.length ≤ La) (hn : 0 < n) : ∃ x : Int, Mg a p n = some (x, ()) ∧ 0 ≤ x ∧ x < n := by
 obtain ⟨c, e, hc⟩ := TC a p hl
 obtain ⟨c1, x, e1, h1, b1⟩ := Li hc n hn
 unfold Mg
 rw [e]
 simp only [jb]
 rw [e1]
 exact ⟨x, rfl, b1⟩
def Ys (n : Int) (a : Ia) : Prop := Zc a = true ∧ a.1 ≠ 1 ∧ (a.1 = 9 ∨ a.2.2.2.1 < n)
theorem Qk {n k c m x : Int} (h : Ub k c m x) (h1 : k ≠ 1) (h2 : k = 9 ∨ x < n) : Ys n (k, c, m, x, ()) := ⟨(Vb _).2 h, h1, h2⟩
def Bk (n : Int) (o : Option (Hb × (Ia × Unit))) : Prop := ∃ (c : Hb) (a : Ia), o = some (c, (a, ())) ∧ Ji c ∧ Ys n a
theorem Up {n : Int} {c : Hb} {a : Ia} (h : Ji c) (ha : Ys n a) : Bk n (some (c, (a, ()))) := ⟨c, a, rfl, h, ha⟩
theorem Sk {n : Int} {b : Bool} {x y : Option (Hb × (Ia × Unit))} (h1 : Bk n x) (h2 : Bk n y) : Bk n (cond b x y) := by cases b <;> assumption
theorem ZT {n : Int} {p : Prop} [Decidable p] {x y : Option (Hb × (Ia × Unit))} (h1 : p → Bk n x) (h2 : Bk n y) : Bk n (cond (decide p) x y) := by
 by_cases h : p
 ·rw [Da h]; exact h1 h
 ·rw [Ea h]; exact h2
theorem Ur {n m : Int} {c : Hb} (hc : Ji c) (hm : 0 < m) {f : (Hb × (Int × Unit)) → Option (Hb × (Ia × Unit))}
 (h : ∀ (c' : Hb) (x : Int), Ji c' → 0 ≤ x → x < m → Bk n (f (c', (x, ())))) : Bk n (jz (Xa c m) f) := by
 obtain ⟨c1, x1, e1, h1, b1⟩ := Li hc m hm
 rw [e1]
 exact h c1 x1 h1 b1.1 b1.2
theorem XW {n m : Int} {c : Hb} (hc : Ji c) (hm : 0 < m) {f : (Hb × (Bool × Unit)) → Option (Hb × (Ia × Unit))}
 (h : ∀ (c' : Hb) (x : Bool), Ji c' → Bk n (f (c', (x, ())))) : Bk n (jz (Um c m) f) := by
 obtain ⟨c1, x1, e1, h1⟩ := XL hc m hm
 rw [e1]
 exact h c1 x1 h1
theorem C3 {c : Hb} {n x : Int} {a0 a1 a2 : Ia} (hc : Ji c) (h0 : 0 ≤ x) (h3 : x < 3) (g0 : Ys n a0) (g1 : Ys n a1) (g2 : Ys n a2) :
 Bk n (cond (Vi (ja [a0, a1, a2]) x) (jz [a0, a1, a2][(jy x)]? fun y => some (c, (y, ()))) none) := by
 have : x = 0 ∨ x = 1 ∨ x = 2 := by omega
 rcases this with rfl | rfl | rfl
 ·exact Up hc g0
 ·exact Up hc g1
 ·exact Up hc g2
theorem YP {c : Hb} (h : Ji c) (n : Int) (hn : 1 ≤ n) (hn4 : n ≤ 4) : Bk n (Ws c n) := by
 unfold Ws
 rw [Vd (n := n - 1) (by omega) (by omega)]
 refine Ur h (by omega) fun c1 x1 h1 l1 u1 => ?_
 refine Ur h1 (by omega) fun c2 x2 h2 l2 u2 => ?_
 refine XW h2 (by omega) fun c3 x3 h3 => ?_
 simp only
 rw [Vd (n := 1 + x1) (by omega) (by omega), Vd (n := 1 + x2) (by omega) (by omega)]
 have tail : ∀ (md : Int), 1 ≤ md → md ≤ 15 → Bk n (jz (Xa c3 (max (1 : Int) (n - 1))) fun r4 =>
  (jz (Xa r4.1 (16 : Int)) fun r5 =>
  (cond (r5.2.1 == (0 : Int)) (some (r5.1, (((2 : Int), (1 + x1), md, (0 : Int), ()), ())))
  (cond (r5.2.1 == (1 : Int)) (some (r5.1, (((2 : Int), (0 : Int), md, (0 : Int), ()), ())))
  (cond (r5.2.1 == (2 : Int)) (some (r5.1, (((6 : Int), (1 + x1), md, (0 : Int), ()), ())))
  (cond (r5.2.1 == (3 : Int)) (some (r5.1, (((6 : Int), (1 + x1), md, (0 : Int), ()), ())))
  (cond (r5.2.1 == (4 : Int)) (some (r5.1, (((8 : Int), (0 : Int), md, (0 : Int), ()), ())))
  (cond (r5.2.1 == (5 : Int)) (jz (Xa r5.1 (4 : Int)) fun r6 => (some (r6.1, (((9 : Int), (0 : Int), (0 : Int), r6.2.1, ()), ()))))
  (cond (r5.2.1 == (6 : Int)) (some (r5.1, (((10 : Int), (0 : Int), (0 : Int), (0 : Int), ()), ())))
  (cond (r5.2.1 == (7 : Int)) (jz (Xa r5.1 (max (1 : Int) n)) fun r7 => (some (r7.1, (((5 : Int), (0 : Int), (0 : Int), r7.2.1, ()), ()))))
  (cond (r5.2.1 == (8 : Int)) (cond (decide (n > (1 : Int))) (jz (Xa r5.1 (3 : Int)) fun r8 => (cond (Vi (ja ([((3 : Int), (0 : Int), (0 : Int), (j4 .i64 ((1 : Int) + r4.2.1)), ()), ((4 : Int), (0 : Int), (0 : Int), (j4 .i64 ((1 : Int) + r4.2.1)), ()), ((7 : Int), (1 + x1), (0 : Int), (j4 .i64 ((1 : Int) + r4.2.1)), ())] : List Ia)) r8.2.1) (jz ([((3 : Int), (0 : Int), (0 : Int), (j4 .i64 ((1 : Int) + r4.2.1)), ()), ((4 : Int), (0 : Int), (0 : Int), (j4 .i64 ((1 : Int) + r4.2.1)), ()), ((7 : Int), (1 + x1), (0 : Int), (j4 .i64 ((1 : Int) + r4.2.1)), ())] : List Ia)[(jy r8.2.1)]? fun x9 => (some (r8.1, (x9, ())))) none)) (some (r5.1, (((2 : Int), (1 + x1), (0 : Int), (0 : Int), ()), ()))))
  (cond (r5.2.1 == (9 : Int)) (cond (decide (n > (1 : Int))) (jz (Xa r5.1 (3 : Int)) fun r8 => (cond (Vi (ja ([((3 : Int), (0 : Int), (0 : Int), (j4 .i64 ((1 : Int) + r4.2.1)), ()), ((4 : Int), (0 : Int), (0 : Int), (j4 .i64 ((1 : Int) + r4.2.1)), ()), ((7 : Int), (1 + x1), (0 : Int), (j4 .i64 ((1 : Int) + r4.2.1)), ())] : List Ia)) r8.2.1) (jz ([((3 : Int), (0 : Int), (0 : Int), (j4 .i64 ((1 : Int) + r4.2.1)), ()), ((4 : Int), (0 : Int), (0 : Int), (j4 .i64 ((1 : Int) + r4.2.1)), ()), ((7 : Int), (1 + x1), (0 : Int), (j4 .i64 ((1 : Int) + r4.2.1)), ())] : List Ia)[(jy r8.2.1)]? fun x9 => (some (r8.1, (x9, ())))) none)) (some (r5.1, (((2 : Int), (1 + x1), (0 : Int), (0 : Int), ()), ()))))
  (cond (r5.2.1 == (10 : Int)) (cond (decide (n > (1 : Int))) (jz (Xa r5.1 (3 : Int)) fun r8 => (cond (Vi (ja ([((3 : Int), (0 : Int), (0 : Int), (j4 .i64 ((1 : Int) + r4.2.1)), ()), ((4 : Int), (0 : Int), (0 : Int), (j4 .i64 ((1 : Int) + r4.2.1)), ()), ((7 : Int), (1 + x1), (0 : Int), (j4 .i64 ((1 : Int) + r4.2.1)), ())] : List Ia)) r8.2.1) (jz ([((3 : Int), (0 : Int), (0 : Int), (j4 .i64 ((1 : Int) + r4.2.1)), ()), ((4 : Int), (0 : Int), (0 : Int), (j4 .i64 ((1 : Int) + r4.2.1)), ()), ((7 : Int), (1 + x1), (0 : Int), (j4 .i64 ((1 : Int) + r4.2.1)), ())] : List Ia)[(jy r8.2.1)]? fun x9 => (some (r8.1, (x9, ())))) none)) (some (r5.1, (((2 : Int), (1 + x1), (0 : Int), (0 : Int), ()), ()))))
  (some (r5.1, (((2 : Int), (1 + x1), (0 : Int), (0 : Int), ()), ())))))))))))))))) := by
  intro md lm um
  refine Ur h3 (by omega) fun c4 x4 h4 l4 u4 => ?_
  refine Ur h4 (by omega) fun c5 x5 h5 l5 u5 => ?_
  simp only
  rw [Vd (n := 1 + x4) (by omega) (by omega)]
  have last : Bk n (some (c5, (((2 : Int), (1 + x1), (0 : Int), (0 : Int), ()), ()))) := Up h5 (Qk (by unfold Ub; omega) (by omega) (by omega))
  have mid : Bk n (cond (decide (n > (1 : Int))) (jz (Xa c5 (3 : Int)) fun r8 => (cond (Vi (ja ([((3 : Int), (0 : Int), (0 : Int), (1 + x4), ()), ((4 : Int), (0 : Int), (0 : Int), (1 + x4), ()), ((7 : Int), (1 + x1), (0 : Int), (1 + x4), ())] : List Ia)) r8.2.1) (jz ([((3 : Int), (0 : Int), (0 : Int), (1 + x4), ()), ((4 : Int), (0 : Int), (0 : Int), (1 + x4), ()), ((7 : Int), (1 + x1), (0 : Int), (1 + x4), ())] : List Ia)[(jy r8.2.1)]? fun x9 => (some (r8.1, (x9, ())))) none)) (some (c5, (((2 : Int), (1 + x1), (0 : Int), (0 : Int), ()), ())))) := by
   refine ZT (fun hn1 => ?_) last
   have hx : 1 + x4 < n := by omega
   refine Ur h5 (by omega) fun c6 x6 h6 l6 u6 => ?_
   exact C3 h6 l6 u6 (Qk (by unfold Ub; omega) (by omega) (by omega)) (Qk (by unfold Ub; omega) (by omega) (by omega)) (Qk (by unfold Ub; omega) (by omega) (by omega))
  refine Sk (Up h5 (Qk (by unfold Ub; omega) (by omega) (by omega))) ?_
  refine Sk (Up h5 (Qk (by unfold Ub; omega) (by omega) (by omega))) ?_
  refine Sk (Up h5 (Qk (by unfold Ub; omega) (by omega) (by omega))) ?_
  refine Sk (Up h5 (Qk (by unfold Ub; omega) (by omega) (by omega))) ?_
  refine Sk (Up h5 (Qk (by unfold Ub; omega) (by omega) (by omega))) ?_
  refine Sk (Ur h5 (by omega) fun c6 x6 h6 l6 u6 => by simp only; exact Up h6 (Qk (by unfold Ub; omega) (by omega) (by omega))) ?_
  refine Sk (Up h5 (Qk (by unfold Ub; omega) (by omega) (by omega))) ?_
  refine Sk (Ur h5 (by omega) fun c6 x6 h6 l6 u6 => by simp only; exact Up h6 (Qk (by unfold Ub; omega) (by omega) (by omega))) ?_
  exact Sk mid (Sk mid (Sk mid last))
 cases x3 with
 | true => exact tail 2 (by omega) (by omega)
 | false => exact tail (1 + x2) (by omega) (by omega)
theorem Qw {n i : Nat} {a : Ia} (h : Ys (n : Int) a) : Xe n i a = true := by
 obtain ⟨h1, h2, h3⟩ := h
 unfold Xe
 rw [h1]
 have e1 : (a.1 == 1) = false := by simp; exact h2
 rw [e1]
 rcases h3 with h | h
 ·simp [h]
 ·simp; exact .inr h
theorem GO {n i : Nat} (hi : 0 < i) (hn : 1 ≤ n) : Xe n i ((1 : Int), (0 : Int), (0 : Int), (0 : Int), ()) = true := by
 unfold Xe
 have : Zc ((1 : Int), (0 : Int), (0 : Int), (0 : Int), ()) = true := (Vb _).2 (by simp [Ub])
 rw [this]
 have hi' : ((i : Int) == 0) = false := by simp; omega
 rw [hi']
 simp; omega
theorem KG {α : Type} {p : Nat → α → Bool} {xs : List α} {x : α} (h : Zd p 0 xs = true) (hx : p xs.length x = true) : Zd p 0 (xs ++ [x]) = true := by
 rw [Yh] at h ⊢
 intro j hj
 rw [qe, List.length_singleton] at hj
 rw [List.getElem_append]
 split
 ·rename_i h1; exact h j h1
 ·have : j = xs.length := by omega
  subst this
  simpa using hx
theorem JU {c : Hb} (hc : Ji c) {keys n i : Nat} (hk : keys ≤ 32) (hn : 1 ≤ n) (hn4 : n ≤ 4) (b4 b6 : Na) :
 ∃ (c' : Hb) (row : List Ia), Oo (((), (keys : Int), (), (n : Int), (), (i : Int), ([] : List Ia), (0 : Int), ()), (c, b4, b6, ())) = some (.inl (((), (keys : Int), (), (n : Int), (), (i : Int), row, ()), (c', b4, b6, ()))) ∧
  Ji c' ∧ row.length = keys ∧ Zd (fun _ a => Xe n i a) 0 row = true := by
 have hlim : Cb = 1073741824 := rfl
 have := Lt (s := fun x : ((Unit × (Int × (Unit × (Int × (Unit × (Int × ((List Ia) × (Int × Unit)))))))) × (Hb × (Na × (Na × Unit)))) => Jr x.1.1 x.1.2.1 x.1.2.2.1 x.1.2.2.2.1 x.1.2.2.2.2.1 x.1.2.2.2.2.2.1 x.1.2.2.2.2.2.2.1 x.1.2.2.2.2.2.2.2.1 x.2.1 x.2.2.1 x.2.2.2.1)
  (fun m x => ∃ (c' : Hb) (row : List Ia) (k : Nat), x = (((), (keys : Int), (), (n : Int), (), (i : Int), row, (k : Int), ()), (c', b4, b6, ())) ∧ m + k = keys ∧ row.length = k ∧ Ji c' ∧ Zd (fun _ a => Xe n i a) 0 row = true)
  (fun r => ∃ (c' : Hb) (row : List Ia), r = .inl (((), (keys : Int), (), (n : Int), (), (i : Int), row, ()), (c', b4, b6, ())) ∧ Ji c' ∧ row.length = keys ∧ Zd (fun _ a => Xe n i a) 0 row = true) (by
  rintro m x ⟨c', row, k, rfl, hm, hl, hc', hr⟩
  simp only [Jr]
  by_cases h1 : (k : Int) < (keys : Int)
  ·rw [Da h1]
   obtain ⟨c1, a, e1, hc1, ha⟩ := YP hc' (n : Int) (by omega) (by omega)
   rw [e1]
   simp only [cond_true, jb]
   have room : ∀ z : Ia, jx (ja row + ja [z]) Cb = true := fun z => ji (by simp; omega)
   rw [Bg (by omega)]
   have Kf : ∀ (z : Ia) (c2 : Hb), Xe n i z = true → Ji c2 → ∃ c' row' k', (((), (keys : Int), (), (n : Int), (), (i : Int), jf row [z], ((k + 1 : Nat) : Int), ()), (c2, b4, b6, ())) = (((), (keys : Int), (), (n : Int), (), (i : Int), row', ((k' : Nat) : Int), ()), (c', b4, b6, ())) ∧ (m - 1) + k' = keys ∧ ja row' = k' ∧ Ji c' ∧ Zd (fun _ a => Xe n i a) 0 row' = true :=
    fun z c2 hz h2 => ⟨c2, _, k + 1, rfl, by omega, by simp [hl], h2, KG hr hz⟩
   by_cases h2 : (i : Int) > 0
   ·rw [Da h2]
    obtain ⟨c2, b, e2, hc2⟩ := XL hc1 3 (by omega)
    rw [e2]
    simp only [cond_true, jb, room]
    cases b with
    | true => exact .inr ⟨_, m - 1, by omega, rfl, Kf _ _ (GO (by omega) hn) hc2⟩
    | false => exact .inr ⟨_, m - 1, by omega, rfl, Kf _ _ (Qw ha) hc2⟩
   ·rw [Ea h2]
    simp only [cond_true, cond_false, room]
    exact .inr ⟨_, m - 1, by omega, rfl, Kf _ _ (Qw ha) hc1⟩
  ·rw [Ea h1]; exact .inl ⟨_, rfl, c', row, rfl, hc', by omega, hr⟩) keys (((), (keys : Int), (), (n : Int), (), (i : Int), ([] : List Ia), ((0 : Nat) : Int), ()), (c, b4, b6, ())) ⟨c, [], 0, rfl, rfl, rfl, hc, rfl⟩
 obtain ⟨r, e, c', row, rfl, h⟩ := this
 exact ⟨c', row, e, h⟩
theorem ZP {c : Hb} (hc : Ji c) {keys : Nat} (hk1 : 1 ≤ keys) (hk : keys ≤ 32) : ∃ (c' : Hb) (m : Na), Xs c (keys : Int) = some (c', (m, ())) ∧ Ji c' ∧ Bd m = true ∧ m.1 = (keys : Int) := by
 have hlim : Cb = 1073741824 := rfl
 obtain ⟨c1, x1, e1, hc1, b1⟩ := Li hc 4 (by omega)
 obtain ⟨n0, rfl⟩ := jv b1.1
 obtain ⟨n, hn⟩ : ∃ n : Nat, n = n0 + 1 := ⟨_, rfl⟩
 have hw : j5 .i64 ((1 : Int) + (n0 : Int)) = (n : Int) := by rw [Vd (by omega) (by omega)]; omega
 unfold Xs
 rw [e1]
 simp only [jb, hw]
 have := Lt (s := fun x : ((Unit × (Int × (Unit × (Int × (Unit × (Int × Unit)))))) × (Hb × (Na × (Na × Unit)))) => Ir x.1.1 x.1.2.1 x.1.2.2.1 x.1.2.2.2.1 x.1.2.2.2.2.1 x.1.2.2.2.2.2.1 x.2.1 x.2.2.1 x.2.2.2.1)
  (fun m x => ∃ (c' : Hb) (L : List (List Ia)) (k : Nat), x = (((), (keys : Int), (), (n : Int), (), (k : Int), ()), (c', ((0 : Int), ([] : List (List Ia)), ()), ((keys : Int), L, ()), ())) ∧ m + k = n ∧ L.length = k ∧ Ji c' ∧ Zd (fun i l => Mf (keys : Int) n i l) 0 L = true)
  (fun r => ∃ (c' : Hb) (L : List (List Ia)), r = .inl (((), (), (), ()), (c', ((0 : Int), ([] : List (List Ia)), ()), ((keys : Int), L, ()), ())) ∧ Ji c' ∧ L.length = n ∧ Zd (fun i l => Mf (keys : Int) n i l) 0 L = true) (by
  rintro m x ⟨c', L, k, rfl, hm, hl, hc', hr⟩
  simp only [Ir]
  by_cases h1 : (k : Int) < (n : Int)
  ·rw [Da h1]
   obtain ⟨c2, row, e2, hc2, hrow, hall⟩ := JU hc' (i := k) hk (show 1 ≤ n by omega) (show n ≤ 4 by omega) ((0 : Int), ([] : List (List Ia)), ()) ((keys : Int), L, ())
   erw [e2]
   simp only [cond_true, jb, qj]
   rw [show jx (ja L + ja [row]) Cb = true from ji (by simp; omega), Bg (by omega)]
   refine .inr ⟨_, m - 1, by omega, rfl, c2, _, k + 1, rfl, by omega, by simp [hl], hc2, ?_⟩
   refine KG hr ?_
   unfold Mf
   rw [hl, hall, hrow]
   simp
  ·rw [Ea h1]; exact .inl ⟨_, rfl, c', L, rfl, hc', by omega, hr⟩) n (((), (keys : Int), (), (n : Int), (), ((0 : Nat) : Int), ()), (c1, ((0 : Int), ([] : List (List Ia)), ()), ((keys : Int), ([] : List (List Ia)), ()), ())) ⟨c1, [], 0, rfl, rfl, rfl, hc1, rfl⟩
 obtain ⟨r, e, c', L, rfl, hc', hL, hall⟩ := this
 unfold No
 erw [e]
 refine ⟨c', ((keys : Int), L, ()), rfl, hc', ?_, rfl⟩
 unfold Bd
 simp only [jd, decide_eq_true_eq]
 refine ⟨⟨by omega, by omega⟩, ?_⟩
 show Zd (fun i l => Mf (keys : Int) L.length i l) 0 L = true
 rw [hL]; exact hall
theorem QI {α : Type} {p : Nat → α → Bool} {xs : List α} {i : Nat} {x : α} (h : Zd p 0 xs = true) (hx : p i x = true) : Zd p 0 (j6 xs i x) = true := by
 rw [Yh] at h ⊢
 intro j hj
 rw [j8] at hj
 rw [List.getElem_set]
 split
 ·rename_i e; subst e; simpa using hx
 ·exact h j hj
theorem WK {keys : Int} {n i : Nat} {l : List Ia} {k : Nat} {a : Ia} (h : Mf keys n i l = true) (ha : Xe n i a = true) : Mf keys n i (j6 l k a) = true := by
 unfold Mf at h ⊢
 rw [jd] at h ⊢
 exact ⟨by rw [j8]; exact h.1, QI h.2 ha⟩
theorem VK {keys : Int} {n i : Nat} {l : List Ia} (h : Mf keys n i l = true) : (l.length : Int) = keys := by
 unfold Mf at h
 rw [jd] at h
 simpa using h.1
theorem AO {c : Hb} (hc : Ji c) {keys : Nat} (hk1 : 1 ≤ keys) (hk : keys ≤ 32) : ∃ (c' : Hb) (m : Na), Hr c (keys : Int) = some (c', (m, ())) ∧ Ji c' ∧ Bd m = true ∧ m.1 = (keys : Int) := by
 obtain ⟨c1, m1, e1, hc1, hm1, hmk⟩ := ZP hc hk1 hk
 obtain ⟨c2, x2, e2, hc2, b2⟩ := Li hc1 6 (by omega)
 obtain ⟨x, rfl⟩ := jv b2.1
 unfold Hr
 rw [e1]
 simp only [jb, e2]
 have step := Lt (s := fun x : ((Unit × (Int × (Unit × (Unit × (Int × Unit))))) × (Hb × (Na × (Na × Unit)))) => Lq x.1.1 x.1.2.1 x.1.2.2.1 x.1.2.2.2.1 x.1.2.2.2.2.1 x.2.1 x.2.2.1 x.2.2.2.1)
  (fun z y => ∃ (c' : Hb) (m : Na), y = (((), (keys : Int), (), (), (z : Int), ()), (c', ((0 : Int), ([] : List (List Ia)), ()), m, ())) ∧ z ≤ 6 ∧ Ji c' ∧ Bd m = true ∧ m.1 = (keys : Int))
  (fun r => ∃ (c' : Hb) (m : Na), r = .inl (((), (), (), ()), (c', ((0 : Int), ([] : List (List Ia)), ()), m, ())) ∧ Ji c' ∧ Bd m = true ∧ m.1 = (keys : Int)) (by
  rintro z y ⟨c', m, rfl, hz, hc', hm, hmk⟩
  simp only [Lq]
  by_cases h1 : (z : Int) > 0
  ·rw [Da h1]
   have hm0 := hm
   unfold Bd at hm0
   simp only [jd, decide_eq_true_eq] at hm0
   obtain ⟨⟨hk', hL⟩, hall⟩ := hm0
   obtain ⟨c3, i, e3, hc3, bi⟩ := Li hc' ((ja m.2.1 : Nat) : Int) (by omega)
   obtain ⟨i, rfl⟩ := jv bi.1
   obtain ⟨c4, k, e4, hc4, bk⟩ := Li hc3 (keys : Int) (by omega)
   obtain ⟨k, rfl⟩ := jv bk.1
   rw [e3]
   simp only [cond_true, jb, e4]
   have hw : j5 .i64 ((z : Int) - 1) = ((z - 1 : Nat) : Int) := by rw [Vd (by omega) (by omega)]; omega
   rw [hw]
   have hi : i < m.2.1.length := by omega
   by_cases h2 : ((ja m.2.1 : Nat) : Int) > 1
   ·rw [Da h2, Mu, Da hi, jn, je hi]
    have hrow := Yh.1 hall i hi
    rw [js] at hrow
    have hlen := VK hrow
    have hkk : k < (m.2.1[i]).length := by omega
    obtain ⟨c5, kd, e5, hc5, hkd⟩ := CM hc4 [(4 : Int), (5 : Int), (3 : Int)] (by simp) (by simp)
    obtain ⟨c6, q, e6, hc6, bq⟩ := Li hc5 (((ja m.2.1 : Nat) : Int) - 1) (by omega)
    simp only [cond_true, jb, e5]
    rw [Vd (n := ((ja m.2.1 : Nat) : Int) - 1) (by omega) (by omega), e6]
    simp only [jb]
    rw [Mu, Da hkk, jn, je hkk, Vd (n := 1 + q) (by omega) (by omega)]
    simp only [cond_true, jb]
    refine .inr ⟨_, z - 1, by omega, rfl, c6, _, rfl, by omega, hc6, ?_, hmk⟩
    have hd : Ys ((ja m.2.1 : Nat) : Int) (kd, (0 : Int), (0 : Int), 1 + q, ()) := by
     have : kd = 4 ∨ kd = 5 ∨ kd = 3 := by simpa using hkd
     exact Qk (by unfold Ub; omega) (by omega) (by omega)
    show Bd (m.1, j6 m.2.1 i (j6 m.2.1[i] k (kd, (0 : Int), (0 : Int), 1 + q, ())), ()) = true
    unfold Bd
    simp only [jd, decide_eq_true_eq, j8]
    exact ⟨⟨hk', hL⟩, QI hall (WK hrow (Qw hd))⟩
   ·rw [Ea h2]
    simp only [cond_false]
    exact .inr ⟨_, z - 1, by omega, rfl, c4, m, rfl, by omega, hc4, hm, hmk⟩
  ·rw [Ea h1]
   have : z = 0 := by omega
   exact .inl ⟨_, rfl, c', m, rfl, hc', hm, hmk⟩) x (((), (keys : Int), (), (), (x : Int), ()), (c2, ((0 : Int), ([] : List (List Ia)), ()), m1, ())) ⟨c2, m1, rfl, by omega, hc2, hm1, hmk⟩
 obtain ⟨r, e, c', m, rfl, hc', hm, hmk'⟩ := step
 unfold Cn
 erw [e]
 exact ⟨c', m, rfl, hc', hm, hmk'⟩
theorem KH (a : List Int) (p : Int) {keys : Nat} (hn : a.length ≤ La) (hk1 : 1 ≤ keys) (hk : keys ≤ 32) : ∃ m : Na, Pj a p (keys : Int) = some (m, ()) ∧ Bd m = true ∧ m.1 = (keys : Int) := by
 obtain ⟨c, e, hc⟩ := TC a p hn
 obtain ⟨c', m, e1, _, hm, hmk⟩ := AO hc hk1 hk
 unfold Pj
 rw [e]
 simp only [jb, e1]
 exact ⟨m, rfl, hm, hmk⟩
def FS (p : List Int) : Bool := Zd (fun _ w => decide (0 ≤ w ∧ w ≤ 65535)) 0 p
def JW (p : List Int) (e : Int) : Bool := ((p.length : Int) == 19) && decide (0 ≤ e ∧ e ≤ 1000) && FS p
def OJ (f : Pd) : Bool := match f.1, f.2.1 with
 | [p, q], [d, e] => JW p d && JW q e
 | _, _ => false
def FW (h : Int) : Bool := decide (1 ≤ h ∧ h ≤ 60000)
def OW (h0 h1 : Int) : Int := cond (FW h1) (cond (FW h0) (cond (decide (h1 > h0)) 1 0) 1) (cond (FW h0) 0 (-1))
def Nk (f : Pd) : Int := cond (OJ f) (match f.1 with
 | [h0 :: _, h1 :: _] => OW h0 h1
 | _ => -1) (-1)
def Dy (s v : Int) : Bool := decide (0 ≤ s ∧ s ≤ 3 ∧ 0 ≤ v ∧ v ≤ 9999)
def KP (s v h : Int) : Int := cond (Dy s v && FW h) ((7 * s + 13 * v + 31 * h + 5).tmod 60000) 65535
def wd (w : List Int) (n : Nat) : Int := w.getD n 0
def V1 (s : Int) (w : List Int) (i : Nat) : Bool :=
 Dy (wd w (1 + 3 * i)) (wd w (2 + 3 * i)) && (wd w (1 + 3 * i) == s) && (wd w (3 + 3 * i) == KP (wd w (1 + 3 * i)) (wd w (2 + 3 * i)) (wd w 0))
def BK (s : Int) (w : List Int) : Nat → Option Int
 | 0 => none
 | n + 1 => cond (V1 s w n) (some (wd w (2 + 3 * n))) (BK s w n)
def My (f : Pd) (s : Int) : Option Int := cond (decide (Nk f < 0)) none (BK s ((f.1.getD (Nk f).toNat [])) 6)
def B2 (o : Option Int) : Int × Bool := match o with
 | some v => (v, true)
 | none => (0, false)
structure MW (f : Pd) : Prop where
 l1 : f.1.length = 2
 l2 : f.2.1.length = 2
 pg : ∀ i (h1 : i < f.1.length) (h2 : i < f.2.1.length), f.1[i].length = 19 ∧ 0 ≤ f.2.1[i] ∧ f.2.1[i] ≤ 1000 ∧ FS f.1[i] = true
def zF : Pd := ([], [], ())
def WC (o : Yg) : Nat := o.2.1.toNat
def doB (f : Pd) (o : Yg) : Bool :=
 OJ f && (decide (0 ≤ o.2.1 ∧ o.2.1 ≤ 1) && cond o.1 (decide (o.2.2.1 = 0 ∧ o.2.2.2.1 = 0 ∧ f.2.1.getD (WC o) 0 < 1000))
  (decide (0 ≤ o.2.2.1 ∧ o.2.2.1 ≤ 18 ∧ 0 ≤ o.2.2.2.1 ∧ o.2.2.2.1 ≤ 65534 ∧ (f.1.getD (WC o) []).getD o.2.2.1.toNat 0 = 65535)))
def doF (f : Pd) (o : Yg) : Pd :=
 cond o.1 (f.1.set (WC o) (List.replicate 19 65535), f.2.1.set (WC o) (f.2.1.getD (WC o) 0 + 1), ())
  (f.1.set (WC o) ((f.1.getD (WC o) []).set o.2.2.1.toNat o.2.2.2.1), f.2.1, ())

def YJ (f : Pd) (ops : List Yg) : Pd ⊕ Unit := Jc (fun _ s o => cond (doB s o) (.inl (doF s o)) (.inr ())) 0 f ops
def I7 (r : Pd ⊕ Unit) : Pd × Bool × Unit := r.elim (fun g => (g, true, ())) (fun _ => (zF, false, ()))
def E2 (page : Int) (at' : Nat) (s v h : Int) : List Yg :=
 [(false, page, ((1 + 3 * at' : Nat) : Int), s, ()), (false, page, ((2 + 3 * at' : Nat) : Int), v, ()), (false, page, ((3 + 3 * at' : Nat) : Int), KP s v h, ())]
def UW (w : List Int) (n : Nat) : Bool := (wd w (3 * n + 1) == 65535) && ((wd w (3 * n + 2) == 65535) && (wd w (3 * n + 3) == 65535))
def MC (w : List Int) : Nat → Nat
 | 0 => 0
 | n + 1 => cond (UW w n) (MC w n) (n + 1)
def Daa (f : Pd) (s v : Int) (k : Nat) : Option Int := cond ((k : Int) == s) (some v) (My f (k : Int))
def K7 (f : Pd) (s v page h : Int) (k : Nat) (st : List Yg × Nat) : List Yg × Nat := match Daa f s v k with
 | some x => (jf st.1 (E2 page st.2 (k : Int) x h), st.2 + 1)
 | none => st
def B0 (page : Int) : Yg := (true, page, 0, 0, ())
def FX (f : Pd) (s v page h : Int) : List Yg × Nat := YN (K7 f s v page h) 4 ([B0 page], 0)
def V2 (page h : Int) : Yg := (false, page, 0, h, ())
def BM (f : Pd) : List Int := f.1.getD (Nk f).toNat []
def HK (f : Pd) (s v : Int) : List Yg × Bool :=
 cond (decide (Nk f < 0)) ([], false) (cond (!Dy s v) ([], false)
  (cond (decide (MC (BM f) 6 < 6)) (E2 (Nk f) (MC (BM f) 6) s v (wd (BM f) 0), true)
   (cond (decide (wd (BM f) 0 ≥ 60000)) ([], false) (cond (decide (f.2.1.getD (1 - Nk f).toNat 0 ≥ 1000)) ([], false)
    (jf (FX f s v (1 - Nk f) (wd (BM f) 0 + 1)).1 [V2 (1 - Nk f) (wd (BM f) 0 + 1)], true)))))
def J7 (f : Pd) (P : Int) : List Int := f.1.getD P.toNat []
def Caa (t : Zb) : Bool := decide (1 ≤ t.1 ∧ t.1 ≤ 1000 ∧ 0 ≤ t.2.1 ∧ t.2.1 ≤ 1000 ∧ 0 ≤ t.2.2.1 ∧ t.2.2.1 ≤ 2)
abbrev QV : Type := List Yg × Pd
def Z2 (k : Nat) (st : QV) (x : Int) : QV ⊕ Unit :=
 cond ((B2 (My st.2 (k : Int))).2 && ((B2 (My st.2 (k : Int))).1 == x)) (.inl st)
  (cond (HK st.2 (k : Int) x).2 (.inl (jf st.1 (HK st.2 (k : Int) x).1, (I7 (YJ st.2 (HK st.2 (k : Int) x).1)).1)) (.inr ()))
def N2 (t : Zb) : List Int := [t.1, t.2.1, t.2.2.1]
def SO (f : Pd) (t : Zb) : List Yg × Bool := cond (!Caa t) ([], false) (cond (decide (Nk f < 0)) ([], false) ((Jc Z2 0 (([], f) : QV) (N2 t)).elim (fun st => (st.1, true)) (fun _ => ([], false))))
def G7 (f : Pd) (P : Int) : Int := f.2.1.getD P.toNat 0
def H7 (f : Pd) (P : Int) : Int := wd (J7 f P) 0
def H3 (P : Int) : Prop := P = 0 ∨ P = 1
structure ID (f : Pd) (c : Int) : Prop where
 ok : MW f
 pg : H3 (Nk f)
 hd : H7 f (Nk f) ≤ c + 1
 er : ∀ P, H3 P → G7 f P ≤ c
structure Uaa (f g : Pd) (s v c : Int) (whole : Bool) : Prop where
 good : ID g (c + 1)
 rd : ∀ σ : Int, 0 ≤ σ ∧ σ ≤ 3 → My g σ = cond (whole && (σ == s)) (some v) (My f σ)
def UM (f : Pd) (t : Zb) (j : Nat) (g : Pd) : Prop := ∀ σ : Nat, σ ≤ 3 → My g (σ : Int) = if σ < j then some ((N2 t).getD σ 0) else My f (σ : Int)
structure Saa (f : Pd) (t : Zb) (c : Int) (k : Nat) (st : QV) : Prop where
 run : YJ f st.1 = .inl st.2
 good : ID st.2 (c + k)
 prog : UM f t k st.2
 cut : ∀ n, ∃ (x : Pd) (j : Nat), YJ f (st.1.take n) = .inl x ∧ ID x (c + k) ∧ j ≤ k ∧ UM f t j x
structure Taa (f : Pd) (t : Zb) (c : Int) (g : Pd) : Prop where
 ok : (SO f t).2 = true
 run : YJ f (SO f t).1 = .inl g
 good : ID g (c + 3)
 prog : UM f t 3 g
 cut : ∀ n, ∃ (x : Pd) (j : Nat), YJ f ((SO f t).1.take n) = .inl x ∧ ID x (c + 3) ∧ j ≤ 3 ∧ UM f t j x

theorem HP {a : List Int} (h : a.length ≤ La) : Zr a = some (false, ()) := by
 have h20 : La = 1048576 := rfl
 unfold Zr
 rw [Ea (by omega)]
theorem LT {a : List Int} (h : ¬ a.length ≤ La) : Zr a = some (true, ()) := by
 have h20 : La = 1048576 := rfl
 unfold Zr
 rw [Da (by omega)]
theorem Vu {α : Type} (l : List α) (k : Nat) : Zd (fun _ (_ : α) => true) k l = true := Yh.2 fun _ _ => rfl
theorem VH (l : List Int) (hn : l.length ≤ La) : Aq l l = some (true, ()) := by
 have h20 : La = 1048576 := rfl
 have hl := Tg (step := fun x => Ik x.1.1 x.1.2.1 x.1.2.2.1) l (fun _ _ => true) (fun i => ((l, l, i, ()), ())) (.inl ((), ())) (.inr ((false, ()), ())) (by
  intro k hk
  simp only [Ik]
  rw [Da (show (k : Int) < ((ja l : Nat) : Int) by omega), Uc hk]
  simp) (by
  simp only [Ik]
  rw [Ea (by omega)]; rfl) (by omega)
 unfold Aq Bm
 erw [hl]
 rw [Vu]
 simp
theorem RK (x : Ka) : Ui Yo x x = true := by simp [Ui]
theorem NH (x : Ia) : Ui Xc x x = true := by simp [Ui]
theorem UH (l : List Ka) (hn : l.length ≤ La) : Zp l l = some (true, ()) := by
 have h20 : La = 1048576 := rfl
 have hl := Tg (step := fun x => Hk x.1.1 x.1.2.1 x.1.2.2.1) l (fun _ _ => true) (fun i => ((l, l, i, ()), ())) (.inl ((), ())) (.inr ((false, ()), ())) (by
  intro k hk
  simp only [Hk]
  rw [Da (show (k : Int) < ((ja l : Nat) : Int) by omega), Uc hk]
  simp only [cond_true, jb, RK]; rfl) (by
  simp only [Hk]
  rw [Ea (by omega)]; rfl) (by omega)
 unfold Zp Am
 erw [hl]
 rw [Vu]
 simp
theorem AD (l : List Ga) (hn : l.length ≤ La) (hr : ∀ x ∈ l, x.2.1.length ≤ La) : Em l l = some (true, ()) := by
 have h20 : La = 1048576 := rfl
 have hl := Tg (step := fun x => Vh x.1.1 x.1.2.1 x.1.2.2.1) l (fun _ _ => true) (fun i => ((l, l, i, ()), ())) (.inl ((), ())) (.inr ((false, ()), ())) (by
  intro k hk
  simp only [Vh]
  rw [Da (show (k : Int) < ((ja l : Nat) : Int) by omega), Uc hk]
  simp only [cond_true, jb, VH _ (hr _ (qn hk))]
  simp) (by
  simp only [Vh]
  rw [Ea (by omega)]; rfl) (by omega)
 unfold Em Yi
 erw [hl]
 rw [Vu]
 simp
theorem YK (m : Na) (i : Nat) (hi : i < m.2.1.length) (hl : m.2.1[i].length ≤ La) :
 Ti (((), (), (i : Int), (0 : Int), ()), (m, m, ())) = some (.inl (((), (), (i : Int), ()), (m, m, ()))) := by
 have h20 : La = 1048576 := rfl
 have hl := Tg (step := fun x : ((Unit × (Unit × Mb)) × (Na × (Na × Unit))) => Dm x.1.1 x.1.2.1 x.1.2.2.1 x.1.2.2.2.1 x.2.1 x.2.2.1) m.2.1[i] (fun _ _ => true) (fun j => (((), (), (i : Int), j, ()), (m, m, ()))) (.inl (((), (), (i : Int), ()), (m, m, ()))) (.inr ((false, ()), ())) (by
  intro k hk
  simp only [Dm]
  rw [Uc hi]
  simp only [jb]
  rw [Da (show (k : Int) < ((ja m.2.1[i] : Nat) : Int) by omega), Uc hk]
  simp only [cond_true, jb, NH]; rfl) (by
  simp only [Dm]
  rw [Uc hi]
  simp only [jb]
  rw [Ea (by omega)]; rfl) (by omega)
 unfold Ti
 erw [hl]
 rw [Vu]; rfl
theorem FK (m : Na) (hn : m.2.1.length ≤ La) (hr : ∀ x ∈ m.2.1, x.length ≤ La) : Ar m m = some (true, ()) := by
 have h20 : La = 1048576 := rfl
 have hl := Tg (step := fun x : ((Unit × (Unit × (Int × Unit))) × (Na × (Na × Unit))) => Cm x.1.1 x.1.2.1 x.1.2.2.1 x.2.1 x.2.2.1) m.2.1 (fun _ _ => true) (fun j => (((), (), j, ()), (m, m, ()))) (.inl ((), ())) (.inr ((false, ()), ())) (by
  intro k hk
  simp only [Cm]
  rw [Da (show (k : Int) < ((ja m.2.1 : Nat) : Int) by omega), Uc hk, YK m k hk (hr _ (qn hk))]
  simp) (by
  simp only [Cm]
  rw [Ea (by omega)]; rfl) (by omega)
 unfold Ar Bn
 erw [hl]
 rw [Vu]
 simp
theorem CF (e : Wa) (h1 : e.1.2.1.length ≤ La) (h2 : ∀ x ∈ e.1.2.1, x.length ≤ La) (h3 : e.2.2.2.1.length ≤ La) : Nj e e = some (true, ()) := by
 unfold Nj
 rw [FK _ h1 h2, UH _ h3]
 simp
theorem I2 (n : Nat) : Zo n 0 0 := ⟨by omega, by have := Nat.two_pow_pos n; omega, by decide, by omega, by omega⟩
theorem IL {m : Na} (hm : Bd m = true) : Ak (Sc m 0 0 false []) :=
 (Yw _).1 (Fu hm (I2 _) false XA (by simp))
theorem MH {m : Na} (hm : Bd m = true) : So m [] = some (Sc m 0 0 false [], true, ()) := by
 have h20 : La = 1048576 := rfl
 have hz := (TE hm).z
 have he := IL hm
 have hz2 := VA he
 unfold So
 rw [Gt _ (by omega), Ht [] (by show (0 : Nat) ≤ _; omega)]
 simp only [jb]
 have : Rg (m, ([] : List (List Zb)), (0 : Int), ([] : List Ka), (0 : Int), false, ()) = some (true, ()) := by
  rw [← (Yw _).2 he]
  exact Rl (Sc m 0 0 false []) (by omega)
 rw [this]
 rfl
theorem LH (a : List Int) (hn : a.length ≤ La) : ∃ t : Zb, Sn a = some (t, ()) ∧ Ie t = true ∧ t.1 ≤ 9 := by
 obtain ⟨c, e, hc⟩ := TC a 9 hn
 obtain ⟨c1, x1, e1, h1, b1⟩ := Li hc 9 (by omega)
 obtain ⟨c2, x2, e2, h2, b2⟩ := CM h1 [(0 : Int), (0 : Int), (3 : Int), (6 : Int)] (by simp) (by simp)
 obtain ⟨c3, x3, e3, h3, b3⟩ := Li h2 3 (by omega)
 unfold Sn
 rw [e]
 simp only [jb]
 unfold Ds
 rw [e1]
 simp only [jb]
 rw [e2]
 simp only [jb]
 rw [e3]
 simp only [jb]
 rw [Vd (by omega) (by omega)]
 have hx2 : x2 = 0 ∨ x2 = 3 ∨ x2 = 6 := by simpa using b2
 refine ⟨_, rfl, ?_, by show 1 + x1 ≤ 9; omega⟩
 simp only [Ie, jd, decide_eq_true_eq]
 exact ⟨by omega, by omega, by omega⟩
def Rr (e : Wa) (t : Zb) : Nb := (e, t, ([] : List Ra), (0 : Int), (0 : Int), (0 : Int), (0 : Int), ())
theorem CJ (d k : Int) : Ed [] d k = true := rfl
theorem QG {e : Wa} (he : Ak e) {t : Zb} (ht : Ie t = true) {q : List Ra} {now clock tp ta : Int} (hn : 0 ≤ now ∧ now ≤ 1000000) (hc : 0 ≤ clock ∧ clock ≤ now)
 (hq : Ed q (Cr e.2.2.2.1) e.1.1 = true) (hb : Wh q now = true) (htp : 0 ≤ tp ∧ tp ≤ e.1.1) (hta : 0 ≤ ta ∧ ta ≤ now) : Jg (e, t, q, now, clock, tp, ta, ()) = true := by
 unfold Jg
 simp only [jd, decide_eq_true_eq]
 exact ⟨(Yw e).2 he, ht, hn, hc, hq, hb, htp, hta⟩
theorem LF {e : Wa} (he : Ak e) {t : Zb} (ht : Ie t = true) : Kn e t = some (Rr e t, true, ()) := by
 have h20 : La = 1048576 := rfl
 have hz := VA he
 have hk := (Qf he.km).k1
 unfold Kn
 rw [Cf _ (by omega)]
 simp only [jb]
 have : Ei (e, t, ([] : List Ra), (0 : Int), (0 : Int), (0 : Int), (0 : Int), ()) = some (true, ()) := by
  rw [← QG he ht (q := []) (now := 0) (clock := 0) (tp := 0) (ta := 0) (by omega) (by omega) (CJ _ _) rfl (by omega) (by omega)]
  exact Zt _ (by rw [Lz, Nv]; show Dc Tb e + 0 ≤ _; omega)
 rw [this]
 rfl

abbrev Kk := Int × Int × Int
def Se : List Kk → List Ra
 | [] => []
 | p :: P => (p.2.1, p.1, true, ()) :: (p.2.2, p.1, false, ()) :: Se P
def Qd (s : Int) : List Kk → Int
 | [] => s
 | p :: P => Qd p.2.2 P
def Rq (T : Int) (s : Int) : List Kk → Prop
 | [] => True
 | p :: P => (0 ≤ p.1 ∧ p.1 < 4) ∧ s ≤ p.2.1 ∧ p.2.1 ≤ p.2.2 ∧ p.2.2 < p.2.1 + T ∧ Rq T p.2.2 P
theorem Ax : ∀ P : List Kk, (Se P).length = 2 * P.length
 | [] => rfl
 | p :: P => by simp only [Se, jw, Ax P]; omega
theorem XI (p : Kk) : ∀ P : List Kk, Se (P ++ [p]) = Se P ++ [(p.2.1, p.1, true, ()), (p.2.2, p.1, false, ())]
 | [] => rfl
 | q :: P => by simp only [List.cons_append, Se, XI p P]
theorem Tz (p : Kk) : ∀ (P : List Kk) (s : Int), Qd s (P ++ [p]) = p.2.2
 | [], _ => rfl
 | q :: P, s => by simp only [List.cons_append, Qd, Tz p P]
theorem VG {T : Int} {p : Kk} : ∀ {P : List Kk} {s : Int}, Rq T s P → (0 ≤ p.1 ∧ p.1 < 4) → Qd s P ≤ p.2.1 → p.2.1 ≤ p.2.2 → p.2.2 < p.2.1 + T → Rq T s (P ++ [p])
 | [], s, _, h1, h2, h3, h4 => ⟨h1, h2, h3, h4, trivial⟩
 | q :: P, s, h, h1, h2, h3, h4 => ⟨h.1, h.2.1, h.2.2.1, h.2.2.2.1, VG h.2.2.2.2 h1 h2 h3 h4⟩
theorem Ou {T : Int} : ∀ {P : List Kk} {s : Int}, Rq T s P → s ≤ Qd s P
 | [], s, _ => Int.le_refl _
 | p :: P, s, h => by
  have := Ou h.2.2.2.2
  have h1 := h.2.1
  have h2 := h.2.2.1
  simp only [Qd]
  omega
theorem LL {T : Int} : ∀ {P : List Kk} {s : Int}, Rq T s P → ∀ x ∈ Se P, s ≤ x.1 ∧ x.1 ≤ Qd s P ∧ 0 ≤ x.2.1 ∧ x.2.1 < 4
 | [], s, _, x, hx => by simp [Se] at hx
 | p :: P, s, h, x, hx => by
  have hl := Ou h.2.2.2.2
  obtain ⟨h1, h2, h3, h4, h5⟩ := h
  simp only [Se, jp] at hx
  simp only [Qd]
  rcases hx with rfl | rfl | hx
  ·exact ⟨h2, by simp only; omega, h1⟩
  ·exact ⟨by simp only; omega, by simp only; omega, h1⟩
  ·have := LL h5 x hx
   exact ⟨by omega, this.2.1, this.2.2⟩
theorem WI : ∀ (P : List Kk) (s : Int), P ≠ [] → QE (Se P) = Qd s P
 | [], _, h => absurd rfl h
 | [p], s, _ => rfl
 | p :: q :: P, s, _ => by
  have := WI (q :: P) p.2.2 (by simp)
  simp only [Qd] at this ⊢
  rw [← this]
  unfold QE
  have e : (Se (p :: q :: P)).length - 1 = ((Se (q :: P)).length - 1) + 1 + 1 := by
   simp only [Se, jw]; omega
  rw [e]
  simp only [Se, List.getD_cons_succ, jw]
theorem YT {k : Nat} (hk : k < 4) : Nl 0 (k : Int) = 0 ∧ Nl (Zl .i64 0 (Ve .i64 1 (k : Int))) (k : Int) = 1 ∧ Zl .i64 (Zl .i64 0 (Ve .i64 1 (k : Int))) (Ve .i64 1 (k : Int)) = 0 := by
 have : k = 0 ∨ k = 1 ∨ k = 2 ∨ k = 3 := by omega
 rcases this with rfl | rfl | rfl | rfl <;> decide
theorem KL {T : Int} : ∀ {P : List Kk} {s : Int} (i : Nat), 0 ≤ s → Rq T s P → Qd s P ≤ 1000000 → Gv (Jc (fun _ s x => Xm s x) i (s, (0 : Int)) (Se P)) = true
 | [], s, _, _, _, _ => rfl
 | p :: P, s, i, hs, h, hl => by
  have hlg := Ou h.2.2.2.2
  obtain ⟨h1, h2, h3, h4, h5⟩ := h
  obtain ⟨k, hk⟩ := jv h1.1
  obtain ⟨b1, b2, b3⟩ := YT (k := k) (by omega)
  simp only [Qd] at hl
  have e1 : Xm (s, (0 : Int)) (p.2.1, p.1, true, ()) = .inl (p.2.1, Zl .i64 0 (Ve .i64 1 (k : Int))) := by
   unfold Xm Ft Zg
   simp only [hk]
   rw [Da (show 0 ≤ p.2.1 ∧ p.2.1 ≤ 1000000 by omega), Da (show (0 : Int) ≤ (k : Int) ∧ (k : Int) ≤ 31 by omega), Ea (show ¬ s > p.2.1 by omega), b1]
   rfl
  have e2 : Xm (p.2.1, Zl .i64 0 (Ve .i64 1 (k : Int))) (p.2.2, p.1, false, ()) = .inl (p.2.2, 0) := by
   unfold Xm Ft Zg
   simp only [hk]
   rw [Da (show 0 ≤ p.2.2 ∧ p.2.2 ≤ 1000000 by omega), Da (show (0 : Int) ≤ (k : Int) ∧ (k : Int) ≤ 31 by omega), Ea (show ¬ p.2.1 > p.2.2 by omega), b2, b3]
   rfl
  simp only [Se, Jc, e1, e2]
  exact KL _ (by omega) h5 hl
theorem ST {T : Int} {P : List Kk} {s : Int} (hs : 0 ≤ s) (h : Rq T s P) (hl : Qd s P ≤ 1000000) (hn : P.length ≤ 32) (h0 : s = 0) : Ed (Se P) 0 4 = true := by
 subst h0
 have h1 := KL 0 hs h hl
 simp only [Ed, jd]
 constructor
 ·unfold PE
  rw [BC (p := fun x : Ra => !decide (x.2.1 ≥ 4))]
  intro x hx
  have := LL h x hx
  rw [Ea (by omega)]; rfl
 ·unfold Sr SN
  rw [Da (by rw [Ax]; omega)]
  revert h1
  cases Jc (fun _ s x => Xm s x) 0 ((0 : Int), (0 : Int)) (Se P) with
  | inl z => intro _; rfl
  | inr z => intro h; simp [Gv] at h
theorem A3 {m : Na} (hM : Tp m) {f o : Int} {c : Bool} (hs : Zo m.2.1.length f o) {k : Nat} (hk : (k : Int) < m.1) :
 pE (Sc m f o c []) k false = Sc m (Ag m f o c k).1 (Ag m f o c k).2.1 (Ag m f o c k).2.2.1 (hK m f o c k) ∧ pR (Sc m f o c []) k false = En m f o c k := by
 have h1 := Yy (c := c) hM hs hk
 have he : Ak (Sc m f o c []) := (Yw _).1 (Fu hM.v hs c XA (by simp))
 have h2 := Hx he (k := k) hk (by intro y hy; exact absurd hy (by show y ∉ ([] : List Ka); simp)) false
 rw [h1] at h2
 simp only [jc, jh] at h2
 exact ⟨h2.1.symm, h2.2.1.symm⟩
theorem B3 {m : Na} {f o f' o' : Int} {c c' : Bool} {k : Nat} :
 FE (Sc m f' o' c' (hK m f o c k)) (k : Int) = 0 ∧ rE (Sc m f' o' c' (hK m f o c k)) 0 = Sc m f' o' c' [] ∧ rR (Sc m f' o' c' (hK m f o c k)) 0 = LA m f o c k := by
 refine ⟨?_, rfl, rfl⟩
 show (Pc (fun h : Ka => h.1 == (k : Int)) 0 [((k : Int), (Ag m f o c k).2.2.2, ())]).toNat = 0
 simp [Pc]
theorem MN {t : Zb} (ht : Ie t = true) {k : Nat} (hk : k ≤ 31) {a u til : Int} (ha : 0 ≤ a) (hau : a ≤ u) (hu : u < a + t.1) (h6 : u ≤ 1000000) (P : List Ra) :
 Aj t (k : Int) a ((u, (k : Int), false, ()) :: P) til = (1, u, ()) := by
 have h := ht
 simp only [Ie, jd, decide_eq_true_eq] at h
 unfold Aj
 rw [ht, Da (show 0 ≤ a ∧ a ≤ 1000000 by omega), Vd (n := a + t.1) (by omega) (by omega)]
 have : WD t.2.2.1 (k : Int) (a + t.1) 0 (u, (k : Int), false, ()) = .inr (1, u) := by
  unfold WD Zg
  simp only
  rw [Da (show 0 ≤ u ∧ u ≤ 1000000 by omega), Da (show (0 : Int) ≤ (k : Int) ∧ (k : Int) ≤ 31 by omega), Ea (show ¬ u ≥ a + t.1 by omega), show ((k : Int) == (k : Int)) = true by simp]
  rfl
 unfold EW
 simp only [Jc, this]
 rfl
theorem NV {m : Na} (hM : Tp m) {t : Zb} (ht : Ie t = true) {f o : Int} {c : Bool} (hs : Zo m.2.1.length f o) {k : Nat} (hk : (k : Int) < m.1) (q P : List Ra) (a u til clock tp ta : Int)
 (ha : 0 ≤ a) (hau : a ≤ u) (hu : u < a + t.1) (h6 : u ≤ 1000000) :
 ∃ cl tp1 ta1 : Int, Lo (Sc m f o c [], t, q, til, clock, tp, ta, ()) (a, (k : Int), true, ()) ((u, (k : Int), false, ()) :: P) =
  some ((Sc m (Ag m f o c k).1 (Ag m f o c k).2.1 (Ag m f o c k).2.2.1 (hK m f o c k), t, (u, (k : Int), false, ()) :: P, til, cl, tp1, ta1, ()), En m f o c k) := by
 obtain ⟨e1, e2⟩ := A3 (c := c) hM hs hk
 have hk31 : k ≤ 31 := by have := (Qf hM.v).k2; omega
 unfold Lo
 simp only [jg, cond_false, jn, MN ht hk31 ha hau hu h6]
 cases Vf (Rh (Sc m f o c []).1.2.1 (Lg (Sc m f o c []).1 (Al (Sc m f o c []).2.2.1 (Sc m f o c []).2.2.2.1) k) k) with
 | false =>
  simp only [cond_false]
  rw [e1, e2]
  exact ⟨_, _, _, rfl⟩
 | true =>
  simp only [cond_true]
  cases ((tp == j5 .i64 ((k : Int) + 1)) && !decide (j5 .i64 (a - ta) ≥ t.2.1)) with
  | true =>
   simp only [cond_true, show ((1 : Int) == 0) = false from rfl, show ((1 : Int) == 2) = false from rfl, cond_false]
   rw [e1, e2]
   exact ⟨_, _, _, rfl⟩
  | false =>
   simp only [cond_false, show ((1 : Int) == 0) = false from rfl, show ((1 : Int) == 2) = false from rfl]
   rw [e1, e2]
   exact ⟨_, _, _, rfl⟩
theorem M2 {m : Na} {t : Zb} {f o f' o' : Int} {c c' : Bool} {k : Nat} (q P : List Ra) (u til clock tp ta : Int) :
 ∃ cl tp1 ta1 : Int, Lo (Sc m f' o' c' (hK m f o c k), t, q, til, clock, tp, ta, ()) (u, (k : Int), false, ()) P = some ((Sc m f' o' c' [], t, P, til, cl, tp1, ta1, ()), LA m f o c k) := by
 obtain ⟨e1, e2, e3⟩ := B3 (m := m) (f := f) (o := o) (f' := f') (o' := o') (c := c) (c' := c') (k := k)
 unfold Lo
 simp only [j9, cond_true]
 rw [e1, e2, e3]
 exact ⟨_, _, _, rfl⟩
theorem GK (S : List Dg) (w : Int) (R : List Ga) : (Jk S w R).map (fun x => x.2.1) = jf (S.map (fun x => x.2.1)) R := by simp [Jk, Function.comp_def]
theorem LK {m : Na} (hM : Tp m) (hm4 : m.1 = 4) {t : Zb} (ht : Ie t = true) (til : Int) : ∀ (P : List Kk) (s : Int) (i : Nat) (st : Int × Int × Bool) (S : List Dg) (clock tp ta : Int),
 0 ≤ s → Rq t.1 s P → Qd s P ≤ 1000000 → Zo m.2.1.length st.1 st.2.1 →
 ∃ (st' : Int × Int × Bool) (S' : List Dg) (cl tp1 ta1 : Int), Kh (2 * P.length) (Sc m st.1 st.2.1 st.2.2 [], t, Se P, til, clock, tp, ta, ()) S = ((Sc m st'.1 st'.2.1 st'.2.2 [], t, [], til, cl, tp1, ta1, ()), S') ∧
  Jc (fun _ s x => gT m s x) i (st, S.map (fun x => x.2.1)) (P.map (fun p => p.1)) = .inl (st', S'.map (fun x => x.2.1))
 | [], s, i, st, S, clock, tp, ta, _, _, _, _ => ⟨st, S, clock, tp, ta, rfl, rfl⟩
 | p :: P, s, i, st, S, clock, tp, ta, hs, hg, hl, hst => by
  have hlg := Ou hg.2.2.2.2
  obtain ⟨h1, h2, h3, h4, h5⟩ := hg
  obtain ⟨k, hk⟩ := jv h1.1
  simp only [Qd] at hl
  have hkm : (k : Int) < m.1 := by omega
  have hst' := (AB (o := st.2.1) (c := st.2.2) hM hst hkm).2.1
  obtain ⟨cl, tp1, ta1, e1⟩ := NV (c := st.2.2) hM ht hst hkm (Se (p :: P)) (Se P) p.2.1 p.2.2 til clock tp ta (by omega) h3 h4 (by omega)
  obtain ⟨cl2, tp2, ta2, e2⟩ := M2 (m := m) (t := t) (f := st.1) (o := st.2.1) (f' := (Ag m st.1 st.2.1 st.2.2 k).1) (o' := (Ag m st.1 st.2.1 st.2.2 k).2.1) (c := st.2.2) (c' := (Ag m st.1 st.2.1 st.2.2 k).2.2.1) (k := k) ((p.2.2, (k : Int), false, ()) :: Se P) (Se P) p.2.2 til cl tp1 ta1
  obtain ⟨st2, S2, cl3, tp3, ta3, e3, e4⟩ := LK hM hm4 ht til P p.2.2 (i + 1) ((Ag m st.1 st.2.1 st.2.2 k).1, (Ag m st.1 st.2.1 st.2.2 k).2.1, (Ag m st.1 st.2.1 st.2.2 k).2.2.1) (Jk (Jk S cl (En m st.1 st.2.1 st.2.2 k)) cl2 (LA m st.1 st.2.1 st.2.2 k)) cl2 tp2 ta2 (by omega) h5 hl hst'
  refine ⟨st2, S2, cl3, tp3, ta3, ?_, ?_⟩
  ·rw [show 2 * (p :: P).length = 2 * P.length + 1 + 1 by rw [jw]; omega]
   rw [Kh]
   simp only [Se] at e1 ⊢
   rw [hk] at e1 ⊢
   simp only [e1]
   rw [Kh]
   simp only [e2]
   exact e3
  ·rw [List.map_cons, Jc]
   have hg : gT m (st, S.map (fun x => x.2.1)) p.1 = .inl (((Ag m st.1 st.2.1 st.2.2 k).1, (Ag m st.1 st.2.1 st.2.2 k).2.1, (Ag m st.1 st.2.1 st.2.2 k).2.2.1), (Jk (Jk S cl (En m st.1 st.2.1 st.2.2 k)) cl2 (LA m st.1 st.2.1 st.2.2 k)).map (fun x => x.2.1)) := by
    unfold gT
    rw [hk, Da ⟨by omega, hkm⟩, GK, GK, jn]
    rfl
   rw [hg]
   exact e4
theorem BS (a : List Int) (hn : a.length ≤ La) {t : Zb} (ht : Ie t = true) (ht9 : t.1 ≤ 9) (b5 b8 : Bool) (e : Wa) (d : Nb) (n0 : Nat) (h7 : n0 ≤ 7) :
 ∃ P : List Kk, Si ((a, (), b5, (), (), b8, ([] : List Ra), ([] : List Int), (0 : Int), (n0 : Int), ()), (e, t, d, ())) =
  some (.inl (((), b5, (), b8, Se P, P.map (fun p => p.1), Qd 0 P, ()), (e, d, ()))) ∧ Rq t.1 0 P ∧ P.length ≤ 7 ∧ Qd 0 P ≤ 100 := by
 have h := ht
 simp only [Ie, jd, decide_eq_true_eq] at h
 have step := Lt (s := fun x : (((List Int) × (Unit × (Bool × (Unit × (Unit × (Bool × ((List Ra) × ((List Int) × Mb)))))))) × (Wa × (Zb × (Nb × Unit)))) => Jq x.1.1 x.1.2.1 x.1.2.2.1 x.1.2.2.2.1 x.1.2.2.2.2.1 x.1.2.2.2.2.2.1 x.1.2.2.2.2.2.2.1 x.1.2.2.2.2.2.2.2.1 x.1.2.2.2.2.2.2.2.2.1 x.1.2.2.2.2.2.2.2.2.2.1 x.2.1 x.2.2.1 x.2.2.2.1)
  (fun n x => ∃ P : List Kk, x = ((a, (), b5, (), (), b8, Se P, P.map (fun p => p.1), Qd 0 P, (n : Int), ()), (e, t, d, ())) ∧ Rq t.1 0 P ∧ P.length + n ≤ 7 ∧ Qd 0 P ≤ 12 * (P.length : Int))
  (fun r => ∃ P : List Kk, r = .inl (((), b5, (), b8, Se P, P.map (fun p => p.1), Qd 0 P, ()), (e, d, ())) ∧ Rq t.1 0 P ∧ P.length ≤ 7 ∧ Qd 0 P ≤ 12 * (P.length : Int)) (by
  rintro n x ⟨P, rfl, hg, hl, hu⟩
  have hge := Ou hg
  simp only [Jq]
  by_cases h1 : (n : Int) > 0
  ·rw [Da h1]
   obtain ⟨k, ek, hk0, hk4⟩ := Ew a (j5 .i64 ((44 : Int) + (n : Int))) 4 hn (by omega)
   obtain ⟨y, ey, hy0, hy5⟩ := Ew a (j5 .i64 ((52 : Int) + (n : Int))) 5 hn (by omega)
   obtain ⟨z, ez, hz0, hzT⟩ := Ew a (j5 .i64 ((60 : Int) + (n : Int))) t.1 hn (by omega)
   rw [ek]
   simp only [cond_true, jb]
   rw [ey]
   simp only [jb]
   rw [ez]
   simp only [jb]
   rw [Vd (n := Qd 0 P + y) (by omega) (by omega), Vd (n := Qd 0 P + y + z) (by omega) (by omega)]
   rw [show jx (ja (Se P) + ja ([(Qd 0 P + y, k, true, ()), (Qd 0 P + y + z, k, false, ())] : List Ra)) Cb = true from ji (by rw [Xf, Ax]; simp; omega),
    show jx (ja (P.map (fun p : Kk => p.1)) + ja ([k] : List Int)) Cb = true from ji (by rw [Xf, List.length_map]; simp; omega)]
   simp only [cond_true]
   rw [show j5 .i64 ((n : Int) - 1) = ((n - 1 : Nat) : Int) by rw [Vd (by omega) (by omega)]; omega]
   refine .inr ⟨_, n - 1, by omega, rfl, P ++ [(k, Qd 0 P + y, Qd 0 P + y + z)], ?_, VG hg ⟨hk0, hk4⟩ (by simp only; omega) (by simp only; omega) (by simp only; omega), by simp; omega, ?_⟩
   ·rw [XI, Tz, List.map_append]; rfl
   ·rw [Tz, qe, List.length_singleton]; simp only; omega
  ·rw [Ea h1]
   exact .inl ⟨_, rfl, P, rfl, hg, by omega, hu⟩) n0 ((a, (), b5, (), (), b8, ([] : List Ra), ([] : List Int), (0 : Int), (n0 : Int), ()), (e, t, d, ())) ⟨[], rfl, trivial, by simpa using h7, by simp [Qd]⟩
 obtain ⟨r, e1, P, rfl, hg, hl, hu⟩ := step
 refine ⟨P, ?_, hg, hl, by omega⟩
 unfold Si
 exact e1
theorem BO (a : List Int) : Pp a = some (true, ()) := by
 have h20 : La = 1048576 := rfl
 by_cases hn : a.length ≤ La
 case neg => unfold Pp; rw [LT hn]; rfl
 obtain ⟨m, em, hm, hm4⟩ := KH a 42 (keys := 4) hn (by omega) (by omega)
 obtain ⟨t, et, ht, ht9⟩ := LH a hn
 obtain ⟨ni, en, hn0, hn8⟩ := Ew a 43 8 hn (by omega)
 obtain ⟨n, rfl⟩ := jv hn0
 have hM := TE hm
 have hm4' : m.1 = 4 := hm4
 have he := IL hm
 have hz := VA he
 have hst := I2 m.2.1.length
 obtain ⟨P, eP, hg, hl7, hu⟩ := BS a hn ht ht9 true true (Sc m 0 0 false []) (Rr (Sc m 0 0 false []) t) n (by omega)
 have hge := Ou hg
 obtain ⟨st', S', cl, tp1, ta1, e1, e2⟩ := LK hM hm4' ht (Qd 0 P) P 0 0 ((0 : Int), (0 : Int), false) [] 0 0 0 (by omega) hg (by omega) hst
 have hfit := ST (by omega) hg (by omega) (by omega) rfl
 have hok : As (Rr (Sc m 0 0 false []) t) (Se P) (Qd 0 P) = true := by
  unfold As
  rw [show Jg (Rr (Sc m 0 0 false []) t) = true from QG he ht (by omega) (by omega) (CJ _ _) rfl (by have := (Qf hm).k1; show (0 : Int) ≤ 0 ∧ (0 : Int) ≤ m.1; omega) (by omega)]
  have h1 : Ed (jf (Rr (Sc m 0 0 false []) t).2.2.1 (Se P)) (Cr (Rr (Sc m 0 0 false []) t).1.2.2.2.1) (Rr (Sc m 0 0 false []) t).1.1.1 = true := by
   show Ed (Se P) 0 m.1 = true
   rw [hm4']; exact hfit
  rw [h1]
  have h2 : Gm (Se P) (Rr (Sc m 0 0 false []) t).2.2.2.1 = true := by
   cases P with
   | nil => rfl
   | cons p P =>
    unfold Gm
    have : ¬ UN (Se (p :: P)) < (Rr (Sc m 0 0 false []) t).2.2.2.1 := by
     show ¬ p.2.1 < 0
     have := hg.2.1
     omega
    rw [Ea this]
    simp
  have h3 : Wh (Se P) (Qd 0 P) = true := by
   unfold Wh
   by_cases hP : P = []
   ·subst hP; rfl
   ·rw [WI P 0 hP, Da (Int.le_refl _)]; simp
  rw [h2, h3, Da (show (Rr (Sc m 0 0 false []) t).2.2.2.1 ≤ Qd 0 P ∧ Qd 0 P ≤ 1000000 from ⟨hge, by omega⟩)]
  rfl
 have hplay : Gj (Rr (Sc m 0 0 false []) t) (Se P) (Qd 0 P) = some ((Sc m st'.1 st'.2.1 st'.2.2 [], t, [], Qd 0 P, cl, tp1, ta1, ()), S', true, ()) := by
  rw [Rz _ _ _ (by rw [Lz, Nv]; show Dc Tb (Sc m 0 0 false []) + 0 ≤ _; omega) (by rw [Ax]; omega)]
  unfold KO
  rw [hok]
  simp only [cond_true]
  have : (Pk (Rr (Sc m 0 0 false []) t) (Se P) (Qd 0 P)).2.2.1.length = 2 * P.length := by
   show (Se P).length = _
   exact Ax P
  rw [this]
  have e1' : Kh (2 * P.length) (Pk (Rr (Sc m 0 0 false []) t) (Se P) (Qd 0 P)) [] = _ := e1
  rw [e1']
 have hI0 : JF m 0 (((0 : Int), (0 : Int), false), ([] : List Ga)) := ⟨hst, by simp, by simp⟩
 have hI := GJ hM _ 0 _ _ hI0 e2
 have hlen := hI.len
 simp only [List.length_map] at hlen
 have htap : Fo (Sc m 0 0 false []) (P.map (fun p => p.1)) = some (Sc m st'.1 st'.2.1 st'.2.2 [], S'.map (fun x => x.2.1), true, ()) := by
  rw [HE hM hst _ (by rw [List.length_map]; omega)]
  unfold MV
  rw [show Jc (fun _ s x => gT m s x) 0 (((0 : Int), (0 : Int), false), ([] : List Ga)) (P.map (fun p => p.1)) = .inl (st', S'.map (fun x => x.2.1)) from e2]
  rfl
 have hSz : Dc (.sl Eh) S' ≤ La := by
  have := GF (e := Eh) (c := 56) (w := S') fun s hs => by
   have h3 := hI.rep s.2.1 (qq.2 ⟨s, hs, rfl⟩)
   show 0 + (Dc Md s.2.1 + 0) ≤ 56
   rw [KK]
   omega
  omega
 have hkm := Qf hm
 have hsame : Nj (Sc m st'.1 st'.2.1 st'.2.2 []) (Sc m st'.1 st'.2.1 st'.2.2 []) = some (true, ()) := by
  refine CF _ (by have := hkm.l2; show m.2.1.length ≤ _; omega) (fun l hl => ?_) (by show (0 : Nat) ≤ _; omega)
  obtain ⟨i, hi, rfl⟩ := qp hl
  have := hkm.row i hi
  have := hkm.k2
  show m.2.1[i].length ≤ _
  omega
 unfold Pp
 rw [HP hn]
 simp only [jb, cond_false]
 rw [show Pj a 42 4 = some (m, ()) from em]
 simp only [jb]
 rw [MH hm]
 simp only [jb]
 rw [et]
 simp only [jb]
 rw [LF he ht]
 simp only [jb]
 rw [en]
 simp only [jb]
 rw [eP]
 simp only [jb, qj]
 erw [hplay]
 simp only [jb]
 erw [htap]
 simp only [jb, cond_true]
 rw [GB _ hSz]
 simp only [jb]
 rw [AD _ (by rw [List.length_map]; omega) (fun x hx => by have := hI.rep x hx; omega)]
 simp only [jb, cond_true]
 rw [hsame]
 rfl
end KF
