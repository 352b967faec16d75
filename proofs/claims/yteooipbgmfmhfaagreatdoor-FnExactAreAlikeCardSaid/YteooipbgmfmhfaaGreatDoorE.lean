/- An evaluator of Go functions on plain data, its soundness, and plain laws on what the functions compute, part 5 (conditions: as each lemma tells). -/
import Derived.Test.YteooipbgmfmhfaaGreatDoorD
set_option linter.unusedSimpArgs false
set_option linter.unusedVariables false
namespace KF
open Go
open List renaming length → ja, getElem?_eq_getElem → je, append → jf, mem_append → jl, mem_cons → jp, mem_cons_of_mem → jr, length_cons → jw, set → j5, length_nil → j6, mem_singleton → qa, length_append → qb, getD_eq_getElem?_getD → qd, getElem_mem → qf, mem_map → qg, ext_getElem? → qj, drop_drop → qk, toArray → ql, getD → qm, getElem?_eq_none → qn, mem_append_left → qo, mem_append_right → qp, append_assoc → qt, eq_nil_of_length_eq_zero → qv, getElem?_eq_some_iff → qw, length_eq_one_iff → qx, replicate → q0, cons_append → q8, map_cons → ya, map_nil → yb, nodup_cons → yd, nodup_append → ye, size_toArray → yf, flatten_cons → yg, length_map → yi, mem_map_of_mem → yk, map_append → yl, all_eq_true → ym, range → yo, map → yq, not_mem_nil → yr
open Option renaming bind_some → jb, bind → jz, map_some → j9, bind_eq_some_iff → qc, getD_some → qs, map_eq_some_iff → yn
open Option.some renaming injEq → jc, inj → yp
open Bool renaming and_eq_true → jd, not_true → jg, true_and → jk, false_eq_true → jq, not_eq_true → j7, or_eq_true → qr, not_eq_true' → yc, false_or → yj
open Prod.mk renaming injEq → jh
open Nat renaming ble_eq_true_of_le → ji, mul_le_mul_right → jm, le_refl → jo, zero_add → js, add_assoc → jt, eq_of_beq_eq_true → ju, ble → jx, le_trans → j8, beq → qq, le_of_ble_eq_true → qu, add_zero → qy, blt → qz, blt_eq → q6, add_mul → q7, succ_mul → yh
open Int renaming toNat_natCast → jn, eq_ofNat_of_zero_le → jv, toNat → jy
open Go.IntKind renaming wrap → j4
open Sum renaming elim_inl → qe
open Result renaming andThen_ok → qh
open Sem renaming run_bind → qi
open List.cons renaming injEq → q9
abbrev Ng := List (Nc × List Int)
theorem PN {x y : Nc} : Te Nd x y = true ↔ x = y := by
 constructor
 ·exact Qz (by decide)
 ·rintro rfl
  obtain ⟨⟨a, b, c, u⟩, ⟨d, e, f, v⟩, w⟩ := x
  simp [Te]
theorem VD {α : Type} : ∀ {W : List (Nc × α)} {x : Nc}, Rd Nd W x = none ↔ ∀ e ∈ W, e.1 ≠ x
 | [], x => by simp [Rd]
 | (k, y) :: r, x => by
  simp only [Rd]
  cases hk : Te Nd x k with
  | true => rw [PN] at hk; subst hk; simp
  | false =>
   have hne : ¬ x = k := fun e => by rw [PN.2 e] at hk; simp at hk
   simp only [yu, VD (W := r), List.forall_mem_cons]
   exact ⟨fun h => ⟨fun e => hne e.symm, h⟩, fun h => h.2⟩
theorem MT {α : Type} : ∀ {W : List (Nc × α)} {x : Nc} {w : α}, (W.map Prod.fst).Nodup → (x, w) ∈ W → Rd Nd W x = some w
 | [], x, w, _, h => by simp at h
 | (k, y) :: r, x, w, hn, h => by
  simp only [ya, yd] at hn
  simp only [Rd]
  rcases jp.1 h with h | h
  ·simp only [jh] at h
   rw [h.1, h.2, PN.2 rfl]; rfl
  ·have : x ≠ k := fun e => hn.1 (qg.2 ⟨(x, w), h, e⟩)
   have hk : Te Nd x k = false := by rw [← j7, PN]; exact this
   rw [hk]
   exact MT hn.2 h
theorem TL {α : Type} : ∀ {W : List (Nc × α)} {x : Nc} (y : α), Rd Nd W x = none → Uh Nd W x y = W ++ [(x, y)]
 | [], x, y, _ => rfl
 | (k, z) :: r, x, y, h => by
  simp only [Rd] at h
  simp only [Uh]
  cases hk : Te Nd x k with
  | true => rw [hk] at h; simp at h
  | false => rw [hk] at h; simp only [yu] at h ⊢; rw [TL y h]; rfl
section
variable (nx : Nc → Nat → Nc) (df : Nc → Nat → Bool) (K : Nat) (P : Nc → Prop)
def Rp (x : Nc) (w : List Int) (k : Nat) (W : Ng) : Ng := cond (Rd Nd W (nx x k)).isSome W (W ++ [(nx x k, w ++ [(k : Int)])])
def Gr (x : Nc) (w : List Int) (n : Nat) (W : Ng) : Ng := Zg (Rp nx x w) n W
def Yp (x : Nc) : Nat → Nat → Option Nat
 | 0, _ => none
 | n + 1, j => cond (df x j) (some j) (Yp x n (j + 1))
def Qt : Nat → Nat → Ng → Option (List Int)
 | 0, _, _ => none
 | n + 1, i, W => match W[i]? with
  | none => none
  | some e => match Yp df e.1 K 0 with
   | some k => some (e.2 ++ [(k : Int)])
   | none => Qt n (i + 1) (Gr nx e.1 e.2 K W)
structure ZB (W : Ng) : Prop where
 nd : (W.map Prod.fst).Nodup
 ok : ∀ e ∈ W, P e.1
 ln : ∀ (j : Nat) (hj : j < W.length), W[j].2.length ≤ j
end
section
variable {nx : Nc → Nat → Nc} {df : Nc → Nat → Bool} {K : Nat} {P : Nc → Prop}
theorem IR (hP : ∀ x k, P x → k < K → P (nx x k)) {i k : Nat} {W : Ng} (h : ZB P W) {x : Nc} {w : List Int} (hx : P x) (hw : w.length ≤ i) (hi : i < W.length) (hk : k < K) :
 ZB P (Rp nx x w k W) ∧ W <+: Rp nx x w k W := by
 unfold Rp
 cases hg : Rd Nd W (nx x k) with
 | some w' => exact ⟨h, List.prefix_refl _⟩
 | none =>
  simp only [Option.isSome_none, yu]
  refine ⟨{ nd := ?_, ok := ?_, ln := ?_ }, List.prefix_append _ _⟩
  ·rw [yl, ye]
   refine ⟨h.nd, by simp, ?_⟩
   intro a ha b hb
   simp only [ya, yb, qa] at hb
   subst hb
   obtain ⟨e, he, rfl⟩ := qg.1 ha
   exact VD.1 hg e he
  ·intro e he
   rcases jl.1 he with he | he
   ·exact h.ok e he
   ·simp only [qa] at he
    subst he
    exact hP _ _ hx hk
  ·intro j hj
   by_cases hj' : j < W.length
   ·rw [List.getElem_append_left hj']; exact h.ln j hj'
   ·have hj2 : j = W.length := by
     rw [qb, List.length_singleton] at hj
     omega
    subst hj2
    rw [List.getElem_append_right (jo _)]
    simp
    omega
theorem XE (hP : ∀ x k, P x → k < K → P (nx x k)) {i : Nat} {W : Ng} (h : ZB P W) {x : Nc} {w : List Int} (hx : P x) (hw : w.length ≤ i) (hi : i < W.length) : ∀ n, n ≤ K → ZB P (Gr nx x w n W) ∧ W <+: Gr nx x w n W
 | 0, _ => ⟨h, List.prefix_refl _⟩
 | n + 1, hn => by
  obtain ⟨h1, h2⟩ := XE hP h hx hw hi n (by omega)
  obtain ⟨g1, g2⟩ := IR hP h1 hx hw (Nat.lt_of_lt_of_le hi h2.length_le) (by omega : n < K)
  exact ⟨g1, h2.trans g2⟩
end
noncomputable def Xg (a b : Ea) (x : Nc) (k : Nat) : Nc := (Py a x.1 k, Py b x.2.1 k, ())
noncomputable def Ul (a b : Ea) (x : Nc) (k : Nat) : Bool := !decide (An a x.1 k = An b x.2.1 k)
def Kw (a b : Ea) (x : Nc) : Prop := Mt a x.1 ∧ Mt b x.2.1
structure PF (a b : Ea) : Prop where
 tka : Ph a
 tkb : Ph b
 tkk : a.1 = b.1
theorem BJ {a b : Ea} (h : PF a b) : ∀ x k, Kw a b x → k < a.1.toNat → Kw a b (Xg a b x k) := fun x k hx hk => by
 have h1 := Ax h.tka
 exact ⟨SZ h.tka hx.1 (by omega), SZ h.tkb hx.2 (by rw [← h.tkk]; omega)⟩
theorem O5 {a b : Ea} (h : PF a b) {x : Nc} (hx : Kw a b x) {k : Nat} (hk : (k : Int) < a.1) : (Fl (An a x.1 k) != Fl (An b x.2.1 k)) = Ul a b x k := by
 unfold Ul
 by_cases he : An a x.1 k = An b x.2.1 k
 ·rw [he]; simp
 ·have : ¬ Fl (An a x.1 k) = Fl (An b x.2.1 k) := fun e => he (ZT _ _ (ZD h.tka hx.1 hk).2 (ZD h.tkb hx.2 (by rw [← h.tkk]; exact hk)).2 e)
  simp [he, this]
def WA (x : Cd) : Nat := (x.1.toNat * 16 + x.2.1.toNat) * 2 + cond x.2.2.1 1 0
theorem Wp {m : Ea} (hM : Ph m) {x : Cd} (hx : Mt m x) : (0 ≤ x.1 ∧ x.1 ≤ 15) ∧ (0 ≤ x.2.1 ∧ x.2.1 ≤ 15) ∧ WA x < 512 := by
 have h1 := I1 (Wg hM.v).l2 hx
 have h2 := hx.o0
 have h3 := hx.o1
 refine ⟨h1, by omega, ?_⟩
 unfold WA
 cases x.2.2.1 <;> simp <;> omega
theorem BL {m : Ea} (hM : Ph m) {x y : Cd} (hx : Mt m x) (hy : Mt m y) (h : WA x = WA y) : x = y := by
 obtain ⟨h1, h2, _⟩ := Wp hM hx
 obtain ⟨g1, g2, _⟩ := Wp hM hy
 obtain ⟨f, o, c, u⟩ := x
 obtain ⟨f', o', c', u'⟩ := y
 unfold WA at h
 simp only at h h1 h2 g1 g2
 have hc : c = c' := by cases c <;> cases c' <;> simp at h ⊢ <;> omega
 subst hc
 have hf : f = f' := by omega
 have ho : o = o' := by omega
 rw [hf, ho]
theorem Zv {a b : Ea} (h : PF a b) {W : Ng} (hW : ZB (Kw a b) W) : W.length ≤ 262144 := by
 have hn : (W.map fun e => WA e.1.1 * 512 + WA e.1.2.1).Nodup := by
  have := hW.nd
  rw [List.Nodup, List.pairwise_map] at this ⊢
  refine (List.Pairwise.and_mem.1 this).imp ?_
  rintro x y ⟨hx, hy, hxy⟩ he
  obtain ⟨p1, p2⟩ := hW.ok x hx
  obtain ⟨q1, q2⟩ := hW.ok y hy
  have a1 := (Wp h.tka p1).2.2
  have a2 := (Wp h.tkb p2).2.2
  have a3 := (Wp h.tka q1).2.2
  have a4 := (Wp h.tkb q2).2.2
  have e1 := BL h.tka p1 q1 (by omega)
  have e2 := BL h.tkb p2 q2 (by omega)
  exact hxy (Prod.ext e1 (Prod.ext e2 rfl))
 have := XP 262144 _ hn (by
  intro y hy
  obtain ⟨x, hx, rfl⟩ := qg.1 hy
  obtain ⟨p1, p2⟩ := hW.ok x hx
  have a1 := (Wp h.tka p1).2.2
  have a2 := (Wp h.tkb p2).2.2
  omega)
 simpa using this
theorem Oaa {a b : Ea} {W W' : Ng} {i : Nat} (h : ZB (Kw a b) W') (hi : i < W.length) (hp : W <+: W') : Rd Nd W' W[i].1 = some W[i].2 :=
 MT h.nd (hp.subset (qf hi))
def Ag (i : Nat) (W : Ng) : List Nc := (W.map Prod.fst).drop i
theorem JX {i : Nat} {W : Ng} (x : Nc) (w : List Int) (h : i ≤ W.length) : Ag i (W ++ [(x, w)]) = Ag i W ++ [x] := by
 unfold Ag
 rw [yl, List.drop_append_of_le_length (by simpa using h)]
 rfl
theorem IE (i : Nat) (W : Ng) : (Ag i W).length = W.length - i := by simp [Ag]
theorem IX {i : Nat} {W : Ng} (h : i < W.length) : Ag i W = W[i].1 :: Ag (i + 1) W := by
 unfold Ag
 rw [List.drop_eq_getElem_cons (by simpa using h)]
 simp
theorem FI {l : List Int} (h : l.length ≤ 1000000) : Wf l = some (l, ()) := by
 unfold Wf
 rw [Pe (by simp; omega)]
 rfl
theorem Xu (m : Ea) (x : Cd) {k : Nat} (hk : k < m.1.toNat) : Ac (Kg m x) (k : Int) = some (FA m x k) := by
 have hl : k < (Kg m x).length := by unfold Kg; rw [CM]; exact hk
 rw [Sc hl]
 simp [Kg, Pv]
abbrev CU := List (Cd × List Sl)
theorem HP {a b : Ea} (h : PF a b) {W : Ng} (hW : ZB (Kw a b) W) {i : Nat} (hi : i < W.length) (todo : List Nc) (sa sb : CU) (e : Nc × List Int) (he : W[i] = e) :
 Ig (((), (), (), W, todo, (), Kg a e.1.1, Kg b e.1.2.1, a.1, (0 : Int), ()), (a, (a, sa, ()), (b, sb, ()), e.1, ())) =
  some (match Yp (Ul a b) e.1 a.1.toNat 0 with
   | some k => .inr ((e.2 ++ [(k : Int)], true, ()), ())
   | none => .inl (((), (), (), W, todo, (), Kg a e.1.1, Kg b e.1.2.1, ()), (a, (a, sa, ()), (b, sb, ()), e.1, ()))) := by
 obtain ⟨k1, k2⟩ := Ax h.tka
 have hp : Kw a b e.1 := by rw [← he]; exact hW.ok _ (qf hi)
 have hln : e.2.length ≤ i := by rw [← he]; exact hW.ln i hi
 have hlen := Zv h hW
 have hgt : Rd Nd W e.1 = some e.2 := by rw [← he]; exact Oaa hW hi (List.prefix_refl _)
 have key : ∀ (n j : Nat), n + j = a.1.toNat → Kb (fun x => Uf x.1.1 x.1.2.1 x.1.2.2.1 x.1.2.2.2.1 x.1.2.2.2.2.1 x.1.2.2.2.2.2.1 x.1.2.2.2.2.2.2.1 x.1.2.2.2.2.2.2.2.1 x.1.2.2.2.2.2.2.2.2.1 x.1.2.2.2.2.2.2.2.2.2.1 x.2.1 x.2.2.1 x.2.2.2.1 x.2.2.2.2.1)
  (((), (), (), W, todo, (), Kg a e.1.1, Kg b e.1.2.1, a.1, (j : Int), ()), (a, (a, sa, ()), (b, sb, ()), e.1, ())) =
  some (match Yp (Ul a b) e.1 n j with
   | some k => .inr ((e.2 ++ [(k : Int)], true, ()), ())
   | none => .inl (((), (), (), W, todo, (), Kg a e.1.1, Kg b e.1.2.1, ()), (a, (a, sa, ()), (b, sb, ()), e.1, ()))) := by
  intro n
  induction n with
  | zero =>
   intro j hj
   refine (Ud (z := some (.inr (.inl (((), (), (), W, todo, (), Kg a e.1.1, Kg b e.1.2.1, ()), (a, (a, sa, ()), (b, sb, ()), e.1, ()))))) ?_).trans rfl
   simp only [Uf]
   rw [Ja (by omega)]; rfl
  | succ n ih =>
   intro j hj
   have hja : (j : Int) < a.1 := by omega
   have hdf := O5 h hp hja
   cases hd : Ul a b e.1 j with
   | true =>
    rw [hd] at hdf
    refine (Ud (z := some (.inr (.inr ((e.2 ++ [(j : Int)], true, ()), ())))) ?_).trans ?_
    ·simp only [Uf]
     rw [Ia hja, Xu a _ (by omega), Xu b _ (by rw [← h.tkk]; omega)]
     simp only [yt, jb, FA]
     rw [hdf, hgt]
     simp only [yt, qs]
     rw [FI (by omega)]
     simp only [jb]
     rw [Pe (by simp; omega)]
     rfl
    ·simp only [Yp, hd, yt]; rfl
   | false =>
    rw [hd] at hdf
    refine (Ud (z := some (.inl (((), (), (), W, todo, (), Kg a e.1.1, Kg b e.1.2.1, a.1, ((j + 1 : Nat) : Int), ()), (a, (a, sa, ()), (b, sb, ()), e.1, ())))) ?_).trans ?_
    ·simp only [Uf]
     rw [Ia hja, Xu a _ (by omega), Xu b _ (by rw [← h.tkk]; omega)]
     simp only [yt, jb, FA]
     rw [hdf]
     simp only [yu]
     rw [Fh (by omega) (by omega)]
     rfl
    ·rw [jb, qe, ih (j + 1) (by omega)]
     simp only [Yp, hd, yu]
 have := key a.1.toNat 0 (by omega)
 unfold Ig
 exact this
theorem KM {a b : Ea} (h : PF a b) {W : Ng} (hW : ZB (Kw a b) W) {i : Nat} (hi : i < W.length) (sa sb : CU) (e : Nc × List Int) (he : W[i] = e) :
 Jg (((), (), (), W, Ag (i + 1) W, (), Kg a e.1.1, Kg b e.1.2.1, a.1, (0 : Int), ()), (a, (a, sa, ()), (b, sb, ()), e.1, ())) =
  some (.inl (((), (), (), Gr (Xg a b) e.1 e.2 a.1.toNat W, Ag (i + 1) (Gr (Xg a b) e.1 e.2 a.1.toNat W), ()), (a, (a, sa, ()), (b, sb, ()), ()))) := by
 obtain ⟨k1, k2⟩ := Ax h.tka
 have hp : Kw a b e.1 := by rw [← he]; exact hW.ok _ (qf hi)
 have hln : e.2.length ≤ i := by rw [← he]; exact hW.ln i hi
 have hl := Ez (step := fun x => Th x.1.1 x.1.2.1 x.1.2.2.1 x.1.2.2.2.1 x.1.2.2.2.2.1 x.1.2.2.2.2.2.1 x.1.2.2.2.2.2.2.1 x.1.2.2.2.2.2.2.2.1 x.1.2.2.2.2.2.2.2.2.1 x.1.2.2.2.2.2.2.2.2.2.1 x.2.1 x.2.2.1 x.2.2.2.1 x.2.2.2.2.1)
  a.1.toNat (by omega) (Rp (Xg a b) e.1 e.2) W (fun W' j => (((), (), (), W', Ag (i + 1) W', (), Kg a e.1.1, Kg b e.1.2.1, a.1, j, ()), (a, (a, sa, ()), (b, sb, ()), e.1, ())))
  (fun W' => .inl (((), (), (), W', Ag (i + 1) W', ()), (a, (a, sa, ()), (b, sb, ()), ()))) (by
   intro j hj
   obtain ⟨g1, g2⟩ := XE (BJ h) hW hp hln hi j (by omega)
   have hgt : Rd Nd (Gr (Xg a b) e.1 e.2 j W) e.1 = some e.2 := by rw [← he] at g1 g2 ⊢; exact Oaa g1 hi g2
   have hlen := Zv h g1
   have hle := g2.length_le
   have htl := IE (i + 1) (Gr (Xg a b) e.1 e.2 j W)
   have hit : Zg (Rp (Xg a b) e.1 e.2) j W = Gr (Xg a b) e.1 e.2 j W := rfl
   rw [hit]
   generalize hW' : Gr (Xg a b) e.1 e.2 j W = W' at hgt hlen hle htl g1
   simp only [Th]
   rw [Ia (by omega), Xu a _ (by omega), Xu b _ (by rw [← h.tkk]; omega)]
   simp only [yt, jb, FA]
   rw [show ((Py a e.1.1 j, Py b e.1.2.1 j, ()) : Nc) = Xg a b e.1 j from rfl]
   unfold Rp
   cases hg : Rd Nd W' (Xg a b e.1 j) with
   | some w => rfl
   | none =>
    simp only [Option.isSome_none, Bool.not_false, yt, yu]
    rw [hgt]
    simp only [qs]
    rw [FI (by omega)]
    simp only [jb]
    rw [Pe (by simp; omega), Pe (by rw [htl]; simp; omega), JX _ _ (by omega), TL _ hg]
    rfl) (by
   simp only [Th]
   rw [Ja (by omega)]; rfl)
 unfold Jg
 exact hl
theorem CC {a b : Ea} (h : PF a b) : ∀ (n i : Nat) (W : Ng) (sa sb : CU), ZB (Kw a b) W → ME a sa → ME b sb → 262145 ≤ n + i →
 Le (((), (), (), W, Ag i W, ()), (a, (a, sa, ()), (b, sb, ()), ())) = some (match Qt (Xg a b) (Ul a b) a.1.toNat n i W with
  | some w => .inr ((w, true, ()), ())
  | none => .inl ((), ()))
 | n, i, W, sa, sb, hW, hsa, hsb, hn => by
  have hlen := Zv h hW
  by_cases hi : i < W.length
  ·obtain ⟨n', rfl⟩ : ∃ n', n = n' + 1 := ⟨n - 1, by omega⟩
   obtain ⟨e, he⟩ : ∃ e, W[i] = e := ⟨_, rfl⟩
   have hp : Kw a b e.1 := by rw [← he]; exact hW.ok _ (qf hi)
   have hln : e.2.length ≤ i := by rw [← he]; exact hW.ln i hi
   obtain ⟨g1, g2⟩ := XE (BJ h) hW hp hln hi a.1.toNat (jo _)
   obtain ⟨sa', ha, hsa'⟩ := XT h.tka hp.1 hsa
   obtain ⟨sb', hb, hsb'⟩ := XT h.tkb hp.2 hsb
   have htl := IE i W
   have hcons := IX hi
   rw [he] at hcons
   have hb1 : Qt (Xg a b) (Ul a b) a.1.toNat (n' + 1) i W = match Yp (Ul a b) e.1 a.1.toNat 0 with
    | some k => some (e.2 ++ [(k : Int)])
    | none => Qt (Xg a b) (Ul a b) a.1.toNat n' (i + 1) (Gr (Xg a b) e.1 e.2 a.1.toNat W) := by
    rw [Qt, je hi, he]
   rw [hb1]
   have hin := HP h hW hi (Ag (i + 1) W) sa' sb' e he
   have step : Bi () () () W (Ag i W) a (a, sa, ()) (b, sb, ()) = some (match Yp (Ul a b) e.1 a.1.toNat 0 with
    | some k => .inr (.inr ((e.2 ++ [(k : Int)], true, ()), ()))
    | none => .inl (((), (), (), Gr (Xg a b) e.1 e.2 a.1.toNat W, Ag (i + 1) (Gr (Xg a b) e.1 e.2 a.1.toNat W), ()), (a, (a, sa', ()), (b, sb', ()), ()))) := by
    simp only [Bi]
    have hl0 : (Ag i W).length = (Ag (i + 1) W).length + 1 := by rw [hcons]; simp
    rw [Ia (by omega), show Xl (Ag i W).length 0 = true by rw [show (0 : Int) = ((0 : Nat) : Int) from rfl, Yw]; simp; omega]
    simp only [yt]
    rw [show (Ag i W)[jy 0]? = some e.1 by rw [hcons]; rfl]
    simp only [jb]
    rw [show Re (Ag i W).length 1 (((Ag i W).length : Nat) : Int) = true from FY (lo := 1) (by omega) (jo _)]
    simp only [yt, jb]
    rw [ha, hb]
    simp only [jb]
    rw [show Zc (Ag i W) (jy 1) (jy (((Ag i W).length : Nat) : Int)) = Ag (i + 1) W by
     rw [jn, show jy 1 = 1 from rfl, hcons]
     unfold Zc
     rw [List.take_length]; rfl]
    rw [hin]
    cases Yp (Ul a b) e.1 a.1.toNat 0 with
    | some k => rfl
    | none =>
     simp only [jb, qe]
     rw [KM h hW hi sa' sb' e he]
     rfl
   unfold Le
   refine (Ud step).trans ?_
   cases hf : Yp (Ul a b) e.1 a.1.toNat 0 with
   | some k => rfl
   | none =>
    have ih := CC h n' (i + 1) _ sa' sb' g1 hsa' hsb' (by omega)
    unfold Le at ih
    exact ih
  ·have hb : Qt (Xg a b) (Ul a b) a.1.toNat n i W = none := by
    cases n with
    | zero => rfl
    | succ n => rw [Qt, qn (by omega)]
   rw [hb]
   unfold Le
   refine (Ud (z := some (.inr (.inl ((), ())))) ?_).trans rfl
   have htl := IE i W
   simp only [Bi]
   rw [Ja (by omega)]; rfl
def X1 : Cd := ((0 : Int), (0 : Int), false, ())
def ON : Nc := (X1, X1, ())
theorem HK {m : Ea} (hM : Ph m) : Mt m X1 := by
 have hm := Wg hM.v
 refine ⟨Int.le_refl _, ?_, rfl, Int.le_refl _, by show (0 : Int) ≤ 15; omega⟩
 show (0 : Int) < ((2 ^ m.2.1.length : Nat) : Int)
 exact Int.natCast_pos.2 (Nat.two_pow_pos _)
theorem UT {a b : Ea} (h : PF a b) : ZB (Kw a b) [(ON, [])] where
 nd := by simp
 ok := fun e he => by simp at he; subst he; exact ⟨HK h.tka, HK h.tkb⟩
 ln := fun j hj => by
  have : j = 0 := by simpa using hj
  subst j; simp
noncomputable def GI (a b : Ea) : Option (List Int) := Qt (Xg a b) (Ul a b) a.1.toNat 262145 0 [(ON, [])]
theorem J0 {a b : Ea} (ha : Ec a = true) (hb : Ec b = true) (hk : a.1 = b.1) : PF a b := ⟨TP ha, TP hb, hk⟩
noncomputable def MG (a b : Ea) : Bool := Ec a && (Ec b && ((a.1 == b.1) && !decide (a.1 > 6)))
noncomputable def WE (a b : Ea) : List Int × (Bool × Unit) := cond (MG a b) (match GI a b with | some w => (w, true, ()) | none => ([], false, ())) ([], false, ())
theorem AB (a b : Ea) (ha : Pb Oa a ≤ Na) (hb : Pb Oa b ≤ Na) : Il a b = some (WE a b) := by
 unfold Il WE MG
 rw [Rm a ha, Rm b hb]
 cases h1 : Ec a with
 | false => rfl
 | true =>
  simp only [jb, jg, yu, jk]
  cases h2 : Ec b with
  | false => rfl
  | true =>
   simp only [jg, yu, jk]
   by_cases hk : a.1 = b.1
   ·rw [show (a.1 != b.1) = false by simp [hk], show (a.1 == b.1) = true by simp [hk]]
    simp only [yu, jk]
    by_cases h6 : a.1 > 6
    ·rw [Ia h6]; rfl
    ·rw [Ja h6]
     simp only [yu, Bool.not_false, yt]
     have hT := J0 h1 h2 hk
     have := CC hT 262145 0 [(ON, [])] [] [] (UT hT) (fun e he => by simp at he) (fun e he => by simp at he) (by omega)
     erw [this]
     show jz (some (match GI a b with | some w => Sum.inr ((w, true, ()), ()) | none => Sum.inl ((), ()))) _ = _
     cases GI a b <;> rfl
   ·rw [show (a.1 != b.1) = true by simp [hk], show (a.1 == b.1) = false by simp [hk]]; rfl
theorem EE (a b : List Ga) (ha : a.length ≤ 2) (hb : b.length ≤ 2) (hk : ∀ r ∈ a, Ld r = true) : Ip a b = some (decide (a = b), ()) := by
 have hlim := Li
 have hzl : (a.zip b).length = min a.length b.length := List.length_zip
 have hl := Dg (step := fun x : ((List Ga) × ((List Ga) × (Int × Unit))) × Unit => Ak x.1.1 x.1.2.1 x.1.2.2.1) (a.zip b) (fun _ x => Nf x.1 x.2) (fun i => ((a, b, i, ()), ()))
  (.inl ((a, b, ()), ())) (.inr ((false, ()), ())) (by
   intro k hk'
   rw [hzl] at hk'
   have h1 : k < a.length := by omega
   have h2 : k < b.length := by omega
   simp only [Ak]
   rw [Ia (by omega), Ia (by omega), Sc h1, Sc h2]
   simp only [yt, jb]
   have := Ey (hk _ (qf h1))
   rw [Cw _ _ (by omega), List.getElem_zip]
   simp only [jb]
   cases Nf a[k] b[k] <;> rfl) (by
   rw [hzl]
   simp only [Ak]
   by_cases h : a.length ≤ b.length
   ·rw [Ja (by omega)]; rfl
   ·rw [Ia (show ((min a.length b.length : Nat) : Int) < ((a.length : Nat) : Int) by omega), Ja (show ¬ ((min a.length b.length : Nat) : Int) < ((b.length : Nat) : Int) by omega)]
    rfl) (by rw [hzl]; omega)
 unfold Ip Dl
 erw [hl]
 have hres : decide (a = b) = (Bf (fun _ (x : Ga × Ga) => Nf x.1 x.2) 0 (a.zip b) && ((a.length : Int) == (b.length : Int))) := by
  refine WJ ?_
  rw [decide_eq_true_iff, jd, Aj, beq_iff_eq]
  constructor
  ·rintro rfl
   refine ⟨fun j hj => ?_, rfl⟩
   rw [List.getElem_zip]
   exact UL.2 rfl
  ·rintro ⟨h1, h2⟩
   have h2 : a.length = b.length := by omega
   refine List.ext_getElem h2 fun j g1 g2 => ?_
   have := h1 j (by rw [hzl]; omega)
   rw [List.getElem_zip] at this
   exact UL.1 this
 rw [hres]
 cases Bf (fun _ (x : Ga × Ga) => Nf x.1 x.2) 0 (a.zip b) <;> rfl
noncomputable def Ts (m : Ea) (x : Cd) : Db := Cf m x.1 x.2.1 x.2.2.1 []
theorem HE {m : Ea} (hM : Ph m) {x : Cd} (hx : Mt m x) {k : Nat} (hk : (k : Int) < m.1) :
 Em (Ts m x) [(k : Int)] = some (Ts m (Py m x k), An m x k, true, ()) := by
 unfold Ts
 rw [JJ hM hx [(k : Int)] (by show 1 ≤ 1048576; omega)]
 unfold D3
 have hg : Hg (fun _ s x => gT m s x) 0 ((x.1, x.2.1, x.2.2.1), []) [(k : Int)] = .inl (((Py m x k).1, (Py m x k).2.1, (Py m x k).2.2.1), An m x k) := by
  simp only [Hg, gT]
  rw [Ia (show 0 ≤ (k : Int) ∧ (k : Int) < m.1 from ⟨by omega, hk⟩), jn]
  rfl
 rw [hg]
 rfl
noncomputable def Qy (a b : Ea) (e : Nc × List Int) : Mm := (Ts a e.1.1, Ts b e.1.2.1, e.2, ())
noncomputable def Ah (a b : Ea) (W : Ng) : List Mm := W.map (Qy a b)
theorem Wy (m : Ea) (x y : Cd) : Gu (Ts m x) (Ts m y) = some (Te Pc x y, ()) := by
 obtain ⟨f, o, c, u⟩ := x
 obtain ⟨f', o', c', u'⟩ := y
 show cond (f == f') (cond (o == o') (some ((c == c'), ())) (some (false, ()))) (some (false, ())) = some ((f == f') && ((o == o') && ((c == c') && true)), ())
 cases f == f' with
 | false => rfl
 | true => cases o == o' <;> simp
theorem LJ (a b : Ea) (W : Ng) (hW : W.length ≤ 1000000) (p q : Cd) : Hu (Ah a b W) (Ts a p) (Ts b q) = some ((Rd Nd W (p, q, ())).isSome, ()) := by
 have hlen : (Ah a b W).length = W.length := yi _
 have hl := Dg (step := fun x : ((List Mm) × (Unit × (Unit × (Int × Unit)))) × (Db × (Db × Unit)) => Jn x.1.1 x.1.2.1 x.1.2.2.1 x.1.2.2.2.1 x.2.1 x.2.2.1) W (fun _ x => !(Te Pc x.1.1 p && Te Pc x.1.2.1 q)) (fun i => ((Ah a b W, (), (), i, ()), (Ts a p, Ts b q, ())))
  (.inl ((), ())) (.inr ((true, ()), ())) (by
   intro k hk
   simp only [Jn]
   have hk' : k < (Ah a b W).length := by rw [hlen]; exact hk
   rw [hlen, Ia (by omega), Sc hk']
   have hat : (Ah a b W)[k] = Qy a b W[k] := by simp [Ah]
   rw [hat]
   simp only [yt, jb, Qy]
   rw [Wy]
   simp only [jb]
   cases Te Pc W[k].1.1 p with
   | false => rfl
   | true =>
    simp only [yt]
    rw [Wy]
    simp only [jb, jk]
    cases Te Pc W[k].1.2.1 q <;> rfl) (by
   simp only [Jn]
   rw [hlen, Ja (by omega)]; rfl) (by omega)
 unfold Hu Po
 erw [hl]
 have hres : (Rd Nd W (p, q, ())).isSome = !Bf (fun _ (x : Nc × List Int) => !(Te Pc x.1.1 p && Te Pc x.1.2.1 q)) 0 W := by
  have hev : ∀ u v : Cd, Te Pc u v = true ↔ u = v := fun u v => ⟨Qz (by decide), fun e => by subst e; obtain ⟨f, o, c, w⟩ := u; simp [Te]⟩
  refine WJ ?_
  rw [yc, ← j7, Aj]
  constructor
  ·intro h hall
   obtain ⟨w, hw⟩ := Option.isSome_iff_exists.1 h
   have hm := OD (by decide) hw
   obtain ⟨j, hj, he⟩ := List.getElem_of_mem hm
   have := hall j hj
   rw [he] at this
   simp only [yc, Bool.and_eq_false_iff] at this
   rcases this with h' | h'
   ·rw [(hev _ _).2 rfl] at h'; simp at h'
   ·rw [(hev _ _).2 rfl] at h'; simp at h'
  ·intro h
   cases hg : Rd Nd W (p, q, ()) with
   | some w => rfl
   | none =>
    exfalso
    apply h
    intro j hj
    simp only [yc, ← j7, jd]
    rintro ⟨h1, h2⟩
    refine VD.1 hg _ (qf hj) ?_
    exact Prod.ext ((hev _ _).1 h1) (Prod.ext ((hev _ _).1 h2) rfl)
 rw [hres]
 cases Bf (fun _ (x : Nc × List Int) => !(Te Pc x.1.1 p && Te Pc x.1.2.1 q)) 0 W <;> rfl
theorem Faa (a b : Ea) {W : Ng} {i : Nat} (hi : i < W.length) : (Ah a b W)[i]? = some (Qy a b W[i]) := by
 unfold Ah
 rw [List.getElem?_map, je hi]; rfl
theorem K7 (a b : Ea) {W : Ng} {i : Nat} (hi : i < W.length) : j5 (Ah a b W) i (Qy a b W[i]) = Ah a b W := by
 have hi' : i < (Ah a b W).length := by unfold Ah; rw [yi]; exact hi
 have : Qy a b W[i] = (Ah a b W)[i] := by simp [Ah]
 rw [this, List.set_getElem_self hi']
theorem DE {a b : Ea} (h : PF a b) {i : Nat} (e : Nc × List Int) : ∀ (n j : Nat) (W : Ng), n + j = a.1.toNat → ZB (Kw a b) W → ∀ (hi : i < W.length), W[i] = e →
 Ee (((), Ah a b W, (i : Int), (j : Int), ()), (a, ())) = some (match Yp (Ul a b) e.1 n j with
  | some k => .inr ((e.2 ++ [(k : Int)], true, ()), ())
  | none => .inl (((), Ah a b (Zg (fun q W => Rp (Xg a b) e.1 e.2 (j + q) W) n W), (i : Int), ()), (a, ())))
 | 0, j, W, hj, hW, hi, he => by
  obtain ⟨k1, k2⟩ := Ax h.tka
  unfold Ee
  refine (Ud (z := some (.inr (.inl (((), Ah a b W, (i : Int), ()), (a, ()))))) ?_).trans rfl
  simp only [Wh]
  rw [Ja (by omega)]; rfl
 | n + 1, j, W, hj, hW, hi, he => by
  obtain ⟨k1, k2⟩ := Ax h.tka
  have hp : Kw a b e.1 := by rw [← he]; exact hW.ok _ (qf hi)
  have hln : e.2.length ≤ i := by rw [← he]; exact hW.ln i hi
  have hlen := Zv h hW
  have hja : (j : Int) < a.1 := by omega
  have hjb : (j : Int) < b.1 := by rw [← h.tkk]; exact hja
  obtain ⟨s1, s2⟩ := ZD h.tka hp.1 hja
  obtain ⟨t1, t2⟩ := ZD h.tkb hp.2 hjb
  have hlx : (Ah a b W).length = W.length := yi _
  have hin : Xl (Ah a b W).length (i : Int) = true := by rw [Yw, hlx]; exact decide_eq_true hi
  have hset := K7 a b hi
  have hat := Faa a b hi
  rw [he] at hset hat
  obtain ⟨g1, g2⟩ := IR (K := a.1.toNat) (BJ h) hW hp hln hi (show j < a.1.toNat by omega)
  have hge : ∀ hi', (Rp (Xg a b) e.1 e.2 j W)[i]'hi' = e := fun hi' => by
   obtain ⟨t, ht⟩ := g2
   have : (W ++ t)[i]? = some e := by rw [List.getElem?_append_left hi, je hi, he]
   rw [ht, je hi'] at this
   exact yp this
  have hstep : Wh () (Ah a b W) (i : Int) (j : Int) a = some (cond (Ul a b e.1 j) (.inr (.inr ((e.2 ++ [(j : Int)], true, ()), ())))
   (.inl (((), Ah a b (Rp (Xg a b) e.1 e.2 j W), (i : Int), ((j + 1 : Nat) : Int), ()), (a, ())))) := by
   simp only [Wh]
   rw [Ia hja, hin]
   simp only [yt]
   rw [jn, hat]
   simp only [jb]
   rw [hset, hin]
   simp only [yt]
   rw [hat]
   simp only [jb]
   rw [hset, hin]
   simp only [yt]
   rw [hat]
   simp only [jb, Qy]
   rw [show ((Ts a e.1.1, Ts b e.1.2.1, e.2, ()) : Mm) = Qy a b e from rfl, hset]
   rw [HE h.tka hp.1 hja, HE h.tkb hp.2 hjb]
   simp only [jb]
   rw [Pe (by simp; omega), Pe (by simp; omega)]
   simp only [yt]
   rw [EE _ _ s1 t1 s2]
   simp only [jb]
   rw [show jf (jf ([] : List Int) e.2) [(j : Int)] = e.2 ++ [(j : Int)] from rfl]
   rw [show (!decide (An a e.1.1 j = An b e.1.2.1 j)) = Ul a b e.1 j from rfl]
   cases Ul a b e.1 j with
   | true => rfl
   | false =>
    simp only [yu]
    rw [LJ a b W (by omega)]
    simp only [jb]
    rw [show ((Py a e.1.1 j, Py b e.1.2.1 j, ()) : Nc) = Xg a b e.1 j from rfl, Fh (by omega) (by omega)]
    unfold Rp
    cases (Rd Nd W (Xg a b e.1 j)).isSome with
    | true => rfl
    | false =>
     simp only [Bool.not_false, yt, yu]
     rw [Pe (by rw [hlx]; simp; omega)]
     simp only [yt]
     rw [show jf (Ah a b W) [((Ts a (Py a e.1.1 j), Ts b (Py b e.1.2.1 j), e.2 ++ [(j : Int)], ()) : Mm)] = Ah a b (W ++ [(Xg a b e.1 j, e.2 ++ [(j : Int)])]) by
      unfold Ah
      rw [yl]; rfl]
     rfl
  unfold Ee
  refine (Ud hstep).trans ?_
  cases hd : Ul a b e.1 j with
  | true => simp only [Yp, hd, yt]; rfl
  | false =>
   have ih := DE h (i := i) e n (j + 1) (Rp (Xg a b) e.1 e.2 j W) (by omega) g1 (Nat.lt_of_lt_of_le hi g2.length_le) (hge _)
   unfold Ee at ih
   simp only [yu, jb, qe]
   refine ih.trans ?_
   have hit : Zg (fun q W => Rp (Xg a b) e.1 e.2 (j + 1 + q) W) n (Rp (Xg a b) e.1 e.2 j W) = Zg (fun q W => Rp (Xg a b) e.1 e.2 (j + q) W) (n + 1) W := by
    clear ih hj
    induction n with
    | zero => simp [Zg]
    | succ n ih2 =>
     rw [Zg, ih2]
     show _ = Rp (Xg a b) e.1 e.2 (j + (n + 1)) _
     rw [show j + 1 + n = j + (n + 1) by omega]
   simp only [Yp, hd, yu]
   rw [hit]
theorem EC {a b : Ea} (h : PF a b) : ∀ (n i : Nat) (W : Ng), ZB (Kw a b) W → 262145 ≤ n + i →
 Me (((), Ah a b W, (i : Int), ()), (a, ())) = some (match Qt (Xg a b) (Ul a b) a.1.toNat n i W with
  | some w => .inr ((w, true, ()), ())
  | none => .inl ((), ()))
 | n, i, W, hW, hn => by
  have hlen := Zv h hW
  have hlx : (Ah a b W).length = W.length := yi _
  by_cases hi : i < W.length
  ·obtain ⟨n', rfl⟩ : ∃ n', n = n' + 1 := ⟨n - 1, by omega⟩
   obtain ⟨e, he⟩ : ∃ e, W[i] = e := ⟨_, rfl⟩
   have hp : Kw a b e.1 := by rw [← he]; exact hW.ok _ (qf hi)
   have hln : e.2.length ≤ i := by rw [← he]; exact hW.ln i hi
   obtain ⟨g1, g2⟩ := XE (BJ h) hW hp hln hi a.1.toNat (jo _)
   have hb1 : Qt (Xg a b) (Ul a b) a.1.toNat (n' + 1) i W = match Yp (Ul a b) e.1 a.1.toNat 0 with
    | some k => some (e.2 ++ [(k : Int)])
    | none => Qt (Xg a b) (Ul a b) a.1.toNat n' (i + 1) (Gr (Xg a b) e.1 e.2 a.1.toNat W) := by
    rw [Qt, je hi, he]
    all_goals rfl
   rw [hb1]
   have hin := DE h (i := i) e a.1.toNat 0 W (by omega) hW hi he
   have hx : Zg (fun q W => Rp (Xg a b) e.1 e.2 (0 + q) W) a.1.toNat W = Gr (Xg a b) e.1 e.2 a.1.toNat W := by
    unfold Gr
    congr 1
    funext q W
    rw [js]
   rw [hx] at hin
   have hstep : Fi () (Ah a b W) (i : Int) a = some (match Yp (Ul a b) e.1 a.1.toNat 0 with
    | some k => .inr (.inr ((e.2 ++ [(k : Int)], true, ()), ()))
    | none => .inl (((), Ah a b (Gr (Xg a b) e.1 e.2 a.1.toNat W), ((i + 1 : Nat) : Int), ()), (a, ()))) := by
    simp only [Fi]
    rw [hlx, Ia (by omega)]
    simp only [yt]
    erw [hin]
    cases Yp (Ul a b) e.1 a.1.toNat 0 with
    | some k => rfl
    | none =>
     simp only [jb, qe]
     rw [Fh (by omega) (by omega)]; rfl
   unfold Me
   refine (Ud hstep).trans ?_
   cases hf : Yp (Ul a b) e.1 a.1.toNat 0 with
   | some k => rfl
   | none =>
    have ih := EC h n' (i + 1) _ g1 (by omega)
    unfold Me at ih
    exact ih
  ·have hb : Qt (Xg a b) (Ul a b) a.1.toNat n i W = none := by
    cases n with
    | zero => rfl
    | succ n => rw [Qt, qn (by omega)]
   rw [hb]
   unfold Me
   refine (Ud (z := some (.inr (.inl ((), ())))) ?_).trans rfl
   simp only [Fi]
   rw [hlx, Ja (by omega)]; rfl
theorem XL (m : Ea) (hz : Pb Oa m ≤ Na) : Bm m [] = some (cond (Ec m) (Cf m 0 0 false [], true, ()) (Qv, false, ())) := by
 have h20 : Na = 1048576 := rfl
 have hs : Pb Gb (Cf m 0 0 false []) ≤ Na := by rw [NR]; simpa using hz
 unfold Bm
 have h1 : Yf (m, ([] : List (List Be)), (0 : Int), ([] : List Qa), (0 : Int), false, ()) = some (Ec m, ()) := by
  have h := Nh (Cf m 0 0 false []) hs
  have he : Et (Cf m 0 0 false []) = Ec m := by
   cases hm : Ec m with
   | true => exact Wt hm (HK (TP hm)) false Gy (by simp)
   | false => unfold Et; simp [Cf, hm]
  rw [he] at h
  exact h
 rw [h1]
 cases hm : Ec m with
 | true =>
  simp only [jb, jg, yu, yt]
  have := Ar (Cf m 0 0 false []) hs
  unfold Cf at this
  rw [this]
  rfl
 | false => rfl
theorem RB (a b : Ea) (ha : Pb Oa a ≤ Na) (hb : Pb Oa b ≤ Na) : Nl a b = some (WE a b) := by
 unfold Nl WE MG
 rw [XL a ha, XL b hb]
 cases h1 : Ec a with
 | false => rfl
 | true =>
  simp only [jb, jg, yu, yt, jk]
  cases h2 : Ec b with
  | false => rfl
  | true =>
   simp only [jg, yu, yt, jk]
   by_cases hk : a.1 = b.1
   ·rw [show (a.1 != b.1) = false by simp [hk], show (a.1 == b.1) = true by simp [hk]]
    simp only [yu, jk]
    by_cases h6 : a.1 > 6
    ·rw [Ia h6]; rfl
    ·rw [Ja h6]
     simp only [yu, Bool.not_false, yt]
     have hT := J0 h1 h2 hk
     have := EC hT 262145 0 [(ON, [])] (UT hT) (by omega)
     erw [this]
     show jz (some (match GI a b with | some w => Sum.inr ((w, true, ()), ()) | none => Sum.inl ((), ()))) _ = _
     cases GI a b <;> rfl
   ·rw [show (a.1 != b.1) = true by simp [hk], show (a.1 == b.1) = false by simp [hk]]; rfl
theorem MH (a b : Ea) (ha : Pb Oa a ≤ Na) (hb : Pb Oa b ≤ Na) : Wn a b = some (MG a b && !(WE a b).2.1, ()) := by
 unfold Wn MG
 rw [RB a b ha hb, Cn a ha, Cn b hb]
 cases Ec a with
 | false => rfl
 | true =>
  simp only [jb, yt, jk]
  cases Ec b with
  | false => rfl
  | true =>
   simp only [yt, jk]
   cases a.1 == b.1 with
   | false => rfl
   | true =>
    simp only [yt, jk]
    by_cases h6 : a.1 > 6
    ·rw [Ia h6, Ja (show ¬ a.1 ≤ 6 by omega)]; rfl
    ·rw [Ja h6, Ia (show a.1 ≤ 6 by omega)]; rfl
theorem UG (a b : Ea) (ha : Pb Oa a ≤ Na) (hb : Pb Oa b ≤ Na) : On a b = some (MG a b && !(WE a b).2.1, ()) := by
 unfold On MG
 rw [AB a b ha hb, Rm a ha, Rm b hb]
 cases Ec a with
 | false => rfl
 | true =>
  simp only [jb, jg, yu, jk]
  cases Ec b with
  | false => rfl
  | true =>
   simp only [jg, yu, jk, bne]
   cases a.1 == b.1 with
   | false => rfl
   | true =>
    simp only [jg, yu, jk]
    by_cases h6 : a.1 > 6
    ·rw [Ia h6]; rfl
    ·rw [Ja h6]; rfl
theorem DM (a b : Ea) (_ : Nt Oa a) (_ : Nt Oa b) (ha : Pb Oa a ≤ Na) (hb : Pb Oa b ≤ Na) :
 ∃ w0, Wn a b = some (w0, ()) ∧ On a b = some (w0, ()) := ⟨_, MH a b ha hb, UG a b ha hb⟩
theorem QP (a0 : Ea) (a1 : Ea) (hr0 : Nt Oa a0) (hr1 : Nt Oa a1) : Ui a0 a1 = some (true, ()) := by
 have h20 : Na = 1048576 := rfl
 have h40 : Fv = 1099511627776 := rfl
 unfold Ui
 have s0 := EG a0 hr0 (1048576) (by omega)
 rw [show ((1048576 : Nat) : Int) = 1048576 from rfl] at s0
 rw [s0]
 simp only [jb]
 by_cases z0 : Pb Oa a0 ≤ 1048576
 case neg => rw [Dw z0]; rfl
 rw [Wx z0, Ja (by omega)]
 simp only [yu]
 have s1 := EG a1 hr1 (1048576 - Pb Oa a0) (by omega)
 rw [s1]
 simp only [jb]
 by_cases z1 : Pb Oa a1 ≤ 1048576 - Pb Oa a0
 case neg => rw [Dw z1]; rfl
 rw [Wx z1, Ja (by omega)]
 simp only [yu]
 have hz0 : Pb Oa a0 ≤ Na := by omega
 have hz1 : Pb Oa a1 ≤ Na := by omega
 obtain ⟨w0, e1, e2⟩ := DM a0 a1 hr0 hr1 hz0 hz1
 simp only [e1, e2, FG a0 hz0, SF a0 (by omega), FG a1 hz1, SF a1 (by omega), jb, bne_self_eq_false', bne_self_eq_false, jg, yu]
end KF
