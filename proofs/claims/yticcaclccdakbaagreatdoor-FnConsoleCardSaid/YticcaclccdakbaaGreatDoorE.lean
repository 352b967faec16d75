/- An evaluator of Go functions on plain data, its soundness, and plain laws on what the functions compute, part 5 (conditions: as each lemma tells). -/
import Derived.Test.YticcaclccdakbaaGreatDoorD
set_option linter.unusedSimpArgs false
set_option linter.unusedVariables false
namespace KF
open Go
open List renaming length → ja, getElem?_eq_getElem → je, append → jf, mem_append → jl, mem_cons → jp, mem_cons_of_mem → jr, length_cons → jw, set → j6, length_nil → j7, mem_singleton → qc, length_append → qd, getD_eq_getElem?_getD → qf, getElem_mem → qi, getElem_of_mem → qj, mem_map → qk, length_drop → ql, ext_getElem? → qp, drop_drop → qq, toArray → qr, getD → qs, getElem?_eq_none → qt, mem_append_left → qu, mem_append_right → qv, any_eq_true → qy, append_assoc → q0, eq_nil_of_length_eq_zero → q7, getElem?_eq_some_iff → q8, length_eq_one_iff → q9, replicate → yd, cons_append → yg, map_cons → yi, nodup_cons → yk, nodup_append → yl, size_toArray → ym, flatten_cons → yn, length_map → yp, mem_map_of_mem → yt, map_append → yu, all_eq_true → yv, append_nil → yw, range → yy, map → za, append_eq → zb, not_mem_nil → zd
open Option renaming bind_some → jb, bind → jz, map_some → qb, bind_eq_some_iff → qe, getD_some → qz, map_eq_some_iff → yx
open Option.some renaming injEq → jc, inj → y3
open Bool renaming and_eq_true → jd, not_true → jg, true_and → jk, false_eq_true → jq, not_false → j8, not_eq_true → j9, eq_iff_iff → qm, or_eq_true → qx, not_eq_true' → yj, or_eq_false_iff → yq, false_or → yr
open Prod.mk renaming injEq → jh
open Nat renaming ble_eq_true_of_le → ji, mul_le_mul_right → jm, le_refl → jo, zero_add → js, add_assoc → jt, eq_of_beq_eq_true → ju, ble → jx, le_trans → qa, lt_of_lt_of_le → qh, beq → qw, le_of_ble_eq_true → q6, add_zero → ya, blt → yb, blt_eq → ye, add_mul → yf, succ_mul → yo
open Int renaming toNat_natCast → jn, eq_ofNat_of_zero_le → jv, toNat → jy, tmod → yc
open Go.IntKind renaming wrap → j4, wrap → j5
open Sum renaming elim_inl → qg
open Result renaming andThen_ok → qn
open Sem renaming run_bind → qo
open List.cons renaming injEq → yh
open Sum.inl renaming injEq → yz
theorem TV {a : Nat} (ha : a < 2 ^ 63) (x : Ma) : Ms (a : Int) x = true ↔ Iu x ∧ a.testBit x.1.toNat = false := by
 constructor
 ·intro h
  obtain ⟨h1, h2⟩ := Fah h
  refine ⟨h1, ?_⟩
  have hx : x.1 = ((x.1.toNat : Nat) : Int) := (Int.toNat_of_nonneg h1.lo).symm
  have := YG (a := a) (k := x.1.toNat) ha (by have := h1.hi; omega)
  rw [← hx] at this
  rw [← this]
  simp [h2]
 ·rintro ⟨h1, h2⟩
  have hx : x.1 = ((x.1.toNat : Nat) : Int) := (Int.toNat_of_nonneg h1.lo).symm
  have := YG (a := a) (k := x.1.toNat) ha (by have := h1.hi; omega)
  rw [← hx, h2] at this
  simp only [Ms, jd, decide_eq_true_eq, yj, beq_eq_false_iff_ne]
  exact ⟨⟨h1.lo, h1.hi⟩, by rw [beq_eq_false_iff_ne] at this; exact this, h1.act, h1.n1, h1.n6, h1.n7⟩
theorem DR : ∀ (l : List Ma) (k a : Nat), a < 2 ^ 63 → (Is (Ob (fun _ s x => Kt s x) k (a : Int) l) = true ↔
 (∀ x ∈ l, Iu x ∧ a.testBit x.1.toNat = false) ∧ l.Pairwise (fun x y => x.1 ≠ y.1))
 | [], k, a, ha => by simp [Ob, Is]
 | y :: l, k, a, ha => by
  simp only [Ob]
  cases hc : Ms (a : Int) y with
  | false =>
   rw [show Kt (a : Int) y = .inr () by unfold Kt; rw [hc]; rfl]
   simp only [Is, jq, false_iff]
   rintro ⟨h, _⟩
   have := (TV ha y).2 (h y (List.mem_cons_self ..))
   rw [hc] at this; cases this
  | true =>
   rw [show Kt (a : Int) y = .inl (Xe .i64 (a : Int) (Ke .i64 1 y.1)) by unfold Kt; rw [hc]; rfl]
   simp only []
   obtain ⟨hy, hb⟩ := (TV ha y).1 hc
   have h1 := hy.lo; have h2 := hy.hi
   have hyx : y.1 = ((y.1.toNat : Nat) : Int) := (Int.toNat_of_nonneg h1).symm
   have e : Xe .i64 (a : Int) (Ke .i64 1 y.1) = ((a ||| 2 ^ y.1.toNat : Nat) : Int) := by
    conv => lhs; rw [hyx]
    rw [Uu (by omega), HX ha (NB (by omega))]
   rw [e, DR l (k + 1) _ (Nat.or_lt_two_pow ha (NB (by omega)))]
   have tb : ∀ n, (a ||| 2 ^ y.1.toNat).testBit n = false ↔ a.testBit n = false ∧ y.1.toNat ≠ n := by
    intro n
    rw [Nat.testBit_or, Nat.testBit_two_pow, yq, decide_eq_false_iff_not]
   simp only [jp, List.pairwise_cons, forall_eq_or_imp]
   constructor
   ·rintro ⟨h, hp⟩
    refine ⟨⟨⟨hy, hb⟩, fun x hx => ⟨(h x hx).1, ((tb _).1 (h x hx).2).1⟩⟩, fun x hx hxy => ?_, hp⟩
    exact ((tb _).1 (h x hx).2).2 (by rw [hxy])
   ·rintro ⟨⟨_, h⟩, hq, hp⟩
    refine ⟨fun x hx => ⟨(h x hx).1, (tb _).2 ⟨(h x hx).2, fun hn => hq x hx ?_⟩⟩, hp⟩
    have := (h x hx).1.lo
    omega
theorem IH (l : List Ma) : Oe l = true ↔ (∀ x ∈ l, Iu x) ∧ l.Pairwise (fun x y => x.1 ≠ y.1) := by
 have := DR l 0 0 (by decide)
 unfold Oe C2
 erw [this]
 simp
theorem Waf {l : List Ma} (h : Oe l = true) {x : Ma} (hx : Iu x) (hn : ∀ y ∈ l, y.1 ≠ x.1) : Oe (jf l [x]) = true := by
 rw [IH] at h ⊢
 obtain ⟨h1, h2⟩ := h
 refine ⟨fun y hy => ?_, ?_⟩
 ·rcases jl.1 (show y ∈ l ++ [x] from hy) with hy | hy
  ·exact h1 y hy
  ·rw [qc.1 hy]; exact hx
 ·show (l ++ [x]).Pairwise _
  rw [List.pairwise_append]
  exact ⟨h2, List.pairwise_singleton _ _, fun y hy z hz => by rw [qc.1 hz]; exact hn y hy⟩
theorem D4 {l r : List Ma} (h : Oe l = true) (hs : r.Sublist l) : Oe r = true := by
 rw [IH] at h ⊢
 exact ⟨fun y hy => h.1 y (hs.subset hy), h.2.sublist hs⟩
theorem WS : ∀ (n : Nat) (l : List Nat), l.Nodup → (∀ x ∈ l, x < n) → l.length ≤ n
 | 0, l, _, h => by
  cases l with
  | nil => exact jo _
  | cons x l => exact absurd (h x (List.mem_cons_self ..)) (Nat.not_lt_zero _)
 | n + 1, l, hn, h => by
  have := WS n (l.erase n) (hn.erase n) (fun x hx => by
   have h1 := (hn.mem_erase_iff).1 hx
   have := h x h1.2
   have := h1.1
   omega)
  have h2 := List.length_erase (a := n) (l := l)
  split at h2 <;> omega
theorem Mx {l : List Ma} (h : Oe l = true) : l.length ≤ 32 := by
 rw [IH] at h
 have hn : (l.map fun x => x.1.toNat).Nodup := by
  rw [List.Nodup, List.pairwise_map]
  refine (List.Pairwise.and_mem.1 h.2).imp ?_
  rintro x y ⟨hx, hy, hxy⟩ he
  have h1 := (h.1 x hx).lo; have h2 := (h.1 y hy).lo
  omega
 have hs : ∀ y ∈ (l.map fun x => x.1.toNat), y < 32 := by
  intro y hy
  obtain ⟨x, hx, rfl⟩ := qk.1 hy
  have := (h.1 x hx).hi; have := (h.1 x hx).lo
  omega
 have := WS 32 _ hn hs
 simpa using this
structure Hm (e : Qb) : Prop where
 km : Gc e.1 = true
 m4 : e.2.1.length ≤ 4
 hd : Oe e.2.2.2.1 = true
 mac : ∀ x ∈ e.2.1, Vc x = true
 hin : ∀ x ∈ e.2.2.2.1, Qi e.1.1 e.1.2.1.length x = true
 st : Yk e.1.2.1.length e.2.2.1 e.2.2.2.2.1
theorem YR {α : Type} {p : α → Bool} {l : List α} : Ae (fun _ x => p x) 0 l = true ↔ ∀ x ∈ l, p x = true := by
 rw [Fp]
 constructor
 ·intro h x hx
  obtain ⟨i, hi, rfl⟩ := qj hx
  exact h i hi
 ·intro h j hj
  exact h _ (qi hj)
theorem RG (e : Qb) : Ag e = true ↔ Hm e := by
 unfold Ag
 simp only [jd, decide_eq_true_eq, beq_iff_eq, YR]
 constructor
 ·rintro ⟨h1, h2, h3, h4, h5, h6, h7, h8⟩
  exact ⟨h1, h2, h3, h4, h5, ⟨h6.1, h6.2, h7, h8.1, h8.2⟩⟩
 ·rintro ⟨h1, h2, h3, h4, h5, h6⟩
  exact ⟨h1, h2, h3, h4, h5, ⟨h6.f0, h6.f1⟩, h6.f2, h6.o0, h6.o1⟩
theorem Rac {e : Qb} (h : Hm e) : Eb Rc e ≤ Ka - 5 := by
 have h20 : Ka = 1048576 := rfl
 have h1 := (RH h.km).z
 have hh := Mx h.hd
 have h2 : Eb (.sl (.sl Kd)) e.2.1 ≤ (8 + 1) * e.2.1.length := QG (e := .sl Kd) (c := 8) fun x hx => by
  have := h.mac x hx
  simp only [Vc, jd, decide_eq_true_eq] at this
  have e2 : Eb (.sl Kd) x = x.length := Yq (e := Kd) rfl x
  omega
 have := h.m4
 have hm := Hd h.km
 have h3 : Eb Ua e.1 ≤ 200 := by
  have h1 : Eb Ua e.1 = 0 + (Eb (.sl (.sl Bc)) e.1.2.1 + 0) := rfl
  have h2 : Eb (.sl (.sl Bc)) e.1.2.1 ≤ (32 + 1) * ja e.1.2.1 := QG (e := .sl Bc) (c := 32) fun x hx => by
   obtain ⟨i, hi, rfl⟩ := qj hx
   rw [KP]
   have := hm.row i hi
   have := hm.k2
   omega
  have := hm.l2
  omega
 rw [Bl, Xu]
 omega
noncomputable def I5 (e : Qb) (k : Nat) (b : Bool) : Ga :=
 cond b (WK (Ph e.1.2.1 (Kf e.1 (Pj e.2.2.1 e.2.2.2.1) k) k)) (SE (Ph e.1.2.1 (Kf e.1 (Pj e.2.2.1 e.2.2.2.1) k) k))
noncomputable def Pl (e : Qb) (k : Nat) (b : Bool) : Int × Int × Bool × Ga := QB e.2.2.1 e.2.2.2.2.1 e.2.2.2.2.2.1 (I5 e k b)
noncomputable def pH (e : Qb) (k : Nat) (b : Bool) : List Ma := jf e.2.2.2.1 [((k : Int), (Pl e k b).2.2.2, ())]
noncomputable def pE (e : Qb) (k : Nat) (b : Bool) : Qb := (e.1, e.2.1, (Pl e k b).1, pH e k b, (Pl e k b).2.1, (Pl e k b).2.2.1, ())
noncomputable def pM (e : Qb) (k : Nat) (b : Bool) : List Ca :=
 cond ((Pl e k b).2.2.2.1 == 9) (cond (decide ((Pl e k b).2.2.2.2.2.2.1 < ((ja e.2.1 : Nat) : Int))) (DL (Qc (pH e k b)) (e.2.1.getD (Pl e k b).2.2.2.2.2.2.1.toNat [])) []) []
noncomputable def pR (e : Qb) (k : Nat) (b : Bool) : List Ca := Zz Tz (Qc e.2.2.2.1) (jf (pM e k b) [Qc (pH e k b)])
theorem Taj {nl i : Nat} {a : Ga} (h : Tf nl i a = true) (h1 : a.1 ≠ 1) : PJ nl (WK a) := by
 have ha := MB h
 have hP := ha
 rw [Db] at hP
 unfold Nb at hP
 unfold WK Mf
 rw [ha]
 by_cases h67 : a.1 = 6 ∨ a.1 = 7
 ·have e : (true && ((a.1 == 6) || (a.1 == 7))) = true := by rcases h67 with h | h <;> rw [h] <;> rfl
  rw [e]
  have hn := FL h (by omega)
  rcases h67 with h6 | h7
  ·rw [h6]
   refine ⟨?_, by show (2 : Int) ≠ 1; decide, by show (2 : Int) ≠ 6; decide, by show (2 : Int) ≠ 7; decide, fun _ => ?_⟩
   ·rw [Db]
    exact .inr (.inl ⟨rfl, rfl, .inl rfl, .inr (by show 1 ≤ a.2.2.1 ∧ a.2.2.1 ≤ 15; omega), .inr (by show a.2.2.1 ≠ 0; omega)⟩)
   ·show (0 : Int) < (nl : Int)
    omega
  ·rw [h7]
   refine ⟨?_, by show (3 : Int) ≠ 1; decide, by show (3 : Int) ≠ 6; decide, by show (3 : Int) ≠ 7; decide, fun _ => hn⟩
   rw [Db]
   exact .inr (.inr (.inl ⟨.inl rfl, rfl, rfl, by show 1 ≤ a.2.2.2.1; omega, by show a.2.2.2.1 ≤ 3; omega⟩))
 ·have e : (true && ((a.1 == 6) || (a.1 == 7))) = false := by
   rw [jk, yq, beq_eq_false_iff_ne, beq_eq_false_iff_ne]; omega
  rw [e]
  exact ⟨ha, h1, fun h => h67 (.inl h), fun h => h67 (.inr h), fun hk => FL h hk⟩
structure Oae (e : Qb) (k : Nat) (b : Bool) : Prop where
 act : PJ e.1.2.1.length (I5 e k b)
 ah : PJ e.1.2.1.length (Pl e k b).2.2.2
 hd : Oe (pH e k b) = true
 ok : Hm (pE e k b)
 ml : (pM e k b).length ≤ 16
 mx : ∀ x ∈ pM e k b, x.2.1.length ≤ 56
theorem VX {e : Qb} (h : Hm e) {k : Nat} (hk : (k : Int) < e.1.1) (hn : ∀ y ∈ e.2.2.2.1, y.1 ≠ (k : Int)) (b : Bool) : Oae e k b := by
 have hm := Hd h.km
 have h1 := GZ hm (Pj e.2.2.1 e.2.2.2.1) hk
 have h2 : PJ e.1.2.1.length (I5 e k b) := by
  cases b
  ·exact Jaa h1.1 h1.2
  ·exact Taj h1.1 h1.2
 have h3 := Sah (c := e.2.2.2.2.2.1) hm.l2 h.st h2
 have h4 : Oe (pH e k b) = true := Waf h.hd (x := ((k : Int), (Pl e k b).2.2.2, ())) ⟨by show (0 : Int) ≤ (k : Int); omega, by have := hm.k2; show (k : Int) ≤ 31; omega, h3.2.act, h3.2.n1, h3.2.n6, h3.2.n7⟩ hn
 refine ⟨h2, h3.2, h4, ⟨h.km, h.m4, h4, h.mac, fun x hx => ?_, h3.1⟩, ?_, ?_⟩
 ·rcases jl.1 (show x ∈ e.2.2.2.1 ++ [((k : Int), (Pl e k b).2.2.2, ())] from hx) with hx | hx
  ·exact h.hin x hx
  ·simp only [jp, zd, or_false] at hx
   subst hx
   simp only [Qi, jd, yj, Bool.and_eq_false_iff, decide_eq_false_iff_not]
   refine ⟨by show ¬ (k : Int) ≥ e.1.1; omega, ?_⟩
   by_cases h9 : (Pl e k b).2.2.2.1 = 9
   ·exact .inl (by show ((Pl e k b).2.2.2.1 != 9) = false; simp [h9])
   ·exact .inr (Int.not_le.2 (h3.2.n h9))
 all_goals
  unfold pM
  cases (Pl e k b).2.2.2.1 == 9 with
  | false => simp
  | true =>
   simp only [ze]
   by_cases hl : (Pl e k b).2.2.2.2.2.2.1 < ((ja e.2.1 : Nat) : Int)
   ·rw [Aa hl]
    have h0 := UL h3.2.act
    have hmem : (e.2.1.getD (Pl e k b).2.2.2.2.2.2.1.toNat []) ∈ e.2.1 := by
     have hlt : (Pl e k b).2.2.2.2.2.2.1.toNat < e.2.1.length := by
      have : (0 : Int) ≤ (Pl e k b).2.2.2.2.2.2.1 := h0
      omega
     rw [qf, je hlt, qz]
     exact qi hlt
    have hmc := h.mac _ hmem
    simp only [Vc, jd, decide_eq_true_eq] at hmc
    have := X4 (Qc (pH e k b)) (e.2.1.getD (Pl e k b).2.2.2.2.2.2.1.toNat []) 0 ([], []) (by simp)
    simp only [ze]
    unfold DL
    first
     | exact this.2
     | (have h5 := this.1; simp only [j7] at h5; omega)
   ·rw [Ba hl]; simp
theorem Wad {β : Type} (MR : List Ma → List Lb → Option ((List Ca) × Unit)) (RO : List Ma → Option (Ca × Unit)) (CH : Ca → List Ca → Option ((List Ca) × Unit)) (K : List Ca → Option β)
 (hMR : ∀ a l, a.length ≤ Ka → Oe a = true → Vc l = true → MR a l = some (DL (Qc a) l, ()))
 (hRO : ∀ l, l.length ≤ Ka → Oe l = true → RO l = some (Qc l, ()))
 (hCH : ∀ (a : Ca) (l : List Ca), l.length ≤ Ka → a.2.1.length ≤ Ka → (∀ x ∈ l, x.2.1.length ≤ Ka) → CH a l = some (Zz Tz a l, ()))
 {e : Qb} (h : Hm e) {k : Nat} {b : Bool} (F : Oae e k b) :
 (cond (jx (ja e.2.2.2.1 + ja ([((k : Int), (Pl e k b).2.2.2, ())] : List Ma)) Oa)
  (cond ((Pl e k b).2.2.2.1 == (9 : Int))
   (cond (decide ((Pl e k b).2.2.2.2.2.2.1 < ((ja e.2.1 : Nat) : Int)))
    (jz (Hc e.2.1 (Pl e k b).2.2.2.2.2.2.1) fun x8 => jz (MR (pH e k b) x8) fun r9 => jz (RO (pH e k b)) fun r10 =>
     cond (jx (ja r9.1 + ja ([r10.1] : List Ca)) Oa) (jz (RO e.2.2.2.1) fun r11 => jz (CH r11.1 (jf r9.1 ([r10.1] : List Ca))) fun r12 => K r12.1) none)
    (jz (RO (pH e k b)) fun r13 => cond (jx (ja ([] : List Ca) + ja ([r13.1] : List Ca)) Oa)
     (jz (RO e.2.2.2.1) fun r14 => jz (CH r14.1 (jf ([] : List Ca) ([r13.1] : List Ca))) fun r15 => K r15.1) none))
   (jz (RO (pH e k b)) fun r16 => cond (jx (ja ([] : List Ca) + ja ([r16.1] : List Ca)) Oa)
    (jz (RO e.2.2.2.1) fun r17 => jz (CH r17.1 (jf ([] : List Ca) ([r16.1] : List Ca))) fun r18 => K r18.1) none))
  none) = K (pR e k b) := by
 have h20 : Ka = 1048576 := rfl
 have hlim := Vh
 have hl1 := Mx h.hd
 have hl2 := Mx F.hd
 have R1 := hRO (pH e k b) (by omega) F.hd
 have R0 := hRO e.2.2.2.1 (by omega) h.hd
 have hr : ∀ r : Ca, jx (ja ([] : List Ca) + ja ([r] : List Ca)) Oa = true := fun r => ji (by simp only [jw, j7]; omega)
 rw [show jx (ja e.2.2.2.1 + ja ([((k : Int), (Pl e k b).2.2.2, ())] : List Ma)) Oa = true from ji (by simp only [jw, j7]; omega)]
 have plain : pM e k b = [] → (jz (RO (pH e k b)) fun r13 => cond (jx (ja ([] : List Ca) + ja ([r13.1] : List Ca)) Oa)
  (jz (RO e.2.2.2.1) fun r14 => jz (CH r14.1 (jf ([] : List Ca) ([r13.1] : List Ca))) fun r15 => K r15.1) none) = K (pR e k b) := by
  intro hm
  rw [R1, R0]
  simp only [jb]
  rw [hr, hCH _ _ (by simp; omega) (HQ _) (fun x hx => by rw [qc.1 (show x ∈ [Qc (pH e k b)] from hx)]; exact HQ _)]
  simp only [ze, jb]
  unfold pR
  rw [hm]
 simp only [ze]
 cases h9 : (Pl e k b).2.2.2.1 == (9 : Int) with
 | false => exact plain (by unfold pM; rw [h9]; rfl)
 | true =>
  simp only [ze]
  by_cases hl : (Pl e k b).2.2.2.2.2.2.1 < ((ja e.2.1 : Nat) : Int)
  ·rw [Aa hl]
   simp only [ze]
   have h0 : (0 : Int) ≤ (Pl e k b).2.2.2.2.2.2.1 := UL F.ah.act
   have hlt : (Pl e k b).2.2.2.2.2.2.1.toNat < e.2.1.length := by omega
   have hi : Hc e.2.1 (Pl e k b).2.2.2.2.2.2.1 = some e.2.1[(Pl e k b).2.2.2.2.2.2.1.toNat] := by
    have := Ec (xs := e.2.1) hlt
    rw [Int.toNat_of_nonneg h0] at this
    exact this
   have hM : pM e k b = DL (Qc (pH e k b)) e.2.1[(Pl e k b).2.2.2.2.2.2.1.toNat] := by
    unfold pM
    rw [h9, Aa hl, qf, je hlt, qz]
    rfl
   have ml := F.ml
   have mx := F.mx
   rw [hi]
   simp only [jb]
   rw [hMR _ _ (by omega) F.hd (h.mac _ (qi hlt)), R1, R0, ← hM]
   simp only [jb]
   rw [show jx (ja (pM e k b) + ja ([Qc (pH e k b)] : List Ca)) Oa = true from ji (by simp only [jw, j7]; omega)]
   simp only [ze]
   rw [hCH _ _ (by show (pM e k b ++ [Qc (pH e k b)]).length ≤ _; simp; omega) (HQ _) (fun x hx => by
    rcases jl.1 (show x ∈ pM e k b ++ [Qc (pH e k b)] from hx) with hx | hx
    ·have := mx x hx; omega
    ·rw [qc.1 hx]; exact HQ _)]
   rfl
  ·rw [Ba hl]
   exact plain (by unfold pM; rw [h9, Ba hl]; rfl)
theorem GX {e : Qb} (h : Hm e) {k : Nat} (hk : (k : Int) < e.1.1) (hn : ∀ y ∈ e.2.2.2.1, y.1 ≠ (k : Int)) (b : Bool) :
 Th e (k : Int) b = some (pE e k b, pR e k b, ()) := by
 have h20 : Ka = 1048576 := rfl
 have hm := Hd h.km
 have F := VX h hk hn b
 have hz := Rac h
 have hle := Mx h.hd
 have hl := Ww hm (Pj e.2.2.1 e.2.2.2.1) k
 have hrow := hm.row _ hl
 have tail := Wad Oj Cd Je (fun r => some (pE e k b, r, ())) FM Wn TI h F
 unfold Th
 rw [Vp _ (by omega), TC (Sat hm.l2 h.st) _ (by omega) h.hd]
 simp only [jb]
 rw [HB hm _ hk]
 simp only [jb]
 show jz (Hc e.1.2.1 ((Kf e.1 (Pj e.2.2.1 e.2.2.2.1) k : Nat) : Int)) _ = _
 rw [AX hl (by omega)]
 cases b with
 | true =>
  simp only [ze]
  rw [DX]
  simp only [jb]
  show jz (Tq (e.1, e.2.1, e.2.2.1, e.2.2.2.1, e.2.2.2.2.1, e.2.2.2.2.2.1, ()) (I5 e k true)) _ = _
  rw [BL _ _ _ _ _ _ _ F.act.act]
  simp only [jb]
  exact tail
 | false =>
  simp only [zf]
  rw [ZZ]
  simp only [jb]
  show jz (Tq (e.1, e.2.1, e.2.2.1, e.2.2.2.1, e.2.2.2.2.1, e.2.2.2.2.2.1, ()) (I5 e k false)) _ = _
  rw [BL _ _ _ _ _ _ _ F.act.act]
  simp only [jb]
  exact tail
theorem Vac {l : List Ma} {k : Int} : Vd (fun h : Ma => h.1 == k) 0 l = -1 ↔ ∀ y ∈ l, y.1 ≠ k := by
 have key : ∀ (l : List Ma) (n : Nat), Vd (fun h : Ma => h.1 == k) n l = -1 ↔ ∀ y ∈ l, y.1 ≠ k := by
  intro l
  induction l with
  | nil => intro n; simp [Vd]
  | cons x l ih =>
   intro n
   simp only [Vd]
   cases hx : x.1 == k with
   | true =>
    simp only [ze, jp, forall_eq_or_imp]
    have hx := eq_of_beq hx
    constructor
    ·intro h; omega
    ·intro h; exact absurd hx h.1
   | false =>
    simp only [zf, jp, forall_eq_or_imp]
    rw [ih]
    exact ⟨fun h => ⟨beq_eq_false_iff_ne.1 hx, h⟩, fun h => h.2⟩
 exact key l 0
def wo (l : List Ma) (i : Nat) : List Ma := jf (l.take i) (l.drop (i + 1))
theorem F6 (l : List Ma) (i : Nat) : (wo l i).Sublist l := by
 have h : (l.drop (i + 1)).Sublist (l.drop i) := List.drop_sublist_drop_left l (Nat.le_succ i)
 have h2 := List.Sublist.append (List.Sublist.refl (l.take i)) h
 rw [List.take_append_drop] at h2
 exact h2
def rE (e : Qb) (i : Nat) : Qb := (e.1, e.2.1, e.2.2.1, wo e.2.2.2.1 i, e.2.2.2.2)
def rR (e : Qb) (i : Nat) : List Ca := Zz Tz (Qc e.2.2.2.1) [Qc (wo e.2.2.2.1 i)]
theorem Hao {e : Qb} (h : Hm e) (i : Nat) : Hm (rE e i) :=
 ⟨h.km, h.m4, D4 h.hd (F6 _ i), h.mac, fun x hx => h.hin x ((F6 _ i).subset hx), h.st⟩
theorem Lat {α : Type} (l : List α) (i : Nat) : Xa l (jy (0 : Int)) (jy (i : Int)) = l.take i := by
 simp [Xa]
theorem Kat {α : Type} (l : List α) (i : Nat) : Xa l (jy ((i + 1 : Nat) : Int)) (jy ((ja l : Nat) : Int)) = l.drop (i + 1) := by
 simp [Xa]
theorem QS {e : Qb} (h : Hm e) {k : Int} {i : Nat} (hi : i < e.2.2.2.1.length) (hf : Vd (fun h : Ma => h.1 == k) 0 e.2.2.2.1 = (i : Int)) :
 Sw e k = some (rE e i, rR e i, ()) := by
 have h20 : Ka = 1048576 := rfl
 have hlim := Vh
 have hz := Rac h
 have hle := Mx h.hd
 have hw := D4 h.hd (F6 e.2.2.2.1 i)
 have hwl := Mx hw
 unfold Sw
 rw [Vp _ (by omega), CX _ _ (by omega), hf]
 simp only [jb]
 rw [Af (by omega)]
 rw [Lat, Kat]
 rw [show Jd (ja e.2.2.2.1) (0 : Int) ((i : Nat) : Int) = true from Al (lo := 0) (by omega) (by omega), Al (by omega) (by omega)]
 rw [show jx (ja (e.2.2.2.1.take i) + ja (e.2.2.2.1.drop (i + 1))) Oa = true from ji (by simp; omega)]
 simp only [ze]
 rw [Wn _ (by omega) h.hd]
 simp only [jb]
 show jz (Cd (wo e.2.2.2.1 i)) _ = _
 rw [Wn _ (by omega) hw]
 simp only [jb]
 rw [TI _ _ (by simp; omega) (HQ _) (fun x hx => by rw [qc.1 hx]; exact HQ _)]
 rfl
def OU (md key e : Int) (s : Int) (x : Wa) : Int ⊕ (Int × Int) :=
 cond (Ni x) (cond (decide (x.1 ≥ e)) (.inr (2, e)) (cond (x.2.1 == key) (cond x.2.2.1 (.inl s) (.inr (1, x.1)))
  (cond x.2.2.1 (cond (md == 1) (.inr (2, x.1)) (.inl (Xe .i64 s (Ke .i64 1 x.2.1))))
   (cond (md == 2) (cond (Gk s x.2.1 == 1) (.inr (2, x.1)) (.inl s)) (.inl s))))) (.inr (0, 0))
def chR (md key e : Int) (l : List Wa) : Int ⊕ (Int × Int) := Ob (fun _ s x => OU md key e s x) 0 0 l
def Qh (t : HC) (key at_ : Int) (l : List Wa) (til : Int) : Yb :=
 cond (Ti t && decide (0 ≤ at_ ∧ at_ ≤ 1000000)) (match chR t.2.2.1 key (j5 .i64 (at_ + t.1)) l with
  | .inl _ => cond (decide (til ≥ j5 .i64 (at_ + t.1))) (2, j5 .i64 (at_ + t.1), ()) (0, 0, ())
  | .inr r => (r.1, r.2, ())) (0, 0, ())
theorem MS (t : HC) (key at_ : Int) (l : List Wa) (til : Int) (hn : l.length ≤ Ka) : Nu t key at_ l til = some (Qh t key at_ l til) := by
 have h20 : Ka = 1048576 := rfl
 have hl := Tg (step := fun x => Br x.1.1 x.1.2.1 x.1.2.2.1 x.1.2.2.2.1 x.1.2.2.2.2.1 x.1.2.2.2.2.2.1 x.1.2.2.2.2.2.2.1 x.1.2.2.2.2.2.2.2.1 x.2.1) l
  (fun _ s x => OU t.2.2.1 key (j5 .i64 (at_ + t.1)) s x) (fun s i => ((key, at_, til, (), s, l, ((ja l : Nat) : Int), i, ()), (t, ())))
  (fun s => .inl ((at_, til, (), ()), (t, ()))) (fun r => .inr ((r.1, r.2, ()), ())) (fun _ _ => True) (by
   intro k hk s _
   refine ⟨?_, fun _ _ => trivial⟩
   simp only [Br]
   rw [Aa (show (k : Int) < ((ja l : Nat) : Int) by omega), Ec hk]
   simp only [ze, jb]
   rw [VI]
   unfold OU
   cases he : Ni l[k] with
   | false => rfl
   | true =>
    have hk' := Gp he
    rw [Aa hk'.2.2.1, VD s hk'.2.2.1]
    simp only [ze, jb, jg, zf]
    cases decide (l[k].1 ≥ j5 .i64 (at_ + t.1)) <;> cases l[k].2.1 == key <;> cases l[k].2.2.1 <;> cases t.2.2.1 == 1 <;> cases t.2.2.1 == 2 <;> cases Gk s l[k].2.1 == 1 <;> rfl) (by
   intro s _
   simp only [Br]
   rw [Ba (by omega)]; rfl) (by omega) 0 trivial
 unfold Nu Lt Qh
 rw [BG]
 simp only [jb]
 cases Ti t with
 | false => rfl
 | true =>
  by_cases h1 : at_ < 0
  ·rw [Aa h1, Ba (show ¬ (0 ≤ at_ ∧ at_ ≤ 1000000) by omega)]; rfl
  ·by_cases h2 : at_ > 1000000
   ·rw [Ba h1, Aa h2, Ba (show ¬ (0 ≤ at_ ∧ at_ ≤ 1000000) by omega)]; rfl
   ·rw [Ba h1, Ba h2, Aa (show (0 ≤ at_ ∧ at_ ≤ 1000000) by omega)]
    simp only [jg, zf]
    erw [hl]
    unfold chR
    cases Ob (fun _ s x => OU t.2.2.1 key (j5 .i64 (at_ + t.1)) s x) 0 0 l with
    | inl s =>
     simp only [jb, qg]
     cases decide (til ≥ j5 .i64 (at_ + t.1)) <;> rfl
    | inr r => rfl
def Jw (l : List Ma) (j : Nat) : Bool := l.any (fun h => h.1 == (j : Int))
structure Cw (l : List Ma) (m : Nat) : Prop where
 lt : m < 2 ^ 63
 bit : ∀ j, m.testBit j = Jw l j
theorem N9 : ∀ (l : List Ma) (k : Nat) (s : Nat), s < 2 ^ 63 → (∀ x ∈ l, Iu x) →
 ∃ m : Nat, Lc (fun _ s (x : Ma) => Xe .i64 s (Ke .i64 1 x.1)) k (s : Int) l = (m : Int) ∧ m < 2 ^ 63 ∧ ∀ j, m.testBit j = (s.testBit j || Jw l j)
 | [], _, s, hs, _ => ⟨s, rfl, hs, fun j => by simp [Jw]⟩
 | x :: l, k, s, hs, h => by
  have hx := h x (by simp)
  obtain ⟨n, hn⟩ := jv hx.lo
  have := hx.hi
  simp only [Lc]
  rw [hn, Uu (by omega), HX hs (NB (by omega))]
  obtain ⟨m, h1, h2, h3⟩ := N9 l (k + 1) _ (Nat.or_lt_two_pow hs (NB (show n ≤ 62 by omega))) (fun y hy => h y (by simp [hy]))
  refine ⟨m, h1, h2, fun j => ?_⟩
  rw [h3, Nat.testBit_or, Nat.testBit_two_pow]
  simp only [Jw, List.any_cons, hn]
  rw [show (((n : Nat) : Int) == ((j : Nat) : Int)) = decide (n = j) by rw [qm]; simp [Int.ofNat_inj]]
  rw [Bool.or_assoc]
theorem LX {l : List Ma} (h : Oe l = true) : ∃ m : Nat, Tv l = (m : Int) ∧ Cw l m := by
 obtain ⟨m, h1, h2, h3⟩ := N9 l 0 0 (by decide) (Tw h)
 exact ⟨m, h1, h2, fun j => by rw [h3]; simp⟩
theorem OV {l : List Ma} {m k : Nat} (h : Cw l m) (hk : k ≤ 62) (hb : Jw l k = false) (a : Ga) : Cw (jf l [((k : Int), a, ())]) (m ^^^ 2 ^ k) := by
 refine ⟨Nat.xor_lt_two_pow h.lt (NB hk), fun j => ?_⟩
 rw [Nat.testBit_xor, Nat.testBit_two_pow, h.bit]
 show _ = Jw (l ++ [((k : Int), a, ())]) j
 simp only [Jw, List.any_append, List.any_cons, List.any_nil, Bool.or_false]
 rw [show (((k : Nat) : Int) == ((j : Nat) : Int)) = decide (k = j) by rw [qm]; simp [Int.ofNat_inj]]
 by_cases hj : k = j
 ·subst hj
  simp only [Jw] at hb
  rw [hb, Aa rfl]; rfl
 ·rw [Ba hj]; simp
theorem Iav {l : List Ma} (hp : l.Pairwise (fun x y => x.1 ≠ y.1)) {i : Nat} (hi : i < l.length) (j : Int) : (wo l i).any (fun h => h.1 == j) = (l.any (fun h => h.1 == j) && !(l[i].1 == j)) := by
 rw [qm]
 simp only [qy, jd, yj, beq_iff_eq, beq_eq_false_iff_ne, wo]
 rw [List.pairwise_iff_getElem] at hp
 constructor
 ·rintro ⟨x, hx, hj⟩
  rcases jl.1 (show x ∈ l.take i ++ l.drop (i + 1) from hx) with hx | hx
  ·obtain ⟨n, hn, rfl⟩ := qj hx
   rw [List.getElem_take] at hj
   have hn2 : n < i ∧ n < l.length := by rw [List.length_take] at hn; omega
   exact ⟨⟨_, qi hn2.2, hj⟩, fun h => hp n i hn2.2 hi hn2.1 (hj.trans h.symm)⟩
  ·obtain ⟨n, hn, rfl⟩ := qj hx
   rw [List.getElem_drop] at hj
   have hn2 : i + 1 + n < l.length := by rw [ql] at hn; omega
   exact ⟨⟨_, qi hn2, hj⟩, fun h => hp i (i + 1 + n) hi hn2 (by omega) (h.trans hj.symm)⟩
 ·rintro ⟨⟨x, hx, hj⟩, hne⟩
  obtain ⟨n, hn, rfl⟩ := qj hx
  refine ⟨l[n], jl.2 ?_, hj⟩
  rcases Nat.lt_trichotomy n i with h | h | h
  ·exact .inl (List.mem_take_iff_getElem.2 ⟨n, by omega, rfl⟩)
  ·subst h; exact absurd hj hne
  ·exact .inr (List.mem_drop_iff_getElem.2 ⟨n - (i + 1), by omega, by congr 1; omega⟩)
theorem SO {l : List Ma} (hp : l.Pairwise (fun x y => x.1 ≠ y.1)) {m k i : Nat} (h : Cw l m) (hk : k ≤ 62) (hi : i < l.length) (hb : l[i].1 = (k : Int)) : Cw (wo l i) (m ^^^ 2 ^ k) := by
 refine ⟨Nat.xor_lt_two_pow h.lt (NB hk), fun j => ?_⟩
 rw [Nat.testBit_xor, Nat.testBit_two_pow, h.bit]
 simp only [Jw]
 rw [Iav hp hi, hb]
 rw [show (((k : Nat) : Int) == ((j : Nat) : Int)) = decide (k = j) by rw [qm]; simp [Int.ofNat_inj]]
 by_cases hj : k = j
 ·subst hj
  rw [Aa rfl]
  have : l.any (fun h => h.1 == (k : Int)) = true := qy.2 ⟨l[i], qi hi, by rw [hb]; simp⟩
  rw [this]; rfl
 ·rw [Ba hj]; simp
theorem XJ {α S R : Type} (g : S → α → S ⊕ R) : ∀ (l : List α) (k j : Nat) (s : S), Ob (fun _ s x => g s x) k s l = Ob (fun _ s x => g s x) j s l
 | [], _, _, _ => rfl
 | x :: l, k, j, s => by
  simp only [Ob]
  cases g s x with
  | inl s' => exact XJ g l (k + 1) (j + 1) s'
  | inr r => rfl
structure PL (d : Ib) : Prop where
 eng : Hm d.1
 len : d.2.2.1.length ≤ 64
 key : ∀ x ∈ d.2.2.1, x.2.1 < d.1.1.1
 fol : ∃ (m : Nat) (t : Int), Cw d.1.2.2.2.1 m ∧ Is (Ob (fun _ s x => Iw s x) 0 (t, (m : Int)) d.2.2.1) = true
def CZ (e : Qb) (k : Int) : Nat := (Vd (fun h : Ma => h.1 == k) 0 e.2.2.2.1).toNat
noncomputable def Ns (d : Ib) (x : Wa) (r : List Wa) : Option (Ib × List Ca) :=
 cond (!x.2.2.1)
  (some ((rE d.1 (CZ d.1 x.2.1), d.2.1, r, d.2.2.2.1, max d.2.2.2.2.1 x.1, d.2.2.2.2.2.1, cond (d.2.2.2.2.2.1 == j5 .i64 (x.2.1 + 1)) x.1 d.2.2.2.2.2.2.1, ()), rR d.1 (CZ d.1 x.2.1)))
  (cond (Mf (Ph d.1.1.2.1 (Kf d.1.1 (Pj d.1.2.2.1 d.1.2.2.2.1) x.2.1.toNat) x.2.1.toNat))
   (
    let ch : Int × Int := cond ((d.2.2.2.2.2.1 == j5 .i64 (x.2.1 + 1)) && !decide (j5 .i64 (x.1 - d.2.2.2.2.2.2.1) ≥ d.2.1.2.1)) (1, x.1) ((Qh d.2.1 x.2.1 x.1 r d.2.2.2.1).1, (Qh d.2.1 x.2.1 x.1 r d.2.2.2.1).2.1)
    cond (ch.1 == 0) none
     (some ((pE d.1 x.2.1.toNat (ch.1 == 2), d.2.1, r, d.2.2.2.1, max (max d.2.2.2.2.1 x.1) ch.2, cond (ch.1 == 2) 0 (j5 .i64 (x.2.1 + 1)), cond (ch.1 == 2) d.2.2.2.2.2.2.1 x.1, ()), pR d.1 x.2.1.toNat (ch.1 == 2))))
   (some ((pE d.1 x.2.1.toNat false, d.2.1, r, d.2.2.2.1, max d.2.2.2.2.1 x.1, d.2.2.2.2.2.1, d.2.2.2.2.2.2.1, ()), pR d.1 x.2.1.toNat false)))
structure Lao (d : Ib) (x : Wa) (r : List Wa) : Prop where
 ev : Ni x = true
 key : x.2.1 < d.1.1.1
 up : x.2.2.1 = false → ∃ hi : CZ d.1 x.2.1 < d.1.2.2.2.1.length, Vd (fun h : Ma => h.1 == x.2.1) 0 d.1.2.2.2.1 = ((CZ d.1 x.2.1 : Nat) : Int) ∧ (d.1.2.2.2.1[CZ d.1 x.2.1]'hi).1 = x.2.1
 down : x.2.2.1 = true → ∀ y ∈ d.1.2.2.2.1, y.1 ≠ x.2.1
theorem XY {α : Type} (p : α → Bool) : ∀ (xs : List α) (k j : Nat), j < xs.length → Vd p k xs = ((k + j : Nat) : Int) → ∃ h : j < xs.length, p xs[j] = true
 | [], _, _, hj, _ => absurd hj (by simp)
 | x :: xs, k, j, hj, h => by
  simp only [Vd] at h
  cases hx : p x with
  | true =>
   rw [hx] at h
   simp only [ze] at h
   have : j = 0 := by omega
   subst this
   exact ⟨hj, hx⟩
  | false =>
   rw [hx] at h
   simp only [zf] at h
   cases j with
   | zero =>
    rcases NA p xs (k + 1) with h1 | ⟨i, _, h1⟩ <;> (rw [h1] at h; omega)
   | succ j =>
    have hj' : j < xs.length := by simp at hj; omega
    obtain ⟨_, h2⟩ := XY p xs (k + 1) j hj' (by rw [h]; omega)
    exact ⟨hj, h2⟩
theorem CM {d : Ib} {x : Wa} {r : List Wa} (h : PL d) (hq : d.2.2.1 = x :: r) : Lao d x r := by
 obtain ⟨m, t, hm, hf⟩ := h.fol
 rw [hq] at hf
 simp only [Ob, Iw] at hf
 cases ho : Hp (t, (m : Int)) x with
 | false => rw [ho] at hf; exact absurd hf (by simp [Is])
 | true =>
  simp only [Hp, jd] at ho
  obtain ⟨h1, h2, h3⟩ := ho
  have hk := Gp h1
  obtain ⟨n, hn⟩ := jv hk.2.2.1
  have hn' : x.2.1 = (n : Int) := hn
  rw [hn', YG hm.lt (by omega), hm.bit] at h3
  refine ⟨h1, h.key x (by rw [hq]; simp), fun hu => ?_, fun hd => ?_⟩
  ·rw [hu] at h3
   have h4 : Jw d.1.2.2.2.1 n = true := by
    cases hh : Jw d.1.2.2.2.1 n with
    | true => rfl
    | false => rw [hh] at h3; exact absurd h3 (by decide)
   rcases NA (fun h : Ma => h.1 == x.2.1) d.1.2.2.2.1 0 with h5 | ⟨j, hj, h5⟩
   ·rw [Vac] at h5
    simp only [Jw, qy, beq_iff_eq] at h4
    obtain ⟨y, hy, hyk⟩ := h4
    exact absurd (hyk.trans hn'.symm) (h5 y hy)
   ·have e : CZ d.1 x.2.1 = j := by unfold CZ; rw [h5]; omega
    obtain ⟨h6, h7⟩ := XY _ _ _ _ hj h5
    have h7' := eq_of_beq h7
    refine ⟨by omega, by rw [h5, e]; omega, ?_⟩
    simp only [e]
    exact h7'
  ·rw [hd] at h3
   intro y hy he
   have : Jw d.1.2.2.2.1 n = true := qy.2 ⟨y, hy, by rw [he, hn']; simp⟩
   rw [this] at h3
   exact absurd h3 (by decide)
theorem Aaa {d d' : Ib} {x : Wa} {r : List Wa} {l : List Ca} (h : PL d) (hq : d.2.2.1 = x :: r) (hs : Ns d x r = some (d', l)) :
 PL d' ∧ d'.2.2.1 = r ∧ l.length ≤ 17 ∧ (∀ y ∈ l, y.2.1.length ≤ 56) := by
 have hF := CM h hq
 have hk := Gp hF.ev
 obtain ⟨n, hn⟩ := jv hk.2.2.1
 have hn' : x.2.1 = (n : Int) := hn
 obtain ⟨m, t, hm, hf⟩ := h.fol
 have hfol : Is (Ob (fun _ s x => Iw s x) 0 (x.1, ((m ^^^ 2 ^ n : Nat) : Int)) r) = true := by
  rw [hq] at hf
  simp only [Ob, Iw] at hf
  cases ho : Hp (t, (m : Int)) x with
  | false => rw [ho] at hf; exact absurd hf (by simp [Is])
  | true =>
   rw [ho] at hf
   simp only [ze, hn', Uu (show n ≤ 62 by omega)] at hf
   rw [SS hm.lt (NB (by omega))] at hf
   rw [XJ Iw r 0 1]
   exact hf
 have hlen : r.length ≤ 64 := by have := h.len; rw [hq] at this; simp at this; omega
 have hkey : ∀ y ∈ r, y.2.1 < d.1.1.1 := fun y hy => h.key y (by rw [hq]; simp [hy])
 have hp := ((IH d.1.2.2.2.1).1 h.eng.hd).2
 have press : ∀ b : Bool, x.2.2.1 = true → Hm (pE d.1 n b) ∧ Cw (pE d.1 n b).2.2.2.1 (m ^^^ 2 ^ n) ∧ (pR d.1 n b).length ≤ 17 ∧ (∀ y ∈ pR d.1 n b, y.2.1.length ≤ 56) := by
  intro b hd
  have hn2 := hF.down hd
  rw [hn'] at hn2
  have F := VX h.eng (k := n) (by have := hF.key; omega) hn2 b
  refine ⟨F.ok, OV hm (by omega) ?_ _, ?_, fun y hy => ?_⟩
  ·cases hh : Jw d.1.2.2.2.1 n with
   | false => rfl
   | true =>
    simp only [Jw, qy, beq_iff_eq] at hh
    obtain ⟨y, hy, hyk⟩ := hh
    exact absurd hyk (hn2 y hy)
  ·have := BH (jf (pM d.1 n b) [Qc (pH d.1 n b)]) (Qc d.1.2.2.2.1)
   have h9 := F.ml
   unfold pR
   have : (jf (pM d.1 n b) [Qc (pH d.1 n b)]).length = (pM d.1 n b).length + 1 := by simp
   omega
  ·have := NC _ _ _ hy
   rcases jl.1 (show y ∈ pM d.1 n b ++ [Qc (pH d.1 n b)] from this) with h1 | h1
   ·exact F.mx y h1
   ·rw [qc.1 h1]; exact NG _
 unfold Ns at hs
 cases hd : x.2.2.1 with
 | false =>
  rw [hd] at hs
  simp only [j8, ze, jc, jh] at hs
  obtain ⟨rfl, rfl⟩ := hs
  obtain ⟨hi, hi1, hi2⟩ := hF.up hd
  refine ⟨⟨Hao h.eng _, hlen, hkey, _, _, SO hp hm (by omega) hi (by rw [hi2, hn']), hfol⟩, rfl, ?_, fun y hy => ?_⟩
  ·have := BH [Qc (wo d.1.2.2.2.1 (CZ d.1 x.2.1))] (Qc d.1.2.2.2.1)
   unfold rR
   simp only [jw, j7] at this
   omega
  ·have := NC _ _ _ hy
   rw [qc.1 this]; exact NG _
 | true =>
  rw [hd] at hs
  simp only [jg, zf, hn', jn] at hs
  cases ht : Mf (Ph d.1.1.2.1 (Kf d.1.1 (Pj d.1.2.2.1 d.1.2.2.2.1) n) n) with
  | false =>
   rw [ht] at hs
   simp only [zf, jc, jh] at hs
   obtain ⟨rfl, rfl⟩ := hs
   have P := press false hd
   exact ⟨⟨P.1, hlen, hkey, _, _, P.2.1, hfol⟩, rfl, P.2.2⟩
  | true =>
   rw [ht] at hs
   simp only [ze] at hs
   revert hs
   generalize (cond ((d.2.2.2.2.2.1 == j5 .i64 ((n : Int) + 1)) && !decide (j5 .i64 (x.1 - d.2.2.2.2.2.2.1) ≥ d.2.1.2.1)) ((1 : Int), x.1) ((Qh d.2.1 (n : Int) x.1 r d.2.2.2.1).1, (Qh d.2.1 (n : Int) x.1 r d.2.2.2.1).2.1)) = ch
   intro hs
   cases h0 : ch.1 == 0 with
   | true => rw [h0] at hs; simp at hs
   | false =>
    rw [h0] at hs
    simp only [zf, jc, jh] at hs
    obtain ⟨rfl, rfl⟩ := hs
    have P := press (ch.1 == 2) hd
    exact ⟨⟨P.1, hlen, hkey, _, _, P.2.1, hfol⟩, rfl, P.2.2⟩
theorem LS {m : Ha} (hz : Eb Ua m ≤ Ka) (hv : Gc m = true) (on : Int) {k : Nat} (hk : (k : Int) < m.1) :
 Kz m on (k : Int) = some (Ph m.2.1 (Kf m on k) k, ()) := by
 have hm := Hd hv
 have hl := Ww hm on k
 have hrow := hm.row _ hl
 unfold Kz LH
 rw [Dh _ hz, hv, Ba (show ¬ (k : Int) < 0 by omega), Ba (show ¬ (k : Int) ≥ m.1 by omega), HB hm _ hk]
 simp only [jb, jg, zf]
 rw [Ba (by omega)]
 simp only [zf]
 show (jz (Hc m.2.1 ((Kf m on k : Nat) : Int)) _) = _
 rw [AX hl (by omega)]
theorem Kac (t : HC) (key at_ : Int) (l : List Wa) (til : Int) : (Qh t key at_ l til).1 = 0 ∨ (Qh t key at_ l til).1 = 1 ∨ (Qh t key at_ l til).1 = 2 := by
 have key2 : ∀ (md k' e : Int) (l : List Wa) (k : Nat) (s : Int) (r : Int × Int), Ob (fun _ s x => OU md k' e s x) k s l = .inr r → r.1 = 0 ∨ r.1 = 1 ∨ r.1 = 2 := by
  intro md k' e l
  induction l with
  | nil => intro k s r h; simp [Ob] at h
  | cons x l ih =>
   intro k s r h
   simp only [Ob] at h
   revert h
   cases hg : OU md k' e s x with
   | inl s' => intro h; exact ih _ _ _ h
   | inr r' =>
    intro h
    simp only [Sum.inr.injEq] at h
    subst h
    unfold OU at hg
    revert hg
    cases Ni x <;> cases decide (x.1 ≥ e) <;> cases x.2.1 == k' <;> cases x.2.2.1 <;> cases md == 1 <;> cases md == 2 <;> cases Gk s x.2.1 == 1 <;> (intro hg; cases hg) <;> simp
 unfold Qh
 cases Ti t && decide (0 ≤ at_ ∧ at_ ≤ 1000000) with
 | false => exact .inl rfl
 | true =>
  simp only [ze]
  cases h : chR t.2.2.1 key (j5 .i64 (at_ + t.1)) l with
  | inl s => cases decide (til ≥ j5 .i64 (at_ + t.1)) <;> simp
  | inr r => exact key2 _ _ _ _ _ _ _ h
theorem Laj {α : Type} (x : α) (r : List α) (hr : r.length ≤ 64) : Jd (ja (x :: r)) (1 : Int) ((ja (x :: r) : Nat) : Int) = true ∧ Xa (x :: r) (jy (1 : Int)) (jy ((ja (x :: r) : Nat) : Int)) = r := by
 refine ⟨Al (lo := 1) (by simp) (by simp), ?_⟩
 show List.drop 1 (List.take _ (x :: r)) = r
 rw [jn, List.take_length]; rfl
def Lar (d : Ib) : Option (Ib × List Ca) → Ib × ((List Ca) × (Bool × Unit))
 | none => (d, ([], false, ()))
 | some (d', l) => (d', (l, true, ()))
theorem FV {d : Ib} {x : Wa} {r : List Wa} (h : PL d) (hq : d.2.2.1 = x :: r) : Rh d = some (Lar d (Ns d x r)) := by
 have h20 : Ka = 1048576 := rfl
 have hF := CM h hq
 have hk := Gp hF.ev
 have hlen : r.length ≤ 64 := by have := h.len; rw [hq] at this; simp at this; omega
 have hz := Rac h.eng
 have hzm := (RH h.eng.km).z
 have hle := Mx h.eng.hd
 obtain ⟨n, hn⟩ := jv hk.2.2.1
 have hn' : x.2.1 = (n : Int) := hn
 obtain ⟨e, t, q, now, clk, tp, ta, u⟩ := d
 obtain ⟨xt, xk, xd, xu⟩ := x
 cases u
 simp only at hq hn' hF hz hzm hle hk
 subst hq
 subst hn'
 have hc := Laj ((xt, (n : Int), xd, xu) : Wa) r hlen
 have hb : jx (ja ([] : List Wa) + ja r) Oa = true := ji (by simp; rw [Vh]; omega)
 have i0 : Qd (ja (((xt, (n : Int), xd, xu) : Wa) :: r)) (0 : Int) = true := by rw [show (0 : Int) = ((0 : Nat) : Int) from rfl, Lg]; exact Aa (by simp)
 have g0 : (((xt, (n : Int), xd, xu) : Wa) :: r)[(jy (0 : Int))]? = some (xt, (n : Int), xd, xu) := rfl
 unfold Rh
 simp only [i0, g0, hc.1, hc.2, hb, ze, jb]
 unfold Ns
 cases xd with
 | false =>
  obtain ⟨hi, hi1, hi2⟩ := hF.up rfl
  rw [QS h.eng hi hi1]
  simp only [j8, ze, jb]
  cases tp == j5 .i64 ((n : Int) + 1) <;> rfl
 | true =>
  have hd := hF.down rfl
  have hkey := hF.key
  have hp := fun b => GX h.eng (k := n) hkey hd b
  simp only at hp hkey hd
  have hly := TC (Sat (Hd h.eng.km).l2 h.eng.st) _ (show e.2.2.2.1.length ≤ Ka by omega) h.eng.hd
  simp only at hly
  rw [hly]
  have hch := MS t (n : Int) xt r now (by omega)
  have hac := LS (m := e.1) (by omega) h.eng.km (Pj e.2.2.1 e.2.2.2.1) hkey
  simp only [jb, jg, zf, jn, hac, Iy, hch, hp]
  cases Mf (Ph e.1.2.1 (Kf e.1 (Pj e.2.2.1 e.2.2.2.1) n) n) with
  | false => rfl
  | true =>
   simp only [ze]
   have hv := Kac t (n : Int) xt r now
   have hne : (tp != j5 .i64 ((n : Int) + 1)) = !(tp == j5 .i64 ((n : Int) + 1)) := rfl
   rw [hne]
   cases tp == j5 .i64 ((n : Int) + 1) with
   | false =>
    simp only [j8, ze, Bool.false_and, zf]
    rcases hv with hv | hv | hv <;> (rw [hv]; rfl)
   | true =>
    simp only [jg, zf, jk]
    cases decide (j5 .i64 (xt - ta) ≥ t.2.1) with
    | true =>
     simp only [jg, ze, zf]
     rcases hv with hv | hv | hv <;> (rw [hv]; rfl)
    | false => rfl
theorem Q6 {X R : Type} {step : X → Option (X ⊕ R)} {α S : Type} (xs : List α) (g : S → α → S) (I : S → Nat → X) (out : S → R) (Yf : Nat → S → Prop)
 (h : ∀ k (hk : k < xs.length) s, Yf k s → step (I s k) = some (.inl (I (g s xs[k]) (k + 1))) ∧ Yf (k + 1) (g s xs[k]))
 (he : ∀ s, Yf xs.length s → step (I s xs.length) = some (.inr (out s))) (s0 : S) (h0 : Yf 0 s0) :
 Gb step (I s0 0) = some (out (xs.foldl g s0)) ∧ Yf xs.length (xs.foldl g s0) := by
 have key : ∀ (ys : List α) (k : Nat) (s : S), xs.drop k = ys → k ≤ xs.length → Yf k s → Gb step (I s k) = some (out (ys.foldl g s)) ∧ Yf xs.length (ys.foldl g s) := by
  intro ys
  induction ys with
  | nil =>
   intro k s hd hle hi
   have := FS hd hle
   subst this
   rw [Xc (he s hi)]
   exact ⟨rfl, hi⟩
  | cons y ys ih =>
   intro k s hd hle hi
   obtain ⟨hk, hy, hd'⟩ := YN hd
   obtain ⟨h1, h2⟩ := h k hk s hi
   rw [Xc h1, hy]
   rw [hy] at h2
   exact ih (k + 1) _ hd' hk h2
 exact key xs 0 s0 rfl (Nat.zero_le _) h0
def Xv (s : List Xd) (w : Int) (l : List Ca) : List Xd := jf s (l.map fun r => ((w, r, ()) : Xd))
theorem ZY (w : Int) : ∀ (l : List Ca) (s : List Xd), l.foldl (fun s r => jf s [((w, r, ()) : Xd)]) s = Xv s w l
 | [], s => by simp [Xv]
 | x :: l, s => by
  rw [List.foldl_cons, ZY w l]
  simp [Xv]
theorem RZ (s : List Xd) (w : Int) (l : List Ca) : (Xv s w l).length = s.length + l.length := by simp [Xv]
theorem J4 (s : List Xd) (w : Int) (l : List Ca) (hl : l.length ≤ 1000) (hs : s.length ≤ 1000000) : JE s w l = some (Xv s w l, ()) := by
 have h := (Q6 (step := fun x => Oz x.1.1 x.1.2.1 x.1.2.2.1 x.1.2.2.2.1 x.1.2.2.2.2.1) l (fun s r => jf s [((w, r, ()) : Xd)])
  (fun o k => ((o, w, (l, (k : Int)), ((ja l : Nat) : Int), (k : Int), ()), ())) (fun o => .inl ((o, ()), ())) (fun k o => o.length = s.length + k) (by
   intro k hk o ho
   refine ⟨?_, by simp [ho]; omega⟩
   simp only [Oz]
   rw [Aa (by omega), Lg, Aa hk, jn, je hk]
   simp only [ze, jb, Nat.beq_refl]
   rw [show jx (ja o + ja ([(w, l[k], ())] : List Xd)) Oa = true from ji (by simp only [jw, j7]; rw [Vh]; omega)]
   rw [Af (by omega)]
   rfl) (by
   intro o ho
   simp only [Oz]
   rw [Ba (by omega)]; rfl) s rfl).1
 unfold JE BA
 erw [h]
 rw [ZY]
 rfl
noncomputable def Pf : Nat → Ib → List Xd → Ib × List Xd
 | 0, d, s => (d, s)
 | n + 1, d, s => match d.2.2.1 with
  | [] => (d, s)
  | x :: r => match Ns d x r with
   | none => (d, s)
   | some (d', l) => Pf n d' (Xv s d'.2.2.2.2.1 l)
theorem ER (z : Ib) : ∀ (n : Nat) (d : Ib) (s : List Xd), PL d → d.2.2.1.length ≤ n → s.length + 17 * n ≤ 100000 →
 Wf (((), (), s, ()), (z, d, ())) = some (.inl (((), (), (Pf n d s).2, ()), (z, (Pf n d s).1, ())))
 | n, d, s, h, hl, hs => by
  unfold Wf
  cases hq : d.2.2.1 with
  | nil =>
   have e1 : Pf n d s = (d, s) := by
    cases n with
    | zero => rfl
    | succ n => simp only [Pf, hq]
   have hstep : Vg () () s z d = some (.inr (.inl (((), (), s, ()), (z, d, ())))) := by
    unfold Vg
    rw [hq, Ba (by simp)]; rfl
   erw [Xc hstep]
   rw [e1]; rfl
  | cons x r =>
   have hlen : d.2.2.1.length = r.length + 1 := by rw [hq]; rfl
   cases n with
   | zero => omega
   | succ n =>
    have e1 : Pf (n + 1) d s = match Ns d x r with
     | none => (d, s)
     | some (d', l) => Pf n d' (Xv s d'.2.2.2.2.1 l) := by simp only [Pf, hq]
    rw [e1]
    have hp := FV h hq
    cases hst : Ns d x r with
    | none =>
     have hstep : Vg () () s z d = some (.inr (.inl (((), (), s, ()), (z, d, ())))) := by
      unfold Vg
      rw [Aa (by rw [hlen]; omega)]
      show (jz (Rh d) _) = _
      rw [hp, hst]; rfl
     erw [Xc hstep]; rfl
    | some p =>
     obtain ⟨d', l⟩ := p
     have hn := Aaa h hq hst
     have hstep : Vg () () s z d = some (.inl (((), (), Xv s d'.2.2.2.2.1 l, ()), (z, d', ()))) := by
      unfold Vg
      rw [Aa (by rw [hlen]; omega)]
      show (jz (Rh d) _) = _
      rw [hp, hst]
      show jz (JE s d'.2.2.2.2.1 l) _ = _
      rw [J4 _ _ _ (by have := hn.2.2.1; omega) (by omega)]
      rfl
     erw [Xc hstep]
     have ih := ER z n d' (Xv s d'.2.2.2.2.1 l) hn.1 (by rw [hn.2.1]; omega) (by rw [RZ]; have := hn.2.2.1; omega)
     unfold Wf at ih
     exact ih
def Qy : Ib := ((((0 : Int), ([] : List (List Ga)), ()), ([] : List (List Lb)), (0 : Int), ([] : List Ma), (0 : Int), false, ()), ((0 : Int), (0 : Int), (0 : Int), ()), ([] : List Wa), (0 : Int), (0 : Int), (0 : Int), (0 : Int), ())
def Cao (l : List Wa) : Int := (l.headD (0, 0, false, ())).1
def EA (l : List Wa) (t : Int) : Bool := ((l.length : Int) == 0) || !decide (Cao l < t)
noncomputable def RA (d : Ib) (l : List Wa) (til : Int) : Bool :=
 Pc d && (decide (d.2.2.2.1 ≤ til ∧ til ≤ 1000000) && (EA l d.2.2.2.1 && (Uh l til && Sd (jf d.2.2.1 l) (Tv d.1.2.2.2.1) d.1.1.1)))
def Vl (d : Ib) (l : List Wa) (til : Int) : Ib := (d.1, d.2.1, jf d.2.2.1 l, til, d.2.2.2.2)
noncomputable def OB (d : Ib) (l : List Wa) (til : Int) : Ib × ((List Xd) × (Bool × Unit)) :=
 cond (RA d l til) ((Pf (Vl d l til).2.2.1.length (Vl d l til) []).1, (Pf (Vl d l til).2.2.1.length (Vl d l til) []).2, true, ()) (Qy, [], false, ())
theorem V3 {q : List Wa} {d k : Int} (h : Sd q d k = true) : q.length ≤ 64 := by
 simp only [Sd, jd, OA] at h
 by_cases h1 : q.length ≤ 64
 ·exact h1
 ·rw [Ba h1] at h; simp at h
theorem J7 {d : Ib} {l : List Wa} {til : Int} (hd : Pc d = true) (hf : Sd (jf d.2.2.1 l) (Tv d.1.2.2.2.1) d.1.1.1 = true) : PL (Vl d l til) := by
 have he : Hm d.1 := by
  rw [← RG]
  simp only [Pc, jd] at hd
  exact hd.1
 obtain ⟨m, hm, hm2⟩ := LX he.hd
 refine ⟨he, V3 hf, ?_, m, 0, hm2, ?_⟩
 ·have h1 := hf
  simp only [Sd, jd, QH] at h1
  have h2 := h1.1
  intro x hx
  have h3 := (YR (p := fun x : Wa => !decide (x.2.1 ≥ d.1.1.1))).1 h2 x hx
  simp only [yj, decide_eq_false_iff_not] at h3
  show x.2.1 < d.1.1.1
  omega
 ·have := U3 hf
  rw [hm] at this
  exact this
theorem Vaj {l : List Wa} (h : 0 < l.length) : ∃ x, Hc l (0 : Int) = some x ∧ x.1 = Cao l := by
 cases l with
 | nil => simp at h
 | cons x l => exact ⟨x, rfl, rfl⟩
theorem FE (d : Ib) (l : List Wa) (til : Int) (hz : Eb Pe d ≤ Ka) (hl : l.length ≤ 1000000) : Pp d l til = some (OB d l til) := by
 have h20 : Ka = 1048576 := rfl
 have hz' := hz
 rw [QK, HD] at hz'
 have hz2 := hz'
 rw [Bl, Xu] at hz2
 have hlapp : (jf d.2.2.1 l).length = d.2.2.1.length + l.length := by simp
 have hlim : jx (ja d.2.2.1 + ja l) Oa = true := ji (by rw [Vh]; omega)
 unfold Pp OB
 rw [Ey _ hz, CG _ _ (by omega), DC _ hz]
 cases hd : Pc d with
 | false => rw [show RA d l til = false by unfold RA; rw [hd]; rfl]; rfl
 | true =>
  have hh : ∀ x ∈ d.1.2.2.2.1, Iu x := by
   have : Ag d.1 = true := by simp only [Pc, jd] at hd; exact hd.1
   exact Tw (WJ this)
  have h64 : d.2.2.1.length ≤ 64 := by
   simp only [Pc, jd] at hd
   exact V3 hd.2.2.2.2.1
  rw [MH _ (by omega) hh]
  simp only [jb, jg, zf, hlim, ze]
  rw [DG _ _ _ (by rw [hlapp]; omega)]
  simp only [jb]
  have key : ∀ (K : Option (Ib × ((List Xd) × (Bool × Unit)))), (Sd (jf d.2.2.1 l) (Tv d.1.2.2.2.1) d.1.1.1 = true → K = some ((Pf (Vl d l til).2.2.1.length (Vl d l til) []).1, (Pf (Vl d l til).2.2.1.length (Vl d l til) []).2, true, ())) →
   (cond (decide (til < d.2.2.2.1)) (some (Qy, [], false, ())) (cond (decide (til > 1000000)) (some (Qy, [], false, ())) (cond (!EA l d.2.2.2.1) (some (Qy, [], false, ())) (cond (!Uh l til) (some (Qy, [], false, ())) (cond (!Sd (jf d.2.2.1 l) (Tv d.1.2.2.2.1) d.1.1.1) (some (Qy, [], false, ())) K))))) =
   some (cond (RA d l til) ((Pf (Vl d l til).2.2.1.length (Vl d l til) []).1, (Pf (Vl d l til).2.2.1.length (Vl d l til) []).2, true, ()) (Qy, [], false, ())) := by
   intro K hK
   unfold RA
   rw [hd]
   by_cases h1 : til < d.2.2.2.1
   ·rw [Aa h1, Ba (show ¬ (d.2.2.2.1 ≤ til ∧ til ≤ 1000000) by omega)]; rfl
   ·by_cases h2 : til > 1000000
    ·rw [Ba h1, Aa h2, Ba (show ¬ (d.2.2.2.1 ≤ til ∧ til ≤ 1000000) by omega)]; rfl
    ·rw [Ba h1, Ba h2, Aa (show (d.2.2.2.1 ≤ til ∧ til ≤ 1000000) by omega)]
     cases EA l d.2.2.2.1 with
     | false => rfl
     | true =>
      cases Uh l til with
      | false => rfl
      | true =>
       cases hq : Sd (jf d.2.2.1 l) (Tv d.1.2.2.2.1) d.1.1.1 with
       | false => rfl
       | true => exact hK hq
  have hrun : Sd (jf d.2.2.1 l) (Tv d.1.2.2.2.1) d.1.1.1 = true → ∀ z : Ib, Wf (((), (), ([] : List Xd), ()), (z, (d.1, d.2.1, jf d.2.2.1 l, til, d.2.2.2.2), ())) = some (.inl (((), (), (Pf (Vl d l til).2.2.1.length (Vl d l til) []).2, ()), (z, (Pf (Vl d l til).2.2.1.length (Vl d l til) []).1, ()))) := by
   intro hq z
   have h1 := J7 (til := til) hd hq
   have := h1.len
   exact ER z _ (Vl d l til) [] h1 (jo _) (by simp; omega)
  by_cases h0 : l.length = 0
  ·have hna : EA l d.2.2.2.1 = true := by unfold EA; rw [h0]; rfl
   rw [Ba (show ¬ ((ja l : Nat) : Int) > 0 by omega)]
   simp only [zf]
   simp only [hna, jg, zf] at key
   exact key _ (fun hq => by rw [hrun hq]; rfl)
  ·obtain ⟨x, hx, hx1⟩ := Vaj (l := l) (by omega)
   have hna : EA l d.2.2.2.1 = !decide (x.1 < d.2.2.2.1) := by
    unfold EA
    rw [show ((l.length : Int) == 0) = false by simp; intro h; rw [h] at h0; simp at h0, hx1]; rfl
   rw [Aa (show ((ja l : Nat) : Int) > 0 by omega), hx]
   simp only [ze, jb]
   simp only [hna, Bool.not_not] at key
   exact key _ (fun hq => by rw [hrun hq]; rfl)













theorem Caf {a : List Int} (h : a.length ≤ Ka) : VC a = some (false, ()) := by
 have h20 : Ka = 1048576 := rfl
 unfold VC
 rw [Ba (by omega)]
theorem Eaj {a : List Int} (h : ¬ a.length ≤ Ka) : VC a = some (true, ()) := by
 have h20 : Ka = 1048576 := rfl
 unfold VC
 rw [Aa (by omega)]

theorem Cav (n : Nat) : Yk n 0 0 := ⟨by omega, by have := Nat.two_pow_pos n; omega, by decide, by omega, by omega⟩
theorem Uao {m : Ha} (hm : Gc m = true) : Hm (N3 m 0 0 false []) :=
 (RG _).1 (Qac hm (Cav _) false Zaz (by simp))
def XN (e : Qb) (t : Lb) : Ib := (e, t, ([] : List Wa), (0 : Int), (0 : Int), (0 : Int), (0 : Int), ())
theorem Qaj (d k : Int) : Sd [] d k = true := rfl
theorem Naf {e : Qb} (he : Hm e) {t : Lb} (ht : Ti t = true) {q : List Wa} {now clock tp ta : Int} (hn : 0 ≤ now ∧ now ≤ 1000000) (hc : 0 ≤ clock ∧ clock ≤ now)
 (hq : Sd q (Tv e.2.2.2.1) e.1.1 = true) (hb : Uh q now = true) (htp : 0 ≤ tp ∧ tp ≤ e.1.1) (hta : 0 ≤ ta ∧ ta ≤ now) : Pc (e, t, q, now, clock, tp, ta, ()) = true := by
 unfold Pc
 simp only [jd, decide_eq_true_eq]
 exact ⟨(RG e).2 he, ht, hn, hc, hq, hb, htp, hta⟩
def YX {X R : Type} (step : X → Option (X ⊕ R)) : Nat → X → Option R
 | 0, _ => none
 | n + 1, x => match step x with
  | some (.inl y) => YX step n y
  | some (.inr r) => some r
  | none => none
theorem KQ {X R : Type} {step : X → Option (X ⊕ R)} : ∀ (n : Nat) {x : X} {r : R}, YX step n x = some r → Gb step x = some r
 | 0, _, _, h => by simp [YX] at h
 | n + 1, x, r, h => by
  unfold YX at h
  cases hs : step x with
  | none => rw [hs] at h; simp at h
  | some z =>
   rw [hs] at h
   rw [Xc hs]
   cases z with
   | inl y => exact KQ n h
   | inr r' => exact h
def Gv : List (List UInt8) := [[97], [98], [99], [100], [101], [102], [103], [104], [105], [106], [107], [108], [109], [110], [111], [112], [113], [114], [115], [116], [117], [118], [119], [120], [121], [122], [49], [50], [51], [52], [53], [54], [55], [56], [57], [48], [101, 110, 116, 101, 114], [101, 115, 99], [98, 97, 99, 107], [116, 97, 98], [115, 112, 97, 99, 101], [109, 105, 110, 117, 115], [101, 113, 117, 97, 108], [108, 101, 102, 116], [114, 105, 103, 104, 116], [117, 112], [100, 111, 119, 110], [102, 49], [102, 50], [102, 51], [102, 52], [102, 53], [102, 54], [102, 55], [102, 56], [102, 57]]
def Jae : List (List UInt8) := [[], [97], [98], [99], [100], [101], [102], [103], [104], [105], [106], [107], [108], [109], [110], [111], [112], [113], [114], [115], [116], [117], [118], [119], [120], [121], [122], [49], [50], [51], [52], [53], [54], [55], [56], [57], [48], [10], [], [], [9], [32], [45], [61], [], [], [], [], [], [], [], [], [], [], [], [], []]
def Kae : List (List UInt8) := [[], [65], [66], [67], [68], [69], [70], [71], [72], [73], [74], [75], [76], [77], [78], [79], [80], [81], [82], [83], [84], [85], [86], [87], [88], [89], [90], [33], [64], [35], [36], [37], [94], [38], [42], [40], [41], [10], [], [], [9], [32], [95], [43], [], [], [], [], [], [], [], [], [], [], [], [], []]
theorem Hae : VB = some (Gv, ()) := by
 unfold VB ED Ss
 erw [KQ 400 (r := .inl ((Gv, ()), ())) (by kernel_rfl)]
 rfl
theorem EV : strings_Split Vz [32] = some (Gv, ()) := by kernel_rfl
def Sf (c : Int) : List UInt8 := cond (decide (1 ≤ c ∧ c ≤ 56)) (Gv.getD (c - 1).toNat []) []
theorem NI : Gv.length = 56 := by decide +kernel
theorem NX {c : Int} (h : 1 ≤ c ∧ c ≤ 56) : Gv[(c - 1).toNat]? = some (Sf c) ∧ Qd Gv.length (c - 1) = true := by
 have hl : (c - 1).toNat < Gv.length := by rw [NI]; omega
 constructor
 ·unfold Sf
  rw [Aa h, ze, qf, je hl]; rfl
 ·have : c - 1 = (((c - 1).toNat : Nat) : Int) := by omega
  rw [this, Lg]; exact Aa hl
theorem Mt (c : Int) : Dc c = some (Sf c, ()) := by
 unfold Dc
 by_cases h1 : c < 1
 ·rw [Aa h1]; unfold Sf; rw [Ba (show ¬ (1 ≤ c ∧ c ≤ 56) by omega)]; rfl
 rw [Ba h1]
 by_cases h2 : c > 56
 ·rw [Aa h2]; unfold Sf; rw [Ba (show ¬ (1 ≤ c ∧ c ≤ 56) by omega)]; rfl
 rw [Ba h2, EV]
 obtain ⟨e1, e2⟩ := NX (c := c) (by omega)
 simp only [zf, jb]
 rw [Gd (by omega) (by omega), e1, e2]
 rfl
theorem OT (c : Int) : Zl c = some (Sf c, ()) := by
 unfold Zl
 rw [Rd]
 by_cases h : 1 ≤ c ∧ c ≤ 56
 ·rw [Aa h, Hae]
  obtain ⟨e1, e2⟩ := NX h
  simp only [jg, zf, jb]
  rw [Gd (by omega) (by omega), e1, e2]
  rfl
 ·rw [Ba h]; unfold Sf; rw [Ba h]; rfl
def OD (c m : Int) : List UInt8 := cond (m == 0) (Jae.getD c.toNat []) (cond (m == 2) (Kae.getD c.toNat []) [])
theorem Gaj {c : Int} (h : ¬ (1 ≤ c ∧ c ≤ 56)) (m : Int) : OD c m = [] := by
 have h0 : Jae.getD c.toNat [] = [] ∧ Kae.getD c.toNat [] = [] := by
  by_cases hc : c < 1
  ·rw [show c.toNat = 0 by omega]; exact ⟨rfl, rfl⟩
  ·have l0 : Jae.length = 57 := by decide +kernel
   have l2 : Kae.length = 57 := by decide +kernel
   rw [qf, qf, qt (by omega), qt (by omega)]
   exact ⟨rfl, rfl⟩
 unfold OD
 rw [h0.1, h0.2]
 cases m == 0 <;> cases m == 2 <;> rfl
theorem Yac : ∀ c : Fin 57, Tk (c.val : Int) 0 = some (OD c.val 0, ()) := by
 intro c
 simp only [Tk, Kk, Mt, jb]
 revert c
 decide +kernel
theorem Zac : ∀ c : Fin 57, Tk (c.val : Int) 2 = some (OD c.val 2, ()) := by
 intro c
 simp only [Tk, Kk, Mt, jb]
 revert c
 decide +kernel
theorem BX (c m : Int) : Tk c m = some (OD c m, ()) := by
 by_cases hc : 1 ≤ c ∧ c ≤ 56
 ·by_cases h0 : m = 0
  ·subst h0
   have := Yac ⟨c.toNat, by omega⟩
   rwa [show ((⟨c.toNat, by omega⟩ : Fin 57).val : Int) = c by show ((c.toNat : Nat) : Int) = c; omega] at this
  ·by_cases h2 : m = 2
   ·subst h2
    have := Zac ⟨c.toNat, by omega⟩
    rwa [show ((⟨c.toNat, by omega⟩ : Fin 57).val : Int) = c by show ((c.toNat : Nat) : Int) = c; omega] at this
   ·have e : OD c m = [] := by
     unfold OD
     rw [show (m == 0) = false by simpa using h0, show (m == 2) = false by simpa using h2]; rfl
    rw [e]
    unfold Tk
    rw [Kk, Aa hc, show (m != 0) = true by simpa using h0, show (m != 2) = true by simpa using h2]
    rfl
 ·rw [Gaj hc]
  unfold Tk
  rw [Kk, Ba hc]
  rfl
theorem PR (l : List UInt8) : Po (Yc l) = l := by
 unfold Po Yc
 rw [List.map_map]
 conv => rhs; rw [← List.map_id l]
 apply List.map_congr_left
 intro x _
 simp
theorem YQ (a b : List UInt8) : Yc (a ++ b) = Yc a ++ Yc b := by simp [Yc]
theorem Uy (a : List UInt8) : (Yc a).length = a.length := by simp [Yc]
theorem I7 (u : Nat) (h : ¬ u < 10) : Lib.decDigits u = Lib.decDigits (u / 10) ++ [UInt8.ofNat (48 + u % 10)] := by rw [Lib.decDigits, dif_neg h]
theorem J3 (u : Nat) (h : u < 10) : Lib.decDigits u = [UInt8.ofNat (48 + u)] := by rw [Lib.decDigits, dif_pos h]
theorem P9 (u : Nat) (h : u < 10 ^ 20) : Lib.nDigits u ≤ 20 := by
 apply Classical.byContradiction
 intro hn
 have h2 : ∀ k u, 10 ^ k ≤ u ∨ Lib.nDigits u ≤ k ∨ k = 0 := by
  intro k
  induction k with
  | zero => intro u; right; right; rfl
  | succ k ih =>
   intro u
   by_cases hu : u < 10
   ·right; left; rw [Lib.nDigits_small hu]; omega
   ·rcases ih (u / 10) with h | h | h
    ·left; rw [Nat.pow_succ]; omega
    ·right; left; rw [Lib.nDigits_big hu]; omega
    ·subst h; left; simpa using Nat.le_of_not_lt hu
 rcases h2 20 u with h3 | h3 | h3 <;> omega
theorem SW {d : Int} (h : 0 ≤ d ∧ d ≤ 9) : Po [j5 .u8 (j5 .i64 (48 + d))] = [UInt8.ofNat (48 + d.toNat)] := by
 rw [Gd (by omega) (by omega), OaD (by omega) (by omega)]
 show [UInt8.ofNat (48 + d).toNat] = _
 rw [show (48 + d).toNat = 48 + d.toNat by omega]
theorem U6 (n : Int) : ∀ (v : Nat) (x : Int) (acc : List UInt8), 1 ≤ v → (x = (v : Int) ∨ x = -(v : Int)) → v ≤ 9223372036854775808 → acc.length + Lib.nDigits v ≤ 100 →
 Bh ((n, acc, x, ()), ()) = some (.inl ((n, Lib.decDigits v ++ acc, ()), ())) := by
 intro v
 induction v using Nat.strongRecOn with
 | _ v ih =>
 intro x acc hv hx hb hl
 unfold Bh
 have hd := Lib.nDigits_pos v
 obtain ⟨d, hdd⟩ : ∃ d, v % 10 = d := ⟨_, rfl⟩
 have hs : Fq n acc x = some (.inl ((n, UInt8.ofNat (48 + d) :: acc, Int.tdiv x 10, ()), ())) := by
  unfold Fq
  rw [show (x != 0) = true by rw [bne_iff_ne]; omega]
  simp only [ze, show ((10 : Int) == 0) = false from rfl, zf]
  rcases hx with rfl | rfl
  ·have e : yc (v : Int) 10 = (d : Int) := by rw [Int.tmod_eq_emod_of_nonneg (by omega)]; omega
   have e2 : Int.tdiv (v : Int) 10 = ((v / 10 : Nat) : Int) := by rw [Int.tdiv_eq_ediv_of_nonneg (by omega)]; omega
   rw [e, e2, Ba (show ¬ (d : Int) < 0 by omega), zf, SW (d := (d : Int)) (by omega), Gd (n := ((v / 10 : Nat) : Int)) (by omega) (by omega)]
   simp only [jw, j7]
   rw [Mb (by omega)]
   rfl
  ·have e : yc (-(v : Int)) 10 = -(d : Int) := by rw [Int.neg_tmod, Int.tmod_eq_emod_of_nonneg (by omega)]; omega
   have e2 : Int.tdiv (-(v : Int)) 10 = -((v / 10 : Nat) : Int) := by rw [Int.neg_tdiv, Int.tdiv_eq_ediv_of_nonneg (by omega)]; omega
   rw [e, e2]
   by_cases h0 : d = 0
   ·subst h0
    rw [show (-((0 : Nat) : Int)) = 0 by omega, Ba (show ¬ (0 : Int) < 0 by omega), zf, SW (d := 0) (by omega), Gd (n := -((v / 10 : Nat) : Int)) (by omega) (by omega)]
    simp only [jw, j7]
    rw [Mb (by omega)]
    rfl
   ·rw [Aa (show -(d : Int) < 0 by omega), ze, Gd (n := 0 - -(d : Int)) (by omega) (by omega), show (0 : Int) - -(d : Int) = (d : Int) by omega, SW (d := (d : Int)) (by omega), Gd (n := -((v / 10 : Nat) : Int)) (by omega) (by omega)]
    simp only [jw, j7]
    rw [Mb (by omega)]
    rfl
 rw [Xc hs]
 show Bh ((n, UInt8.ofNat (48 + d) :: acc, Int.tdiv x 10, ()), ()) = _
 have hx2 : Int.tdiv x 10 = ((v / 10 : Nat) : Int) ∨ Int.tdiv x 10 = -((v / 10 : Nat) : Int) := by
  rcases hx with rfl | rfl
  ·left; rw [Int.tdiv_eq_ediv_of_nonneg (by omega)]; omega
  ·right; rw [Int.neg_tdiv, Int.tdiv_eq_ediv_of_nonneg (by omega)]; omega
 by_cases hten : v < 10
 ·have hz : Int.tdiv x 10 = 0 := by
   rw [show v / 10 = 0 by omega] at hx2
   omega
  rw [hz, J3 v hten]
  unfold Bh
  rw [Xc (z := some (.inr (.inl ((n, UInt8.ofNat (48 + d) :: acc, ()), ())))) (by simp [Fq])]
  rw [show d = v by omega]
  rfl
 ·rw [ih (v / 10) (by omega) _ _ (by omega) hx2 (by omega) (by
   have := Lib.nDigits_big hten
   simp only [jw]; omega), I7 v hten, hdd]
  simp
theorem My {n : Int} (h : -9223372036854775808 ≤ n ∧ n ≤ 9223372036854775807) : Ug n = some (Lib.itoa n, ()) := by
 unfold Ug
 by_cases h0 : n = 0
 ·subst h0
  have : Lib.itoa 0 = [48] := by
   unfold Lib.itoa
   rw [if_neg (by omega)]
   show Lib.decDigits 0 = _
   rw [J3 0 (by omega)]
   rfl
  rw [this]
  rfl
 ·have hN := P9 n.natAbs (by omega)
  have hl := Lib.decDigits_length n.natAbs
  rw [show (n == 0) = false by simpa using h0, U6 n n.natAbs n [] (by omega) (by omega) (by omega) (by simp; omega)]
  simp only [zf, jb, qg, yw]
  unfold Lib.itoa
  by_cases hneg : n < 0
  ·rw [Aa hneg, if_pos hneg, Mb (by simp only [jw, j7]; omega)]
   rfl
  ·rw [Ba hneg, if_neg hneg, show n.toNat = n.natAbs by omega]
   rfl
theorem Dm {n : Int} (h : -9223372036854775808 ≤ n ∧ n ≤ 9223372036854775807) : Fg n = some (Lib.itoa n, ()) := by
 unfold Fg strconv_Itoa EQ
 rw [Aa h.1, Aa h.2]
 rfl
theorem Uw {n : Int} (h : -9223372036854775808 ≤ n ∧ n ≤ 9223372036854775807) : (Lib.itoa n).length ≤ 21 := by
 have hN := P9 n.natAbs (by omega)
 have hl := Lib.decDigits_length n.natAbs
 unfold Lib.itoa
 by_cases hneg : n < 0
 ·rw [if_pos hneg]; simp only [jw]; omega
 ·rw [if_neg hneg, show n.toNat = n.natAbs by omega]; omega
theorem Li {l : List (List UInt8)} {by_ : List UInt8} (h1 : l.length ≤ 1073741824) (h2 : (Lib.join l by_).length ≤ 1073741824) : Qf l by_ = some (Lib.join l by_, ()) := by
 unfold Qf strings_Join D2
 rw [ji h1, ji h2]
 rfl
theorem JA {l : List (List UInt8)} {by_ : List UInt8} (h1 : l.length ≤ 1073741824) (h2 : (Lib.join l by_).length ≤ 1073741824) : Zo l by_ = some (Lib.join l by_, ()) := by
 cases l with
 | nil =>
  unfold Zo Um
  rw [Xc (z := some (.inr (.inl (([], ()), ())))) (by simp [Gm])]
  rfl
 | cons x r =>
  rw [Lib.join_cons] at h2 ⊢
  have hlen : ∀ k, (Lib.joinTail by_ (r.take k)).length ≤ (Lib.joinTail by_ r).length := fun k => Lib.joinTail_take_le by_ r k
  simp only [qd] at h2
  have hl := HZ (step := fun y : (List (List UInt8) × List UInt8 × List Int × Int × Unit) × Unit => Gm y.1.1 y.1.2.1 y.1.2.2.1 y.1.2.2.2.1)
   (fun k => ((x :: r, by_, cond (k == 0) [] (Yc (x ++ Lib.joinTail by_ (r.take (k - 1)))), (k : Int), ()), ())) (x :: r).length (.inl ((Yc (x ++ Lib.joinTail by_ r), ()), ())) (by
    intro k hk
    simp only [Gm]
    rw [Aa (show (k : Int) < (((x :: r).length : Nat) : Int) by omega)]
    cases k with
    | zero =>
     rw [Ba (by omega)]
     simp only [ze, zf]
     rw [show ((0 : Nat) : Int) = 0 from rfl, Waj]
     simp only [jb]
     rw [Mb (by simp [Uy]; omega)]
     simp [Lib.joinTail, Gd]
    | succ k =>
     have hk' : k < r.length := by simpa using hk
     rw [Aa (by omega), Ec hk]
     have e : (k + 1 == 0) = false := by simp
     have e2 : (k + 1 + 1 == 0) = false := by simp
     simp only [e, e2, ze, zf, jb, Nat.add_sub_cancel]
     have hr : Lib.joinTail by_ (r.take (k + 1)) = Lib.joinTail by_ (r.take k) ++ (by_ ++ r[k]) := by rw [Lib.joinTail_take_succ by_ r k r[k] (je hk'), q0]
     have h3 := hlen (k + 1)
     rw [hr] at h3
     simp only [qd] at h3
     rw [Mb (by simp only [Uy, qd]; omega)]
     simp only [ze]
     rw [Mb (by simp only [zb, Uy, qd, List.getElem_cons_succ]; omega)]
     simp only [ze, List.getElem_cons_succ, zb]
     rw [hr, Af (by omega)]
     simp [YQ]) (by
    simp only [Gm]
    rw [Ba (by omega)]
    simp)
  unfold Zo Um
  erw [hl]
  simp [PR]
theorem Vw (l : List (List UInt8)) (s : List UInt8) (c : Nat) (h : ∀ x ∈ l, x.length ≤ c) : (Lib.join l s).length ≤ (c + s.length) * l.length := by
 cases l with
 | nil => simp [Lib.join_nil]
 | cons x r =>
  rw [Lib.join_cons, qd, Lib.joinTail_length]
  have h1 := h x (by simp)
  have h2 : Lib.lens r ≤ c * r.length := by
   clear h1
   induction r with
   | nil => simp [Lib.lens]
   | cons y r ih =>
    have := ih (fun z hz => h z (by simp at hz ⊢; rcases hz with hz | hz <;> simp [hz]))
    have h3 := h y (by simp)
    simp only [Lib.lens, yi, List.sum_cons, jw] at this ⊢
    rw [Nat.mul_succ]
    omega
  simp only [jw]
  rw [Nat.mul_succ, yf]
  omega
def Hg (m : Int) : List UInt8 := [[], [67], [83], [67, 83], [65], [67, 65], [83, 65], [67, 83, 65], [71], [67, 71], [83, 71], [67, 83, 71], [65, 71], [67, 65, 71], [83, 65, 71], [67, 83, 65, 71]].getD m.toNat []
theorem H0 : ∀ m : Fin 16, YX (fun x : (Int × List UInt8 × List (List UInt8) × Int × Int × Unit) × Unit => Av x.1.1 x.1.2.1 x.1.2.2.1 x.1.2.2.2.1 x.1.2.2.2.2.1) 10 (((m.val : Int), [], [[67], [83], [65], [71]], 4, 0, ()), ()) = some (.inl ((Hg m.val, ()), ())) := by
 intro m
 simp only [Av]
 revert m
 decide +kernel
theorem T0 : ∀ m : Fin 16, YX (fun x : (Int × List UInt8 × Int × Unit) × Unit => Mo x.1.1 x.1.2.1 x.1.2.2.1) 10 (((m.val : Int), [], 0, ()), ()) = some (.inl ((Hg m.val, ()), ())) := by
 intro m
 simp only [Mo, Rd]
 revert m
 decide +kernel
theorem TH {m : Int} (h : ¬ (1 ≤ m ∧ m ≤ 15)) : Hg m = [] := by
 unfold Hg
 by_cases hm : m < 1
 ·rw [show m.toNat = 0 by omega]; rfl
 ·rw [qf, qt (by simp; omega)]; rfl
theorem Kp (m : Int) : Yh m = some (Hg m, ()) := by
 unfold Yh
 by_cases h1 : m < 1
 ·rw [Aa h1, TH (by omega)]; rfl
 rw [Ba h1, zf]
 by_cases h2 : m > 15
 ·rw [Aa h2, TH (by omega)]; rfl
 rw [Ba h2, zf]
 have := KQ 10 (H0 ⟨m.toNat, by omega⟩)
 rw [show (((⟨m.toNat, by omega⟩ : Fin 16).val : Nat) : Int) = m by show ((m.toNat : Nat) : Int) = m; omega] at this
 unfold Mq
 erw [this]
 rfl
theorem HP (m : Int) : Rl m = some (Hg m, ()) := by
 unfold Rl Wq
 by_cases h : 1 ≤ m ∧ m ≤ 15
 ·have := KQ 10 (T0 ⟨m.toNat, by omega⟩)
  rw [show (((⟨m.toNat, by omega⟩ : Fin 16).val : Nat) : Int) = m by show ((m.toNat : Nat) : Int) = m; omega] at this
  erw [this]
  rfl
 ·rw [Xc (z := some (.inr (.inl (([], ()), ())))) (by
   simp only [Mo]
   rw [Rd, Ba h]
   rfl), TH h]
  rfl
theorem SH (m : Int) : (Hg m).length ≤ 4 := by
 by_cases h : 1 ≤ m ∧ m ≤ 15
 ·have : ∀ m : Fin 16, (Hg m.val).length ≤ 4 := by decide +kernel
  have := this ⟨m.toNat, by omega⟩
  rwa [show (((⟨m.toNat, by omega⟩ : Fin 16).val : Nat) : Int) = m by show ((m.toNat : Nat) : Int) = m; omega] at this
 ·rw [TH h]; simp
theorem RI (c : Int) : (Sf c).length ≤ 5 := by
 unfold Sf
 cases decide (1 ≤ c ∧ c ≤ 56) with
 | false => simp
 | true =>
  have h : ∀ x ∈ Gv, x.length ≤ 5 := by decide +kernel
  rw [ze, qf]
  cases hc : Gv[(c - 1).toNat]? with
  | none => simp
  | some y => exact h y (List.mem_of_getElem? hc)
def WX (r : Ca) : List UInt8 := cond (Ic r) (jf (jf (Hg r.1) [58]) (Lib.join (r.2.1.map Sf) [44])) []
theorem PA {r : Ca} (h : Ic r = true) : r.2.1.length ≤ 56 := by
 unfold Ic at h
 simp only [jd] at h
 have h2 := Fp.1 h.2
 have key : ∀ j (hj : j < r.2.1.length), (j : Int) + 1 ≤ r.2.1[j] ∧ r.2.1[j] ≤ 56 := by
  intro j
  induction j with
  | zero =>
   intro hj
   have := h2 0 hj
   simp only [Zw, jd, decide_eq_true_eq] at this
   omega
  | succ j ih =>
   intro hj
   have h3 := ih (by omega)
   have := h2 (j + 1) hj
   simp only [Zw, jd, qx, yj, decide_eq_true_eq, decide_eq_false_iff_not] at this
   have e : r.2.1.getD (0 + (j + 1) - 1) 0 = r.2.1[j] := by
    rw [show 0 + (j + 1) - 1 = j by omega, qf, je (by omega)]; rfl
   rw [e] at this
   omega
 apply Classical.byContradiction
 intro hn
 have := key 56 (by omega)
 omega
theorem AZ {r : Ca} (h : Ic r = true) : (Lib.join (r.2.1.map Sf) [44]).length ≤ 336 := by
 have h1 := Vw (r.2.1.map Sf) [44] 5 (fun x hx => by
  obtain ⟨c, _, rfl⟩ := qk.1 hx
  exact RI c)
 have h2 := PA h
 simp only [yp, jw, j7] at h1
 omega
theorem KS (r : Ca) : (WX r).length ≤ 341 := by
 unfold WX
 cases h : Ic r with
 | false => simp
 | true =>
  have := AZ h
  have := SH r.1
  simp only [ze, zb, qd, jw, j7]
  omega
theorem DB (r : Ca) (hn : r.2.1.length ≤ Ka) : Fm r = some (WX r, ()) := by
 have h20 : Ka = 1048576 := rfl
 unfold Fm WX
 rw [Rt r hn]
 cases hv : Ic r with
 | false => rfl
 | true =>
  simp only [jb, jg, zf, ze]
  have hk := PA hv
  have hl := Wm (step := fun x : (Unit × List (List UInt8) × List Int × Int × Int × Unit) × Ca × Unit => Il x.1.1 x.1.2.1 x.1.2.2.1 x.1.2.2.2.1 x.1.2.2.2.2.1 x.2.1) r.2.1 Sf
   (fun o k => (((), o, r.2.1, (r.2.1.length : Int), k, ()), (r, ()))) (fun o => .inl (((), o, ()), (r, ()))) (by omega) (fun k hk o ho => by
    simp only [Il]
    rw [Aa (by omega), Ec hk]
    simp only [ze, jb]
    rw [Mt]
    simp only [jb]
    rw [Mb (by simp only [jw, j7]; omega)]
    rfl) (fun o => by
    simp only [Il]
    rw [Ba (by omega)]
    rfl)
  unfold Qn
  erw [hl]
  simp only [jb, qg]
  rw [Kp]
  have h1 := SH r.1
  have h2 := AZ hv
  simp only [jb]
  rw [Mb (by simp only [jw, j7]; omega)]
  simp only [ze]
  rw [Li (by simp; omega) (by omega)]
  simp only [jb]
  rw [Mb (by simp only [zb, qd, jw, j7]; omega)]
  rfl
def LQ (x : Xd) : List UInt8 := jf (jf (Lib.itoa x.1) [32]) (WX x.2.1)
def DP (l : List Xd) : List UInt8 := cond (((ja l : Nat) : Int) == 0) [45] (Lib.join (l.map LQ) [59, 32])
theorem Vaf {x : Xd} (h : -9223372036854775808 ≤ x.1 ∧ x.1 ≤ 9223372036854775807) : (LQ x).length ≤ 363 := by
 have h1 := Uw h
 have h2 := KS x.2.1
 unfold LQ
 simp only [zb, qd, jw, j7]
 omega
theorem YU {l : List Xd} (h : ∀ x ∈ l, -9223372036854775808 ≤ x.1 ∧ x.1 ≤ 9223372036854775807) : (Lib.join (l.map LQ) [59, 32]).length ≤ 365 * l.length := by
 have h1 := Vw (l.map LQ) [59, 32] 363 (fun x hx => by
  obtain ⟨c, hc, rfl⟩ := qk.1 hx
  exact Vaf (h c hc))
 simp only [yp, jw, j7] at h1
 exact h1
theorem HO (l : List Xd) (h : ∀ x ∈ l, -9223372036854775808 ≤ x.1 ∧ x.1 ≤ 9223372036854775807) (hk : ∀ x ∈ l, x.2.1.2.1.length ≤ Ka) (hn : l.length ≤ Ka) : Jl l = some (DP l, ()) := by
 have h20 : Ka = 1048576 := rfl
 unfold Jl DP
 cases hc : ((ja l : Nat) : Int) == 0 with
 | true => rfl
 | false =>
  rw [zf, zf]
  have hl := Wm (step := fun x : (List (List UInt8) × List Xd × Int × Int × Unit) × Unit => Io x.1.1 x.1.2.1 x.1.2.2.1 x.1.2.2.2.1) l LQ
   (fun o k => ((o, l, (l.length : Int), k, ()), ())) (fun o => .inl ((o, ()), ())) (by omega) (fun k hk2 o ho => by
    have hm : l[k] ∈ l := qi hk2
    have h1 := Uw (h _ hm)
    have h2 := KS l[k].2.1
    simp only [Io]
    rw [Aa (by omega), Ec hk2]
    simp only [ze, jb]
    rw [Dm (h _ hm)]
    simp only [jb]
    rw [Mb (by simp only [jw, j7]; omega)]
    simp only [ze]
    rw [DB _ (hk _ hm)]
    simp only [jb]
    rw [Mb (by simp only [zb, qd, jw, j7]; omega)]
    simp only [ze]
    rw [Mb (by simp only [jw, j7]; omega)]
    rfl) (fun o => by
    simp only [Io]
    rw [Ba (by omega)]
    rfl)
  unfold Nq
  erw [hl]
  simp only [jb, qg]
  have := YU h
  rw [Li (by simp; omega) (by omega)]
  rfl
def AK (a : Ca) (o : List Int) (x : Int) : List Int := cond (!a.2.1.any (fun y => y == x)) (jf o [x]) o
def VO (a b : Ca) : List Int := cond (Ic a && Ic b) (Lc (fun _ o x => AK a o x) 0 [] b.2.1) []
theorem A5 (a : Ca) : ∀ (l : List Int) (k : Nat) (o : List Int), (Lc (fun _ o x => AK a o x) k o l).length ≤ o.length + l.length
 | [], _, o => by simp [Lc]
 | x :: r, k, o => by
  simp only [Lc]
  have := A5 a r (k + 1) (AK a o x)
  have h2 : (AK a o x).length ≤ o.length + 1 := by unfold AK; cases !a.2.1.any (fun y => y == x) <;> simp
  simp only [jw]
  omega
theorem B5 (a b : Ca) : (VO a b).length ≤ 56 := by
 unfold VO
 cases ha : Ic a with
 | false => simp
 | true =>
  cases hb : Ic b with
  | false => simp
  | true =>
   have := A5 a b.2.1 0 []
   have := PA hb
   simp only [Bool.and_self, ze]
   simp at *
   omega
theorem BV (a b : Ca) (ha : a.2.1.length ≤ Ka) (hb : b.2.1.length ≤ Ka) : EB a b = some (VO a b, ()) := by
 have h20 : Ka = 1048576 := rfl
 have hlim := Vh
 unfold EB VO
 rw [Rt a ha]
 cases Ic a with
 | false => rfl
 | true =>
  simp only [jb, jg, zf, jk]
  rw [Rt b hb]
  cases Ic b with
  | false => rfl
  | true =>
   simp only [jb, jg, zf, ze]
   have hl := (Bg (step := fun x : (Unit × List Int × List Int × Int × Int × Unit) × Ca × Unit => St x.1.1 x.1.2.1 x.1.2.2.1 x.1.2.2.2.1 x.1.2.2.2.2.1 x.2.1) b.2.1 (fun _ o x => AK a o x)
    (fun o k => (((), o, b.2.1, (b.2.1.length : Int), k, ()), (a, ()))) (fun o => .inl ((o, ()), ())) (fun k o => o.length ≤ k) (fun k hk o ho => by
     have hg : (AK a o b.2.1[k]).length ≤ k + 1 := by
      have : (AK a o b.2.1[k]).length ≤ o.length + 1 := by unfold AK; cases !a.2.1.any (fun y => y == b.2.1[k]) <;> simp
      omega
     refine ⟨?_, hg⟩
     simp only [St]
     rw [Aa (by omega), Ec hk]
     simp only [ze, jb]
     rw [YK _ _ (by omega)]
     simp only [jb, AK]
     cases !a.2.1.any (fun y => y == b.2.1[k]) with
     | false => rfl
     | true =>
      simp only [ze]
      rw [Mb (by simp only [jw, j7]; omega)]
      rfl) (fun o ho => by
     simp only [St]
     rw [Ba (by omega)]
     rfl) (by omega) [] (by simp)).1
   unfold Cv
   erw [hl]
   rfl
theorem VY (c m : Int) : (OD c m).length ≤ 1 := by
 have h0 : ∀ x ∈ Jae, x.length ≤ 1 := by decide +kernel
 have h2 : ∀ x ∈ Kae, x.length ≤ 1 := by decide +kernel
 have hg : ∀ (l : List (List UInt8)) (i : Nat), (∀ x ∈ l, x.length ≤ 1) → (l.getD i []).length ≤ 1 := by
  intro l i h
  rw [qf]
  cases hc : l[i]? with
  | none => simp
  | some y => exact h y (List.mem_of_getElem? hc)
 unfold OD
 cases m == 0 with
 | true => exact hg _ _ h0
 | false =>
  cases m == 2 with
  | true => exact hg _ _ h2
  | false => simp
def Y5 (m : Int) (o : List UInt8) (k : Int) : List UInt8 := jf o (OD k m)
def tyF (m : Int) (o : List UInt8) (l : List Int) : List UInt8 := Lc (fun _ o k => Y5 m o k) 0 o l
theorem F7 (m : Int) : ∀ (l : List Int) (k : Nat) (o : List UInt8), (Lc (fun _ o k => Y5 m o k) k o l).length ≤ o.length + l.length
 | [], _, o => by simp [Lc]
 | x :: r, k, o => by
  simp only [Lc]
  have := F7 m r (k + 1) (Y5 m o x)
  have h2 : (Y5 m o x).length ≤ o.length + 1 := by
   have := VY x m
   simp [Y5]; omega
  simp only [jw]
  omega
def Z5 (s : Ca × List UInt8) (r : Ca) : Ca × List UInt8 := (r, tyF r.1 s.2 (VO s.1 r))
def A6 (a : Ca) (l : List Ca) : List UInt8 := (Lc (fun _ s r => Z5 s r) 0 (a, []) l).2
structure T2 (k : Nat) (s : Ca × List UInt8) : Prop where
 r : s.1.2.1.length ≤ Ka
 t : s.2.length ≤ 56 * k
theorem B6 {k : Nat} {s : Ca × List UInt8} (h : T2 k s) {r : Ca} (hr : r.2.1.length ≤ Ka) : T2 (k + 1) (Z5 s r) := by
 refine ⟨hr, ?_⟩
 have h1 := F7 r.1 (VO s.1 r) 0 s.2
 have h2 := B5 s.1 r
 have h3 := h.t
 show (tyF r.1 s.2 (VO s.1 r)).length ≤ _
 unfold tyF
 omega
theorem Lal {a : Ca} {l : List Ca} (ha : a.2.1.length ≤ Ka) (hl : ∀ r ∈ l, r.2.1.length ≤ Ka) : (A6 a l).length ≤ 56 * l.length := by
 have : ∀ (l : List Ca) (k : Nat) (s : Ca × List UInt8), (∀ r ∈ l, r.2.1.length ≤ Ka) → T2 k s → T2 (k + l.length) (Lc (fun _ s r => Z5 s r) k s l) := by
  intro l
  induction l with
  | nil => intro k s _ h; exact h
  | cons x r ih =>
   intro k s hl h
   have := ih (k + 1) (Z5 s x) (fun y hy => hl y (by simp [hy])) (B6 h (hl x (by simp)))
   rw [show k + (x :: r).length = k + 1 + r.length by simp; omega]
   exact this
 have := (this l 0 (a, []) hl ⟨ha, by simp⟩).t
 unfold A6
 simpa using this
theorem A0 (a r : Ca) (L : List Ca) (n i : Int) (l : List Int) (hl : l.length ≤ 56) (o : List UInt8) (ho : o.length ≤ 100000000) :
 As (((), o, (), L, n, i, l, ((ja l : Nat) : Int), (0 : Int), ()), (a, r, ())) = some (.inl (((), tyF r.1 o l, (), L, n, i, ()), (a, r, ()))) := by
 have h := (Bg (step := fun x : (Unit × List UInt8 × Unit × List Ca × Int × Int × List Int × Int × Int × Unit) × Ca × Ca × Unit => Up x.1.1 x.1.2.1 x.1.2.2.1 x.1.2.2.2.1 x.1.2.2.2.2.1 x.1.2.2.2.2.2.1 x.1.2.2.2.2.2.2.1 x.1.2.2.2.2.2.2.2.1 x.1.2.2.2.2.2.2.2.2.1 x.2.1 x.2.2.1) l (fun _ o k => Y5 r.1 o k)
  (fun o k => (((), o, (), L, n, i, l, (l.length : Int), k, ()), (a, r, ()))) (fun o => .inl (((), o, (), L, n, i, ()), (a, r, ()))) (fun k o' => o'.length ≤ o.length + k) (fun k hk o' ho' => by
   have hc := VY l[k] r.1
   refine ⟨?_, by simp only [Y5, zb, qd]; omega⟩
   simp only [Up]
   rw [Aa (by omega), Lg, Aa hk]
   simp only [ze, jn]
   rw [je hk]
   simp only [jb]
   rw [BX]
   simp only [jb]
   rw [Mb (by omega)]
   rfl) (fun o' ho' => by
   simp only [Up]
   rw [Ba (by omega)]
   rfl) (by omega) o (by omega)).1
 exact h





def tri (i j : Nat) : Nat := if i ≤ j then j * (j + 1) / 2 + i else i * (i + 1) / 2 + j
def ZF (e i j : Nat) : Bool := e.testBit (tri i j)
def BaA (e s t : Nat) : Bool :=
 (s.testBit 0 && (t.testBit 0 && ZF e 0 0 || t.testBit 1 && ZF e 0 1 || (t.testBit 2 && ZF e 0 2 || t.testBit 3 && ZF e 0 3)) || s.testBit 1 && (t.testBit 0 && ZF e 1 0 || t.testBit 1 && ZF e 1 1 || (t.testBit 2 && ZF e 1 2 || t.testBit 3 && ZF e 1 3))) ||
 (s.testBit 2 && (t.testBit 0 && ZF e 2 0 || t.testBit 1 && ZF e 2 1 || (t.testBit 2 && ZF e 2 2 || t.testBit 3 && ZF e 2 3)) || s.testBit 3 && (t.testBit 0 && ZF e 3 0 || t.testBit 1 && ZF e 3 1 || (t.testBit 2 && ZF e 3 2 || t.testBit 3 && ZF e 3 3)))
def KaD (e a b s : Nat) : Nat := cond (BaA e (rowN 4 s a) (rowN 4 s b)) (s ||| rowN 4 s b <<< (a * 4)) s
def a3 (e a : Nat) : Nat → Nat → Nat := fun b s => KaD e a b s
def a2 (e R : Nat) : Nat → Nat → Nat := fun a s => CA (a3 e a) R s
def a1 (e R : Nat) : Nat → Nat → Nat := fun _ s => CA (a2 e R) R s

theorem B0 {a : Ca} {l : List Ca} (ha : a.2.1.length ≤ Ka) (hl : ∀ r ∈ l, r.2.1.length ≤ Ka) (hn : l.length ≤ Ka) : Sx a l = some (A6 a l, ()) := by
 have h20 : Ka = 1048576 := rfl
 have h := (Bg (step := fun x : (Unit × List UInt8 × List Ca × Int × Int × Unit) × Ca × Unit => Tp x.1.1 x.1.2.1 x.1.2.2.1 x.1.2.2.2.1 x.1.2.2.2.2.1 x.2.1) l (fun _ s r => Z5 s r)
  (fun s k => (((), s.2, l, (l.length : Int), k, ()), (s.1, ()))) (fun s => .inl ((s.2, ()), ())) T2 (fun k hk s hs => by
   have hm : l[k] ∈ l := qi hk
   refine ⟨?_, B6 hs (hl _ hm)⟩
   have ht := hs.t
   simp only [Tp]
   rw [Aa (by omega), Ec hk]
   simp only [ze, jb]
   rw [BV _ _ hs.r (hl _ hm)]
   simp only [jb]
   rw [A0 s.1 l[k] l (l.length : Int) (k : Int) (VO s.1 l[k]) (B5 _ _) s.2 (by omega)]
   rfl) (fun s hs => by
   simp only [Tp]
   rw [Ba (by omega)]
   rfl) (by omega) (a, []) ⟨ha, by simp⟩).1
 unfold Sx Zr
 erw [h]
 rfl
def EaH : Qb := (((0 : Int), ([] : List (List Ga)), ()), ([] : List (List Lb)), (0 : Int), ([] : List Ma), (0 : Int), false, ())
noncomputable def EL (e : Qb) (t : Lb) : Ib × (Bool × Unit) := cond (Pc (XN e t)) (XN e t, true, ()) (Qy, false, ())
theorem Sao (e : Qb) (t : Lb) : Eb Pe (XN e t) = Eb Rc e := by
 rw [QK]
 show Eb Rc e + Eb (.sl Ws) [] = _
 rw [HD]; rfl
theorem LN (e : Qb) (t : Lb) (hz : Eb Rc e ≤ Ka) : Ov e t = some (EL e t) := by
 unfold Ov EL
 rw [Vp _ hz]
 simp only [jb]
 have := Ey (XN e t) (by rw [Sao]; exact hz)
 unfold XN at this
 rw [this]
 unfold XN
 cases Pc (e, t, ([] : List Wa), (0 : Int), (0 : Int), (0 : Int), (0 : Int), ()) <;> rfl
def Qo (m : Ha) (M : List (List Lb)) : Qb := (m, M, (0 : Int), ([] : List Ma), (0 : Int), false, ())
theorem Wao {m : Ha} {M : List (List Lb)} (hm : Gc m = true) (h4 : M.length ≤ 4) (hM : ∀ x ∈ M, Vc x = true) : Hm (Qo m M) :=
 ⟨hm, h4, (Uao hm).hd, hM, fun x hx => absurd hx (by simp [Qo]), Cav _⟩
structure JK (keys : Nat) (t0 : Int) (m0 : Nat) (l : List Wa) (t : Int) (m : Nat) : Prop where
 f : Ob (fun _ s x => Ho (keys : Int) s x) 0 (t0, (m0 : Int)) l = .inl (t, (m : Int))
 m0 : m0 < 2 ^ 63
 m : m < 2 ^ 63
theorem Qat (keys : Nat) (t : Int) {m : Nat} (hm : m < 2 ^ 63) : JK keys t m [] t m := ⟨rfl, hm, hm⟩
theorem AO {keys : Int} {s s' : Int × Int} {x : Wa} (h : Ho keys s x = .inl s') : Hp s x = true ∧ x.2.1 < keys ∧ s' = (x.1, Yn .i64 s.2 (Ke .i64 1 x.2.1)) := by
 unfold Ho at h
 revert h
 cases h1 : Hp s x with
 | false => intro h; simp at h
 | true =>
  by_cases h2 : x.2.1 ≥ keys
  ·rw [Aa h2]; intro h; simp at h
  ·rw [Ba h2]
   intro h
   simp only [j8, Bool.and_self, ze, yz] at h
   exact ⟨rfl, by omega, h.symm⟩
theorem WW {s : Int × Int} {x : Wa} (h : Hp s x = true) : Ni x = true ∧ s.1 ≤ x.1 ∧ (x.2.2.1 == (Gk s.2 x.2.1 == 1)) = false := by
 simp only [Hp, jd, yj, decide_eq_false_iff_not] at h
 exact ⟨h.1, by have := h.2.1; omega, h.2.2⟩
theorem SK {keys : Nat} {t0 t : Int} {m0 m : Nat} {x : Wa} {l : List Wa} (h : JK keys t0 m0 (x :: l) t m) : ∃ k : Nat, x.2.1 = (k : Int) ∧ k < keys ∧ k ≤ 31 ∧ t0 ≤ x.1 ∧ 0 ≤ x.1 ∧ x.1 ≤ 1000000 ∧
 (x.2.2.1 == (m0.testBit k)) = false ∧ JK keys x.1 (m0 ^^^ 2 ^ k) l t m := by
 have hf := h.f
 simp only [Ob] at hf
 cases hx : Ho (keys : Int) (t0, (m0 : Int)) x with
 | inr u => rw [hx] at hf; simp at hf
 | inl s' =>
  rw [hx] at hf
  obtain ⟨h1, h2, rfl⟩ := AO hx
  obtain ⟨h3, h4, h5⟩ := WW h1
  have hk := Gp h3
  obtain ⟨k, hk'⟩ := jv hk.2.2.1
  have hk' : x.2.1 = (k : Int) := hk'
  simp only [hk'] at hf h5
  rw [YG h.m0 (by omega)] at h5
  rw [Uu (by omega), SS h.m0 (NB (by omega)), XJ (Ho (keys : Int)) l 1 0] at hf
  exact ⟨k, hk', by omega, by omega, h4, hk.1, hk.2.1, h5, ⟨hf, Nat.xor_lt_two_pow h.m0 (NB (by omega)), h.m⟩⟩
theorem Tac {keys : Nat} : ∀ {l : List Wa} {t0 t : Int} {m0 m : Nat}, JK keys t0 m0 l t m → t0 ≤ t
 | [], t0, t, m0, m, h => by have := h.f; simp only [Ob, yz, jh] at this; omega
 | x :: l, t0, t, m0, m, h => by
  obtain ⟨k, _, _, _, h1, _, _, _, h2⟩ := SK h
  have := Tac h2
  omega
theorem UW {keys : Nat} : ∀ {l : List Wa} {t0 t : Int} {m0 m : Nat}, JK keys t0 m0 l t m → l ≠ [] → Qz l = t ∧ 0 ≤ t ∧ t ≤ 1000000
 | [], _, _, _, _, _, h => absurd rfl h
 | [x], t0, t, m0, m, h, _ => by
  obtain ⟨k, _, _, _, h1, h3, h4, _, h2⟩ := SK h
  have := h2.f
  simp only [Ob, yz, jh] at this
  refine ⟨?_, by omega, by omega⟩
  show x.1 = t
  exact this.1
 | x :: y :: l, t0, t, m0, m, h, _ => by
  obtain ⟨k, _, _, _, h1, _, _, _, h2⟩ := SK h
  obtain ⟨h3, h4⟩ := UW h2 (by simp)
  refine ⟨?_, h4⟩
  rw [← h3]
  simp [Qz]
theorem L7 {keys : Nat} {t0 t : Int} {m0 m : Nat} (h : JK keys t0 m0 [] t m) : t = t0 ∧ m = m0 := by
 have := h.f
 simp only [Ob, yz, jh] at this
 exact ⟨this.1.symm, by omega⟩
theorem Sac {keys : Nat} {l : List Wa} {t0 t0' t : Int} {m0 m : Nat} (h : JK keys t0 m0 l t m) (hle : t0' ≤ t0) : ∃ t', t' ≤ t ∧ JK keys t0' m0 l t' m := by
 cases l with
 | nil =>
  obtain ⟨rfl, rfl⟩ := L7 h
  exact ⟨t0', hle, Qat _ _ h.m0⟩
 | cons x l =>
  refine ⟨t, Int.le_refl _, ?_, h.m0, h.m⟩
  have hf := h.f
  simp only [Ob] at hf ⊢
  cases hx : Ho (keys : Int) (t0, (m0 : Int)) x with
  | inr u => rw [hx] at hf; simp at hf
  | inl s' =>
   rw [hx] at hf
   obtain ⟨h1, h2, rfl⟩ := AO hx
   obtain ⟨h3, h4, h5⟩ := WW h1
   have : Ho (keys : Int) (t0', (m0 : Int)) x = .inl (x.1, Yn .i64 (m0 : Int) (Ke .i64 1 x.2.1)) := by
    unfold Ho Hp
    simp only at h4 h5 ⊢
    rw [h3, Ba (show ¬ t0' > x.1 by omega), h5, Ba (show ¬ x.2.1 ≥ (keys : Int) by omega)]
    rfl
   rw [this]
   exact hf
theorem Xao {keys : Nat} {l : List Wa} {t0 t : Int} {m0 m : Nat} (h : JK keys t0 m0 l t m) (h0 : 0 ≤ t0) (hl : l.length ≤ 64) : Sd l (m0 : Int) (keys : Int) = true := by
 obtain ⟨t', _, h'⟩ := Sac h h0
 have h2 := RD (keys : Int) l 0 (0, (m0 : Int))
 rw [h'.f] at h2
 have h3 := h2.symm
 simp only [Is, jd] at h3
 unfold Sd QH OA A4
 rw [h3.1, Aa hl]
 have h4 := h3.2
 cases hx : Ob (fun _ s x => Iw s x) 0 (0, (m0 : Int)) l with
 | inl s => rfl
 | inr u => rw [hx] at h4; simp [Is] at h4
theorem Qaf {keys : Nat} {l : List Wa} {t0 t til : Int} {m0 m : Nat} (h : JK keys t0 m0 l t m) (ht : t ≤ til) : Uh l til = true := by
 unfold Uh
 by_cases hl : l = []
 ·subst hl; rfl
 ·have := (UW h hl).1
  rw [Aa (show Qz l ≤ til by omega)]
  simp
structure UR (N keys : Nat) (d : Ib) : Prop where
 pl : PL d
 ks : d.1.1.1 = (keys : Int)
 mac : ∀ x ∈ d.1.2.1, x.length ≤ N
 tim : Ti d.2.1 = true
 now : 0 ≤ d.2.2.2.1 ∧ d.2.2.2.1 ≤ 1000000
 clk : 0 ≤ d.2.2.2.2.1 ∧ d.2.2.2.2.1 ≤ d.2.2.2.1
 tp : 0 ≤ d.2.2.2.2.2.1 ∧ d.2.2.2.2.2.1 ≤ (keys : Int)
 ta : 0 ≤ d.2.2.2.2.2.2.1 ∧ d.2.2.2.2.2.2.1 ≤ d.2.2.2.1
 q : ∃ (t0 t : Int) (m0 m : Nat), Cw d.1.2.2.2.1 m0 ∧ JK keys t0 m0 d.2.2.1 t m ∧ 0 ≤ t0 ∧ t ≤ d.2.2.2.1
theorem Dah {l : List Ma} {m m' : Nat} (h : Cw l m) (h' : Cw l m') : m = m' := Nat.eq_of_testBit_eq fun j => by rw [h.bit, h'.bit]
theorem Mat {N keys : Nat} {d : Ib} (h : UR N keys d) : Pc d = true := by
 obtain ⟨t0, t, m0, m, h1, h2, h3, h4⟩ := h.q
 obtain ⟨m1, h5, h6⟩ := LX h.pl.eng.hd
 obtain rfl := Dah h1 h6
 have hE := (RG _).2 h.pl.eng
 have hF := Xao h2 h3 h.pl.len
 have hB := Qaf h2 h4
 have a1 := h.now; have a2 := h.clk; have a3 := h.tp; have a4 := h.ta; have a5 := h.ks
 unfold Pc
 rw [hE, h.tim, h5, a5, hF, hB, Aa a1, Aa a2, Aa a3, Aa a4]
 rfl
theorem YY {α S R : Type} (g : S → α → S ⊕ R) : ∀ (l : List α) (k : Nat) (s : S) (r : R), Ob (fun _ s x => g s x) k s l = .inr r → ∃ x ∈ l, ∃ s', g s' x = .inr r
 | [], k, s, r, h => by simp [Ob] at h
 | x :: l, k, s, r, h => by
  simp only [Ob] at h
  cases hx : g s x with
  | inr r' => rw [hx] at h; simp only [Sum.inr.injEq] at h; subst h; exact ⟨x, by simp, s, hx⟩
  | inl s' =>
   rw [hx] at h
   obtain ⟨y, hy, s2, h2⟩ := YY g l (k + 1) s' r h
   exact ⟨y, jr _ hy, s2, h2⟩
theorem Haf {t : HC} {key at_ : Int} {l : List Wa} {til : Int} (hl : ∀ x ∈ l, x.1 ≤ til) (h : (Qh t key at_ l til).1 ≠ 0) : (Qh t key at_ l til).2.1 ≤ til := by
 revert h
 unfold Qh
 cases Ti t && decide (0 ≤ at_ ∧ at_ ≤ 1000000) with
 | false => intro h; exact absurd rfl h
 | true =>
  simp only [ze]
  generalize j5 .i64 (at_ + t.1) = e
  cases hc : chR t.2.2.1 key e l with
  | inl s =>
   by_cases h1 : til ≥ e
   ·rw [Aa h1]; intro _; exact h1
   ·rw [Ba h1]; intro h; exact absurd rfl h
  | inr r =>
   intro h
   show r.2 ≤ til
   obtain ⟨x, hx, s, hg⟩ := YY (OU t.2.2.1 key e) l 0 0 r hc
   have hxl := hl x hx
   have h' : r.1 ≠ 0 := h
   unfold OU at hg
   revert hg
   cases Ni x with
   | false => intro hg; simp only [zf, Sum.inr.injEq] at hg; subst hg; exact absurd rfl h'
   | true =>
    simp only [ze]
    by_cases he : x.1 ≥ e
    ·rw [Aa he]; intro hg; simp only [ze, Sum.inr.injEq] at hg; subst hg; show e ≤ til; omega
    ·rw [Ba he]
     simp only [zf]
     cases x.2.1 == key <;> cases x.2.2.1 <;> cases t.2.2.1 == 1 <;> cases t.2.2.1 == 2 <;> cases Gk s x.2.1 == 1 <;> (intro hg; simp only [ze, zf, Sum.inr.injEq, reduceCtorEq] at hg; try (subst hg; exact hxl))
theorem R3 {keys : Nat} : ∀ {l : List Wa} {t0 t : Int} {m0 m : Nat}, JK keys t0 m0 l t m → ∀ x ∈ l, x.1 ≤ t
 | [], _, _, _, _, _, x, hx => absurd hx (by simp)
 | y :: l, t0, t, m0, m, h, x, hx => by
  obtain ⟨j, hj, h1, h2, h3, h4, h5, h6, h7⟩ := SK h
  rcases jp.1 hx with rfl | hx
  ·exact Tac h7
  ·exact R3 h7 x hx
theorem SY {N keys : Nat} {d d' : Ib} {x : Wa} {r : List Wa} {l : List Ca} (h : UR N keys d) (hq : d.2.2.1 = x :: r) (hs : Ns d x r = some (d', l)) :
 UR N keys d' ∧ d'.2.2.1 = r ∧ d'.2.2.2.1 = d.2.2.2.1 ∧ d'.2.1 = d.2.1 ∧ d'.1.1 = d.1.1 := by
 have hN := Aaa h.pl hq hs
 have hF := CM h.pl hq
 obtain ⟨t0, t, m0, m, hm, hE, h0, ht⟩ := h.q
 rw [hq] at hE
 obtain ⟨k, hk, hkk, hk31, hx0, hx1, hx2, hdn, hR⟩ := SK hE
 have hxt := Tac hR
 have hp := ((IH d.1.2.2.2.1).1 h.pl.eng.hd).2
 have hrl : ∀ y ∈ r, y.1 ≤ d.2.2.2.1 := fun y hy => by have := R3 hR y hy; omega
 have b1 := h.clk; have b2 := h.tp; have b3 := h.ta; have b4 := h.now
 have hks : keys ≤ 32 := by have := (Hd h.pl.eng.km).k2; have := h.ks; omega
 have hw : j5 .i64 (x.2.1 + 1) = (k : Int) + 1 := by rw [hk, Gd (by omega) (by omega)]
 have press : ∀ b : Bool, x.2.2.1 = true → Cw (pE d.1 k b).2.2.2.1 (m0 ^^^ 2 ^ k) := by
  intro b hd
  have hn2 := hF.down hd
  refine OV hm (by omega) ?_ _
  cases hh : Jw d.1.2.2.2.1 k with
  | false => rfl
  | true =>
   simp only [Jw, qy, beq_iff_eq] at hh
   obtain ⟨y, hy, hyk⟩ := hh
   exact absurd (hyk.trans hk.symm) (hn2 y hy)
 unfold Ns at hs
 cases hd : x.2.2.1 with
 | false =>
  rw [hd] at hs
  simp only [j8, ze, jc, jh] at hs
  obtain ⟨rfl, rfl⟩ := hs
  obtain ⟨hi, hi1, hi2⟩ := hF.up hd
  refine ⟨⟨hN.1, h.ks, h.mac, h.tim, b4, ?_, b2, ?_, x.1, t, _, m, SO hp hm (by omega) hi (by rw [hi2, hk]), hR, hx1, ht⟩, rfl, rfl, rfl, rfl⟩
  ·show 0 ≤ max d.2.2.2.2.1 x.1 ∧ max d.2.2.2.2.1 x.1 ≤ d.2.2.2.1
   omega
  ·show 0 ≤ cond (d.2.2.2.2.2.1 == j5 .i64 (x.2.1 + 1)) x.1 d.2.2.2.2.2.2.1 ∧ cond (d.2.2.2.2.2.1 == j5 .i64 (x.2.1 + 1)) x.1 d.2.2.2.2.2.2.1 ≤ d.2.2.2.1
   cases d.2.2.2.2.2.1 == j5 .i64 (x.2.1 + 1)
   ·exact b3
   ·show 0 ≤ x.1 ∧ x.1 ≤ d.2.2.2.1; omega
 | true =>
  rw [hd, hw, hk] at hs
  simp only [jg, zf, jn] at hs
  cases htp : Mf (Ph d.1.1.2.1 (Kf d.1.1 (Pj d.1.2.2.1 d.1.2.2.2.1) k) k) with
  | false =>
   rw [htp] at hs
   simp only [zf, jc, jh] at hs
   obtain ⟨rfl, rfl⟩ := hs
   refine ⟨⟨hN.1, h.ks, h.mac, h.tim, b4, ?_, b2, b3, x.1, t, _, m, press false hd, hR, hx1, ht⟩, rfl, rfl, rfl, rfl⟩
   show 0 ≤ max d.2.2.2.2.1 x.1 ∧ max d.2.2.2.2.1 x.1 ≤ d.2.2.2.1
   omega
  | true =>
   rw [htp] at hs
   simp only [ze] at hs
   have hch : ∀ ch : Int × Int, ch = (cond ((d.2.2.2.2.2.1 == (k : Int) + 1) && !decide (j5 .i64 (x.1 - d.2.2.2.2.2.2.1) ≥ d.2.1.2.1)) ((1 : Int), x.1) ((Qh d.2.1 (k : Int) x.1 r d.2.2.2.1).1, (Qh d.2.1 (k : Int) x.1 r d.2.2.2.1).2.1)) → ch.1 ≠ 0 → ch.2 ≤ d.2.2.2.1 := by
    rintro ch rfl
    cases (d.2.2.2.2.2.1 == (k : Int) + 1) && !decide (j5 .i64 (x.1 - d.2.2.2.2.2.2.1) ≥ d.2.1.2.1) with
    | true => intro _; show x.1 ≤ _; omega
    | false => intro h0; exact Haf hrl h0
   revert hs
   generalize hche : (cond ((d.2.2.2.2.2.1 == (k : Int) + 1) && !decide (j5 .i64 (x.1 - d.2.2.2.2.2.2.1) ≥ d.2.1.2.1)) ((1 : Int), x.1) ((Qh d.2.1 (k : Int) x.1 r d.2.2.2.1).1, (Qh d.2.1 (k : Int) x.1 r d.2.2.2.1).2.1)) = ch
   have hcl := hch ch hche.symm
   intro hs
   cases h0' : ch.1 == 0 with
   | true => rw [h0'] at hs; simp at hs
   | false =>
    have hcl := hcl (by simpa using h0')
    rw [h0'] at hs
    simp only [zf, jc, jh] at hs
    obtain ⟨rfl, rfl⟩ := hs
    refine ⟨⟨hN.1, h.ks, h.mac, h.tim, b4, ?_, ?_, ?_, x.1, t, _, m, press _ hd, hR, hx1, ht⟩, rfl, rfl, rfl, rfl⟩
    ·show 0 ≤ max (max d.2.2.2.2.1 x.1) ch.2 ∧ max (max d.2.2.2.2.1 x.1) ch.2 ≤ d.2.2.2.1
     omega
    ·show 0 ≤ cond (ch.1 == 2) 0 ((k : Int) + 1) ∧ cond (ch.1 == 2) 0 ((k : Int) + 1) ≤ (keys : Int)
     cases ch.1 == 2
     ·show 0 ≤ (k : Int) + 1 ∧ (k : Int) + 1 ≤ _; omega
     ·show 0 ≤ (0 : Int) ∧ (0 : Int) ≤ _; omega
    ·show 0 ≤ cond (ch.1 == 2) d.2.2.2.2.2.2.1 x.1 ∧ cond (ch.1 == 2) d.2.2.2.2.2.2.1 x.1 ≤ d.2.2.2.1
     cases ch.1 == 2
     ·show 0 ≤ x.1 ∧ x.1 ≤ _; omega
     ·exact b3
theorem K3 {N keys : Nat} : ∀ (n : Nat) (d : Ib) (s : List Xd), UR N keys d → UR N keys (Pf n d s).1 ∧ (Pf n d s).1.2.2.1.length ≤ d.2.2.1.length ∧ (Pf n d s).1.2.2.2.1 = d.2.2.2.1 ∧ (Pf n d s).1.2.1 = d.2.1
 | 0, d, s, h => ⟨h, jo _, rfl, rfl⟩
 | n + 1, d, s, h => by
  cases hq : d.2.2.1 with
  | nil =>
   have e : Pf (n + 1) d s = (d, s) := by simp only [Pf, hq]
   rw [e]
   exact ⟨h, by rw [hq]; exact jo _, rfl, rfl⟩
  | cons x r =>
   cases hst : Ns d x r with
   | none =>
    have e : Pf (n + 1) d s = (d, s) := by simp only [Pf, hq, hst]
    rw [e]
    exact ⟨h, by rw [hq]; exact jo _, rfl, rfl⟩
   | some p =>
    obtain ⟨d', l⟩ := p
    have e : Pf (n + 1) d s = Pf n d' (Xv s d'.2.2.2.2.1 l) := by simp only [Pf, hq, hst]
    obtain ⟨h1, h2, h3, h4, _⟩ := SY h hq hst
    obtain ⟨i1, i2, i3, i4⟩ := K3 n d' (Xv s d'.2.2.2.2.1 l) h1
    rw [e]
    exact ⟨i1, by rw [h2] at i2; simp; omega, i3.trans h3, i4.trans h4⟩


theorem Dag {a b : Int} (ha : 0 ≤ a ∧ a ≤ 15) (hb : 0 ≤ b ∧ b ≤ 15) : 0 ≤ Xe .i64 a b ∧ Xe .i64 a b ≤ 15 := by
 obtain ⟨m, rfl⟩ := jv ha.1
 obtain ⟨n, rfl⟩ := jv hb.1
 rw [HX (by omega) (by omega)]
 have : m ||| n < 2 ^ 4 := Nat.or_lt_two_pow (by omega) (by omega)
 omega
theorem Q4 (p : Int → Bool) : ∀ n, (Wk p n).Pairwise (· < ·)
 | 0 => by simp [Wk]
 | n + 1 => by
  have ih := Q4 p n
  simp only [Wk]
  cases p ((n + 1 : Nat) : Int) with
  | false => exact ih
  | true =>
   refine List.pairwise_append.2 ⟨ih, by simp, fun x hx y hy => ?_⟩
   simp only [qc] at hy
   have := ((AJ p n x).1 hx).1.2
   omega
theorem Yaq (p : Int → Bool) : Ae (fun k x => Zw (Wk p 56) k x) 0 (Wk p 56) = true := by
 rw [Fp]
 intro i hi
 have h1 := ((AJ p 56 (Wk p 56)[i]).1 (qi hi)).1
 simp only [Zw, js, jd, qx, yj, decide_eq_true_eq, decide_eq_false_iff_not]
 refine ⟨by omega, ?_⟩
 by_cases h0 : i = 0
 ·exact .inl h0
 ·right
  have h2 := List.pairwise_iff_getElem.1 (Q4 p 56) (i - 1) i (by omega) hi (by omega)
  rw [qf, je (by omega)]
  simp only [qz]
  omega
theorem Nah {m : Int} {p : Int → Bool} (h : 0 ≤ m ∧ m ≤ 15) : Ic (m, Wk p 56, ()) = true := by
 unfold Ic
 rw [Aa h]
 exact Yaq p
theorem A3 {a : Ga} (h : Wb a = true) (hk : a.1 = 2 ∨ a.1 = 8) : 0 ≤ a.2.2.1 ∧ a.2.2.1 ≤ 15 := by
 rw [Db] at h
 unfold Nb at h
 omega
theorem Y4 : ∀ (l : List Ma) (k : Nat) (s : Int), 0 ≤ s ∧ s ≤ 15 → (∀ x ∈ l, Iu x) → 0 ≤ Lc (fun _ s (h : Ma) => cond (h.2.1.1 == 2 || h.2.1.1 == 8) (Xe .i64 s h.2.1.2.2.1) s) k s l ∧ Lc (fun _ s (h : Ma) => cond (h.2.1.1 == 2 || h.2.1.1 == 8) (Xe .i64 s h.2.1.2.2.1) s) k s l ≤ 15
 | [], _, s, hs, _ => hs
 | x :: l, k, s, hs, hx => by
  simp only [Lc]
  refine Y4 l (k + 1) _ ?_ fun y hy => hx y (jr _ hy)
  cases hc : (x.2.1.1 == 2 || x.2.1.1 == 8) with
  | false => exact hs
  | true =>
   simp only [qx, beq_iff_eq] at hc
   exact Dag hs (A3 (hx x (by simp)).act hc)
theorem Bae {l : List Ma} (h : Oe l = true) : Ic (Qc l) = true := by
 unfold Qc
 rw [EH]
 exact Nah (Y4 l 0 0 (by omega) (Tw h))
theorem Z4 : ∀ (D : List Yb) (k : Nat) (s : Int), 0 ≤ s ∧ s ≤ 15 → (∀ x ∈ D, 0 ≤ x.2.1 ∧ x.2.1 ≤ 15) → 0 ≤ Lc (fun _ s (p : Yb) => Xe .i64 s p.2.1) k s D ∧ Lc (fun _ s (p : Yb) => Xe .i64 s p.2.1) k s D ≤ 15
 | [], _, s, hs, _ => hs
 | x :: l, k, s, hs, hx => by
  simp only [Lc]
  exact Z4 l (k + 1) _ (Dag hs (hx x (by simp))) fun y hy => hx y (jr _ hy)
theorem Zak {b : Ca} (h : Ic b = true) : 0 ≤ b.1 ∧ b.1 ≤ 15 := by
 simp only [Ic, jd, decide_eq_true_eq] at h
 exact h.1
theorem E6 {b : Ca} (hb : Ic b = true) {D : List Yb} (hD : ∀ x ∈ D, 0 ≤ x.2.1 ∧ x.2.1 ≤ 15) : Ic (OJ b D) = true := Nah (Z4 D 0 b.1 (Zak hb) hD)
def ZT (L : List Ma) : Prop := ∀ h ∈ L, 0 ≤ h.2.1.2.2.1 ∧ h.2.1.2.2.1 ≤ 15
theorem AT {L : List Ma} (h : ZT L) : ∀ x ∈ L.map Md, 0 ≤ x.2.1 ∧ x.2.1 ≤ 15 := by
 intro x hx
 obtain ⟨y, hy, rfl⟩ := qk.1 hx
 exact h y hy
theorem Z6 {α : Type} {l : List α} {r : Nat} {x : α} (h : x ∈ Ch l r) : x ∈ l := by
 simp only [Ch, Xa, zb, jl] at h
 rcases h with h | h
 ·exact List.mem_of_mem_take (List.mem_of_mem_drop h)
 ·exact List.mem_of_mem_take (List.mem_of_mem_drop h)
theorem Y9 {x : Lb} {L : List Ma} (h : ZT L) (hx : 0 ≤ x.2.2.1 ∧ x.2.2.1 ≤ 15) (r : Int) : ZT (WC x L r) := by
 unfold WC
 cases x.1 == 1 with
 | true =>
  intro y hy
  rcases jl.1 (show y ∈ L ++ [Ip x] from hy) with hy | hy
  ·exact h y hy
  ·rw [qc.1 hy]; exact hx
 | false =>
  cases x.1 == 2 with
  | true => intro y hy; exact h y (Z6 hy)
  | false => exact h
theorem M9 {b : Ca} (hb : Ic b = true) : ∀ (l : List Lb) (k : Nat) (s : List Ca × List Ma), (∀ y ∈ s.1, Ic y = true) → ZT s.2 → (∀ x ∈ l, 0 ≤ x.2.2.1 ∧ x.2.2.1 ≤ 15) →
 ∀ y ∈ (Lc (fun _ s x => mG b s x) k s l).1, Ic y = true
 | [], _, s, h, _, _ => h
 | x :: l, k, s, h, hp, hl => by
  simp only [Lc]
  have hx := hl x (by simp)
  refine M9 hb l (k + 1) (mG b s x) ?_ (Y9 hp hx _) fun y hy => hl y (jr _ hy)
  intro y hy
  rcases jl.1 (show y ∈ s.1 ++ RM b s.2 x from hy) with hy | hy
  ·exact h y hy
  ·unfold RM at hy
   have h1 : ZT (jf s.2 [Ip x]) := by
    intro z hz
    rcases jl.1 (show z ∈ s.2 ++ [Ip x] from hz) with hz | hz
    ·exact hp z hz
    ·rw [qc.1 hz]; exact hx
   cases h0 : x.1 == 0 with
   | true =>
    rw [h0] at hy
    simp only [ze, jp, zd, or_false] at hy
    rcases hy with rfl | rfl
    ·exact E6 hb (AT h1)
    ·exact E6 hb (AT hp)
   | false =>
    rw [h0] at hy
    simp only [zf, qc] at hy
    subst hy
    exact E6 hb (AT (Y9 hp hx _))
theorem KZ : ∀ (l : List Lb) (k : Nat) (L L' : List Ma), Ob (fun _ L x => Xl L x) k L l = .inl L' → ∀ x ∈ l, Wb (2, x.2.1, x.2.2.1, 0, ()) = true
 | [], _, _, _, _, x, hx => by simp at hx
 | y :: l, k, L, L', h, x, hx => by
  simp only [Ob] at h
  cases hg : Xl L y with
  | inr _ => rw [hg] at h; simp at h
  | inl L1 =>
   rw [hg] at h
   simp only at h
   rcases jp.1 hx with rfl | hx
   ·unfold Xl at hg
    cases hs : Tl x (Vd (Dk x.2.1 x.2.2.1) 0 L) with
    | false => rw [hs] at hg; simp at hg
    | true =>
     simp only [Tl, jd] at hs
     exact hs.1
   ·exact KZ l (k + 1) L1 L' h x hx
theorem Jad {l : List Lb} (h : Vc l = true) : ∀ x ∈ l, 0 ≤ x.2.2.1 ∧ x.2.2.1 ≤ 15 := by
 intro x hx
 simp only [Vc, jd] at h
 have h2 := h.2
 cases hm : JX l with
 | inr _ => rw [hm] at h2; simp at h2
 | inl L => exact A3 (KZ l 0 [] L hm x hx) (.inl rfl)
theorem Gak {b : Ca} (hb : Ic b = true) {l : List Lb} (h : Vc l = true) : ∀ y ∈ DL b l, Ic y = true :=
 M9 hb l 0 ([], []) (by simp) (fun y hy => by simp at hy) (Jad h)
theorem FQ {l : List Lb} (h : Vc l = true) : l.length ≤ 8 := by
 simp only [Vc, jd, decide_eq_true_eq] at h
 exact h.1
theorem SaF {e : Qb} (h : Hm e) {n : Nat} (hk : (n : Int) < e.1.1) (hn : ∀ y ∈ e.2.2.2.1, y.1 ≠ (n : Int)) (b : Bool) : (pR e n b).length ≤ 17 ∧ ∀ y ∈ pR e n b, Ic y = true := by
 have F := VX h hk hn b
 have hR := Bae F.hd
 unfold pR
 refine ⟨?_, fun y hy => ?_⟩
 ·have h1 := BH (jf (pM e n b) [Qc (pH e n b)]) (Qc e.2.2.2.1)
  have h2 : (jf (pM e n b) [Qc (pH e n b)]).length = (pM e n b).length + 1 := by simp
  have := F.ml
  omega
 ·have h1 := NC _ _ _ hy
  rcases jl.1 (show y ∈ pM e n b ++ [Qc (pH e n b)] from h1) with h2 | h2
  ·unfold pM at h2
   revert h2
   cases (Pl e n b).2.2.2.1 == 9 with
   | false => simp
   | true =>
    cases hd : decide ((Pl e n b).2.2.2.2.2.2.1 < ((ja e.2.1 : Nat) : Int)) with
    | false => simp
    | true =>
     simp only [ze]
     intro h2
     have hm : Vc (e.2.1.getD (Pl e n b).2.2.2.2.2.2.1.toNat []) = true := by
      rw [qf]
      cases hg : e.2.1[(Pl e n b).2.2.2.2.2.2.1.toNat]? with
      | none => rfl
      | some m => exact h.mac m (List.mem_of_getElem? hg)
     exact Gak hR hm y h2
  ·rw [qc.1 h2]; exact hR
theorem TaF {e : Qb} (h : Hm e) (i : Nat) : (rR e i).length ≤ 17 ∧ ∀ y ∈ rR e i, Ic y = true := by
 have hE := Hao h i
 have hR := Bae hE.hd
 unfold rR
 refine ⟨?_, fun y hy => ?_⟩
 ·have h1 := BH [Qc (wo e.2.2.2.1 i)] (Qc e.2.2.2.1)
  simp only [jw, j7] at h1
  omega
 ·have h1 := NC _ _ _ hy
  rw [qc.1 h1]; exact hR
theorem Dav {d d' : Ib} {x : Wa} {r : List Wa} {l : List Ca} (h : PL d) (hq : d.2.2.1 = x :: r) (hs : Ns d x r = some (d', l)) : l.length ≤ 17 ∧ ∀ y ∈ l, Ic y = true := by
 have hF := CM h hq
 have hk := Gp hF.ev
 obtain ⟨n, hn⟩ := jv hk.2.2.1
 have hn' : x.2.1 = (n : Int) := hn
 have press : ∀ b : Bool, x.2.2.1 = true → (pR d.1 n b).length ≤ 17 ∧ ∀ y ∈ pR d.1 n b, Ic y = true := by
  intro b hd
  have hn2 := hF.down hd
  rw [hn'] at hn2
  exact SaF h.eng (by have := hF.key; omega) hn2 b
 unfold Ns at hs
 cases hd : x.2.2.1 with
 | false =>
  rw [hd] at hs
  simp only [j8, ze, jc, jh] at hs
  obtain ⟨rfl, rfl⟩ := hs
  exact TaF h.eng _
 | true =>
  rw [hd] at hs
  simp only [jg, zf, hn', jn] at hs
  cases htp : Mf (Ph d.1.1.2.1 (Kf d.1.1 (Pj d.1.2.2.1 d.1.2.2.2.1) n) n) with
  | false =>
   rw [htp] at hs
   simp only [zf, jc, jh] at hs
   obtain ⟨rfl, rfl⟩ := hs
   exact press false hd
  | true =>
   rw [htp] at hs
   simp only [ze] at hs
   revert hs
   generalize (cond ((d.2.2.2.2.2.1 == j5 .i64 ((n : Int) + 1)) && !decide (j5 .i64 (x.1 - d.2.2.2.2.2.2.1) ≥ d.2.1.2.1)) ((1 : Int), x.1) ((Qh d.2.1 (n : Int) x.1 r d.2.2.2.1).1, (Qh d.2.1 (n : Int) x.1 r d.2.2.2.1).2.1)) = ch
   intro hs
   cases h0' : ch.1 == 0 with
   | true => rw [h0'] at hs; simp at hs
   | false =>
    rw [h0'] at hs
    simp only [zf, jc, jh] at hs
    obtain ⟨rfl, rfl⟩ := hs
    exact press _ hd
def EG (s : List Xd) : Prop := ∀ y ∈ s, Qs y = true
theorem SZ {N keys : Nat} : ∀ (n : Nat) (d : Ib) (s : List Xd), UR N keys d → EG s → EG (Pf n d s).2 ∧ (Pf n d s).2.length ≤ s.length + 17 * n
 | 0, d, s, h, hs => ⟨hs, by show s.length ≤ _; omega⟩
 | n + 1, d, s, h, hs => by
  cases hq : d.2.2.1 with
  | nil =>
   have e : Pf (n + 1) d s = (d, s) := by simp only [Pf, hq]
   rw [e]; exact ⟨hs, by show s.length ≤ _; omega⟩
  | cons x r =>
   cases hst : Ns d x r with
   | none =>
    have e : Pf (n + 1) d s = (d, s) := by simp only [Pf, hq, hst]
    rw [e]; exact ⟨hs, by show s.length ≤ _; omega⟩
   | some p =>
    obtain ⟨d', l⟩ := p
    have e : Pf (n + 1) d s = Pf n d' (Xv s d'.2.2.2.2.1 l) := by simp only [Pf, hq, hst]
    have hN := SY h hq hst
    have hR := Dav h.pl hq hst
    have b1 := hN.1.clk
    have b2 := hN.1.now
    have ih := SZ n d' (Xv s d'.2.2.2.2.1 l) hN.1 (fun y hy => by
     rcases jl.1 (show y ∈ s ++ _ from hy) with hy | hy
     ·exact hs y hy
     ·obtain ⟨r', hr', rfl⟩ := qk.1 hy
      show (decide (0 ≤ d'.2.2.2.2.1 ∧ d'.2.2.2.2.1 ≤ 1000000) && Ic r') = true
      rw [Aa (by omega), hR.2 r' hr']; rfl)
    have e2 := RZ s d'.2.2.2.2.1 l
    rw [e]
    exact ⟨ih.1, by omega⟩
theorem Taf {keys : Nat} : ∀ (l : List Wa) (k : Nat) (t0 : Int) (m0 : Nat), m0 < 2 ^ 63 → Is (Ob (fun _ s x => Ho (keys : Int) s x) k (t0, (m0 : Int)) l) = true →
 ∃ (t : Int) (m : Nat), m < 2 ^ 63 ∧ Ob (fun _ s x => Ho (keys : Int) s x) k (t0, (m0 : Int)) l = .inl (t, (m : Int))
 | [], k, t0, m0, hm, _ => ⟨t0, m0, hm, rfl⟩
 | x :: l, k, t0, m0, hm, h => by
  simp only [Ob] at h ⊢
  cases hg : Ho (keys : Int) (t0, (m0 : Int)) x with
  | inr _ => rw [hg] at h; simp [Is] at h
  | inl s' =>
   rw [hg] at h
   simp only at h ⊢
   obtain ⟨h1, _, h3⟩ := AO hg
   have he := (WW h1).1
   have hk := Gp he
   obtain ⟨n, hn⟩ := jv hk.2.2.1
   have hn' : x.2.1 = (n : Int) := hn
   have h2n : 2 ^ n < 2 ^ 63 := Nat.pow_lt_pow_right (by omega) (by omega)
   have hb : Ke .i64 1 x.2.1 = ((2 ^ n : Nat) : Int) := by
    rw [hn', show (1 : Int) = ((1 : Nat) : Int) from rfl, Aak (by rw [Nat.one_mul]; exact h2n) (by omega), Nat.shiftLeft_eq, Nat.one_mul]
   have hx : Yn .i64 (m0 : Int) (Ke .i64 1 x.2.1) = ((m0 ^^^ 2 ^ n : Nat) : Int) := by rw [hb]; exact SS hm h2n
   subst h3
   simp only at h ⊢
   rw [hx] at h ⊢
   exact Taf l (k + 1) x.1 _ (Nat.xor_lt_two_pow hm h2n) h
theorem ES {d : Ib} (h : Pc d = true) : UR 8 d.1.1.1.toNat d := by
 have h0 := h
 simp only [Pc, jd, decide_eq_true_eq] at h
 obtain ⟨hE, ht, hn, hc, hF, hB, htp, hta⟩ := h
 have hE' := (RG _).1 hE
 have hk := Hd hE'.km
 have hk1 := hk.k1
 have hks : ((d.1.1.1.toNat : Nat) : Int) = d.1.1.1 := by omega
 obtain ⟨m, h5, h6⟩ := LX hE'.hd
 have hpl : PL d := by
  have := J7 (l := []) (til := d.2.2.2.1) h0 (by rw [show jf d.2.2.1 [] = d.2.2.1 from yw _]; exact hF)
  have e : Vl d [] d.2.2.2.1 = d := by unfold Vl; rw [show jf d.2.2.1 [] = d.2.2.1 from yw _]
  rw [e] at this
  exact this
 have hm63 : m < 2 ^ 63 := h6.lt
 have hL : Is (Ob (fun _ s x => Ho ((d.1.1.1.toNat : Nat) : Int) s x) 0 (0, (m : Int)) d.2.2.1) = true := by
  rw [RD, hks]
  simp only [Sd, jd] at hF
  have h7 : (QH d.1.1.1 d.2.2.1) = true := hF.1
  have h8 := U3 (q := d.2.2.1) (d := Tv d.1.2.2.2.1) (keys := d.1.1.1) (by simp only [Sd, jd]; exact hF)
  rw [h5] at h8
  unfold QH at h7
  rw [h7, h8]
  rfl
 obtain ⟨t, m2, hm2, hfe⟩ := Taf _ _ _ _ hm63 hL
 have hEv : JK d.1.1.1.toNat 0 m d.2.2.1 t m2 := ⟨hfe, hm63, hm2⟩
 refine ⟨hpl, hks.symm, fun x hx => FQ (hE'.mac x hx), ht, hn, hc, by rw [hks]; exact htp, hta, 0, t, m, m2, h6, hEv, Int.le_refl _, ?_⟩
 cases hl : d.2.2.1 with
 | nil =>
  rw [hl] at hEv
  have := (L7 hEv).1
  omega
 | cons x r =>
  have hne : d.2.2.1 ≠ [] := by rw [hl]; simp
  have h9 := (UW hEv hne).1
  unfold Uh at hB
  have h10 : (((d.2.2.1.length : Nat) : Int) == 0) = false := by rw [hl]; simp; omega
  rw [h10] at hB
  simp only [yr, decide_eq_true_eq] at hB
  omega
def Df (b : Int) : List UInt8 → List UInt8 → List (List UInt8)
 | cur, [] => [cur]
 | cur, c :: l => cond (((UInt8.toNat c : Nat) : Int) == b) (cur :: Df b [] l) (Df b (cur ++ [c]) l)
theorem UA (b : Int) : ∀ (l cur : List UInt8), (Df b cur l).length ≤ l.length + 1
 | [], _ => by simp [Df]
 | c :: l, cur => by
  have h1 := UA b l []
  have h2 := UA b l (cur ++ [c])
  simp only [Df]
  cases ((UInt8.toNat c : Nat) : Int) == b
  ·simp only [zf, jw]; omega
  ·simp only [ze, jw]; omega
theorem YB (b : Int) : ∀ (l cur : List UInt8), ∀ x ∈ Df b cur l, x.length ≤ cur.length + l.length
 | [], cur => by simp [Df]
 | c :: l, cur => by
  have h1 := YB b l []
  have h2 := YB b l (cur ++ [c])
  simp only [Df]
  cases ((UInt8.toNat c : Nat) : Int) == b
  ·simp only [zf]
   intro x hx
   have := h2 x hx
   simp at this ⊢; omega
  ·simp only [ze]
   intro x hx
   rcases jp.1 hx with rfl | hx
   ·omega
   ·have := h1 x hx
    simp at this ⊢; omega
theorem Kaf {l : List UInt8} {i j : Nat} (h : i ≤ j) (hj : j < l.length) : Xa l i (j + 1) = Xa l i j ++ [l[j]] := by
 unfold Xa
 rw [List.take_add_one, List.drop_append, je hj]
 simp only [Option.toList_some, List.length_take]
 rw [show i - min j l.length = 0 by omega]; rfl
theorem QY {l : List UInt8} {i : Nat} : Xa l i i = [] := by simp [Xa]
theorem AF (s : List UInt8) (b : Int) (hs : s.length ≤ 100000000) : ∀ (n i fr : Nat) (o : List (List UInt8)), i + n = s.length → fr ≤ i → o.length ≤ i →
 ∃ (o' : List (List UInt8)) (fr' : Nat), fr' ≤ s.length ∧ o'.length ≤ s.length ∧ o' ++ [Xa s fr' s.length] = o ++ Df b (Xa s fr i) (s.drop i) ∧
 Si ((s, b, o, (fr : Int), (i : Int), ()), ()) = some (.inl ((s, o', (fr' : Int), ()), ()))
 | 0, i, fr, o, hn, hf, ho => by
  have : i = s.length := by omega
  subst this
  refine ⟨o, fr, hf, ho, by simp [Df], ?_⟩
  unfold Si
  refine (Xc (z := some (Sum.inr (.inl ((s, o, (fr : Int), ()), ())))) ?_).trans rfl
  simp only [Sp]
  rw [Ba (by omega)]; rfl
 | n + 1, i, fr, o, hn, hf, ho => by
  have hi : i < s.length := by omega
  have hd : s.drop i = s[i] :: s.drop (i + 1) := List.drop_eq_getElem_cons hi
  unfold Si
  rw [hd, Df]
  by_cases hc : (((UInt8.toNat s[i] : Nat) : Int) == b) = true
  ·obtain ⟨o', fr', h1, h2, h3, h4⟩ := AF s b hs n (i + 1) (i + 1) (o ++ [Xa s fr i]) (by omega) (by omega) (by simp; omega)
   refine ⟨o', fr', h1, h2, ?_, ?_⟩
   ·rw [h3, hc, ze, QY]; simp
   ·refine (Xc (z := some (Sum.inl ((s, b, o ++ [Xa s fr i], ((i + 1 : Nat) : Int), ((i + 1 : Nat) : Int), ()), ()))) ?_).trans h4
    simp only [Sp]
    rw [Aa (by omega), Ec hi]
    simp only [ze, zf, jb]
    rw [hc, Al (by omega) (by omega), Mb (by simp; omega), Af (by omega)]
    rfl
  ·have hc' : (((UInt8.toNat s[i] : Nat) : Int) == b) = false := by simpa using hc
   obtain ⟨o', fr', h1, h2, h3, h4⟩ := AF s b hs n (i + 1) fr o (by omega) (by omega) (by omega)
   refine ⟨o', fr', h1, h2, ?_, ?_⟩
   ·rw [h3, hc', zf, Kaf hf hi]
   ·refine (Xc (z := some (Sum.inl ((s, b, o, (fr : Int), ((i + 1 : Nat) : Int), ()), ()))) ?_).trans h4
    simp only [Sp]
    rw [Aa (by omega), Ec hi]
    simp only [ze, zf, jb]
    rw [hc', Af (by omega)]
    rfl
theorem Mz {s : List UInt8} (b : Int) (hs : s.length ≤ 100000000) : Ik s b = some (Df b [] s, ()) := by
 obtain ⟨o, fr, h1, h2, h3, h4⟩ := AF s b hs s.length 0 0 [] (by omega) (by omega) (by simp)
 unfold Ik
 rw [show (0 : Int) = ((0 : Nat) : Int) from rfl, h4]
 simp only [jb, qg]
 rw [Al h1 (by omega), Mb (by simp; omega)]
 simp only [ze, jn]
 rw [show jf o [Xa s fr s.length] = o ++ [Xa s fr s.length] from rfl, h3]
 simp [QY]
def JG (f : Int → List UInt8) (s : List UInt8) : Nat → Nat → Option Nat
 | 0, _ => none
 | n + 1, c => cond (f (c : Int) == s) (some c) (JG f s n (c + 1))
def Bao : Option Nat → Int
 | some k => (k : Int)
 | none => 0
def GQ (s : List UInt8) : Int := Bao (JG Sf s 56 1)
def WV (s : List UInt8) : Int := Bao (JG Hg s 15 1)
theorem MO (s : List UInt8) : ∀ (n c : Nat), c + n = 57 → 1 ≤ c → Dl ((s, Gv, ((ja Gv : Nat) : Int), ((c - 1 : Nat) : Int), ()), ()) = some (match JG Sf s n c with | some k => .inr (((k : Int), ()), ()) | none => .inl ((), ()))
 | 0, c, h, h1 => by
  unfold Dl
  refine (Xc (z := some (Sum.inr (.inl ((), ())))) ?_).trans rfl
  simp only [Jv]
  rw [NI, Ba (by omega)]; rfl
 | n + 1, c, h, h1 => by
  have ih := MO s n (c + 1) (by omega) (by omega)
  obtain ⟨a1, a2⟩ := NX (c := (c : Int)) (by omega)
  rw [show (c : Int) - 1 = ((c - 1 : Nat) : Int) by omega] at a1 a2
  unfold Dl at ih ⊢
  rw [JG]
  cases hc : Sf (c : Int) == s with
  | true =>
   refine (Xc (z := some (Sum.inr (.inr (((c : Int), ()), ())))) ?_).trans rfl
   simp only [Jv]
   rw [Aa (by rw [NI]; omega), a2, a1]
   simp only [ze, jb]
   rw [hc, Af (by omega), show c - 1 + 1 = c by omega]; rfl
  | false =>
   refine (Xc (z := some (Sum.inl ((s, Gv, ((ja Gv : Nat) : Int), ((c + 1 - 1 : Nat) : Int), ()), ()))) ?_).trans ih
   simp only [Jv]
   rw [Aa (by rw [NI]; omega), a2, a1]
   simp only [ze, jb]
   rw [hc, Af (by omega), show c - 1 + 1 = c + 1 - 1 by omega]; rfl
theorem Nx (s : List UInt8) : Lq s = some (GQ s, ()) := by
 have := MO s 56 1 rfl (by omega)
 unfold Lq GQ
 rw [EV]
 simp only [jb]
 rw [show (0 : Int) = ((1 - 1 : Nat) : Int) from rfl, this]
 cases JG Sf s 56 1 <;> rfl
theorem HN (s : List UInt8) : ∀ (n c : Nat), c + n = 16 → Ri ((s, (c : Int), ()), ()) = some (match JG Hg s n c with | some k => .inr (((k : Int), ()), ()) | none => .inl ((), ()))
 | 0, c, h => by
  unfold Ri
  refine (Xc (z := some (Sum.inr (.inl ((), ())))) ?_).trans rfl
  simp only [Np]
  rw [Ba (by omega)]; rfl
 | n + 1, c, h => by
  have ih := HN s n (c + 1) (by omega)
  unfold Ri at ih ⊢
  rw [JG]
  cases hc : Hg (c : Int) == s with
  | true =>
   refine (Xc (z := some (Sum.inr (.inr (((c : Int), ()), ())))) ?_).trans rfl
   simp only [Np]
   rw [Aa (by omega), Kp]
   simp only [ze, jb]
   rw [hc]; rfl
  | false =>
   refine (Xc (z := some (Sum.inl ((s, ((c + 1 : Nat) : Int), ()), ()))) ?_).trans ih
   simp only [Np]
   rw [Aa (by omega), Kp]
   simp only [ze, jb]
   rw [hc, Af (by omega)]; rfl
theorem Jy (s : List UInt8) : Dn s = some (WV s, ()) := by
 have := HN s 15 1 rfl
 unfold Dn WV
 rw [show (1 : Int) = ((1 : Nat) : Int) from rfl, this]
 cases JG Hg s 15 1 <;> rfl
def PW (a : Ga) : List UInt8 :=
 cond (a.1 == 0) Eo (cond (a.1 == 1) Co (cond (a.1 == 3) ([109, 111, 58] ++ Lib.itoa a.2.2.2.1) (cond (a.1 == 4) ([116, 103, 58] ++ Lib.itoa a.2.2.2.1) (cond (a.1 == 5) ([116, 111, 58] ++ Lib.itoa a.2.2.2.1)
  (cond (a.1 == 6) (Hg a.2.2.1 ++ [47] ++ Sf a.2.1) (cond (a.1 == 7) (Lib.itoa a.2.2.2.1 ++ [47] ++ Sf a.2.1) (cond (a.1 == 8) (Gf ++ Hg a.2.2.1) (cond (a.1 == 9) (Lh ++ Lib.itoa a.2.2.2.1)
  (cond (a.1 == 10) Cm (cond (a.2.2.1 == 0) (Sf a.2.1) (Hg a.2.2.1 ++ [45] ++ Sf a.2.1)))))))))))
noncomputable def Rr (a : Ga) : List UInt8 := cond (Wb a) (PW a) []
theorem NK {a : Ga} (h : Wb a = true) : 0 ≤ a.2.2.2.1 ∧ a.2.2.2.1 ≤ 3 := by
 rw [Db] at h
 unfold Nb at h
 omega
theorem Nao {a : Ga} (h : Wb a = true) : 0 ≤ a.1 ∧ a.1 ≤ 10 := by
 rw [Db] at h
 unfold Nb at h
 omega
theorem P4 {n : Int} (h : 0 ≤ n ∧ n ≤ 3) : (Lib.itoa n).length ≤ 21 := Uw (by omega)
theorem TW {b : Bool} {x y : List UInt8} {n : Nat} (hx : x.length ≤ n) (hy : y.length ≤ n) : (cond b x y).length ≤ n := by cases b <;> assumption
theorem Z2 (a : Ga) : (Rr a).length ≤ 50 := by
 unfold Rr
 cases h : Wb a with
 | false => simp
 | true =>
  have h1 := P4 (NK h)
  have h2 := SH a.2.2.1
  have h3 := RI a.2.1
  simp only [ze, PW]
  generalize Sf a.2.1 = N at h3 ⊢
  generalize Hg a.2.2.1 = M at h2 ⊢
  generalize Lib.itoa a.2.2.2.1 = I at h1 ⊢
  repeat' apply TW
  all_goals try simp only [Eo, Co, Gf, Lh, Cm, qd, jw, j7]
  all_goals omega
theorem csp {b : Bool} {x y : List UInt8} {z : Option (List UInt8 × Unit)} (h : z = some (y, ())) : cond b (some (x, ())) z = some (cond b x y, ()) := by cases b <;> simp [h]
theorem XM (a : Ga) : Kr a = some (Rr a, ()) := by
 unfold Kr Rr
 rw [Zn]
 cases h : Wb a with
 | false => rfl
 | true =>
  have h1 := P4 (NK h)
  have h2 := SH a.2.2.1
  have h3 := RI a.2.1
  have h4 := NK h
  simp only [jb, jg, zf, ze, PW]
  rw [My (by omega), HP, OT]
  simp only [jb]
  rw [Mb (n := ja ([109, 111, 58] : List UInt8) + ja (Lib.itoa a.2.2.2.1)) (by simp; omega), Mb (n := ja ([116, 103, 58] : List UInt8) + ja (Lib.itoa a.2.2.2.1)) (by simp; omega),
   Mb (n := ja ([116, 111, 58] : List UInt8) + ja (Lib.itoa a.2.2.2.1)) (by simp; omega), Mb (n := ja (Hg a.2.2.1) + ja ([47] : List UInt8)) (by simp; omega),
   Mb (n := ja (jf (Hg a.2.2.1) [47]) + ja (Sf a.2.1)) (by simp; omega), Mb (n := ja (Lib.itoa a.2.2.2.1) + ja ([47] : List UInt8)) (by simp; omega),
   Mb (n := ja (jf (Lib.itoa a.2.2.2.1) [47]) + ja (Sf a.2.1)) (by simp; omega), Mb (n := ja Gf + ja (Hg a.2.2.1)) (by simp [Gf]; omega),
   Mb (n := ja Lh + ja (Lib.itoa a.2.2.2.1)) (by simp [Lh]; omega), Mb (n := ja (Hg a.2.2.1) + ja ([45] : List UInt8)) (by simp; omega),
   Mb (n := ja (jf (Hg a.2.2.1) [45]) + ja (Sf a.2.1)) (by simp; omega)]
  simp only [ze]
  iterate 11 refine csp ?_
  rfl
theorem Ot (a : Ga) : Nj a = some (Rr a, ()) := by
 unfold Nj Rr
 rw [Hk]
 cases h : Wb a with
 | false => rfl
 | true =>
  have h1 := P4 (NK h)
  have h2 := SH a.2.2.1
  have h3 := RI a.2.1
  have h4 := NK h
  have h5 := Nao h
  obtain ⟨k, c, m, n, u⟩ := a
  simp only at h1 h2 h3 h4 h5
  simp only [jb, jg, zf, ze, PW]
  rw [Dm (by omega), Kp, Mt]
  simp only [jb]
  rw [Mb (n := ja (Hg m) + ja ([47] : List UInt8)) (by simp; omega),
   Mb (n := ja (jf (Hg m) [47]) + ja (Sf c)) (by simp; omega), Mb (n := ja (Lib.itoa n) + ja ([47] : List UInt8)) (by simp; omega),
   Mb (n := ja (jf (Lib.itoa n) [47]) + ja (Sf c)) (by simp; omega), Mb (n := ja Gf + ja (Hg m)) (by simp [Gf]; omega),
   Mb (n := ja (Hg m) + ja ([45] : List UInt8)) (by simp; omega),
   Mb (n := ja (jf (Hg m) [45]) + ja (Sf c)) (by simp; omega)]
  simp only [ze]
  have : k = 0 ∨ k = 1 ∨ k = 2 ∨ k = 3 ∨ k = 4 ∨ k = 5 ∨ k = 6 ∨ k = 7 ∨ k = 8 ∨ k = 9 ∨ k = 10 := by omega
  have lw : ∀ w : List UInt8, w.length ≤ 10 → jx (ja w + ja (Lib.itoa n)) Oa = true := fun w hw => Mb (by omega)
  rcases this with rfl | rfl | rfl | rfl | rfl | rfl | rfl | rfl | rfl | rfl | rfl
  ·rfl
  ·rfl
  ·show (cond (m != 0) _ _) = some (cond (m == 0) _ _, ())
   unfold bne
   cases m == 0 <;> rfl
  ·simp only [Int.reduceBEq, zf, ze]
   rw [show Vk 3 = some ([109, 111, 58], ()) from rfl]
   simp only [jb]
   rw [lw _ (by simp)]; rfl
  ·simp only [Int.reduceBEq, zf, ze]
   rw [show Vk 4 = some ([116, 103, 58], ()) from rfl]
   simp only [jb]
   rw [lw _ (by simp)]; rfl
  ·simp only [Int.reduceBEq, zf, ze]
   rw [show Vk 5 = some ([116, 111, 58], ()) from rfl]
   simp only [jb]
   rw [lw _ (by simp)]; rfl
  ·rfl
  ·rfl
  ·rfl
  ·simp only [Int.reduceBEq, zf, ze]
   rw [show Vk 9 = some (Lh, ()) from rfl]
   simp only [jb]
   rw [lw _ (by simp [Lh])]; rfl
  ·rfl

def K2 : Ga := ((0 : Int), (0 : Int), (0 : Int), (0 : Int), ())
def IW (l : List (List UInt8)) : Bool := ((ja l : Nat) : Int) == 2
def Hu : Ha := ((0 : Int), ([] : List (List Ga)), ())
theorem MaD (m : Ha) : Eb Ua m = Eb (.sl (.sl Bc)) m.2.1 := by
 show 0 + (Eb (.sl (.sl Bc)) m.2.1 + 0) = _
 omega
def ZC (s p : List UInt8) : Bool := decide (p.length ≤ s.length) && (s.take p.length == p)
theorem AB (s p : List UInt8) : Xh s p = some (cond (ZC s p) (s.drop p.length) s, ZC s p, ()) := by
 unfold Xh Us Vs ZC
 by_cases h : p.length ≤ s.length
 ·have e0 : Xa s (jy 0) (jy ((ja p : Nat) : Int)) = s.take p.length := by simp [Xa]
  have e1 : Xa s (jy ((ja p : Nat) : Int)) (jy ((ja s : Nat) : Int)) = s.drop p.length := by
   rw [jn, jn]
   unfold Xa
   rw [List.take_length]
  rw [Aa (show ((ja s : Nat) : Int) ≥ ((ja p : Nat) : Int) by omega), show Jd (ja s) 0 ((ja p : Nat) : Int) = true from Al (lo := 0) (by omega) h, e0, e1, Aa h]
  simp only [ze, jb, jk]
  cases s.take p.length == p with
  | false => rfl
  | true =>
   simp only [jg, zf]
   rw [Al h (jo _)]
   rfl
 ·rw [Ba (show ¬ ((ja s : Nat) : Int) ≥ ((ja p : Nat) : Int) by omega), Ba h]
  rfl
def LW (k : Int) : List UInt8 := cond (k == 3) [109, 111, 58] (cond (k == 4) [116, 103, 58] (cond (k == 5) [116, 111, 58] (cond (k == 9) Lh [])))
theorem Hai (k : Int) : Vk k = some (LW k, ()) := by
 unfold Vk LW
 cases k == 3 with
 | true => rfl
 | false =>
  cases k == 4 with
  | true => rfl
  | false =>
   cases k == 5 with
   | true => rfl
   | false => cases k == 9 <;> rfl
noncomputable def ZU (s : List UInt8) (k : Int) : Unit ⊕ Ga := cond (ZC s (LW k)) (.inr (k, (0 : Int), (0 : Int), (Rm (s.drop (LW k).length)).1, ())) (.inl ())
noncomputable def HH (s : List UInt8) : Ga :=
 cond (s == Eo) K2 (cond (s == Co) ((1 : Int), (0 : Int), (0 : Int), (0 : Int), ()) (cond (s == Cm) ((10 : Int), (0 : Int), (0 : Int), (0 : Int), ())
  (match Ob (fun _ (_ : Unit) k => ZU s k) 0 () [(3 : Int), 4, 5, 9] with
  | .inr a => a
  | .inl _ => cond (ZC s Gf) ((8 : Int), (0 : Int), WV (s.drop Gf.length), (0 : Int), ())
   (cond (Lib.cut s [47]).2.2 (cond (Rm (Lib.cut s [47]).1).2.1 ((7 : Int), GQ (Lib.cut s [47]).2.1, (0 : Int), (Rm (Lib.cut s [47]).1).1, ()) ((6 : Int), GQ (Lib.cut s [47]).2.1, WV (Lib.cut s [47]).1, (0 : Int), ()))
   (cond (Lib.cut s [45]).2.2 ((2 : Int), GQ (Lib.cut s [45]).2.1, WV (Lib.cut s [45]).1, (0 : Int), ()) ((2 : Int), GQ s, (0 : Int), (0 : Int), ()))))))
theorem H3 {s : List UInt8} (p : List UInt8) (hs : s.length ≤ 100000000) : strings_Cut s p = some ((Lib.cut s p).1, (Lib.cut s p).2.1, (Lib.cut s p).2.2, ()) := by
 unfold strings_Cut Mac
 rw [show jx (ja s) 4294967280 = true from ji (by omega)]
 rfl
theorem E0 {s : List UInt8} (hs : s.length ≤ 100000000) : Vt s = some (HH s, ()) := by
 unfold Vt HH
 cases s == Eo with
 | true => rfl
 | false =>
 cases s == Co with
 | true => rfl
 | false =>
 cases s == Cm with
 | true => rfl
 | false =>
 simp only [zf]
 have hl := Tg (step := fun x : (List UInt8 × Unit × List Int × Int × Int × Unit) × Ga × Unit => Qm x.1.1 x.1.2.1 x.1.2.2.1 x.1.2.2.2.1 x.1.2.2.2.2.1 x.2.1) [(3 : Int), 4, 5, 9] (fun _ (_ : Unit) k => ZU s k)
  (fun _ i => ((s, (), [(3 : Int), 4, 5, 9], ((ja ([(3 : Int), 4, 5, 9] : List Int) : Nat) : Int), i, ()), (K2, ()))) (fun _ => .inl ((s, (), ()), (K2, ()))) (fun a => .inr (((), ()), (a, ()))) (fun _ _ => True) (by
   intro k hk u _
   refine ⟨?_, fun _ _ => trivial⟩
   simp only [Qm]
   rw [Aa (by omega), Lg, Aa hk]
   simp only [ze, jn]
   rw [je hk]
   simp only [jb]
   generalize ([(3 : Int), 4, 5, 9] : List Int)[k] = x
   rw [Hai]
   simp only [jb]
   rw [AB]
   simp only [jb]
   unfold ZU
   cases ZC s (LW x) <;> rfl) (by
   intro u _
   simp only [Qm]
   rw [Ba (by omega)]; rfl) (by simp) () trivial
 unfold Vo
 erw [hl]
 cases Ob (fun _ (_ : Unit) k => ZU s k) 0 () [(3 : Int), 4, 5, 9] with
 | inr a => rfl
 | inl u =>
  simp only [jb, qg]
  rw [AB]
  simp only [jb]
  cases ZC s Gf with
  | true =>
   simp only [ze]
   rw [Jy]; rfl
  | false =>
   simp only [zf]
   rw [H3 _ hs]
   simp only [jb]
   cases (Lib.cut s [47]).2.2 with
   | true =>
    simp only [ze]
    rw [show Xo (Lib.cut s [47]).1 = some (Rm (Lib.cut s [47]).1) from rfl]
    simp only [jb]
    cases (Rm (Lib.cut s [47]).1).2.1 with
    | true => simp only [ze]; rw [Nx]; rfl
    | false => simp only [zf]; rw [Jy, Nx]; rfl
   | false =>
    simp only [zf]
    rw [H3 _ hs]
    simp only [jb]
    cases (Lib.cut s [45]).2.2 with
    | true => simp only [ze]; rw [Jy, Nx]; rfl
    | false => simp only [zf]; rw [Nx]; rfl
noncomputable def Du (s : List UInt8) : Ga × (Bool × Unit) := cond (!Wb (HH s) || Rr (HH s) != s) (K2, false, ()) (HH s, true, ())
theorem BC {s : List UInt8} (hs : s.length ≤ 100000000) : Un s = some (Du s) := by
 unfold Un Du
 rw [E0 hs]
 simp only [jb]
 rw [Hk]
 simp only [jb]
 cases Wb (HH s) with
 | false => rfl
 | true =>
  simp only [jg, zf, yr]
  rw [Ot]
  simp only [jb]
  cases Rr (HH s) != s <;> rfl
noncomputable def XH (l : List Ga) : List UInt8 := Lib.join (l.map Rr) [32]
noncomputable def Ky (m : Ha) : List UInt8 := cond (Gc m) (Lib.join (m.2.1.map XH) [32, 124, 32]) []
theorem UM (l : List Ga) : (XH l).length ≤ 51 * l.length := by
 have := Vw (l.map Rr) [32] 50 (fun x hx => by
  obtain ⟨a, _, rfl⟩ := qk.1 hx
  exact Z2 a)
 rw [yp] at this
 exact this
theorem CB {m : Ha} (hz : Eb Ua m ≤ Ka) : Em m = some (Ky m, ()) := by
 unfold Em Ky
 rw [Dh m hz]
 cases hv : Gc m with
 | false => rfl
 | true =>
  have hm := Hd hv
  have hk2 := hm.k2
  have hl2 := hm.l2
  simp only [jb, jg, zf, ze]
  have hrow : ∀ k (hk : k < m.2.1.length), m.2.1[k].length ≤ 32 := fun k hk => by have := hm.row k hk; omega
  have hl := Bg (step := fun x : (List (List UInt8) × List (List Ga) × Int × Int × Unit) × Unit => Gl x.1.1 x.1.2.1 x.1.2.2.1 x.1.2.2.2.1) m.2.1 (fun _ (o : List (List UInt8)) l => o ++ [XH l])
   (fun o i => ((o, m.2.1, ((ja m.2.1 : Nat) : Int), i, ()), ())) (fun o => .inl ((o, ()), ())) (fun k o => o.length = k) (by
    intro k hk o ho
    refine ⟨?_, by simp [ho]⟩
    have hr := hrow k hk
    simp only [Gl]
    rw [Aa (by omega), Ec hk]
    simp only [ze, jb]
    generalize m.2.1[k] = r at hr
    have hin := (Bg (step := fun x : (List (List UInt8) × List (List UInt8) × List (List Ga) × Int × Int × List Ga × Int × Int × Unit) × Unit => Hl x.1.1 x.1.2.1 x.1.2.2.1 x.1.2.2.2.1 x.1.2.2.2.2.1 x.1.2.2.2.2.2.1 x.1.2.2.2.2.2.2.1 x.1.2.2.2.2.2.2.2.1) r (fun _ (p : List (List UInt8)) a => p ++ [Rr a])
     (fun p i => ((o, p, m.2.1, ((ja m.2.1 : Nat) : Int), (k : Int), r, ((ja r : Nat) : Int), i, ()), ())) (fun p => .inl ((o, p, m.2.1, ((ja m.2.1 : Nat) : Int), (k : Int), ()), ())) (fun j p => p.length = j) (by
      intro j hj p hp
      refine ⟨?_, by simp [hp]⟩
      simp only [Hl]
      rw [Aa (by omega), Ec hj]
      simp only [ze, jb]
      rw [Ot]
      simp only [jb]
      rw [Mb (by simp; omega)]
      rfl) (by
      intro p hp
      simp only [Hl]
      rw [Ba (by omega)]; rfl) (by omega) [] rfl).1
    have hf : ∀ (ys : List Ga) (j : Nat) (p : List (List UInt8)), Lc (fun _ (p : List (List UInt8)) a => p ++ [Rr a]) j p ys = p ++ ys.map Rr := by
     intro ys
     induction ys with
     | nil => intro j p; simp [Lc]
     | cons y ys ih => intro j p; rw [Lc, ih]; simp
    rw [hf] at hin
    have hjl := UM r
    unfold XH at hjl
    unfold Pn
    erw [hin]
    simp only [jb, qg, List.nil_append]
    rw [Li (by simp; omega) (by omega)]
    simp only [jb]
    rw [Mb (by simp; omega)]
    rfl) (by
    intro o ho
    simp only [Gl]
    rw [Ba (by omega)]; rfl) (by omega) [] rfl
  have hf : ∀ (ys : List (List Ga)) (j : Nat) (p : List (List UInt8)), Lc (fun _ (p : List (List UInt8)) a => p ++ [XH a]) j p ys = p ++ ys.map XH := by
   intro ys
   induction ys with
   | nil => intro j p; simp [Lc]
   | cons y ys ih => intro j p; rw [Lc, ih]; simp
  rw [hf] at hl
  unfold On
  erw [hl.1]
  simp only [jb, qg, List.nil_append]
  have hjl := Vw (m.2.1.map XH) [32, 124, 32] 1632 (fun x hx => by
   obtain ⟨l, hl', rfl⟩ := qk.1 hx
   obtain ⟨i, hi, rfl⟩ := qj hl'
   have := UM m.2.1[i]
   have := hrow i hi
   omega)
  rw [yp] at hjl
  rw [Li (by simp; omega) (by
   have : (1632 + ([32, 124, 32] : List UInt8).length) * m.2.1.length ≤ 1635 * 4 := Nat.mul_le_mul (by simp) hl2
   omega)]
  rfl
theorem FW (sep : List UInt8) : ∀ (k : Nat) (s : List UInt8), (Lib.splitK sep 0 k s).length ≤ k + 1 ∧ ∀ x ∈ Lib.splitK sep 0 k s, x.length ≤ s.length
 | 0, s => by simp [Lib.splitK]
 | k + 1, s => by
  unfold Lib.splitK
  split
  ·simp
  ·have ih := FW sep k (s.drop ((Lib.index s sep).toNat + sep.length))
   refine ⟨by simp; exact ih.1, fun x hx => ?_⟩
   rcases jp.1 hx with rfl | hx
   ·rw [List.length_take]; omega
   ·have := ih.2 x hx
    rw [ql] at this
    omega
theorem VN (sub : List UInt8) : ∀ (f : Nat) (s : List UInt8), Lib.countFrom sub f s ≤ f
 | 0, s => by simp [Lib.countFrom]
 | f + 1, s => by
  unfold Lib.countFrom
  split
  ·omega
  ·have := VN sub f (s.drop ((Lib.index s sub).toNat + sub.length)); omega
theorem Iad (s sep : List UInt8) : (Lib.split s sep).length ≤ s.length + 2 ∧ ∀ x ∈ Lib.split s sep, x.length ≤ s.length := by
 have h := FW sep (Lib.count s sep) s
 have := VN sep (s.length + 1) s
 unfold Lib.split
 exact ⟨qa h.1 (by unfold Lib.count; omega), h.2⟩
noncomputable def SM (n : Nat) (l : List Ga) (w : List UInt8) : List Ga ⊕ Unit :=
 cond (!(Du w).2.1) (.inr ()) (cond (decide (32 ≤ l.length)) (.inr ()) (cond (decide (4 ≤ n)) (.inr ()) (.inl (jf l [(Du w).1]))))
noncomputable def KB (m : Ha) (p : List UInt8) : Ha ⊕ Unit :=
 match Ob (fun _ l w => SM m.2.1.length l w) 0 [] (Df 32 [] p) with
 | .inl r => .inl (((ja r : Nat) : Int), jf m.2.1 [r], ())
 | .inr _ => .inr ()
noncomputable def Rz (s : List UInt8) : Ha × (Bool × Unit) :=
 match Ob (fun _ m p => KB m p) 0 Hu (Lib.split s [32, 124, 32]) with
 | .inl m => cond (!Gc m || Ky m != s) (Hu, false, ()) (m, true, ())
 | .inr _ => (Hu, false, ())
theorem KJ (b : Int) : ∀ (l cur : List UInt8), Df b cur l ≠ []
 | [], cur => by simp [Df]
 | c :: l, cur => by
  simp only [Df]
  cases ((UInt8.toNat c : Nat) : Int) == b with
  | true => simp
  | false => exact KJ b l _
theorem Q5 (n : Nat) : ∀ (W : List (List UInt8)) (k : Nat) (l r : List Ga), l.length ≤ 32 → Ob (fun _ l w => SM n l w) k l W = .inl r → r.length ≤ 32 ∧ (W ≠ [] → n < 4)
 | [], k, l, r, hl, h => by simp only [Ob, yz] at h; subst h; exact ⟨hl, fun h => absurd rfl h⟩
 | w :: W, k, l, r, hl, h => by
  simp only [Ob] at h
  revert h
  cases hx : SM n l w with
  | inr u => intro h; simp at h
  | inl l' =>
   intro h
   have hl' : l'.length ≤ 32 ∧ n < 4 := by
    unfold SM at hx
    revert hx
    cases (Du w).2.1 with
    | false => intro h; simp at h
    | true =>
     by_cases h1 : 32 ≤ l.length
     ·rw [Aa h1]; intro h; simp at h
     by_cases h2 : 4 ≤ n
     ·rw [Ba h1, Aa h2]; intro h; simp at h
     rw [Ba h1, Ba h2]
     intro h
     simp only [jg, zf, yz] at h
     subst h
     refine ⟨?_, by omega⟩
     rw [zb, qd]; simp; omega
   have := Q5 n W (k + 1) _ r hl'.1 h
   exact ⟨this.1, fun _ => hl'.2⟩
structure MW (m : Ha) : Prop where
 n : m.2.1.length ≤ 4
 r : ∀ l ∈ m.2.1, l.length ≤ 32
theorem H9 {m m' : Ha} {p : List UInt8} (h : MW m) (hl : KB m p = .inl m') : MW m' := by
 unfold KB at hl
 revert hl
 cases hf : Ob (fun _ l w => SM m.2.1.length l w) 0 [] (Df 32 [] p) with
 | inr u => intro hl; simp at hl
 | inl r =>
  intro hl
  simp only [yz] at hl
  subst hl
  obtain ⟨h1, h2⟩ := Q5 _ _ _ _ _ (by simp) hf
  have h2 := h2 (KJ _ _ _)
  refine ⟨?_, ?_⟩
  ·show (jf m.2.1 [r]).length ≤ 4
   rw [zb, qd]; simp; omega
  ·intro l hl
   rcases jl.1 (show l ∈ m.2.1 ++ [r] from hl) with h' | h'
   ·exact h.r l h'
   ·simp at h'; subst h'; exact h1
theorem Aar {m : Ha} (h : MW m) : Eb Ua m ≤ 136 := by
 rw [MaD]
 have key : ∀ (L : List (List Ga)), (∀ l ∈ L, l.length ≤ 32) → Eb (.sl (.sl Bc)) L ≤ 33 * L.length := by
  intro L
  induction L with
  | nil => intro _; show (0 : Nat) + 0 ≤ _; omega
  | cons l L ih =>
   intro hL
   have h1 := ih (fun x hx => hL x (jr _ hx))
   have h2 := hL l (List.mem_cons_self ..)
   have hr : Eb (.sl Bc) l = l.length := Yq (e := Bc) rfl l
   show (l :: L).length + (za (Eb (.sl Bc)) (l :: L)).sum ≤ _
   have h1' : L.length + (za (Eb (.sl Bc)) L).sum ≤ 33 * L.length := h1
   simp only [yi, List.sum_cons, jw] at *
   rw [hr]
   omega
 have := key m.2.1 h.r
 have := h.n
 omega
theorem CC {s : List UInt8} (hs : s.length ≤ 1048571) : Vn s = some (Rz s) := by
 have h20 : Ka = 1048576 := rfl
 obtain ⟨hn, hp⟩ := Iad s [32, 124, 32]
 unfold Vn Rz
 rw [show strings_Split s ([32, 124, 32] : List UInt8) = some (Lib.split s [32, 124, 32], ()) from by
  unfold strings_Split EW T5
  rw [show jx (ja s) 1048576 = true from ji (by omega)]
  rfl]
 simp only [jb]
 generalize Lib.split s [32, 124, 32] = T at hn hp
 have hl := Tg (step := fun x : (List UInt8 × Unit × Unit × List (List UInt8) × Int × Int × Unit) × Ha × Ha × Unit => Nm x.1.1 x.1.2.1 x.1.2.2.1 x.1.2.2.2.1 x.1.2.2.2.2.1 x.1.2.2.2.2.2.1 x.2.1 x.2.2.1) T (fun _ m p => KB m p)
  (fun m i => ((s, (), (), T, ((ja T : Nat) : Int), i, ()), (Hu, (m.1, m.2.1, ()), ()))) (fun m => .inl ((s, (), (), ()), (Hu, (m.1, m.2.1, ()), ()))) (fun _ => .inr (((), false, ()), (Hu, ()))) (fun _ m => MW m) (by
   intro k hk m hm
   refine ⟨?_, fun s' hs' => H9 hm hs'⟩
   have hpk := hp _ (qi hk)
   simp only [Nm]
   rw [Aa (by omega), Lg, Aa hk]
   simp only [ze, jn]
   rw [je hk]
   simp only [jb]
   generalize T[k] = p at hpk
   rw [Mz 32 (by omega)]
   simp only [jb]
   unfold KB
   have hwl := UA 32 p []
   have hwp := YB 32 p []
   generalize Df 32 [] p = W at hwl hwp
   have hin := Tg (step := fun x : (List UInt8 × Unit × Unit × List Ga × List (List UInt8) × Int × Int × List (List UInt8) × Int × Int × Unit) × Ha × Ha × Unit => Om x.1.1 x.1.2.1 x.1.2.2.1 x.1.2.2.2.1 x.1.2.2.2.2.1 x.1.2.2.2.2.2.1 x.1.2.2.2.2.2.2.1 x.1.2.2.2.2.2.2.2.1 x.1.2.2.2.2.2.2.2.2.1 x.1.2.2.2.2.2.2.2.2.2.1 x.2.1 x.2.2.1) W (fun _ l w => SM m.2.1.length l w)
    (fun l i => ((s, (), (), l, T, ((ja T : Nat) : Int), (k : Int), W, ((ja W : Nat) : Int), i, ()), (Hu, (m.1, m.2.1, ()), ()))) (fun l => .inl ((s, (), (), l, T, ((ja T : Nat) : Int), (k : Int), ()), (Hu, (m.1, m.2.1, ()), ()))) (fun _ => .inr (((), false, ()), (Hu, ()))) (fun j l => l.length ≤ 32) (by
     intro j hj l hl32
     have hwj := hwp _ (qi hj)
     simp only [Om]
     rw [Aa (by omega), Lg, Aa hj]
     simp only [ze, jn]
     rw [je hj]
     simp only [jb]
     generalize W[j] = w at hwj
     rw [BC (by simp at hwj; omega)]
     simp only [jb]
     unfold SM
     cases (Du w).2.1 with
     | false => exact ⟨rfl, fun s' h => by simp at h⟩
     | true =>
      simp only [jg, zf]
      by_cases h1 : 32 ≤ l.length
      ·rw [Aa (show ((ja l : Nat) : Int) ≥ 32 by omega), Aa h1]
       exact ⟨rfl, fun s' h => by simp at h⟩
      rw [Ba (show ¬ ((ja l : Nat) : Int) ≥ 32 by omega), Ba h1]
      by_cases h2 : 4 ≤ m.2.1.length
      ·rw [Aa (show ((ja m.2.1 : Nat) : Int) ≥ 4 by omega), Aa h2]
       exact ⟨rfl, fun s' h => by simp at h⟩
      rw [Ba (show ¬ ((ja m.2.1 : Nat) : Int) ≥ 4 by omega), Ba h2]
      simp only [zf]
      rw [Mb (by simp; omega)]
      refine ⟨rfl, fun s' h => ?_⟩
      simp only [yz] at h
      subst h
      simp; omega) (by
     intro l hl32
     simp only [Om]
     rw [Ba (by omega)]; rfl) (by omega) [] (by simp)
   unfold To
   erw [hin]
   cases Ob (fun _ l w => SM m.2.1.length l w) 0 [] W with
   | inr u => rfl
   | inl r =>
    simp only [jb, qg]
    have := hm.n
    have e : ([r] : List (List Ga)).length = 1 := rfl
    rw [Mb (by omega)]
    rfl) (by
   intro m hm
   simp only [Nm]
   rw [Ba (by omega)]; rfl) (by omega) Hu ⟨by simp [Hu], by simp [Hu]⟩
 have key : ∀ (L : List (List UInt8)) (k : Nat) (m m' : Ha), MW m → Ob (fun _ m p => KB m p) k m L = .inl m' → MW m' := by
  intro L
  induction L with
  | nil => intro k m m' h hf; simp only [Ob, yz] at hf; subst hf; exact h
  | cons p L ih =>
   intro k m m' h hf
   simp only [Ob] at hf
   revert hf
   cases hx : KB m p with
   | inr u => intro hf; simp at hf
   | inl m1 => intro hf; exact ih (k + 1) m1 m' (H9 h hx) hf
 unfold So
 erw [hl]
 cases hf : Ob (fun _ m p => KB m p) 0 Hu T with
 | inr u => rfl
 | inl m =>
  have hm := Aar (key T 0 Hu m ⟨by simp [Hu], by simp [Hu]⟩ hf)
  simp only [jb, qg]
  have hi := Dh m (by omega)
  erw [hi]
  simp only [jb]
  cases Gc m with
  | false => rfl
  | true =>
   simp only [jg, zf, yr]
   have hfk := CB (m := m) (by omega)
   erw [hfk]
   simp only [jb]
   cases Ky m != s <;> rfl
instance FaH (k c m n : Int) : Decidable (Nb k c m n) := by unfold Nb; infer_instance
def Cat (a : Ga) : Bool := decide (Nb a.1 a.2.1 a.2.2.1 a.2.2.2.1)
theorem Y2 : Wb = Cat := by
 funext a
 rw [qm, Db]
 simp [Cat]
def wm : Ha := ((6 : Int), ([[((2 : Int), (1 : Int), (0 : Int), (0 : Int), ()), ((2 : Int), (2 : Int), (0 : Int), (0 : Int), ()), ((3 : Int), (0 : Int), (0 : Int), (1 : Int), ()), ((6 : Int), (3 : Int), (2 : Int), (0 : Int), ()), ((7 : Int), (4 : Int), (0 : Int), (2 : Int), ()), ((8 : Int), (0 : Int), (2 : Int), (0 : Int), ())],
 [((2 : Int), (27 : Int), (0 : Int), (0 : Int), ()), ((1 : Int), (0 : Int), (0 : Int), (0 : Int), ()), ((1 : Int), (0 : Int), (0 : Int), (0 : Int), ()), ((2 : Int), (28 : Int), (0 : Int), (0 : Int), ()), ((4 : Int), (0 : Int), (0 : Int), (2 : Int), ()), ((10 : Int), (0 : Int), (0 : Int), (0 : Int), ())],
 [((2 : Int), (48 : Int), (0 : Int), (0 : Int), ()), ((5 : Int), (0 : Int), (0 : Int), (0 : Int), ()), ((1 : Int), (0 : Int), (0 : Int), (0 : Int), ()), ((1 : Int), (0 : Int), (0 : Int), (0 : Int), ()), ((2 : Int), (44 : Int), (0 : Int), (0 : Int), ()), ((4 : Int), (0 : Int), (0 : Int), (2 : Int), ())]] : List (List Ga)), ())
theorem J2 : Gc wm = true := by
 unfold Gc Wh Tf
 rw [Y2]
 kernel_rfl
theorem BaH : Rz Ru = (wm, true, ()) := by
 have h : Ob (fun _ m p => KB m p) 0 Hu (Lib.split Ru [32, 124, 32]) = .inl wm := by
  unfold KB SM Du Rr
  rw [Y2]
  kernel_rfl
 unfold Rz
 rw [h]
 show cond (!Gc wm || Ky wm != Ru) (Hu, false, ()) (wm, true, ()) = _
 have ht : Ky wm = Ru := by
  unfold Ky
  rw [J2]
  unfold XH Rr
  rw [Y2]
  kernel_rfl
 rw [J2, ht]
 simp
theorem P3 {e : Qb} (h : Hm e) : Eb Rc e ≤ 300 := by
 have hh := Mx h.hd
 have h2 : Eb (.sl (.sl Kd)) e.2.1 ≤ (8 + 1) * e.2.1.length := QG (e := .sl Kd) (c := 8) fun x hx => by
  have := FQ (h.mac x hx)
  have e2 : Eb (.sl Kd) x = x.length := Yq (e := Kd) rfl x
  omega
 have := h.m4
 have hm := Hd h.km
 have h3 : Eb Ua e.1 ≤ 200 := by
  have h1 : Eb Ua e.1 = 0 + (Eb (.sl (.sl Bc)) e.1.2.1 + 0) := rfl
  have h2 : Eb (.sl (.sl Bc)) e.1.2.1 ≤ (32 + 1) * ja e.1.2.1 := QG (e := .sl Bc) (c := 32) fun x hx => by
   obtain ⟨i, hi, rfl⟩ := qj hx
   rw [KP]
   have := hm.row i hi
   have := hm.k2
   omega
  have := hm.l2
  omega
 have h6 : Eb (.sl Mj) e.2.2.2.1 = e.2.2.2.1.length := Yq (e := Mj) rfl _
 rw [Bl]
 omega
theorem IT {l : List Xd} (h : EG l) (hl : l.length ≤ 2000) : Eb (.sl Sg) l ≤ 114000 := by
 have h2 : Eb (.sl Sg) l ≤ (56 + 1) * l.length := QG (e := Sg) (c := 56) fun x hx => by
  have h1 := h x hx
  simp only [Qs, jd] at h1
  have h3 := PA h1.2
  have h4 : Eb Sg x = Eb Sc x.2.1 := by
   show 0 + (Eb Sc x.2.1 + 0) = _
   omega
  rw [h4, W5]
  exact h3
 omega
structure Bk (s : Sa) : Prop where
 d : Pc s.1 = true
 n : s.2.1.length ≤ 200
 s : EG s.2.1
theorem Eaa (s : Sa) : Ux s = true ↔ Bk s := by
 simp only [Ux, jd, decide_eq_true_eq, YR]
 exact ⟨fun ⟨a, b, c⟩ => ⟨a, b, c⟩, fun h => ⟨h.d, h.n, h.s⟩⟩
theorem Nac {d : Ib} (h : Pc d = true) : Eb Pe d ≤ 400 := by
 have h1 := ES h
 have h2 := P3 h1.pl.eng
 have h3 := h1.pl.len
 rw [QK, HD]
 omega
theorem Jao {s : Sa} (h : Bk s) : Eb Qe s ≤ 200000 := by
 have h1 := Nac h.d
 have h2 := IT h.s (by have := h.n; omega)
 rw [Qah]
 omega
theorem EC {s : Sa} (hd : Eb Pe s.1 ≤ Ka) (hz : Eb (.sl Sg) s.2.1 ≤ Ka) : Mi s = some (s, ()) := by
 have h20 : Ka = 1048576 := rfl
 have h1 : Eb (.sl Sg) s.2.1 = ja s.2.1 + (za (Eb Sg) s.2.1).sum := rfl
 obtain ⟨d, l, ⟨⟩⟩ := s
 simp only at hd hz h1
 have hl := Wm (step := fun x => Pm x.1.1 x.1.2.1 x.1.2.2.1 x.1.2.2.2.1 x.1.2.2.2.2.1 x.2.1 x.2.2.1) l (fun x => x)
  (fun o k => (((), (), l, ((ja l : Nat) : Int), k, ()), ((Qy, ([] : List Xd), ()), (d, o, ()), ()))) (fun o => .inl (((), (), ()), ((Qy, ([] : List Xd), ()), (d, o, ()), ()))) (by omega) (fun k hk o ho => by
   simp only [Pm]
   rw [Aa (by omega), Ec hk]
   simp only [ze, jb]
   rw [HE _ (KT hz hk)]
   simp only [jb]
   rw [Mb (by simp only [jw, j7]; omega)]
   rfl) (fun o => by
   simp only [Pm]
   rw [Ba (by omega)]
   rfl)
 unfold Mi Uo
 rw [DC _ hd]
 simp only [jb]
 erw [hl]
 rw [List.map_id']
 rfl
noncomputable def OX (m : Ha) (M : List (List Lb)) : Qb × (Bool × Unit) := cond (Ag (Qo m M)) (Qo m M, true, ()) (EaH, false, ())
theorem KO (m : Ha) (M : List (List Lb)) (hz : Eb Rc (Qo m M) ≤ Ka) : Qx m M = some (OX m M) := by
 have hz2 := hz
 rw [Bl] at hz2
 unfold OX Qx
 rw [GE _ (show Eb Ua m ≤ Ka from by have : (Qo m M).1 = m := rfl; rw [this] at hz2; omega), Ow M (by have : (Qo m M).2.1 = M := rfl; rw [this] at hz2; omega)]
 simp only [jb]
 have h := KH (Qo m M) hz
 unfold Qo at h
 rw [h]
 unfold Qo
 cases Ag (m, M, (0 : Int), ([] : List Ma), (0 : Int), false, ()) <;> rfl
noncomputable def Wy (m : Ha) (M : List (List Lb)) (t : Lb) : Sa × (Bool × Unit) :=
 cond (Ag (Qo m M)) (((EL (Qo m M) t).1, ([] : List Xd), ()), (EL (Qo m M) t).2.1, ()) ((Qy, ([] : List Xd), ()), false, ())
theorem GN (m : Ha) (M : List (List Lb)) (t : Lb) (hz : Eb Rc (Qo m M) ≤ Ka) : Ij m M t = some (Wy m M t) := by
 unfold Ij Wy
 rw [KO m M hz]
 unfold OX
 cases hE : Ag (Qo m M) with
 | false => rfl
 | true =>
  simp only [ze, jb, jg, zf]
  rw [LN _ _ hz]
  rfl
theorem BZ {m : Ha} {M : List (List Lb)} {t : Lb} (h : (Wy m M t).2.1 = true) : Bk (Wy m M t).1 := by
 unfold Wy at h ⊢
 cases hE : Ag (Qo m M) with
 | false => rw [hE] at h; simp at h
 | true =>
  rw [hE] at h
  simp only [ze] at h ⊢
  unfold EL at h ⊢
  cases hd : Pc (XN (Qo m M) t) with
  | false => rw [hd] at h; simp at h
  | true =>
   refine ⟨?_, ?_, ?_⟩
   ·exact hd
   ·show (0 : Nat) ≤ 200; omega
   ·intro y hy; simp at hy
def Zad (s : Sa) (n : Sa) (ok : Bool) : Sa × (List UInt8 × Unit) := cond (!ok) (s, [110, 111], ()) (n, [111, 107], ())
theorem GV (s n : Sa) (ok : Bool) : Ei s n ok = some (Zad s n ok) := by
 unfold Ei Zad
 cases ok <;> rfl
noncomputable def L5 (s : Sa) (m : Ha) (M : List (List Lb)) (t : Lb) : Sa × (List UInt8 × Unit) := Zad s (Wy m M t).1 (Wy m M t).2.1
theorem N5 {s : Sa} (h : Bk s) (m : Ha) (M : List (List Lb)) (t : Lb) : Bk (L5 s m M t).1 ∧ (L5 s m M t).2.1.length ≤ 2 := by
 unfold L5 Zad
 cases hf : (Wy m M t).2.1 with
 | false => exact ⟨h, jo 2⟩
 | true => exact ⟨BZ hf, jo 2⟩
def EO (b : UInt8) : UInt8 := Re.getD (b.toNat / 16) 0
def GO (b : UInt8) : UInt8 := Re.getD (b.toNat % 16) 0
def DZ (l : List UInt8) : List UInt8 := l.flatMap fun b => [EO b, GO b]
theorem Vat : ∀ b : Fin 256, Hc Re (Bu .u8 (b.val : Int) 4) = some (EO (UInt8.ofNat b.val)) ∧ Hc Re (Cl .u8 (b.val : Int) 15) = some (GO (UInt8.ofNat b.val)) ∧
 0 ≤ Lib.indexByte Re (jy ((EO (UInt8.ofNat b.val)).toNat : Int)).toUInt8 ∧ 0 ≤ Lib.indexByte Re (jy ((GO (UInt8.ofNat b.val)).toNat : Int)).toUInt8 ∧
 j5 .u8 (j5 .i64 (j5 .i64 (16 * Lib.indexByte Re (jy ((EO (UInt8.ofNat b.val)).toNat : Int)).toUInt8) + Lib.indexByte Re (jy ((GO (UInt8.ofNat b.val)).toNat : Int)).toUInt8)) = (b.val : Int) := by
 decide +kernel
theorem Cap (c : UInt8) : Hc Re (Bu .u8 (c.toNat : Int) 4) = some (EO c) ∧ Hc Re (Cl .u8 (c.toNat : Int) 15) = some (GO c) ∧
 0 ≤ Lib.indexByte Re (jy ((EO c).toNat : Int)).toUInt8 ∧ 0 ≤ Lib.indexByte Re (jy ((GO c).toNat : Int)).toUInt8 ∧
 j5 .u8 (j5 .i64 (j5 .i64 (16 * Lib.indexByte Re (jy ((EO c).toNat : Int)).toUInt8) + Lib.indexByte Re (jy ((GO c).toNat : Int)).toUInt8)) = (c.toNat : Int) := by
 have h := Vat ⟨c.toNat, c.toNat_lt⟩
 rw [UInt8.ofNat_toNat] at h
 exact h
theorem Yaf : ∀ l : List UInt8, (DZ l).length = 2 * l.length
 | [] => rfl
 | c :: l => by
  have := Yaf l
  show ([EO c, GO c] ++ DZ l).length = _
  simp only [qd, jw, j7]
  omega
theorem OQ {l : List UInt8} (hl : l.length ≤ 2000) : An (Yc l) = some (DZ l, ()) := by
 have hn := Uy l
 unfold An
 rw [Ba (show ¬ ((ja (Yc l) : Nat) : Int) > 2000 by omega)]
 have h := (Bg (step := fun x : (((List Int) × Zb) × Unit) => Jp x.1.1 x.1.2.1 x.1.2.2.1 x.1.2.2.2.1) l (fun _ o (c : UInt8) => jf o [((EO c).toNat : Int), ((GO c).toNat : Int)])
  (fun o i => ((o, Yc l, ((ja (Yc l) : Nat) : Int), i, ()), ())) (fun o => .inl ((o, ()), ())) (fun k o => o.length = 2 * k) (by
   intro k hk o ho
   refine ⟨?_, by simp [ho]; omega⟩
   have hx := Cap l[k]
   have e : (Yc l)[k]'(by omega) = (l[k].toNat : Int) := by simp [Yc]
   simp only [Jp]
   rw [Aa (by omega), Ec (show k < (Yc l).length by omega)]
   simp only [ze, jb]
   rw [e, Aa (show (0 : Int) ≤ 4 by omega), hx.1]
   simp only [ze, jb]
   rw [hx.2.1]
   simp only [jb]
   rw [Mb (by simp; omega)]
   rfl) (by
   intro o ho
   simp only [Jp]
   rw [Ba (by omega)]; rfl) (by omega) [] rfl).1
 have hf : ∀ (ys : List UInt8) (j : Nat) (o : List Int), Lc (fun _ o (c : UInt8) => jf o [((EO c).toNat : Int), ((GO c).toNat : Int)]) j o ys = o ++ Yc (DZ ys) := by
  intro ys
  induction ys with
  | nil => intro j o; simp [Lc, DZ, Yc]
  | cons y ys ih =>
   intro j o
   rw [Lc, ih]
   have e : DZ (y :: ys) = [EO y, GO y] ++ DZ ys := rfl
   rw [e, YQ]
   simp [Yc]
 rw [hf] at h
 simp only [zf]
 unfold Vr
 erw [h]
 simp only [jb, qg, List.nil_append]
 rw [PR]
def E4 (l : List UInt8) : List UInt8 := cond (decide (((ja l : Nat) : Int) > 2000)) [] (DZ l)
theorem N6 (l : List UInt8) : An (Yc l) = some (E4 l, ()) := by
 have hn := Uy l
 unfold E4
 by_cases h : ((ja l : Nat) : Int) > 2000
 ·rw [Aa h]
  unfold An
  rw [Aa (by omega)]; rfl
 ·rw [Ba h, OQ (by omega)]; rfl
theorem Saj (l : List UInt8) : (E4 l).length ≤ 4000 := by
 unfold E4
 by_cases h : ((ja l : Nat) : Int) > 2000
 ·rw [Aa h]; simp
 ·rw [Ba h]
  have := Yaf l
  simp only [zf]
  omega
noncomputable def XO (o : List Int) (w : List UInt8) : List Int ⊕ Unit := cond (Rm w).2.1 (.inl (jf o [(Rm w).1])) (.inr ())
noncomputable def Te (W : List (List UInt8)) (n : Int) : List Int × (Bool × Unit) :=
 cond (((ja W : Nat) : Int) != n + 1) (([] : List Int), false, ()) (match Ob (fun _ o w => XO o w) 0 [] (W.drop 1) with
  | .inl o => (o, true, ())
  | .inr _ => (([] : List Int), false, ()))
theorem T9 : ∀ (W : List (List UInt8)) (k : Nat) (o o' : List Int), Ob (fun _ o w => XO o w) k o W = .inl o' → o'.length = o.length + W.length
 | [], k, o, o', h => by simp only [Ob, yz] at h; subst h; rfl
 | w :: W, k, o, o', h => by
  simp only [Ob] at h
  revert h
  unfold XO
  cases (Rm w).2.1 with
  | false => intro h; simp at h
  | true =>
   intro h
   have := T9 W (k + 1) _ o' h
   simp only [zb, qd, jw, j7] at this ⊢
   omega
theorem XS {W : List (List UInt8)} {n : Nat} (h : (Te W (n : Int)).2.1 = true) : (Te W (n : Int)).1.length = n := by
 unfold Te at h ⊢
 cases hc : (((ja W : Nat) : Int) != (n : Int) + 1) with
 | true => rw [hc] at h; simp at h
 | false =>
  rw [hc] at h
  simp only [zf] at h ⊢
  have hl : (W.length : Int) = (n : Int) + 1 := by simpa using hc
  revert h
  cases hf : Ob (fun _ o w => XO o w) 0 [] (W.drop 1) with
  | inr u => intro h; simp at h
  | inl o =>
   intro _
   have := T9 _ _ _ _ hf
   simp only [ql, j7] at this
   show o.length = n
   omega
theorem IB (W : List (List UInt8)) (n : Nat) (hW : W.length ≤ 100000000) (hn : n ≤ 100) : Jf W (n : Int) = some (Te W (n : Int)) := by
 unfold Jf Te
 rw [Gd (by omega) (by omega)]
 cases hc : (((ja W : Nat) : Int) != (n : Int) + 1) with
 | true => rfl
 | false =>
  simp only [zf]
  have hl : (W.length : Int) = (n : Int) + 1 := by simpa using hc
  have hok : Jd (ja W) 1 ((ja W : Nat) : Int) = true := Al (lo := 1) (by omega) (jo _)
  have hcut : Xa W (jy 1) (jy ((ja W : Nat) : Int)) = W.drop 1 := by
   rw [show jy 1 = 1 from rfl, jn]
   unfold Xa
   rw [List.take_length]
  rw [hok, hcut]
  simp only [ze]
  have hd : (W.drop 1).length ≤ 100000000 := by rw [ql]; omega
  generalize W.drop 1 = V at hd
  have h := Tg (step := fun x : (List Int × List (List UInt8) × Int × Int × Unit) × Unit => Xt x.1.1 x.1.2.1 x.1.2.2.1 x.1.2.2.2.1) V (fun _ o w => XO o w)
   (fun o i => ((o, V, ((ja V : Nat) : Int), i, ()), ())) (fun o => .inl ((o, ()), ())) (fun _ => .inr ((([] : List Int), false, ()), ())) (fun k o => o.length = k) (by
    intro k hk o ho
    have e1 : Xo V[k] = some (Rm V[k]) := rfl
    refine ⟨?_, fun o' h' => ?_⟩
    ·simp only [Xt]
     rw [Aa (by omega), Ec hk]
     simp only [ze, jb]
     rw [e1]
     simp only [jb]
     unfold XO
     cases (Rm V[k]).2.1 with
     | false => rfl
     | true =>
      simp only [jg, zf, ze]
      rw [Mb (by simp only [jw, j7]; omega)]
      rfl
    ·unfold XO at h'
     revert h'
     cases (Rm V[k]).2.1 with
     | false => intro h; simp at h
     | true =>
      intro h
      simp only [ze, yz] at h
      subst h
      simp [ho]) (by
    intro o ho
    simp only [Xt]
    rw [Ba (by omega)]; rfl) (by omega) [] rfl
  unfold Ev
  erw [h]
  cases Ob (fun _ o w => XO o w) 0 [] V <;> rfl
noncomputable def GY (x : Lb) : List UInt8 := jf (jf (Xa [116, 100, 117] x.1.toNat (x.1.toNat + 1)) [61]) (Rr (2, x.2.1, x.2.2.1, 0, ()))
noncomputable def NV (l : List Lb) : List UInt8 := cond (Vc l) (Lib.join (l.map GY) [32]) []
theorem V5 (x : Lb) : (GY x).length ≤ 60 := by
 have h1 := Z2 (2, x.2.1, x.2.2.1, 0, ())
 have h2 : (Xa ([116, 100, 117] : List UInt8) x.1.toNat (x.1.toNat + 1)).length ≤ 3 := by
  unfold Xa
  rw [ql, List.length_take]
  simp only [jw, j7]
  omega
 unfold GY
 simp only [zb, qd, jw, j7]
 omega
theorem JZ : ∀ (l : List Lb) (k : Nat) (L L' : List Ma), Ob (fun _ L x => Xl L x) k L l = .inl L' → ∀ x ∈ l, 0 ≤ x.1 ∧ x.1 ≤ 2
 | [], _, _, _, _, x, hx => by simp at hx
 | y :: l, k, L, L', h, x, hx => by
  simp only [Ob] at h
  cases hg : Xl L y with
  | inr _ => rw [hg] at h; simp at h
  | inl L1 =>
   rw [hg] at h
   simp only at h
   rcases jp.1 hx with rfl | hx
   ·unfold Xl at hg
    cases hs : Tl x (Vd (Dk x.2.1 x.2.2.1) 0 L) with
    | false => rw [hs] at hg; simp at hg
    | true =>
     simp only [Tl, jd, qx, beq_iff_eq] at hs
     omega
   ·exact JZ l (k + 1) L1 L' h x hx
theorem R6 {l : List Lb} (h : Vc l = true) : ∀ x ∈ l, 0 ≤ x.1 ∧ x.1 ≤ 2 := by
 simp only [Vc, jd] at h
 have h2 := h.2
 cases hm : JX l with
 | inr _ => rw [hm] at h2; simp at h2
 | inl L => exact JZ l 0 [] L hm
theorem KN (l : List Lb) (hn : l.length ≤ Ka) : Pt l = some (NV l, ()) := by
 have h20 : Ka = 1048576 := rfl
 unfold Pt NV
 rw [Mv l hn]
 simp only [jb]
 cases hm : Vc l with
 | false => rfl
 | true =>
  simp only [jg, zf, ze]
  have h8 := FQ hm
  have hk := R6 hm
  have hl := Wm (step := fun x : (List (List UInt8) × List Lb × Int × Int × Unit) × Unit => Jm x.1.1 x.1.2.1 x.1.2.2.1 x.1.2.2.2.1) l GY
   (fun o k => ((o, l, (l.length : Int), k, ()), ())) (fun o => .inl ((o, ()), ())) (by omega) (fun k hk2 o ho => by
    have hx := hk l[k] (qi hk2)
    have hlen := V5 l[k]
    unfold GY at hlen
    simp only [Jm]
    rw [Aa (by omega), Ec hk2]
    simp only [ze, jb]
    obtain ⟨n, hn⟩ := jv hx.1
    have hn' : l[k].1 = (n : Int) := hn
    have e1 : j5 .i64 (l[k].1 + 1) = ((n + 1 : Nat) : Int) := by rw [hn']; exact Af (by omega)
    have e2 : Jd (ja ([116, 100, 117] : List UInt8)) l[k].1 ((n + 1 : Nat) : Int) = true := by
     rw [hn']; exact Al (by omega) (by simp only [jw, j7]; omega)
    rw [e1, e2, Ot]
    have e3 : jy ((n + 1 : Nat) : Int) = l[k].1.toNat + 1 := by rw [hn']; simp
    rw [e3]
    simp only [ze, jb]
    simp only [zb, qd, jw, j7] at hlen
    rw [Mb (by simp only [jw, j7]; omega)]
    simp only [ze]
    rw [Mb (by simp only [zb, qd, jw, j7]; omega)]
    simp only [ze]
    rw [Mb (by simp only [jw, j7]; omega)]
    rfl) (fun o => by
    simp only [Jm]
    rw [Ba (by omega)]
    rfl)
  unfold Ro
  erw [hl]
  simp only [jb, qg]
  have hjl := Vw (l.map GY) [32] 60 (fun x hx => by
   obtain ⟨y, _, rfl⟩ := qk.1 hx
   exact V5 y)
  rw [yp] at hjl
  simp only [jw, j7] at hjl
  rw [Li (by simp; omega) (by omega)]
  rfl
noncomputable def KR (s : List Lb) (w : List UInt8) : List Lb ⊕ Unit :=
 cond (!(Lib.cut w [61]).2.2) (.inr ()) (cond (!(Du (Lib.cut w [61]).2.1).2.1) (.inr ()) (cond ((Du (Lib.cut w [61]).2.1).1.1 != 2) (.inr ())
  (cond (((ja (Lib.cut w [61]).1 : Nat) : Int) != 1) (.inr ()) (cond (decide (Lib.index [116, 100, 117] (Lib.cut w [61]).1 < 0)) (.inr ())
   (.inl (jf s [(Lib.index [116, 100, 117] (Lib.cut w [61]).1, (Du (Lib.cut w [61]).2.1).1.2.1, (Du (Lib.cut w [61]).2.1).1.2.2.1, ())]))))))
noncomputable def PB (s : List UInt8) : List Lb × (Bool × Unit) :=
 cond (s == ([] : List UInt8)) (([] : List Lb), true, ()) (match Ob (fun _ o w => KR o w) 0 [] (Df 32 [] s) with
  | .inl l => cond (!Vc l || NV l != s) (([] : List Lb), false, ()) (l, true, ())
  | .inr _ => (([] : List Lb), false, ()))
theorem Lah {s s' : List Lb} {w : List UInt8} (h : KR s w = .inl s') : s'.length = s.length + 1 := by
 unfold KR at h
 revert h
 cases (Lib.cut w [61]).2.2 with
 | false => intro h; simp at h
 | true =>
  cases (Du (Lib.cut w [61]).2.1).2.1 with
  | false => intro h; simp at h
  | true =>
   cases (Du (Lib.cut w [61]).2.1).1.1 != 2 with
   | true => intro h; simp at h
   | false =>
    cases (((ja (Lib.cut w [61]).1 : Nat) : Int) != 1) with
    | true => intro h; simp at h
    | false =>
     cases decide (Lib.index [116, 100, 117] (Lib.cut w [61]).1 < 0) with
     | true => intro h; simp at h
     | false =>
      intro h
      simp only [jg, zf, yz] at h
      subst h
      simp
theorem Rao (w p : List UInt8) : (Lib.cut w p).2.1.length ≤ w.length := by
 unfold Lib.cut
 split <;> simp
theorem J5 : ∀ (W : List (List UInt8)) (k : Nat) (o o' : List Lb), Ob (fun _ o w => KR o w) k o W = .inl o' → o'.length = o.length + W.length
 | [], k, o, o', h => by simp only [Ob, yz] at h; subst h; rfl
 | w :: W, k, o, o', h => by
  simp only [Ob] at h
  revert h
  cases hg : KR o w with
  | inr u => intro h; simp at h
  | inl o1 =>
   intro h
   have := J5 W (k + 1) o1 o' h
   have := Lah hg
   simp only [jw]
   omega
theorem LO {s : List UInt8} (hs : s.length ≤ 1048571) : Pv s = some (PB s) := by
 have h20 : Ka = 1048576 := rfl
 unfold Pv PB
 cases s == ([] : List UInt8) with
 | true => rfl
 | false =>
  rw [Mz 32 (by omega)]
  simp only [zf, jb]
  have hn := UA 32 s []
  have hp := YB 32 s []
  generalize Df 32 [] s = W at hn hp
  have h := Tg (step := fun x : (List UInt8 × List Lb × List (List UInt8) × Int × Int × Unit) × Unit => Jo x.1.1 x.1.2.1 x.1.2.2.1 x.1.2.2.2.1 x.1.2.2.2.2.1) W (fun _ o w => KR o w)
   (fun o i => ((s, o, W, ((ja W : Nat) : Int), i, ()), ())) (fun o => .inl ((s, o, ()), ())) (fun _ => .inr ((([] : List Lb), false, ()), ())) (fun k o => o.length = k) (by
    intro k hk o ho
    refine ⟨?_, fun o' h' => by rw [Lah h', ho]⟩
    have hw := hp W[k] (qi hk)
    simp only [Jo]
    rw [Aa (by omega), Lg, Aa hk]
    simp only [ze, jn]
    rw [je hk]
    simp only [jb]
    generalize W[k] = w at hw
    have hw2 := Rao w [61]
    rw [H3 [61] (by simp at hw; omega)]
    simp only [jb]
    rw [BC (by simp at hw; omega)]
    simp only [jb]
    have ei : strings_Index ([116, 100, 117] : List UInt8) (Lib.cut w [61]).1 = some (Lib.index [116, 100, 117] (Lib.cut w [61]).1, ()) := rfl
    rw [ei]
    simp only [jb]
    unfold KR
    cases (Lib.cut w [61]).2.2 with
    | false => rfl
    | true =>
     cases (Du (Lib.cut w [61]).2.1).2.1 with
     | false => rfl
     | true =>
      cases (Du (Lib.cut w [61]).2.1).1.1 != 2 with
      | true => rfl
      | false =>
       cases (((ja (Lib.cut w [61]).1 : Nat) : Int) != 1) with
       | true => rfl
       | false =>
        cases decide (Lib.index [116, 100, 117] (Lib.cut w [61]).1 < 0) with
        | true => rfl
        | false =>
         simp only [jg, zf]
         rw [Mb (by simp only [jw, j7]; omega)]
         rfl) (by
    intro o ho
    simp only [Jo]
    rw [Ba (by omega)]; rfl) (by omega) [] rfl
  have hl : ∀ o, Ob (fun _ o w => KR o w) 0 [] W = .inl o → o.length ≤ Ka := fun o ho => by
   have := J5 W 0 [] o ho
   simp at this; omega
  unfold Oq
  erw [h]
  revert hl
  cases Ob (fun _ o w => KR o w) 0 [] W with
  | inr u => intro _; rfl
  | inl o =>
   intro hl
   have hol := hl o rfl
   simp only [jb, qg]
   rw [Mv o hol]
   simp only [jb]
   cases Vc o with
   | false => rfl
   | true =>
    simp only [jg, zf, yr]
    rw [KN o hol]
    simp only [jb]
    cases NV o != s <;> rfl
theorem Nar {s : List UInt8} (h : (PB s).2.1 = true) : Vc (PB s).1 = true := by
 unfold PB at h ⊢
 revert h
 cases s == ([] : List UInt8) with
 | true => intro _; rfl
 | false =>
  simp only [zf]
  cases Ob (fun _ o w => KR o w) 0 [] (Df 32 [] s) with
  | inr u => intro h; simp at h
  | inl l =>
   simp only
   cases hm : Vc l with
   | false => intro h; simp at h
   | true =>
    cases NV l != s with
    | true => intro h; simp at h
    | false => intro _; exact hm
abbrev Nh := List (Int × List Int)
theorem XC {α : Type} : ∀ {W : List (Int × α)} {x : Int} {w : α}, Bd W x = some w → (x, w) ∈ W
 | [], x, w, h => by simp [Bd] at h
 | (k, y) :: r, x, w, h => by
  simp only [Bd] at h
  cases hk : x == k with
  | true => rw [hk] at h; simp at h hk; subst h; subst hk; simp
  | false => rw [hk] at h; exact jr _ (XC h)
theorem LZ {α : Type} : ∀ {W : List (Int × α)} {x : Int}, Bd W x = none ↔ ∀ e ∈ W, e.1 ≠ x
 | [], x => by simp [Bd]
 | (k, y) :: r, x => by
  simp only [Bd]
  cases hk : x == k with
  | true => simp at hk; subst hk; simp
  | false =>
   simp at hk
   simp only [zf, LZ (W := r), List.forall_mem_cons]
   exact ⟨fun h => ⟨fun e => hk e.symm, h⟩, fun h => h.2⟩
theorem O9 {α : Type} : ∀ {W : List (Int × α)} {x : Int} {w : α}, (W.map Prod.fst).Nodup → (x, w) ∈ W → Bd W x = some w
 | [], x, w, _, h => by simp at h
 | (k, y) :: r, x, w, hn, h => by
  simp only [yi, yk] at hn
  simp only [Bd]
  rcases jp.1 h with h | h
  ·simp only [jh] at h
   rw [h.1, h.2]; simp
  ·have : x ≠ k := fun e => hn.1 (qk.2 ⟨(x, w), h, e⟩)
   rw [show (x == k) = false by simpa using this]
   exact O9 hn.2 h
section
variable (nx : Int → Nat → Int) (K : Nat) (fr : Int) (P : Int → Prop)
def SJ (x : Int) (w : List Int) (k : Nat) (W : Nh) : Nh := cond (Bd W (nx x k)).isSome W (W ++ [(nx x k, w ++ [(k : Int)])])
def Tr (x : Int) (w : List Int) (n : Nat) (W : Nh) : Nh := CA (SJ nx x w) n W
def OK : Nat → Nat → Nh → Nh
 | 0, _, W => W
 | n + 1, i, W => match W[i]? with
  | none => W
  | some e => OK n (i + 1) (Tr nx e.1 e.2 K W)
def B2 (f : Int) (w : List Int) : Int := w.foldl (fun f k => nx f k.toNat) f
structure BIn (W : Nh) : Prop where
 fst : W[0]? = some (fr, [])
 nd : (W.map Prod.fst).Nodup
 ok : ∀ e ∈ W, P e.1
 way : ∀ e ∈ W, B2 nx fr e.2 = e.1 ∧ ∀ k ∈ e.2, 0 ≤ k ∧ k < (K : Int)
 srt : ∀ (i j : Nat) (hj : j < W.length) (hi : i ≤ j), (W[i]'(by omega)).2.length ≤ W[j].2.length
 ln : ∀ (j : Nat) (hj : j < W.length), W[j].2.length ≤ j
structure YT (i k : Nat) (W : Nh) : Prop extends BIn nx K fr P W where
 lvl : ∀ (h : i < W.length) (j : Nat) (hj : j < W.length), W[j].2.length ≤ W[i].2.length + 1
 cls : ∀ (j : Nat) (hj : j < W.length) (k' : Nat), j < i ∧ k' < K ∨ j = i ∧ k' < k → ∃ (q : Nat) (hq : q < W.length), W[q].1 = nx W[j].1 k' ∧ W[q].2.length ≤ W[j].2.length + 1
end
section
variable {nx : Int → Nat → Int} {K : Nat} {fr : Int} {P : Int → Prop}
theorem Wac (f : Int) (w : List Int) (k : Nat) : B2 nx f (w ++ [(k : Int)]) = nx (B2 nx f w) k := by simp [B2]
theorem Eat (hP : ∀ x k, P x → k < K → P (nx x k)) {i k : Nat} {W : Nh} (h : YT nx K fr P i k W) (hi : i < W.length) (hk : k < K) : YT nx K fr P i (k + 1) (SJ nx W[i].1 W[i].2 k W) ∧ W <+: SJ nx W[i].1 W[i].2 k W := by
 unfold SJ
 cases hg : Bd W (nx W[i].1 k) with
 | some w =>
  simp only [Option.isSome_some, ze]
  refine ⟨{ toBIn := h.toBIn, lvl := h.lvl, cls := fun j hj k' hjk => ?_ }, List.prefix_refl _⟩
  by_cases hlast : j = i ∧ k' = k
  ·obtain ⟨rfl, rfl⟩ := hlast
   obtain ⟨q, hq, he⟩ := qj (XC hg)
   refine ⟨q, hq, by rw [he], ?_⟩
   exact h.lvl hj q hq
  ·exact h.cls j hj k' (by omega)
 | none =>
  simp only [Option.isSome_none, zf]
  have hlen : (W ++ [(nx W[i].1 k, W[i].2 ++ [(k : Int)])]).length = W.length + 1 := by simp
  have hget : ∀ (j : Nat) (hj : j < W.length), (W ++ [(nx W[i].1 k, W[i].2 ++ [(k : Int)])])[j]'(by omega) = W[j] := fun j hj => List.getElem_append_left hj
  have hnew : (W ++ [(nx W[i].1 k, W[i].2 ++ [(k : Int)])])[W.length]'(by omega) = (nx W[i].1 k, W[i].2 ++ [(k : Int)]) := by simp
  have hcase : ∀ j : Nat, j < (W ++ [(nx W[i].1 k, W[i].2 ++ [(k : Int)])]).length → j < W.length ∨ j = W.length := fun j hj => by omega
  have hw := h.way W[i] (qi hi)
  refine ⟨{ fst := ?_, nd := ?_, ok := ?_, way := ?_, srt := ?_, ln := ?_, lvl := ?_, cls := ?_ }, List.prefix_append _ _⟩
  ·have h0 := h.fst
   rw [List.getElem?_append_left (by omega)]
   exact h0
  ·rw [yu, yl]
   refine ⟨h.nd, by simp, ?_⟩
   intro a ha b hb
   simp only [yi, List.map_nil, qc] at hb
   subst hb
   obtain ⟨e, he, rfl⟩ := qk.1 ha
   exact LZ.1 hg e he
  ·intro e he
   rcases jl.1 he with he | he
   ·exact h.ok e he
   ·simp only [qc] at he
    subst he
    exact hP _ _ (h.ok _ (qi hi)) hk
  ·intro e he
   rcases jl.1 he with he | he
   ·exact h.way e he
   ·simp only [qc] at he
    subst he
    refine ⟨by rw [Wac, hw.1], fun q hq => ?_⟩
    rcases jl.1 hq with hq | hq
    ·exact hw.2 q hq
    ·simp only [qc] at hq
     subst hq
     omega
  ·intro a b hb hab
   rcases hcase b hb with hb' | rfl
   ·rw [hget a (by omega), hget b hb']
    exact h.srt a b hb' hab
   ·rcases hcase a (by omega) with ha | rfl
    ·rw [hget a ha, hnew]
     have := h.lvl hi a ha
     simpa using this
    ·exact jo _
  ·intro j hj
   rcases hcase j hj with hj' | rfl
   ·rw [hget j hj']; exact h.ln j hj'
   ·rw [hnew]
    have := h.ln i hi
    simp
    omega
  ·intro _ j hj
   rw [hget i hi]
   rcases hcase j hj with hj' | rfl
   ·rw [hget j hj']; exact h.lvl hi j hj'
   ·rw [hnew]; simp
  ·intro j hj k' hjk
   have hj' : j < W.length := by omega
   rw [hget j hj']
   by_cases hlast : j = i ∧ k' = k
   ·obtain ⟨rfl, rfl⟩ := hlast
    exact ⟨W.length, by omega, by rw [hnew], by rw [hnew]; simp⟩
   ·obtain ⟨q, hq, h1, h2⟩ := h.cls j hj' k' (by omega)
    exact ⟨q, by omega, by rw [hget q hq]; exact h1, by rw [hget q hq]; exact h2⟩
theorem UK (hP : ∀ x k, P x → k < K → P (nx x k)) {i : Nat} {W : Nh} (h : YT nx K fr P i 0 W) (hi : i < W.length) : ∀ n, n ≤ K → YT nx K fr P i n (Tr nx W[i].1 W[i].2 n W) ∧ W <+: Tr nx W[i].1 W[i].2 n W
 | 0, _ => ⟨h, List.prefix_refl _⟩
 | n + 1, hn => by
  obtain ⟨h1, h2⟩ := UK hP h hi n (by omega)
  have hi' : i < (Tr nx W[i].1 W[i].2 n W).length := qh hi h2.length_le
  have he : (Tr nx W[i].1 W[i].2 n W)[i] = W[i] := by
   obtain ⟨t, ht⟩ := h2
   have : (W ++ t)[i]? = some W[i] := by rw [List.getElem?_append_left hi, je hi]
   rw [ht, je hi'] at this
   exact y3 this
  obtain ⟨g1, g2⟩ := Eat hP h1 hi' (by omega)
  rw [he] at g1 g2
  exact ⟨g1, h2.trans g2⟩
theorem PX {i : Nat} {W : Nh} (h : YT nx K fr P i K W) (hi : i < W.length) : YT nx K fr P (i + 1) 0 W where
 toBIn := h.toBIn
 lvl := fun h1 j hj => by
  have := h.lvl hi j hj
  have := h.srt i (i + 1) h1 (by omega)
  omega
 cls := fun j hj k' hjk => h.cls j hj k' (by omega)
structure Yar (nx : Int → Nat → Int) (K : Nat) (fr : Int) (P : Int → Prop) (W : Nh) : Prop extends BIn nx K fr P W where
 len : W.length ≤ 16
 cls : ∀ e ∈ W, ∀ k, k < K → ∃ e' ∈ W, e'.1 = nx e.1 k ∧ e'.2.length ≤ e.2.length + 1
theorem LC (hB : ∀ x, P x → 0 ≤ x ∧ x < 16) {W : Nh} (h : BIn nx K fr P W) : W.length ≤ 16 := by
 have hn : (W.map fun e => e.1.toNat).Nodup := by
  have := h.nd
  rw [List.Nodup, List.pairwise_map] at this ⊢
  refine (List.Pairwise.and_mem.1 this).imp ?_
  rintro x y ⟨hx, hy, hxy⟩ he
  have h1 := hB _ (h.ok x hx); have h2 := hB _ (h.ok y hy)
  omega
 have := WS 16 _ hn (by
  intro y hy
  obtain ⟨x, hx, rfl⟩ := qk.1 hy
  have := hB _ (h.ok x hx)
  omega)
 simpa using this
theorem Baf (hB : ∀ x, P x → 0 ≤ x ∧ x < 16) (hP : ∀ x k, P x → k < K → P (nx x k)) : ∀ (n i : Nat) (W : Nh), YT nx K fr P i 0 W → 17 ≤ n + i → Yar nx K fr P (OK nx K n i W)
 | 0, i, W, h, hn => by
  have hl := LC hB h.toBIn
  refine { toBIn := h.toBIn, len := hl, cls := fun e he k hk => ?_ }
  obtain ⟨j, hj, rfl⟩ := qj (l := W) he
  obtain ⟨q, hq, h1, h2⟩ := h.cls j hj k (.inl ⟨by omega, hk⟩)
  exact ⟨_, qi hq, h1, h2⟩
 | n + 1, i, W, h, hn => by
  simp only [OK]
  by_cases hi : i < W.length
  ·rw [je hi]
   obtain ⟨h1, h2⟩ := UK hP h hi K (jo _)
   exact Baf hB hP n (i + 1) _ (PX h1 (qh hi h2.length_le)) (by omega)
  ·rw [qt (by omega)]
   have hl := LC hB h.toBIn
   refine { toBIn := h.toBIn, len := hl, cls := fun e he k hk => ?_ }
   obtain ⟨j, hj, rfl⟩ := qj (l := W) he
   obtain ⟨q, hq, g1, g2⟩ := h.cls j hj k (.inl ⟨by omega, hk⟩)
   exact ⟨_, qi hq, g1, g2⟩
theorem VT (h : P fr) : YT nx K fr P 0 0 [(fr, [])] where
 fst := rfl
 nd := by simp
 ok := fun e he => by simp at he; subst he; exact h
 way := fun e he => by simp at he; subst he; exact ⟨rfl, by simp⟩
 srt := fun i j hj hi => by
  have : j = 0 := by simpa using hj
  have : i = 0 := by omega
  subst i; subst j; exact jo _
 ln := fun j hj => by
  have : j = 0 := by simpa using hj
  subst j; simp
 lvl := fun _ j hj => by
  have : j = 0 := by simpa using hj
  subst j; simp
 cls := fun j hj k' h => by omega
end
def Qk (m : Ha) (f : Int) (k : Nat) : Int := VA f (Ph m.2.1 (Kf m f k) k)
theorem Rah (f o : Int) (c : Bool) (a : Ga) (ha : Wb a = true) : (QB f o c (SE a)).1 = VA f a := by
 have h0 : ∀ b : Ga, (QB f o c b).1 = VA f b := fun b => by
  unfold QB VA
  by_cases h2 : b.1 = 2
  ·simp only [h2, Int.reduceBEq, ze, zf]
   cases b.2.1 == 0 <;> simp only [ze, zf]
  ·simp only [show (b.1 == 2) = false by simpa using h2, zf]
   generalize Yn .i64 f (Ke .i64 1 b.2.2.2.1) = X
   generalize Sk .i64 (Ke .i64 1 b.2.2.2.1) 1 = Y
   cases b.1 == 4 with
   | true => simp only [ze]
   | false =>
    simp only [zf]
    cases b.1 == 5 with
    | true => simp only [ze]
    | false =>
     simp only [zf]
     cases b.1 == 8 with
     | true => simp only [ze]
     | false =>
      simp only [zf]
      cases b.1 == 10 <;> simp only [ze, zf]
 rw [h0]
 unfold SE
 cases ht : Mf a with
 | false => rfl
 | true =>
  unfold Mf at ht
  simp only [jd, qx, beq_iff_eq] at ht
  rw [ze]
  unfold VA
  rcases ht.2 with h | h <;> simp only [h, Int.reduceBEq, zf]
theorem Uau {m : Ha} (hM : Im m) {f o : Int} (hs : Yk m.2.1.length f o) (c : Bool) {k : Nat} (hk : (k : Int) < m.1) : (TZ m f o c k).1 = Qk m f k := by
 have hm := Hd hM.v
 have hl2 := hm.l2
 have hf1 := hs.f1
 have hp : 2 ^ m.2.1.length ≤ 2 ^ 4 := Nat.pow_le_pow_right (by omega) hl2
 have hsame : Kf m (Xe .i64 1 f) k = Kf m f k := YJ _ fun j hj => UU hs.f0 (by omega) hs.f2 j (by omega)
 have hl := Ww hm f k
 have hrow := hm.row _ hl
 have hact := hm.act _ hl k (by omega)
 rw [← IC hl (by omega)] at hact
 unfold TZ Baj Qk
 rw [hsame]
 exact Rah f o c _ (MB hact)
theorem DaA {m : Ha} (hM : Im m) {f : Int} {k : Nat} (hs : Yk m.2.1.length f 0) (hk : (k : Int) < m.1) : Yk m.2.1.length (Qk m f k) 0 := by
 have h1 := (Waq (c := false) hM hs hk).2.1
 rw [Uau hM hs false hk] at h1
 exact ⟨h1.f0, h1.f1, h1.f2, by omega, by omega⟩
theorem ZB {m : Ha} (hM : Im m) {x : Int} (hs : Yk m.2.1.length x 0) : 0 ≤ x ∧ x < 16 := by
 have hl2 := (Hd hM.v).l2
 have hf1 := hs.f1
 have hp : 2 ^ m.2.1.length ≤ 2 ^ 4 := Nat.pow_le_pow_right (by omega) hl2
 exact ⟨hs.f0, by omega⟩
def Zh (m : Ha) : Nat := m.1.toNat
def AE (m : Ha) (fr : Int) : Nh := OK (Qk m) (Zh m) 17 0 [(fr, [])]
abbrev BT (m : Ha) (fr : Int) := YT (Qk m) (Zh m) fr (fun x => Yk m.2.1.length x 0)
theorem JM {m : Ha} (hM : Im m) : (Zh m : Int) = m.1 ∧ Zh m ≤ 32 := by
 have hm := Hd hM.v
 have := hm.k1
 have := hm.k2
 unfold Zh
 omega
theorem P7 {m : Ha} (hM : Im m) : ∀ x k, Yk m.2.1.length x 0 → k < Zh m → Yk m.2.1.length (Qk m x k) 0 := fun x k hx hk => DaA hM hx (by have := JM hM; omega)
theorem C6 {m : Ha} (hM : Im m) {fr : Int} (h : Yk m.2.1.length fr 0) : Yar (Qk m) (Zh m) fr (fun x => Yk m.2.1.length x 0) (AE m fr) :=
 Baf (fun x hx => ZB hM hx) (P7 hM) 17 0 _ (VT h) (by omega)
theorem Gat {m : Ha} {fr : Int} {W W' : Nh} {i k : Nat} (h : BT m fr i k W') (hi : i < W.length) (hp : W <+: W') : Bd W' W[i].1 = some W[i].2 :=
 O9 h.nd (hp.subset (qi hi))
theorem E7 {m : Ha} (hM : Im m) {fr : Int} {i k : Nat} {W : Nh} (h : BT m fr i k W) {x : Int} {w : List Int} (hx : Bd W x = some w) : w.length ≤ 16 := by
 obtain ⟨j, hj, he⟩ := qj (XC hx)
 have h1 := h.ln j hj
 rw [he] at h1
 have := LC (fun x hx => ZB hM hx) h.toBIn
 simp only at h1
 omega
def Yi (i : Nat) (W : Nh) : List Int := (W.map Prod.fst).drop i
theorem Bai {i : Nat} {W : Nh} (x : Int) (w : List Int) (h : i ≤ W.length) : Yi i (W ++ [(x, w)]) = Yi i W ++ [x] := by
 unfold Yi
 rw [yu, List.drop_append_of_le_length (by simpa using h)]
 rfl
theorem XT (i : Nat) (W : Nh) : (Yi i W).length = W.length - i := by simp [Yi]
theorem CV {l : List Int} (h : l.length ≤ 1000) : Hi l = some (l, ()) := by
 unfold Hi
 rw [Mb (by simp; omega)]
 rfl
theorem K4 {m : Ha} (hM : Im m) {fr : Int} {i : Nat} {W : Nh} (h : BT m fr i 0 W) (hi : i < W.length) :
 Zt (((), W, Yi (i + 1) W, W[i].1, m.1, (0 : Int), ()), (m, ())) = some (.inl (((), Tr (Qk m) W[i].1 W[i].2 (Zh m) W, Yi (i + 1) (Tr (Qk m) W[i].1 W[i].2 (Zh m) W), ()), (m, ()))) := by
 have hm := Hd hM.v
 obtain ⟨k1, k2⟩ := JM hM
 have hl := GR (step := fun x : (Unit × Nh × List Int × Int × Int × Int × Unit) × Ha × Unit => Pz x.1.1 x.1.2.1 x.1.2.2.1 x.1.2.2.2.1 x.1.2.2.2.2.1 x.1.2.2.2.2.2.1 x.2.1) (Zh m) (by omega)
  (SJ (Qk m) W[i].1 W[i].2) W (fun W' k => (((), W', Yi (i + 1) W', W[i].1, m.1, k, ()), (m, ()))) (fun W' => .inl (((), W', Yi (i + 1) W', ()), (m, ()))) (by
   intro k hk
   obtain ⟨g1, g2⟩ := UK (P7 hM) h hi k (by omega)
   have hgt := Gat g1 hi g2
   have hln := E7 hM g1 hgt
   have hlen := LC (fun x hx => ZB hM hx) g1.toBIn
   have hle := g2.length_le
   have htl := XT (i + 1) (Tr (Qk m) W[i].1 W[i].2 k W)
   have hit : CA (SJ (Qk m) W[i].1 W[i].2) k W = Tr (Qk m) W[i].1 W[i].2 k W := rfl
   rw [hit]
   generalize hW' : Tr (Qk m) W[i].1 W[i].2 k W = W' at hgt hlen hle htl g1
   simp only [Pz]
   rw [Aa (by omega), IE hm W[i].1 (by omega)]
   simp only [ze, jb]
   rw [show VA W[i].1 (Ph m.2.1 (Kf m W[i].1 k) k) = Qk m W[i].1 k from rfl]
   unfold SJ
   cases hg : Bd W' (Qk m W[i].1 k) with
   | some w => rfl
   | none =>
    simp only [Option.isSome_none, j8, ze, zf]
    rw [hgt]
    simp only [qz]
    rw [CV (by omega)]
    simp only [jb]
    rw [Mb (by simp; omega), Mb (by rw [htl]; simp; omega), Bai _ _ (by omega)]
    simp only [Option.isNone_none, ze]
    rfl) (by
   simp only [Pz]
   rw [Ba (by omega)]; rfl)
 unfold Zt
 exact hl
theorem Aai {i : Nat} {W : Nh} (h : i < W.length) : Yi i W = W[i].1 :: Yi (i + 1) W := by
 unfold Yi
 rw [List.drop_eq_getElem_cons (by simpa using h)]
 simp
theorem IN {m : Ha} (hM : Im m) {fr : Int} : ∀ (n i : Nat) (W : Nh), BT m fr i 0 W → 17 ≤ n + i →
 Xn (((), W, Yi i W, ()), (m, ())) = some (.inl ((OK (Qk m) (Zh m) n i W, ()), ()))
 | n, i, W, h, hn => by
  have hlen := LC (fun x hx => ZB hM hx) h.toBIn
  by_cases hi : i < W.length
  ·obtain ⟨n', rfl⟩ : ∃ n', n = n' + 1 := ⟨n - 1, by omega⟩
   obtain ⟨h1, h2⟩ := UK (P7 hM) h hi (Zh m) (jo _)
   have ih := IN hM n' (i + 1) _ (PX h1 (qh hi h2.length_le)) (by omega)
   unfold Xn at ih ⊢
   rw [OK, je hi]
   simp only
   refine (Xc (z := some (Sum.inl (((), Tr (Qk m) W[i].1 W[i].2 (Zh m) W, Yi (i + 1) (Tr (Qk m) W[i].1 W[i].2 (Zh m) W), ()), (m, ())))) ?_).trans ih
   have htl := XT i W
   have hcons := Aai hi
   have hl1 : (Yi i W).length = (Yi (i + 1) W).length + 1 := by rw [hcons]; simp
   simp only [BF]
   rw [Aa (by omega), show Qd (Yi i W).length 0 = true by rw [show (0 : Int) = ((0 : Nat) : Int) from rfl, Lg]; simp; omega]
   simp only [ze]
   rw [show (Yi i W)[jy 0]? = some W[i].1 by rw [hcons]; rfl]
   simp only [jb]
   rw [show Jd (Yi i W).length 1 (((Yi i W).length : Nat) : Int) = true from Al (lo := 1) (by omega) (jo _)]
   simp only [ze, jb]
   rw [show Xa (Yi i W) (jy 1) (jy (((Yi i W).length : Nat) : Int)) = Yi (i + 1) W by
    rw [jn, show jy 1 = 1 from rfl, hcons]
    unfold Xa
    rw [List.take_length]; rfl]
   rw [K4 hM h hi]
   rfl
  ·have hb : OK (Qk m) (Zh m) n i W = W := by
    cases n with
    | zero => rfl
    | succ n => rw [OK, qt (by omega)]
   rw [hb]
   unfold Xn
   refine (Xc (z := some (Sum.inr (.inl ((W, ()), ())))) ?_).trans rfl
   have htl := XT i W
   simp only [BF]
   rw [Ba (by omega)]; rfl
theorem L4 {m : Ha} (hM : Im m) {fr : Int} (h : Yk m.2.1.length fr 0) : ZI m fr = some (AE m fr, ()) := by
 have := IN hM 17 0 [(fr, [])] (VT h) (by omega)
 unfold ZI
 rw [show Option.isNone (Bd ([] : List (Int × List Int)) fr) = true from rfl, ze]
 rw [show (jf ([] : List (Int × List Int)) [(fr, ([] : List Int))]) = [(fr, [])] from rfl]
 rw [show ([fr] : List Int) = Yi 0 [(fr, [])] from rfl, this]
 rfl
theorem JB {m : Ha} (hv : Gc m = true) {f : Int} (h : Yk m.2.1.length f 0) : Pg m f = some (true, ()) ∧ Ao m f = some (true, ()) := by
 have hM := RH hv
 have hz := hM.z
 have hl := Hd hv
 have hl2 := hl.l2
 have hp : 1 ≤ 2 ^ m.2.1.length ∧ 2 ^ m.2.1.length ≤ 2 ^ 4 := ⟨Nat.one_le_two_pow, Nat.pow_le_pow_right (by omega) hl2⟩
 have f0 := h.f0; have f1 := h.f1; have f2 := h.f2
 unfold Pg Ao
 rw [Dh m (by omega), Pk m (by omega), hv]
 simp only [jb, ze, Rd]
 rw [Uu (by omega), Aa (show (0 : Int) ≤ (m.2.1.length : Int) by omega), Aa (show f ≥ 0 by omega), show ((2 : Int) == 0) = false from rfl, show (f.tmod 2 == 0) = true by simpa using f2]
 simp only [ze, zf]
 rw [Gd (by omega) (by omega), Aa (show f < ((2 ^ m.2.1.length : Nat) : Int) from f1), Aa (show 0 ≤ f ∧ f ≤ ((2 ^ m.2.1.length : Nat) : Int) - 1 by omega)]
 exact ⟨rfl, rfl⟩
theorem W3 {m : Ha} (hz : Eb Ua m ≤ Ka) {f : Int} (h : Pg m f = some (true, ())) : Gc m = true ∧ Yk m.2.1.length f 0 := by
 obtain ⟨hv, f0, _, f2⟩ := K6 hz h rfl
 refine ⟨hv, f0, ?_, f2, by omega, by omega⟩
 have hl := Hd hv
 have hl2 := hl.l2
 unfold Pg at h
 rw [Dh m hz, hv] at h
 simp only [jb, ze, show ((2 : Int) == 0) = false from rfl, zf] at h
 rw [Aa (show f ≥ 0 by omega), show (f.tmod 2 == 0) = true by simpa using f2, Aa (show (0 : Int) ≤ (m.2.1.length : Int) by omega), Uu (by omega)] at h
 simpa using h
theorem Caj {m : Ha} (hM : Im m) {f : Int} (h : Yk m.2.1.length f 0) {k : Nat} (hk : (k : Int) < m.1) : RB m f (k : Int) = some (Qk m f k, ()) ∧ UI m f (k : Int) = some (Qk m f k, ()) := by
 have hv := hM.v
 have hz := hM.z
 have hm := Hd hv
 have hk1 := hm.k1
 have hk2 := hm.k2
 have hl2 := hm.l2
 obtain ⟨i1, i2⟩ := JB hv h
 obtain ⟨g0, g1⟩ := ZB hM h
 have hsame : Kf m (Xe .i64 1 f) k = Kf m f k := YJ _ fun j hj => UU g0 g1 h.f2 j (by omega)
 have hl := Ww hm f k
 have hrow := hm.row _ hl
 have hact := hm.act _ hl k (by omega)
 rw [← IC hl (by omega)] at hact
 constructor
 ·unfold RB
  rw [i2]
  simp only [jb, jg, zf, Rd]
  rw [Gd (n := m.1 - 1) (by omega) (by omega), Aa (show (0 : Int) ≤ (k : Int) ∧ (k : Int) ≤ m.1 - 1 by omega), NT (by omega) hv _ hk, hsame]
  simp only [jb, jg, zf]
  unfold Qk
  generalize Ph m.2.1 (Kf m f k) k = a at hact ⊢
  unfold VA
  cases h4 : (a.1 == 4) with
  | true => rw [Aa (X1 hact (.inr (.inl (by simpa using h4)))).1]; rfl
  | false =>
   cases h5 : (a.1 == 5) with
   | true => rw [Aa (X1 hact (.inr (.inr (.inl (by simpa using h5))))).1]; rfl
   | false => rfl
 ·unfold UI
  rw [i1]
  simp only [jb, jg, zf]
  rw [Ba (show ¬ (k : Int) < 0 by omega), Ba (show ¬ (k : Int) ≥ m.1 by omega), IE hm f hk]
  rfl
theorem TO {α : Type} : ∀ (W : List (Int × α)) (y : Int) (w : α) (x : Int), Bd W y = none → Bd (W ++ [(y, w)]) x = if x = y then some w else Bd W x
 | [], y, w, x, _ => by
  by_cases h : x = y
  ·subst h; simp [Bd]
  ·simp only [List.nil_append, Bd, if_neg h, show (x == y) = false by simpa using h, zf]
 | (k, z) :: r, y, w, x, hn => by
  simp only [Bd] at hn
  have hyk : (y == k) = false := by
   cases hk : y == k with
   | true => rw [hk] at hn; simp at hn
   | false => rfl
  rw [hyk] at hn
  simp only [zf] at hn
  simp only [yg, Bd]
  cases hx : x == k with
  | true =>
   have : x = k := by simpa using hx
   have hne : x ≠ y := fun e => by rw [← e, this] at hyk; simp at hyk
   simp [hne]
  | false => simp only [zf]; exact TO r y w x hn
def Zu (W : Nh) : List (List Int) := (yy 16).map fun x => (Bd W ((x : Nat) : Int)).getD []
def Dy (W : Nh) : List Bool := (yy 16).map fun x => (Bd W ((x : Nat) : Int)).isSome
theorem Yz (W : Nh) : (Zu W).length = 16 := by simp [Zu]
theorem QC (W : Nh) : (Dy W).length = 16 := by simp [Dy]
theorem Xz (W : Nh) {x : Nat} (h : x < 16) : (Zu W)[x]? = some ((Bd W ((x : Nat) : Int)).getD []) := by simp [Zu, List.getElem?_map, List.getElem?_range h]
theorem GH (W : Nh) {x : Nat} (h : x < 16) : (Dy W)[x]? = some (Bd W ((x : Nat) : Int)).isSome := by simp [Dy, List.getElem?_map, List.getElem?_range h]
theorem Zae {W : Nh} {y : Nat} (hy : y < 16) (w : List Int) (hn : Bd W ((y : Nat) : Int) = none) : (Zu W).set y w = Zu (W ++ [((y : Int), w)]) := by
 apply qp
 intro x
 by_cases hx : x < 16
 ·rw [Xz _ hx, TO W (y : Int) w _ hn, List.getElem?_set]
  by_cases hxy : y = x
  ·subst hxy
   rw [if_pos rfl, if_pos rfl, if_pos (by rw [Yz]; omega)]; rfl
  ·rw [if_neg hxy, Xz _ hx, if_neg (by omega)]
 ·rw [qt (by rw [List.length_set, Yz]; omega), qt (by rw [Yz]; omega)]
theorem Saf {W : Nh} {y : Nat} (hy : y < 16) (w : List Int) (hn : Bd W ((y : Nat) : Int) = none) : (Dy W).set y true = Dy (W ++ [((y : Int), w)]) := by
 apply qp
 intro x
 by_cases hx : x < 16
 ·rw [GH _ hx, TO W (y : Int) w _ hn, List.getElem?_set]
  by_cases hxy : y = x
  ·subst hxy
   rw [if_pos rfl, if_pos rfl, if_pos (by rw [QC]; omega)]; rfl
  ·rw [if_neg hxy, GH _ hx, if_neg (by omega)]
 ·rw [qt (by rw [List.length_set, QC]; omega), qt (by rw [QC]; omega)]
theorem CY {m : Ha} (hM : Im m) {fr : Int} {i : Nat} {W : Nh} (h : BT m fr i 0 W) (hi : i < W.length) :
 Xq (((), Zu W, Dy W, W.map Prod.fst, (i : Int), W[i].1, (0 : Int), ()), (m, ())) =
  some (.inl (((), Zu (Tr (Qk m) W[i].1 W[i].2 (Zh m) W), Dy (Tr (Qk m) W[i].1 W[i].2 (Zh m) W), (Tr (Qk m) W[i].1 W[i].2 (Zh m) W).map Prod.fst, (i : Int), ()), (m, ()))) := by
 have hm := Hd hM.v
 obtain ⟨k1, k2⟩ := JM hM
 have hx := h.ok _ (qi hi)
 obtain ⟨x0, x1⟩ := ZB hM hx
 have hl := GR (step := fun x : (Unit × List (List Int) × List Bool × List Int × Int × Int × Int × Unit) × Ha × Unit => Oo x.1.1 x.1.2.1 x.1.2.2.1 x.1.2.2.2.1 x.1.2.2.2.2.1 x.1.2.2.2.2.2.1 x.1.2.2.2.2.2.2.1 x.2.1) (Zh m) (by omega)
  (SJ (Qk m) W[i].1 W[i].2) W (fun W' k => (((), Zu W', Dy W', W'.map Prod.fst, (i : Int), W[i].1, k, ()), (m, ()))) (fun W' => .inl (((), Zu W', Dy W', W'.map Prod.fst, (i : Int), ()), (m, ()))) (by
   intro k hk
   obtain ⟨g1, g2⟩ := UK (P7 hM) h hi k (by omega)
   have hgt := Gat g1 hi g2
   have hln := E7 hM g1 hgt
   have hlen := LC (fun x hx => ZB hM hx) g1.toBIn
   have hny := P7 hM _ k hx hk
   obtain ⟨y0, y1⟩ := ZB hM hny
   have hit : CA (SJ (Qk m) W[i].1 W[i].2) k W = Tr (Qk m) W[i].1 W[i].2 k W := rfl
   rw [hit]
   generalize hW' : Tr (Qk m) W[i].1 W[i].2 k W = W' at hgt hlen g1
   simp only [Oo]
   rw [Aa (by omega), (Caj hM hx (by omega)).1]
   simp only [ze, jb]
   obtain ⟨y, hy⟩ := jv y0
   obtain ⟨xn, hxn⟩ := jv x0
   rw [Aa (by omega)]
   unfold SJ
   rw [hy, Lg, QC, Aa (by omega), jn, GH W' (by omega)]
   simp only [ze, jb]
   cases hg : Bd W' (y : Int) with
   | some w => rfl
   | none =>
    simp only [Option.isSome_none, j8, ze, zf]
    rw [hxn] at hgt ⊢
    rw [Lg, Lg, Yz, Aa (show xn < 16 by omega), Aa (show y < 16 by omega), jn, Xz W' (by omega), hgt]
    simp only [ze, jb, qz]
    have hset : j6 (Zu W') xn W[i].2 = Zu W' := by
     apply qp
     intro z
     rw [List.getElem?_set]
     by_cases hz : xn = z
     ·subst hz
      rw [if_pos rfl, if_pos (by rw [Yz]; omega), Xz W' (by omega), hgt]; rfl
     ·rw [if_neg hz]
    rw [hset, Xz W' (by omega)]
    simp only [jb]
    rw [Mb (by simp; omega), Mb (by simp; omega), Mb (by simp; omega)]
    simp only [ze]
    rw [show jf (jf ([] : List Int) W[i].2) [(k : Int)] = W[i].2 ++ [(k : Int)] from rfl, Zae (by omega) _ hg, Saf (by omega) (W[i].2 ++ [(k : Int)]) hg]
    simp only [yu, yi, List.map_nil, zb]) (by
   simp only [Oo]
   rw [Ba (by omega)]; rfl)
 unfold Xq
 exact hl
theorem JJ {m : Ha} (hM : Im m) {fr : Int} : ∀ (n i : Nat) (W : Nh), BT m fr i 0 W → 17 ≤ n + i →
 Sl (((), Zu W, Dy W, W.map Prod.fst, (i : Int), ()), (m, ())) = some (.inl ((Zu (OK (Qk m) (Zh m) n i W), Dy (OK (Qk m) (Zh m) n i W), ()), ()))
 | n, i, W, h, hn => by
  have hlen := LC (fun x hx => ZB hM hx) h.toBIn
  by_cases hi : i < W.length
  ·obtain ⟨n', rfl⟩ : ∃ n', n = n' + 1 := ⟨n - 1, by omega⟩
   obtain ⟨h1, h2⟩ := UK (P7 hM) h hi (Zh m) (jo _)
   have ih := JJ hM n' (i + 1) _ (PX h1 (qh hi h2.length_le)) (by omega)
   unfold Sl at ih ⊢
   rw [OK, je hi]
   simp only
   refine (Xc (z := some (Sum.inl (((), Zu (Tr (Qk m) W[i].1 W[i].2 (Zh m) W), Dy (Tr (Qk m) W[i].1 W[i].2 (Zh m) W), (Tr (Qk m) W[i].1 W[i].2 (Zh m) W).map Prod.fst, ((i + 1 : Nat) : Int), ()), (m, ())))) ?_).trans ih
   simp only [Hx]
   rw [Aa (by simp; omega), Lg, Aa (by simpa using hi), jn]
   simp only [ze]
   rw [show (W.map Prod.fst)[i]? = some W[i].1 by rw [List.getElem?_map, je hi]; rfl]
   simp only [jb]
   rw [CY hM h hi]
   simp only [jb, qg]
   rw [Af (by omega)]
  ·have hb : OK (Qk m) (Zh m) n i W = W := by
    cases n with
    | zero => rfl
    | succ n => rw [OK, qt (by omega)]
   rw [hb]
   unfold Sl
   refine (Xc (z := some (Sum.inr (.inl ((Zu W, Dy W, ()), ())))) ?_).trans rfl
   simp only [Hx]
   rw [Ba (by simp; omega)]; rfl
theorem DY {m : Ha} (hM : Im m) {fr : Int} (h : Yk m.2.1.length fr 0) : FD m fr = some (Zu (AE m fr), Dy (AE m fr), ()) := by
 have hs := JJ hM 17 0 [(fr, [])] (VT h) (by omega)
 obtain ⟨x0, x1⟩ := ZB hM h
 obtain ⟨x, rfl⟩ := jv x0
 have e1 : Zu [((x : Int), [])] = yd 16 ([] : List Int) := by
  apply qp
  intro z
  by_cases hz : z < 16
  ·rw [Xz _ hz, List.getElem?_replicate, if_pos hz]
   simp only [Bd]
   cases ((z : Int) == (x : Int)) <;> rfl
  ·rw [qt (by rw [Yz]; omega), qt (by simp; omega)]
 have e2 : Dy [((x : Int), [])] = j6 (yd 16 false) x true := by
  apply qp
  intro z
  by_cases hz : z < 16
  ·rw [GH _ hz, List.getElem?_set]
   simp only [Bd]
   by_cases hxz : x = z
   ·subst hxz
    rw [if_pos rfl, if_pos (by simp; omega)]; simp
   ·rw [if_neg hxz, List.getElem?_replicate, if_pos hz, show ((z : Int) == (x : Int)) = false by simp; omega]; rfl
  ·rw [qt (by rw [QC]; omega), qt (by simp; omega)]
 rw [e1, e2] at hs
 unfold FD
 rw [show (((16 : Int) == (16 : Int)) && (decide ((0 : Int) ≤ (16 : Int)) && decide ((16 : Int) ≤ ((Oa : Nat) : Int)))) = true by rw [Vh]; rfl]
 simp only [ze]
 rw [show jy 16 = 16 from rfl, Lg, Aa (by simp; omega), jn, List.getElem?_replicate, if_pos (by omega)]
 simp only [ze, jb]
 rw [show ([((x : Nat) : Int)] : List Int) = za Prod.fst [(((x : Nat) : Int), ([] : List Int))] from rfl, show (0 : Int) = ((0 : Nat) : Int) from rfl, hs]
 rfl
theorem C0 {m : Ha} (hM : Im m) {f t : Int} (h : Yk m.2.1.length f 0) (ht : Yk m.2.1.length t 0) : Gi m f t = some ((Bd (AE m f) t).getD [], (Bd (AE m f) t).isSome, ()) := by
 unfold Gi
 rw [(JB hM.v h).1, (JB hM.v ht).1]
 simp only [jb, jg, zf]
 rw [L4 hM h]
 rfl
theorem P0 {m : Ha} (hM : Im m) {f t : Int} (h : Yk m.2.1.length f 0) (ht : Yk m.2.1.length t 0) : Yx m f t = some ((Bd (AE m f) t).getD [], (Bd (AE m f) t).isSome, ()) := by
 unfold Yx
 rw [(JB hM.v h).2, (JB hM.v ht).2]
 simp only [jb, jg, zf]
 rw [DY hM h]
 have h16 := ZB hM ht
 obtain ⟨n, rfl⟩ : ∃ n : Nat, t = (n : Int) := ⟨t.toNat, by omega⟩
 have hn : n < 16 := by omega
 simp only [jb]
 rw [Lg, QC, Aa hn, jn, GH _ hn, Lg, Yz, Aa hn, Xz _ hn]
 simp only [ze, jb]
 cases hg : Bd (AE m f) (n : Int) with
 | none => rfl
 | some w =>
  simp only [Option.isSome_some, jg, zf, qz]
  obtain ⟨j, hj, he⟩ := qj (XC hg)
  have hw := C6 hM h
  have h1 := hw.ln j hj
  rw [he] at h1
  have h2 := hw.len
  simp only at h1
  rw [Mb (by simp; omega)]
  rfl
theorem Aah (q l : List Wa) (h : 0 < l.length) : Qz (jf q l) = Qz l := by
 unfold Qz
 rw [zb, qd, qf, qf, List.getElem?_append_right (by omega), show q.length + l.length - 1 - q.length = l.length - 1 by omega]
theorem Wak {d : Ib} {l : List Wa} {til : Int} (h : RA d l til = true) : Pc (Vl d l til) = true := by
 unfold RA at h
 simp only [jd, decide_eq_true_eq] at h
 obtain ⟨hd, ht, _, hb, hf⟩ := h
 unfold Pc at hd ⊢
 simp only [jd, decide_eq_true_eq] at hd ⊢
 obtain ⟨h1, h2, h3, h4, h5, h6, h7, h8⟩ := hd
 have hn : Uh (jf d.2.2.1 l) til = true := by
  unfold Uh at h6 hb ⊢
  simp only [qx, beq_iff_eq, decide_eq_true_eq] at h6 hb ⊢
  by_cases hl : 0 < l.length
  ·right
   rw [Aah _ _ hl]
   omega
  ·have : l = [] := q7 (by omega)
   subst this
   rw [show jf d.2.2.1 [] = d.2.2.1 from yw _]
   omega
 have hc2 : d.2.2.2.2.1 ≤ til := by omega
 have ht2 : d.2.2.2.2.2.2.1 ≤ til := by omega
 exact ⟨h1, h2, ⟨by show 0 ≤ til; omega, by show til ≤ 1000000; omega⟩, ⟨h4.1, hc2⟩, hf, hn, h7, ⟨h8.1, ht2⟩⟩
theorem QM {d : Ib} {l : List Wa} {til : Int} (h : (OB d l til).2.2.1 = true) : Pc (OB d l til).1 = true ∧ EG (OB d l til).2.1 ∧ (OB d l til).2.1.length ≤ 2000 := by
 unfold OB at h ⊢
 cases hp : RA d l til with
 | false => rw [hp] at h; simp at h
 | true =>
  simp only [ze]
  have h0 := ES (Wak hp)
  have hlen := h0.pl.len
  have h1 := K3 (Vl d l til).2.2.1.length (Vl d l til) [] h0
  have h2 := SZ (Vl d l til).2.2.1.length (Vl d l til) [] h0 (fun y hy => by simp at hy)
  refine ⟨Mat h1.1, h2.1, ?_⟩
  have := h2.2
  simp only [j7] at this
  omega
def PI (s : Sa) (r : Ib × (List Xd × (Bool × Unit))) : Sa × (List UInt8 × Unit) :=
 cond (!r.2.2.1) (s, [110, 111], ()) (cond (decide (200 < s.2.1.length + r.2.1.length)) (s, [110, 111], ()) ((r.1, jf s.2.1 r.2.1, ()), DP r.2.1, ()))
noncomputable def HA (s : Sa) (w : List UInt8) (l : List Int) : Ib × (List Xd × (Bool × Unit)) :=
 cond (w == De) (OB s.1 [] (l.getD 0 0)) (OB s.1 [(l.getD 1 0, l.getD 0 0, w == Uj, ())] (l.getD 1 0))
theorem JT {l : List Xd} (h : EG l) : (∀ x ∈ l, -9223372036854775808 ≤ x.1 ∧ x.1 ≤ 9223372036854775807) ∧ ∀ x ∈ l, x.2.1.2.1.length ≤ Ka := by
 have h20 : Ka = 1048576 := rfl
 refine ⟨fun x hx => ?_, fun x hx => ?_⟩
 ·have h1 := h x hx
  simp only [Qs, jd, decide_eq_true_eq] at h1
  omega
 ·have h1 := h x hx
  simp only [Qs, jd] at h1
  have := PA h1.2
  omega
theorem Pah {l : List Xd} (h : EG l) (hn : l.length ≤ 200) : (DP l).length ≤ 73000 := by
 have := YU (JT h).1
 unfold DP
 cases ((ja l : Nat) : Int) == 0
 ·simp only [zf]; omega
 ·simp
theorem Mar {s : Sa} {w : List UInt8} {l : List Int} (h : (HA s w l).2.2.1 = true) : Pc (HA s w l).1 = true ∧ EG (HA s w l).2.1 ∧ (HA s w l).2.1.length ≤ 2000 := by
 unfold HA at h ⊢
 revert h
 cases w == De
 ·exact QM
 ·exact QM
theorem Raf {s : Sa} (h : Bk s) {w : List UInt8} {l : List Int} : Bk (PI s (HA s w l)).1 ∧ (PI s (HA s w l)).2.1.length ≤ 73000 := by
 unfold PI
 cases hr : (HA s w l).2.2.1 with
 | false => exact ⟨h, by show (2 : Nat) ≤ _; omega⟩
 | true =>
  obtain ⟨h1, h2, h3⟩ := Mar hr
  simp only [jg, zf]
  by_cases hc : 200 < s.2.1.length + (HA s w l).2.1.length
  ·rw [Aa hc]; exact ⟨h, by show (2 : Nat) ≤ _; omega⟩
  ·rw [Ba hc]
   refine ⟨⟨h1, ?_, ?_⟩, Pah h2 (by omega)⟩
   ·show (jf s.2.1 (HA s w l).2.1).length ≤ 200
    rw [zb, qd]; omega
   ·intro y hy
    rcases jl.1 (show y ∈ s.2.1 ++ (HA s w l).2.1 from hy) with hy | hy
    ·exact h.s y hy
    ·exact h2 y hy
theorem Kav : Eb Pe Qy ≤ Ka := by decide
theorem M7 {s : Sa} (h : Bk s) {r : Ib × (List Xd × (Bool × Unit))} (hr : r.2.2.1 = true → EG r.2.1 ∧ r.2.1.length ≤ 2000) :
 (cond (!r.2.2.1) (some (s, ([110, 111] : List UInt8), ())) (cond (decide ((j4 .i64 (((ja s.2.1 : Nat) : Int) + ((ja r.2.1 : Nat) : Int))) > (200 : Int))) (some (s, ([110, 111] : List UInt8), ()))
  (jz (Jl r.2.1) fun r3 => (jz (Mi (Qy, r.2.1, ())) fun r4 => (cond (jx (ja s.2.1 + ja r4.1.2.1) Oa) (some ((r.1, (jf s.2.1 r4.1.2.1), ()), r3.1, ())) none)))) : Option (Sa × (List UInt8 × Unit))) = some (PI s r) := by
 have h20 : Ka = 1048576 := rfl
 unfold PI
 cases hb : r.2.2.1 with
 | false => rfl
 | true =>
  obtain ⟨h2, h3⟩ := hr hb
  have hn := h.n
  simp only [jg, zf]
  rw [Gd (by omega) (by omega)]
  by_cases hc : 200 < s.2.1.length + r.2.1.length
  ·rw [Aa hc, Aa (by omega)]; rfl
  ·rw [Ba hc, Ba (by omega)]
   simp only [zf]
   obtain ⟨i1, i2⟩ := JT h2
   rw [HO _ i1 i2 (by omega)]
   simp only [jb]
   rw [EC (s := (Qy, r.2.1, ())) Kav (by have := IT h2 h3; show Eb (.sl Sg) r.2.1 ≤ _; omega)]
   simp only [jb]
   rw [Mb (by omega)]
   rfl
theorem GB {s : Sa} (h : Bk s) {w : List UInt8} {l : List Int} (hl : l.length = cond (w == De) 1 2) : Hj s w l = some (PI s (HA s w l)) := by
 have h20 : Ka = 1048576 := rfl
 have hz := Nac h.d
 unfold Hj
 revert hl
 unfold HA
 cases hw : w == De with
 | true =>
  intro hl
  simp only [ze] at hl ⊢
  match l, hl with
  | [a], _ =>
   rw [show Qd (ja [a]) 0 = true from rfl, show ([a] : List Int)[jy 0]? = some a from rfl, show ([a] : List Int).getD 0 0 = a from rfl]
   simp only [ze, jb]
   rw [show Tx s.1 a = some (OB s.1 [] a) by
    unfold Tx
    rw [FE _ _ _ (by omega) (by simp)]; rfl]
   simp only [jb]
   exact M7 h fun hb => (QM hb).2
 | false =>
  intro hl
  simp only [zf] at hl ⊢
  match l, hl with
  | [a, b], _ =>
   rw [show Qd (ja [a, b]) 0 = true from rfl, show Qd (ja [a, b]) 1 = true from rfl, show ([a, b] : List Int)[jy 0]? = some a from rfl, show ([a, b] : List Int)[jy 1]? = some b from rfl,
    show ([a, b] : List Int).getD 0 0 = a from rfl, show ([a, b] : List Int).getD 1 0 = b from rfl]
   simp only [ze, jb]
   rw [show Ox s.1 (b, a, w == Uj, ()) = some (OB s.1 [(b, a, w == Uj, ())] b) by
    unfold Ox
    rw [FE _ _ _ (by omega) (by simp)]; rfl]
   simp only [jb]
   exact M7 h fun hb => (QM hb).2
noncomputable def MQ (s : Sa) (w : List UInt8) : List UInt8 :=
 cond (w == Ts) (Ky s.1.1.1) (cond (w == Dp) (Lib.itoa (Pj s.1.1.2.2.1 s.1.1.2.2.2.1)) (cond (w == Ep) (WX (Qc s.1.1.2.2.2.1)) (cond (w == Bp) (Lib.itoa ((ja s.1.2.2.1 : Nat) : Int))
  (cond (w == Ap) (E4 (A6 ((0 : Int), ([] : List Int), ()) (s.2.1.map fun x => x.2.1))) Xb))))
structure PaF (s : Sa) : Prop where
 e : Hm s.1.1
 mz : Eb Ua s.1.1.1 ≤ 400
 q : s.1.2.2.1.length ≤ 64
 f : 0 ≤ s.1.1.2.2.1 ∧ s.1.1.2.2.1 ≤ 15
 hn : s.1.1.2.2.2.1.length ≤ 400
 sz : Eb (.sl Sg) s.2.1 ≤ 114000
theorem YV {s : Sa} (h : Bk s) : PaF s := by
 have h1 := ES h.d
 have hE := h1.pl.eng
 have h2 := P3 hE
 rw [Bl] at h2
 have hl2 := (Hd hE.km).l2
 have hf := hE.st.f1
 have hp : 2 ^ s.1.1.1.2.1.length ≤ 2 ^ 4 := Nat.pow_le_pow_right (by omega) hl2
 exact ⟨hE, by omega, h1.pl.len, ⟨hE.st.f0, by omega⟩, by have := Mx hE.hd; omega, IT h.s (by have := h.n; omega)⟩
theorem Xar (n : Int) : -9223372036854775808 ≤ j5 .i64 n ∧ j5 .i64 n ≤ 9223372036854775807 := by
 rw [IntKind.wrap_i64]; omega
theorem Q7 (a b : Int) : -9223372036854775808 ≤ Xe .i64 a b ∧ Xe .i64 a b ≤ 9223372036854775807 := by
 unfold Xe
 exact Xar _
theorem KV (f : Int) (l : List Ma) : -9223372036854775808 ≤ Pj f l ∧ Pj f l ≤ 9223372036854775807 := by
 unfold Pj
 have key : ∀ (l : List Ma) (k : Nat) (s : Int), (-9223372036854775808 ≤ s ∧ s ≤ 9223372036854775807) → -9223372036854775808 ≤ Lc (fun _ s (h : Ma) => cond (h.2.1.1 == 3) (Xe .i64 s (Ke .i64 1 h.2.1.2.2.2.1)) s) k s l ∧ Lc (fun _ s (h : Ma) => cond (h.2.1.1 == 3) (Xe .i64 s (Ke .i64 1 h.2.1.2.2.2.1)) s) k s l ≤ 9223372036854775807 := by
  intro l
  induction l with
  | nil => intro k s h; exact h
  | cons x l ih =>
   intro k s h
   simp only [Lc]
   refine ih (k + 1) _ ?_
   cases x.2.1.1 == 3
   ·exact h
   ·exact Q7 _ _
 exact key l 0 _ (Q7 _ _)
theorem EX {s : Sa} (h : Bk s) (w : List UInt8) : Kh s w = some (MQ s w, ()) := by
 have h20 : Ka = 1048576 := rfl
 obtain ⟨hE, hm, hq, hf, hn, hs⟩ := YV h
 unfold Kh MQ
 cases w == Ts with
 | true => simp only [ze]; rw [CB (by omega)]; rfl
 | false =>
 cases w == Dp with
 | true =>
  simp only [ze, zf]
  rw [TC hf _ (by omega) hE.hd]
  simp only [jb]
  rw [Dm (KV _ _)]; rfl
 | false =>
 cases w == Ep with
 | true =>
  simp only [ze, zf]
  rw [Wn _ (by omega) hE.hd]
  simp only [jb]
  rw [DB _ (by have := PA (Bae hE.hd); omega)]; rfl
 | false =>
 cases w == Bp with
 | true =>
  simp only [ze, zf]
  rw [Dm (by omega)]; rfl
 | false =>
 cases w == Ap with
 | true =>
  simp only [ze, zf]
  rw [PQ _ (by omega)]
  simp only [jb]
  have hr : ∀ r ∈ (s.2.1.map fun x => x.2.1), r.2.1.length ≤ Ka := fun r hr => by
   obtain ⟨x, hx, rfl⟩ := qk.1 hr
   exact (JT h.s).2 x hx
  have ht := Lal (a := ((0 : Int), ([] : List Int), ())) (by simp) hr
  rw [yp] at ht
  have hn := h.n
  rw [B0 (by simp) hr (by simp; omega)]
  simp only [jb]
  rw [Mb (by omega), N6]; rfl
 | false => rfl
theorem TS {m : Ha} : (Ky m).length ≤ 7000 := by
 unfold Ky
 cases hv : Gc m with
 | false => simp
 | true =>
  have hm := Hd hv
  have hjl := Vw (m.2.1.map XH) [32, 124, 32] 1632 (fun x hx => by
   obtain ⟨l, hl', rfl⟩ := qk.1 hx
   obtain ⟨i, hi, rfl⟩ := qj hl'
   have := UM m.2.1[i]
   have := hm.row i hi
   have := hm.k2
   omega)
  rw [yp] at hjl
  have : (1632 + ([32, 124, 32] : List UInt8).length) * m.2.1.length ≤ 1635 * 4 := Nat.mul_le_mul (by simp) hm.l2
  simp only [ze]
  omega
theorem Gai {s : Sa} (h : Bk s) (w : List UInt8) : (MQ s w).length ≤ 7000 := by
 unfold MQ
 have h1 := TS (m := s.1.1.1)
 have h2 := Uw (KV s.1.1.2.2.1 s.1.1.2.2.2.1)
 have h3 := KS (Qc s.1.1.2.2.2.1)
 have hq := (YV h).q
 have h4 := Uw (n := ((ja s.1.2.2.1 : Nat) : Int)) (by omega)
 have h5 := Saj (A6 ((0 : Int), ([] : List Int), ()) (s.2.1.map fun x => x.2.1))
 exact TW h1 (TW (by omega) (TW (by omega) (TW (by omega) (TW (by omega) (by decide)))))
theorem WQ (m : Ha) (f : Int) (hz : Eb Ua m ≤ Ka) : ∃ b, Ao m f = some (b, ()) ∧ Pg m f = some (b, ()) := by
 unfold Ao Pg
 rw [Pk m hz, Dh m hz]
 simp only [jb, Rd]
 cases hk : Gc m with
 | false => exact ⟨false, rfl, rfl⟩
 | true =>
  simp only [ze]
  have hn : 1 ≤ m.2.1.length ∧ m.2.1.length ≤ 4 := by
   simp only [Gc, jd, decide_eq_true_eq] at hk
   exact hk.1.2
  rw [Uu (by omega), Aa (show (0 : Int) ≤ (m.2.1.length : Int) by omega)]
  have hp : 1 ≤ 2 ^ m.2.1.length ∧ 2 ^ m.2.1.length ≤ 16 := by
   obtain ⟨h1, h2⟩ := hn
   generalize m.2.1.length = n at *
   have : n = 1 ∨ n = 2 ∨ n = 3 ∨ n = 4 := by omega
   rcases this with rfl | rfl | rfl | rfl <;> decide
  rw [Gd (by omega) (by omega)]
  simp only [ze, Oi, Pi, show ((2 : Int) == 0) = false from rfl, zf]
  refine ⟨_, rfl, ?_⟩
  apply Jc
  simp only [Ad, decide_eq_true_eq, jq, and_false, or_false, XG]
  omega
noncomputable def IK (m : Ha) (f t : Int) : List Int × (Bool × Unit) := (Gi m f t).getD ([], false, ())
theorem Fai (m : Ha) (f t : Int) (hz : Eb Ua m ≤ Ka) : Yx m f t = some (IK m f t) ∧ Gi m f t = some (IK m f t) ∧ (IK m f t).1.length ≤ 16 ∧ ∀ k ∈ (IK m f t).1, 0 ≤ k ∧ k ≤ 32 := by
 have h20 : Ka = 1048576 := rfl
 have key : ∃ v, Yx m f t = some v ∧ Gi m f t = some v ∧ v.1.length ≤ 16 ∧ ∀ k ∈ v.1, 0 ≤ k ∧ k ≤ 32 := by
  obtain ⟨b, e1, e2⟩ := WQ m f hz
  cases b with
  | false =>
   refine ⟨([], false, ()), ?_, ?_, by simp, by simp⟩
   ·unfold Yx; rw [e1]; rfl
   ·unfold Gi; rw [e2]; rfl
  | true =>
   obtain ⟨b2, q1, q2⟩ := WQ m t hz
   cases b2 with
   | false =>
    refine ⟨([], false, ()), ?_, ?_, by simp, by simp⟩
    ·unfold Yx; rw [e1]; simp only [jb, jg, zf]; rw [q1]; rfl
    ·unfold Gi; rw [e2]; simp only [jb, jg, zf]; rw [q2]; rfl
   | true =>
    obtain ⟨hv, hs⟩ := W3 hz e2
    obtain ⟨_, ht⟩ := W3 hz q2
    refine ⟨_, P0 (RH hv) hs ht, C0 (RH hv) hs ht, ?_⟩
    cases hg : Bd (AE m f) t with
    | none => exact ⟨by simp, by simp⟩
    | some w =>
     obtain ⟨j, hj, he⟩ := qj (XC hg)
     have hw := C6 (RH hv) hs
     have h1 := hw.ln j hj
     rw [he] at h1
     have h2 := hw.len
     simp only at h1
     have h3 := (hw.way _ (XC hg)).2
     have h4 := JM (RH hv)
     refine ⟨by show w.length ≤ _; omega, fun k hk => ?_⟩
     have := h3 k hk
     omega
 obtain ⟨v, h1, h2, h3, h4⟩ := key
 have : IK m f t = v := by unfold IK; rw [h2]; rfl
 rw [this]
 exact ⟨h1, h2, h3, h4⟩
noncomputable def Mal (s : Sa) (l : List Int) : Sa × (List UInt8 × Unit) :=
 cond (!(IK s.1.1.1 (l.getD 0 0) (l.getD 1 0)).2.1) (s, [110, 111], ()) (s, jf Dg (Lib.join ((IK s.1.1.1 (l.getD 0 0) (l.getD 1 0)).1.map Lib.itoa) [32]), ())
noncomputable def ZS (s : Sa) (W : List (List UInt8)) (w : List UInt8) : Sa × (List UInt8 × Unit) := cond (((ja W : Nat) : Int) == 1) (s, MQ s w, ()) (s, Xb, ())
noncomputable def E2 (s : Sa) (W : List (List UInt8)) (w : List UInt8) (IW : List Int × (Bool × Unit)) : Sa × (List UInt8 × Unit) :=
 cond (w == De) (cond (Te W 1).2.1 (PI s (HA s w (Te W 1).1)) (s, Xb, ()))
 (cond (w == Bm) (cond (Te W 3).2.1 (L5 s s.1.1.1 s.1.1.2.1 ((Te W 3).1.getD 0 0, (Te W 3).1.getD 1 0, (Te W 3).1.getD 2 0, ())) (s, Xb, ()))
 (cond (w == [119, 97, 121]) (cond IW.2.1 (Mal s IW.1) (ZS s W w)) (ZS s W w)))
noncomputable def Lae (s : Sa) (W : List (List UInt8)) (w : List UInt8) (IW : List Int × (Bool × Unit)) : Option (Sa × (List UInt8 × Unit)) :=
 (cond (w == De)
 (jz (Jf W (1 : Int)) fun r17 =>
 (cond r17.2.1
 (jz (Hj s w r17.1) fun r18 =>
 (some (r18.1, r18.2.1, ())))
 (some (s, Xb, ()))))
 (cond (w == Bm)
 (jz (Jf W (3 : Int)) fun r19 =>
 (cond r19.2.1
 (cond (Qd (ja r19.1) (0 : Int))
 (jz r19.1[(jy (0 : Int))]? fun x20 =>
 (cond (Qd (ja r19.1) (1 : Int))
 (jz r19.1[(jy (1 : Int))]? fun x21 =>
 (cond (Qd (ja r19.1) (2 : Int))
 (jz r19.1[(jy (2 : Int))]? fun x22 =>
 (jz (Ij s.1.1.1 s.1.1.2.1 (x20, x21, x22, ())) fun r23 =>
 (jz (Ei s r23.1 r23.2.1) fun r24 =>
 (some (r24.1, r24.2.1, ())))))
 none))
 none))
 none)
 (some (s, Xb, ()))))
 (cond (w == ([119, 97, 121] : List UInt8))
 (cond IW.2.1
 (cond (Qd (ja IW.1) (0 : Int))
 (jz IW.1[(jy (0 : Int))]? fun x25 =>
 (cond (Qd (ja IW.1) (1 : Int))
 (jz IW.1[(jy (1 : Int))]? fun x26 =>
 (jz (Gi s.1.1.1 x25 x26) fun r27 =>
 (cond (!r27.2.1)
 (some (s, ([110, 111] : List UInt8), ()))
 (jz (Ci (((), (), ([] : List (List UInt8)), r27.1, ((ja r27.1 : Nat) : Int), (0 : Int), ()), (s, (((((0 : Int), ([] : List (List Ga)), ()), ([] : List (List Lb)), (0 : Int), ([] : List Ma), (0 : Int), false, ()), ((0 : Int), (0 : Int), (0 : Int), ()), ([] : List Wa), (0 : Int), (0 : Int), (0 : Int), (0 : Int), ()), ([] : List Xd), ()), ()))) (Sum.elim (fun y36 => (jz (Qf y36.1.2.2.1 ([32] : List UInt8)) fun r38 =>
 (cond (jx (ja Dg + ja r38.1) Oa)
 (some (((((y36.2.1.1.1.1.1, y36.2.1.1.1.1.2.1, ()), y36.2.1.1.1.2), y36.2.1.1.2), y36.2.1.2.1, ()), (jf Dg r38.1), ()))
 none))) (fun z37 => none))))))
 none))
 none)
 (cond (((ja W : Nat) : Int) == (1 : Int))
 (jz (Kh s w) fun r39 =>
 (some (s, r39.1, ())))
 (some (s, Xb, ()))))
 (cond (((ja W : Nat) : Int) == (1 : Int))
 (jz (Kh s w) fun r40 =>
 (some (s, r40.1, ())))
 (some (s, Xb, ()))))))
theorem D6 {l : List Int} (h1 : l.length ≤ 16) (h2 : ∀ k ∈ l, 0 ≤ k ∧ k ≤ 32) : (Lib.join (l.map Lib.itoa) [32]).length ≤ 400 := by
 have hjl := Vw (l.map Lib.itoa) [32] 21 (fun x hx => by
  obtain ⟨k, hk, rfl⟩ := qk.1 hx
  have := h2 k hk
  exact Uw (by omega))
 rw [yp] at hjl
 simp only [jw, j7] at hjl
 omega
theorem Yad {s : Sa} (h : Bk s) (m : Ha) (M : List (List Lb)) (t : Lb) (hz : Eb Rc (Qo m M) ≤ Ka) :
 (jz (Ij m M t) fun r => jz (Ei s r.1 r.2.1) fun q => some (q.1, q.2.1, ())) = some (L5 s m M t) := by
 rw [GN _ _ _ hz]
 simp only [jb]
 rw [GV]
 rfl
theorem Sau {W : List (List UInt8)} (h : (Te W 1).2.1 = true) : (Te W 1).1.length = 1 := XS (n := 1) h
theorem C5 {W : List (List UInt8)} (h : (Te W 2).2.1 = true) : (Te W 2).1.length = 2 := XS (n := 2) h
theorem Tau {W : List (List UInt8)} (h : (Te W 3).2.1 = true) : (Te W 3).1.length = 3 := XS (n := 3) h
theorem Tar {s : Sa} (h : Bk s) {W : List (List UInt8)} (hW : W.length ≤ 100000000) (w : List UInt8) : Lae s W w (Te W 2) = some (E2 s W w (Te W 2)) := by
 have h20 : Ka = 1048576 := rfl
 obtain ⟨hE, hm, hq, hf, hn, hs⟩ := YV h
 have hez := P3 hE
 have hone : (cond (((ja W : Nat) : Int) == (1 : Int)) (jz (Kh s w) fun r39 => (some (s, r39.1, ()))) (some (s, Xb, ()))) = some (ZS s W w) := by
  unfold ZS
  rw [EX h]
  cases ((ja W : Nat) : Int) == (1 : Int) <;> rfl
 unfold Lae E2
 rw [show Jf W (1 : Int) = some (Te W 1) from IB W 1 hW (by omega), show Jf W (3 : Int) = some (Te W 3) from IB W 3 hW (by omega)]
 simp only [jb]
 cases hw : w == De with
 | true =>
  simp only [ze]
  cases hb : (Te W 1).2.1 with
  | false => rfl
  | true =>
   simp only [ze]
   rw [GB h (by rw [hw]; exact Sau hb)]
   rfl
 | false =>
 simp only [zf]
 cases w == Bm with
 | true =>
  simp only [ze]
  cases hb : (Te W 3).2.1 with
  | false => rfl
  | true =>
   simp only [ze]
   have h3 := Tau hb
   generalize (Te W 3).1 = l at h3
   match l, h3 with
   | [a, b, c], _ =>
    have hz : Eb Rc (Qo s.1.1.1 s.1.1.2.1) ≤ Ka := by
     rw [Bl] at hez ⊢
     show Eb Ua s.1.1.1 + (Eb (.sl (.sl Kd)) s.1.1.2.1 + 0) ≤ _
     omega
    exact Yad h s.1.1.1 s.1.1.2.1 (a, b, c, ()) hz
 | false =>
 simp only [zf]
 cases w == ([119, 97, 121] : List UInt8) with
 | false => exact hone
 | true =>
  simp only [ze]
  cases hb : (Te W 2).2.1 with
  | false => exact hone
  | true =>
   simp only [ze]
   have h2 := C5 hb
   unfold Mal
   generalize (Te W 2).1 = l at h2
   match l, h2 with
   | [a, b], _ =>
    obtain ⟨_, e2, e3, e4⟩ := Fai s.1.1.1 a b (by omega)
    rw [show Qd (ja [a, b]) 0 = true from rfl, show Qd (ja [a, b]) 1 = true from rfl, show ([a, b] : List Int)[jy 0]? = some a from rfl, show ([a, b] : List Int)[jy 1]? = some b from rfl,
     show ([a, b] : List Int).getD 0 0 = a from rfl, show ([a, b] : List Int).getD 1 0 = b from rfl]
    simp only [ze, jb]
    rw [e2]
    simp only [jb]
    generalize IK s.1.1.1 a b = v at e3 e4
    cases v.2.1 with
    | false => rfl
    | true =>
     simp only [jg, zf]
     obtain ⟨v, vb⟩ := v
     simp only at e3 e4 ⊢
     have hl := Wm (step := fun x : (Unit × Unit × List (List UInt8) × List Int × Int × Int × Unit) × Sa × Sa × Unit => Nt x.1.1 x.1.2.1 x.1.2.2.1 x.1.2.2.2.1 x.1.2.2.2.2.1 x.1.2.2.2.2.2.1 x.2.1 x.2.2.1) v Lib.itoa
      (fun o k => (((), (), o, v, (v.length : Int), k, ()), (s, (Qy, ([] : List Xd), ()), ()))) (fun o => .inl (((), (), o, ()), (s, (Qy, ([] : List Xd), ()), ()))) (by omega) (fun k hk2 o ho => by
       have hx := e4 v[k] (qi hk2)
       simp only [Nt]
       rw [Aa (by omega), Lg, Aa hk2]
       simp only [ze, jn]
       rw [je hk2]
       simp only [jb]
       rw [Dm (by omega)]
       simp only [jb]
       rw [Mb (by simp only [jw, j7]; omega)]
       rfl) (fun o => by
       simp only [Nt]
       rw [Ba (by omega)]
       rfl)
     unfold Ci
     erw [hl]
     simp only [jb, qg]
     have hjl := D6 e3 e4
     rw [Li (by simp; omega) (by omega)]
     simp only [jb]
     rw [Mb (by simp only [Dg, jw, j7]; omega)]
     rfl
noncomputable def Ead (s : Sa) (r : List UInt8) : Sa × (List UInt8 × Unit) := cond (!(Rz r).2.1) (s, [110, 111], ()) (L5 s (Rz r).1 s.1.1.2.1 s.1.2.1)
noncomputable def Fak (s : Sa) (r : List UInt8) : Sa × (List UInt8 × Unit) := cond (!(PB r).2.1) (s, [110, 111], ()) (L5 s s.1.1.1 (jf s.1.1.2.1 [(PB r).1]) s.1.2.1)
noncomputable def NP (s : Sa) (W : List (List UInt8)) : Sa × (List UInt8 × Unit) :=
 cond ((W.getD 0 [] == Uj || W.getD 0 [] == [117, 112]) && (Te W 2).2.1) (PI s (HA s (W.getD 0 []) (Te W 2).1)) (E2 s W (W.getD 0 []) (Te W 2))
noncomputable def OI (s : Sa) (t : List UInt8) : Sa × (List UInt8 × Unit) :=
 cond (t == ([] : List UInt8)) (s, [], ()) (cond (((UInt8.toNat (t.getD 0 0) : Nat) : Int) == 35) (s, [], ())
  (cond (ZC t Cg) (Ead s (t.drop 5)) (cond (ZC t Vj) (Fak s (t.drop 6)) (NP s (Df 32 [] t)))))
theorem Oar {s : List UInt8} (h : (Rz s).2.1 = true) : Gc (Rz s).1 = true := by
 unfold Rz at h ⊢
 revert h
 cases Ob (fun _ m p => KB m p) 0 Hu (Lib.split s [32, 124, 32]) with
 | inr u => intro h; simp at h
 | inl m =>
  simp only
  cases hm : Gc m with
  | false => intro h; simp at h
  | true =>
   cases Ky m != s with
   | true => intro h; simp at h
   | false => intro _; exact hm
theorem Lad {m : Ha} (h : Gc m = true) : Eb Ua m ≤ 200 := by
 have hm := Hd h
 have h1 : Eb Ua m = 0 + (Eb (.sl (.sl Bc)) m.2.1 + 0) := rfl
 have h2 : Eb (.sl (.sl Bc)) m.2.1 ≤ (32 + 1) * ja m.2.1 := QG (e := .sl Bc) (c := 32) fun x hx => by
  obtain ⟨i, hi, rfl⟩ := qj hx
  rw [KP]
  have := hm.row i hi
  have := hm.k2
  omega
 have := hm.l2
 omega
theorem Cah {M : List (List Lb)} (h4 : M.length ≤ 5) (h : ∀ x ∈ M, Vc x = true) : Eb (.sl (.sl Kd)) M ≤ 45 := by
 have h2 : Eb (.sl (.sl Kd)) M ≤ (8 + 1) * M.length := QG (e := .sl Kd) (c := 8) fun x hx => by
  have := FQ (h x hx)
  have e2 : Eb (.sl Kd) x = x.length := Yq (e := Kd) rfl x
  omega
 omega
theorem O3 {m : Ha} {M : List (List Lb)} (hm : Eb Ua m ≤ 400) (h4 : M.length ≤ 5) (h : ∀ x ∈ M, Vc x = true) : Eb Rc (Qo m M) ≤ Ka := by
 have h20 : Ka = 1048576 := rfl
 have := Cah h4 h
 rw [Bl]
 show Eb Ua m + (Eb (.sl (.sl Kd)) M + 0) ≤ _
 omega
theorem Iai {s : Sa} (h : Bk s) (W : List (List UInt8)) : Bk (NP s W).1 ∧ (NP s W).2.1.length ≤ 73000 := by
 unfold NP
 generalize W.getD 0 [] = w
 have hone : Bk (ZS s W w).1 ∧ (ZS s W w).2.1.length ≤ 73000 := by
  unfold ZS
  have := Gai h w
  cases ((ja W : Nat) : Int) == 1
  ·exact ⟨h, by show Xb.length ≤ _; simp [Xb]⟩
  ·exact ⟨h, by show (MQ s w).length ≤ _; omega⟩
 cases (w == Uj || w == [117, 112]) && (Te W 2).2.1 with
 | true => exact Raf h
 | false =>
  simp only [zf]
  unfold E2
  cases w == De with
  | true =>
   cases (Te W 1).2.1
   ·exact ⟨h, by show Xb.length ≤ _; simp [Xb]⟩
   ·exact Raf h
  | false =>
  cases w == Bm with
  | true =>
   cases (Te W 3).2.1
   ·exact ⟨h, by show Xb.length ≤ _; simp [Xb]⟩
   ·have := N5 h s.1.1.1 s.1.1.2.1 ((Te W 3).1.getD 0 0, (Te W 3).1.getD 1 0, (Te W 3).1.getD 2 0, ())
    exact ⟨this.1, qa this.2 (by omega)⟩
  | false =>
  cases w == ([119, 97, 121] : List UInt8) with
  | false => exact hone
  | true =>
  cases (Te W 2).2.1 with
  | false => exact hone
  | true =>
   simp only [ze, zf]
   unfold Mal
   obtain ⟨_, _, e3, e4⟩ := Fai s.1.1.1 ((Te W 2).1.getD 0 0) ((Te W 2).1.getD 1 0) (by have := (YV h).mz; have : Ka = 1048576 := rfl; omega)
   have := D6 e3 e4
   cases (IK s.1.1.1 ((Te W 2).1.getD 0 0) ((Te W 2).1.getD 1 0)).2.1
   ·exact ⟨h, by show (2 : Nat) ≤ _; omega⟩
   ·refine ⟨h, ?_⟩
    show (jf Dg _).length ≤ _
    rw [zb, qd, show Dg.length = 4 from rfl]
    omega
theorem L3 {s : Sa} (h : Bk s) (t : List UInt8) : Bk (OI s t).1 ∧ (OI s t).2.1.length ≤ 73000 := by
 unfold OI
 cases t == ([] : List UInt8) with
 | true => exact ⟨h, Nat.zero_le _⟩
 | false =>
 cases ((UInt8.toNat (t.getD 0 0) : Nat) : Int) == 35 with
 | true => exact ⟨h, Nat.zero_le _⟩
 | false =>
 cases ZC t Cg with
 | true =>
  simp only [ze, zf]
  unfold Ead
  cases (Rz (t.drop 5)).2.1
  ·exact ⟨h, by show (2 : Nat) ≤ _; omega⟩
  ·have := N5 h (Rz (t.drop 5)).1 s.1.1.2.1 s.1.2.1
   exact ⟨this.1, qa this.2 (by omega)⟩
 | false =>
 cases ZC t Vj with
 | true =>
  simp only [ze, zf]
  unfold Fak
  cases (PB (t.drop 6)).2.1
  ·exact ⟨h, by show (2 : Nat) ≤ _; omega⟩
  ·have := N5 h s.1.1.1 (jf s.1.1.2.1 [(PB (t.drop 6)).1]) s.1.2.1
   exact ⟨this.1, qa this.2 (by omega)⟩
 | false => exact Iai h _
theorem XK {s : Sa} (h : Bk s) {t : List UInt8} (ht : t.length ≤ 1048576) : Yy s t = some (OI s t) := by
 have h20 : Ka = 1048576 := rfl
 have hz := Jao h
 have hF := YV h
 have hsd := Nac h.d
 unfold Yy OI
 rw [(DN s (by omega)).2, (Eaa s).2 h]
 simp only [jb, jg, zf]
 rw [EC (by omega) (by have := hF.sz; omega)]
 simp only [jb]
 cases he : t == ([] : List UInt8) with
 | true => rfl
 | false =>
 have hne : t ≠ [] := by simpa using he
 obtain ⟨c, l, rfl⟩ := List.exists_cons_of_ne_nil hne
 simp only [zf]
 rw [show Hc (c :: l) 0 = some c from rfl, show (c :: l).getD 0 0 = c from rfl]
 simp only [jb]
 cases ((UInt8.toNat c : Nat) : Int) == 35 with
 | true => rfl
 | false =>
 simp only [zf]
 rw [AB]
 simp only [jb]
 cases hp : ZC (c :: l) Cg with
 | true =>
  simp only [ze]
  have hd : ((c :: l).drop 5).length ≤ 1048571 := by rw [ql]; omega
  unfold Ead
  rw [show Cg.length = 5 from rfl]
  rw [CC hd]
  simp only [jb]
  cases hb : (Rz ((c :: l).drop 5)).2.1 with
  | false => rfl
  | true =>
   simp only [jg, zf]
   exact Yad h _ _ _ (O3 (by have := Lad (Oar hb); omega) (by have := hF.e.m4; omega) hF.e.mac)
 | false =>
 simp only [zf]
 rw [AB]
 simp only [jb]
 cases hp : ZC (c :: l) Vj with
 | true =>
  simp only [ze]
  have hd : ((c :: l).drop 6).length ≤ 1048571 := by rw [ql]; omega
  unfold Fak
  rw [show Vj.length = 6 from rfl]
  rw [LO hd]
  simp only [jb]
  cases hb : (PB ((c :: l).drop 6)).2.1 with
  | false => rfl
  | true =>
   simp only [jg, zf]
   have hm4 := hF.e.m4
   have := Cah (by omega) hF.e.mac
   rw [Ow _ (by omega)]
   simp only [jb]
   rw [Mb (by simp only [jw, j7]; omega)]
   simp only [ze]
   refine Yad h _ _ _ (O3 (by have := hF.mz; omega) (by rw [zb, qd]; simp only [jw, j7]; omega) fun x hx => ?_)
   rcases jl.1 (show x ∈ s.1.1.2.1 ++ [(PB ((c :: l).drop 6)).1] from hx) with hx | hx
   ·exact hF.e.mac x hx
   ·rw [qc.1 hx]; exact Nar hb
 | false =>
 simp only [zf]
 rw [Mz 32 (by omega)]
 simp only [jb]
 have hl := UA 32 (c :: l) []
 have hne2 := KJ 32 (c :: l) []
 generalize Df 32 [] (c :: l) = W at hl hne2
 have hW : W.length ≤ 100000000 := by omega
 obtain ⟨w, W', rfl⟩ := List.exists_cons_of_ne_nil hne2
 rw [show Qd (ja (w :: W')) 0 = true from by simp [Qd], show (w :: W')[jy 0]? = some w from rfl, show Jf (w :: W') (2 : Int) = some (Te (w :: W') 2) from IB _ 2 hW (by omega)]
 simp only [ze, jb]
 have htl := Tar h hW w
 unfold Lae at htl
 unfold NP
 rw [show (w :: W').getD 0 [] = w from rfl]
 cases hd : w == Uj with
 | true =>
  simp only [ze, Bool.true_or, jk]
  cases hb : (Te (w :: W') 2).2.1 with
  | true =>
   simp only [ze]
   rw [GB h (by
    have : (w == De) = false := by rw [eq_of_beq hd]; decide
    rw [this]; exact C5 hb)]
   rfl
  | false => rw [hb] at htl; exact htl
 | false =>
  simp only [zf, yr]
  cases hu : w == ([117, 112] : List UInt8) with
  | true =>
   simp only [ze, jk]
   cases hb : (Te (w :: W') 2).2.1 with
   | true =>
    simp only [ze]
    rw [GB h (by
     have : (w == De) = false := by rw [eq_of_beq hu]; decide
     rw [this]; exact C5 hb)]
    rfl
   | false => rw [hb] at htl; exact htl
  | false =>
   simp only [zf, Bool.false_and]
   exact htl
theorem DT {c : Zb} (h : Kn c) (l : List (List UInt8)) (hl : 0 < l.length) (h2 : l.length ≤ 1000) : ∃ (c' : Zb) (x : List UInt8), Wu c l = some (c', (x, ())) ∧ Kn c' ∧ x ∈ l := by
 obtain ⟨c1, x1, e1, h1, b1⟩ := Gw h ((ja l : Nat) : Int) (by omega)
 unfold Wu
 rw [e1]
 obtain ⟨k, rfl⟩ := jv b1.1
 have hk : k < l.length := by omega
 simp only [jb]
 rw [Lg, Aa hk, jn, je hk]
 exact ⟨_, _, rfl, h1, qi hk⟩
theorem U5 {m : Ha} (hm : Bw m) {i : Nat} (hi : i < m.2.1.length) (o : List (List UInt8)) :
 Lj (((), o, (i : Int), ([] : List (List UInt8)), (0 : Int), ()), (m, ())) = some (.inl (((), o, (i : Int), m.2.1[i].map Rr, ()), (m, ()))) := by
 have hrow := hm.row i hi
 have hk2 := hm.k2
 have hk1 := hm.k1
 have hkl : m.1 = ((m.2.1[i].length : Nat) : Int) := by omega
 have hl := Wm (step := fun x : (Unit × List (List UInt8) × Int × List (List UInt8) × Int × Unit) × Ha × Unit => Ql x.1.1 x.1.2.1 x.1.2.2.1 x.1.2.2.2.1 x.1.2.2.2.2.1 x.2.1) m.2.1[i] Rr
  (fun w k => (((), o, (i : Int), w, k, ()), (m, ()))) (fun w => .inl (((), o, (i : Int), w, ()), (m, ()))) (by omega) (fun k hk w hw => by
   simp only [Ql]
   rw [Aa (by omega), Ec hi]
   simp only [ze, jb]
   rw [Ec hk]
   simp only [jb]
   rw [XM]
   simp only [jb]
   rw [Mb (by simp only [jw, j7]; omega)]
   rfl) (fun w => by
   simp only [Ql]
   rw [Ba (by omega)]
   rfl)
 unfold Lj
 exact hl
theorem YM {m : Ha} (hz : Eb Ua m ≤ Ka) : Lr m = some (Ky m, ()) := by
 have h20 : Ka = 1048576 := rfl
 unfold Lr Ky
 cases hv : Gc m with
 | false =>
  have hst : Ih (((), ([] : List (List UInt8)), (0 : Int), ()), (m, ())) = some (.inl ((([] : List (List UInt8)), ()), ())) := by
   unfold Ih
   refine (Xc (z := some (Sum.inr (.inl ((([] : List (List UInt8)), ()), ())))) ?_).trans rfl
   simp only [Vi]
   rw [Pk m hz, hv]
   cases decide ((0 : Int) < ((ja m.2.1 : Nat) : Int)) <;> rfl
  rw [hst]
  simp only [jb, qg]
  rw [JA (by simp) (by simp [Lib.join])]
  rfl
 | true =>
  have hm := Hd hv
  have hl2 := hm.l2
  have hl := Wm (step := fun x : (Unit × List (List UInt8) × Int × Unit) × Ha × Unit => Vi x.1.1 x.1.2.1 x.1.2.2.1 x.2.1) m.2.1 XH
   (fun w k => (((), w, k, ()), (m, ()))) (fun w => .inl ((w, ()), ())) (by omega) (fun k hk w hw => by
    simp only [Vi]
    rw [Aa (by omega), Pk m hz, hv]
    simp only [ze, jb]
    rw [U5 hm hk]
    simp only [jb, qg]
    have hrow := hm.row k hk
    have hk2 := hm.k2
    have hj : (Lib.join (m.2.1[k].map Rr) [32]).length ≤ 51 * m.2.1[k].length := UM m.2.1[k]
    rw [JA (by simp; omega) (by omega)]
    simp only [jb]
    rw [Mb (by simp only [jw, j7]; omega)]
    rfl) (fun w => by
    simp only [Vi]
    rw [Ba (by omega)]
    rfl)
  unfold Ih
  erw [hl]
  simp only [jb, qg]
  have hlen := @TS m
  unfold Ky at hlen
  rw [hv] at hlen
  simp only [ze] at hlen
  rw [JA (by simp; omega) (by omega)]
  rfl
def Ol (b : UInt8) (l : List UInt8) : Prop := ∀ c ∈ l, c ≠ b
theorem Jj {b : UInt8} {x y : List UInt8} (hx : Ol b x) (hy : Ol b y) : Ol b (x ++ y) := fun c hc => (jl.1 hc).elim (hx c) (hy c)
theorem Xw (b : UInt8) : Ol b [] := fun c hc => by simp at hc
theorem UH (b : UInt8) (l : List UInt8) (h : l.all (· != b) = true) : Ol b l := fun c hc => by
 have := yv.1 h c hc
 simpa using this
theorem Hn {b : UInt8} {p : Bool} {x y : List UInt8} (hx : Ol b x) (hy : Ol b y) : Ol b (cond p x y) := by cases p <;> assumption
theorem S9 {b : UInt8} {sep : List UInt8} (hs : Ol b sep) : ∀ {l : List (List UInt8)}, (∀ x ∈ l, Ol b x) → Ol b (Lib.join l sep)
 | [], _ => Xw b
 | x :: r, h => by
  rw [Lib.join_cons]
  refine Jj (h x (by simp)) ?_
  have key : ∀ r : List (List UInt8), (∀ x ∈ r, Ol b x) → Ol b (Lib.joinTail sep r) := by
   intro r
   induction r with
   | nil => intro _; exact Xw b
   | cons y r ih =>
    intro h
    exact Jj (Jj hs (h y (by simp))) (ih fun x hx => h x (jr _ hx))
  exact key r fun x hx => h x (jr _ hx)
theorem Laf : ∀ (v : Nat), ∀ c ∈ Lib.decDigits v, 48 ≤ c.toNat ∧ c.toNat ≤ 57 := by
 intro v
 induction v using Nat.strongRecOn with
 | _ v ih =>
 intro c hc
 by_cases h : v < 10
 ·rw [J3 v h] at hc
  rw [qc.1 hc]
  have : v = 0 ∨ v = 1 ∨ v = 2 ∨ v = 3 ∨ v = 4 ∨ v = 5 ∨ v = 6 ∨ v = 7 ∨ v = 8 ∨ v = 9 := by omega
  rcases this with rfl | rfl | rfl | rfl | rfl | rfl | rfl | rfl | rfl | rfl <;> decide
 ·rw [I7 v h] at hc
  rcases jl.1 hc with hc | hc
  ·exact ih (v / 10) (by omega) c hc
  ·rw [qc.1 hc]
   have hd : v % 10 < 10 := Nat.mod_lt _ (by omega)
   generalize v % 10 = d at hd
   have : d = 0 ∨ d = 1 ∨ d = 2 ∨ d = 3 ∨ d = 4 ∨ d = 5 ∨ d = 6 ∨ d = 7 ∨ d = 8 ∨ d = 9 := by omega
   rcases this with rfl | rfl | rfl | rfl | rfl | rfl | rfl | rfl | rfl | rfl <;> decide
theorem R9 {b : UInt8} (hb : b.toNat < 45 ∨ 57 < b.toNat) (n : Int) : Ol b (Lib.itoa n) := by
 intro c hc
 unfold Lib.itoa at hc
 have key : 45 ≤ c.toNat ∧ c.toNat ≤ 57 := by
  split at hc
  ·rcases jp.1 hc with h | h
   ·subst h; decide
   ·have := Laf _ c h; omega
  ·have := Laf _ c hc; omega
 rintro rfl
 omega
theorem Eah : ∀ c : Fin 57, (Sf (c.val : Int)).all (fun x => x != 10 && (x != 32 && x != 124)) = true := by decide +kernel
theorem Iak : ∀ c : Fin 16, (Hg (c.val : Int)).all (fun x => x != 10 && (x != 32 && x != 124)) = true := by decide +kernel
theorem Jak {c : Int} (h : ¬ (1 ≤ c ∧ c ≤ 56)) : Sf c = [] := by
 unfold Sf
 rw [Ba h]; rfl
theorem SX (c : Int) : Ol 10 (Sf c) ∧ Ol 32 (Sf c) ∧ Ol 124 (Sf c) := by
 by_cases h : 1 ≤ c ∧ c ≤ 56
 ·have := Eah ⟨c.toNat, by omega⟩
  rw [show ((⟨c.toNat, by omega⟩ : Fin 57).val : Int) = c by simp; omega] at this
  rw [yv] at this
  refine ⟨fun x hx => ?_, fun x hx => ?_, fun x hx => ?_⟩ <;> (have := this x hx; simp only [jd, bne_iff_ne] at this; first | exact this.1 | exact this.2.1 | exact this.2.2)
 ·rw [Jak h]; exact ⟨Xw _, Xw _, Xw _⟩
theorem RX (c : Int) : Ol 10 (Hg c) ∧ Ol 32 (Hg c) ∧ Ol 124 (Hg c) := by
 by_cases h : 1 ≤ c ∧ c ≤ 15
 ·have := Iak ⟨c.toNat, by omega⟩
  rw [show ((⟨c.toNat, by omega⟩ : Fin 16).val : Int) = c by simp; omega] at this
  rw [yv] at this
  refine ⟨fun x hx => ?_, fun x hx => ?_, fun x hx => ?_⟩ <;> (have := this x hx; simp only [jd, bne_iff_ne] at this; first | exact this.1 | exact this.2.1 | exact this.2.2)
 ·rw [TH h]; exact ⟨Xw _, Xw _, Xw _⟩
theorem Bar {b : UInt8} (hb : b = 10 ∨ b = 32 ∨ b = 124) (a : Ga) : Ol b (PW a) := by
 have hi : ∀ n, Ol b (Lib.itoa n) := fun n => R9 (by rcases hb with rfl | rfl | rfl <;> decide) n
 have hn : ∀ c, Ol b (Sf c) := fun c => hb.elim (fun e => e ▸ (SX c).1) fun h => h.elim (fun e => e ▸ (SX c).2.1) fun e => e ▸ (SX c).2.2
 have hm : ∀ c, Ol b (Hg c) := fun c => hb.elim (fun e => e ▸ (RX c).1) fun h => h.elim (fun e => e ▸ (RX c).2.1) fun e => e ▸ (RX c).2.2
 have hd : ∀ l : List UInt8, l.all (fun x => x != 10 && (x != 32 && x != 124)) = true → Ol b l := fun l hl x hx => by
  have := yv.1 hl x hx
  simp only [jd, bne_iff_ne] at this
  exact hb.elim (fun e => e ▸ this.1) fun h => h.elim (fun e => e ▸ this.2.1) fun e => e ▸ this.2.2
 unfold PW
 refine Hn (hd _ (by decide)) (Hn (hd _ (by decide)) (Hn (Jj (hd _ (by decide)) (hi _)) (Hn (Jj (hd _ (by decide)) (hi _)) (Hn (Jj (hd _ (by decide)) (hi _)) (Hn (Jj (Jj (hm _) (hd _ (by decide))) (hn _))
  (Hn (Jj (Jj (hi _) (hd _ (by decide))) (hn _)) (Hn (Jj (hd _ (by decide)) (hm _)) (Hn (Jj (hd _ (by decide)) (hi _)) (Hn (hd _ (by decide)) (Hn (hn _) (Jj (Jj (hm _) (hd _ (by decide))) (hn _))))))))))))
theorem Car {b : UInt8} (hb : b = 10 ∨ b = 32 ∨ b = 124) (a : Ga) : Ol b (Rr a) := Hn (Bar hb a) (Xw b)
theorem Dar (m : Ha) : Ol 10 (Ky m) := by
 unfold Ky
 refine Hn (S9 (UH _ _ (by decide)) fun x hx => ?_) (Xw _)
 obtain ⟨l, _, rfl⟩ := qk.1 hx
 unfold XH
 refine S9 (UH _ _ (by decide)) fun y hy => ?_
 obtain ⟨a, _, rfl⟩ := qk.1 hy
 exact Car (.inl rfl) a
theorem LJ {b : UInt8} : ∀ (x rest cur : List UInt8), Ol b x → Df (b.toNat : Int) cur (x ++ rest) = Df (b.toNat : Int) (cur ++ x) rest
 | [], rest, cur, _ => by simp
 | c :: x, rest, cur, h => by
  have hc : (((UInt8.toNat c : Nat) : Int) == (b.toNat : Int)) = false := by
   have := h c (by simp)
   rw [beq_eq_false_iff_ne]
   intro e
   exact this (UInt8.toNat_inj.1 (by omega))
  rw [yg, Df, hc, zf, LJ x rest (cur ++ [c]) fun y hy => h y (jr _ hy)]
  simp
theorem OR {b : UInt8} : ∀ (l : List (List UInt8)), l ≠ [] → (∀ x ∈ l, Ol b x) → ∀ tl : List UInt8, Ol b tl → Df (b.toNat : Int) [] (Lib.join l [b] ++ (b :: tl)) = l ++ [tl]
 | [], h, _, _, _ => absurd rfl h
 | [x], _, h, tl, ht => by
  have e : Lib.join [x] [b] = x := by rw [Lib.join_cons]; simp [Lib.joinTail]
  rw [e, LJ x _ [] (h x (by simp)), List.nil_append, Df, show (((UInt8.toNat b : Nat) : Int) == (b.toNat : Int)) = true by simp, ze]
  have := LJ tl [] [] ht
  simp only [yw, List.nil_append] at this
  rw [this]; rfl
 | x :: y :: r, _, h, tl, ht => by
  have e : Lib.join (x :: y :: r) [b] = x ++ (b :: Lib.join (y :: r) [b]) := by
   rw [Lib.join_cons, Lib.join_cons]; simp [Lib.joinTail]
  have ih := OR (y :: r) (by simp) (fun z hz => h z (jr _ hz)) tl ht
  rw [e, q0, yg, LJ x _ [] (h x (by simp)), List.nil_append, Df, show (((UInt8.toNat b : Nat) : Int) == (b.toNat : Int)) = true by simp, ze, ih]
  rfl
def PP (s : List UInt8) : Prop := s.length ≤ 8000 ∧ Ol 10 s
theorem IX {s : List UInt8} (h : (decide (s.length ≤ 8000) && s.all (· != 10)) = true) : PP s := by
 simp only [jd, decide_eq_true_eq] at h
 exact ⟨h.1, UH _ _ h.2⟩
theorem KE (n : Int) : Ol 10 (Lib.itoa n) := R9 (.inl (by decide)) n
theorem X5 {p a t : List UInt8} (hp : (decide (p.length ≤ 10) && p.all (· != 10)) = true) (ha : a.length ≤ 21 ∧ Ol 10 a) (ht : t.length ≤ 21 ∧ Ol 10 t) (c : Zb) :
 (cond (jx (ja p + ja a) Oa) (cond (jx (ja (jf p a) + ja ([32] : List UInt8)) Oa) (cond (jx (ja (jf (jf p a) ([32] : List UInt8)) + ja t) Oa)
  (some (c, ((jf (jf (jf p a) ([32] : List UInt8)) t), ()))) none) none) none : Option (Zb × (List UInt8 × Unit))) = some (c, (p ++ a ++ [32] ++ t, ())) ∧ PP (p ++ a ++ [32] ++ t) := by
 simp only [jd, decide_eq_true_eq] at hp
 refine ⟨?_, ?_, Jj (Jj (Jj (UH _ _ hp.2) ha.2) (UH _ _ (by decide))) ht.2⟩
 ·rw [Mb (by omega), Mb (by simp only [zb, qd, jw, j7]; omega), Mb (by simp only [zb, qd, jw, j7]; omega)]
  rfl
 ·simp only [qd, jw, j7]; omega
theorem Gad {c : Zb} (hc : Kn c) : ∃ (c' : Zb) (s : List UInt8), UB c = some (c', (s, ())) ∧ Kn c' ∧ PP s := by
 have h20 : Ka = 1048576 := rfl
 obtain ⟨c1, x1, e1, h1, b1⟩ := Gw hc 9 (by omega)
 obtain ⟨c2, x2, e2, h2, b2⟩ := Gw h1 7 (by omega)
 obtain ⟨c3, x3, e3, h3, b3⟩ := Gw h2 12 (by omega)
 have i1 := Uw (n := x1 * 60) (by omega)
 have i2 := Uw (n := x2) (by omega)
 unfold UB
 rw [e1]
 simp only [jb]
 rw [Gd (by omega) (by omega), My (by omega)]
 simp only [jb, e2]
 rw [My (by omega)]
 simp only [jb, e3]
 have hd := X5 (p := Ee) (by decide) ⟨i2, KE x2⟩ ⟨i1, KE (x1 * 60)⟩ c3
 have hu := X5 (p := [117, 112, 32]) (by decide) ⟨i2, KE x2⟩ ⟨i1, KE (x1 * 60)⟩ c3
 cases x3 == 0 with
 | true => exact ⟨_, _, hd.1, h3, hd.2⟩
 | false =>
 cases x3 == 1 with
 | true => exact ⟨_, _, hd.1, h3, hd.2⟩
 | false =>
 cases x3 == 2 with
 | true => exact ⟨_, _, hd.1, h3, hd.2⟩
 | false =>
 cases x3 == 3 with
 | true => exact ⟨_, _, hd.1, h3, hd.2⟩
 | false =>
 cases x3 == 4 with
 | true => exact ⟨_, _, hu.1, h3, hu.2⟩
 | false =>
 cases x3 == 5 with
 | true => exact ⟨_, _, hu.1, h3, hu.2⟩
 | false =>
 cases x3 == 6 with
 | true =>
  simp only [ze, zf]
  rw [Mb (by simp only [Wz, jw, j7]; omega)]
  refine ⟨_, _, rfl, h3, ?_, Jj (UH _ _ (by decide)) (KE _)⟩
  simp only [Wz, zb, qd, jw, j7]; omega
 | false =>
 cases x3 == 7 with
 | true =>
  simp only [ze, zf]
  obtain ⟨c4, y, e4, h4, hy⟩ := DT h3 [Ts, Dp, Ep, Bp, Ap] (by decide) (by decide)
  rw [e4]
  have : ∀ y ∈ [Ts, Dp, Ep, Bp, Ap], (decide (y.length ≤ 8000) && y.all (· != 10)) = true := by decide
  exact ⟨_, _, rfl, h4, IX (this y hy)⟩
 | false =>
 cases x3 == 8 with
 | true =>
  simp only [ze, zf]
  obtain ⟨c4, m, e4, h4, hm, _⟩ := Gag h3 (keys := 2) (by omega) (by omega)
  have e4' : Ez c3 (2 : Int) = some (c4, (m, ())) := e4
  rw [e4']
  simp only [jb]
  rw [YM (by have := Lad hm; omega)]
  simp only [jb]
  have hl := @TS m
  rw [Mb (by simp only [Cg, jw, j7]; omega)]
  refine ⟨_, _, rfl, h4, ?_, Jj (UH _ _ (by decide)) (Dar m)⟩
  simp only [Cg, zb, qd, jw, j7]; omega
 | false =>
 cases x3 == 9 with
 | true =>
  simp only [ze, zf]
  obtain ⟨c4, y, e4, h4, hy⟩ := DT h3 [GK, FI, XF, LF, JF, NF, RF, SF] (by decide) (by decide)
  rw [e4]
  have : ∀ y ∈ [GK, FI, XF, LF, JF, NF, RF, SF], (decide (y.length ≤ 8000) && y.all (· != 10)) = true := by decide
  exact ⟨_, _, rfl, h4, IX (this y hy)⟩
 | false =>
  simp only [ze, zf]
  obtain ⟨c4, y, e4, h4, hy⟩ := DT h3 [([] : List UInt8), YF, Xb, FK, IF, De, Cg, VF, Vj, PF, QF, TF, OF] (by decide) (by decide)
  rw [e4]
  have : ∀ y ∈ [([] : List UInt8), YF, Xb, FK, IF, De, Cg, VF, Vj, PF, QF, TF, OF], (decide (y.length ≤ 8000) && y.all (· != 10)) = true := by decide
  exact ⟨_, _, rfl, h4, IX (this y hy)⟩
theorem M2 (a : List Int) (hn : a.length ≤ Ka) : ∃ W : List (List UInt8), Xx a = some (W, ()) ∧ (∀ x ∈ W, PP x) ∧ 1 ≤ W.length ∧ W.length ≤ 9 := by
 obtain ⟨c0, e0, h0⟩ := Kak a 16 hn
 obtain ⟨c1, n1, e1, h1, b1⟩ := Gw h0 9 (by omega)
 obtain ⟨n, rfl⟩ := jv b1.1
 unfold Xx
 rw [e0]
 simp only [jb]
 rw [e1]
 simp only [jb]
 rw [Gd (by omega) (by omega)]
 obtain ⟨r, hr, W, c2, rfl, h2, hW, hl1, hl⟩ := DJ (s := fun x : (Unit × List (List UInt8) × Int × Unit) × Zb × Unit => Gx x.1.1 x.1.2.1 x.1.2.2.1 x.2.1)
  (fun k x => ∃ (W : List (List UInt8)) (c : Zb), x = (((), W, (k : Int), ()), (c, ())) ∧ Kn c ∧ (∀ w ∈ W, PP w) ∧ 1 ≤ W.length + k ∧ W.length + k ≤ 9)
  (fun r => ∃ (W : List (List UInt8)) (c : Zb), r = .inl ((W, ()), ()) ∧ Kn c ∧ (∀ w ∈ W, PP w) ∧ 1 ≤ W.length ∧ W.length ≤ 9) (by
  rintro k x ⟨W, c, rfl, hc, hW, hl1, hl⟩
  simp only [Gx]
  by_cases h0 : (k : Int) > 0
  ·rw [Aa h0]
   obtain ⟨c2, w, e2, h2, hw⟩ := Gad hc
   rw [e2]
   simp only [ze, jb]
   rw [Mb (by simp; omega), show j5 .i64 ((k : Int) - 1) = ((k - 1 : Nat) : Int) by rw [Gd (by omega) (by omega)]; omega]
   refine .inr ⟨_, k - 1, by omega, rfl, W ++ [w], c2, rfl, h2, fun x hx => ?_, by simp; omega, by simp; omega⟩
   rcases jl.1 hx with hx | hx
   ·exact hW x hx
   ·simp at hx; subst hx; exact hw
  ·rw [Ba h0]
   exact .inl ⟨_, rfl, W, c, rfl, hc, hW, by omega, by omega⟩) (1 + n) (((), ([] : List (List UInt8)), 1 + (n : Int), ()), (c1, ())) ⟨[], c1, by simp, h1, by simp, by simp, by simp; omega⟩
 unfold Rs
 erw [hr]
 exact ⟨W, rfl, hW, hl1, hl⟩
noncomputable def LT : Sa := (Wy wm [] ((200 : Int), (0 : Int), (0 : Int), ())).1
theorem Hav : Eb Rc (Qo wm []) ≤ Ka := O3 (by have := Lad J2; omega) (by simp) (by simp)
theorem Daa : Bk LT := by
 refine BZ ?_
 have hE := Wao (M := []) J2 (by simp) (by simp)
 have hd : Pc (XN (Qo wm []) ((200 : Int), (0 : Int), (0 : Int), ())) = true := Naf hE (by decide) (by omega) (by omega) (Qaj _ _) rfl (by show (0 : Int) ≤ 0 ∧ (0 : Int) ≤ 6; omega) (by omega)
 unfold Wy
 rw [(RG _).2 hE]
 simp only [ze]
 unfold EL
 rw [hd]
 rfl
theorem EE : Fj = some (LT, ()) := by
 unfold Fj
 rw [CC (by decide), BaH]
 simp only [jb]
 rw [GN _ _ _ Hav]
 rfl
noncomputable def W4 (p : Sa × List UInt8) (t : List UInt8) : Sa × List UInt8 :=
 ((OI p.1 t).1, cond ((OI p.1 t).2.1 != ([] : List UInt8)) (jf p.2 (jf (OI p.1 t).2.1 [10])) p.2)
noncomputable def J9 (W : List (List UInt8)) : Sa × List UInt8 := Lc (fun _ p t => W4 p t) 0 (LT, []) W
structure LnB (k : Nat) (p : Sa × List UInt8) : Prop where
 s : Bk p.1
 n : p.2.length ≤ 73001 * k
theorem K9 {k : Nat} {p : Sa × List UInt8} (h : LnB k p) (t : List UInt8) : LnB (k + 1) (W4 p t) := by
 obtain ⟨h1, h2⟩ := L3 h.s t
 have hn := h.n
 refine ⟨h1, ?_⟩
 unfold W4
 cases (OI p.1 t).2.1 != ([] : List UInt8) with
 | false => show p.2.length ≤ _; omega
 | true =>
  show (jf p.2 (jf (OI p.1 t).2.1 [10])).length ≤ _
  simp only [zb, qd, jw, j7]; omega
theorem I4 (W : List (List UInt8)) (hn : W.length ≤ 60) (hW : ∀ x ∈ W, x.length ≤ 1048576) :
 Sh ((W, (), ([] : List UInt8), W, ((ja W : Nat) : Int), (0 : Int), ()), (LT, ())) = some (.inl ((W, (J9 W).2, ()), ())) := by
 have hl := Bg (step := fun x : (List (List UInt8) × Unit × List UInt8 × List (List UInt8) × Int × Int × Unit) × Sa × Unit => Hr x.1.1 x.1.2.1 x.1.2.2.1 x.1.2.2.2.1 x.1.2.2.2.2.1 x.1.2.2.2.2.2.1 x.2.1) W (fun _ p t => W4 p t)
  (fun p i => ((W, (), p.2, W, ((ja W : Nat) : Int), i, ()), (p.1, ()))) (fun p => .inl ((W, p.2, ()), ())) LnB (by
   intro k hk p hp
   refine ⟨?_, K9 hp _⟩
   have hx := hW W[k] (qi hk)
   obtain ⟨h1, h2⟩ := L3 hp.s W[k]
   have hpn := hp.n
   have hk60 : 73001 * k ≤ 73001 * 60 := Nat.mul_le_mul_left _ (by omega)
   simp only [Hr]
   rw [Aa (by omega), Lg, Aa hk]
   simp only [ze, jn]
   rw [je hk]
   simp only [jb]
   have e := XK hp.s hx
   erw [e]
   simp only [jb]
   unfold W4
   cases (OI p.1 W[k]).2.1 != ([] : List UInt8) with
   | false => rfl
   | true =>
    simp only [ze]
    rw [Mb (by simp only [jw, j7]; omega), Mb (by simp only [zb, qd, jw, j7]; omega)]
    rfl) (by
   intro p hp
   simp only [Hr]
   rw [Ba (by omega)]; rfl) (by omega) (LT, []) ⟨Daa, by simp⟩
 unfold Sh J9
 exact hl.1
noncomputable def Had (V : List (List UInt8)) : List UInt8 × (Int × Unit) := cond (decide (60 < V.length)) ([], -1, ()) ((J9 V).2, ((V.length : Nat) : Int), ())
def Oac (W : List (List UInt8)) : List (List UInt8) := cond (W.getD (W.length - 1) [] == ([] : List UInt8)) (W.take (W.length - 1)) W
noncomputable def LV (t : List UInt8) : List UInt8 × (Int × Unit) := Had (Oac (Df 10 [] t))
theorem OS {t : List UInt8} (ht : t.length ≤ 1048576) : Lz t = some (LV t) := by
 unfold Lz LV Oac
 rw [Mz 10 (by omega)]
 simp only [jb]
 have hl := UA 10 t []
 have hp := YB 10 t []
 have hne := KJ 10 t []
 generalize Df 10 [] t = W at hl hp hne
 have h0 : 0 < W.length := List.length_pos_iff.2 hne
 have hi : j5 .i64 (((ja W : Nat) : Int) - 1) = ((W.length - 1 : Nat) : Int) := by rw [Gd (by omega) (by omega)]; omega
 rw [hi, Lg, Aa (by omega)]
 simp only [ze, jn]
 rw [je (by omega)]
 simp only [jb]
 rw [qf, je (show W.length - 1 < W.length by omega)]
 simp only [qz]
 have main : ∀ V : List (List UInt8), (∀ x ∈ V, x ∈ W) →
  (cond (decide (((ja V : Nat) : Int) > (60 : Int))) (some (([] : List UInt8), (-1 : Int), ())) (jz Fj fun r12 =>
   (jz (Sh ((V, (), ([] : List UInt8), V, ((ja V : Nat) : Int), (0 : Int), ()), (r12.1, ()))) (Sum.elim (fun y19 => (some (y19.1.2.1, ((ja y19.1.1 : Nat) : Int), ()))) (fun z20 => none)))) : Option (List UInt8 × (Int × Unit)))
  = some (Had V) := by
  intro V hV
  unfold Had
  by_cases h60 : 60 < V.length
  ·rw [Aa h60, Aa (by omega)]; rfl
  ·rw [Ba h60, Ba (by omega)]
   simp only [zf]
   rw [EE]
   simp only [jb]
   rw [I4 V (by omega) fun x hx => by have := hp x (hV x hx); simp at this; omega]
   rfl
 by_cases hb : (W[W.length - 1]'(by omega) == ([] : List UInt8)) = true
 ·rw [hb]
  simp only [ze]
  have hok : Jd (ja W) 0 ((W.length - 1 : Nat) : Int) = true := Al (lo := 0) (by omega) (by omega)
  have hcut : Xa W (jy 0) (W.length - 1) = W.take (W.length - 1) := by simp [Xa]
  rw [hok, ← hcut]
  simp only [ze]
  exact main _ fun x hx => by rw [hcut] at hx; exact List.mem_of_mem_take hx
 ·rw [j9] at hb
  rw [hb]
  simp only [zf]
  exact main W fun x hx => hx
theorem U4 (W : List (List UInt8)) (hn : W.length ≤ 60) (hW : ∀ x ∈ W, x.length ≤ 1048576) :
 Nl ((W, (), ([] : List UInt8), (0 : Int), ()), (LT, ())) = some (.inl ((W, (J9 W).2, ()), ())) := by
 have h20 : Ka = 1048576 := rfl
 have hl := Bg (step := fun x : (List (List UInt8) × Unit × List UInt8 × Int × Unit) × Sa × Unit => Bq x.1.1 x.1.2.1 x.1.2.2.1 x.1.2.2.2.1 x.2.1) W (fun _ p t => W4 p t)
  (fun p i => ((W, (), p.2, i, ()), (p.1, ()))) (fun p => .inl ((W, p.2, ()), ())) LnB (by
   intro k hk p hp
   refine ⟨?_, K9 hp _⟩
   have hx := hW W[k] (qi hk)
   obtain ⟨h1, h2⟩ := L3 hp.s W[k]
   have hpn := hp.n
   have hk60 : 73001 * k ≤ 73001 * 60 := Nat.mul_le_mul_left _ (by omega)
   simp only [Bq]
   rw [Aa (by omega), Lg, Aa hk]
   simp only [ze, jn]
   rw [je hk]
   simp only [jb]
   have e := XK hp.s hx
   erw [e]
   simp only [jb]
   rw [(DN _ (by have := Jao h1; omega)).2, (Eaa _).2 h1]
   simp only [jb, jg, zf]
   unfold W4
   cases (OI p.1 W[k]).2.1 != ([] : List UInt8) with
   | false => rfl
   | true =>
    simp only [ze]
    rw [Mb (by omega), Mb (by simp only [zb, qd, jw, j7]; omega)]
    simp only [ze]
    rw [show jf (jf p.2 (OI p.1 W[k]).2.1) [10] = jf p.2 (jf (OI p.1 W[k]).2.1 [10]) from q0 _ _ _]) (by
   intro p hp
   simp only [Bq]
   rw [Ba (by omega)]; rfl) (by omega) (LT, []) ⟨Daa, by simp⟩
 unfold Nl J9
 exact hl.1
theorem J0 (a : List Int) : Js a = some (true, ()) := by
 have h20 : Ka = 1048576 := rfl
 by_cases hn : a.length ≤ Ka
 case neg =>
  unfold Js
  rw [Eaj hn]
  rfl
 obtain ⟨W, eW, hW, h1, h9⟩ := M2 a hn
 have hj := Vw W [10] 8000 (fun x hx => (hW x hx).1)
 have hj' : (8000 + ([10] : List UInt8).length) * W.length ≤ 8001 * 9 := Nat.mul_le_mul (by simp) h9
 unfold Js
 rw [Caf hn]
 simp only [jb, zf]
 rw [eW]
 simp only [jb]
 rw [EE]
 simp only [jb]
 rw [U4 W (by omega) fun x hx => by have := (hW x hx).1; omega]
 simp only [jb, qg]
 rw [Li (by omega) (by omega)]
 simp only [jb]
 rw [Mb (by simp only [jw, j7]; omega)]
 simp only [ze]
 have hsp : Df 10 [] (jf (Lib.join W [10]) [10]) = W ++ [[]] := OR (b := 10) W (by intro h; subst h; simp at h1) (fun x hx => (hW x hx).2) [] (Xw _)
 rw [OS (by simp only [zb, qd, jw, j7]; omega)]
 simp only [jb]
 have hL : LV (jf (Lib.join W [10]) [10]) = ((J9 W).2, ((W.length : Nat) : Int), ()) := by
  unfold LV Oac
  rw [hsp]
  have e1 : (W ++ [([] : List UInt8)]).length - 1 = W.length := by simp
  have e2 : (W ++ [([] : List UInt8)]).getD W.length [] = [] := by simp [qf]
  have e3 : (W ++ [([] : List UInt8)]).take W.length = W := by simp
  rw [e1, e2, e3, show (([] : List UInt8) == []) = true from rfl]
  simp only [ze]
  unfold Had
  rw [Ba (by omega)]; rfl
 rw [hL]
 simp
end KF
