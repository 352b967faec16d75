/- An evaluator of Go functions on plain data, its soundness, and plain laws on what the functions compute, part 6 (conditions: as each lemma tells). -/
import Derived.Test.YthipacpeljffpaaGreatE
set_option linter.unusedSimpArgs false
set_option linter.unusedVariables false
namespace KF
open Go
open List renaming length → ja, getElem?_eq_getElem → je, append → jf, mem_append → jl, mem_cons → jp, mem_cons_of_mem → jr, length_cons → jw, set → qa, length_nil → qb, length_set → qc, mem_singleton → qh, length_append → qi, getElem?_append_left → qk, getElem?_append_right → ql, getD_eq_getElem?_getD → qm, getElem_mem → qv, mem_of_mem_drop → qw, getElem_of_mem → qx, mem_map → qy, length_drop → qz, length_take → q0, mem_cons_self → q8, length_replicate → yb
open Option renaming bind_some → jb, bind → jz, map_some → qg, bind_eq_some_iff → qj
open Option.some renaming injEq → jc
open Bool renaming and_eq_true → jd, not_true → jg, true_and → jk, false_eq_true → jq, not_false → qd, not_eq_true → qe, false_and → qs, and_self → qt, eq_iff_iff → q7
open Prod.mk renaming injEq → jh
open Nat renaming ble_eq_true_of_le → ji, mul_le_mul_right → jm, le_refl → jo, zero_add → js, add_assoc → jt, eq_of_beq_eq_true → ju, ble → jx, le_trans → qf, lt_of_lt_of_le → qo, pow_le_pow_right → qp, testBit_xor → qq, testBit_two_pow → qr, xor_lt_two_pow → qu
open Int renaming toNat_natCast → jn, eq_ofNat_of_zero_le → jv, toNat → jy
open Go.IntKind renaming wrap → j8, wrap → j9
open Sum renaming elim_inl → qn
open Result renaming andThen_ok → q9
open Sem renaming run_bind → ya
theorem Nae {a k : Nat} (h : a.testBit k = true) : a ^^^ (a &&& 2 ^ k) = a ^^^ 2 ^ k := by
 apply Nat.eq_of_testBit_eq; intro j
 rw [qq, qq, Nat.testBit_and, qr]
 by_cases hj : k = j
 ·subst hj; rw [h]; simp
 ·rw [show decide (k = j) = false from decide_eq_false hj]; simp
theorem UY {α : Type} (p : α → Bool) : ∀ (l : List α) (k : Nat), Cd p k l = -1 → ∀ x ∈ l, p x = false
 | [], _, _, x, hx => by simp at hx
 | y :: l, k, h, x, hx => by
  simp only [Cd] at h
  cases hy : p y with
  | true => rw [hy] at h; simp only [cond_true] at h; omega
  | false =>
   rw [hy] at h
   simp only [cond_false] at h
   rcases jp.1 hx with rfl | hx
   ·exact hy
   ·exact UY p l (k + 1) h x hx
structure MaP (c : Da) (D k : Nat) (at_ : Int) (r : Da × List Ba) : Prop where
 ex : ∃ D', FQ r.1 D' ∧ Tm r.1 D' = Tm c D ^^^ 2 ^ k ∧ ((r.2 = [] ∧ Ci r.1 D' = Ci c D) ∨ ∃ o : Nat, o ≤ 31 ∧ (o = k ∨ (Fh c.1 (o : Int)).isSome = true) ∧ r.2 = [(at_, (o : Int), false, ())] ∧ Ci r.1 D' = Ci c D ^^^ 2 ^ o ∧ (Ci c D).testBit o = true)
theorem Aas {α : Type} (A : List α) (j : Nat) (h : j < A.length) : A = A.take j ++ A[j] :: A.drop (j + 1) := by
 rw [← List.drop_eq_getElem_cons h, List.take_append_drop]
theorem Kar {c : Da} {D k : Nat} {at_ : Int} (h : FQ c D) (hk : k < 24) (hb : (Tm c D).testBit k = true) : MaP c D k at_ (Lt c (k : Int) at_) := by
 have hp : ∀ x ∈ Vb c, (!(Rd x.2.1 (k : Int) == 0)) = (mk x).testBit k := by
  intro x hx
  have hm := h.m.b x hx
  obtain ⟨n, hn⟩ := jv (show 0 ≤ x.2.1 by omega)
  unfold mk
  rw [hn, OV (by rw [Dt]; omega) (by omega), jn]
  cases n.testBit k <;> rfl
 unfold Lt
 by_cases hi : NF c (k : Int) = -1
 ·rw [if_pos hi]
  have hno : (Df (Vb c)).testBit k = false := by
   rw [Vp, List.any_eq_false]
   intro x hx
   have := UY _ _ _ hi x hx
   rw [hp x hx] at this
   simp [this]
  have hD : D.testBit k = true := by
   unfold Tm at hb
   rw [Nat.testBit_or, hno] at hb
   simpa using hb
  have hDx : D ^^^ 2 ^ k < 2 ^ 24 := qu h.d24 (Nat.pow_lt_pow_right (by omega) hk)
  have hg : (Ci c D).testBit k = true := by unfold Ci; rw [Nat.testBit_or, hD]; rfl
  have hlow := D7 h hk
  refine ⟨D ^^^ 2 ^ k, ⟨?_, hDx, h.m, h.ok, h.nd, ?_, h.pm, h.cb⟩, ?_, .inr ⟨k, by omega, .inl rfl, rfl, ?_, hg⟩⟩
  ·show Gc .i64 c.2.2.2.2.2.1 (Ra .i64 1 (k : Int)) = _
   rw [h.d, Qf (by omega), Tn (by have := h.d24; have := G4; rw [Dt]; omega) (Gf (by omega)), Nae hD]
  ·refine GD fun j => ?_
   have h1 := Qt h.dm j
   show ((D ^^^ 2 ^ k).testBit j && (Df (Vb c)).testBit j) = false
   rw [qq, qr]
   by_cases hj : k = j
   ·subst hj; rw [hno]; simp
   ·rw [show decide (k = j) = false from decide_eq_false hj]; simpa using h1
  ·show (D ^^^ 2 ^ k) ||| Df (Vb c) = (D ||| Df (Vb c)) ^^^ 2 ^ k
   apply Nat.eq_of_testBit_eq; intro j
   simp only [Nat.testBit_or, qq, qr]
   by_cases hj : k = j
   ·subst hj; rw [hno]; simp
   ·rw [show decide (k = j) = false from decide_eq_false hj]; simp
  ·show (D ^^^ 2 ^ k) ||| Jj (Vb c) = (D ||| Jj (Vb c)) ^^^ 2 ^ k
   apply Nat.eq_of_testBit_eq; intro j
   simp only [Nat.testBit_or, qq, qr]
   by_cases hj : k = j
   ·subst hj; rw [hlow]; simp
   ·rw [show decide (k = j) = false from decide_eq_false hj]; simp
 ·rw [if_neg hi]
  obtain ⟨j, hj, hpj⟩ : ∃ j, j < (Vb c).length ∧ NF c (k : Int) = (j : Int) := by
   rcases Dy (fun (a : Ba) => !(Rd a.2.1 (k : Int) == 0)) (Vb c) 0 with h1 | ⟨j, hj, h1⟩
   ·exact absurd h1 hi
   ·exact ⟨j, hj, by unfold NF; rw [h1]; simp⟩
  obtain ⟨_, hxk⟩ := GR (fun (a : Ba) => !(Rd a.2.1 (k : Int) == 0)) (Vb c) 0 j hj (by unfold NF at hpj; rw [hpj]; simp)
  have hsp := Aas (Vb c) j hj
  rw [hpj, jn]
  have hget : (Vb c).getD j TS = (Vb c)[j] := by rw [qm, je hj]; rfl
  have hmem := qv hj
  rw [hp _ hmem] at hxk
  generalize hx : (Vb c)[j] = x at hsp hget hmem hxk
  generalize hP : (Vb c).take j = P at hsp
  generalize hQ : (Vb c).drop (j + 1) = Q at hsp
  have hset : ∀ y, (Vb c).set j y = P ++ y :: Q := by
   intro y
   rw [hsp, List.set_append_right _ _ (by rw [← hP, q0]; omega)]
   have : j - P.length = 0 := by rw [← hP, q0]; omega
   rw [this]; rfl
  have hwo : woE (Vb c) j = P ++ Q := by
   unfold woE
   rw [hP, hQ]; rfl
  have hm := h.m.b x hmem
  obtain ⟨n, hn⟩ := jv (show 0 ≤ x.2.1 by omega)
  have hmkx : mk x = n := by unfold mk; rw [hn]; rfl
  rw [hmkx] at hxk
  have hn63 : n < 2 ^ 63 := by rw [Dt]; omega
  have hand : Gc .i64 x.2.1 (Ra .i64 1 (k : Int)) = ((n ^^^ 2 ^ k : Nat) : Int) := by
   rw [hn, Qf (by omega), Tn hn63 (Gf (by omega)), Nae hxk]
  have hdn := h.dm
  have hpm := h.pm
  have hnd := h.nd
  rw [hsp] at hdn hpm hnd
  rw [RE] at hdn
  simp only [Df] at hdn
  rw [Ii, Ii] at hdn
  rw [List.pairwise_append, List.pairwise_cons] at hpm hnd
  obtain ⟨hd1, hd2, hd3⟩ := hdn
  obtain ⟨pm1, ⟨pm2, pm3⟩, pm4⟩ := hpm
  obtain ⟨nd1, ⟨nd2, nd3⟩, nd4⟩ := hnd
  have hxn : x.2.1.toNat = n := hmkx
  rw [hxn] at hd2
  have bD : D.testBit k = false := by have := Qt hd2 k; rw [hxk] at this; simpa using this
  have bP : (Df P).testBit k = false := by
   rw [Vp, List.any_eq_false]
   intro y hy
   have := Qt (pm4 y hy x (by simp)) k
   rw [hmkx, hxk] at this
   simpa using this
  have bQ : (Df Q).testBit k = false := by
   rw [Vp, List.any_eq_false]
   intro y hy
   have := Qt (pm2 y hy) k
   rw [hmkx, hxk] at this
   simpa using this
  have hox := TI h.cb (h.ok x hmem)
  obtain ⟨o, ho⟩ := jv (show 0 ≤ x.1 by omega)
  have oD : D.testBit o = false := Nat.testBit_lt_two_pow (qo h.d24 (qp (by omega) (by omega)))
  have noO : ∀ (B : List Ba), (∀ y ∈ B, y ∈ Vb c) → (∀ y ∈ B, y.1 ≠ x.1) → (Jj B).testBit o = false := by
   intro B hB hne
   rw [Yx, List.any_eq_false]
   intro y hy
   have hky := TI h.cb (h.ok y (hB y hy))
   have := hne y hy
   unfold YH
   cases y.2.2.1 with
   | false => simp
   | true =>
    simp only [cond_true, qr]
    simp
    omega
  have oP := noO P (fun y hy => by rw [hsp]; simp [hy]) (fun y hy => nd4 y hy x (by simp))
  have oQ := noO Q (fun y hy => by rw [hsp]; simp [hy]) (fun y hy => (nd2 y hy).symm)
  have hn' : (n ^^^ 2 ^ k).testBit k = false := by rw [qq, hxk, qr]; simp
  have sub : ∀ b, (n ^^^ 2 ^ k).testBit b = true → n.testBit b = true := by
   intro b hb'
   rw [qq, qr] at hb'
   by_cases hkb : k = b
   ·subst hkb; exact hxk
   ·rw [show decide (k = b) = false from decide_eq_false hkb] at hb'; simpa using hb'
  have hdn' : ∀ M, (M = Df P ||| ((n ^^^ 2 ^ k) ||| Df Q)) → D ||| M = Tm c D ^^^ 2 ^ k := by
   rintro M rfl
   unfold Tm
   rw [hsp, RE]
   simp only [Df]
   rw [hxn]
   apply Nat.eq_of_testBit_eq; intro b
   simp only [Nat.testBit_or, qq, qr]
   by_cases hkb : k = b
   ·subst hkb; rw [bD, bP, bQ, hxk]; simp
   ·rw [show decide (k = b) = false from decide_eq_false hkb]; simp
  have hout : ∀ c' : Da, Jj (Vb c') = Jj P ||| Jj Q → ((QG (Vb c) at_ j = [] ∧ Ci c' D = Ci c D) ∨ ∃ o : Nat, o ≤ 31 ∧ (o = k ∨ (Fh c.1 (o : Int)).isSome = true) ∧ QG (Vb c) at_ j = [(at_, (o : Int), false, ())] ∧ Ci c' D = Ci c D ^^^ 2 ^ o ∧ (Ci c D).testBit o = true) := by
   intro c' hO
   have hgc : Ci c D = D ||| (Jj P ||| (YH x ||| Jj Q)) := by
    unfold Ci
    rw [hsp, WN]
    rfl
   unfold QG
   rw [hget, hgc]
   unfold Ci
   rw [hO]
   unfold YH
   cases x.2.2.1 with
   | false =>
    refine .inl ⟨rfl, ?_⟩
    simp only [cond_false, Nat.zero_or]
   | true =>
    refine .inr ⟨o, by omega, .inr (by
     have hok := h.ok x hmem
     unfold ID at hok
     rw [jd, ho] at hok
     exact hok.1), by simp only [cond_true]; rw [ho], ?_, ?_⟩
    ·simp only [cond_true]
     rw [ho, jn]
     apply Nat.eq_of_testBit_eq; intro b
     simp only [Nat.testBit_or, qq, qr]
     by_cases hkb : o = b
     ·subst hkb; rw [oD, oP, oQ]; simp
     ·rw [show decide (o = b) = false from decide_eq_false hkb]; simp
    ·simp only [cond_true]
     rw [ho, jn]
     simp [Nat.testBit_or]
  unfold PL
  rw [hget, hand]
  by_cases h0 : n ^^^ 2 ^ k = 0
  ·rw [h0]
   simp only [show (((0 : Nat) : Int) == 0) = true from rfl, cond_true]
   rw [hwo]
   have hA : Vb (Oag c (P ++ Q)) = P ++ Q := rfl
   have hM : Df (P ++ Q) = Df P ||| ((n ^^^ 2 ^ k) ||| Df Q) := by rw [RE, h0, Nat.zero_or]
   refine ⟨D, ⟨h.d, h.d24, ⟨fun y hy => h.m.b y ?_⟩, fun y hy => h.ok y ?_, ?_, ?_, ?_, h.cb⟩, ?_, hout _ (by rw [hA, WN])⟩
   ·rw [hsp]
    rcases jl.1 (show y ∈ P ++ Q from hy) with hy | hy <;> simp [hy]
   ·rw [hsp]
    rcases jl.1 (show y ∈ P ++ Q from hy) with hy | hy <;> simp [hy]
   ·rw [hA, List.pairwise_append]
    exact ⟨nd1, nd3, fun y hy z hz => nd4 y hy z (by simp [hz])⟩
   ·rw [hA, RE, Ii]
    exact ⟨hd1, hd3⟩
   ·rw [hA, List.pairwise_append]
    exact ⟨pm1, pm3, fun y hy z hz => pm4 y hy z (by simp [hz])⟩
   ·unfold Tm at hdn' ⊢
    rw [hA]
    exact hdn' _ hM
  ·have hb0 : (((n ^^^ 2 ^ k : Nat) : Int) == 0) = false := by rw [beq_eq_false_iff_ne]; omega
   rw [hb0]
   simp only [cond_false]
   rw [hset]
   generalize hx' : ((x.1, ((n ^^^ 2 ^ k : Nat) : Int), false, ()) : Ba) = x'
   have hmk' : mk x' = n ^^^ 2 ^ k := by rw [← hx']; exact jn _
   have hx1 : x'.1 = x.1 := by rw [← hx']
   have hA : Vb (Oag c (P ++ x' :: Q)) = P ++ x' :: Q := rfl
   have hM : Df (P ++ x' :: Q) = Df P ||| ((n ^^^ 2 ^ k) ||| Df Q) := by
    rw [RE]
    simp only [Df]
    rw [show x'.2.1.toNat = n ^^^ 2 ^ k from hmk']
   have hO : Jj (P ++ x' :: Q) = Jj P ||| Jj Q := by
    rw [WN]
    simp only [Jj]
    rw [show YH x' = 0 from by rw [← hx']; rfl, Nat.zero_or]
   have hle : n ^^^ 2 ^ k ≤ n := by
    have e : (n ^^^ 2 ^ k) &&& n = n ^^^ 2 ^ k := by
     apply Nat.eq_of_testBit_eq; intro b
     rw [Nat.testBit_and]
     cases hb' : (n ^^^ 2 ^ k).testBit b with
     | false => rfl
     | true => rw [sub b hb']; rfl
    rw [← e]
    exact Nat.and_le_right
   have zsub : ∀ m : Nat, m &&& n = 0 → m &&& (n ^^^ 2 ^ k) = 0 := fun m hm' => GD fun b => by
    have := Qt hm' b
    cases hb' : (n ^^^ 2 ^ k).testBit b with
    | false => simp
    | true => rw [sub b hb'] at this; simpa using this
   refine ⟨D, ⟨h.d, h.d24, ⟨fun y hy => ?_⟩, fun y hy => ?_, ?_, ?_, ?_, h.cb⟩, ?_, hout _ (by rw [hA]; exact hO)⟩
   ·rcases jl.1 (show y ∈ P ++ x' :: Q from hy) with hy | hy
    ·exact h.m.b y (by rw [hsp]; simp [hy])
    ·rcases jp.1 hy with rfl | hy
     ·rw [← hx']
      show 1 ≤ ((n ^^^ 2 ^ k : Nat) : Int) ∧ ((n ^^^ 2 ^ k : Nat) : Int) ≤ 16777215
      omega
     ·exact h.m.b y (by rw [hsp]; simp [hy])
   ·show ID c.1 y = true
    rcases jl.1 (show y ∈ P ++ x' :: Q from hy) with hy | hy
    ·exact h.ok y (by rw [hsp]; simp [hy])
    ·rcases jp.1 hy with rfl | hy
     ·have hok := h.ok x hmem
      unfold ID BS at hok ⊢
      simp only [jd, Bool.not_eq_true', bne_eq_false_iff_eq] at hok
      obtain ⟨k1, k2, k3, k4⟩ := hok
      rw [hx1, k1]
      obtain ⟨K, hK⟩ := jv hox.2.2.1
      rw [hK] at k3 ⊢
      rw [hn, Tn hn63 (by rw [Dt]; omega)] at k3
      have hnK : n &&& K = n := (Y4 (show n ^^^ (n &&& K) = 0 by omega)).symm
      have hKk : K.testBit k = true := by
       have := congrArg (fun z => z.testBit k) hnK
       simp only [Nat.testBit_and, hxk, jk] at this
       exact this
      have hn'K : (n ^^^ 2 ^ k) &&& K = n ^^^ 2 ^ k := by
       apply Nat.eq_of_testBit_eq; intro b
       rw [Nat.testBit_and]
       cases hb' : (n ^^^ 2 ^ k).testBit b with
       | false => rfl
       | true =>
        have h9 := congrArg (fun z => z.testBit b) hnK
        simp only [Nat.testBit_and, sub b hb', jk] at h9
        rw [h9]; rfl
      have hneK : (((n ^^^ 2 ^ k : Nat) : Int) == (K : Int)) = false := by
       rw [beq_eq_false_iff_ne]
       intro e
       have e' : n ^^^ 2 ^ k = K := by omega
       rw [e'] at hn'
       rw [hn'] at hKk
       simp at hKk
      rw [← hx']
      show (true && (!decide (((n ^^^ 2 ^ k : Nat) : Int) ≤ 0) && (!(Gc .i64 ((n ^^^ 2 ^ k : Nat) : Int) (K : Int) != 0) && !(false != (((n ^^^ 2 ^ k : Nat) : Int) == (K : Int)))))) = true
      rw [Tn (by omega) (by rw [Dt]; omega), hn'K, Nat.xor_self, hneK, show decide (((n ^^^ 2 ^ k : Nat) : Int) ≤ 0) = false from decide_eq_false (by omega)]
      rfl
     ·exact h.ok y (by rw [hsp]; simp [hy])
   ·rw [hA, List.pairwise_append, List.pairwise_cons]
    refine ⟨nd1, ⟨fun z hz => by rw [hx1]; exact nd2 z hz, nd3⟩, fun y hy z hz => ?_⟩
    rcases jp.1 hz with rfl | hz
    ·rw [hx1]; exact nd4 y hy x (by simp)
    ·exact nd4 y hy z (by simp [hz])
   ·rw [hA, hM, Ii, Ii]
    exact ⟨hd1, zsub D hd2, hd3⟩
   ·rw [hA, List.pairwise_append, List.pairwise_cons]
    refine ⟨pm1, ⟨fun z hz => ?_, pm3⟩, fun y hy z hz => ?_⟩
    ·rw [hmk', Nat.and_comm]
     have := pm2 z hz
     rw [hmkx, Nat.and_comm] at this
     exact zsub _ this
    ·rcases jp.1 hz with rfl | hz
     ·rw [hmk']
      have := pm4 y hy x (by simp)
      rw [hmkx] at this
      exact zsub _ this
     ·exact pm4 y hy z (by simp [hz])
   ·unfold Tm at hdn' ⊢
    rw [hA]
    exact hdn' _ hM
theorem W4 (set : Int) : ∀ (L : List Ja) (k : Nat) (s : Int × Bool), (Dd (fun _ s c => Z9 set s c) k s L).1 = s.1 ∨ ∃ c ∈ L, c.1 = set ∧ (Dd (fun _ s c => Z9 set s c) k s L).1 = c.2.1
 | [], k, s => .inl rfl
 | c :: L, k, s => by
  simp only [Dd]
  rcases W4 set L (k + 1) (Z9 set s c) with h | ⟨c', hc, h1, h2⟩
  ·rw [h]
   unfold Z9
   cases h0 : c.1 == set with
   | true => exact .inr ⟨c, by simp, by simpa using h0, rfl⟩
   | false =>
    simp only [cond_false]
    cases Gc .i64 set c.1 == 0 <;> exact .inl rfl
  ·exact .inr ⟨c', by simp [hc], h1, h2⟩
theorem D3 {L : List Ja} (h : Ke L = true) : ∀ i j (hi : i < L.length) (hj : j < L.length), i < j → L[i].2.1 ≠ L[j].2.1 := by
 intro i j hi hj hij e
 simp only [Ke, jd] at h
 have h1 := Kk.1 h.2 j hj
 simp only [Vt, jd] at h1
 have h2 := (Al (p := fun y : Ja => !(y.1 == L[j].1) && !(y.2.1 == L[j].2.1))).1 (by
  have := h1.2.2.2
  rw [js] at this
  exact this) L[i] (by
  rw [List.mem_take_iff_getElem]
  exact ⟨i, by omega, rfl⟩)
 simp only [jd, Bool.not_eq_true', beq_eq_false_iff_ne] at h2
 exact h2.2 e
theorem V4 {L : List Ja} (h : Ke L = true) {set : Int} (hw : (Hf L set).1 ≥ 0) : (Fh L (Hf L set).1).isSome = true ∧ Sy L (Hf L set).1 = set := by
 unfold Hf at hw ⊢
 rcases W4 set L 0 (-1, false) with h1 | ⟨c, hc, h1, h2⟩
 ·rw [h1] at hw; exact absurd hw (by decide)
 ·rw [h2]
  unfold Sy Fh
  cases hf : List.find? (fun c' : Ja => c'.2.1 == c.2.1) L with
  | none =>
   have := List.find?_eq_none.1 hf c hc
   simp at this
  | some c' =>
   refine ⟨rfl, ?_⟩
   have e1 := List.find?_some hf
   have e2 := List.mem_of_find?_eq_some hf
   simp only [beq_iff_eq] at e1
   obtain ⟨i, hi, rfl⟩ := qx hc
   obtain ⟨j, hj, rfl⟩ := qx e2
   have : i = j := by
    rcases Nat.lt_trichotomy i j with hlt | heq | hgt
    ·exact absurd e1.symm (D3 h i j hi hj hlt)
    ·exact heq
    ·exact absurd e1 (D3 h j i hj hi hgt)
   subst this
   exact h1
structure S6 (kc : Nat) (L : List Ja) (now t0 : Int) (m0 : Nat) (q : List Ba) (t : Int) (m : Nat) (b : Int × Int × Int) : Prop where
 at0 : 0 ≤ b.2.1
 at1 : b.2.1 ≤ now
 neg : b.2.2 < 0 → b.1 = 1
 pos : 0 ≤ b.2.2 → ∃ (n S : Nat) (t' : Int), b.1 = (n : Int) ∧ 1 ≤ n ∧ n ≤ q.length ∧ S ≠ 0 ∧ m0 &&& S = 0 ∧ Sy L b.2.2 = (S : Int) ∧ (Fh L b.2.2).isSome = true ∧ t0 ≤ t' ∧ Fi kc t' (m0 ||| S) (q.drop n) t m
theorem NZ {kc : Nat} {L : List Ja} (hL : Ke L = true) {now t0 t : Int} {m0 m : Nat} {q : List Ba} {S n : Nat} {a t' : Int} (ha0 : 0 ≤ a) (ha : a ≤ now) (hn : 1 ≤ n) (hnq : n ≤ q.length) (hS0 : S ≠ 0) (hd : m0 &&& S = 0) (ht : t0 ≤ t') (hE : Fi kc t' (m0 ||| S) (q.drop n) t m) :
 S6 kc L now t0 m0 q t m (Vy L (S : Int) n a) := by
 unfold Vy
 by_cases h : (Hf L (S : Int)).1 ≥ 0
 ·rw [Aa h]
  obtain ⟨h1, h2⟩ := V4 hL h
  exact ⟨ha0, ha, fun h' => by have : (Hf L (S : Int)).1 < 0 := h'; omega, fun _ => ⟨n, S, t', rfl, hn, hnq, hS0, hd, h2, h1, ht, hE⟩⟩
 ·rw [Ca h]
  exact ⟨ha0, ha, fun _ => rfl, fun h' => by have : (0 : Int) ≤ -1 := h'; omega⟩
theorem LZ {kc : Nat} (hkc : kc ≤ 24) {L : List Ja} (hL : Ke L = true) {e now t0 t : Int} (he : 0 ≤ e) {m0 m : Nat} {f : Ba} {r : List Ba} (hf1 : t ≤ now) : ∀ (rest : List Ba) (i : Nat) (S : Nat) (t' : Int), r.drop i = rest → i ≤ r.length → S ≠ 0 → S < 2 ^ 24 → m0 &&& S = 0 → t0 ≤ t' → Fi kc t' (m0 ||| S) rest t m →
 ∀ b, (match Sa (fun k s x => Zs L e k s x) i (S : Int) rest with
  | .inl s => cond (decide (now < e)) (0, 0, -1) (Vy L s (r.length + 1) e)
  | .inr (.inl b) => Vy L b.1 b.2.1 b.2.2
  | .inr (.inr b) => b) = b → b.1 ≠ 0 → S6 kc L now t0 m0 (f :: r) t m b
 | [], i, S, t', hr, hi, hS0, hS, hd, ht, hE, b, hb, hb0 => by
  have hri : i = r.length := by
   have := congrArg ja hr
   rw [qz] at this
   simp at this
   omega
  simp only [Sa] at hb
  by_cases h1 : now < e
  ·rw [Aa h1] at hb
   subst hb
   exact absurd rfl hb0
  ·rw [Ca h1] at hb
   subst hb
   simp only [cond_false]
   exact NZ hL he (by omega) (by omega) (by simp) hS0 hd ht (by simpa using hE)
 | x :: rest, i, S, t', hr, hi, hS0, hS, hd, ht, hE, b, hb, hb0 => by
  obtain ⟨k, hk, hk24, hk31, hx0, hx1, hx2, hdn, hR⟩ := Dk hE
  have hxt := RD hR
  have hix : i < r.length := by
   have := congrArg ja hr
   rw [qz] at this
   simp at this
   omega
  have hr1 : r.drop (i + 1) = rest := by
   have := List.drop_eq_getElem_cons hix
   rw [hr] at this
   simp only [List.cons.injEq] at this
   exact this.2.symm
  have hdrop : (f :: r).drop (i + 1) = x :: rest := by simpa using hr
  have hdrop2 : (f :: r).drop (i + 2) = rest := by simpa using hr1
  simp only [Sa] at hb
  unfold Zs at hb
  have p24' := G4
  cases hsw : Sj x with
  | false => rw [hsw] at hb; simp only [cond_false] at hb; subst hb; exact absurd rfl hb0
  | true =>
   rw [hsw] at hb
   simp only [cond_true] at hb
   by_cases h1 : x.1 ≥ e
   ·rw [Aa h1] at hb
    simp only [cond_true] at hb
    subst hb
    exact NZ hL he (by omega) (by omega) (by simp; omega) hS0 hd ht (by rw [hdrop]; exact hE)
   ·rw [Ca h1] at hb
    simp only [cond_false] at hb
    cases hdd : x.2.2.1 with
    | false =>
     rw [hdd] at hb
     simp only [cond_false] at hb
     subst hb
     exact NZ hL hx1 (by omega) (by omega) (by simp; omega) hS0 hd ht (by rw [hdrop]; exact hE)
    | true =>
     rw [hdd] at hb hdn
     have hkb : (m0 ||| S).testBit k = false := by
      cases hh : (m0 ||| S).testBit k with
      | false => rfl
      | true => rw [hh] at hdn; simp at hdn
     have hkb' := hkb
     rw [Nat.testBit_or] at hkb'
     simp only [Bool.or_eq_false_iff] at hkb'
     have hior : Tc .i64 (S : Int) (Ra .i64 1 x.2.1) = ((S ||| 2 ^ k : Nat) : Int) := by
      rw [hk, Qf (by omega), Hk (by rw [Dt]; omega) (Gf (by omega))]
     rw [hior] at hb
     have hS1 : S ||| 2 ^ k ≠ 0 := by
      intro h0
      have := congrArg (fun z => z.testBit k) h0
      simp [Nat.testBit_or, qr] at this
     have hS2 : S ||| 2 ^ k < 2 ^ 24 := Nat.or_lt_two_pow hS (Nat.pow_lt_pow_right (by omega) (show k < 24 by omega))
     have hd2 : m0 &&& (S ||| 2 ^ k) = 0 := by
      rw [Ii]
      refine ⟨hd, GD fun j => ?_⟩
      rw [qr]
      by_cases hj : k = j
      ·subst hj; rw [hkb'.1]; simp
      ·rw [show decide (k = j) = false from decide_eq_false hj]; simp
     have hmm : (m0 ||| S) ^^^ 2 ^ k = m0 ||| (S ||| 2 ^ k) := by
      rw [← EN hkb, Nat.or_assoc]
     rw [hmm] at hR
     simp only [cond_true] at hb
     cases hwi : Dj L ((S ||| 2 ^ k : Nat) : Int) with
     | false =>
      rw [hwi] at hb
      simp only [cond_false] at hb
      subst hb
      exact NZ hL hx1 (by omega) (by omega) (by simp; omega) hS0 hd ht (by rw [hdrop]; exact hE)
     | true =>
      rw [hwi] at hb
      simp only [cond_true] at hb
      cases hwo : decide ((Hf L ((S ||| 2 ^ k : Nat) : Int)).1 ≥ 0) && !(Hf L ((S ||| 2 ^ k : Nat) : Int)).2 with
      | true =>
       rw [hwo] at hb
       simp only [cond_true] at hb
       subst hb
       simp only [jd, decide_eq_true_eq] at hwo
       obtain ⟨w1, w2⟩ := V4 hL hwo.1
       exact ⟨hx1, show x.1 ≤ now by omega, fun h' => by have : (Hf L ((S ||| 2 ^ k : Nat) : Int)).1 < 0 := h'; have := hwo.1; omega,
        fun _ => ⟨i + 2, S ||| 2 ^ k, x.1, rfl, by omega, by simp; omega, hS1, hd2, w2, w1, by omega, by rw [hdrop2]; exact hR⟩⟩
      | false =>
       rw [hwo] at hb
       simp only [cond_false] at hb
       exact LZ hkc hL he hf1 rest (i + 1) (S ||| 2 ^ k) x.1 hr1 (by omega) hS1 hS2 hd2 (by omega) hR b hb hb0
theorem Qax {kc : Nat} (hkc : kc ≤ 24) {L : List Ja} {term now t0 t : Int} {m0 m : Nat} {f : Ba} {r : List Ba} (h0 : 0 ≤ t0) (hE : Fi kc t0 m0 (f :: r) t m) (ht : t ≤ now) (hfd : f.2.2.1 = true) (hb0 : (Xd L term (f :: r) now).1 ≠ 0) : S6 kc L now t0 m0 (f :: r) t m (Xd L term (f :: r) now) := by
 obtain ⟨k, hk, hk24, hk31, hx0, hx1, hx2, hdn, hR⟩ := Dk hE
 have hxt := RD hR
 revert hb0
 unfold Xd
 simp only
 cases hg : Ke L && (decide (1 ≤ term ∧ term ≤ 200) && (Sj f && f.2.2.1)) with
 | false => intro hb0; exact absurd rfl hb0
 | true =>
  simp only [jd, decide_eq_true_eq] at hg
  simp only [cond_true]
  have hshl : Ra .i64 1 f.2.1 = ((2 ^ k : Nat) : Int) := by rw [hk, Qf (by omega)]
  rw [hshl]
  cases Dj L ((2 ^ k : Nat) : Int) with
  | false =>
   intro _
   exact ⟨hx1, show f.1 ≤ now by omega, fun _ => rfl, fun h' => by have : (0 : Int) ≤ -1 := h'; omega⟩
  | true =>
   simp only [cond_true]
   intro hb0
   rw [hfd] at hdn
   have hkb : m0.testBit k = false := by
    cases hh : m0.testBit k with
    | false => rfl
    | true => rw [hh] at hdn; simp at hdn
   have hd : m0 &&& 2 ^ k = 0 := GD fun j => by
    rw [qr]
    by_cases hj : k = j
    ·subst hj; rw [hkb]; simp
    ·rw [show decide (k = j) = false from decide_eq_false hj]; simp
   rw [← EN hkb] at hR
   have hw : j9 .i64 (f.1 + term) = f.1 + term := Xc (by omega) (by omega)
   unfold YD at hb0 ⊢
   rw [hw] at hb0 ⊢
   exact LZ hkc hg.1 (by omega) ht r 0 (2 ^ k) f.1 rfl (by omega) (by have := Nat.two_pow_pos k; omega) (Nat.pow_lt_pow_right (by omega) (show k < 24 by omega)) hd hx0 hR _ rfl hb0
structure IM (kc : Nat) (c : Da) (D m : Nat) : Prop where
 s : FQ c D
 tm : 1 ≤ c.2.1 ∧ c.2.1 ≤ 200
 now : 0 ≤ c.2.2.2.1 ∧ c.2.2.2.1 ≤ 1000000
 clk : 0 ≤ c.2.2.2.2.1 ∧ c.2.2.2.2.1 ≤ c.2.2.2.1
 len : c.2.2.1.length ≤ 64
 q : ∃ t0 t : Int, 0 ≤ t0 ∧ t ≤ c.2.2.2.1 ∧ Fi kc t0 (Tm c D) c.2.2.1 t m
theorem QL (c : Da) (key at_ : Int) : (Lt c key at_).1.1 = c.1 ∧ (Lt c key at_).1.2.1 = c.2.1 ∧ (Lt c key at_).1.2.2.1 = c.2.2.1 ∧ (Lt c key at_).1.2.2.2.1 = c.2.2.2.1 ∧ (Lt c key at_).1.2.2.2.2.1 = c.2.2.2.2.1 := by
 unfold Lt
 split <;> exact ⟨rfl, rfl, rfl, rfl, rfl⟩
theorem FR {keys : Nat} {t t' : Int} {g o : Nat} {b : Bool} (hg : g < 2 ^ 32) (hok : o < keys) (ho : o ≤ 31) (h0 : t ≤ t') (h1 : 0 ≤ t') (h2 : t' ≤ 1000000) (hb : (b == g.testBit o) = false) : Fi keys t g [(t', (o : Int), b, ())] t' (g ^^^ 2 ^ o) := by
 have p32 : (2 : Nat) ^ 32 = 4294967296 := by decide
 have h63 := Dt
 have hp := Gf (show o ≤ 62 by omega)
 refine ⟨?_, by omega, qu (by omega) hp⟩
 simp only [Sa]
 unfold Bm Gj Uf
 simp only
 rw [Kj (show g < 2 ^ 63 by omega) (by omega), hb, Aa (show 0 ≤ t' ∧ t' ≤ 1000000 by omega), Aa (show (0 : Int) ≤ (o : Int) ∧ (o : Int) ≤ 31 by omega), Ca (show ¬ t > t' by omega), Ca (show ¬ (o : Int) ≥ (keys : Int) by omega), Qf (by omega), Mo (by omega) hp]
 rfl
theorem P7 {L : List Ja} {keys : Nat} (hL : ∀ x ∈ L, x.2.1 < (keys : Int)) {o : Int} (h : (Fh L o).isSome = true) : o < (keys : Int) := by
 unfold Fh at h
 obtain ⟨c, hc⟩ := Option.isSome_iff_exists.1 h
 have h1 := List.find?_some hc
 have h2 := hL c (List.mem_of_find?_eq_some hc)
 simp only [beq_iff_eq] at h1
 omega
theorem Naj {kc keys : Nat} (hkc : kc ≤ 24) (hkk : kc ≤ keys) {c c' : Da} {D m : Nat} {x : Ba} {r l : List Ba} (h : IM kc c D m) (hLk : ∀ x ∈ c.1, x.2.1 < (keys : Int)) (hq : c.2.2.1 = x :: r) (hs : We c x r = some (c', l)) :
 ∃ (D' : Nat) (t' : Int), IM kc c' D' m ∧ c'.1 = c.1 ∧ c'.2.1 = c.2.1 ∧ c'.2.2.2.1 = c.2.2.2.1 ∧ c.2.2.2.2.1 ≤ c'.2.2.2.2.1 ∧ Fi keys c.2.2.2.2.1 (Ci c D) l t' (Ci c' D') ∧ t' ≤ c'.2.2.2.2.1 := by
 obtain ⟨t0, t, h0, ht, hE⟩ := h.q
 have hlen := h.len
 rw [hq] at hE hlen
 simp only [jw] at hlen
 obtain ⟨k, hk, hk24, hk31, hx0, hx1, hx2, hdn, hR⟩ := Dk hE
 have hxt := RD hR
 have hc := h.clk
 have hn := h.now
 have hxn : x.1 ≤ c.2.2.2.1 := Int.le_trans hxt ht
 have hmx : 0 ≤ max c.2.2.2.2.1 x.1 ∧ max c.2.2.2.2.1 x.1 ≤ c.2.2.2.1 ∧ c.2.2.2.2.1 ≤ max c.2.2.2.2.1 x.1 ∧ max c.2.2.2.2.1 x.1 ≤ 1000000 := by omega
 have hg32 := (ZY h.s).2
 have hg63 : Ci c D < 2 ^ 63 := by
  have p32 : (2 : Nat) ^ 32 = 4294967296 := by decide
  have := Dt
  omega
 unfold We at hs
 cases hd : x.2.2.1 with
 | false =>
  rw [hd, hk] at hs
  simp only [cond_false, jc] at hs
  rw [hd] at hdn
  have hbk : (Tm c D).testBit k = true := by
   cases hh : (Tm c D).testBit k with
   | true => rfl
   | false => rw [hh] at hdn; simp at hdn
  generalize hc0 : ((c.1, c.2.1, r, c.2.2.2.1, max c.2.2.2.2.1 x.1, c.2.2.2.2.2) : Da) = c0 at hs
  have hS0 : FQ c0 D := by rw [← hc0]; exact ⟨h.s.d, h.s.d24, h.s.m, h.s.ok, h.s.nd, h.s.dm, h.s.pm, h.s.cb⟩
  have hdn0 : Tm c0 D = Tm c D := by rw [← hc0]; rfl
  have hgv0 : Ci c0 D = Ci c D := by rw [← hc0]; rfl
  obtain ⟨f1, f2, f3, f4, f5⟩ := QL c0 (k : Int) (max c.2.2.2.2.1 x.1)
  obtain ⟨D', hS', hdn', hor⟩ := (Kar (at_ := max c.2.2.2.2.1 x.1) hS0 (show k < 24 by omega) (by rw [hdn0]; exact hbk)).ex
  rw [hs] at f1 f2 f3 f4 f5 hS' hdn' hor
  simp only at f1 f2 f3 f4 f5 hS' hdn' hor
  have e1 : c0.1 = c.1 := by rw [← hc0]
  have e2 : c0.2.1 = c.2.1 := by rw [← hc0]
  have e3 : c0.2.2.1 = r := by rw [← hc0]
  have e4 : c0.2.2.2.1 = c.2.2.2.1 := by rw [← hc0]
  have e5 : c0.2.2.2.2.1 = max c.2.2.2.2.1 x.1 := by rw [← hc0]
  rw [e1] at f1; rw [e2] at f2; rw [e3] at f3; rw [e4] at f4; rw [e5] at f5
  rw [hdn0] at hdn'
  rw [hgv0] at hor
  have hI : IM kc c' D' m := ⟨hS', by rw [f2]; exact h.tm, by rw [f4]; exact h.now, by rw [f4, f5]; exact ⟨hmx.1, hmx.2.1⟩, by rw [f3]; omega, x.1, t, hx1, by rw [f4]; exact ht, by rw [f3, hdn']; exact hR⟩
  rcases hor with ⟨hl, hgv⟩ | ⟨o, ho, hok, hl, hgv, hbo⟩
  ·exact ⟨D', c.2.2.2.2.1, hI, f1, f2, f4, by rw [f5]; exact hmx.2.2.1, by rw [hl, hgv]; exact Js _ _ hg63, by rw [f5]; exact hmx.2.2.1⟩
  ·refine ⟨D', max c.2.2.2.2.1 x.1, hI, f1, f2, f4, by rw [f5]; exact hmx.2.2.1, ?_, by rw [f5]; exact Int.le_refl _⟩
   rw [hl, hgv]
   exact FR hg32 (by
    rcases hok with rfl | hok
    ·omega
    ·rw [e1] at hok; have := P7 hLk hok; omega) ho hmx.2.2.1 hmx.1 hmx.2.2.2 (by rw [hbo]; rfl)
 | true =>
  rw [hd, hq] at hs
  simp only [cond_true] at hs
  cases hz : (Xd c.1 c.2.1 (x :: r) c.2.2.2.1).1 == 0 with
  | true => rw [hz] at hs; simp at hs
  | false =>
   rw [hz] at hs
   simp only [cond_false] at hs
   have hM := Qax hkc (L := c.1) (term := c.2.1) h0 hE ht hd (by simpa using hz)
   generalize Xd c.1 c.2.1 (x :: r) c.2.2.2.1 = b at hs hM hz
   have a0 := hM.at0
   have a1 := hM.at1
   by_cases hneg : b.2.2 < 0
   ·rw [Aa hneg, hM.neg hneg] at hs
    simp only [cond_true, jc, jh] at hs
    obtain ⟨rfl, rfl⟩ := hs
    rw [hd] at hdn
    have hbk : (Tm c D).testBit k = false := by
     cases hh : (Tm c D).testBit k with
     | false => rfl
     | true => rw [hh] at hdn; simp at hdn
    obtain ⟨p1, p2, p3, p4⟩ := Xam h.s (show k < 24 by omega) hbk (c' := (c.1, c.2.1, List.drop (jy 1) (x :: r), c.2.2.2.1, max (max c.2.2.2.2.1 x.1) b.2.1, Tc .i64 c.2.2.2.2.2.1 (Ra .i64 1 x.2.1), Vb c, ())) rfl rfl (by rw [hk])
    refine ⟨D ^^^ 2 ^ k, max (max c.2.2.2.2.1 x.1) b.2.1, ⟨p1, h.tm, h.now, ?_, ?_, x.1, t, hx1, ht, ?_⟩, rfl, rfl, rfl, ?_, ?_, Int.le_refl _⟩
    ·show 0 ≤ max (max c.2.2.2.2.1 x.1) b.2.1 ∧ max (max c.2.2.2.2.1 x.1) b.2.1 ≤ c.2.2.2.1
     omega
    ·show r.length ≤ 64
     omega
    ·rw [p2]; exact hR
    ·show c.2.2.2.2.1 ≤ max (max c.2.2.2.2.1 x.1) b.2.1; omega
    ·rw [p3, hk]
     exact FR hg32 (by omega) (by omega) (by omega) (by omega) (by omega) (by rw [p4]; rfl)
   ·obtain ⟨n, S, t', hn1, hn2, hn3, hS0, hdS, hkey, hsome, ht0', hE'⟩ := hM.pos (by omega)
    rw [Ca hneg, hn1] at hs
    simp only [cond_false, jc, jh] at hs
    obtain ⟨rfl, rfl⟩ := hs
    obtain ⟨p1, p2, p3, p4, p5, p6⟩ := Wam h.s hsome hkey hS0 (by rw [Nat.and_comm]; exact hdS) (c' := (c.1, c.2.1, List.drop (jy (n : Int)) (x :: r), c.2.2.2.1, max (max c.2.2.2.2.1 x.1) b.2.1, c.2.2.2.2.2.1, jf (Vb c) [(b.2.2, Sy c.1 b.2.2, true, ())], ())) rfl (by rw [hkey]; rfl) rfl
    obtain ⟨o, ho⟩ := jv (show 0 ≤ b.2.2 by omega)
    refine ⟨D, max (max c.2.2.2.2.1 x.1) b.2.1, ⟨p1, h.tm, h.now, ?_, ?_, t', t, by omega, ht, ?_⟩, rfl, rfl, rfl, ?_, ?_, Int.le_refl _⟩
    ·show 0 ≤ max (max c.2.2.2.2.1 x.1) b.2.1 ∧ max (max c.2.2.2.2.1 x.1) b.2.1 ≤ c.2.2.2.1
     omega
    ·show (List.drop (jy (n : Int)) (x :: r)).length ≤ 64
     rw [qz]
     simp only [jw]
     omega
    ·rw [p2]
     show Fi kc t' (Tm c D ||| S) (List.drop (jy (n : Int)) (x :: r)) t m
     rw [jn]
     exact hE'
    ·show c.2.2.2.2.1 ≤ max (max c.2.2.2.2.1 x.1) b.2.1; omega
    ·rw [p3, ho, jn]
     rw [ho, jn] at p4
     have hok := P7 hLk hsome
     exact FR hg32 (by omega) (by omega) (by omega) (by omega) (by omega) (by rw [p4]; rfl)
theorem Oaj {kc keys : Nat} (hkc : kc ≤ 24) (hkk : kc ≤ keys) {m : Nat} : ∀ (n : Nat) (c : Da) (D : Nat), IM kc c D m → (∀ x ∈ c.1, x.2.1 < (keys : Int)) → ∃ (D' : Nat) (t' : Int), IM kc (Za n c []).1 D' m ∧ (Za n c []).1.1 = c.1 ∧ (Za n c []).1.2.1 = c.2.1 ∧ (Za n c []).1.2.2.2.1 = c.2.2.2.1 ∧ c.2.2.2.2.1 ≤ (Za n c []).1.2.2.2.2.1 ∧
 Fi keys c.2.2.2.2.1 (Ci c D) (Za n c []).2 t' (Ci (Za n c []).1 D') ∧ t' ≤ (Za n c []).1.2.2.2.2.1
 | 0, c, D, h, hLk => by
  have hg32 := (ZY h.s).2
  have hg63 : Ci c D < 2 ^ 63 := by
   have p32 : (2 : Nat) ^ 32 = 4294967296 := by decide
   have := Dt
   omega
  exact ⟨D, c.2.2.2.2.1, h, rfl, rfl, rfl, Int.le_refl _, Js _ _ hg63, Int.le_refl _⟩
 | n + 1, c, D, h, hLk => by
  have hg32 := (ZY h.s).2
  have hg63 : Ci c D < 2 ^ 63 := by
   have p32 : (2 : Nat) ^ 32 = 4294967296 := by decide
   have := Dt
   omega
  cases hq : c.2.2.1 with
  | nil =>
   have e : Za (n + 1) c [] = (c, []) := by simp only [Za, hq]
   rw [e]
   exact ⟨D, c.2.2.2.2.1, h, rfl, rfl, rfl, Int.le_refl _, Js _ _ hg63, Int.le_refl _⟩
  | cons x r =>
   cases hst : We c x r with
   | none =>
    have e : Za (n + 1) c [] = (c, []) := by simp only [Za, hq, hst]
    rw [e]
    exact ⟨D, c.2.2.2.2.1, h, rfl, rfl, rfl, Int.le_refl _, Js _ _ hg63, Int.le_refl _⟩
   | some p =>
    obtain ⟨c1, l⟩ := p
    obtain ⟨D1, t1, i1, i2, i3, i4, i5, i6, i7⟩ := Naj hkc hkk h hLk hq hst
    obtain ⟨D2, t2, j1, j2, j3, j4, j5, j6, j7⟩ := Oaj hkc hkk n c1 D1 i1 (by rw [i2]; exact hLk)
    have e : Za (n + 1) c [] = ((Za n c1 []).1, l ++ (Za n c1 []).2) := by
     have : Za (n + 1) c [] = Za n c1 (jf [] l) := by simp only [Za, hq, hst]
     rw [this, Cy]
     simp
    rw [e]
    obtain ⟨t3, ht3, hE3⟩ := An j6 i7
    exact ⟨D2, t3, j1, j2.trans i2, j3.trans i3, j4.trans i4, Int.le_trans i5 j5, YG i6 hE3, Int.le_trans ht3 j7⟩
theorem Oab {q : List Ba} {d : Int} {kc : Nat} (hkc : kc ≤ 24) (h : Jc q d (kc : Int) = true) : Jc q d 24 = true := by
 unfold Jc BN at h ⊢
 rw [jd] at h ⊢
 refine ⟨?_, h.2⟩
 have h1 := (Al (p := fun x : Ba => !decide (x.2.1 ≥ (kc : Int)))).1 h.1
 refine (Al (p := fun x : Ba => !decide (x.2.1 ≥ (24 : Int)))).2 fun x hx => ?_
 have h2 := h1 x hx
 simp only [Bool.not_eq_true', decide_eq_false_iff_not] at h2 ⊢
 omega
theorem NY {kc : Nat} (hkc : kc ≤ 24) {c : Da} {D m : Nat} (h : IM kc c D m) : Kd c = true := by
 obtain ⟨t0, t, h0, ht, hE⟩ := h.q
 have hd := C1 h.s
 have hF := KT hE h0 h.len
 have hB := PK hE ht
 have hA : AD c = true := (ZX c.1 (Vb c) []).2 ⟨h.s.ok, fun x _ y hy => by simp at hy, h.s.nd⟩
 have hS : NS c = true := by
  unfold NS
  rw [h.s.d]
  exact (Oan _ _ _ h.s.d24 h.s.m).2 ((V7 _ _).2 ⟨h.s.dm, h.s.pm⟩)
 have a1 := h.tm
 have a2 := h.now
 have a3 := h.clk
 have a4 : 0 ≤ c.2.2.2.2.2.1 ∧ c.2.2.2.2.2.1 ≤ 16777215 := by
  rw [h.s.d]
  have := h.s.d24
  have := G4
  omega
 unfold Kd
 rw [h.s.cb, hA, hS, hd.1, hB, Aa a1, Aa a2, Aa a3, Aa a4]
 have : Jc c.2.2.1 ((Tm c D : Nat) : Int) 24 = true := Oab hkc hF
 rw [this]
 rfl
theorem SV {kc : Nat} (hkc : kc ≤ 24) {c : Da} {D m m2 : Nat} {l : List Ba} {t2 til : Int} (h : IM kc c D m) (hL : Fi kc c.2.2.2.1 m l t2 m2) (ht : t2 ≤ til) (h6 : til ≤ 1000000) (hlen : c.2.2.1.length + l.length ≤ 64) : Tz c l til = true ∧ IM kc (Ug c l til) D m2 := by
 obtain ⟨t0, t, h0, htn, hE⟩ := h.q
 have hn := RD hL
 have hnow := h.now
 have hclk := h.clk
 obtain ⟨t', ht', hL'⟩ := An hL htn
 have hC := YG hE hL'
 have hd := C1 h.s
 have hF := KT hC h0 (by rw [qi]; omega)
 refine ⟨?_, ⟨h.s.d, h.s.d24, h.s.m, h.s.ok, h.s.nd, h.s.dm, h.s.pm, h.s.cb⟩, h.tm, ?_, ?_, ?_, t0, t', h0, ?_, hC⟩
 ·unfold Tz
  rw [NY hkc h, Aa (show c.2.2.2.1 ≤ til ∧ til ≤ 1000000 by omega), Z7 hL, PK hL ht, hd.1]
  have : Jc (jf c.2.2.1 l) ((Tm c D : Nat) : Int) 24 = true := Oab hkc hF
  rw [this]
  rfl
 ·show 0 ≤ til ∧ til ≤ 1000000; omega
 ·show 0 ≤ c.2.2.2.2.1 ∧ c.2.2.2.2.1 ≤ til; omega
 ·show (jf c.2.2.1 l).length ≤ 64
  rw [List.append_eq, qi]
  exact hlen
 ·show t' ≤ til; omega
structure NN (keys : Nat) (d : Xa) (m : Nat) : Prop where
 i : GQ keys d
 ex : ∃ (t0 t : Int) (m0 : Nat), Rm d.1.2.2.2.1 m0 ∧ Fi keys t0 m0 d.2.2.1 t m ∧ 0 ≤ t0 ∧ t ≤ d.2.2.2.1
theorem Dak {keys m : Nat} {d d' : Xa} {x : Ba} {r : List Ba} {l : List La} (h : NN keys d m) (hq : d.2.2.1 = x :: r) (hs : Mg d x r = some (d', l)) : NN keys d' m := by
 obtain ⟨hI, hr, hn, _, _⟩ := Cak h.i hq hs
 have hF := KO h.i.pl hq
 obtain ⟨t0, t, m0, hm, hE, h0, ht⟩ := h.ex
 rw [hq] at hE
 obtain ⟨k, hk, hkk, hk31, hx0, hx1, hx2, hdn, hR⟩ := Dk hE
 have hp := ((QC d.1.2.2.2.1).1 h.i.pl.eng.hd).2
 refine ⟨hI, x.1, t, m0 ^^^ 2 ^ k, ?_, by rw [hr]; exact hR, hx1, by rw [hn]; exact ht⟩
 have press : ∀ b : Bool, x.2.2.1 = true → Rm (pE d.1 k b).2.2.2.1 (m0 ^^^ 2 ^ k) := by
  intro b hd
  have hn2 := hF.down hd
  refine DP hm (by omega) ?_ _
  cases hh : Co d.1.2.2.2.1 k with
  | false => rfl
  | true =>
   simp only [Co, List.any_eq_true, beq_iff_eq] at hh
   obtain ⟨y, hy, hyk⟩ := hh
   exact absurd (hyk.trans hk.symm) (hn2 y hy)
 unfold Mg at hs
 cases hd : x.2.2.1 with
 | false =>
  rw [hd] at hs
  simp only [qd, cond_true, jc, jh] at hs
  obtain ⟨rfl, rfl⟩ := hs
  obtain ⟨hi, hi1, hi2⟩ := hF.up hd
  exact TJ hp hm (by omega) hi (by rw [hi2, hk])
 | true =>
  rw [hd, hk] at hs
  simp only [jg, cond_false, jn] at hs
  cases htp : Jf (Rj d.1.1.2.1 (Ji d.1.1 (Ik d.1.2.2.1 d.1.2.2.2.1) k) k) with
  | false =>
   rw [htp] at hs
   simp only [cond_false, jc, jh] at hs
   obtain ⟨rfl, rfl⟩ := hs
   exact press false hd
  | true =>
   rw [htp] at hs
   simp only [cond_true] at hs
   revert hs
   generalize (cond ((d.2.2.2.2.2.1 == j9 .i64 ((k : Int) + 1)) && !decide (j9 .i64 (x.1 - d.2.2.2.2.2.2.1) ≥ d.2.1.2.1)) ((1 : Int), x.1) ((Ed d.2.1 (k : Int) x.1 r d.2.2.2.1).1, (Ed d.2.1 (k : Int) x.1 r d.2.2.2.1).2.1)) = ch
   intro hs
   cases h0' : ch.1 == 0 with
   | true => rw [h0'] at hs; simp at hs
   | false =>
    rw [h0'] at hs
    simp only [cond_false, jc, jh] at hs
    obtain ⟨rfl, rfl⟩ := hs
    exact press _ hd
theorem U7 {keys m : Nat} : ∀ (n : Nat) (d : Xa) (s : List Yc), NN keys d m → NN keys (Lb n d s).1 m
 | 0, d, s, h => h
 | n + 1, d, s, h => by
  cases hq : d.2.2.1 with
  | nil =>
   have e : Lb (n + 1) d s = (d, s) := by simp only [Lb, hq]
   rw [e]; exact h
  | cons x r =>
   cases hst : Mg d x r with
   | none =>
    have e : Lb (n + 1) d s = (d, s) := by simp only [Lb, hq, hst]
    rw [e]; exact h
   | some p =>
    obtain ⟨d', l⟩ := p
    have e : Lb (n + 1) d s = Lb n d' (Yh s d'.2.2.2.2.1 l) := by simp only [Lb, hq, hst]
    rw [e]
    exact U7 n d' _ (Dak h hq hst)
theorem I3 {keys m m2 : Nat} {d : Xa} (h : NN keys d m) {l : List Ba} {t til : Int} (hL : Fi keys d.2.2.2.1 m l t m2) (hlen : d.2.2.1.length + l.length ≤ 64) (ht : t ≤ til) (h6 : til ≤ 1000000) :
 Cw d l til = true ∧ NN keys (Qd d l til) m2 := by
 obtain ⟨t0, tq, m0, hm, hE, h0, htq⟩ := h.ex
 obtain ⟨h1, h2⟩ := Bak h.i hm h0 hE htq hL hlen ht h6
 obtain ⟨t', ht', hL'⟩ := An hL htq
 have hn := RD hL
 exact ⟨h1, h2, t0, t', m0, hm, YG hE hL', h0, by show t' ≤ til; omega⟩
theorem MaB {keys : Nat} {t t' : Int} {g o : Nat} {b : Bool} (hg : g < 2 ^ 63) (hk : o < keys) (ho : o ≤ 31) (h0 : t ≤ t') (h1 : 0 ≤ t') (h2 : t' ≤ 1000000) (hb : (b == g.testBit o) = false) : Fi keys t g [(t', (o : Int), b, ())] t' (g ^^^ 2 ^ o) := by
 have hp := Gf (show o ≤ 62 by omega)
 refine ⟨?_, hg, qu hg hp⟩
 simp only [Sa]
 unfold Bm Gj Uf
 simp only
 rw [Kj hg (by omega), hb, Aa (show 0 ≤ t' ∧ t' ≤ 1000000 by omega), Aa (show (0 : Int) ≤ (o : Int) ∧ (o : Int) ≤ 31 by omega), Ca (show ¬ t > t' by omega), Ca (show ¬ (o : Int) ≥ (keys : Int) by omega), Qf (by omega), Mo hg hp]
 rfl
theorem Zag {kc a b : Nat} (hkc : kc ≤ 24) (ha : a < 2 ^ kc) (hb : b < 2 ^ kc) {t0 t : Int} (h0 : t0 ≤ t) (h1 : 0 ≤ t) (h2 : t ≤ 1000000) : ∃ t', t' ≤ t ∧ Fi kc t0 a (XG (a : Int) (b : Int) t) t' b := by
 have hpk : 2 ^ kc ≤ 2 ^ 24 := qp (by omega) hkc
 have h63a : a < 2 ^ 63 := by have := G4; have := Dt; omega
 have h63b : b < 2 ^ 63 := by have := G4; have := Dt; omega
 have key : ∀ n, n ≤ 32 → ∃ (t' : Int) (m : Nat), t' ≤ t ∧ Fi kc t0 a (Zd (GB (a : Int) (b : Int) t) n []) t' m ∧ ∀ j, m.testBit j = cond (decide (j < n)) (b.testBit j) (a.testBit j) := by
  intro n
  induction n with
  | zero => intro _; exact ⟨t0, a, h0, Js _ _ h63a, fun j => by simp⟩
  | succ n ih =>
   intro hn
   obtain ⟨t', m, ht', hE, hm⟩ := ih (by omega)
   simp only [Zd]
   unfold GB at hE ⊢
   rw [I7 h63a h63b (by omega), Kj h63b (by omega), qq]
   cases hd : a.testBit n ^^ b.testBit n with
   | false =>
    refine ⟨t', m, ht', hE, fun j => ?_⟩
    rw [hm]
    by_cases hj : j < n
    ·rw [Aa hj, Aa (show j < n + 1 by omega)]
    ·rw [Ca hj]
     by_cases hj2 : j < n + 1
     ·rw [Aa hj2]
      have : j = n := by omega
      subst this
      simp only [cond_false, cond_true]
      cases h3 : a.testBit j <;> cases h4 : b.testBit j <;> rw [h3, h4] at hd <;> first | rfl | simp at hd
     ·rw [Ca hj2]
   | true =>
    have hn24 : n < kc := by
     apply Classical.byContradiction
     intro hc
     have e1 : a.testBit n = false := Nat.testBit_lt_two_pow (qo ha (qp (by omega) (by omega)))
     have e2 : b.testBit n = false := Nat.testBit_lt_two_pow (qo hb (qp (by omega) (by omega)))
     rw [e1, e2] at hd
     simp at hd
    have hmn : m.testBit n = a.testBit n := by rw [hm, Ca (by omega)]; rfl
    have hs := MaB (keys := kc) (t := t') (t' := t) (g := m) (o := n) (b := b.testBit n) hE.m hn24 (by omega) ht' h1 h2 (by
     rw [hmn]
     cases h3 : a.testBit n <;> cases h4 : b.testBit n <;> rw [h3, h4] at hd <;> first | rfl | simp at hd)
    refine ⟨t, m ^^^ 2 ^ n, Int.le_refl _, ?_, fun j => ?_⟩
    ·simp only [cond_true]
     exact YG hE hs
    ·rw [qq, qr, hm]
     by_cases hj : j = n
     ·subst hj
      rw [Aa rfl, Ca (show ¬ j < j by omega), Aa (show j < j + 1 by omega)]
      simp only [cond_false, cond_true]
      cases h3 : a.testBit j <;> cases h4 : b.testBit j <;> rw [h3, h4] at hd <;> first | rfl | simp at hd
     ·rw [show decide (n = j) = false from decide_eq_false (fun e => hj e.symm)]
      by_cases hj2 : j < n
      ·rw [Aa hj2, Aa (show j < n + 1 by omega)]; simp
      ·rw [Ca hj2, Ca (show ¬ j < n + 1 by omega)]; simp
 obtain ⟨t', m, ht', hE, hm⟩ := key 32 (jo _)
 have : m = b := by
  apply Nat.eq_of_testBit_eq; intro j
  rw [hm]
  by_cases hj : j < 32
  ·rw [Aa hj]; rfl
  ·rw [Ca hj]
   have e1 : a.testBit j = false := Nat.testBit_lt_two_pow (qo ha (qp (by omega) (by omega)))
   have e2 : b.testBit j = false := Nat.testBit_lt_two_pow (qo hb (qp (by omega) (by omega)))
   rw [e1, e2]; rfl
 subst this
 exact ⟨t', ht', hE⟩
noncomputable def ME (s : Mb × List Yc) (x : Int) : (Mb × List Yc) ⊕ Unit :=
 cond (Th s.1 x).2.2.1 (.inl ((Th s.1 x).1, jf s.2 (Th s.1 x).2.1)) (.inr ())
noncomputable def Fai (b : Mb) (l : List Int) : Mb × ((List Yc) × (Bool × Unit)) :=
 cond (Hl b && !decide (((ja l : Nat) : Int) > 200)) (match Sa (fun _ s x => ME s x) 0 (b, []) l with | .inl s => (s.1, s.2, true, ()) | .inr _ => (EK, [], false, ())) (EK, [], false, ())
structure S0 (k : Nat) (s : Mb × List Yc) : Prop where
 sz : Xv s.1
 len : s.2.length ≤ 1088 * k
 rep : ∀ y ∈ s.2, y.2.1.2.1.length ≤ 56
theorem Bae {k : Nat} {s s' : Mb × List Yc} {x : Int} (h : S0 k s) (hs : ME s x = .inl s') : S0 (k + 1) s' ∧ Lc Ze s'.1 ≤ 3000 := by
 have ht := Lae s.1 x h.sz
 unfold ME at hs
 cases h1 : (Th s.1 x).2.2.1 with
 | false => rw [h1] at hs; simp at hs
 | true =>
  rw [h1] at hs
  simp only [cond_true, Sum.inl.injEq] at hs
  subst hs
  refine ⟨⟨ht.1, ?_, fun y hy => ?_⟩, ht.2.1⟩
  ·have := h.len
   have e : (jf s.2 (Th s.1 x).2.1).length = s.2.length + (Th s.1 x).2.1.length := by simp
   show (jf s.2 (Th s.1 x).2.1).length ≤ _
   omega
  ·rcases jl.1 (show y ∈ s.2 ++ (Th s.1 x).2.1 from hy) with hy | hy
   ·exact h.rep y hy
   ·exact ht.2.2.2 y hy
theorem CW : ∀ (l : List Int) (k : Nat) (s s' : Mb × List Yc), S0 k s → Lc Ze s.1 ≤ Ga → Sa (fun _ s x => ME s x) k s l = .inl s' → S0 (k + l.length) s' ∧ Lc Ze s'.1 ≤ Ga
 | [], k, s, s', h, hz, hs => by
  simp only [Sa, Sum.inl.injEq] at hs
  subst hs; exact ⟨h, hz⟩
 | x :: l, k, s, s', h, hz, hs => by
  have h20 : Ga = 1048576 := rfl
  simp only [Sa] at hs
  revert hs
  cases hg : ME s x with
  | inr u => intro hs; simp at hs
  | inl s1 =>
   intro hs
   have h1 := Bae h hg
   have := CW l (k + 1) s1 s' h1.1 (by omega) hs
   rw [jw, show k + (l.length + 1) = k + 1 + l.length by omega]
   exact this
theorem Day {k : Nat} {s : Mb × List Yc} (h : S0 k s) (hk : k < 200) (x : Int) : jx (ja s.2 + ja (Th s.1 x).2.1) Bb = true := by
 have h1 := h.len
 have h2 := (Lae s.1 x h.sz).2.2.1
 exact ji (by rw [Kg]; omega)
theorem SU (b : Mb) (l : List Int) (hb : Xv b) : Lk b l = some (Fai b l) := by
 unfold Lk Fai
 rw [VK b hb, DU b hb]
 cases h1 : Hl b with
 | false => rfl
 | true =>
  by_cases h2 : ((ja l : Nat) : Int) > 200
  ·rw [Aa h2]; rfl
  ·rw [Ca h2]
   simp only [jb, jg, qd, cond_false, cond_true, jk]
   have hl := Ag (step := fun x => Jr x.1.1 x.1.2.1 x.1.2.2.1 x.1.2.2.2.1 x.1.2.2.2.2.1 x.1.2.2.2.2.2.1 x.2.1 x.2.2.1) l (fun _ s x => ME s x)
    (fun s i => (((), (), s.2, l, ((ja l : Nat) : Int), i, ()), (EK, s.1, ()))) (fun s => .inl (((), (), s.2, ()), (EK, s.1, ()))) (fun _ => .inr (((), ([] : List Yc), false, ()), (EK, ())))
    (fun k s => S0 k s) (by
     intro k hk s hs
     refine ⟨?_, fun s' hs' => (Bae hs hs').1⟩
     simp only [Jr]
     rw [Aa (show (k : Int) < ((ja l : Nat) : Int) by omega), Wb hk]
     simp only [cond_true, jb]
     show jz (Ps s.1 l[k]) _ = _
     rw [O8 _ _ hs.sz]
     simp only [jb]
     rw [Day hs (by omega)]
     unfold ME
     cases (Th s.1 l[k]).2.2.1 <;> rfl) (by
     intro s hs
     simp only [Jr]
     rw [Ca (by omega)]; rfl) (by omega) (b, []) ⟨hb, by simp, by simp⟩
   unfold Zt
   erw [hl]
   cases Sa (fun _ s x => ME s x) 0 (b, []) l <;> rfl
structure Zan (b : Mb) (kc keys : Nat) (g : Nat) : Prop where
 mat : Bf b.1 = true
 kc1 : Mc b.1 = (kc : Int)
 kc2 : kc ≤ 24
 kk : kc ≤ keys
 k32 : keys ≤ 32
 db : Bd b.2.1 = true
 dk : b.2.1.2.2.1 = (kc : Int)
 acc : Pb b.1 b.2.2.2.2.1 = true
 cmb : ∀ x ∈ b.2.2.1.1, Pb b.1 x.1 = true ∧ x.2.1 < (keys : Int)
 cb : ∃ D m, IM kc b.2.2.1 D m ∧ b.2.1.2.2.2.1 = (m : Int) ∧ Ci b.2.2.1 D = g
 dc : NN keys b.2.2.2.1 g
 t : 0 ≤ b.2.2.2.2.2.1 ∧ b.2.2.2.2.2.1 ≤ 1000000
 cn : b.2.2.1.2.2.2.1 ≤ b.2.2.2.2.2.1
 dn : b.2.2.2.1.2.2.2.1 ≤ b.2.2.2.2.2.1
theorem Qau {keys : Nat} {l : List Ba} {t0 t : Int} {m0 m : Nat} (h : Fi keys t0 m0 l t m) : PS (m0 : Int) l = (m : Int) := by
 have := Lab 0 h
 unfold PS S4
 exact this
theorem NK {b : Mb} {kc keys g : Nat} (h : Zan b kc keys g) : Hl b = true := by
 obtain ⟨D, m, hC, hm, hg⟩ := h.cb
 obtain ⟨t0, t, h0, ht, hE⟩ := hC.q
 obtain ⟨s0, s, m0, hmk, hE2, hs0, hs⟩ := h.dc.ex
 obtain ⟨m1, hm1, hm1'⟩ := RT h.dc.i.pl.eng.hd
 obtain rfl := WR hmk hm1'
 have e1 : PS (Wk b.2.2.1) b.2.2.1.2.2.1 = (m : Int) := by rw [(C1 hC.s).1]; exact Qau hE
 have e2 : PS (Yo b.2.2.2.1.1.2.2.2.1) b.2.2.2.1.2.2.1 = R3 b.2.2.1 := by rw [hm1, (ZY hC.s).1, hg]; exact Qau hE2
 have hk := h.dc.i.ks
 have hkk := h.kk
 have hcn := h.cn
 have hdn := h.dn
 have hin : RJ b.1 b.2.2.2.1.1.1.1 b.2.2.1.1 = true := by
  unfold RJ
  refine (Al (p := fun x : Ja => Pb b.1 x.1 && !decide (x.2.1 ≥ b.2.2.2.1.1.1.1))).2 fun x hx => ?_
  obtain ⟨h1, h2⟩ := h.cmb x hx
  rw [h1, Ca (by omega)]
  rfl
 unfold Hl
 rw [h.mat, h.db, NY h.kc2 hC, Aak h.dc.i, h.acc, hin, e1, e2, hm, h.dk, h.kc1, Aa h.t, Ca (show ¬ b.2.2.2.1.1.1.1 < (kc : Int) by omega), Ca (show ¬ b.2.2.1.2.2.2.1 > b.2.2.2.2.2.1 by omega), Ca (show ¬ b.2.2.2.1.2.2.2.1 > b.2.2.2.2.2.1 by omega)]
 simp
theorem Pag {c c' : Da} {x : Ba} {r l : List Ba} (hs : We c x r = some (c', l)) : l.length ≤ 1 := by
 unfold We at hs
 revert hs
 cases x.2.2.1 with
 | false =>
  intro hs
  simp only [cond_false, jc] at hs
  have : l = (Lt (c.1, c.2.1, r, c.2.2.2.1, max c.2.2.2.2.1 x.1, c.2.2.2.2.2) x.2.1 (max c.2.2.2.2.1 x.1)).2 := by rw [hs]
  rw [this]
  unfold Lt
  split
  ·simp
  ·unfold QG
   cases (((Vb (c.1, c.2.1, r, c.2.2.2.1, max c.2.2.2.2.1 x.1, c.2.2.2.2.2)).getD (NF (c.1, c.2.1, r, c.2.2.2.1, max c.2.2.2.2.1 x.1, c.2.2.2.2.2) x.2.1).toNat TS).2.2.1) <;> simp
 | true =>
  simp only [cond_true]
  cases (Xd c.1 c.2.1 c.2.2.1 c.2.2.2.1).1 == 0 with
  | true => intro hs; simp at hs
  | false =>
   simp only [cond_false]
   cases decide ((Xd c.1 c.2.1 c.2.2.1 c.2.2.2.1).2.2 < 0) with
   | true =>
    intro hs
    simp only [cond_true, jc, jh] at hs
    rw [← hs.2]; simp
   | false =>
    intro hs
    simp only [cond_false, jc, jh] at hs
    rw [← hs.2]; simp
theorem TQ : ∀ (n : Nat) (c : Da), (Za n c []).2.length + (Za n c []).1.2.2.1.length ≤ c.2.2.1.length
 | 0, c => by simp [Za]
 | n + 1, c => by
  cases hq : c.2.2.1 with
  | nil => simp only [Za, hq]; simp
  | cons x r =>
   cases hst : We c x r with
   | none => simp only [Za, hq, hst]; simp
   | some p =>
    obtain ⟨c', l⟩ := p
    have h1 := Pag hst
    have h2 := (UQ hq hst).2
    have ih := TQ n c'
    simp only [Za, hq, hst]
    rw [Cy n c' (jf [] l)]
    simp only [List.append_eq, List.nil_append, qi, jw]
    omega
theorem T7 {d : Ib} (raw : Int) : ∀ (l : List Int) (k : Nat) (s : Int × List Int), (∀ x ∈ l, 0 ≤ x ∧ x ≤ 99) → (∀ x ∈ s.2, 0 ≤ x ∧ x ≤ 99) → ∀ x ∈ (Dd (fun k s x => NC d raw k s x) k s l).2, 0 ≤ x ∧ x ≤ 99
 | [], _, s, _, hs => hs
 | y :: l, k, s, hl, hs => by
  have hy := hl y (by simp)
  simp only [Dd]
  refine T7 raw l (k + 1) _ (fun x hx => hl x (by simp [hx])) fun x hx => ?_
  rcases jl.1 (show x ∈ s.2 ++ [cond (Gp d raw k y && (d.1 == 2)) 0 (XE d raw k y)] from hx) with hx | hx
  ·exact hs x hx
  ·simp only [qh] at hx
   subst hx
   have hA : 0 ≤ XE d raw k y ∧ XE d raw k y ≤ 99 := by
    unfold XE
    rw [Xc (n := y + 1) (by omega) (by omega)]
    cases (d.1 == 0) && (Rd raw (k : Int) != Rd d.2.2.2.2.1 (k : Int)) with
    | true => show 0 ≤ (1 : Int) ∧ (1 : Int) ≤ 99; omega
    | false =>
     cases (d.1 == 1) && (raw != d.2.2.2.2.1) with
     | true => show 0 ≤ (1 : Int) ∧ (1 : Int) ≤ 99; omega
     | false => show 0 ≤ min (y + 1) 99 ∧ min (y + 1) 99 ≤ 99; omega
   cases Gp d raw k y && (d.1 == 2) with
   | true => show 0 ≤ (0 : Int) ∧ (0 : Int) ≤ 99; omega
   | false => exact hA
theorem CR {d : Ib} {raw : Int} (h : Sm d raw = true) : Bd (Nq d raw).1 = true := by
 have h' := h
 unfold Sm at h'
 rw [jd] at h'
 obtain ⟨hd, hr⟩ := h'
 have hP := Xt hd
 have hI := A1 hP raw
 unfold Nq
 rw [h]
 simp only [Bd, jd, decide_eq_true_eq, beq_iff_eq] at hd
 obtain ⟨d1, d2, d3, d4, d5, d6, d7⟩ := hd
 have hag : GI (OC d raw).2 = true := by
  unfold GI at d7 ⊢
  have h1 := (Al (p := fun x : Int => decide ((0 : Int) ≤ x ∧ x ≤ 99))).1 d7
  refine (Al (p := fun x : Int => decide ((0 : Int) ≤ x ∧ x ≤ 99))).2 fun x hx => ?_
  have := T7 (d := d) raw d.2.2.2.2.2.1 0 (d.2.2.2.1, []) (fun y hy => by simpa using h1 y hy) (fun y hy => by simp at hy) x hx
  simpa using this
 have hl := hI.len
 simp only [cond_true]
 unfold Bd
 simp only
 rw [Aa d1, Aa d2, Aa d3, hI.sh, hr, hag, hl]
 simp [d4]
theorem EF (L : List Ja) (set : Int) (n : Nat) (a : Int) : (Vy L set (n + 1) a).1 ≠ 0 ∧ (Vy L set (n + 1) a).2.1 = a := by
 unfold Vy
 cases decide ((Hf L set).1 ≥ 0) with
 | true => exact ⟨by show ((n + 1 : Nat) : Int) ≠ 0; omega, rfl⟩
 | false => exact ⟨by show (1 : Int) ≠ 0; omega, rfl⟩
theorem C9 {L : List Ja} {e t1 : Int} (he : t1 ≤ e) : ∀ (l : List Ba) (k : Nat) (s : Int), (∀ x ∈ l, t1 ≤ x.1) → ∀ b, Sa (fun k s x => Zs L e k s x) k s l = .inr b →
 (match b with
  | .inl b => t1 ≤ (Vy L b.1 b.2.1 b.2.2).2.1
  | .inr b => b.1 ≠ 0 → t1 ≤ b.2.1)
 | [], k, s, _, b, h => by simp [Sa] at h
 | x :: l, k, s, hl, b, h => by
  have hx := hl x (by simp)
  simp only [Sa] at h
  cases hg : Zs L e k s x with
  | inl s' => rw [hg] at h; exact C9 he l (k + 1) s' (fun y hy => hl y (by simp [hy])) b h
  | inr b' =>
   rw [hg] at h
   simp only [Sum.inr.injEq] at h
   subst h
   unfold Zs at hg
   revert hg
   have m1 := EF L s k e
   have m2 := EF L s k x.1
   cases Sj x <;> cases decide (x.1 ≥ e) <;> cases x.2.2.1 <;> cases Dj L (Tc .i64 s (Ra .i64 1 x.2.1)) <;> cases (decide ((Hf L (Tc .i64 s (Ra .i64 1 x.2.1))).1 ≥ 0) && !(Hf L (Tc .i64 s (Ra .i64 1 x.2.1))).2) <;>
    simp only [cond_true, cond_false, Sum.inr.injEq, reduceCtorEq, false_implies] <;> (intro hg; subst hg; simp only) <;> first | (rw [m1.2]; exact he) | (rw [m2.2]; exact hx) | (intro _; exact hx) | (intro h0; exact absurd rfl h0)
theorem DM {α S R : Type} (g : Nat → S → α → S ⊕ R) : ∀ (l : List α) (k : Nat) (s : S) (r : R), Sa g k s l = .inr r → ∃ j s' x, x ∈ l ∧ g j s' x = .inr r
 | [], k, s, r, h => by simp [Sa] at h
 | x :: l, k, s, r, h => by
  simp only [Sa] at h
  cases hx : g k s x with
  | inr r' =>
   rw [hx] at h
   simp only [Sum.inr.injEq] at h
   subst h
   exact ⟨k, s, x, by simp, hx⟩
  | inl s1 =>
   rw [hx] at h
   obtain ⟨j, s2, y, h1, h2⟩ := DM g l (k + 1) s1 r h
   exact ⟨j, s2, y, by simp [h1], h2⟩
theorem Mam {L : List Ja} {e set t1 t2 : Int} {r l : List Ba} (hl : ∀ x ∈ l, t1 ≤ x.1) (h0 : (YD L e t1 set r).1 = 0) (hsw : ∀ x ∈ r, Sj x = true) (h2 : (YD L e t2 set (r ++ l)).1 ≠ 0) : t1 ≤ (YD L e t2 set (r ++ l)).2.1 := by
 revert h0 h2
 unfold YD
 rw [IB (fun k s x => Zs L e k s x)]
 cases hc : Sa (fun k s x => Zs L e k s x) 0 set r with
 | inr b =>
  intro h0
  exfalso
  obtain ⟨j, s', x, hxm, hg⟩ := DM _ r 0 set b hc
  cases b with
  | inl b =>
   have : ∃ n, b.2.1 = n + 1 := by
    unfold Zs at hg
    revert hg
    cases Sj x <;> cases decide (x.1 ≥ e) <;> cases x.2.2.1 <;> cases Dj L (Tc .i64 s' (Ra .i64 1 x.2.1)) <;> cases (decide ((Hf L (Tc .i64 s' (Ra .i64 1 x.2.1))).1 ≥ 0) && !(Hf L (Tc .i64 s' (Ra .i64 1 x.2.1))).2) <;>
     simp only [cond_true, cond_false, Sum.inr.injEq, Sum.inl.injEq, reduceCtorEq, false_implies] <;> (intro hg; subst hg; exact ⟨j, rfl⟩)
   obtain ⟨n, hn⟩ := this
   simp only at h0
   rw [hn] at h0
   exact (EF L b.1 n b.2.2).1 h0
  | inr b =>
   have hs := hsw x hxm
   unfold Zs at hg
   rw [hs] at hg
   have h0' : b.1 = 0 := h0
   revert hg
   cases decide (x.1 ≥ e) <;> cases x.2.2.1 <;> cases Dj L (Tc .i64 s' (Ra .i64 1 x.2.1)) <;> cases (decide ((Hf L (Tc .i64 s' (Ra .i64 1 x.2.1))).1 ≥ 0) && !(Hf L (Tc .i64 s' (Ra .i64 1 x.2.1))).2) <;>
    simp only [cond_true, cond_false, Sum.inr.injEq, reduceCtorEq, false_implies] <;> (intro hg; subst hg; have : ((j + 2 : Nat) : Int) = 0 := h0'; omega)
 | inl s =>
  intro h0
  have h0' : (cond (decide (t1 < e)) ((0 : Int), (0 : Int), (-1 : Int)) (Vy L s (r.length + 1) e)).1 = 0 := h0
  by_cases h1 : t1 < e
  ·simp only
   cases hc2 : Sa (fun k s x => Zs L e k s x) (0 + r.length) s l with
   | inl s2 =>
    simp only
    intro h2
    by_cases h3 : t2 < e
    ·rw [Aa h3] at h2; exact absurd rfl h2
    ·rw [Ca h3]
     simp only [cond_false]
     rw [(EF L s2 ((r ++ l).length) e).2]
     omega
   | inr b =>
    have := C9 (show t1 ≤ e by omega) l _ s hl b hc2
    cases b with
    | inl b => intro _; exact this
    | inr b => intro h2; exact this h2
  ·rw [Ca h1] at h0'
   exact absurd h0' (EF L s r.length e).1
def HK (c : Da) : Prop := ∀ x r, c.2.2.1 = x :: r → We c x r = none
theorem KU : ∀ (n : Nat) (c : Da), c.2.2.1.length ≤ n → HK (Za n c []).1
 | 0, c, hn => by
  intro x r hq
  have h : c.2.2.1 = x :: r := hq
  rw [h] at hn
  simp at hn
 | n + 1, c, hn => by
  cases hq : c.2.2.1 with
  | nil =>
   have e : Za (n + 1) c [] = (c, []) := by simp only [Za, hq]
   rw [e]
   intro x r h
   rw [hq] at h
   simp at h
  | cons x r =>
   cases hst : We c x r with
   | none =>
    have e : Za (n + 1) c [] = (c, []) := by simp only [Za, hq, hst]
    rw [e]
    intro x' r' h
    rw [hq] at h
    simp only [List.cons.injEq] at h
    obtain ⟨rfl, rfl⟩ := h
    exact hst
   | some p =>
    obtain ⟨c', l⟩ := p
    have h2 := (UQ hq hst).2
    rw [hq] at hn
    simp only [jw] at hn
    have ih := KU n c' (by omega)
    have e : (Za (n + 1) c []).1 = (Za n c' []).1 := by
     have : Za (n + 1) c [] = Za n c' (jf [] l) := by simp only [Za, hq, hst]
     rw [this, Cy]
    rw [e]
    exact ih
theorem Rah {L : List Ja} {term t1 t2 : Int} {x : Ba} {r l : List Ba} (hl : ∀ y ∈ l, t1 ≤ y.1) (hsw : ∀ y ∈ r, Sj y = true) (h0 : (Xd L term (x :: r) t1).1 = 0) (h2 : (Xd L term (x :: (r ++ l)) t2).1 ≠ 0) : t1 ≤ (Xd L term (x :: (r ++ l)) t2).2.1 := by
 revert h0 h2
 unfold Xd
 simp only
 cases Ke L && (decide (1 ≤ term ∧ term ≤ 200) && (Sj x && x.2.2.1)) with
 | false => intro _ h2; exact absurd rfl h2
 | true =>
  simp only [cond_true]
  cases Dj L (Ra .i64 1 x.2.1) with
  | false => intro h0; exact absurd (show (1 : Int) = 0 from h0) (by omega)
  | true =>
   simp only [cond_true]
   intro h0 h2
   exact Mam hl h0 hsw h2
theorem Nap {c c' : Da} {x : Ba} {r l : List Ba} (hs : We c x r = some (c', l)) : c.2.2.2.2.1 ≤ c'.2.2.2.2.1 ∧ x.1 ≤ c'.2.2.2.2.1 ∧ (x.2.2.1 = true → (Xd c.1 c.2.1 c.2.2.1 c.2.2.2.1).2.1 ≤ c'.2.2.2.2.1 ∧ (Xd c.1 c.2.1 c.2.2.1 c.2.2.2.1).1 ≠ 0) := by
 unfold We at hs
 revert hs
 cases hd : x.2.2.1 with
 | false =>
  intro hs
  simp only [cond_false, jc] at hs
  obtain ⟨_, _, _, _, f5⟩ := QL (c.1, c.2.1, r, c.2.2.2.1, max c.2.2.2.2.1 x.1, c.2.2.2.2.2) x.2.1 (max c.2.2.2.2.1 x.1)
  rw [hs] at f5
  have f5' : c'.2.2.2.2.1 = max c.2.2.2.2.1 x.1 := f5
  rw [f5']
  exact ⟨Int.le_max_left _ _, Int.le_max_right _ _, fun h => by simp at h⟩
 | true =>
  simp only [cond_true]
  generalize Xd c.1 c.2.1 c.2.2.1 c.2.2.2.1 = b
  cases h0 : b.1 == 0 with
  | true => intro hs; simp at hs
  | false =>
   have hb : b.1 ≠ 0 := by simpa using h0
   simp only [cond_false]
   cases decide (b.2.2 < 0) with
   | true =>
    intro hs
    simp only [cond_true, jc, jh] at hs
    rw [← hs.1]
    refine ⟨?_, ?_, fun _ => ⟨?_, hb⟩⟩
    ·show c.2.2.2.2.1 ≤ max (max c.2.2.2.2.1 x.1) b.2.1; omega
    ·show x.1 ≤ max (max c.2.2.2.2.1 x.1) b.2.1; omega
    ·show b.2.1 ≤ max (max c.2.2.2.2.1 x.1) b.2.1; omega
   | false =>
    intro hs
    simp only [cond_false, jc, jh] at hs
    rw [← hs.1]
    refine ⟨?_, ?_, fun _ => ⟨?_, hb⟩⟩
    ·show c.2.2.2.2.1 ≤ max (max c.2.2.2.2.1 x.1) b.2.1; omega
    ·show x.1 ≤ max (max c.2.2.2.2.1 x.1) b.2.1; omega
    ·show b.2.1 ≤ max (max c.2.2.2.2.1 x.1) b.2.1; omega
theorem N4 {c : Da} {x : Ba} {r : List Ba} (h : We c x r = none) : x.2.2.1 = true ∧ (Xd c.1 c.2.1 c.2.2.1 c.2.2.2.1).1 = 0 := by
 unfold We at h
 revert h
 cases hd : x.2.2.1 with
 | false => intro h; simp at h
 | true =>
  simp only [cond_true]
  cases h0 : (Xd c.1 c.2.1 c.2.2.1 c.2.2.2.1).1 == 0 with
  | true => intro _; exact ⟨trivial, by simpa using h0⟩
  | false =>
   simp only [cond_false]
   cases decide ((Xd c.1 c.2.1 c.2.2.1 c.2.2.2.1).2.2 < 0) <;> (intro h; simp at h)
theorem Eah {c c' : Da} {l s out : List Ba} {y : Ba} {t2 : Int} (hS : HK c) (hsw : ∀ z ∈ c.2.2.1, Sj z = true) (hl : ∀ z ∈ l, c.2.2.2.1 ≤ z.1) (hq : (Ug c l t2).2.2.1 = y :: s) (hs : We (Ug c l t2) y s = some (c', out)) : c.2.2.2.1 ≤ c'.2.2.2.2.1 := by
 obtain ⟨k1, k2, k3⟩ := Nap hs
 have hq' : c.2.2.1 ++ l = y :: s := hq
 cases hc : c.2.2.1 with
 | nil =>
  rw [hc] at hq'
  have := hl y (by rw [show l = y :: s from hq']; simp)
  omega
 | cons x r =>
  rw [hc] at hq'
  simp only [List.cons_append, List.cons.injEq] at hq'
  obtain ⟨rfl, rfl⟩ := hq'
  obtain ⟨h1, h0⟩ := N4 (hS x r hc)
  obtain ⟨a1, a2⟩ := k3 h1
  have e : (Ug c l t2).2.2.1 = x :: (r ++ l) := by
   show c.2.2.1 ++ l = _
   rw [hc]; rfl
  rw [e] at a1 a2
  rw [hc] at h0
  have := Rah (L := c.1) (term := c.2.1) (x := x) (r := r) (l := l) (t1 := c.2.2.2.1) (t2 := t2) hl (fun z hz => hsw z (by rw [hc]; simp [hz])) h0 a2
  exact Int.le_trans this a1
theorem Aav {c c' : Da} {x : Ba} {r l : List Ba} (hs : We c x r = some (c', l)) : ∀ z ∈ l, z.1 = c'.2.2.2.2.1 := by
 unfold We at hs
 revert hs
 cases hd : x.2.2.1 with
 | false =>
  intro hs
  simp only [cond_false, jc] at hs
  obtain ⟨_, _, _, _, f5⟩ := QL (c.1, c.2.1, r, c.2.2.2.1, max c.2.2.2.2.1 x.1, c.2.2.2.2.2) x.2.1 (max c.2.2.2.2.1 x.1)
  have hl : (Lt (c.1, c.2.1, r, c.2.2.2.1, max c.2.2.2.2.1 x.1, c.2.2.2.2.2) x.2.1 (max c.2.2.2.2.1 x.1)).2 = l := by rw [hs]
  rw [hs] at f5
  have f5' : c'.2.2.2.2.1 = max c.2.2.2.2.1 x.1 := f5
  rw [f5', ← hl]
  intro z hz
  unfold Lt at hz
  split at hz
  ·simp only [qh] at hz
   rw [hz]
  ·unfold QG at hz
   revert hz
   generalize (((Vb (c.1, c.2.1, r, c.2.2.2.1, max c.2.2.2.2.1 x.1, c.2.2.2.2.2)).getD (NF (c.1, c.2.1, r, c.2.2.2.1, max c.2.2.2.2.1 x.1, c.2.2.2.2.2) x.2.1).toNat TS)) = w
   cases w.2.2.1 with
   | false => intro hz; simp at hz
   | true => intro hz; simp only [cond_true, qh] at hz; rw [hz]
 | true =>
  simp only [cond_true]
  generalize Xd c.1 c.2.1 c.2.2.1 c.2.2.2.1 = b
  cases b.1 == 0 with
  | true => intro hs; simp at hs
  | false =>
   simp only [cond_false]
   cases decide (b.2.2 < 0) <;> (intro hs; simp only [cond_true, cond_false, jc, jh] at hs; rw [← hs.1, ← hs.2]; intro z hz; simp only [qh] at hz; rw [hz])
theorem Aah {keys : Nat} {t0 s t : Int} {g g' : Nat} {x : Ba} {l : List Ba} (h : Fi keys t0 g (x :: l) t g') (hs : s ≤ x.1) : Fi keys s g (x :: l) t g' := by
 obtain ⟨k, hk, hkk, hk31, hx0, hx1, hx2, hdn, hR⟩ := Dk h
 have hp := Gf (show k ≤ 62 by omega)
 refine ⟨?_, h.m0, h.m⟩
 have hf := h.f
 simp only [Sa] at hf ⊢
 have e : Bm (keys : Int) (t0, (g : Int)) x = Bm (keys : Int) (s, (g : Int)) x := by
  unfold Bm Gj
  simp only
  rw [Ca (show ¬ t0 > x.1 by omega), Ca (show ¬ s > x.1 by omega)]
 rw [← e]
 exact hf
theorem LT {kc : Nat} (hkc : kc ≤ 24) : ∀ {l : List Ba} {t0 t : Int} {m0 m : Nat}, Fi kc t0 m0 l t m → ∀ x ∈ l, Sj x = true ∧ t0 ≤ x.1
 | [], _, _, _, _, _, x, hx => by simp at hx
 | y :: l, t0, t, m0, m, h, x, hx => by
  obtain ⟨k, hk, hkk, hk31, hx0, hx1, hx2, hdn, hR⟩ := Dk h
  rcases jp.1 hx with rfl | hx
  ·refine ⟨?_, hx0⟩
   unfold Sj Uf
   rw [Aa (show 0 ≤ x.1 ∧ x.1 ≤ 1000000 by omega), Aa (show 0 ≤ x.2.1 ∧ x.2.1 ≤ 31 by omega), Aa (show x.2.1 < 24 by omega)]
   rfl
  ·have := LT hkc hR x hx
   exact ⟨this.1, by omega⟩
theorem SQ {n : Nat} {c : Da} (hq : c.2.2.1 = []) : Za n c [] = (c, []) := by
 cases n with
 | zero => rfl
 | succ n => simp only [Za, hq]
theorem LY {n : Nat} {c : Da} {y : Ba} {s : List Ba} (hq : c.2.2.1 = y :: s) (hst : We c y s = none) : Za n c [] = (c, []) := by
 cases n with
 | zero => rfl
 | succ n => simp only [Za, hq, hst]
theorem MY {n : Nat} {c c1 : Da} {y : Ba} {s l1 : List Ba} (hq : c.2.2.1 = y :: s) (hst : We c y s = some (c1, l1)) : Za (n + 1) c [] = ((Za n c1 []).1, l1 ++ (Za n c1 []).2) := by
 have : Za (n + 1) c [] = Za n c1 (jf [] l1) := by simp only [Za, hq, hst]
 rw [this, Cy]
 simp
theorem Zau {kc keys : Nat} (hkc : kc ≤ 24) (hkk : kc ≤ keys) {c : Da} {D m m2 : Nat} {l : List Ba} {t2 til : Int} (h : IM kc c D m) (hLk : ∀ x ∈ c.1, x.2.1 < (keys : Int)) (hS : HK c) (hL : Fi kc c.2.2.2.1 m l t2 m2) (ht : t2 ≤ til) (h6 : til ≤ 1000000) (hlen : c.2.2.1.length + l.length ≤ 64) :
 ∃ (D' : Nat) (t' : Int), IM kc (Za 64 (Ug c l til) []).1 D' m2 ∧ (Za 64 (Ug c l til) []).1.1 = c.1 ∧ (Za 64 (Ug c l til) []).1.2.1 = c.2.1 ∧ (Za 64 (Ug c l til) []).1.2.2.2.1 = til ∧
 Fi keys c.2.2.2.1 (Ci c D) (Za 64 (Ug c l til) []).2 t' (Ci (Za 64 (Ug c l til) []).1 D') ∧ t' ≤ til ∧ HK (Za 64 (Ug c l til) []).1 := by
 obtain ⟨hok, hI⟩ := SV hkc h hL ht h6 hlen
 obtain ⟨t0, t, h0, htn, hE⟩ := h.q
 have hn := RD hL
 have hSt : HK (Za 64 (Ug c l til) []).1 := KU 64 (Ug c l til) (by show (jf c.2.2.1 l).length ≤ 64; rw [List.append_eq, qi]; exact hlen)
 have hg : Ci (Ug c l til) D = Ci c D := rfl
 have hg32 := (ZY h.s).2
 have hg63 : Ci c D < 2 ^ 63 := by
  have p32 : (2 : Nat) ^ 32 = 4294967296 := by decide
  have := Dt
  omega
 cases hq : (Ug c l til).2.2.1 with
 | nil =>
  have e : Za 64 (Ug c l til) [] = (Ug c l til, []) := SQ hq
  rw [e] at hSt ⊢
  exact ⟨D, c.2.2.2.1, hI, rfl, rfl, rfl, Js _ _ hg63, by omega, hSt⟩
 | cons y s =>
  cases hst : We (Ug c l til) y s with
  | none =>
   have e : Za 64 (Ug c l til) [] = (Ug c l til, []) := LY hq hst
   rw [e] at hSt ⊢
   exact ⟨D, c.2.2.2.1, hI, rfl, rfl, rfl, Js _ _ hg63, by omega, hSt⟩
  | some p =>
   obtain ⟨c1, l1⟩ := p
   obtain ⟨D1, t1, i1, i2, i3, i4, i5, i6, i7⟩ := Naj hkc hkk hI (by exact hLk) hq hst
   have hL1 : ∀ x ∈ c1.1, x.2.1 < (keys : Int) := by rw [i2]; exact hLk
   obtain ⟨D2, t3, j1, j2, j3, j4, j5, j6, j7⟩ := Oaj hkc hkk 63 c1 D1 i1 hL1
   have hlate := Eah (c := c) (t2 := til) hS (fun z hz => (LT hkc hE z hz).1) (fun z hz => (LT hkc hL z hz).2) hq hst
   have htime := Aav hst
   have e : Za 64 (Ug c l til) [] = ((Za 63 c1 []).1, l1 ++ (Za 63 c1 []).2) := MY hq hst
   rw [e] at hSt ⊢
   have hclk : (Za 63 c1 []).1.2.2.2.2.1 ≤ til := by
    have := j1.clk.2
    rw [j4, i4] at this
    exact this
   have hn4 : (Za 63 c1 []).1.2.2.2.1 = til := by rw [j4, i4]; rfl
   have hf1 : (Za 63 c1 []).1.1 = c.1 := by rw [j2, i2]; rfl
   have hf2 : (Za 63 c1 []).1.2.1 = c.2.1 := by rw [j3, i3]; rfl
   rw [hg] at i6
   cases l1 with
   | nil =>
    obtain ⟨_, hgg⟩ := RM i6
    rw [hgg] at j6
    obtain ⟨t4, ht4, hE4⟩ := An j6 hlate
    exact ⟨D2, t4, j1, hf1, hf2, hn4, hE4, by omega, hSt⟩
   | cons z l1 =>
    have hz := htime z (by simp)
    have i6' := Aah i6 (show c.2.2.2.1 ≤ z.1 by omega)
    obtain ⟨t4, ht4, hE4⟩ := An j6 i7
    exact ⟨D2, t4, j1, hf1, hf2, hn4, YG i6' hE4, by omega, hSt⟩
structure Nay (b : Mb) (kc keys g N : Nat) : Prop where
 i : Zan b kc keys g
 nw : b.2.2.1.2.2.2.1 = b.2.2.2.1.2.2.2.1
 stk : HK b.2.2.1
 n : b.2.2.1.2.2.1.length + b.2.2.2.1.2.2.1.length ≤ N
def Tl (b : Mb) (x : Int) : List Ba := XG b.2.1.2.2.2.1 (Og b x).2.2.2.1 b.2.2.2.2.2.1
def Nh (b : Mb) (x : Int) : Da × List Ba := Za 64 (Ug b.2.2.1 (Tl b x) b.2.2.2.2.2.1) []
noncomputable def Er (b : Mb) (x : Int) : Xa × List Yc := Lb (Qd b.2.2.2.1 (Nh b x).2 b.2.2.2.2.2.1).2.2.1.length (Qd b.2.2.2.1 (Nh b x).2 b.2.2.2.2.2.1) []
theorem A2 : ∀ (n : Nat) (d : Xa) (s : List Yc), (Lb n d s).1.2.2.1.length ≤ d.2.2.1.length ∧ (Lb n d s).1.2.2.2.1 = d.2.2.2.1 ∧ (Lb n d s).1.2.1 = d.2.1
 | 0, d, s => ⟨jo _, rfl, rfl⟩
 | n + 1, d, s => by
  cases hq : d.2.2.1 with
  | nil =>
   have e : Lb (n + 1) d s = (d, s) := by simp only [Lb, hq]
   rw [e, hq]; exact ⟨jo _, rfl, rfl⟩
  | cons x r =>
   cases hst : Mg d x r with
   | none =>
    have e : Lb (n + 1) d s = (d, s) := by simp only [Lb, hq, hst]
    rw [e, hq]; exact ⟨jo _, rfl, rfl⟩
   | some p =>
    obtain ⟨d', l⟩ := p
    have e : Lb (n + 1) d s = Lb n d' (Yh s d'.2.2.2.2.1 l) := by simp only [Lb, hq, hst]
    have hs := Zl hst
    obtain ⟨h1, h2, h3⟩ := A2 n d' (Yh s d'.2.2.2.2.1 l)
    have e1 : d'.2.2.1 = r := by rw [hs]
    have e2 : d'.2.2.2.1 = d.2.2.2.1 := by rw [hs]
    have e3 : d'.2.1 = d.2.1 := by rw [hs]
    rw [e]
    rw [e1] at h1
    rw [e2] at h2
    rw [e3] at h3
    exact ⟨by simp only [jw]; omega, h2, h3⟩
theorem CaE {b : Mb} {kc keys g N : Nat} {x : Int} (h : Nay b kc keys g N) (hx : Pb b.1 x = true) (ht : b.2.2.2.2.2.1 < 1000000) (hN : N + (Tl b x).length ≤ 64) :
 Th b x = ((b.1, Og b x, (Nh b x).1, (Er b x).1, Xi b x, b.2.2.2.2.2.1 + 1, ()), (Er b x).2, true, ()) ∧
 ∃ (g' m m' : Nat) (t1 t2 : Int), Nay (Th b x).1 kc keys g' (N + (Tl b x).length) ∧ b.2.1.2.2.2.1 = (m : Int) ∧ (Og b x).2.2.2.1 = (m' : Int) ∧ m < 2 ^ kc ∧ m' < 2 ^ kc ∧
  Fi kc b.2.2.1.2.2.2.1 m (Tl b x) t1 m' ∧ t1 ≤ b.2.2.2.2.2.1 ∧ Fi keys b.2.2.2.1.2.2.2.1 g (Nh b x).2 t2 g' ∧ t2 ≤ b.2.2.2.2.2.1 ∧
  (Nh b x).2.length + (Nh b x).1.2.2.1.length ≤ b.2.2.1.2.2.1.length + (Tl b x).length := by
 have hi := h.i
 have hB := NK hi
 have hP := CK hB hx
 obtain ⟨ha1, ha2, ha3⟩ := LF hP
 obtain ⟨hd1, hd2⟩ := BR hP
 have hdv : Bd (Og b x) = true := CR ha3
 obtain ⟨D, m, hC, hm, hg⟩ := hi.cb
 have hdp := Xt hi.db
 have hdp' := Xt hdv
 obtain ⟨m', hm', hm2⟩ := MB hdp'.sh
 obtain ⟨mo, hmo, hmo2⟩ := MB hdp.sh
 have e1 : (Og b x).2.2.1 = (kc : Int) := by rw [hd2]; exact hi.dk
 rw [e1] at hm2
 rw [hi.dk] at hmo2
 have hkc := hi.kc2
 have hmm : m = mo := by rw [hm] at hmo; omega
 subst hmm
 have htt := hi.t
 have hn0 := h.n
 obtain ⟨t', ht', hE⟩ := Zag (a := m) (b := m') hkc (by simpa using hmo2) (by simpa using hm2) (t0 := b.2.2.1.2.2.2.1) (t := b.2.2.2.2.2.1) hi.cn htt.1 htt.2
 have hev : XG (m : Int) (m' : Int) b.2.2.2.2.2.1 = Tl b x := by unfold Tl; rw [hm, hm']
 rw [hev] at hE
 have hLk : ∀ y ∈ b.2.2.1.1, y.2.1 < (keys : Int) := fun y hy => (hi.cmb y hy).2
 have hlen1 : b.2.2.1.2.2.1.length + (Tl b x).length ≤ 64 := by omega
 obtain ⟨hok, hCQ⟩ := SV hkc hC hE ht' htt.2 hlen1
 obtain ⟨D', t2, hC', f1, f2, f3, hE2, ht2, hst⟩ := Zau hkc hi.kk hC hLk h.stk hE ht' htt.2 hlen1
 have hout := TQ 64 (Ug b.2.2.1 (Tl b x) b.2.2.2.2.2.1)
 have hql : (Ug b.2.2.1 (Tl b x) b.2.2.2.2.2.1).2.2.1.length = b.2.2.1.2.2.1.length + (Tl b x).length := by
  show (jf b.2.2.1.2.2.1 (Tl b x)).length = _
  rw [List.append_eq, qi]
 rw [hql] at hout
 have ecb : Za 64 (Ug b.2.2.1 (Tl b x) b.2.2.2.2.2.1) [] = Nh b x := rfl
 rw [ecb] at hC' f1 f2 f3 hE2 hst hout
 rw [h.nw, hg] at hE2
 have hlen2 : b.2.2.2.1.2.2.1.length + (Nh b x).2.length ≤ 64 := by omega
 obtain ⟨hpo, hDM⟩ := I3 hi.dc hE2 hlen2 ht2 htt.2
 have hDR := U7 (Qd b.2.2.2.1 (Nh b x).2 b.2.2.2.2.2.1).2.2.1.length _ [] hDM
 obtain ⟨q1, q2, q3⟩ := A2 (Qd b.2.2.2.1 (Nh b x).2 b.2.2.2.2.2.1).2.2.1.length (Qd b.2.2.2.1 (Nh b x).2 b.2.2.2.2.2.1) []
 have hql2 : (Qd b.2.2.2.1 (Nh b x).2 b.2.2.2.2.2.1).2.2.1.length = b.2.2.2.1.2.2.1.length + (Nh b x).2.length := by
  show (jf b.2.2.2.1.2.2.1 (Nh b x).2).length = _
  rw [List.append_eq, qi]
 have epl : Lb (Qd b.2.2.2.1 (Nh b x).2 b.2.2.2.2.2.1).2.2.1.length (Qd b.2.2.2.1 (Nh b x).2 b.2.2.2.2.2.1) [] = Er b x := rfl
 rw [epl] at hDR q1 q2 q3
 rw [hql2] at q1
 have hco : Iv b x = ((Nh b x).1, (Nh b x).2, true, ()) := by
  unfold Iv UF
  rw [show XG b.2.1.2.2.2.1 (Og b x).2.2.2.1 b.2.2.2.2.2.1 = Tl b x from rfl, hok]
  rfl
 have hpl : Tv b x = ((Er b x).1, (Er b x).2, true, ()) := by
  unfold Tv FG
  rw [hco]
  simp only
  rw [hpo]
  rfl
 have hto : VI b x = true := by
  unfold VI
  rw [hB, hx, Ca (show ¬ b.2.2.2.2.2.1 ≥ 1000000 by omega)]
  rfl
 have hT : Th b x = ((b.1, Og b x, (Nh b x).1, (Er b x).1, Xi b x, b.2.2.2.2.2.1 + 1, ()), (Er b x).2, true, ()) := by
  unfold Th
  rw [hto, hco, hpl, Xc (n := b.2.2.2.2.2.1 + 1) (by omega) (by omega)]
  rfl
 refine ⟨hT, Ci (Nh b x).1 D', m, m', t', t2, ?_, hm, hm', by simpa using hmo2, by simpa using hm2, hE, ht', hE2, ht2, hout⟩
 rw [hT]
 have hdn : (Er b x).1.2.2.2.1 = b.2.2.2.2.2.1 := q2
 refine ⟨⟨hi.mat, hi.kc1, hi.kc2, hi.kk, hi.k32, hdv, e1, ha2, ?_, ⟨D', m', hC', hm', rfl⟩, hDR, ?_, ?_, ?_⟩, ?_, hst, ?_⟩
 ·show ∀ y ∈ (Nh b x).1.1, _
  rw [f1]
  exact hi.cmb
 ·show 0 ≤ b.2.2.2.2.2.1 + 1 ∧ b.2.2.2.2.2.1 + 1 ≤ 1000000; omega
 ·show (Nh b x).1.2.2.2.1 ≤ b.2.2.2.2.2.1 + 1; omega
 ·show (Er b x).1.2.2.2.1 ≤ b.2.2.2.2.2.1 + 1; omega
 ·show (Nh b x).1.2.2.2.1 = (Er b x).1.2.2.2.1; omega
 ·show (Nh b x).1.2.2.1.length + (Er b x).1.2.2.1.length ≤ _; omega
theorem Nam {L : List Ja} {e set t1 : Int} {r : List Ba} (h0 : (YD L e t1 set r).1 = 0) (hsw : ∀ x ∈ r, Sj x = true) : t1 < e := by
 revert h0
 unfold YD
 cases hc : Sa (fun k s x => Zs L e k s x) 0 set r with
 | inr b =>
  intro h0
  exfalso
  obtain ⟨j, s', x, hxm, hg⟩ := DM _ r 0 set b hc
  cases b with
  | inl b =>
   have : ∃ n, b.2.1 = n + 1 := by
    unfold Zs at hg
    revert hg
    cases Sj x <;> cases decide (x.1 ≥ e) <;> cases x.2.2.1 <;> cases Dj L (Tc .i64 s' (Ra .i64 1 x.2.1)) <;> cases (decide ((Hf L (Tc .i64 s' (Ra .i64 1 x.2.1))).1 ≥ 0) && !(Hf L (Tc .i64 s' (Ra .i64 1 x.2.1))).2) <;>
     simp only [cond_true, cond_false, Sum.inr.injEq, Sum.inl.injEq, reduceCtorEq, false_implies] <;> (intro hg; subst hg; exact ⟨j, rfl⟩)
   obtain ⟨n, hn⟩ := this
   simp only at h0
   rw [hn] at h0
   exact (EF L b.1 n b.2.2).1 h0
  | inr b =>
   have hs := hsw x hxm
   unfold Zs at hg
   rw [hs] at hg
   have h0' : b.1 = 0 := h0
   revert hg
   cases decide (x.1 ≥ e) <;> cases x.2.2.1 <;> cases Dj L (Tc .i64 s' (Ra .i64 1 x.2.1)) <;> cases (decide ((Hf L (Tc .i64 s' (Ra .i64 1 x.2.1))).1 ≥ 0) && !(Hf L (Tc .i64 s' (Ra .i64 1 x.2.1))).2) <;>
    simp only [cond_true, cond_false, Sum.inr.injEq, reduceCtorEq, false_implies] <;> (intro hg; subst hg; have : ((j + 2 : Nat) : Int) = 0 := h0'; omega)
 | inl s =>
  intro h0
  have h0' : (cond (decide (t1 < e)) ((0 : Int), (0 : Int), (-1 : Int)) (Vy L s (r.length + 1) e)).1 = 0 := h0
  by_cases h1 : t1 < e
  ·exact h1
  ·rw [Ca h1] at h0'
   exact absurd h0' (EF L s r.length e).1
theorem HaB {kc : Nat} (hkc : kc ≤ 24) {c : Da} {D m : Nat} (h : IM kc c D m) (hS : HK c) {x : Ba} {r : List Ba} (hq : c.2.2.1 = x :: r) : c.2.2.2.1 < x.1 + c.2.1 := by
 obtain ⟨t0, t, h0, htn, hE⟩ := h.q
 rw [hq] at hE
 obtain ⟨hd, hm⟩ := N4 (hS x r hq)
 have hsw := LT hkc hE
 obtain ⟨k, hk, hkk, hk31, hx0, hx1, hx2, hdn, hR⟩ := Dk hE
 have htm := h.tm
 rw [hq] at hm
 revert hm
 unfold Xd
 simp only
 rw [h.s.cb, Aa htm, (hsw x (by simp)).1, hd]
 simp only [qt, cond_true]
 cases Dj c.1 (Ra .i64 1 x.2.1) with
 | false => intro h; exact absurd (show (1 : Int) = 0 from h) (by omega)
 | true =>
  simp only [cond_true]
  intro h
  have := Nam h (fun y hy => (hsw y (by simp [hy])).1)
  rwa [Xc (n := x.1 + c.2.1) (by omega) (by omega)] at this
def MX (d : Xa) : Prop := ∀ x r, d.2.2.1 = x :: r → Mg d x r = none
theorem ZU : ∀ (n : Nat) (d : Xa) (s : List Yc), d.2.2.1.length ≤ n → MX (Lb n d s).1
 | 0, d, s, hn => by
  intro x r hq
  have h : d.2.2.1 = x :: r := hq
  rw [h] at hn
  simp at hn
 | n + 1, d, s, hn => by
  cases hq : d.2.2.1 with
  | nil =>
   have e : Lb (n + 1) d s = (d, s) := by simp only [Lb, hq]
   rw [e]
   intro x r h
   rw [hq] at h
   simp at h
  | cons x r =>
   cases hst : Mg d x r with
   | none =>
    have e : Lb (n + 1) d s = (d, s) := by simp only [Lb, hq, hst]
    rw [e]
    intro x' r' h
    rw [hq] at h
    simp only [List.cons.injEq] at h
    obtain ⟨rfl, rfl⟩ := h
    exact hst
   | some p =>
    obtain ⟨d', l⟩ := p
    have e : Lb (n + 1) d s = Lb n d' (Yh s d'.2.2.2.2.1 l) := by simp only [Lb, hq, hst]
    have e1 : d'.2.2.1 = r := by rw [Zl hst]
    rw [hq] at hn
    simp only [jw] at hn
    rw [e]
    exact ZU n d' _ (by rw [e1]; omega)
theorem Haa {t : Mp} {key at_ : Int} {l : List Ba} {til : Int} (ht : Se t = true) (ha : 0 ≤ at_ ∧ at_ ≤ 1000000) (hl : ∀ x ∈ l, Uf x = true) (h : (Ed t key at_ l til).1 = 0) : til < at_ + t.1 := by
 have htt : 1 ≤ t.1 ∧ t.1 ≤ 1000 := by
  simp only [Se, jd, decide_eq_true_eq] at ht
  omega
 revert h
 unfold Ed
 rw [ht, Aa ha, Xc (n := at_ + t.1) (by omega) (by omega)]
 simp only [qt, cond_true]
 cases hc : chR t.2.2.1 key (at_ + t.1) l with
 | inl s =>
  by_cases h1 : til ≥ at_ + t.1
  ·rw [Aa h1]; intro h; exact absurd (show (2 : Int) = 0 from h) (by omega)
  ·intro _; omega
 | inr r =>
  intro h
  exfalso
  have h' : r.1 = 0 := h
  obtain ⟨x, hx, s, hg⟩ := IR (GJ t.2.2.1 key (at_ + t.1)) l 0 0 r hc
  unfold GJ at hg
  rw [hl x hx] at hg
  revert hg
  cases decide (x.1 ≥ at_ + t.1) <;> cases x.2.1 == key <;> cases x.2.2.1 <;> cases t.2.2.1 == 1 <;> cases t.2.2.1 == 2 <;> cases Rd s x.2.1 == 1 <;> (intro hg; simp only [cond_true, cond_false, Sum.inr.injEq, reduceCtorEq] at hg; try (subst hg; first | exact absurd h' (show (2 : Int) ≠ 0 by decide) | exact absurd h' (show (1 : Int) ≠ 0 by decide)))
theorem XF {keys : Nat} : ∀ {l : List Ba} {t0 t : Int} {m0 m : Nat}, Fi keys t0 m0 l t m → ∀ x ∈ l, Uf x = true ∧ t0 ≤ x.1 ∧ x.1 ≤ t
 | [], _, _, _, _, _, x, hx => by simp at hx
 | y :: l, t0, t, m0, m, h, x, hx => by
  obtain ⟨k, hk, hkk, hk31, hx0, hx1, hx2, hdn, hR⟩ := Dk h
  have hle := RD hR
  rcases jp.1 hx with rfl | hx
  ·refine ⟨?_, hx0, hle⟩
   unfold Uf
   rw [Aa (show 0 ≤ x.1 ∧ x.1 ≤ 1000000 by omega), Aa (show 0 ≤ x.2.1 ∧ x.2.1 ≤ 31 by omega)]
   rfl
  ·have := XF hR x hx
   exact ⟨this.1, by omega, this.2.2⟩
theorem RaD {keys m : Nat} {d : Xa} (h : NN keys d m) (hS : MX d) {x : Ba} {r : List Ba} (hq : d.2.2.1 = x :: r) : d.2.2.2.1 < x.1 + d.2.1.1 := by
 obtain ⟨t0, t, m0, hm, hE, h0, htn⟩ := h.ex
 rw [hq] at hE
 have hev := XF hE
 obtain ⟨k, hk, hkk, hk31, hx0, hx1, hx2, hdn, hR⟩ := Dk hE
 have hs := hS x r hq
 unfold Mg at hs
 revert hs
 cases x.2.2.1 with
 | false => intro hs; simp at hs
 | true =>
  simp only [jg, cond_false]
  cases Jf (Rj d.1.1.2.1 (Ji d.1.1 (Ik d.1.2.2.1 d.1.2.2.2.1) x.2.1.toNat) x.2.1.toNat) with
  | false => intro hs; simp at hs
  | true =>
   simp only [cond_true]
   cases (d.2.2.2.2.2.1 == j9 .i64 (x.2.1 + 1)) && !decide (j9 .i64 (x.1 - d.2.2.2.2.2.2.1) ≥ d.2.1.2.1) with
   | true => intro hs; simp at hs
   | false =>
    simp only [cond_false]
    cases hz : (Ed d.2.1 x.2.1 x.1 r d.2.2.2.1).1 == 0 with
    | false => intro hs; simp at hs
    | true =>
     intro _
     exact Haa (l := r) h.i.tim ⟨hx1, hx2⟩ (fun y hy => (hev y (jr _ hy)).1) (by simpa using hz)
def Rk (a b : Nat) : Prop := ∀ k, a.testBit k = true → b.testBit k = true
theorem V2 {C m m' r : Nat} (h : Rk m m') : Rk (rowN C m r) (rowN C m' r) := fun k hk => by
 rw [JD, jd] at hk ⊢
 exact ⟨hk.1, h _ hk.2⟩
theorem Das {C a b m m' : Nat} (h : Rk m m') : Rk (Dv C a b m) (Dv C a b m') := by
 intro k hk
 unfold Dv at hk ⊢
 have hkeep : ∀ x : Nat, m.testBit k = true → (cond (rowN C m' a &&& rowN C m' b != 0) (m' ||| rowN C m' b <<< (a * C)) m').testBit k = true := by
  intro _ hm
  cases rowN C m' a &&& rowN C m' b != 0 with
  | false => exact h k hm
  | true => simp only [cond_true]; rw [Nat.testBit_or, h k hm]; rfl
 cases hc : rowN C m a &&& rowN C m b != 0 with
 | false => rw [hc] at hk; exact hkeep 0 hk
 | true =>
  rw [hc] at hk
  simp only [cond_true] at hk
  rw [Nat.testBit_or, Bool.or_eq_true] at hk
  rcases hk with hk | hk
  ·exact hkeep 0 hk
  ·obtain ⟨j, h1, h2⟩ := (MD _ _).1 hc
   have hc' : (rowN C m' a &&& rowN C m' b != 0) = true := (MD _ _).2 ⟨j, V2 h j h1, V2 h j h2⟩
   rw [hc']
   simp only [cond_true]
   rw [Nat.testBit_or, Bool.or_eq_true]
   right
   rw [Nat.testBit_shiftLeft, jd] at hk ⊢
   exact ⟨hk.1, V2 h _ hk.2⟩
theorem Bas {C a b m : Nat} : Rk m (Dv C a b m) := by
 intro k hk
 unfold Dv
 cases rowN C m a &&& rowN C m b != 0 with
 | false => exact hk
 | true => simp only [cond_true]; rw [Nat.testBit_or, hk]; rfl
theorem ZO {g : Nat → Nat → Nat} (hg : ∀ k a b, Rk a b → Rk (g k a) (g k b)) : ∀ n {a b : Nat}, Rk a b → Rk (Zd g n a) (Zd g n b)
 | 0, _, _, h => h
 | n + 1, _, _, h => hg n _ _ (ZO hg n h)
theorem VO {g : Nat → Nat → Nat} (hg : ∀ k a, Rk a (g k a)) : ∀ n (a : Nat), Rk a (Zd g n a)
 | 0, _ => fun _ h => h
 | n + 1, a => fun k h => hg n _ k (VO hg n a k h)
theorem SaB {C R k a b : Nat} (h : Rk a b) : Rk (g2 C R k a) (g2 C R k b) :=
 ZO (g := g3 C k) (fun j a b h => Das (C := C) (a := k) (b := j) h) R h
theorem QaB {C R k a b : Nat} (h : Rk a b) : Rk (g1 C R k a) (g1 C R k b) :=
 ZO (g := g2 C R) (fun j a b h => SaB h) R h
theorem Jar {C R a b : Nat} (h : Rk a b) : Rk (Sh C R a) (Sh C R b) :=
 ZO (g := g1 C R) (fun j a b h => QaB h) R h
theorem RaB {C R k : Nat} (a : Nat) : Rk a (g2 C R k a) :=
 VO (g := g3 C k) (fun j a => Bas (C := C) (a := k) (b := j)) R a
theorem PaB {C R k : Nat} (a : Nat) : Rk a (g1 C R k a) :=
 VO (g := g2 C R) (fun j a => RaB a) R a
theorem Iar {C R : Nat} (a : Nat) : Rk a (Sh C R a) :=
 VO (g := g1 C R) (fun j a => PaB a) R a
theorem Cas {a b : Nat} (h1 : Rk a b) (h2 : Rk b a) : a = b := Nat.eq_of_testBit_eq fun k => by
 cases ha : a.testBit k <;> cases hb : b.testBit k
 ·rfl
 ·have := h2 k hb; rw [ha] at this; exact this
 ·have := h1 k ha; rw [hb] at this; exact this.symm
 ·rfl
theorem IZ {p : Nat → Bool} {g : Nat → Int → Int} (hg : ∀ k (s : Nat), k < 63 → s < 2 ^ 63 → g k (s : Int) = ((cond (p k) (s ||| 2 ^ k) s : Nat) : Int)) : ∀ n, n ≤ 62 → ∃ s : Nat, Zd g n 0 = (s : Int) ∧ s < 2 ^ 63 ∧ ∀ k, s.testBit k = (decide (k < n) && p k)
 | 0, _ => ⟨0, rfl, Nat.two_pow_pos 63, fun k => by simp⟩
 | n + 1, hn => by
  obtain ⟨s, h1, h2, h3⟩ := IZ hg n (by omega)
  have hs := Gf (show n ≤ 62 by omega)
  refine ⟨cond (p n) (s ||| 2 ^ n) s, ?_, ?_, fun k => ?_⟩
  ·show g n (Zd g n 0) = _
   rw [h1, hg n s (by omega) h2]
  ·cases p n with
   | false => exact h2
   | true => exact Nat.or_lt_two_pow h2 hs
  ·have e : (cond (p n) (s ||| 2 ^ n) s).testBit k = (s.testBit k || (p n && decide (n = k))) := by
    cases p n with
    | false => simp
    | true => simp only [cond_true, jk]; rw [Nat.testBit_or, qr]
   rw [e, h3]
   by_cases hk : k = n
   ·subst hk
    rw [Ca (show ¬ k < k by omega), Aa (show k < k + 1 by omega), Aa rfl]
    simp
   ·rw [show decide (n = k) = false from decide_eq_false (fun e => hk e.symm)]
    by_cases hk2 : k < n
    ·rw [Aa hk2, Aa (show k < n + 1 by omega)]; simp
    ·rw [Ca hk2, Ca (show ¬ k < n + 1 by omega)]; simp
structure JaL (M : Md) (old x : Int) (o p a : Nat) : Prop where
 ho : old = (o : Int)
 hp : x = (p : Int)
 ha : JV M old (Ki M x) = (a : Int)
 bit : ∀ k, a.testBit k = o.testBit k ∨ a.testBit k = p.testBit k
 zero : p = 0 → a = 0
theorem Aan {C R : Nat} : Sh C R 0 = 0 := by
 have h3 : ∀ a b, Dv C a b 0 = 0 := fun a b => by
  have : ∀ r, rowN C 0 r = 0 := fun r => by unfold rowN; simp
  unfold Dv
  rw [this, this]
  rfl
 have hi : ∀ (g : Nat → Nat → Nat), (∀ k, g k 0 = 0) → ∀ n, Zd g n 0 = 0 := by
  intro g hg n
  induction n with
  | zero => rfl
  | succ n ih => show g n (Zd g n 0) = 0; rw [ih, hg]
 exact hi _ (fun _ => hi _ (fun _ => hi _ (fun _ => h3 _ _) R) R) R
theorem Hag {M : Md} {old x : Int} (ho : Pb M old = true) (hx : Pb M x = true) : ∃ o p a, JaL M old x o p a := by
 obtain ⟨C, R, p, d, rfl, rfl, hd, hp⟩ := Wy hx
 obtain ⟨C', R', o, d', e, rfl, hd', ho'⟩ := Wy ho
 simp only [jh] at e
 obtain ⟨e1, e2, e3, _⟩ := e
 have e1 : R = R' := by omega
 have e2 : C = C' := by omega
 subst e1; subst e2; subst e3
 generalize hM : (((R : Int), (C : Int), d, ()) : Md) = M at hx ho ⊢
 have hp63 := QD hd hp
 have ho63 := QD hd ho'
 let f : Nat → Nat := fun m => cond d m (Sh C R m)
 have hfi : ∀ m : Nat, Ki M (m : Int) = ((f m : Nat) : Int) := fun m => by rw [← hM]; exact JH
 have hsub : ∀ a b, Rk a b → Rk (f a) (f b) := fun a b h => by
  show Rk (cond d a (Sh C R a)) (cond d b (Sh C R b))
  cases d
  ·exact Jar h
  ·exact h
 have hext : ∀ a, Rk a (f a) := fun a => by
  show Rk a (cond d a (Sh C R a))
  cases d
  ·exact Iar a
  ·exact fun _ h => h
 have hidem : f (f p) = f p := by
  show cond d (cond d p (Sh C R p)) (Sh C R (cond d p (Sh C R p))) = cond d p (Sh C R p)
  cases d
  ·exact I4 hd
  ·rfl
 have hlt : ∀ m, m < 2 ^ (R * C) → f m < 2 ^ (R * C) := fun m h => by
  show cond d m (Sh C R m) < _
  cases d
  ·exact VW h
  ·exact h
 have hq63 := QD hd (hlt p hp)
 have hRC := MM hd (jo R)
 have hread := AV hx
 have hkc : (Mc M).toNat = R * C := by
  have hmx : Bf M = true := by
   simp only [Pb, jd] at hx
   exact hx.1
  rw [← hM] at hmx ⊢
  unfold Mc
  rw [hmx]
  simp only [cond_true]
  show ((R : Int) * (C : Int)).toNat = R * C
  rw [← Int.natCast_mul, jn]
 obtain ⟨c, hc, hc63, hcb⟩ := IZ (p := fun k => (f p).testBit k && !MV M (Ki M (p : Int)) k) (g := LM M (Ki M (p : Int))) (by
  intro k s hk hs
  unfold LM
  rw [hfi p, Kj hq63 (by omega), Qf (by omega)]
  cases (f p).testBit k && !MV M ((f p : Nat) : Int) k with
  | false => rfl
  | true =>
   show Tc .i64 (s : Int) ((2 ^ k : Nat) : Int) = ((s ||| 2 ^ k : Nat) : Int)
   rw [Hk hs (Gf (by omega))]) (R * C) (by omega)
 have hclear : WQ M (Ki M (p : Int)) = (c : Int) := by
  unfold WQ
  rw [hread, hkc]
  exact hc
 have hpress : ∀ k, c.testBit k = true → p.testBit k = true := by
  intro k hk
  rw [hcb] at hk
  simp only [jd, Bool.not_eq_true', decide_eq_true_eq] at hk
  obtain ⟨hk1, hk2, hk3⟩ := hk
  cases hpk : p.testBit k with
  | true => rfl
  | false =>
   exfalso
   unfold MV at hk3
   rw [hfi p, Kj hq63 (by omega), hk2, Qf (by omega), Tn hq63 (Gf (by omega)), hfi] at hk3
   simp only [jk, beq_eq_false_iff_ne] at hk3
   apply hk3
   congr 1
   apply Cas
   ·have h1 : Rk (f p ^^^ (f p &&& 2 ^ k)) (f p) := fun j hj => by
     rw [qq, Nat.testBit_and] at hj
     cases hfj : (f p).testBit j with
     | true => rfl
     | false => rw [hfj] at hj; simp at hj
    have h2 := hsub _ _ h1
    rw [hidem] at h2
    exact h2
   ·refine hsub _ _ fun j hj => ?_
    rw [qq, Nat.testBit_and, hext p j hj, qr]
    by_cases hjk : k = j
    ·subst hjk; rw [hpk] at hj; simp at hj
    ·rw [show decide (k = j) = false from decide_eq_false hjk]; rfl
 refine ⟨o, p, f p &&& (o ||| c), rfl, rfl, ?_, fun k => ?_, fun h0 => ?_⟩
 ·unfold JV
  rw [hclear, hfi p, Hk ho63 hc63, Gy hq63 (Nat.or_lt_two_pow ho63 hc63)]
 ·rw [Nat.testBit_and, Nat.testBit_or]
  cases hq : (f p).testBit k with
  | false =>
   right
   cases hpk : p.testBit k with
   | false => rfl
   | true => have := hext p k hpk; rw [hq] at this; simp at this
  | true =>
   cases hck : c.testBit k with
   | false => left; simp
   | true => right; rw [hpress k hck]; simp
 ·subst h0
  have : f 0 = 0 := by
   show cond d 0 (Sh C R 0) = 0
   rw [Aan]; cases d <;> rfl
  rw [this]; simp
theorem Gak {α S : Type} (g : Nat → S → α → S) (L : List α) (P : Nat → S → Prop) {s0 : S} (h0 : P 0 s0) (hs : ∀ k (hk : k < L.length) s, P k s → P (k + 1) (g k s L[k])) : P L.length (Dd g 0 s0 L) := by
 have key : ∀ (l : List α) (k : Nat) (s : S), L.drop k = l → k ≤ L.length → P k s → P L.length (Dd g k s l) := by
  intro l
  induction l with
  | nil =>
   intro k s hl hk h
   have := JJ hl hk
   rw [← this]; exact h
  | cons y l ih =>
   intro k s hl hk h
   obtain ⟨hk', hy, hl'⟩ := CD hl
   have := hs k hk' s h
   rw [hy] at this
   exact ih (k + 1) _ hl' hk' this
 exact key L 0 s0 rfl (Nat.zero_le _) h0
structure Oay (d : Ib) (raw : Int) (s r s' : Nat) : Prop where
 hs : d.2.2.2.1 = (s : Int)
 hr : raw = (r : Int)
 hs' : (OC d raw).1 = (s' : Int)
 len : (OC d raw).2.length = d.2.2.2.2.2.1.length
 lo : ∀ k (hk : k < d.2.2.2.2.2.1.length), s'.testBit k = cond (Gp d raw k d.2.2.2.2.2.1[k]) (!s.testBit k) (s.testBit k)
 hi : ∀ k, d.2.2.2.2.2.1.length ≤ k → s'.testBit k = s.testBit k
 age : ∀ k (hk : k < d.2.2.2.2.2.1.length), (OC d raw).2[k]? = some (cond (Gp d raw k d.2.2.2.2.2.1[k] && (d.1 == 2)) 0 (XE d raw k d.2.2.2.2.2.1[k]))
 cn : ∀ k (hk : k < d.2.2.2.2.2.1.length), Gp d raw k d.2.2.2.2.2.1[k] = (decide (XE d raw k d.2.2.2.2.2.1[k] ≥ d.2.1) && (r.testBit k ^^ s.testBit k))
theorem Cau {d : Ib} {raw : Int} (h : Sm d raw = true) : ∃ s r s', Oay d raw s r s' := by
 unfold Sm at h
 rw [jd] at h
 have hd := Xt h.1
 have h1 := hd.k2
 have h2 := hd.len
 obtain ⟨r, hr, hr2⟩ := MB h.2
 obtain ⟨s, hs, hs2⟩ := MB hd.sh
 have hs63 := Yah h1 hs2
 have hr63 := Yah h1 hr2
 have hI := Gak (fun k s x => NC d raw k s x) d.2.2.2.2.2.1
  (fun n st => ∃ s' : Nat, st.1 = (s' : Int) ∧ s' < 2 ^ 63 ∧ st.2.length = n ∧ (∀ k (hk : k < d.2.2.2.2.2.1.length), k < n → s'.testBit k = cond (Gp d raw k d.2.2.2.2.2.1[k]) (!s.testBit k) (s.testBit k)) ∧
   (∀ k, n ≤ k → s'.testBit k = s.testBit k) ∧ (∀ k (hk : k < d.2.2.2.2.2.1.length), k < n → st.2[k]? = some (cond (Gp d raw k d.2.2.2.2.2.1[k] && (d.1 == 2)) 0 (XE d raw k d.2.2.2.2.2.1[k]))))
  (s0 := (d.2.2.2.1, [])) ⟨s, hs, hs63, rfl, fun k hk h => by omega, fun k _ => rfl, fun k hk h => by omega⟩ (by
   rintro n hn st ⟨s1, e1, e2, e3, e4, e5, e6⟩
   have hn62 := Gf (show n ≤ 62 by omega)
   refine ⟨cond (Gp d raw n d.2.2.2.2.2.1[n]) (s1 ^^^ 2 ^ n) s1, ?_, ?_, ?_, ?_, ?_, ?_⟩
   ·unfold NC
    simp only
    cases Gp d raw n d.2.2.2.2.2.1[n] with
    | false => exact e1
    | true => simp only [cond_true]; rw [e1, Qf (by omega), Mo e2 hn62]
   ·cases Gp d raw n d.2.2.2.2.2.1[n] with
    | false => exact e2
    | true => exact qu e2 hn62
   ·simp [NC, e3]
   ·intro k hk hk2
    have e : (cond (Gp d raw n d.2.2.2.2.2.1[n]) (s1 ^^^ 2 ^ n) s1).testBit k = (s1.testBit k ^^ (Gp d raw n d.2.2.2.2.2.1[n] && decide (n = k))) := by
     cases Gp d raw n d.2.2.2.2.2.1[n] with
     | false => simp
     | true => simp only [cond_true, jk]; rw [qq, qr]
    rw [e]
    by_cases hkn : k = n
    ·subst hkn
     rw [e5 k (jo _), Aa rfl]
     cases Gp d raw k d.2.2.2.2.2.1[k] <;> simp
    ·rw [e4 k hk (by omega), show decide (n = k) = false from decide_eq_false (fun e => hkn e.symm)]
     simp
   ·intro k hk
    have e : (cond (Gp d raw n d.2.2.2.2.2.1[n]) (s1 ^^^ 2 ^ n) s1).testBit k = (s1.testBit k ^^ (Gp d raw n d.2.2.2.2.2.1[n] && decide (n = k))) := by
     cases Gp d raw n d.2.2.2.2.2.1[n] with
     | false => simp
     | true => simp only [cond_true, jk]; rw [qq, qr]
    rw [e, e5 k (by omega), show decide (n = k) = false from decide_eq_false (by omega)]
    simp
   ·intro k hk hk2
    unfold NC
    simp only [List.append_eq]
    by_cases hkn : k < n
    ·rw [qk (by omega)]
     exact e6 k hk hkn
    ·have : k = n := by omega
     subst this
     rw [ql (by omega), e3, Nat.sub_self]
     rfl)
 obtain ⟨s', e1, e2, e3, e4, e5, e6⟩ := hI
 refine ⟨s, r, s', hs, hr, e1, e3, fun k hk => e4 k hk hk, e5, fun k hk => e6 k hk hk, fun k hk => ?_⟩
 unfold Gp
 rw [hr, hs, I7 hr63 hs63 (by omega), qq]
theorem Tap {d : Ib} {raw : Int} {s r s' : Nat} (h : Oay d raw s r s') (k : Nat) : s'.testBit k = s.testBit k ∨ s'.testBit k = r.testBit k := by
 by_cases hk : k < d.2.2.2.2.2.1.length
 ·rw [h.lo k hk, h.cn k hk]
  cases decide (XE d raw k d.2.2.2.2.2.1[k] ≥ d.2.1) <;> cases r.testBit k <;> cases s.testBit k <;> simp
 ·exact .inl (h.hi k (by omega))
def Pf : Nat → Nat → Nat → Nat
 | 0, _, _ => 0
 | n + 1, a, b => Pf n a b + cond (a.testBit n ^^ b.testBit n) 1 0
theorem I8 (n a b : Nat) : Pf n a b ≤ n := by
 induction n with
 | zero => exact jo _
 | succ n ih =>
  show Pf n a b + cond (a.testBit n ^^ b.testBit n) 1 0 ≤ n + 1
  cases a.testBit n ^^ b.testBit n
  ·show Pf n a b + 0 ≤ _; omega
  ·show Pf n a b + 1 ≤ _; omega
theorem AZ {n a b : Nat} (ha : a < 2 ^ n) (hb : b < 2 ^ n) : ∀ k, Pf (n + k) a b = Pf n a b
 | 0 => rfl
 | k + 1 => by
  have h : ∀ x, x < 2 ^ n → x.testBit (n + k) = false := fun x hx => Nat.testBit_lt_two_pow (qo hx (qp (by omega) (Nat.le_add_right n k)))
  show Pf (n + k) a b + cond (a.testBit (n + k) ^^ b.testBit (n + k)) 1 0 = _
  rw [h a ha, h b hb, AZ ha hb k]
  rfl
theorem Eaq (n : Nat) {s a p s' a' p' : Nat} (h1 : ∀ k, s'.testBit k = s.testBit k ∨ s'.testBit k = a'.testBit k) (h2 : ∀ k, a'.testBit k = a.testBit k ∨ a'.testBit k = p'.testBit k) :
 Pf n s s' + (Pf n s' a' + Pf n a' p') ≤ Pf n s a + Pf n a p + Pf n p p' := by
 induction n with
 | zero => exact jo _
 | succ n ih =>
  show (Pf n s s' + cond (s.testBit n ^^ s'.testBit n) 1 0) + ((Pf n s' a' + cond (s'.testBit n ^^ a'.testBit n) 1 0) + (Pf n a' p' + cond (a'.testBit n ^^ p'.testBit n) 1 0)) ≤
   (Pf n s a + cond (s.testBit n ^^ a.testBit n) 1 0) + (Pf n a p + cond (a.testBit n ^^ p.testBit n) 1 0) + (Pf n p p' + cond (p.testBit n ^^ p'.testBit n) 1 0)
  have e1 := h1 n
  have e2 := h2 n
  revert e1 e2
  cases s.testBit n <;> cases s'.testBit n <;> cases a.testBit n <;> cases a'.testBit n <;> cases p.testBit n <;> cases p'.testBit n <;> simp <;> omega
theorem Jab {a b : Nat} {t : Int} (ha : a < 2 ^ 63) (hb : b < 2 ^ 63) : ∀ n, n ≤ 64 → (Zd (GB (a : Int) (b : Int) t) n []).length = Pf n a b
 | 0, _ => rfl
 | n + 1, hn => by
  have ih := Jab (t := t) ha hb n (by omega)
  show (GB (a : Int) (b : Int) t n (Zd (GB (a : Int) (b : Int) t) n [])).length = Pf n a b + cond (a.testBit n ^^ b.testBit n) 1 0
  generalize Zd (GB (a : Int) (b : Int) t) n [] = o at ih ⊢
  unfold GB
  rw [I7 ha hb (by omega), qq]
  cases a.testBit n ^^ b.testBit n with
  | false => simp only [cond_false]; omega
  | true => simp only [cond_true]; simp; omega
theorem Faa {c c' : Da} {x : Ba} {r l : List Ba} (hq : c.2.2.1 = x :: r) (hs : We c x r = some (c', l)) : c'.1 = c.1 ∧ c'.2.1 = c.2.1 ∧ c'.2.2.1 <:+ c.2.2.1 := by
 unfold We at hs
 revert hs
 cases hd : x.2.2.1 with
 | false =>
  intro hs
  simp only [cond_false, jc] at hs
  obtain ⟨f1, f2, f3, _, _⟩ := QL (c.1, c.2.1, r, c.2.2.2.1, max c.2.2.2.2.1 x.1, c.2.2.2.2.2) x.2.1 (max c.2.2.2.2.1 x.1)
  rw [hs] at f1 f2 f3
  refine ⟨f1, f2, ?_⟩
  have f3' : c'.2.2.1 = r := f3
  rw [f3', hq]
  exact List.suffix_cons x r
 | true =>
  simp only [cond_true]
  generalize Xd c.1 c.2.1 c.2.2.1 c.2.2.2.1 = b
  cases b.1 == 0 with
  | true => intro hs; simp at hs
  | false =>
   simp only [cond_false]
   cases decide (b.2.2 < 0) <;> (intro hs; simp only [cond_true, cond_false, jc, jh] at hs; rw [← hs.1]; exact ⟨rfl, rfl, List.drop_suffix _ _⟩)
theorem BM : ∀ (n : Nat) (c : Da), (Za n c []).1.1 = c.1 ∧ (Za n c []).1.2.1 = c.2.1 ∧ (Za n c []).1.2.2.1 <:+ c.2.2.1
 | 0, c => ⟨rfl, rfl, List.suffix_refl _⟩
 | n + 1, c => by
  cases hq : c.2.2.1 with
  | nil => rw [SQ hq]; exact ⟨rfl, rfl, by rw [hq]; exact List.suffix_refl _⟩
  | cons x r =>
   cases hst : We c x r with
   | none => rw [LY hq hst]; exact ⟨rfl, rfl, by rw [hq]; exact List.suffix_refl _⟩
   | some p =>
    obtain ⟨c1, l1⟩ := p
    rw [MY hq hst]
    obtain ⟨h1, h2, h3⟩ := Faa hq hst
    obtain ⟨i1, i2, i3⟩ := BM n c1
    rw [hq] at h3
    exact ⟨i1.trans h1, i2.trans h2, i3.trans h3⟩
theorem EM : ∀ (n : Nat) (d : Xa) (s : List Yc), (Lb n d s).1.2.2.1 <:+ d.2.2.1
 | 0, d, s => List.suffix_refl _
 | n + 1, d, s => by
  cases hq : d.2.2.1 with
  | nil =>
   have e : Lb (n + 1) d s = (d, s) := by simp only [Lb, hq]
   rw [e, hq]; exact List.suffix_refl _
  | cons x r =>
   cases hst : Mg d x r with
   | none =>
    have e : Lb (n + 1) d s = (d, s) := by simp only [Lb, hq, hst]
    rw [e, hq]; exact List.suffix_refl _
   | some p =>
    obtain ⟨d', l⟩ := p
    have e : Lb (n + 1) d s = Lb n d' (Yh s d'.2.2.2.2.1 l) := by simp only [Lb, hq, hst]
    have e1 : d'.2.2.1 = r := by rw [Zl hst]
    have ih := EM n d' (Yh s d'.2.2.2.2.1 l)
    rw [e1] at ih
    rw [e]
    exact ih.trans (List.suffix_cons x r)
structure Pot (b : Mb) (ct dt v K p : Nat) : Prop where
 ex : ∃ s a : Nat, b.2.1.2.2.2.1 = (s : Int) ∧ b.2.2.2.2.1 = (a : Int) ∧ Pf 32 s a + Pf 32 a p ≤ K ∧
  (∀ pre y r, b.2.2.1.2.2.1 = pre ++ y :: r → ((r.length + 1 + (Pf 32 s a + Pf 32 a p) : Nat) : Int) ≤ (v : Int) * b.2.2.2.2.2.1 - (v : Int) * y.1 + (K : Int)) ∧
  (∀ pre z r, b.2.2.2.1.2.2.1 = pre ++ z :: r → ((r.length + 1 + b.2.2.1.2.2.1.length + (Pf 32 s a + Pf 32 a p) : Nat) : Int) ≤ (v : Int) * b.2.2.2.2.2.1 - (v : Int) * z.1 + (v : Int) * (ct : Int) + (K : Int))
 hct : b.2.2.1.2.1 = (ct : Int)
 hdt : b.2.2.2.1.2.1.1 = (dt : Int)
 cdue : ∀ y r, b.2.2.1.2.2.1 = y :: r → b.2.2.2.2.2.1 ≤ y.1 + (ct : Int)
 ddue : ∀ y r, b.2.2.2.1.2.2.1 = y :: r → b.2.2.2.2.2.1 ≤ y.1 + (dt : Int)
theorem Pad {v : Nat} {T y : Int} {c : Nat} (h : T ≤ y + (c : Int)) : (v : Int) * T - (v : Int) * y ≤ (v : Int) * (c : Int) := by
 have h1 : (v : Int) * T ≤ (v : Int) * (y + (c : Int)) := Int.mul_le_mul_of_nonneg_left h (Int.natCast_nonneg v)
 rw [Int.mul_add] at h1
 omega
theorem TaD {b : Mb} {ct dt v K p s a : Nat} (h : Pot b ct dt v K p) (hs : b.2.1.2.2.2.1 = (s : Int)) (ha : b.2.2.2.2.1 = (a : Int)) :
 b.2.2.1.2.2.1.length + (Pf 32 s a + Pf 32 a p) ≤ v * ct + K ∧ b.2.2.1.2.2.1.length + b.2.2.2.1.2.2.1.length + (Pf 32 s a + Pf 32 a p) ≤ v * (ct + dt) + K := by
 obtain ⟨s', a', h1, h2, h3, h4, h5⟩ := h.ex
 have : s' = s := by omega
 subst this
 have : a' = a := by omega
 subst this
 have hc : b.2.2.1.2.2.1.length + (Pf 32 s' a' + Pf 32 a' p) ≤ v * ct + K := by
  cases hq : b.2.2.1.2.2.1 with
  | nil => simp only [qb]; have : 0 ≤ v * ct := Nat.zero_le _; omega
  | cons y r =>
   have e1 := h4 [] y r hq
   have e2 := Pad (v := v) (h.cdue y r hq)
   have e3 : ((v * ct : Nat) : Int) = (v : Int) * (ct : Int) := Int.natCast_mul _ _
   simp only [jw]
   omega
 refine ⟨hc, ?_⟩
 rw [Nat.mul_add]
 cases hq : b.2.2.2.1.2.2.1 with
 | nil => simp only [qb]; have : 0 ≤ v * dt := Nat.zero_le _; omega
 | cons z r =>
  have e1 := h5 [] z r hq
  have e2 := Pad (v := v) (h.ddue z r hq)
  have e3 : ((v * ct : Nat) : Int) = (v : Int) * (ct : Int) := Int.natCast_mul _ _
  have e4 : ((v * dt : Nat) : Int) = (v : Int) * (dt : Int) := Int.natCast_mul _ _
  simp only [jw]
  omega
structure UL (b : Mb) (kc keys g ct dt v K p : Nat) : Prop where
 i : Zan b kc keys g
 nw : b.2.2.1.2.2.2.1 = b.2.2.2.1.2.2.2.1
 stk : HK b.2.2.1
 dst : MX b.2.2.2.1
 pot : Pot b ct dt v K p
 nt : b.2.2.1.2.2.2.1 < b.2.2.2.2.2.1 ∨ (b.2.2.1.2.2.1 = [] ∧ b.2.2.2.1.2.2.1 = [])
 pm : p < 2 ^ kc
theorem Q4 {α : Type} {q l pre r : List α} {y : α} {m : List α} (hm : m <:+ q ++ l) (h : m = pre ++ y :: r) : (∃ pre' r1, q = pre' ++ y :: r1 ∧ r = r1 ++ l) ∨ (r.length + 1 ≤ l.length ∧ y ∈ l) := by
 obtain ⟨t, ht⟩ := hm
 rw [h, ← List.append_assoc] at ht
 generalize t ++ pre = P at ht
 rcases List.append_eq_append_iff.1 ht with ⟨a', e1, e2⟩ | ⟨c', e1, e2⟩
 ·
  cases a' with
  | nil =>
   right
   rw [List.nil_append] at e2
   rw [← e2]
   exact ⟨by simp, by simp⟩
  | cons z a' =>
   simp only [List.cons_append, List.cons.injEq] at e2
   obtain ⟨rfl, rfl⟩ := e2
   exact .inl ⟨P, a', e1, rfl⟩
 ·
  right
  rw [e2]
  exact ⟨by simp, by simp⟩
structure B6 (b : Mb) (x : Int) (kc keys g g' m m' : Nat) : Prop where
 eq : Th b x = ((b.1, Og b x, (Nh b x).1, (Er b x).1, Xi b x, b.2.2.2.2.2.1 + 1, ()), (Er b x).2, true, ())
 sh : b.2.1.2.2.2.1 = (m : Int)
 sh2 : (Og b x).2.2.2.1 = (m' : Int)
 e1 : ∃ t, Fi kc b.2.2.1.2.2.2.1 m (Tl b x) t m' ∧ t ≤ b.2.2.2.2.2.1
 e2 : ∃ t, Fi keys b.2.2.2.1.2.2.2.1 g (Nh b x).2 t g' ∧ t ≤ b.2.2.2.2.2.1
 acc : RH b.1 b.2.2.2.2.1 (Ki b.1 x) = true
 deb : Nq b.2.1 (Xi b x) = (Og b x, true, ())
theorem M9 {b : Mb} {kc keys g ct dt v K δ p p' : Nat} (h : UL b kc keys g ct dt v K p) (hx : Pb b.1 (p' : Int) = true) (hpk : p' < 2 ^ kc) (hv : Pf 32 p p' ≤ v + δ) (hT : b.2.2.2.2.2.1 < 1000000) (hK : 2 * kc ≤ K) (h64 : v * (ct + dt) + K + v + δ ≤ 64) :
 ∃ g' m m' : Nat, B6 b (p' : Int) kc keys g g' m m' ∧ UL (Th b (p' : Int)).1 kc keys g' ct dt v (K + δ) p' ∧ (Tl b (p' : Int)).length = Pf 32 m m' ∧
  (∀ a a' : Nat, b.2.2.2.2.1 = (a : Int) → Xi b (p' : Int) = (a' : Int) → (Tl b (p' : Int)).length + (Pf 32 m' a' + Pf 32 a' p') ≤ Pf 32 m a + Pf 32 a p + Pf 32 p p') := by
 obtain ⟨s, a, hs, ha, hpsi, hcq, hdq⟩ := h.pot.ex
 have hB := NK h.i
 have hP := CK hB hx
 obtain ⟨ta1, ta2, ta3⟩ := LF hP
 obtain ⟨td1, td2⟩ := BR hP
 obtain ⟨o, p2, a', hA⟩ := Hag h.i.acc hx
 have e : o = a := by have := hA.ho; omega
 subst e
 have e : p2 = p' := by have := hA.hp; omega
 subst e
 have hacc : Xi b (p2 : Int) = (a' : Int) := hA.ha
 obtain ⟨s1, r1, s', hD⟩ := Cau ta3
 have e : s1 = s := by have := hD.hs; omega
 subst e
 have e : r1 = a' := by have := hD.hr; omega
 subst e
 have hsh : (Og b (p2 : Int)).2.2.2.1 = (s' : Int) := by rw [td2]; exact hD.hs'
 have hdp := Xt h.i.db
 have hkc := h.i.kc2
 have hdk := h.i.dk
 have s1k : s1 < 2 ^ kc := by
  obtain ⟨n, hn, hn2⟩ := MB hdp.sh
  rw [hdk, jn] at hn2
  have : n = s1 := by omega
  omega
 have hdv : Bd (Og b (p2 : Int)) = true := CR ta3
 have hdp' := Xt hdv
 have hdk' : (Og b (p2 : Int)).2.2.1 = (kc : Int) := by rw [td2]; exact hdk
 have s'k : s' < 2 ^ kc := by
  obtain ⟨n, hn, hn2⟩ := MB hdp'.sh
  rw [hdk', jn] at hn2
  have : n = s' := by omega
  omega
 have a'k : r1 < 2 ^ kc := by
  obtain ⟨n, hn, hn2⟩ := MB hdp'.la
  rw [hdk', jn] at hn2
  have e : (Og b (p2 : Int)).2.2.2.2.1 = Xi b (p2 : Int) := by rw [td2]
  rw [e, hacc] at hn
  have : n = r1 := by omega
  omega
 have h63 : ∀ x, x < 2 ^ kc → x < 2 ^ 63 := fun x hx => qo hx (qp (by omega) (by omega))
 have hel : (Tl b (p2 : Int)).length = Pf 32 s1 s' := by
  unfold Tl XG
  rw [hs, hsh]
  exact Jab (h63 _ s1k) (h63 _ s'k) 32 (by omega)
 have hham := Eaq 32 (s := s1) (a := o) (p := p) (s' := s') (a' := r1) (p' := p2) (Tap hD) hA.bit
 have hpot := TaD h.pot hs ha
 have hpsi' : Pf 32 s' r1 + Pf 32 r1 p2 ≤ 2 * kc := by
  have u1 := AZ s'k a'k (32 - kc)
  have u2 := AZ a'k hpk (32 - kc)
  rw [show kc + (32 - kc) = 32 by omega] at u1 u2
  have l1 := I8 kc s' r1
  have l2 := I8 kc r1 p2
  omega
 obtain ⟨hT1, g', m, m', t1, t2, hS, hm, hm', _, _, hE, ht1, hE2, ht2, hout⟩ := CaE (x := (p2 : Int)) (N := b.2.2.1.2.2.1.length + b.2.2.2.1.2.2.1.length) ⟨h.i, h.nw, h.stk, jo _⟩ hx hT (by omega)
 have e : m = s1 := by omega
 subst e
 have e : m' = s' := by omega
 subst e
 refine ⟨g', m, m', ⟨hT1, hm, hm', ⟨t1, hE, ht1⟩, ⟨t2, hE2, ht2⟩, ta1, td1⟩, ?_, hel, ?_⟩
 ·have hI := hS.i
  have hnw := hS.nw
  have hstk := hS.stk
  rw [hT1] at hI hnw hstk ⊢
  have hdst : MX (Er b (p2 : Int)).1 := ZU _ _ _ (jo _)
  obtain ⟨f1, f2, f3⟩ := BM 64 (Ug b.2.2.1 (Tl b (p2 : Int)) b.2.2.2.2.2.1)
  have f2' : (Nh b (p2 : Int)).1.2.1 = (ct : Int) := f2.trans h.pot.hct
  have q := A2 (Qd b.2.2.2.1 (Nh b (p2 : Int)).2 b.2.2.2.2.2.1).2.2.1.length (Qd b.2.2.2.1 (Nh b (p2 : Int)).2 b.2.2.2.2.2.1) []
  have q2 : (Er b (p2 : Int)).1.2.2.2.1 = b.2.2.2.2.2.1 := q.2.1
  have q3 : (Er b (p2 : Int)).1.2.1 = b.2.2.2.1.2.1 := q.2.2
  have q3' : (Er b (p2 : Int)).1.2.1.1 = (dt : Int) := by rw [q3]; exact h.pot.hdt
  have hnw' : (Nh b (p2 : Int)).1.2.2.2.1 = (Er b (p2 : Int)).1.2.2.2.1 := hnw
  obtain ⟨D, m2, hCI, _, _⟩ := hI.cb
  have hdc : NN keys (Er b (p2 : Int)).1 g' := hI.dc
  refine ⟨hI, hnw, hstk, hdst, ⟨⟨m', r1, hm', hacc, by omega, ?_, ?_⟩, f2', q3', ?_, ?_⟩, .inl (show (Nh b (p2 : Int)).1.2.2.2.1 < b.2.2.2.2.2.1 + 1 by omega), hpk⟩
  ·
   intro pre y r hq
   have hq' : (Nh b (p2 : Int)).1.2.2.1 = pre ++ y :: r := hq
   have hsuf : (Nh b (p2 : Int)).1.2.2.1 <:+ b.2.2.1.2.2.1 ++ Tl b (p2 : Int) := f3
   show ((r.length + 1 + (Pf 32 m' r1 + Pf 32 r1 p2) : Nat) : Int) ≤ (v : Int) * (b.2.2.2.2.2.1 + 1) - (v : Int) * y.1 + ((K + δ : Nat) : Int)
   rw [Int.mul_add, Int.mul_one]
   rcases Q4 hsuf hq' with ⟨pre', r', e1, e2⟩ | ⟨e1, e2⟩
   ·have := hcq pre' y r' e1
    rw [e2, qi]
    omega
   ·have hy := XF hE y e2
    have h1 : (v : Int) * y.1 ≤ (v : Int) * b.2.2.2.2.2.1 := Int.mul_le_mul_of_nonneg_left (by omega) (Int.natCast_nonneg v)
    omega
  ·
   intro pre z r hq
   have hq' : (Er b (p2 : Int)).1.2.2.1 = pre ++ z :: r := hq
   have hsuf : (Er b (p2 : Int)).1.2.2.1 <:+ b.2.2.2.1.2.2.1 ++ (Nh b (p2 : Int)).2 := EM _ (Qd b.2.2.2.1 (Nh b (p2 : Int)).2 b.2.2.2.2.2.1) []
   show ((r.length + 1 + (Nh b (p2 : Int)).1.2.2.1.length + (Pf 32 m' r1 + Pf 32 r1 p2) : Nat) : Int) ≤ (v : Int) * (b.2.2.2.2.2.1 + 1) - (v : Int) * z.1 + (v : Int) * (ct : Int) + ((K + δ : Nat) : Int)
   rw [Int.mul_add, Int.mul_one]
   have hmul : ((v * ct : Nat) : Int) = (v : Int) * (ct : Int) := Int.natCast_mul _ _
   rcases Q4 hsuf hq' with ⟨pre', r', e1, e2⟩ | ⟨e1, e2⟩
   ·have := hdq pre' z r' e1
    rw [e2, qi]
    omega
   ·have hz := XF hE2 z e2
    have h1 : (v : Int) * z.1 ≤ (v : Int) * b.2.2.2.2.2.1 := Int.mul_le_mul_of_nonneg_left (by omega) (Int.natCast_nonneg v)
    have := hpot.1
    omega
  ·intro y r hq
   have hd := HaB h.i.kc2 hCI hstk hq
   have hd' : (Nh b (p2 : Int)).1.2.2.2.1 < y.1 + (Nh b (p2 : Int)).1.2.1 := hd
   show b.2.2.2.2.2.1 + 1 ≤ y.1 + (ct : Int)
   omega
  ·intro z r hq
   have hd := RaD hdc hdst hq
   show b.2.2.2.2.2.1 + 1 ≤ z.1 + (dt : Int)
   omega
 ·intro a2 a3 h1 h2
  have e : a2 = o := by omega
  subst e
  have e : a3 = r1 := by omega
  subst e
  omega
structure Q0 (d : Ib) (j : Nat) : Prop where
 la : 1 ≤ j → d.2.2.2.2.1 = 0
 age : ∀ (s : Nat) (k : Nat) (x : Int), d.2.2.2.1 = (s : Int) → d.2.2.2.2.2.1[k]? = some x → s.testBit k = true → (j : Int) ≤ x ∧ (1 ≤ j → x < d.2.1)
theorem Yaj {d : Ib} (h : Bd d = true) : Q0 d 0 := by
 refine ⟨fun h => by omega, fun s k x _ hx _ => ⟨?_, fun h => by omega⟩⟩
 simp only [Bd, jd] at h
 have hag := h.2.2.2.2.2.2
 unfold GI at hag
 have h1 := (Al (p := fun x : Int => decide ((0 : Int) ≤ x ∧ x ≤ 99))).1 hag x (List.mem_of_getElem? hx)
 simp only [decide_eq_true_eq] at h1
 exact h1.1
theorem Xaj {d : Ib} {j : Nat} (h : Sm d 0 = true) (hQ : Q0 d j) (hj : j ≤ 90) : Q0 (Nq d 0).1 (j + 1) ∧ (Nq d 0).1.2.1 = d.2.1 := by
 obtain ⟨s, r, s', hD⟩ := Cau h
 have hr0 : r = 0 := by have := hD.hr; omega
 subst hr0
 have h' := h
 unfold Sm at h'
 rw [jd] at h'
 have hdp := Xt h'.1
 have e : Nq d 0 = ((d.1, d.2.1, d.2.2.1, (OC d 0).1, 0, (OC d 0).2, ()), true, ()) := by
  unfold Nq; rw [h]; rfl
 rw [e]
 refine ⟨⟨fun _ => rfl, fun s2 k x hs2 hx hb => ?_⟩, rfl⟩
 have hs2' : (OC d 0).1 = (s2 : Int) := hs2
 have es : s2 = s' := by have := hD.hs'; omega
 subst es
 have hx' : (OC d 0).2[k]? = some x := hx
 have hk : k < d.2.2.2.2.2.1.length := by
  obtain ⟨hk, _⟩ := List.getElem?_eq_some_iff.1 hx'
  rw [← hD.len]; exact hk
 have h1 := hD.age k hk
 rw [hx'] at h1
 simp only [jc] at h1
 have h2 := hD.lo k hk
 have h3 := hD.cn k hk
 have h64 := hdp.k2
 have hlen := hdp.len
 simp only [Nat.zero_testBit, Bool.false_xor] at h3
 rw [hb, h3] at h2
 rw [h3] at h1
 cases hsk : s.testBit k with
 | false => rw [hsk] at h2; simp at h2
 | true =>
  rw [hsk] at h2 h1
  simp only [Bool.and_true, jg] at h2 h1
  cases hA : decide (XE d 0 k d.2.2.2.2.2.1[k] ≥ d.2.1) with
  | true => rw [hA] at h2; simp at h2
  | false =>
   rw [hA] at h1
   simp only [qs, cond_false] at h1
   simp only [decide_eq_false_iff_not] at hA
   have hold := (hQ.age s k d.2.2.2.2.2.1[k] hD.hs (je hk) hsk).1
   have h99 : d.2.2.2.2.2.1[k] ≤ 99 := by
    have hi := h'.1
    simp only [Bd, jd] at hi
    have hag := hi.2.2.2.2.2.2
    unfold GI at hag
    have h1 := (Al (p := fun x : Int => decide ((0 : Int) ≤ x ∧ x ≤ 99))).1 hag _ (qv hk)
    simp only [decide_eq_true_eq] at h1
    exact h1.2
   refine ⟨?_, fun _ => by show x < d.2.1; omega⟩
   rw [h1]
   unfold XE
   rw [Xc (n := d.2.2.2.2.2.1[k] + 1) (by omega) (by omega)]
   by_cases hj0 : j = 0
   ·subst hj0
    cases (d.1 == 0) && (Rd 0 (k : Int) != Rd d.2.2.2.2.1 (k : Int)) with
    | true => simp only [cond_true]; omega
    | false =>
     cases (d.1 == 1) && ((0 : Int) != d.2.2.2.2.1) with
     | true => simp only [cond_true, cond_false]; omega
     | false => simp only [cond_false]; omega
   ·have hla := hQ.la (by omega)
    rw [hla]
    simp only [bne_self_eq_false, Bool.and_false, cond_false]
    omega
theorem JO {d : Ib} {j dT : Nat} (h : Bd d = true) (hQ : Q0 d j) (hT : d.2.1 = (dT : Int)) (h1 : 1 ≤ j) (hj : dT ≤ j) : d.2.2.2.1 = 0 := by
 have hdp := Xt h
 obtain ⟨s, hs, hs2⟩ := MB hdp.sh
 have hl := hdp.len
 rw [hs]
 have : s = 0 := by
  apply Nat.eq_of_testBit_eq
  intro k
  rw [Nat.zero_testBit]
  cases hb : s.testBit k with
  | false => rfl
  | true =>
   exfalso
   by_cases hk : k < d.2.2.2.2.2.1.length
   ·have := hQ.age s k _ hs (je hk) hb
    have := this.2 h1
    omega
   ·have : s.testBit k = false := Nat.testBit_lt_two_pow (qo hs2 (qp (by omega) (by omega)))
    rw [hb] at this
    exact absurd this (by simp)
 rw [this]; rfl
theorem Zap (a t : Int) : XG a a t = [] := by
 unfold XG
 have : ∀ n, Zd (GB a a t) n [] = [] := by
  intro n
  induction n with
  | zero => rfl
  | succ n ih =>
   show GB a a t n (Zd (GB a a t) n []) = []
   rw [ih]
   unfold GB
   simp
 exact this 32
structure VS (b : Mb) (kc keys ct dt v K p dT T0 j : Nat) : Prop where
 p : ∃ g, UL b kc keys g ct dt v K p
 hdT : b.2.1.2.1 = (dT : Int)
 tm : b.2.2.2.2.2.1 = ((T0 + j : Nat) : Int)
 db : Q0 b.2.1 j
 cqt : ∀ y ∈ b.2.2.1.2.2.1, y.1 < ((T0 + dT : Nat) : Int)
 dqt : ∀ y ∈ b.2.2.2.1.2.2.1, y.1 < ((T0 + dT + ct : Nat) : Int)
theorem Bai {b : Mb} {kc keys g ct dt v K p dT T0 : Nat} (h : UL b kc keys g ct dt v K p) (hT : b.2.1.2.1 = (dT : Int)) (h0 : b.2.2.2.2.2.1 = (T0 : Int)) : VS b kc keys ct dt v K p dT T0 0 := by
 obtain ⟨D, m, hC, _, _⟩ := h.i.cb
 obtain ⟨t0, t, _, htn, hE⟩ := hC.q
 obtain ⟨s0, s1, m0, _, hE2, _, hs1⟩ := h.i.dc.ex
 have hnw := h.nw
 refine ⟨⟨g, h⟩, hT, h0, Yaj h.i.db, fun y hy => ?_, fun y hy => ?_⟩
 ·rcases h.nt with hn | ⟨hn, _⟩
  ·have := (XF hE y hy).2.2
   omega
  ·rw [hn] at hy; simp at hy
 ·rcases h.nt with hn | ⟨_, hn⟩
  ·have := (XF hE2 y hy).2.2
   omega
  ·rw [hn] at hy; simp at hy
theorem Aai {b : Mb} {kc keys ct dt v K δ p dT T0 j : Nat} (h : VS b kc keys ct dt v K p dT T0 j) (hx : Pb b.1 0 = true) (hv : Pf 32 p 0 ≤ v + δ) (hT : T0 + j < 1000000) (hK : 2 * kc ≤ K) (h64 : v * (ct + dt) + K + v + δ ≤ 64) (hj : j ≤ 90) (h1 : 1 ≤ dT) :
 ∃ (b' : Mb) (s : List Yc), Th b 0 = (b', s, true, ()) ∧ VS b' kc keys ct dt v (K + δ) 0 dT T0 (j + 1) ∧ b'.1 = b.1 ∧ ∃ g g' m m', B6 b 0 kc keys g g' m m' := by
 obtain ⟨g, hP⟩ := h.p
 obtain ⟨g', m, m', hE, hP', _, _⟩ := M9 (p' := 0) hP hx (Nat.two_pow_pos kc) hv (by have := h.tm; omega) hK h64
 have hE' : B6 b 0 kc keys g g' m m' := hE
 have eq := hE'.eq
 refine ⟨_, _, eq, ?_, rfl, g, g', m, m', hE'⟩
 have hB := NK hP.i
 have hTP := CK hB hx
 obtain ⟨ta1, ta2, ta3⟩ := LF hTP
 obtain ⟨o, p2, a', hA⟩ := Hag hP.i.acc hx
 have hp2 : p2 = 0 := by have := hA.hp; omega
 have ha0 := hA.zero hp2
 have hacc : Xi b 0 = 0 := by
  have : Xi b 0 = (a' : Int) := hA.ha
  rw [this, ha0]; rfl
 rw [hacc] at ta3
 have hdst := Xaj ta3 h.db hj
 have edeb : Og b 0 = (Nq b.2.1 0).1 := by unfold Og; rw [hacc]
 have hPe : UL (Th b 0).1 kc keys g' ct dt v (K + δ) 0 := hP'
 rw [eq] at hPe
 obtain ⟨t1, hE1, ht1⟩ := hE'.e1
 obtain ⟨t2, hE2, ht2⟩ := hE'.e2
 have htm := h.tm
 have hnone : dT ≤ j → Tl b 0 = [] := by
  intro hdj
  have hs0 : b.2.1.2.2.2.1 = 0 := JO hP.i.db h.db h.hdT (by omega) hdj
  have hs1 : (Og b 0).2.2.2.1 = 0 := by
   rw [edeb]
   have hv : Bd (Nq b.2.1 0).1 = true := CR ta3
   exact JO hv hdst.1 (by rw [hdst.2]; exact h.hdT) (by omega) (by omega)
  unfold Tl
  rw [hs0, hs1]
  exact Zap 0 _
 have hcq0 : dT + ct ≤ j → b.2.2.1.2.2.1 = [] := by
  intro hd
  cases hq : b.2.2.1.2.2.1 with
  | nil => rfl
  | cons y r =>
   have h1 := hP.pot.cdue y r hq
   have h2 := h.cqt y (by rw [hq]; simp)
   omega
 refine ⟨⟨g', hPe⟩, ?_, ?_, ?_, ?_, ?_⟩
 ·show (Og b 0).2.1 = (dT : Int)
  rw [edeb, hdst.2]; exact h.hdT
 ·show b.2.2.2.2.2.1 + 1 = ((T0 + (j + 1) : Nat) : Int)
  omega
 ·show Q0 (Og b 0) (j + 1)
  rw [edeb]; exact hdst.1
 ·intro y hy
  have hsuf : (Nh b 0).1.2.2.1 <:+ b.2.2.1.2.2.1 ++ Tl b 0 := (BM 64 (Ug b.2.2.1 (Tl b 0) b.2.2.2.2.2.1)).2.2
  rcases jl.1 (hsuf.subset hy) with hy | hy
  ·exact h.cqt y hy
  ·by_cases hdj : dT ≤ j
   ·rw [hnone hdj] at hy; simp at hy
   ·have := (XF hE1 y hy).2.2
    omega
 ·intro y hy
  have hsuf : (Er b 0).1.2.2.1 <:+ b.2.2.2.1.2.2.1 ++ (Nh b 0).2 := EM _ (Qd b.2.2.2.1 (Nh b 0).2 b.2.2.2.2.2.1) []
  rcases jl.1 (hsuf.subset hy) with hy | hy
  ·exact h.dqt y hy
  ·by_cases hdj : dT + ct ≤ j
   ·exfalso
    have e : Nh b 0 = (Ug b.2.2.1 (Tl b 0) b.2.2.2.2.2.1, []) := SQ (by
     show jf b.2.2.1.2.2.1 (Tl b 0) = []
     rw [hcq0 hdj, hnone (by omega)]; rfl)
    rw [e] at hy
    simp at hy
   ·have := (XF hE2 y hy).2.2
    omega
theorem Yam {b : Mb} {kc keys ct dt v K p dT T0 j : Nat} (h : VS b kc keys ct dt v K p dT T0 j) (h1 : 1 ≤ dT) (hj : dT + ct + dt ≤ j) :
 b.2.1.2.2.2.1 = 0 ∧ b.2.2.1.2.2.1 = [] ∧ b.2.2.2.1.2.2.1 = [] ∧ b.2.2.1.2.2.2.2.2.1 = 0 ∧ Vb b.2.2.1 = [] ∧ b.2.2.2.1.1.2.2.2.1 = [] := by
 obtain ⟨g, hP⟩ := h.p
 have htm := h.tm
 have hs0 : b.2.1.2.2.2.1 = 0 := JO hP.i.db h.db h.hdT (by omega) (by omega)
 have hcq : b.2.2.1.2.2.1 = [] := by
  cases hq : b.2.2.1.2.2.1 with
  | nil => rfl
  | cons y r =>
   have h1 := hP.pot.cdue y r hq
   have h2 := h.cqt y (by rw [hq]; simp)
   omega
 have hdq : b.2.2.2.1.2.2.1 = [] := by
  cases hq : b.2.2.2.1.2.2.1 with
  | nil => rfl
  | cons y r =>
   have h1 := hP.pot.ddue y r hq
   have h2 := h.dqt y (by rw [hq]; simp)
   omega
 obtain ⟨D, m, hC, hm, hg⟩ := hP.i.cb
 have hm0 : m = 0 := by omega
 obtain ⟨t0, t, _, _, hE⟩ := hC.q
 rw [hcq] at hE
 obtain ⟨_, hdn⟩ := RM hE
 have hdn0 : Tm b.2.2.1 D = 0 := by omega
 unfold Tm at hdn0
 have hD0 : D = 0 := by have := Nat.left_le_or (n := D) (m := Df (Vb b.2.2.1)); omega
 have hA0 : Df (Vb b.2.2.1) = 0 := by have := Nat.right_le_or (n := D) (m := Df (Vb b.2.2.1)); omega
 have hact : Vb b.2.2.1 = [] := by
  cases hq : Vb b.2.2.1 with
  | nil => rfl
  | cons x r =>
   exfalso
   rw [hq] at hA0
   have h2 := (hC.s.m).b x (by rw [hq]; simp)
   have h3 : x.2.1.toNat ≤ Df (x :: r) := Nat.left_le_or
   omega
 have hg0 : g = 0 := by
  rw [← hg]
  unfold Ci
  rw [hact, hD0]
  rfl
 obtain ⟨s0, s1, m0, hmk, hE2, _, _⟩ := hP.i.dc.ex
 rw [hdq] at hE2
 obtain ⟨_, hgm⟩ := RM hE2
 have hm00 : m0 = 0 := by omega
 refine ⟨hs0, hcq, hdq, ?_, hact, ?_⟩
 ·rw [hC.s.d, hD0]; rfl
 ·cases hq : b.2.2.2.1.1.2.2.2.1 with
  | nil => rfl
  | cons x r =>
   exfalso
   have h2 := hmk.bit x.1.toNat
   have hx := ((QC b.2.2.2.1.1.2.2.2.1).1 hP.i.dc.i.pl.eng.hd)
   rw [hm00, Nat.zero_testBit, hq] at h2
   have hx0 := hx.1 x (by rw [hq]; simp)
   have : Co (x :: r) x.1.toNat = true := by
    unfold Co
    rw [List.any_cons]
    have : (x.1 == ((x.1.toNat : Nat) : Int)) = true := by
     rw [beq_iff_eq]
     have := hx0.lo
     omega
    rw [this]
    rfl
   rw [this] at h2
   exact absurd h2 (by simp)
def JI (z : La) (l : List La) : La := l.foldl (fun _ r => r) z
def Vo (z : La) (l : List Yc) : La := l.foldl (fun _ s => s.2.1) z
theorem W3 (z : La) (l l2 : List Yc) : Vo z (l ++ l2) = Vo (Vo z l) l2 := by unfold Vo; rw [List.foldl_append]
theorem HO : ∀ (l : List La) (z : La), JI z (Hw Zo z l) = JI z l
 | [], z => rfl
 | x :: r, z => by
  show JI z (cond (Zo z x) (Hw Zo x r) (x :: Hw Zo x r)) = JI x r
  cases h : Zo z x with
  | true =>
   have e : z = x := by
    unfold Zo at h
    simp only [jd, beq_iff_eq] at h
    obtain ⟨z1, z2, z3⟩ := z
    obtain ⟨x1, x2, x3⟩ := x
    simp only at h
    rw [h.1, h.2]
   subst e
   exact HO r z
  | false => exact HO r x
theorem Fan (z : La) (s : List Yc) (w : Int) (l : List La) : Vo z (Yh s w l) = JI (Vo z s) l := by
 have e : Yh s w l = s ++ l.map fun r => ((w, r, ()) : Yc) := rfl
 rw [e, W3]
 unfold Vo JI
 rw [List.foldl_map]
theorem Kan {d d' : Xa} {x : Ba} {r : List Ba} {l : List La} (hs : Mg d x r = some (d', l)) : JI (Uc d.1.2.2.2.1) l = Uc d'.1.2.2.2.1 := by
 have hp : ∀ (e : Jb) (k : Nat) (b : Bool), JI (Uc e.2.2.2.1) (pR e k b) = Uc (pE e k b).2.2.2.1 := fun e k b => by
  unfold pR
  rw [HO]
  show List.foldl _ _ (pM e k b ++ [Uc (pH e k b)]) = _
  rw [List.foldl_append]
  rfl
 have hr : ∀ (e : Jb) (i : Nat), JI (Uc e.2.2.2.1) (rR e i) = Uc (rE e i).2.2.2.1 := fun e i => by
  unfold rR
  rw [HO]
  rfl
 unfold Mg at hs
 revert hs
 cases x.2.2.1 with
 | false =>
  intro hs
  simp only [qd, cond_true, jc, jh] at hs
  rw [← hs.1, ← hs.2]
  exact hr _ _
 | true =>
  simp only [jg, cond_false]
  cases Jf (Rj d.1.1.2.1 (Ji d.1.1 (Ik d.1.2.2.1 d.1.2.2.2.1) x.2.1.toNat) x.2.1.toNat) with
  | false =>
   intro hs
   simp only [cond_false, jc, jh] at hs
   rw [← hs.1, ← hs.2]
   exact hp _ _ _
  | true =>
   simp only [cond_true]
   generalize (cond ((d.2.2.2.2.2.1 == j9 .i64 (x.2.1 + 1)) && !decide (j9 .i64 (x.1 - d.2.2.2.2.2.2.1) ≥ d.2.1.2.1)) ((1 : Int), x.1) ((Ed d.2.1 x.2.1 x.1 r d.2.2.2.1).1, (Ed d.2.1 x.2.1 x.1 r d.2.2.2.1).2.1)) = ch
   cases ch.1 == 0 with
   | true => intro hs; simp at hs
   | false =>
    intro hs
    simp only [cond_false, jc, jh] at hs
    rw [← hs.1, ← hs.2]
    exact hp _ _ _
theorem U9 (z : La) : ∀ (n : Nat) (d : Xa) (s : List Yc), Vo z s = Uc d.1.2.2.2.1 → Vo z (Lb n d s).2 = Uc (Lb n d s).1.1.2.2.2.1
 | 0, d, s, h => h
 | n + 1, d, s, h => by
  cases hq : d.2.2.1 with
  | nil =>
   have e : Lb (n + 1) d s = (d, s) := by simp only [Lb, hq]
   rw [e]; exact h
  | cons x r =>
   cases hst : Mg d x r with
   | none =>
    have e : Lb (n + 1) d s = (d, s) := by simp only [Lb, hq, hst]
    rw [e]; exact h
   | some p =>
    obtain ⟨d', l⟩ := p
    have e : Lb (n + 1) d s = Lb n d' (Yh s d'.2.2.2.2.1 l) := by simp only [Lb, hq, hst]
    rw [e]
    exact U9 z n d' _ (by rw [Fan, h]; exact Kan hst)
theorem T4 {b : Mb} {x : Int} {kc keys g g' m m' : Nat} (h : B6 b x kc keys g g' m m') {z : La} {s : List Yc} (hs : Vo z s = Uc b.2.2.2.1.1.2.2.2.1) :
 Vo z (s ++ (Th b x).2.1) = Uc (Th b x).1.2.2.2.1.1.2.2.2.1 := by
 rw [h.eq]
 show Vo z (s ++ (Er b x).2) = Uc (Er b x).1.1.2.2.2.1
 unfold Er
 have := U9 z (Qd b.2.2.2.1 (Nh b x).2 b.2.2.2.2.2.1).2.2.1.length (Qd b.2.2.2.1 (Nh b x).2 b.2.2.2.2.2.1) s hs
 rw [IL] at this
 exact this
theorem X3 : ∀ (l : List Yc) (z : La) (i : Nat) (x : Yc), l.length = i + 1 → l[i]? = some x → x.2.1 = Vo z l
 | [], z, i, x, h, _ => by simp at h
 | [y], z, i, x, h, hx => by
  simp only [jw, qb] at h
  have : i = 0 := by omega
  subst this
  simp only [List.getElem?_cons_zero, jc] at hx
  subst hx
  rfl
 | y :: w :: l, z, i, x, h, hx => by
  simp only [jw] at h
  obtain ⟨j, rfl⟩ : ∃ j, i = j + 1 := ⟨i - 1, by omega⟩
  rw [List.getElem?_cons_succ] at hx
  have := X3 (w :: l) y.2.1 j x (by simp; omega) hx
  exact this
def R7 (s : Ib × List Int) (x : Int) : (Ib × List Int) ⊕ Unit :=
 cond (Sm s.1 x) (.inl ((Nq s.1 x).1, jf s.2 [(Nq s.1 x).1.2.2.2.1])) (.inr ())
theorem H3 {d : Ib} {x : Int} (h : Sm d x = true) : (Nq d x).2.1 = true ∧ (Nq d x).1.2.2.2.2.2.1.length ≤ 24 := by
 have h' := h
 unfold Sm at h'
 rw [jd] at h'
 have hd := Xt h'.1
 have hl := (A1 hd x).len
 have h1 := hd.len
 have h2 := hd.k2
 unfold Nq
 rw [h]
 exact ⟨rfl, by show (OC d x).2.length ≤ 24; omega⟩
theorem M1 {d : Ib} {l : List Int} {s : Ib × List Int} (hd : Bd d = true) (hl : l.length ≤ 200) (h : Sa (fun _ s x => R7 s x) 0 (d, []) l = .inl s) : Ho d l = some (s.1, s.2, true, ()) := by
 have h20 : Ga = 1048576 := rfl
 have hP := Xt hd
 have h1 := hP.len
 have h2 := hP.k2
 unfold Ho
 rw [Kw d (by omega), hd, Ca (show ¬ ((ja l : Nat) : Int) > 200 by omega), Lu _ (by omega)]
 simp only [jb, jg, cond_false]
 have hloop := Ag (step := fun x => Dn x.1.1 x.1.2.1 x.1.2.2.1 x.1.2.2.2.1 x.1.2.2.2.2.1 x.1.2.2.2.2.2.1 x.2.1 x.2.2.1) l (fun _ s x => R7 s x)
  (fun s i => (((), (), s.2, l, ((ja l : Nat) : Int), i, ()), (s.1, FK, ()))) (fun s => .inl (((), (), s.2, ()), (s.1, FK, ()))) (fun _ => .inr (((), ([] : List Int), false, ()), (FK, ())))
  (fun k s => s.1.2.2.2.2.2.1.length ≤ 24 ∧ s.2.length = k) (by
   rintro k hk s ⟨hs1, hs2⟩
   refine ⟨?_, fun s' hs' => ?_⟩
   ·simp only [Dn]
    rw [Aa (show (k : Int) < ((ja l : Nat) : Int) by omega), Wb hk]
    simp only [cond_true, jb]
    rw [QU _ _ (by omega)]
    simp only [jb]
    unfold R7
    cases ho : Sm s.1 l[k] with
    | false =>
     have e : Nq s.1 l[k] = (FK, false, ()) := by unfold Nq; rw [ho]; rfl
     rw [e]; rfl
    | true =>
     rw [(H3 ho).1, Gg (by simp only [jw, qb]; omega)]
     rfl
   ·unfold R7 at hs'
    cases ho : Sm s.1 l[k] with
    | false => rw [ho] at hs'; simp at hs'
    | true =>
     rw [ho] at hs'
     simp only [cond_true, Sum.inl.injEq] at hs'
     rw [← hs']
     exact ⟨(H3 ho).2, by simp [hs2]⟩) (by
   intro s hs
   simp only [Dn]
   rw [Ca (by omega)]; rfl) (by omega) (d, []) ⟨by show d.2.2.2.2.2.1.length ≤ 24; omega, rfl⟩
 unfold Jp
 erw [hloop]
 rw [h]
 rfl
def X7 (k : Nat) (s : List Ba × Int) (x : Int) : (List Ba × Int) ⊕ Unit :=
 cond (decide (0 ≤ x ∧ x < 4294967296)) (.inl (jf s.1 (XG s.2 x (k : Int)), x)) (.inr ())
theorem IW {l : List Int} {s : List Ba × Int} (hl : l.length ≤ 200) (h : Sa X7 0 ([], 0) l = .inl s) (h64 : s.1.length ≤ 64) : Nv l = some (s.1, true, ()) := by
 have h20 : Ga = 1048576 := rfl
 unfold Nv
 rw [Ca (show ¬ ((ja l : Nat) : Int) > 200 by omega)]
 simp only [cond_false]
 have hloop := Ag (step := fun x => Lr x.1.1 x.1.2.1 x.1.2.2.1 x.1.2.2.2.1 x.1.2.2.2.2.1) l X7
  (fun s i => ((s.1, s.2, l, ((ja l : Nat) : Int), i, ()), ())) (fun s => .inl ((s.1, ()), ())) (fun _ => .inr ((([] : List Ba), false, ()), ()))
  (fun k s => s.1.length ≤ 32 * k) (by
   intro k hk s hs
   have hev : ∀ x : Int, (XG s.2 x (k : Int)).length ≤ 32 := fun x => SY s.2 x (k : Int) 32
   refine ⟨?_, fun s' hs' => ?_⟩
   ·simp only [Lr]
    rw [Aa (show (k : Int) < ((ja l : Nat) : Int) by omega), Wb hk]
    simp only [cond_true, jb]
    rw [XK]
    unfold X7
    by_cases h0 : l[k] < 0
    ·rw [Aa h0, Ca (show ¬ (0 ≤ l[k] ∧ l[k] < 4294967296) by omega)]; rfl
    ·by_cases h9 : l[k] ≥ 4294967296
     ·rw [Ca h0, Aa h9, Ca (show ¬ (0 ≤ l[k] ∧ l[k] < 4294967296) by omega)]; rfl
     ·rw [Ca h0, Ca h9, Aa (show (0 ≤ l[k] ∧ l[k] < 4294967296) by omega)]
      simp only [cond_false, cond_true, jb]
      rw [Gg (by have := hev l[k]; omega)]
      rfl
   ·unfold X7 at hs'
    have := hev l[k]
    revert hs'
    cases decide (0 ≤ l[k] ∧ l[k] < 4294967296) with
    | false => intro hs'; simp at hs'
    | true =>
     intro hs'
     simp only [cond_true, Sum.inl.injEq] at hs'
     rw [← hs']
     show (jf s.1 (XG s.2 l[k] (k : Int))).length ≤ _
     rw [List.append_eq, qi]
     omega) (by
   intro s hs
   simp only [Lr]
   rw [Ca (by omega)]; rfl) (by omega) ([], 0) (by simp)
 unfold Bu
 erw [hloop]
 rw [h]
 simp only [jb, qn]
 rw [Ca (by omega)]
 rfl
theorem Laa {M : Md} {old : Int} {l : List Int} {s : Int × List Int} (ho : Pb M old = true) (hl : l.length ≤ 200) (h : Sa (fun _ s x => ZW M s x) 0 (old, []) l = .inl s) : Eo M old l = some (s.2, true, ()) := by
 have hlim := Kg
 have hi := Ag (step := fun x => Bn x.1.1 x.1.2.1 x.1.2.2.1 x.1.2.2.2.1 x.1.2.2.2.2.1 x.1.2.2.2.2.2.1 x.2.1) l (fun _ s x => ZW M s x) (fun s i => ((s.1, (), s.2, l, ((ja l : Nat) : Int), i, ()), (M, ())))
  (fun s => .inl ((s.2, ()), ())) (fun _ => .inr ((([] : List Int), false, ()), ())) (fun k s => s.2.length = k) (by
   intro k hk s hi
   refine ⟨?_, ?_⟩
   ·simp only [Bn]
    rw [Aa (show (k : Int) < ((ja l : Nat) : Int) by omega), Wb hk]
    simp only [cond_true, jb, LR, UM, ZW]
    cases hc : Pb M l[k] with
    | false => rfl
    | true =>
     simp only [cond_true, jg, cond_false, jk]
     cases RH M s.1 (Ki M l[k]) with
     | false => rfl
     | true =>
      simp only [cond_true, jg, cond_false]
      rw [Gg (by simp only [jw, qb]; omega)]
      rfl
   ·intro s' h
    unfold ZW at h
    cases hc : Pb M l[k] && RH M s.1 (Ki M l[k]) with
    | false => rw [hc] at h; simp at h
    | true =>
     rw [hc] at h
     simp only [cond_true, Sum.inl.injEq] at h
     rw [← h]; simp [hi])
  (by
   intro s _
   simp only [Bn]
   rw [Ca (by omega)]; rfl) (by omega) (old, []) rfl
 unfold Eo Hp
 rw [Fl, ho]
 simp only [jb, jg, cond_false]
 erw [hi]
 rw [h]; rfl
theorem JS (r : La) (h : r.2.1.length ≤ Bb) : Bi r r = some (true, ()) := by
 unfold Bi
 rw [QJ _ _ h]
 simp
theorem L5 (l : List Yc) (hn : l.length ≤ 1000000) (hr : ∀ y ∈ l, y.2.1.2.1.length ≤ 56) : Sv l l = some (true, ()) := by
 have hl := Le (step := fun x => Tr x.1.1 x.1.2.1 x.1.2.2.1 x.1.2.2.2.1) l (fun _ _ => true) (fun i => ((l, l, ((ja l : Nat) : Int), i, ()), ())) (.inl ((), ())) (.inr ((false, ()), ())) (by
  intro k hk
  simp only [Tr]
  rw [Aa (show (k : Int) < ((ja l : Nat) : Int) by omega), Wb hk]
  simp only [cond_true, jb]
  rw [JS _ (by have := hr _ (qv hk); rw [Kg]; omega)]
  simp) (by
  simp only [Tr]
  rw [Ca (by omega)]; rfl) (by omega)
 unfold Sv Iu
 erw [hl]
 rw [AJ]
 simp
theorem A0 (l : List Ba) (hn : l.length ≤ Ga) : Ox l l = some (true, ()) := by
 have h20 : Ga = 1048576 := rfl
 have hl := Le (step := fun x => Wo x.1.1 x.1.2.1 x.1.2.2.1) l (fun _ _ => true) (fun i => ((l, l, i, ()), ())) (.inl ((), ())) (.inr ((false, ()), ())) (by
  intro k hk
  simp only [Wo]
  rw [Aa (show (k : Int) < ((ja l : Nat) : Int) by omega), Wb hk]
  simp only [cond_true, jb, Y7]; rfl) (by
  simp only [Wo]
  rw [Ca (by omega)]; rfl) (by omega)
 unfold Ox Vq
 erw [hl]
 rw [AJ]
 simp
theorem V9 {keys : Nat} {d : Xa} (h : GQ keys d) : No d d = some (true, ()) := by
 have h20 : Ga = 1048576 := rfl
 have hE := h.pl.eng
 have hm := Nj hE.km
 have hl := h.pl.len
 have hh := Uz hE.hd
 have ht : Jl Td d.2.1 d.2.1 = true := by simp [Jl]
 unfold No
 rw [ZZ d.1 (by have := hm.l2; omega) (fun x hx => by
  obtain ⟨i, hi, rfl⟩ := qx hx
  have := hm.row i hi
  have := hm.k2
  omega) (by omega), A0 _ (by omega), ht]
 simp
structure RaA (b0 : Mb) (pre : List Int) (b : Mb) (sent : List Yc) (v p : Nat) (accs shs : List Int) (S G : List Ba) : Prop where
 mat : b.1 = b0.1
 acc : Sa (fun _ s x => ZW b0.1 s x) 0 (b0.2.2.2.2.1, []) pre = .inl (b.2.2.2.2.1, accs)
 dbr : Sa (fun _ s x => R7 s x) 0 (b0.2.1, []) accs = .inl (b.2.1, shs)
 evs : Sa X7 0 ([], 0) shs = .inl (S, b.2.1.2.2.2.1)
 la : accs.length = pre.length
 ls : shs.length = pre.length
 tm : b.2.2.2.2.2.1 = (pre.length : Int)
 base : pre = [] → b = b0 ∧ S = [] ∧ G = [] ∧ sent = []
 dtm : b.2.1.2.1 = b0.2.1.2.1
 nw : pre ≠ [] → b.2.2.1.2.2.2.1 + 1 = b.2.2.2.2.2.1
 cmb : pre ≠ [] → Za 64 (Ug b0.2.2.1 S ((pre.length : Int) - 1)) [] = (b.2.2.1, G)
 dec : pre ≠ [] → Lb (Qd b0.2.2.2.1 G ((pre.length : Int) - 1)).2.2.1.length (Qd b0.2.2.2.1 G ((pre.length : Int) - 1)) [] = (b.2.2.2.1, sent)
 cnt : ∀ s a : Nat, b.2.1.2.2.2.1 = (s : Int) → b.2.2.2.2.1 = (a : Int) → S.length + (Pf 32 s a + Pf 32 a p) ≤ v * pre.length
 las : pre ≠ [] → accs.getLast? = some b.2.2.2.2.1
def U6 (b0 : Mb) (pre : List Int) (b : Mb) (sent : List Yc) (kc keys ct dt v K p : Nat) : Prop :=
 ∃ (g : Nat) (accs shs : List Int) (S G : List Ba), UL b kc keys g ct dt v K p ∧ RaA b0 pre b sent v p accs shs S G ∧ Vo (0, [], ()) sent = Uc b.2.2.2.1.1.2.2.2.1 ∧
  (∃ (t : Int) (m : Nat), Fi kc 0 0 S t m ∧ t ≤ b.2.2.1.2.2.2.1 ∧ b.2.1.2.2.2.1 = (m : Int)) ∧ (∃ t : Int, Fi keys 0 0 G t g ∧ t ≤ b.2.2.2.1.2.2.2.1)
theorem WY {α S R : Type} (g : S → α → S ⊕ R) {l : List α} {s s' s2 : S} {x : α} (h : Sa (fun _ s x => g s x) 0 s l = .inl s') (hx : g s' x = .inl s2) : Sa (fun _ s x => g s x) 0 s (l ++ [x]) = .inl s2 := by
 rw [IB (fun _ s x => g s x), h]
 simp only [Sa]
 rw [hx]
theorem Sar {b0 b : Mb} {pre : List Int} {sent : List Yc} {kc keys ct dt v K p p' : Nat} (h : U6 b0 pre b sent kc keys ct dt v K p) (hq0 : b0.2.2.1.2.2.1 = []) (hx : Pb b.1 (p' : Int) = true) (hpk : p' < 2 ^ kc) (hv : Pf 32 p p' ≤ v)
 (hT : pre.length < 1000000) (hK : 2 * kc ≤ K) (h64 : v * (ct + dt) + K + v ≤ 64) (hc : v * (pre.length + 1) ≤ 64) :
 ∃ (b' : Mb) (sent' : List Yc), ME (b, sent) (p' : Int) = .inl (b', sent') ∧ U6 b0 (pre ++ [(p' : Int)]) b' sent' kc keys ct dt v K p' := by
 obtain ⟨g, accs, shs, S, G, hP, hS, hL, ⟨tS, mS, hES, htS, hmS⟩, ⟨tG, hEG, htG⟩⟩ := h
 obtain ⟨g', m, m', hE, hP', hlen, hsum⟩ := M9 (δ := 0) hP hx hpk (by omega) (by have := hS.tm; omega) hK (by omega)
 have eq := hE.eq
 refine ⟨(Th b (p' : Int)).1, sent ++ (Th b (p' : Int)).2.1, ?_, g', accs ++ [Xi b (p' : Int)], shs ++ [(Og b (p' : Int)).2.2.2.1], S ++ Tl b (p' : Int), G ++ (Nh b (p' : Int)).2, hP', ?_, T4 hE hL, ?_, ?_⟩
 ·unfold ME
  have : (Th b (p' : Int)).2.2.1 = true := by rw [eq]
  simp only
  rw [this]
  rfl
 rotate_left
 ·obtain ⟨t1, hE1, ht1⟩ := hE.e1
  have e : mS = m := by have := hE.sh; omega
  subst e
  obtain ⟨t', ht', hE1'⟩ := An hE1 htS
  refine ⟨t', m', YG hES hE1', ?_, ?_⟩
  ·rw [eq]
   show t' ≤ (Nh b (p' : Int)).1.2.2.2.1
   have h2 : (Nh b (p' : Int)).1.2.2.2.1 = b.2.2.2.2.2.1 := (VG 64 (Ug b.2.2.1 (Tl b (p' : Int)) b.2.2.2.2.2.1) []).2
   omega
  ·rw [eq]; exact hE.sh2
 ·obtain ⟨t2, hE2, ht2⟩ := hE.e2
  obtain ⟨t', ht', hE2'⟩ := An hE2 htG
  refine ⟨t', YG hEG hE2', ?_⟩
  have hnw' := hP'.nw
  rw [eq] at hnw' ⊢
  have h2 : (Nh b (p' : Int)).1.2.2.2.1 = b.2.2.2.2.2.1 := (VG 64 (Ug b.2.2.1 (Tl b (p' : Int)) b.2.2.2.2.2.1) []).2
  have h3 : (Nh b (p' : Int)).1.2.2.2.1 = (Er b (p' : Int)).1.2.2.2.1 := hnw'
  show t' ≤ (Er b (p' : Int)).1.2.2.2.1
  omega
 obtain ⟨t1, hE1, ht1⟩ := hE.e1
 obtain ⟨t2, hE2, ht2⟩ := hE.e2
 have htm := hS.tm
 have hnw := hP.nw
 obtain ⟨s, a, hs, ha, _, _, _⟩ := hP.pot.ex
 have hcnt := hS.cnt s a hs ha
 have e : s = m := by have := hE.sh; omega
 subst e
 have hm'k : m' < 2 ^ 24 := by
  have h1 := hP'.i.db
  rw [eq] at h1
  have h2 := Xt h1
  obtain ⟨n, hn, hn2⟩ := MB h2.sh
  have h3 : (Og b (p' : Int)).2.2.2.1 = (n : Int) := hn
  have h4 := hE.sh2
  have h5 : n < 2 ^ 24 := qo hn2 (qp (by omega) (by have := h2.k2; omega))
  have : n = m' := by omega
  omega
 have hn1 : pre ++ [(p' : Int)] ≠ [] := by simp
 have htick : (Th b (p' : Int)).1 = (b.1, Og b (p' : Int), (Nh b (p' : Int)).1, (Er b (p' : Int)).1, Xi b (p' : Int), b.2.2.2.2.2.1 + 1, ()) := by rw [eq]
 have hplen : ((pre ++ [(p' : Int)]).length : Int) = (pre.length : Int) + 1 := by simp
 have hSlen : S.length + (Tl b (p' : Int)).length ≤ 64 := by
  rw [Nat.mul_add, Nat.mul_one] at hc
  obtain ⟨a', ha'⟩ : ∃ a' : Nat, Xi b (p' : Int) = (a' : Int) := by
   obtain ⟨o, p2, a', hA⟩ := Hag hP.i.acc hx
   exact ⟨a', hA.ha⟩
  have := hsum a a' ha ha'
  omega
 rw [htick]
 refine ⟨hS.mat, ?_, ?_, ?_, ?_, ?_, ?_, fun h => absurd h hn1, ?_, fun _ => ?_, fun _ => ?_, fun _ => ?_, ?_, fun _ => by simp⟩
 ·refine WY (ZW b0.1) hS.acc ?_
  unfold ZW
  rw [← hS.mat, hx, hE.acc]
  rfl
 ·refine WY R7 hS.dbr ?_
  unfold R7
  have hok : Sm b.2.1 (Xi b (p' : Int)) = true := (LF (CK (NK hP.i) hx)).2.2
  simp only
  rw [hok, hE.deb]
  rfl
 ·rw [IB X7, hS.evs]
  simp only [Sa]
  unfold X7
  rw [hE.sh2]
  have G4 : (2 : Nat) ^ 24 = 16777216 := by decide
  rw [Aa (show 0 ≤ ((m' : Nat) : Int) ∧ ((m' : Nat) : Int) < 4294967296 by omega), hS.ls]
  simp only [cond_true, js]
  have : Tl b (p' : Int) = XG b.2.1.2.2.2.1 (m' : Int) (pre.length : Int) := by unfold Tl; rw [hE.sh2, htm]
  rw [this]
  rfl
 ·simp [hS.la]
 ·simp [hS.ls]
 ·show b.2.2.2.2.2.1 + 1 = _
  rw [hplen, htm]
 ·show (Og b (p' : Int)).2.1 = _
  rw [(BR (CK (NK hP.i) hx)).2]
  exact hS.dtm
 ·show (Nh b (p' : Int)).1.2.2.2.1 + 1 = b.2.2.2.2.2.1 + 1
  have := (VG 64 (Ug b.2.2.1 (Tl b (p' : Int)) b.2.2.2.2.2.1) []).2
  have h2 : (Nh b (p' : Int)).1.2.2.2.1 = b.2.2.2.2.2.1 := this
  rw [h2]
 ·rw [hplen, show (pre.length : Int) + 1 - 1 = b.2.2.2.2.2.1 by omega]
  by_cases hp0 : pre = []
  ·obtain ⟨hb, hS0, hG0, _⟩ := hS.base hp0
   rw [hG0, hS0, ← hb]
   rfl
  ·have hcs := Vag (c := b0.2.2.1) (l1 := S) (l2 := Tl b (p' : Int)) (t1 := (pre.length : Int) - 1) (t2 := b.2.2.2.2.2.1) ⟨fun y hy => (LT hP.i.kc2 hE1 y hy).1, fun y hy => by have := (LT hP.i.kc2 hE1 y hy).2; have := hS.nw hp0; omega, by omega⟩ (by rw [hq0]; simp; omega)
   rw [hS.cmb hp0] at hcs
   rw [hcs]
   rfl
 ·rw [hplen, show (pre.length : Int) + 1 - 1 = b.2.2.2.2.2.1 by omega]
  by_cases hp0 : pre = []
  ·obtain ⟨hb, _, hG0, hs0⟩ := hS.base hp0
   rw [hG0, hs0, ← hb, eq]
   rfl
  ·have hcs := Ean (d := b0.2.2.2.1) (l1 := G) (l2 := (Nh b (p' : Int)).2) (t1 := (pre.length : Int) - 1) (t2 := b.2.2.2.2.2.1) ⟨fun y hy => (XF hE2 y hy).1, fun y hy => by have := (XF hE2 y hy).2.1; have := hS.nw hp0; omega, by omega⟩
   rw [hS.dec hp0] at hcs
   rw [hcs, eq]
   rfl
 ·intro s2 a2 h1 h2
  have h1' : (Og b (p' : Int)).2.2.2.1 = (s2 : Int) := h1
  have h2' : Xi b (p' : Int) = (a2 : Int) := h2
  have e : s2 = m' := by have := hE.sh2; omega
  subst e
  have := hsum a a2 ha h2'
  rw [qi, qi, List.length_singleton, Nat.mul_add, Nat.mul_one]
  omega
def VL (kc v : Nat) : Nat → List Int → Prop
 | _, [] => True
 | p, x :: l => ∃ p' : Nat, x = (p' : Int) ∧ p' < 2 ^ kc ∧ Pf 32 p p' ≤ v ∧ VL kc v p' l
theorem Aae {b0 : Mb} {kc keys ct dt v K : Nat} (hq0 : b0.2.2.1.2.2.1 = []) (hm : ∀ p' : Nat, p' < 2 ^ kc → Pb b0.1 (p' : Int) = true) (hK : 2 * kc ≤ K) (h64 : v * (ct + dt) + K + v ≤ 64) :
 ∀ (l : List Int) (pre : List Int) (b : Mb) (sent : List Yc) (p : Nat), U6 b0 pre b sent kc keys ct dt v K p → VL kc v p l → v * (pre.length + l.length) ≤ 64 → pre.length + l.length ≤ 200 →
  ∃ (b' : Mb) (sent' : List Yc) (p' : Nat), Sa (fun _ s x => ME s x) 0 (b, sent) l = .inl (b', sent') ∧ U6 b0 (pre ++ l) b' sent' kc keys ct dt v K p'
 | [], pre, b, sent, p, h, _, _, _ => ⟨b, sent, p, rfl, by rw [List.append_nil]; exact h⟩
 | x :: l, pre, b, sent, p, h, hN, hc, h2 => by
  obtain ⟨p', rfl, hpk, hv, hN'⟩ := hN
  simp only [jw] at hc h2
  have hmat : b.1 = b0.1 := by obtain ⟨_, _, _, _, _, _, hS, _⟩ := h; exact hS.mat
  have hmul : v * (pre.length + 1) ≤ v * (pre.length + (l.length + 1)) := Nat.mul_le_mul_left _ (by omega)
  obtain ⟨b1, s1, e1, h1⟩ := Sar h hq0 (by rw [hmat]; exact hm p' hpk) hpk hv (by omega) hK h64 (by omega)
  obtain ⟨b2, s2, p2, e2, h2⟩ := Aae hq0 hm hK h64 l (pre ++ [(p' : Int)]) b1 s1 p' h1 hN' (by rw [qi, List.length_singleton]; rw [show pre.length + 1 + l.length = pre.length + (l.length + 1) by omega]; exact hc) (by simp; omega)
  refine ⟨b2, s2, p2, ?_, by rw [List.append_assoc] at h2; exact h2⟩
  simp only [Sa]
  rw [e1]
  show Sa (fun _ s x => ME s x) (0 + 1) (b1, s1) l = _
  rw [Aw ME l (0 + 1) 0]
  exact e2
theorem QO (n a : Nat) : Pf n a a = 0 := by
 induction n with
 | zero => rfl
 | succ n ih => show Pf n a a + cond (a.testBit n ^^ a.testBit n) 1 0 = 0; rw [ih]; simp
theorem H4 {kc keys ct dt v dT T0 : Nat} {z : La} (h1 : 1 ≤ dT) (hT : T0 ≤ 1000) : ∀ (n : Nat) (b : Mb) (sent : List Yc) (K p j δ : Nat), VS b kc keys ct dt v K p dT T0 j → Pb b.1 0 = true → Pf 32 p 0 ≤ v + δ → 2 * kc ≤ K → v * (ct + dt) + K + v + δ ≤ 64 → j + n ≤ 91 →
 Vo z sent = Uc b.2.2.2.1.1.2.2.2.1 →
 ∃ (b' : Mb) (sent' : List Yc) (K' p' : Nat), Sa (fun _ s x => ME s x) 0 (b, sent) (List.replicate n (0 : Int)) = .inl (b', sent') ∧ VS b' kc keys ct dt v K' p' dT T0 (j + n) ∧ Vo z sent' = Uc b'.2.2.2.1.1.2.2.2.1
 | 0, b, sent, K, p, j, δ, h, _, _, _, _, _, hL => ⟨b, sent, K, p, rfl, h, hL⟩
 | n + 1, b, sent, K, p, j, δ, h, hx, hv, hK, h64, hj, hL => by
  obtain ⟨b1, s1, e1, h2, hm, g, g', m, m', hE⟩ := Aai h hx hv (by omega) hK h64 (by omega) h1
  have hL1 := T4 hE hL
  rw [e1] at hL1
  obtain ⟨b2, s2, K2, p2, e2, h3, hL2⟩ := H4 h1 hT n b1 (sent ++ s1) (K + δ) 0 (j + 1) 0 h2 (by rw [hm]; exact hx) (by rw [QO]; omega) (by omega) (by omega) (by omega) hL1
  refine ⟨b2, s2, K2, p2, ?_, by rw [show j + (n + 1) = j + 1 + n by omega]; exact h3, hL2⟩
  have hg : ME (b, sent) 0 = .inl (b1, sent ++ s1) := by
   unfold ME
   simp only
   rw [e1]
   rfl
  rw [List.replicate_succ]
  simp only [Sa]
  rw [hg]
  show Sa (fun _ s x => ME s x) (0 + 1) (b1, sent ++ s1) (List.replicate n (0 : Int)) = _
  rw [Aw ME (List.replicate n (0 : Int)) (0 + 1) 0]
  exact e2
def Xy (kind time : Int) (n : Nat) : Ib := (kind, time, (n : Int), (0 : Int), (0 : Int), List.replicate n (99 : Int), ())
theorem F9 {kind time : Int} {n : Nat} (h1 : 0 ≤ kind ∧ kind ≤ 2) (h2 : 1 ≤ time ∧ time ≤ 20) (h3 : 1 ≤ n ∧ n ≤ 24) : Bd (Xy kind time n) = true := by
 have hm : Ff (n : Int) 0 = true := by
  unfold Ff
  have := Nat.two_pow_pos (n : Int).toNat
  exact Aa (by omega)
 have ha : GI (List.replicate n (99 : Int)) = true := by
  unfold GI
  refine (Al (p := fun x : Int => decide ((0 : Int) ≤ x ∧ x ≤ 99))).2 fun x hx => ?_
  rw [List.eq_of_mem_replicate hx]
  rfl
 unfold Bd Xy
 simp only
 rw [Aa h1, Aa h2, Aa (show 1 ≤ (n : Int) ∧ (n : Int) ≤ 24 by omega), hm, ha]
 simp
theorem U8 (n : Nat) : Zd (fun _ (s : List Int) => jf s [(99 : Int)]) n [] = List.replicate n (99 : Int) := by
 induction n with
 | zero => rfl
 | succ n ih =>
  show jf (Zd _ n []) [(99 : Int)] = _
  rw [ih, List.append_eq, ← List.replicate_succ']
theorem Q2 {kind time : Int} {n : Nat} (h1 : 0 ≤ kind ∧ kind ≤ 2) (h2 : 1 ≤ time ∧ time ≤ 20) (h3 : 1 ≤ n ∧ n ≤ 24) : Ds kind time (n : Int) = some (Xy kind time n, true, ()) := by
 have hB := F9 h1 h2 h3
 have hl := Un (step := fun x => Hm x.1.1 x.1.2.1 x.1.2.2.1 x.1.2.2.2.1 x.2.1 x.2.2.1) n (by omega) (fun _ (s : List Int) => jf s [(99 : Int)]) []
  (fun s i => (((n : Int), (), (), i, ()), (FK, (kind, time, (n : Int), (0 : Int), (0 : Int), s, ()), ()))) (fun s => .inl (((), (), ()), (FK, (kind, time, (n : Int), (0 : Int), (0 : Int), s, ()), ()))) (by
   intro k hk
   have hlen : (Zd (fun _ (s : List Int) => jf s [(99 : Int)]) k []).length = k := by rw [U8]; simp
   generalize Zd (fun _ (s : List Int) => jf s [(99 : Int)]) k [] = s at hlen ⊢
   simp only [Hm]
   rw [Aa (show (k : Int) < (n : Int) by omega), Aa (show (n : Int) ≤ 24 by omega), Gg (by simp only [jw, qb]; omega)]
   rfl) (by
   simp only [Hm]
   rw [Ca (by omega)]; rfl)
 unfold Ds Qo
 erw [hl]
 simp only [jb, qn]
 rw [U8]
 have e := OE (Xy kind time n) (by show (List.replicate n (99 : Int)).length ≤ Ga; rw [yb]; have : Ga = 1048576 := rfl; omega)
 rw [hB] at e
 unfold Xy at e
 rw [e]
 rfl
def Yk (L : List Ja) (term : Int) : Da := (L, term, ([] : List Ba), (0 : Int), (0 : Int), (0 : Int), ([] : List Ba), ())
theorem E9 {L : List Ja} {term : Int} (kc : Nat) (hL : Ke L = true) (ht : 1 ≤ term ∧ term ≤ 200) : IM kc (Yk L term) 0 0 := by
 refine ⟨⟨rfl, by decide, ⟨fun x hx => by simp [Yk, Vb] at hx⟩, fun x hx => by simp [Yk, Vb] at hx, by simp [Yk, Vb], by simp [Yk, Vb], by simp [Yk, Vb], hL⟩, ht, ⟨Int.le_refl _, by show (0 : Int) ≤ 1000000; omega⟩, ⟨Int.le_refl _, Int.le_refl _⟩, by show 0 ≤ 64; omega, 0, 0, Int.le_refl _, Int.le_refl _, ?_⟩
 have : Tm (Yk L term) 0 = 0 := by show 0 ||| Df [] = 0; simp [Df]
 rw [this]
 exact Js _ _ (by decide)
theorem N2 {L : List Ja} {term : Int} (hL : Ke L = true) (ht : 1 ≤ term ∧ term ≤ 200) (hn : L.length ≤ 8) : Ah L term = some (Yk L term, true, ()) := by
 have h20 : Ga = 1048576 := rfl
 have hB := NY (kc := 24) (jo _) (E9 24 hL ht)
 have hz : Vj (Yk L term) := ⟨by show L.length ≤ _; omega, by show 0 ≤ _; omega, by show 0 ≤ _; omega, fun x hx => by simp [Yk] at hx⟩
 have e1 := LH _ hz
 have e2 := ML _ hz
 rw [hB] at e1
 unfold Ah
 unfold Yk at e1 e2 ⊢
 rw [e1, e2]
 rfl
theorem Sax {m : Md} {kind time term : Int} {n keys ct dt v K : Nat} {L : List Ja} {M : Hb} {Ms : List (List Xb)} {t : Mp} (hm : Bf m = true) (hk : Mc m = (n : Int)) (hn : 1 ≤ n ∧ n ≤ 24) (hnk : n ≤ keys) (hk32 : keys ≤ 32)
 (h1 : 0 ≤ kind ∧ kind ≤ 2) (h2 : 1 ≤ time ∧ time ≤ 20) (hL : Ke L = true) (hLm : ∀ x ∈ L, Pb m x.1 = true ∧ x.2.1 < (keys : Int)) (ht : 1 ≤ term ∧ term ≤ 200) (hct : term = (ct : Int))
 (hM : Wd M = true) (hMk : M.1 = (keys : Int)) (h3 : Ms.length ≤ 4) (hMs : ∀ x ∈ Ms, Vd x = true ∧ x.length ≤ 6) (htt : Se t = true) (hdt : t.1 = (dt : Int)) :
 UL (m, Xy kind time n, Yk L term, Zm (Sl M Ms) t, (0 : Int), (0 : Int), ()) n keys 0 ct dt v K 0 := by
 have hmask0 : Pb m 0 = true := by
  unfold Pb
  rw [hm]
  have : Ff (Mc m) 0 = true := by
   unfold Ff
   have := Nat.two_pow_pos (Mc m).toNat
   exact Aa (by omega)
  rw [this]; rfl
 have h0 : Rm ([] : List Va) 0 := ⟨by decide, fun j => by simp [Co]⟩
 refine ⟨⟨hm, hk, hn.2, hnk, hk32, F9 h1 h2 hn, rfl, hmask0, hLm, ⟨0, 0, E9 n hL ht, rfl, by show 0 ||| Jj [] = 0; simp [Jj]⟩, ⟨Vap hM hMk h3 hMs htt, 0, 0, 0, h0, Js _ _ (by decide), Int.le_refl _, Int.le_refl _⟩, ⟨Int.le_refl _, by show (0 : Int) ≤ 1000000; omega⟩, Int.le_refl _, Int.le_refl _⟩,
  rfl, fun x r h => by simp [Yk] at h, fun x r h => by simp [Zm] at h, ⟨⟨0, 0, rfl, rfl, by rw [QO]; omega, fun pre y r h => by simp [Yk] at h, fun pre y r h => by simp [Zm] at h⟩, hct, hdt, fun y r h => by simp [Yk] at h, fun y r h => by simp [Zm] at h⟩, .inr ⟨rfl, rfl⟩, Nat.two_pow_pos n⟩
theorem Kaj {b : Mb} {kc keys g ct dt v K p : Nat} (h : UL b kc keys g ct dt v K p) (hL : b.2.2.1.1.length ≤ 100) : Xv b := by
 have h20 : Ga = 1048576 := rfl
 have hd := Xt h.i.db
 have hdl := hd.len
 have hdk := hd.k2
 obtain ⟨D, m, hC, _, _⟩ := h.i.cb
 have hcl := hC.len
 have hal := ET (NY h.i.kc2 hC)
 have he := ER h.i.dc.i.pl.eng
 have hq := h.i.dc.i.pl.len
 have hr := hC.s.m
 refine ⟨by omega, ⟨by omega, by omega, by show (Vb b.2.2.1).length ≤ _; omega, fun x hx => by have := hr.b x hx; omega⟩, ?_⟩
 rw [Jv, Qm]
 omega
theorem L2 {m : Md} {d : Ib} {c : Da} {x : Xa} {kc keys g ct dt v K p : Nat} (h : UL (m, d, c, x, (0 : Int), (0 : Int), ()) kc keys g ct dt v K p) (hL : c.1.length ≤ 100) : Je m d c x = some ((m, d, c, x, (0 : Int), (0 : Int), ()), true, ()) := by
 have hB := NK h.i
 have hz := Kaj h hL
 unfold Je
 rw [B0 _ hz, hB, J0 _ hz]
 rfl
theorem Oav (n a b c : Nat) : Pf n a c ≤ Pf n a b + Pf n b c := by
 induction n with
 | zero => exact jo _
 | succ n ih =>
  show Pf n a c + cond (a.testBit n ^^ c.testBit n) 1 0 ≤ (Pf n a b + cond (a.testBit n ^^ b.testBit n) 1 0) + (Pf n b c + cond (b.testBit n ^^ c.testBit n) 1 0)
  cases a.testBit n <;> cases b.testBit n <;> cases c.testBit n <;> simp <;> omega
theorem Nav (n a i : Nat) : Pf n a (a ^^^ 2 ^ i) ≤ cond (decide (i < n)) 1 0 := by
 induction n with
 | zero => simp [Pf]
 | succ n ih =>
  show Pf n a (a ^^^ 2 ^ i) + cond (a.testBit n ^^ (a ^^^ 2 ^ i).testBit n) 1 0 ≤ _
  rw [qq, qr]
  by_cases h : i = n
  ·subst h
   rw [Ca (show ¬ i < i by omega)] at ih
   rw [Aa (show i < i + 1 by omega), Aa rfl]
   simp only [cond_false, cond_true] at ih ⊢
   cases a.testBit i <;> simp <;> omega
  ·rw [show decide (i = n) = false from decide_eq_false h]
   by_cases h2 : i < n
   ·rw [Aa h2] at ih
    rw [Aa (show i < n + 1 by omega)]
    simp at ih ⊢; exact ih
   ·rw [Ca h2] at ih
    rw [Ca (show ¬ i < n + 1 by omega)]
    simp at ih ⊢; exact ih
theorem J1 (a i : Nat) : Pf 32 a (a ^^^ 2 ^ i) ≤ 1 := by
 have := Nav 32 a i
 cases h : decide (i < 32) <;> rw [h] at this <;> simp at this <;> omega
def JZ (p : Nat) (l : List Int) : Nat := l.foldl (fun _ x => x.toNat) p
theorem C4 {kc v : Nat} {q' : Nat} (hq : q' < 2 ^ kc) : ∀ (l : List Int) (p : Nat), VL kc v p l → Pf 32 (JZ p l) q' ≤ v → VL kc v p (l ++ [(q' : Int)])
 | [], p, _, h => ⟨q', rfl, hq, h, trivial⟩
 | x :: l, p, hN, h => by
  obtain ⟨p', rfl, h1, h2, h3⟩ := hN
  exact ⟨p', rfl, h1, h2, C4 hq l p' h3 h⟩
theorem Oah (p q : Nat) (l : List Int) : JZ p (l ++ [(q : Int)]) = q := by
 unfold JZ
 rw [List.foldl_append]
 simp
theorem Iai {c : Ab} (hc : Uh c) {kc most : Nat} (h1 : 1 ≤ kc ∧ kc ≤ 24) (hm : most ≤ 200) : ∃ (c' : Ab) (l : List Int), It c (kc : Int) (most : Int) = some (c', (l, ())) ∧ Uh c' ∧ l.length ≤ most ∧ VL kc 2 0 l := by
 obtain ⟨c1, x, e1, hc1, b1⟩ := Eh hc ((most : Int) + 1) (by omega)
 obtain ⟨z, rfl⟩ := jv b1.1
 unfold It
 rw [Xc (n := (most : Int) + 1) (by omega) (by omega), e1]
 simp only [jb]
 have tog : ∀ (q i : Nat), q < 2 ^ kc → i < kc → Kf .i64 (q : Int) (Ra .i64 1 (i : Int)) = ((q ^^^ 2 ^ i : Nat) : Int) ∧ q ^^^ 2 ^ i < 2 ^ kc := by
  intro q i hq hi
  have h63 : q < 2 ^ 63 := qo hq (qp (by omega) (by omega))
  have hi2 : 2 ^ i < 2 ^ kc := Nat.pow_lt_pow_right (by omega) hi
  rw [Qf (by omega), Mo h63 (Gf (by omega))]
  exact ⟨rfl, qu hq hi2⟩
 have step := Uy (s := fun x : ((Unit × (Int × ((List Int) × Ja))) × (Ab × Unit)) => Iz x.1.1 x.1.2.1 x.1.2.2.1 x.1.2.2.2.1 x.1.2.2.2.2.1 x.2.1)
  (fun z y => ∃ (c' : Ab) (l : List Int) (q : Nat), y = (((), (kc : Int), l, (q : Int), (z : Int), ()), (c', ())) ∧ Uh c' ∧ VL kc 2 0 l ∧ JZ 0 l = q ∧ q < 2 ^ kc ∧ l.length + z ≤ most)
  (fun r => ∃ (c' : Ab) (l : List Int), r = .inl (((), l, ()), (c', ())) ∧ Uh c' ∧ VL kc 2 0 l ∧ l.length ≤ most) (by
  rintro z y ⟨c', l, q, rfl, hc', hN, hq, hqk, hl⟩
  simp only [Iz]
  by_cases h0 : (z : Int) > 0
  ·rw [Aa h0]
   obtain ⟨c2, b2, e2, hc2⟩ := Ct hc' 3 (by omega)
   have hw : j9 .i64 ((z : Int) - 1) = ((z - 1 : Nat) : Int) := by rw [Xc (by omega) (by omega)]; omega
   have lim1 : ∀ x : Int, jx (ja l + ja ([x] : List Int)) Bb = true := fun x => Gg (by simp only [jw, qb]; omega)
   have Hg : ∀ (c5 : Ab) (q' : Nat), Uh c5 → q' < 2 ^ kc → Pf 32 q q' ≤ 2 → ∃ (w : ((Unit × (Int × ((List Int) × Ja))) × (Ab × Unit))) (m : Nat), m < z ∧ (some (Sum.inl (((), (kc : Int), jf l [(q' : Int)], (q' : Int), ((z - 1 : Nat) : Int), ()), (c5, ()))) : Option (((Unit × (Int × ((List Int) × Ja))) × (Ab × Unit)) ⊕ (((Unit × ((List Int) × Unit)) × (Ab × Unit)) ⊕ (Unit × Unit)))) = some (Sum.inl w) ∧
    ∃ (c' : Ab) (l : List Int) (q : Nat), w = (((), (kc : Int), l, (q : Int), (m : Int), ()), (c', ())) ∧ Uh c' ∧ VL kc 2 0 l ∧ JZ 0 l = q ∧ q < 2 ^ kc ∧ l.length + m ≤ most := by
    intro c5 q' hc5 hq' hh
    refine ⟨_, z - 1, by omega, rfl, c5, _, q', rfl, hc5, ?_, ?_, hq', ?_⟩
    ·exact C4 hq' l 0 hN (by rw [hq]; exact hh)
    ·exact Oah 0 q' l
    ·rw [List.append_eq, qi, List.length_singleton]; omega
   rw [e2]
   simp only [cond_true, jb]
   cases b2 with
   | true =>
    obtain ⟨c3, i, e3, hc3, bi⟩ := Eh hc2 (kc : Int) (by omega)
    obtain ⟨i, rfl⟩ := jv bi.1
    obtain ⟨t1, t2⟩ := tog q i hqk (by omega)
    obtain ⟨c4, b4, e4, hc4⟩ := Ct hc3 9 (by omega)
    have g1 := J1 q i
    simp only [cond_true, e3, jb, Aa bi.1, e4, t1, hw]
    cases b4 with
    | true =>
     obtain ⟨c5, j, e5, hc5, bj⟩ := Eh hc4 (kc : Int) (by omega)
     obtain ⟨j, rfl⟩ := jv bj.1
     obtain ⟨t3, t4⟩ := tog (q ^^^ 2 ^ i) j t2 (by omega)
     have g2 := J1 (q ^^^ 2 ^ i) j
     have g3 := Oav 32 q (q ^^^ 2 ^ i) (q ^^^ 2 ^ i ^^^ 2 ^ j)
     simp only [cond_true, e5, jb, Aa bj.1, t3, lim1]
     exact .inr (Hg c5 _ hc5 t4 (by omega))
    | false =>
     simp only [cond_false, lim1, cond_true]
     exact .inr (Hg c4 _ hc4 t2 (by omega))
   | false =>
    obtain ⟨c4, b4, e4, hc4⟩ := Ct hc2 9 (by omega)
    simp only [cond_false, e4, jb, hw]
    cases b4 with
    | true =>
     obtain ⟨c5, j, e5, hc5, bj⟩ := Eh hc4 (kc : Int) (by omega)
     obtain ⟨j, rfl⟩ := jv bj.1
     obtain ⟨t3, t4⟩ := tog q j hqk (by omega)
     have g2 := J1 q j
     simp only [cond_true, e5, jb, Aa bj.1, t3, lim1]
     exact .inr (Hg c5 _ hc5 t4 (by omega))
    | false =>
     simp only [cond_false, lim1, cond_true]
     exact .inr (Hg c4 _ hc4 hqk (by rw [QO]; omega))
  ·rw [Ca h0]
   exact .inl ⟨_, rfl, c', l, rfl, hc', hN, by omega⟩) z (((), (kc : Int), ([] : List Int), (0 : Int), (z : Int), ()), (c1, ())) ⟨c1, [], 0, rfl, hc1, trivial, rfl, Nat.two_pow_pos kc, by simp; omega⟩
 obtain ⟨r, e, c', l, rfl, h⟩ := step
 unfold Jt
 erw [e]
 exact ⟨c', l, rfl, h.1, h.2.2, h.2.1⟩
structure U0 (b : Mb) (n keys ct dt dT v K : Nat) : Prop where
 p : UL b n keys 0 ct dt v K 0
 n1 : 2 ≤ n
 n6 : n ≤ 6
 c4 : 1 ≤ ct
 d9 : dt ≤ 9
 hdT : b.2.1.2.1 = (dT : Int)
 dT1 : 1 ≤ dT
 tm : b.2.2.2.2.2.1 = 0
 cq : b.2.2.1.2.2.1 = []
 dq : b.2.2.2.1.2.2.1 = []
 hd : b.2.2.2.1.1.2.2.2.1 = []
 cl : b.2.2.1.1.length ≤ 2
 acc : b.2.2.2.2.1 = 0
 sh : b.2.1.2.2.2.1 = 0
 msk : ∀ p' : Nat, p' < 2 ^ n → Pb b.1 (p' : Int) = true
noncomputable def Oai (c : Ab) (L : List Ja) (m : Md) (d : Ib) (n : Int) : Option (Ab × (Mb × Unit)) :=
 (jz (Cb c (4 : Int)) fun r10 =>
 (jz (Ah L (j8 .i64 ((1 : Int) + r10.2.1))) fun r11 =>
 (jz (Rf r10.1 (j8 .i64 (n + (2 : Int)))) fun r12 =>
 (cond (decide (((ja L : Nat) : Int) > (0 : Int)))
 (jz (Rf r12.1 (26 : Int)) fun r13 =>
 (jz (Je m d r11.1 r13.2.1) fun r14 =>
 (some (r13.1, (r14.1, ())))))
 (jz (Je m d r11.1 r12.2.1) fun r15 =>
 (some (r12.1, (r15.1, ()))))))))
theorem Ran {t : Mp} (h : Se t = true) : 1 ≤ t.1 := by
 simp only [Se, jd, decide_eq_true_eq] at h
 omega
theorem Hay {c : Ab} (hc : Uh c) {L : List Ja} {R C n : Nat} {d : Bool} {kind : Int} {dT : Nat} (hD : RG C R) (hn : n = R * C) (hn2 : 2 ≤ n ∧ n ≤ 6) (h1 : 0 ≤ kind ∧ kind ≤ 2) (h2 : 1 ≤ dT ∧ dT ≤ 3) (hL : Ke L = true)
 (hLm : ∀ x ∈ L, (∃ p : Nat, x.1 = (p : Int) ∧ p < 2 ^ n) ∧ x.2.1 < 26) (hL2 : L.length ≤ 2) :
 ∃ (c' : Ab) (b : Mb) (keys ct dt : Nat), Oai c L ((R : Int), (C : Int), d, ()) (Xy kind (dT : Int) n) (n : Int) = some (c', (b, ())) ∧ Uh c' ∧ U0 b n keys ct dt dT 2 12 ∧ ct ≤ 4 := by
 have hm0 : Pb ((R : Int), (C : Int), d, ()) ((0 : Nat) : Int) = true := PC hD (Nat.two_pow_pos _)
 have hmk : ∀ p' : Nat, p' < 2 ^ n → Pb ((R : Int), (C : Int), d, ()) (p' : Int) = true := fun p' hp => PC hD (by rw [← hn]; exact hp)
 have hmat : Bf ((R : Int), (C : Int), d, ()) = true := by
  simp only [Pb, jd] at hm0
  exact hm0.1
 have hkc : Mc ((R : Int), (C : Int), d, ()) = (n : Int) := by
  unfold Mc
  rw [hmat, hn]
  simp
 obtain ⟨c1, x, e1, hc1, b1⟩ := Eh hc 4 (by omega)
 obtain ⟨x, rfl⟩ := jv b1.1
 have hterm : j9 .i64 ((1 : Int) + (x : Int)) = ((1 + x : Nat) : Int) := by rw [Xc (by omega) (by omega)]; omega
 obtain ⟨c2, m2, M2, t2, e2, hc2, q1, q2, q3, q4, q5, q6⟩ := V3 hc1 (keys := n + 2) (by omega) (by omega)
 have hn22 : j9 .i64 ((n : Int) + 2) = ((n + 2 : Nat) : Int) := by rw [Xc (by omega) (by omega)]; omega
 have e3 := N2 (L := L) (term := ((1 + x : Nat) : Int)) hL (by omega) (by omega)
 unfold Oai
 rw [e1]
 simp only [jb, hterm, e3, hn22, e2]
 have brd : ∀ {keys : Nat} {m3 : Hb} {M3 : List (List Xb)} {t3 : Mp}, n ≤ keys → keys ≤ 32 → (∀ x ∈ L, x.2.1 < (keys : Int)) → Wd m3 = true → m3.1 = (keys : Int) → M3.length ≤ 3 → (∀ x ∈ M3, Vd x = true ∧ x.length ≤ 6) → Se t3 = true → t3.1 ≤ 9 →
  ∃ ct dt : Nat, Je ((R : Int), (C : Int), d, ()) (Xy kind (dT : Int) n) (Yk L ((1 + x : Nat) : Int)) (Zm (Sl m3 M3) t3) = some ((((R : Int), (C : Int), d, ()), Xy kind (dT : Int) n, Yk L ((1 + x : Nat) : Int), Zm (Sl m3 M3) t3, (0 : Int), (0 : Int), ()), true, ()) ∧
   U0 (((R : Int), (C : Int), d, ()), Xy kind (dT : Int) n, Yk L ((1 + x : Nat) : Int), Zm (Sl m3 M3) t3, (0 : Int), (0 : Int), ()) n keys ct dt dT 2 12 ∧ ct ≤ 4 := by
  intro keys m3 M3 t3 k1 k2 k3 k4 k5 k6 k7 k8 k9
  have hlo := Ran k8
  obtain ⟨dt, hdt⟩ := jv (show 0 ≤ t3.1 by omega)
  have hB := Sax (v := 2) (K := 12) (m := ((R : Int), (C : Int), d, ())) (kind := kind) (time := (dT : Int)) (term := ((1 + x : Nat) : Int)) (n := n) (keys := keys) (ct := 1 + x) (dt := dt) (L := L) (M := m3) (Ms := M3) (t := t3) hmat hkc (by omega) k1 k2 h1 (by omega) hL
   (fun y hy => by obtain ⟨⟨p, hp, hp2⟩, _⟩ := hLm y hy; exact ⟨by rw [hp]; exact hmk p hp2, k3 y hy⟩) (by omega) rfl k4 k5 (by omega) k7 k8 hdt
  refine ⟨1 + x, dt, L2 hB (by show L.length ≤ 100; omega), ⟨hB, hn2.1, hn2.2, by omega, by omega, rfl, h2.1, rfl, rfl, rfl, rfl, hL2, rfl, rfl, hmk⟩, by omega⟩
 by_cases hl0 : ((ja L : Nat) : Int) > 0
 ·rw [Aa hl0]
  obtain ⟨c3, m3, M3, t3, e4, hc3, r1, r2, r3, r4, r5, r6⟩ := V3 hc2 (keys := 26) (by omega) (by omega)
  have e4' : Rf c2 26 = some (c3, (Zm (Sl m3 M3) t3, ())) := e4
  rw [e4']
  obtain ⟨ct, dt, e5, h5, h6⟩ := brd (keys := 26) (by omega) (by omega) (fun y hy => (hLm y hy).2) r1 r2 r3 r4 r5 r6
  simp only [cond_true, jb, e5]
  exact ⟨c3, _, 26, ct, dt, rfl, hc3, h5, h6⟩
 ·rw [Ca hl0]
  have hLn : L = [] := List.eq_nil_of_length_eq_zero (by omega)
  obtain ⟨ct, dt, e5, h5, h6⟩ := brd (keys := n + 2) (by omega) (by omega) (fun y hy => by rw [hLn] at hy; simp at hy) q1 q2 q3 q4 q5 q6
  simp only [cond_false, jb, e5]
  exact ⟨c2, _, n + 2, ct, dt, rfl, hc2, h5, h6⟩
theorem Sak {c : Ab} (hc : Uh c) : ∃ (c' : Ab) (b : Mb) (n keys ct dt dT : Nat), IG c = some (c', (b, ())) ∧ Uh c' ∧ U0 b n keys ct dt dT 2 12 ∧ ct ≤ 4 ∧ dT ≤ 3 := by
 obtain ⟨c1, x1, e1, hc1, b1⟩ := Eh hc 2 (by omega)
 obtain ⟨x1, rfl⟩ := jv b1.1
 obtain ⟨c2, x2, e2, hc2, b2⟩ := Eh hc1 2 (by omega)
 obtain ⟨x2, rfl⟩ := jv b2.1
 obtain ⟨c3, d, e3, hc3⟩ := Ct hc2 2 (by omega)
 obtain ⟨c5, x5, e5, hc5, b5⟩ := Eh hc3 3 (by omega)
 obtain ⟨c6, x6, e6, hc6, b6⟩ := Eh hc5 3 (by omega)
 obtain ⟨x6, rfl⟩ := jv b6.1
 have w1 : j9 .i64 ((1 : Int) + (x1 : Int)) = ((1 + x1 : Nat) : Int) := by rw [Xc (by omega) (by omega)]; omega
 have w2 : j9 .i64 ((2 : Int) + (x2 : Int)) = ((2 + x2 : Nat) : Int) := by rw [Xc (by omega) (by omega)]; omega
 have w6 : j9 .i64 ((1 : Int) + (x6 : Int)) = ((1 + x6 : Nat) : Int) := by rw [Xc (by omega) (by omega)]; omega
 have hD : RG (2 + x2) (1 + x1) := ⟨by omega, by omega, by omega, by omega⟩
 obtain ⟨n, hn⟩ : ∃ n, n = (1 + x1) * (2 + x2) := ⟨_, rfl⟩
 have hn2 : 2 ≤ n ∧ n ≤ 6 := by
  have h1 : x1 = 0 ∨ x1 = 1 := by omega
  have h2 : x2 = 0 ∨ x2 = 1 := by omega
  rcases h1 with rfl | rfl <;> rcases h2 with rfl | rfl <;> omega
 have hm0 : Pb (((1 + x1 : Nat) : Int), ((2 + x2 : Nat) : Int), d, ()) ((0 : Nat) : Int) = true := PC hD (Nat.two_pow_pos _)
 have hmat : Bf (((1 + x1 : Nat) : Int), ((2 + x2 : Nat) : Int), d, ()) = true := by
  simp only [Pb, jd] at hm0
  exact hm0.1
 have hkc : Mc (((1 + x1 : Nat) : Int), ((2 + x2 : Nat) : Int), d, ()) = (n : Int) := by
  unfold Mc
  rw [hmat, hn]
  simp
 have e7 := Q2 (kind := x5) (time := ((1 + x6 : Nat) : Int)) (n := n) (by omega) (by omega) (by omega)
 obtain ⟨c8, b8, e8, hc8⟩ := Ct hc6 2 (by omega)
 have l1 : ∀ (a : List Ja) (b : Ja), a.length ≤ 5 → jx (ja a + ja [b]) Bb = true := fun a b h => Gg (by simp only [jw, qb]; omega)
 have p4 : (4 : Nat) ≤ 2 ^ n := qf (show 4 ≤ 2 ^ 2 by decide) (qp (by omega) hn2.1)
 unfold IG
 rw [e1]
 simp only [jb, e2, e3, w1, w2, YC, hkc, e5, e6, w6, e7, e8]
 have Hg : ∀ {c9 : Ab} {L : List Ja}, Uh c9 → Ke L = true → (∀ x ∈ L, (∃ p : Nat, x.1 = (p : Int) ∧ p < 2 ^ n) ∧ x.2.1 < 26) → L.length ≤ 2 →
  ∃ (c' : Ab) (b : Mb) (n keys ct dt dT : Nat), Oai c9 L (((1 + x1 : Nat) : Int), ((2 + x2 : Nat) : Int), d, ()) (Xy x5 ((1 + x6 : Nat) : Int) (( (1 + x1) * (2 + x2)))) (((1 + x1) * (2 + x2) : Nat) : Int) = some (c', (b, ())) ∧ Uh c' ∧ U0 b n keys ct dt dT 2 12 ∧ ct ≤ 4 ∧ dT ≤ 3 := by
  intro c9 L hc9 hL hLm hL2
  obtain ⟨c', b, keys, ct, dt, h1, h2, h3, h4⟩ := Hay (d := d) hc9 hD hn hn2 (show 0 ≤ x5 ∧ x5 ≤ 2 by omega) (show 1 ≤ 1 + x6 ∧ 1 + x6 ≤ 3 by omega) hL hLm hL2
  rw [hn] at h1
  exact ⟨c', b, n, keys, ct, dt, 1 + x6, h1, h2, h3, h4, by omega⟩
 subst hn
 cases b8 with
 | true =>
  simp only [cond_true, l1 [] _ (by simp)]
  by_cases h3 : (((1 + x1) * (2 + x2) : Nat) : Int) > 3
  ·rw [Aa h3]
   have p8 : (8 : Nat) ≤ 2 ^ ((1 + x1) * (2 + x2)) := qf (show 8 ≤ 2 ^ 3 by decide) (qp (by omega) (by omega))
   obtain ⟨c9, b9, e9, hc9⟩ := Ct hc8 2 (by omega)
   rw [e9]
   simp only [cond_true, jb]
   cases b9 with
   | true =>
    simp only [cond_true, l1 (jf [] [((3 : Int), (24 : Int), ())]) _ (by simp)]
    exact Hg (L := [((3 : Int), (24 : Int), ()), ((6 : Int), (25 : Int), ())]) hc9 (by decide) (fun x hx => by
     simp only [jp, List.not_mem_nil, or_false] at hx
     rcases hx with rfl | rfl
     ·exact ⟨⟨3, rfl, by omega⟩, by show (24 : Int) < 26; omega⟩
     ·exact ⟨⟨6, rfl, by omega⟩, by show (25 : Int) < 26; omega⟩) (by simp)
   | false =>
    exact Hg (L := [((3 : Int), (24 : Int), ())]) hc9 (by decide) (fun x hx => by
     simp only [jp, List.not_mem_nil, or_false] at hx
     subst hx
     exact ⟨⟨3, rfl, by omega⟩, by show (24 : Int) < 26; omega⟩) (by simp)
  ·rw [Ca h3]
   exact Hg (L := [((3 : Int), (24 : Int), ())]) hc8 (by decide) (fun x hx => by
    simp only [jp, List.not_mem_nil, or_false] at hx
    subst hx
    exact ⟨⟨3, rfl, by omega⟩, by show (24 : Int) < 26; omega⟩) (by simp)
 | false =>
  simp only [cond_false]
  by_cases h3 : (((1 + x1) * (2 + x2) : Nat) : Int) > 3
  ·rw [Aa h3]
   have p8 : (8 : Nat) ≤ 2 ^ ((1 + x1) * (2 + x2)) := qf (show 8 ≤ 2 ^ 3 by decide) (qp (by omega) (by omega))
   obtain ⟨c9, b9, e9, hc9⟩ := Ct hc8 2 (by omega)
   rw [e9]
   simp only [cond_true, jb]
   cases b9 with
   | true =>
    simp only [cond_true, l1 [] _ (by simp)]
    exact Hg (L := [((6 : Int), (25 : Int), ())]) hc9 (by decide) (fun x hx => by
     simp only [jp, List.not_mem_nil, or_false] at hx
     subst hx
     exact ⟨⟨6, rfl, by omega⟩, by show (25 : Int) < 26; omega⟩) (by simp)
   | false => exact Hg (L := []) hc9 (by decide) (fun x hx => by simp at hx) (by simp)
  ·rw [Ca h3]
   exact Hg (L := []) hc8 (by decide) (fun x hx => by simp at hx) (by simp)
theorem R6 (a : List Int) (ha : a.length ≤ Ga) : ∃ (b : Mb) (l : List Int) (n keys ct dt dT : Nat), IA a = some (b, l, ()) ∧ U0 b n keys ct dt dT 2 12 ∧ ct ≤ 4 ∧ dT ≤ 3 ∧ l.length ≤ 30 ∧ VL n 2 0 l := by
 obtain ⟨c, e0, hc⟩ := Taq a 14 ha
 obtain ⟨c1, b, n, keys, ct, dt, dT, e1, hc1, hB, h1, h2⟩ := Sak hc
 have hn := hB.n1
 have hn6 := hB.n6
 obtain ⟨c2, l, e2, hc2, h3, h4⟩ := Iai hc1 (kc := n) (most := 30) (by omega) (by omega)
 have hk : max (1 : Int) b.2.1.2.2.1 = (n : Int) := by rw [hB.p.i.dk]; omega
 have e2' : It c1 (n : Int) 30 = some (c2, (l, ())) := e2
 unfold IA HE
 rw [e0]
 simp only [jb, e1, hk, e2']
 exact ⟨b, l, n, keys, ct, dt, dT, rfl, hB, h1, h2, h3, h4⟩
structure Pat (b : Mb) (l : List Int) (b1 : Mb) (s1 : List Yc) (accs shs : List Int) (S : List Ba) : Prop where
 run : Lk b l = some (b1, s1, true, ())
 acc : Eo b.1 0 l = some (accs, true, ())
 deb : ∃ d, Ho b.2.1 accs = some (d, shs, true, ())
 evs : Nv shs = some (S, true, ())
 ls : shs.length = l.length
 nil : l = [] → s1 = []
 bat : l ≠ [] → ∃ (c : Da) (G : List Ba), Gi b.2.2.1 S ((l.length : Int) - 1) = some (c, G, true, ()) ∧ Em b.2.2.2.1 G ((l.length : Int) - 1) = some (b1.2.2.2.1, s1, true, ())
 same : Sv s1 s1 = some (true, ())
 sameD : No b1.2.2.2.1 b1.2.2.2.1 = some (true, ())
 last : l ≠ [] → accs[l.length - 1]? = some b1.2.2.2.2.1 ∧ accs.length = l.length
 tm : b1.2.2.2.2.2.1 = (l.length : Int)
structure TaH (b1 : Mb) (s1 : List Yc) (b2 : Mb) (s2 : List Yc) : Prop where
 run : Lk b1 (List.replicate 60 (0 : Int)) = some (b2, s2, true, ())
 len : s1.length + s2.length ≤ 1000000
 sh : b2.2.1.2.2.2.1 = 0
 cq : b2.2.2.1.2.2.1 = []
 dq : b2.2.2.2.1.2.2.1 = []
 dn : b2.2.2.1.2.2.2.2.2.1 = 0
 act : b2.2.2.1.2.2.2.2.2.2.1 = []
 hd : b2.2.2.2.1.1.2.2.2.1 = []
 las : Vo (0, [], ()) (s1 ++ s2) = (0, [], ())
theorem Tan {b : Mb} {l : List Int} {n keys ct dt dT : Nat} (hB : U0 b n keys ct dt dT 2 12) (h4 : ct ≤ 4) (h3 : dT ≤ 3) (hl : l.length ≤ 30) (hN : VL n 2 0 l) :
 ∃ (b1 : Mb) (s1 : List Yc) (accs shs : List Int) (S : List Ba) (b2 : Mb) (s2 : List Yc), Pat b l b1 s1 accs shs S ∧ TaH b1 s1 b2 s2 := by
 have h20 : Ga = 1048576 := rfl
 have hn6 := hB.n6
 have hn1 := hB.n1
 have hd9 := hB.d9
 have hrep0 : Uc ([] : List Va) = (0, [], ()) := by decide
 obtain ⟨D0, m0, hC0, hm0, hg0⟩ := hB.p.i.cb
 have hm00 : m0 = 0 := by have := hB.sh; omega
 have hcn : b.2.2.1.2.2.2.1 = 0 := by have h1 := hC0.now; have h2 := hB.p.i.cn; have := hB.tm; omega
 have hdn : b.2.2.2.1.2.2.2.1 = 0 := by rw [← hB.p.nw]; exact hcn
 have h0 : U6 b [] b [] n keys ct dt 2 12 0 := by
  refine ⟨0, [], [], [], [], hB.p, ⟨rfl, rfl, rfl, ?_, rfl, rfl, by rw [hB.tm]; rfl, fun _ => ⟨rfl, rfl, rfl, rfl⟩, rfl, fun h => absurd rfl h, fun h => absurd rfl h, fun h => absurd rfl h, ?_, fun h => absurd rfl h⟩, ?_, ⟨0, 0, Js _ _ (by decide), by omega, by rw [hB.sh]; rfl⟩, ⟨0, Js _ _ (by decide), by omega⟩⟩
  ·rw [hB.sh]; rfl
  ·intro s a hs ha
   have e1 : s = 0 := by have := hB.sh; omega
   have e2 : a = 0 := by have := hB.acc; omega
   subst e1; subst e2
   rw [QO]; simp
  ·rw [hB.hd, hrep0]; rfl
 obtain ⟨b1, s1, p1, e1, hR⟩ := Aae (K := 12) hB.cq hB.msk (by omega) (by omega) l [] b [] 0 h0 hN (by simp; omega) (by simp; omega)
 rw [List.nil_append] at hR
 obtain ⟨g, accs, shs, S, G, hP, hS, hL, ⟨tS, mS, hES, htS, hmS⟩, ⟨tG, hEG, htG⟩⟩ := hR
 have hsz := Kaj hB.p (by have := hB.cl; omega)
 have hfr := CW l 0 (b, []) (b1, s1) ⟨hsz, by simp, by simp⟩ (by
  rw [J7, Zaj]
  have h1 := ER hB.p.i.dc.i.pl.eng
  have h2 := hsz.d
  have h5 := Xt hB.p.i.db
  have h6 := h5.len
  have h7 := h5.k2
  rw [Jv, Qm, Fab, hB.dq, hB.cq]
  have h8 := hB.cl
  have h9 := ET (NY hB.p.i.kc2 hC0)
  have h9' : b.2.2.1.2.2.2.2.2.2.1.length ≤ 32 := h9
  simp only [qb]
  omega) e1
 have hInv := hfr.1
 have hs1 : s1.length ≤ 1088 * 30 := by
  have h1 := hInv.len
  have h2 : s1.length ≤ 1088 * (0 + l.length) := h1
  omega
 have hrun : Lk b l = some (b1, s1, true, ()) := by
  rw [SU b l hsz]
  unfold Fai
  rw [NK hB.p.i, Ca (show ¬ ((ja l : Nat) : Int) > 200 by omega), e1]
  rfl
 have hacc : Pb b.1 0 = true := hB.msk 0 (Nat.two_pow_pos n)
 have hSlen : S.length ≤ 60 := by
  obtain ⟨s, a, hs, ha, _⟩ := hP.pot.ex
  have := hS.cnt s a hs ha
  omega
 have hla := hS.la
 have hls := hS.ls
 have p1' : Pat b l b1 s1 accs shs S := by
  refine ⟨hrun, Laa (l := l) hacc (by omega) (by have := hS.acc; rw [hB.acc] at this; exact this), ⟨b1.2.1, M1 (l := accs) hB.p.i.db (by omega) hS.dbr⟩, IW (l := shs) (by omega) hS.evs (by show S.length ≤ 64; omega), hls, fun h => (hS.base h).2.2.2, fun h => ?_, L5 s1 (by omega) hInv.rep, V9 hP.i.dc.i, fun h => ⟨?_, hla⟩, hS.tm⟩
  ·have hnw := hS.nw h
   have htm := hS.tm
   have hnw2 := hP.nw
   subst hm00
   have hg00 : Ci b.2.2.1 D0 = 0 := hg0
   obtain ⟨ok1, _⟩ := SV hB.p.i.kc2 hC0 (l := S) (t2 := tS) (m2 := mS) (til := (l.length : Int) - 1) (by rw [hcn]; exact hES) (by omega) (by omega) (by rw [hB.cq]; simp; omega)
   have hcomb : Gi b.2.2.1 S ((l.length : Int) - 1) = some (b1.2.2.1, G, true, ()) := by
    rw [UK _ _ _ hsz.c (by omega)]
    unfold UF
    rw [ok1]
    simp only [cond_true]
    rw [hS.cmb h]
   have hGlen : G.length ≤ 64 := by
    have := TQ 64 (Ug b.2.2.1 S ((l.length : Int) - 1))
    rw [hS.cmb h] at this
    have h2 : (Ug b.2.2.1 S ((l.length : Int) - 1)).2.2.1.length = S.length := by
     show (jf b.2.2.1.2.2.1 S).length = _
     rw [hB.cq]; rfl
    simp only at this
    omega
   obtain ⟨ok2, _⟩ := I3 hB.p.i.dc (l := G) (t := tG) (m2 := g) (til := (l.length : Int) - 1) (by rw [hdn]; exact hEG) (by rw [hB.dq]; simp; omega) (by omega) (by omega)
   refine ⟨_, G, hcomb, ?_⟩
   rw [AH _ _ _ hsz.x (by omega)]
   unfold FG
   rw [ok2]
   simp only [cond_true]
   rw [hS.dec h]
  ·have := hS.las h
   rw [List.getLast?_eq_getElem?, hla] at this
   exact this
 have hq0 := Bai (T0 := l.length) (dT := dT) hP (by rw [hS.dtm]; exact hB.hdT) hS.tm
 have hham : Pf 32 p1 0 ≤ 6 := by
  have := AZ hP.pm (Nat.two_pow_pos n) (32 - n)
  rw [show n + (32 - n) = 32 by omega] at this
  have := I8 n p1 0
  omega
 have hm1 : Pb b1.1 0 = true := by rw [hS.mat]; exact hacc
 obtain ⟨b2, s2, K2, p2, e2, hQ, hL2⟩ := H4 (z := Vo (0, [], ()) s1) hB.dT1 (by omega) 60 b1 [] 12 p1 0 4 hq0 hm1 (by omega) (by omega) (by omega) (by omega) hL
 obtain ⟨q1, q2, q3, q4, q5, q6⟩ := Yam hQ hB.dT1 (by omega)
 have hfr2 := CW (List.replicate 60 (0 : Int)) 0 (b1, []) (b2, s2) ⟨hInv.sz, by simp, by simp⟩ hfr.2 e2
 have hs2 : s2.length ≤ 1088 * 60 := by
  have h1 := hfr2.1.len
  have h2 : s2.length ≤ 1088 * (0 + (List.replicate 60 (0 : Int)).length) := h1
  rw [yb] at h2
  omega
 refine ⟨b1, s1, accs, shs, S, b2, s2, p1', ?_, by omega, q1, q2, q3, q4, q5, q6, ?_⟩
 ·rw [SU b1 _ hInv.sz]
  unfold Fai
  rw [NK hP.i, e2]
  rfl
 ·rw [W3, hL2, q6, hrep0]
theorem Fam (a : List Int) : LI a = some (true, ()) := by
 have h20 : Ga = 1048576 := rfl
 have hlim := Kg
 unfold LI
 by_cases hl : a.length ≤ Ga
 case neg => rw [Kap hl]; rfl
 obtain ⟨b, l, n, keys, ct, dt, dT, e0, hB, h4, h3, hl30, hN⟩ := R6 a hl
 obtain ⟨b1, s1, accs, shs, S, b2, s2, hp, hq⟩ := Tan hB h4 h3 hl30 hN
 obtain ⟨d, ed⟩ := hp.deb
 rw [Iaj hl, e0]
 simp only [jb, cond_false, hp.run, hp.acc, ed, hp.evs, jg]
 have hls := hp.ls
 rw [show (((ja shs : Nat) : Int) != ((ja l : Nat) : Int)) = false by rw [hls]; simp]
 simp only [cond_false]
 by_cases hnil : l = []
 ·rw [hp.nil hnil, hnil]
  rfl
 have hlen : 1 ≤ l.length := by
  cases l with
  | nil => exact absurd rfl hnil
  | cons x l => simp
 rw [show (((ja l : Nat) : Int) == 0) = false by simp; omega]
 simp only [cond_false]
 rw [show j9 .i64 (((ja l : Nat) : Int) - 1) = (l.length : Int) - 1 from Xc (by omega) (by omega)]
 obtain ⟨c, G, e1, e2⟩ := hp.bat hnil
 obtain ⟨e3, e4⟩ := hp.last hnil
 have hidx : jy ((l.length : Int) - 1) = l.length - 1 := by omega
 have hinb : Ei (ja accs) ((l.length : Int) - 1) = true := by
  have e5 : (l.length : Int) - 1 = ((l.length - 1 : Nat) : Int) := by omega
  rw [e5, Qp]
  exact Aa (by omega)
 rw [e1]
 simp only [jb]
 rw [e2]
 simp only [jb, jg, cond_false]
 rw [hp.same]
 simp only [jb, jg, cond_false]
 rw [hp.sameD]
 simp only [jb, jg, cond_false]
 rw [hinb, hidx, e3, hp.tm]
 simp only [jb, cond_true, bne_self_eq_false, cond_false]
 rw [show (((60 : Int) == (60 : Int)) && (decide ((0 : Int) ≤ (60 : Int)) && decide ((60 : Int) ≤ ((Bb : Nat) : Int)))) = true by rw [Aa (show (60 : Int) ≤ ((Bb : Nat) : Int) by omega)]; rfl]
 simp only [cond_true]
 have h60 : List.replicate (jy (60 : Int)) (0 : Int) = List.replicate 60 (0 : Int) := rfl
 rw [h60, hq.run]
 have hlen2 := hq.len
 have b1' : jx (ja ([] : List Yc) + ja s1) Bb = true := Gg (by simp; omega)
 have b2' : jx (ja (jf ([] : List Yc) s1) + ja s2) Bb = true := Gg (by simp; omega)
 simp only [jb, b1', b2', cond_true, jg, cond_false]
 rw [hq.dq, hq.hd, hq.cq, hq.act, hq.dn, hq.sh]
 rw [show decide ((j8 .i64 ((j8 .i64 ((j8 .i64 (((ja ([] : List Ba) : Nat) : Int) + ((ja ([] : List Va) : Nat) : Int))) + ((ja ([] : List Ba) : Nat) : Int))) + ((ja ([] : List Ba) : Nat) : Int))) > (0 : Int)) = false by decide]
 simp only [cond_false, bne_self_eq_false]
 rw [show jf (jf ([] : List Yc) s1) s2 = s1 ++ s2 from rfl]
 by_cases hz : (s1 ++ s2).length = 0
 ·rw [show (((ja (s1 ++ s2) : Nat) : Int) == 0) = true by rw [hz]; rfl]
  rfl
 ·have hle : (s1 ++ s2).length ≤ 1000000 := by rw [qi]; exact hlen2
  rw [show (((ja (s1 ++ s2) : Nat) : Int) == 0) = false by rw [beq_eq_false_iff_ne]; omega]
  rw [show j9 .i64 (((ja (s1 ++ s2) : Nat) : Int) - 1) = (((s1 ++ s2).length - 1 : Nat) : Int) by rw [Xc (by omega) (by omega)]; omega]
  rw [Qp, Aa (show (s1 ++ s2).length - 1 < (s1 ++ s2).length by omega), jn]
  simp only [cond_false, cond_true]
  obtain ⟨x, hx⟩ : ∃ x, (s1 ++ s2)[(s1 ++ s2).length - 1]? = some x := ⟨_, je (by omega)⟩
  have hlast := X3 (s1 ++ s2) (0, [], ()) ((s1 ++ s2).length - 1) x (by omega) hx
  rw [hq.las] at hlast
  rw [hx]
  simp only [jb, hlast]
  rw [JS _ (by simp)]
  rfl
end KF
