/- An evaluator of Go functions on plain data, its soundness, and plain laws on what the functions compute, part 4 (conditions: as each lemma tells). -/
import Derived.Test.YthpnoncibnengaaC
set_option linter.unusedSimpArgs false
set_option linter.unusedVariables false
namespace KF
open Go
open List renaming length → ja, getElem?_eq_getElem → je, append → jf, mem_append → jl, mem_cons → jp, mem_cons_of_mem → jr, length_cons → jw, set → j5, length_nil → j6, length_set → j7, mem_singleton → qb, length_append → qc, getElem?_append_left → qe, getElem?_append_right → qf, getD_eq_getElem?_getD → qg, mem_map → qj, length_drop → qk, mem_cons_self → qm, length_replicate → qp
open Option renaming bind_some → jb, bind → jz, map_some → qa, bind_eq_some_iff → qd
open Option.some renaming injEq → jc
open Bool renaming and_eq_true → jd, not_true → jg, true_and → jk, false_eq_true → jq, not_eq_true → j8, eq_iff_iff → ql
open Prod.mk renaming injEq → jh
open Nat renaming ble_eq_true_of_le → ji, mul_le_mul_right → jm, le_refl → jo, zero_add → js, add_assoc → jt, eq_of_beq_eq_true → ju, ble → jx, le_trans → j9, lt_of_lt_of_le → qi
open Int renaming toNat_natCast → jn, eq_ofNat_of_zero_le → jv, toNat → jy
open Go.IntKind renaming wrap → j4
open Sum renaming elim_inl → qh
open Result renaming andThen_ok → qn
open Sem renaming run_bind → qo
structure LE (f g : Aa) (s v c : Int) (whole : Bool) : Prop where
 good : Ff g (c + 1)
 rd : ∀ σ : Int, 0 ≤ σ ∧ σ ≤ 3 → Nb g σ = cond (whole && (σ == s)) (some v) (Nb f σ)
theorem Ae {f : Aa} {c d : Int} (h : Ff f c) (hd : c ≤ d) : Ff f d :=
 ⟨h.ok, h.pg, by have := h.hd; omega, fun P hP => by have := h.er P hP; omega⟩
theorem RL {f : Aa} {c s v : Int} (hG : Ff f c) (hs : Ma s v = true) {m : Nat} (hm : Rc (Sb f (Ha f)) 6 = m) (h6 : m < 6) :
 ∀ n, ∃ g, Pc f ((Qg (Ha f) m s v (Pb f (Ha f))).take n) = .inl g ∧ LE f g s v c (decide (3 ≤ n)) := by
 have hP := hG.pg
 have hact := (Ds hG.ok hP).1 rfl
 have he := Tr (w := Sb f (Ha f)) (i := m) (by omega) h6
 obtain ⟨f1, f2, f3, r1, r2, r3, p1, p2, p3⟩ := NA hG.ok hP (n := m) (by omega) hs hact.1 he.1 he.2.1 he.2.2
 have hP2 : 0 ≤ Ha f ∧ Ha f ≤ 1 := by unfold Mi at hP; omega
 have hlen := (Bn hG.ok hP2).2.2
 generalize hPP : Ha f = P at *
 have keep : ∀ g n, Pc f ((Qg P m s v (Pb f P)).take n) = .inl g → Ha g = P ∧ Ff g (c + 1) ∧ Pb g P = Pb f P := by
  intro g n hg
  have hw := Py hP _ f g hG.ok (fun o ho => PC o (List.mem_of_mem_take ho)) hg
  have hag := VC hG.ok hw.1 hP hPP hw.2.2.2.2 (.inl (by unfold Pb; rw [hw.2.1]))
  refine ⟨hag, ⟨hw.1, by rw [hag]; exact hP, ?_, fun R hR => ?_⟩, hw.2.2.2.2⟩
  ·rw [hag, hw.2.2.2.2]; have := hG.hd; rw [hPP] at this; omega
  ·have h1 := hG.er R hR
   have ho := Cr hP
   by_cases h : R = P
   ·subst h; rw [hw.2.2.2.1]; omega
   ·have : R = 1 - P := by unfold Mi at hR hP; omega
    subst this; rw [hw.2.2.1]; omega
 have rdf : ∀ σ, Nb f σ = Bg (Pb f P) σ (Sb f P) 6 := fun σ => by rw [Qs hP hPP, Lt]; rfl
 have rdg : ∀ g n, Pc f ((Qg P m s v (Pb f P)).take n) = .inl g → (∀ j, 1 ≤ j → (j ≤ 3 * m ∨ 3 * m + 3 < j) → wd (Sb g P) j = wd (Sb f P) j) → ∀ σ, Nb g σ = cond (Nj (Pb f P) σ (Sb g P) m) (some (wd (Sb g P) (2 + 3 * m))) (Nb f σ) := by
  intro g n hg ho σ
  have hk := keep g n hg
  rw [Qs hP hk.1, Lt, rdf]
  show Bg (Pb g P) σ (Sb g P) 6 = _
  rw [hk.2.2, DK h6 hm ho]
 intro n
 have hn : n = 0 ∨ n = 1 ∨ n = 2 ∨ 3 ≤ n := by omega
 rcases hn with rfl | rfl | rfl | hn
 ·exact ⟨f, by rw [List.take_zero]; rfl, ⟨Ae hG (show c ≤ c + 1 by omega), fun σ _ => by simp⟩⟩
 ·refine ⟨f1, r1, ⟨(keep f1 1 r1).2.1, fun σ _ => ?_⟩⟩
  rw [rdg f1 1 r1 (fun j h1 h2 => by rw [p1, Ub (by omega)]) σ]
  rw [Ru (by rw [p1, Ub (by omega)]; exact he.2.1)]
  simp
 ·refine ⟨f2, r2, ⟨(keep f2 2 r2).2.1, fun σ _ => ?_⟩⟩
  rw [rdg f2 2 r2 (fun j h1 h2 => by rw [p2, Ub (by omega), Ub (by omega)]) σ]
  have hc := Jw hs hact.1
  have hmt : Nj (Pb f P) σ (Sb f2 P) m = false := by
   unfold Nj
   rw [p2, Ub (j := 3 + 3 * m) (by omega), Ub (j := 3 + 3 * m) (by omega), Ub (j := 1 + 3 * m) (by omega), Bj (by rw [hlen]; omega), Bj (by rw [j7, hlen]; omega), he.2.2]
   rw [show ((65535 : Int) == Me s v (Pb f P)) = false by simp; omega]
   simp
  rw [hmt]; simp
 ·have e : (Qg P m s v (Pb f P)).take n = Qg P m s v (Pb f P) := List.take_of_length_le (by simp [Qg]; omega)
  refine ⟨f3, by rw [e]; exact r3, ⟨(keep f3 n (by rw [e]; exact r3)).2.1, fun σ _ => ?_⟩⟩
  rw [rdg f3 n (by rw [e]; exact r3) (fun j h1 h2 => by rw [p3, Ub (by omega), Ub (by omega), Ub (by omega)]) σ]
  have w1 : wd (Sb f3 P) (1 + 3 * m) = s := by rw [p3, Ub (by omega), Ub (by omega), Bj (by rw [hlen]; omega)]
  have w2 : wd (Sb f3 P) (2 + 3 * m) = v := by rw [p3, Ub (by omega), Bj (by rw [j7, hlen]; omega)]
  have w3 : wd (Sb f3 P) (3 + 3 * m) = Me s v (Pb f P) := by rw [p3, Bj (by rw [j7, j7, hlen]; omega)]
  rw [HA hs w1 w2 w3, w2, Ca hn, show (s == σ) = (σ == s) by rw [ql, beq_iff_eq, beq_iff_eq]; exact eq_comm]
  rfl
theorem JK {f : Aa} {c s v : Int} (hG : Ff f c) (hs : Ma s v = true) (hc : Pb f (Ha f) < 60000) (he : Gh f (1 - Ha f) < 1000) :
 ∀ n, ∃ g, Pc f ((jf (Oj f s v (1 - Ha f) (Pb f (Ha f) + 1)).1 [Vp (1 - Ha f) (Pb f (Ha f) + 1)]).take n) = .inl g ∧
  LE f g s v c (decide ((jf (Oj f s v (1 - Ha f) (Pb f (Ha f) + 1)).1 [Vp (1 - Ha f) (Pb f (Ha f) + 1)]).length ≤ n)) := by
 have hP := hG.pg
 have hact := (Ds hG.ok hP).1 rfl
 have hh := hact.1
 simp only [Gd, decide_eq_true_eq] at hh
 have ho := Cr hP
 generalize hPP : Ha f = P at *
 generalize hQQ : 1 - P = Q at *
 have hQ := ho.1
 have hQ2 : 0 ≤ Q ∧ Q ≤ 1 := by unfold Mi at hQ; omega
 have hP1 : 1 - Q = P := ho.2.2
 have hH : Gd (Pb f P + 1) = true := by simp only [Gd, decide_eq_true_eq]; omega
 obtain ⟨f1, q1, q2⟩ := XB hG.ok hQ2 he
 have hf1 : f1 = Eg f (Vb Q) := by
  rw [Ke] at q1
  cases hb : Dg f (Vb Q) with
  | false => rw [hb] at q1; simp at q1
  | true => rw [hb] at q1; simpa [Pc, Oe] using q1.symm
 have d1 := Lw (f := f) (o := Vb Q) hP hQ (show Q ≠ P from ho.2.1)
 have d2 := KJ hG.ok hQ
 rw [← hf1] at d1 d2
 obtain ⟨g4, m1, ⟨m2, m3, m4⟩, m5⟩ := IA (f := f) hQ hs hH q1 q2 4 (jo _)
 obtain ⟨r, hr1, hr2⟩ := JA (f := f) (s := s) (v := v) (Q := Q) (h := Pb f P + 1) 4
 have hI := Ho (f := f) (s := s) (v := v) (page := Q) (h := Pb f P + 1) 4
 have mo : Oj f s v Q (Pb f P + 1) = Ce (Jh f s v Q (Pb f P + 1)) 4 ([Vb Q], 0) := rfl
 rw [mo]
 generalize Ce (Jh f s v Q (Pb f P + 1)) 4 ([Vb Q], 0) = st at *
 rw [hr1] at m1 ⊢
 have m1' : Pc f1 r = .inl g4 := by
  have : Pc f ([Vb Q] ++ r) = .inl g4 := m1
  rw [Of, q1] at this
  exact this
 have keep : ∀ g k, Pc f1 (r.take k) = .inl g → Db g ∧ Sb g P = Sb f P ∧ Gh g P = Gh f P ∧ Gh g Q = Gh f Q + 1 ∧ Pb g Q = 65535 := by
  intro g k hg
  have hw := Py hQ _ f1 g q2.1 (fun o ho => hr2 o (List.mem_of_mem_take ho)) hg
  rw [hP1] at hw
  exact ⟨hw.1, hw.2.1.trans d1.1, hw.2.2.1.trans d1.2, hw.2.2.2.1.trans d2.2, hw.2.2.2.2.trans q2.2.1⟩
 have good : ∀ g, Db g → Mi (Ha g) → Pb g (Ha g) ≤ c + 2 → Gh g P = Gh f P → Gh g Q = Gh f Q + 1 → Ff g (c + 1) := by
  intro g h1 h2 h3 h4 h5
  refine ⟨h1, h2, by omega, fun R hR => ?_⟩
  have e1 := hG.er P hP
  have e2 := hG.er Q hQ
  by_cases h : R = P
  ·subst h; omega
  ·have : R = Q := by unfold Mi at hR hP hQ; omega
   subst this; omega
 have hhd := hG.hd
 rw [hPP] at hhd
 have hnot : Gd 65535 = false := by decide
 intro n
 have hlen : (jf (Vb Q :: r) [Vp Q (Pb f P + 1)]).length = r.length + 2 := by simp
 rw [hlen]
 by_cases h0 : n = 0
 ·subst h0
  exact ⟨f, by rw [List.take_zero]; rfl, ⟨Ae hG (show c ≤ c + 1 by omega), fun σ _ => by simp⟩⟩
 ·obtain ⟨k, rfl⟩ : ∃ k, n = k + 1 := ⟨n - 1, by omega⟩
  by_cases hk : k ≤ r.length
  ·
   have e : (jf (Vb Q :: r) [Vp Q (Pb f P + 1)]).take (k + 1) = [Vb Q] ++ r.take k := by
    show (Vb Q :: (r ++ [Vp Q (Pb f P + 1)])).take (k + 1) = _
    rw [List.take_succ_cons, List.take_append_of_le_length hk]; rfl
   obtain ⟨g, hg, _⟩ := VH m1' k
   have hkp := keep g k hg
   have hag : Ha g = P := VC hG.ok hkp.1 hP hPP (by unfold Pb; rw [hkp.2.1]) (.inr (by rw [hQQ, hkp.2.2.2.2]; exact hnot))
   refine ⟨g, by rw [e, Of, q1]; exact hg, ⟨good g hkp.1 (by rw [hag]; exact hP) (by rw [hag]; unfold Pb at hhd ⊢; rw [hkp.2.1]; omega) hkp.2.2.1 hkp.2.2.2.1, fun σ _ => ?_⟩⟩
   rw [Da (by omega), Qs hP hag, Qs hP hPP, hkp.2.1]; rfl
  ·
   have e : (jf (Vb Q :: r) [Vp Q (Pb f P + 1)]).take (k + 1) = (Vb Q :: r) ++ [Vp Q (Pb f P + 1)] := List.take_of_length_le (by rw [hlen]; omega)
   have hkp := keep g4 r.length (by rw [List.take_length]; exact m1')
   obtain ⟨a1, a2, a3⟩ := Tl m2 hQ2 (k := 0) (by omega) (x := Pb f P + 1) (by omega) m3
   have a4 := WB m2 hQ 0 (Pb f P + 1)
   have a5 := Lw (f := g4) (o := (false, Q, ((0 : Nat) : Int), Pb f P + 1, ())) hP hQ (show Q ≠ P from ho.2.1)
   have hl4 := (Bn m2 hQ2).2.2
   have hdQ : Pb (Eg g4 (false, Q, ((0 : Nat) : Int), Pb f P + 1, ())) Q = Pb f P + 1 := by
    show wd (Sb (Eg g4 (false, Q, ((0 : Nat) : Int), Pb f P + 1, ())) Q) 0 = _
    rw [a3, Bj (by omega)]
   have hdP : Pb (Eg g4 (false, Q, ((0 : Nat) : Int), Pb f P + 1, ())) P = Pb f P := by
    show wd (Sb (Eg g4 (false, Q, ((0 : Nat) : Int), Pb f P + 1, ())) P) 0 = _
    rw [a5.1, hkp.2.1]; rfl
   have hag : Ha (Eg g4 (false, Q, ((0 : Nat) : Int), Pb f P + 1, ())) = Q := (Ds a2 hQ).2 ⟨by rw [hdQ]; exact hH, fun _ => .inl (by rw [hP1, hdQ, hdP]; omega)⟩
   refine ⟨Eg g4 (false, Q, ((0 : Nat) : Int), Pb f P + 1, ()), ?_, ⟨good _ a2 (by rw [hag]; exact hQ) (by rw [hag, hdQ]; omega) (a5.2.trans hkp.2.2.1) (a4.2.trans hkp.2.2.2.1), fun σ hσ => ?_⟩⟩
   ·rw [e, Of, m1]
    show Pc g4 [(false, Q, ((0 : Nat) : Int), Pb f P + 1, ())] = _
    rw [Ke, a1]; rfl
   ·rw [Ca (by omega), Qs hQ hag, Lt]
    show Bg (Pb (Eg g4 (false, Q, ((0 : Nat) : Int), Pb f P + 1, ())) Q) σ (Sb (Eg g4 (false, Q, ((0 : Nat) : Int), Pb f P + 1, ())) Q) 6 = _
    rw [hdQ, a3, Uo (w := Sb g4 Q) (n := 6) fun j h1 h2 => Ub (by omega)]
    have er := Vo (H := Pb f P + 1) (s := σ) (w := Sb g4 Q) (m := st.2) (6 - st.2) fun i h1 h2 => m4 _ (by omega) (by omega)
    rw [show st.2 + (6 - st.2) = 6 by omega] at er
    rw [er]
    obtain ⟨a, rfl⟩ := jv hσ.1
    rw [m5 a, if_pos (by omega)]
    rfl
theorem Dx {f : Aa} {c s v : Int} (hG : Ff f c) (hc : c ≤ 500) (hs : Ma s v = true) :
 (Mc f s v).2 = true ∧ ∀ n, ∃ g, Pc f ((Mc f s v).1.take n) = .inl g ∧ LE f g s v c (decide ((Mc f s v).1.length ≤ n)) := by
 have hP := hG.pg
 have hP2 : 0 ≤ Ha f ∧ Ha f ≤ 1 := by unfold Mi at hP; omega
 have hhd := hG.hd
 have her := hG.er _ (Cr hP).1
 have e1 : Dw f = Sb f (Ha f) := rfl
 have e2 : wd (Sb f (Ha f)) 0 = Pb f (Ha f) := rfl
 have e3 : f.2.1.getD (1 - Ha f).toNat 0 = Gh f (1 - Ha f) := rfl
 unfold Mc
 rw [Da (show ¬ Ha f < 0 by omega), hs, e1, e2, e3]
 simp only [jg, cond_false]
 by_cases h6 : Rc (Sb f (Ha f)) 6 < 6
 ·rw [Ca h6]
  simp only [cond_true]
  exact ⟨trivial, RL hG hs rfl h6⟩
 ·rw [Da h6, Da (show ¬ Pb f (Ha f) ≥ 60000 by omega), Da (show ¬ Gh f (1 - Ha f) ≥ 1000 by omega)]
  simp only [cond_false]
  exact ⟨trivial, JK hG hs (by omega) (by omega)⟩
def Az (f : Aa) (t : Uc) (j : Nat) (g : Aa) : Prop := ∀ σ : Nat, σ ≤ 3 → Nb g (σ : Int) = if σ < j then some ((Xe t).getD σ 0) else Nb f (σ : Int)
structure KE (f : Aa) (t : Uc) (c : Int) (k : Nat) (st : Bm) : Prop where
 run : Pc f st.1 = .inl st.2
 good : Ff st.2 (c + k)
 prog : Az f t k st.2
 cut : ∀ n, ∃ (x : Aa) (j : Nat), Pc f (st.1.take n) = .inl x ∧ Ff x (c + k) ∧ j ≤ k ∧ Az f t j x
theorem NK {t : Uc} (h : Ni t = true) : ∀ k : Nat, k < 3 → Ma (k : Int) ((Xe t).getD k 0) = true := by
 intro k hk
 simp only [Ni, decide_eq_true_eq] at h
 have : k = 0 ∨ k = 1 ∨ k = 2 := by omega
 rcases this with rfl | rfl | rfl
 ·show Ma 0 t.1 = true
  unfold Ma; exact Ca (by omega)
 ·show Ma 1 t.2.1 = true
  unfold Ma; exact Ca (by omega)
 ·show Ma 2 t.2.2.1 = true
  unfold Ma; exact Ca (by omega)
theorem Yu {f : Aa} {t : Uc} {c : Int} {k : Nat} {st : Bm} (hk : k < 3) (ht : Ni t = true) (hc : c + k ≤ 500) (h : KE f t c k st) : ∃ st', Cf k st ((Xe t).getD k 0) = .inl st' ∧ KE f t c (k + 1) st' := by
 have hs := NK ht k hk
 unfold Cf
 cases hr : ((Le (Nb st.2 (k : Int))).2 && ((Le (Nb st.2 (k : Int))).1 == (Xe t).getD k 0)) with
 | true =>
  refine ⟨st, rfl, ⟨h.run, Ae h.good (by omega), fun σ hσ => ?_, fun n => ?_⟩⟩
  ·by_cases e : σ = k
   ·subst e
    rw [if_pos (by omega)]
    simp only [jd, beq_iff_eq] at hr
    cases ho : Nb st.2 (σ : Int) with
    | none => rw [ho] at hr; simp [Le] at hr
    | some y => rw [ho] at hr; simp only [Le] at hr; rw [hr.2]
   ·rw [h.prog σ hσ]
    by_cases h1 : σ < k
    ·rw [if_pos h1, if_pos (by omega)]
    ·rw [if_neg h1, if_neg (by omega)]
  ·obtain ⟨x, j, h1, h2, h3, h4⟩ := h.cut n
   exact ⟨x, j, h1, Ae h2 (by omega), by omega, h4⟩
 | false =>
  obtain ⟨w1, w2⟩ := Dx h.good (s := (k : Int)) (v := (Xe t).getD k 0) hc hs
  rw [w1]
  simp only [cond_false, cond_true]
  obtain ⟨g, g1, g2⟩ := w2 (Mc st.2 (k : Int) ((Xe t).getD k 0)).1.length
  rw [List.take_length] at g1
  rw [Ca (jo _)] at g2
  have full : ∀ y, LE st.2 y (k : Int) ((Xe t).getD k 0) (c + k) true → Az f t (k + 1) y := by
   intro y hy σ hσ
   rw [hy.rd (σ : Int) ⟨by omega, by omega⟩, jk]
   by_cases e : σ = k
   ·subst e
    rw [show ((σ : Int) == (σ : Int)) = true by simp, if_pos (show σ < σ + 1 by omega)]; rfl
   ·rw [show ((σ : Int) == (k : Int)) = false by simp; omega, cond_false, h.prog σ hσ]
    by_cases h1 : σ < k
    ·rw [if_pos h1, if_pos (by omega)]
    ·rw [if_neg h1, if_neg (by omega)]
  have ee : (Tu (Pc st.2 (Mc st.2 (k : Int) ((Xe t).getD k 0)).1)).1 = g := by rw [g1]; rfl
  refine ⟨_, rfl, ⟨?_, ?_, ?_, fun n => ?_⟩⟩
  ·show Pc f (st.1 ++ _) = .inl _
   rw [Of, h.run, ee]
   exact g1
  ·simp only
   rw [ee]; exact Ae g2.good (by omega)
  ·simp only
   rw [ee]; exact full g g2
  ·show ∃ x j, Pc f ((st.1 ++ (Mc st.2 (k : Int) ((Xe t).getD k 0)).1).take n) = .inl x ∧ _
   by_cases hn : n ≤ st.1.length
   ·rw [List.take_append_of_le_length hn]
    obtain ⟨x, j, h1, h2, h3, h4⟩ := h.cut n
    exact ⟨x, j, h1, Ae h2 (by omega), by omega, h4⟩
   ·rw [List.take_append, List.take_of_length_le (show st.1.length ≤ n by omega), Of, h.run]
    obtain ⟨y, y1, y2⟩ := w2 (n - st.1.length)
    cases hw : decide ((Mc st.2 (k : Int) ((Xe t).getD k 0)).1.length ≤ n - st.1.length) with
    | true => rw [hw] at y2; exact ⟨y, k + 1, y1, Ae y2.good (by omega), jo _, full y y2⟩
    | false =>
     rw [hw] at y2
     exact ⟨y, k, y1, Ae y2.good (by omega), by omega, fun σ hσ => by rw [y2.rd (σ : Int) ⟨by omega, by omega⟩]; exact h.prog σ hσ⟩
structure PK (f : Aa) (t : Uc) (c : Int) (g : Aa) : Prop where
 ok : (Ld f t).2 = true
 run : Pc f (Ld f t).1 = .inl g
 good : Ff g (c + 3)
 prog : Az f t 3 g
 cut : ∀ n, ∃ (x : Aa) (j : Nat), Pc f ((Ld f t).1.take n) = .inl x ∧ Ff x (c + 3) ∧ j ≤ 3 ∧ Az f t j x
theorem Ax {f : Aa} {t : Uc} {c : Int} (hG : Ff f c) (hc : c ≤ 400) (ht : Ni t = true) : ∃ g, PK f t c g := by
 have hP := hG.pg
 have h0 : KE f t c 0 (([], f) : Bm) := ⟨rfl, Ae hG (by simp), fun σ _ => by simp, fun n => ⟨f, 0, by rw [List.take_nil]; rfl, Ae hG (by simp), jo _, fun σ _ => by simp⟩⟩
 obtain ⟨s1, e1, h1⟩ := Yu (by omega) ht (by omega) h0
 obtain ⟨s2, e2, h2⟩ := Yu (by omega) ht (by omega) h1
 obtain ⟨s3, e3, h3⟩ := Yu (by omega) ht (by omega) h2
 have hsave : Ld f t = (s3.1, true) := by
  unfold Ld
  rw [ht, Da (show ¬ Ha f < 0 by unfold Mi at hP; omega)]
  simp only [jg, cond_false]
  have e1' : Cf 0 (([], f) : Bm) t.1 = .inl s1 := e1
  have e2' : Cf 1 s1 t.2.1 = .inl s2 := e2
  have e3' : Cf 2 s2 t.2.2.1 = .inl s3 := e3
  show Sum.elim _ _ (Oe Cf 0 (([], f) : Bm) [t.1, t.2.1, t.2.2.1]) = _
  simp only [Oe, e1', e2', e3']
  rfl
 exact ⟨s3.2, ⟨by rw [hsave], by rw [hsave]; exact h3.run, h3.good, h3.prog, by rw [hsave]; exact h3.cut⟩⟩
theorem AI {f : Aa} {t : Uc} (hP : Mi (Ha f)) (ht : Ni t = true) (h : ∀ σ : Nat, σ < 3 → Nb f (σ : Int) = some ((Xe t).getD σ 0)) : Ld f t = ([], true) := by
 have hstep : ∀ k : Nat, k < 3 → ∀ o, Cf k ((o, f) : Bm) ((Xe t).getD k 0) = .inl (o, f) := by
  intro k hk o
  unfold Cf
  simp only
  rw [h k hk]
  simp [Le]
 unfold Ld
 rw [ht, Da (show ¬ Ha f < 0 by unfold Mi at hP; omega)]
 simp only [jg, cond_false]
 have e1' : Cf 0 (([], f) : Bm) t.1 = .inl ([], f) := hstep 0 (by omega) []
 have e2' : Cf 1 (([], f) : Bm) t.2.1 = .inl ([], f) := hstep 1 (by omega) []
 have e3' : Cf 2 (([], f) : Bm) t.2.2.1 = .inl ([], f) := hstep 2 (by omega) []
 show Sum.elim _ _ (Oe Cf 0 (([], f) : Bm) [t.1, t.2.1, t.2.2.1]) = _
 simp only [Oe, e1', e2', e3']
 rfl
theorem Jx {f g : Aa} {t : Uc} {j : Nat} (ht : Ni t = true) (h : Az f t j g) :
 Nk g = (cond (decide (0 < j)) t.1 (Nk f).1, cond (decide (1 < j)) t.2.1 (Nk f).2.1, cond (decide (2 < j)) t.2.2.1 (Nk f).2.2.1, ()) := by
 simp only [Ni, decide_eq_true_eq] at ht
 have h0 := h 0 (by omega)
 have h1 := h 1 (by omega)
 have h2 := h 2 (by omega)
 have p : ∀ (v lo hi d : Int), lo ≤ v → v ≤ hi → Yp (some v) lo hi d = v := by
  intro v lo hi d a b
  show cond (decide (lo ≤ v ∧ v ≤ hi)) v d = v
  rw [Ca (show lo ≤ v ∧ v ≤ hi from ⟨a, b⟩)]; rfl
 unfold Nk
 refine Prod.ext ?_ (Prod.ext ?_ (Prod.ext ?_ rfl))
 ·show Yp (Nb g ((0 : Nat) : Int)) 1 1000 200 = _
  rw [h0]
  by_cases e : 0 < j
  ·rw [if_pos e, Ca e]; exact p _ _ _ _ ht.1 ht.2.1
  ·rw [if_neg e, Da e]; rfl
 ·show Yp (Nb g ((1 : Nat) : Int)) 0 1000 100 = _
  rw [h1]
  by_cases e : 1 < j
  ·rw [if_pos e, Ca e]; exact p _ _ _ _ ht.2.2.1 ht.2.2.2.1
  ·rw [if_neg e, Da e]; rfl
 ·show Yp (Nb g ((2 : Nat) : Int)) 0 2 0 = _
  rw [h2]
  by_cases e : 2 < j
  ·rw [if_pos e, Ca e]; exact p _ _ _ _ ht.2.2.2.2.1 ht.2.2.2.2.2
  ·rw [if_neg e, Da e]; rfl
structure PQ (m : AL) : Prop where
 k1 : 1 ≤ m.1
 k2 : m.1 ≤ 32
 l1 : 1 ≤ m.2.1.length
 l2 : m.2.1.length ≤ 4
 row : ∀ i (h : i < m.2.1.length), (m.2.1[i].length : Int) = m.1
 act : ∀ i (h : i < m.2.1.length) k (hk : k < m.2.1[i].length), AO m.2.1.length i m.2.1[i][k] = true


theorem QH {X R : Type} {s : X → Option (X ⊕ R)} (I : Nat → X → Prop) (Q : R → Prop)
 (h : ∀ n x, I n x → (∃ r, s x = some (.inr r) ∧ Q r) ∨ (∃ y m, m < n ∧ s x = some (.inl y) ∧ I m y)) : ∀ n x, I n x → ∃ r, Dc s x = some r ∧ Q r := by
 intro n
 induction n using Nat.strongRecOn with
 | _ n ih =>
  intro x hi
  rcases h n x hi with ⟨r, h1, hq⟩ | ⟨y, m, hm, h1, hi'⟩
  ·exact ⟨r, by rw [Hd h1]; rfl, hq⟩
  ·obtain ⟨r, g1, hq⟩ := ih m hm y hi'
   exact ⟨r, by rw [Hd h1]; exact g1, hq⟩
structure NT (x : JO) : Prop where
 lo : 0 ≤ x.1
 hi : x.1 ≤ 31
 act : DA x.2.1 = true
 n1 : x.2.1.1 ≠ 1
 n6 : x.2.1.1 ≠ 6
 n7 : x.2.1.1 ≠ 7





def cnt : Nat → Nat → Nat
 | 0, _ => 0
 | k + 1, n => n % 2 + cnt k (n / 2)
def u1 (a : Nat) : Nat := ((a / 2) &&& 85) + (a &&& 85)
def u2 (a : Nat) : Nat := ((a / 4) &&& 51) + (a &&& 51)
theorem m5 : ∀ a : Fin 128, (a.val &&& 85) = (a.val + 128 * 1) &&& 85 := by decide +kernel
theorem m3 : ∀ a : Fin 64, ∀ c : Fin 4, (a.val &&& 51) = (a.val + 64 * c.val) &&& 51 := by decide +kernel
def M5 : Nat := 6148914691236517205
def M3 : Nat := 3689348814741910323
def MF : Nat := 1085102592571150095
def s1 (n : Nat) : Nat := (n / 2 &&& M5) + (n &&& M5)
def s2 (n : Nat) : Nat := (n / 4 &&& M3) + (n &&& M3)
def s3 (n : Nat) : Nat := (n / 16 + n) &&& MF


def rowN (C m r : Nat) : Nat := (m >>> (r * C)) &&& (2 ^ C - 1)
def LO (C a b m : Nat) : Nat := cond (rowN C m a &&& rowN C m b != 0) (m ||| rowN C m b <<< (a * C)) m
def g3 (C a : Nat) : Nat → Nat → Nat := fun b m => LO C a b m
def g2 (C R : Nat) : Nat → Nat → Nat := fun a m => Ce (g3 C a) R m
def g1 (C R : Nat) : Nat → Nat → Nat := fun _ m => Ce (g2 C R) R m
structure VT (C R : Nat) : Prop where
 c1 : 1 ≤ C
 c2 : C ≤ 6
 r1 : 1 ≤ R
 r2 : R ≤ 4

structure Gn (c : Zb) : Prop where
 lo : 0 ≤ c.2.1
 hi : c.2.1 ≤ (c.1.length : Int)
 len : c.1.length ≤ Vc
theorem DG (z : Int) : 0 ≤ Ku .i64 z 255 ∧ Ku .i64 z 255 ≤ 255 := by
 have h : (BitVec.ofInt 64 z &&& BitVec.ofInt 64 255).toNat ≤ 255 := by
  rw [BitVec.toNat_and]
  exact Nat.and_le_right
 show 0 ≤ j4 .i64 ((BitVec.ofInt 64 z &&& BitVec.ofInt 64 255).toNat : Int) ∧ j4 .i64 ((BitVec.ofInt 64 z &&& BitVec.ofInt 64 255).toNat : Int) ≤ 255
 rw [Ib (by omega) (by omega)]
 omega
theorem Ov {c : Zb} (h : Gn c) : ∃ (c' : Zb) (x : Int), Vh c = some (c', (x, ())) ∧ Gn c' ∧ 0 ≤ x ∧ x ≤ 255 := by
 have h20 : Vc = 1048576 := rfl
 have h1 := h.lo
 have h2 := h.len
 unfold Vh
 by_cases hi : c.2.1 < ((ja c.1 : Nat) : Int)
 ·obtain ⟨k, hk⟩ := jv h1
  rw [Ca hi, hk, Ij (show k < c.1.length by omega)]
  refine ⟨_, _, rfl, ⟨?_, ?_, h2⟩, DG _⟩
  ·show 0 ≤ j4 .i64 ((k : Int) + 1)
   rw [Nf (by omega)]; omega
  ·show j4 .i64 ((k : Int) + 1) ≤ _
   rw [Nf (by omega)]; show _ ≤ ((ja c.1 : Nat) : Int); omega
 ·rw [Da hi]
  exact ⟨_, _, rfl, ⟨h1, h.hi, h2⟩, DG _⟩
theorem Ai {c : Zb} (h : Gn c) (n : Int) (hn : 0 < n) : ∃ (c' : Zb) (x : Int), Nd c n = some (c', (x, ())) ∧ Gn c' ∧ 0 ≤ x ∧ x < n := by
 obtain ⟨c1, x1, e1, h1, b1⟩ := Ov h
 unfold Nd
 rw [Da (show ¬ n ≤ 0 by omega), e1, show (n == 0) = false by simp; omega]
 simp only [cond_false, jb]
 by_cases h256 : n ≤ 256
 ·rw [Ca h256]
  exact ⟨_, _, rfl, h1, Int.tmod_nonneg _ (by omega), Int.tmod_lt_of_pos _ hn⟩
 ·obtain ⟨c2, x2, e2, h2, b2⟩ := Ov h1
  obtain ⟨c3, x3, e3, h3, b3⟩ := Ov h2
  obtain ⟨c4, x4, e4, h4, b4⟩ := Ov h3
  rw [Da h256, e2]
  simp only [cond_false, jb]
  rw [e3]
  simp only [jb]
  rw [e4]
  simp only [jb]
  rw [Ib (n := x1 * 16777216) (by omega) (by omega), Ib (n := x2 * 65536) (by omega) (by omega), Ib (n := x3 * 256) (by omega) (by omega), Ib (n := x1 * 16777216 + x2 * 65536) (by omega) (by omega), Ib (n := x1 * 16777216 + x2 * 65536 + x3 * 256) (by omega) (by omega), Ib (n := x1 * 16777216 + x2 * 65536 + x3 * 256 + x4) (by omega) (by omega)]
  exact ⟨_, _, rfl, h4, Int.tmod_nonneg _ (by omega), Int.tmod_lt_of_pos _ hn⟩
theorem VD {c : Zb} (h : Gn c) (n : Int) (hn : 0 < n) : ∃ (c' : Zb) (b : Bool), Om c n = some (c', (b, ())) ∧ Gn c' := by
 obtain ⟨c1, x1, e1, h1, b1⟩ := Ai h n hn
 unfold Om
 rw [e1]
 exact ⟨_, _, rfl, h1⟩
theorem Tv {c : Zb} (h : Gn c) (l : List Int) (hl : 0 < l.length) (h2 : l.length ≤ 1000) : ∃ (c' : Zb) (x : Int), Rg c l = some (c', (x, ())) ∧ Gn c' ∧ x ∈ l := by
 obtain ⟨c1, x1, e1, h1, b1⟩ := Ai h ((ja l : Nat) : Int) (by omega)
 unfold Rg
 rw [e1]
 obtain ⟨k, rfl⟩ := jv b1.1
 have hk : k < l.length := by omega
 simp only [jb]
 rw [Og, Ca hk, jn, je hk]
 exact ⟨_, _, rfl, h1, List.getElem_mem hk⟩
theorem ZN (a : List Int) (hn : a.length ≤ Vc) : ∃ h : Int, Aq a = some (a, (0, (h, ()))) := by
 have h20 : Vc = 1048576 := rfl
 have := QH (s := fun x : (List Int × (Int × (Int × Unit))) × Unit => Ko x.1.1 x.1.2.1 x.1.2.2.1) (fun n x => ∃ (h : Int) (k : Nat), x = ((a, h, (k : Int), ()), ()) ∧ n + k = a.length) (fun r => ∃ h : Int, r = .inl ((a, h, ()), ())) (by
  rintro n x ⟨h, k, rfl, hk⟩
  simp only [Ko]
  by_cases h1 : (k : Int) < ((ja a : Nat) : Int)
  ·rw [Ca h1]
   by_cases h2 : (k : Int) < 4000
   ·rw [Ca h2, Ij (show k < a.length by omega), Nf (by omega)]
    exact .inr ⟨_, n - 1, by omega, rfl, _, k + 1, rfl, by omega⟩
   ·rw [Da h2]; exact .inl ⟨_, rfl, _, rfl⟩
  ·rw [Da h1]; exact .inl ⟨_, rfl, _, rfl⟩) a.length ((a, j4 .i64 (10729 + ((ja a : Nat) : Int)), ((0 : Nat) : Int), ()), ()) ⟨_, 0, rfl, rfl⟩
 obtain ⟨r, h1, h, rfl⟩ := this
 refine ⟨h, ?_⟩
 unfold Aq Hm
 erw [h1]
 rfl
theorem Tw (a : List Int) (n : Int) (hn : a.length ≤ Vc) : ∃ c : Zb, Pk a n = some c ∧ Gn c := by
 obtain ⟨h, e⟩ := ZN a hn
 unfold Pk
 rw [e]
 exact ⟨_, rfl, ⟨Int.le_refl _, by show (0 : Int) ≤ _; omega, hn⟩⟩
theorem SH (a : List Int) (p n : Int) (hl : a.length ≤ Vc) (hn : 0 < n) : ∃ x : Int, Zk a p n = some (x, ()) ∧ 0 ≤ x ∧ x < n := by
 obtain ⟨c, e, hc⟩ := Tw a p hl
 obtain ⟨c1, x, e1, h1, b1⟩ := Ai hc n hn
 unfold Zk
 rw [e]
 simp only [jb]
 rw [e1]
 exact ⟨x, rfl, b1⟩
def Iu : Aa := ([j5 (List.replicate 19 65535) 0 1, List.replicate 19 65535], [0, 0], ())
theorem ED : Xm = some (Iu, ()) := by
 have hl := Pu (step := fun x : (Unit × (Unit × (Int × Unit))) × (Aa × (Aa × Unit)) => Gj x.1.1 x.1.2.1 x.1.2.2.1 x.2.1 x.2.2.1) (fun k => (((), (), (k : Int), ()), (zF, ([List.replicate k 65535, List.replicate k 65535], [0, 0], ()), ()))) 19
  (.inl (((), (), ()), (zF, ([List.replicate 19 65535, List.replicate 19 65535], [0, 0], ()), ()))) (by
   intro k hk
   have hb : jx (ja (List.replicate k (65535 : Int)) + ja ([(65535 : Int)] : List Int)) Bh = true := ji (by rw [XN]; simp; omega)
   have e : jf (List.replicate k (65535 : Int)) [65535] = List.replicate (k + 1) 65535 := by
    show List.replicate k (65535 : Int) ++ [65535] = _
    rw [List.replicate_succ']
   simp only [Gj]
   rw [Ca (show (k : Int) < 19 by omega)]
   show cond true (cond true (jz (some (List.replicate k (65535 : Int))) _) none) _ = _
   simp only [cond_true, jb, hb, e]
   show cond true (cond true (cond true (jz (some (List.replicate k (65535 : Int))) _) none) none) none = _
   simp only [cond_true, jb, hb, e, Nf (show k < 9223372036854775807 by omega)]
   rfl) (by
   simp only [Gj]
   rw [Da (by omega)]; rfl)
 unfold Xm Hk
 erw [hl]
 rfl
theorem AD : Ff Iu 0 := by
 have h1 : Ha Iu = 0 := by decide
 have h2 : Sc Iu = true := by decide
 refine ⟨Qc.1 h2, by rw [h1]; exact .inl rfl, by rw [h1]; decide, fun P hP => ?_⟩
 rcases hP with rfl | rfl <;> decide
theorem Yz {f : Aa} {c s v : Int} (hG : Ff f c) (hc : c ≤ 500) (hs : Ma s v = true) (n : Nat) (hn : n ≤ (Mc f s v).1.length) :
 ∃ g, Zd f s v (n : Int) = some (g, (true, ())) ∧ Ff g (c + 1) := by
 have hz := Kd hG.ok
 obtain ⟨w1, w2⟩ := Dx hG hc hs
 obtain ⟨g, g1, g2⟩ := w2 n
 obtain ⟨_, _, _, _, h14⟩ := Ok w1
 refine ⟨g, ?_, g2.good⟩
 unfold Zd
 rw [Yi hz, w1]
 simp only [jb, jg, cond_false, Od]
 rw [Ca (show 0 ≤ (n : Int) ∧ (n : Int) ≤ ((ja (Mc f s v).1 : Nat) : Int) by omega), Bl hG.ok]
 simp only [jb, jg, cond_false]
 rw [show He (((n : Int), (), (Mc f s v).1, (), 0, ()), (([], [], ()), f, ())) = _ from Tn hG.ok _ n hn (by omega), g1]
 rfl
theorem IG {c : Zb} (hc : Gn c) {f : Aa} {b : Int} (hG : Ff f b) (hb : b ≤ 400) (z : Aa) (n : Nat) (hn : n ≤ 1000) :
 ∃ (c' : Zb) (g : Aa), Ei () true () () ((n + 1 : Nat) : Int) c z f = some (.inl (((), true, (), (), (n : Int), ()), (c', z, g, ()))) ∧ Gn c' ∧ Ff g (b + 1) := by
 have hz := Kd hG.ok
 obtain ⟨c1, s, e1, h1, b1⟩ := Ai hc 4 (by omega)
 obtain ⟨c2, v, e2, h2, b2⟩ := Ai h1 10000 (by omega)
 have hs : Ma s v = true := by unfold Ma; exact Ca (by omega)
 obtain ⟨c3, o, e3, h3⟩ := VD h2 4 (by omega)
 obtain ⟨w1, _⟩ := Dx hG (by omega) hs
 obtain ⟨_, _, _, _, h14⟩ := Ok w1
 have hw : j4 .i64 (((n + 1 : Nat) : Int) - 1) = (n : Int) := by rw [Ib (by omega) (by omega)]; omega
 simp only [Ei]
 rw [Ca (show ((n + 1 : Nat) : Int) > 0 by omega), e1, hw]
 simp only [cond_true, jb]
 rw [e2]
 simp only [jb]
 show ∃ c' g, jz (Qe f s v) _ = _ ∧ _
 rw [Yi hz]
 simp only [jb]
 rw [e3]
 simp only [jb]
 cases o with
 | true =>
  obtain ⟨c4, k, e4, h4, b4⟩ := Ai h3 (j4 .i64 (((ja (Mc f s v).1 : Nat) : Int) + 1)) (by rw [Ib (by omega) (by omega)]; omega)
  rw [Ib (by omega) (by omega)] at b4
  obtain ⟨m, rfl⟩ := jv b4.1
  obtain ⟨g, g1, g2⟩ := Yz hG (by omega) hs m (by omega)
  rw [e4]
  simp only [cond_true, jb]
  refine ⟨c4, g, ?_, h4, g2⟩
  show jz (Zd f s v (m : Int)) _ = _
  rw [g1]
  rfl
 | false =>
  obtain ⟨g, g1, g2⟩ := Yz hG (by omega) hs (Mc f s v).1.length (jo _)
  simp only [cond_false]
  refine ⟨c3, g, ?_, h3, g2⟩
  show jz (Zd f s v ((ja (Mc f s v).1 : Nat) : Int)) _ = _
  rw [g1]
  rfl
theorem Zz (z : Aa) : ∀ (n : Nat) (c : Zb) (f : Aa) (b : Int), Gn c → Ff f b → b + n ≤ 400 → n ≤ 100 →
 ∃ (c' : Zb) (g : Aa), Ng (((), true, (), (), (n : Int), ()), (c, z, f, ())) = some (.inl (((), (), (), ()), (c', z, g, ()))) ∧ Gn c' ∧ Ff g (b + n)
 | 0, c, f, b, hc, hG, _, _ => by
  refine ⟨c, f, ?_, hc, Ae hG (by simp)⟩
  unfold Ng
  have hstep : Ei () true () () ((0 : Nat) : Int) c z f = some (.inr (.inl (((), (), (), ()), (c, z, f, ())))) := by
   simp only [Ei]
   rw [Da (by omega)]; rfl
  erw [Hd hstep]; rfl
 | n + 1, c, f, b, hc, hG, hb, hn => by
  obtain ⟨c1, g1, e1, h1, k1⟩ := IG hc hG (by omega) z n (by omega)
  obtain ⟨c', g, e, h, k⟩ := Zz z n c1 g1 (b + 1) h1 k1 (by omega) (by omega)
  refine ⟨c', g, ?_, h, Ae k (by omega)⟩
  unfold Ng at e ⊢
  erw [Hd e1]
  exact e
theorem EF {c : Zb} (hc : Gn c) : ∃ (c' : Zb) (g : Aa), Un c true = some (c', (g, ())) ∧ Gn c' ∧ Ff g 13 := by
 obtain ⟨c1, x, e1, h1, b1⟩ := Ai hc 14 (by omega)
 obtain ⟨n, rfl⟩ := jv b1.1
 obtain ⟨c', g, e, h, k⟩ := Zz (([] : List (List Int)), ([] : List Int), ()) n c1 Iu 0 h1 AD (by omega) (by omega)
 unfold Un
 rw [ED, e1]
 simp only [jb]
 rw [e]
 exact ⟨c', g, rfl, h, Ae k (by omega)⟩
theorem EI {c : Zb} (hc : Gn c) : ∃ (c' : Zb) (t : Uc), Am c = some (c', (t, ())) ∧ Gn c' := by
 obtain ⟨c1, a, e1, h1, _⟩ := Tv hc [(1 : Int), 150, 200, 1000] (by simp) (by simp)
 obtain ⟨c2, b, e2, h2, _⟩ := Tv h1 [(0 : Int), 100, 120, 1000] (by simp) (by simp)
 obtain ⟨c3, x, e3, h3, _⟩ := Ai h2 3 (by omega)
 obtain ⟨c4, o, e4, h4⟩ := VD h3 10 (by omega)
 unfold Am
 rw [e1]
 simp only [jb]
 rw [e2]
 simp only [jb]
 rw [e3]
 simp only [jb]
 rw [e4]
 simp only [jb]
 cases o with
 | true =>
  obtain ⟨c5, y, e5, h5, _⟩ := Tv h4 [(-1 : Int), 3] (by simp) (by simp)
  simp only [cond_true]
  rw [e5]
  exact ⟨_, _, rfl, h5⟩
 | false => exact ⟨_, _, rfl, h4⟩
def Ek (f : Aa) (t : Uc) : Aa × Bool × Unit := Mp f t ((Ld f t).1.length : Int)
theorem Xt (f : Aa) (t : Uc) (hz : Pd Ja f ≤ Vc) : Xi f t = some ((Ek f t).1, (Ek f t).2.1, ()) := by
 unfold Xi
 rw [Nr f t hz]
 simp only [jb]
 rw [Qy f t _ hz]
 rfl
theorem Vn (f : Aa) (t : Uc) (hz : Pd Ja f ≤ Vc) : Qa f t = some ((Ek f t).1, (Ek f t).2.1, ()) := by
 unfold Qa Ek Mp
 rw [Wk f t hz]
 obtain ⟨h1, h2⟩ := Wo (f := f) (t := t)
 simp only [jb]
 cases hs : (Ld f t).2 with
 | false => rfl
 | true =>
  simp only [jg, cond_false]
  rw [Np (h2 hs) _ (by omega), Ca (show 0 ≤ ((Ld f t).1.length : Int) ∧ ((Ld f t).1.length : Int) ≤ ((Ld f t).1.length : Int) by omega), jn, List.take_length]
  rfl
theorem Yr {f g : Aa} {t : Uc} {c : Int} (h : PK f t c g) : Ek f t = (g, true, ()) := by
 unfold Ek Mp
 rw [h.ok, Ca (show 0 ≤ ((Ld f t).1.length : Int) ∧ ((Ld f t).1.length : Int) ≤ ((Ld f t).1.length : Int) by omega), jn, List.take_length, h.run]
 rfl
theorem QF {f : Aa} {t : Uc} (h : Ni t = false) : (Ek f t).2.1 = false := by
 unfold Ek Mp Ld
 rw [h]; rfl
theorem PA (z : Aa) : ∀ (n : Nat) (c : Zb) (f : Aa) (b : Int), Gn c → Ff f b → b + 3 * n ≤ 400 → n ≤ 100 →
 ∃ (c' : Zb) (g : Aa), Uf (((), (), (), (n : Int), ()), (c, z, f, ())) = some (.inl (((), (), (), ()), (c', z, g, ()))) ∧ Gn c' ∧ Ff g (b + 3 * n)
 | 0, c, f, b, hc, hG, _, _ => by
  refine ⟨c, f, ?_, hc, Ae hG (by simp)⟩
  unfold Uf
  have hstep : Nh () () () ((0 : Nat) : Int) c z f = some (.inr (.inl (((), (), (), ()), (c, z, f, ())))) := by
   simp only [Nh]
   rw [Da (by omega)]; rfl
  erw [Hd hstep]; rfl
 | n + 1, c, f, b, hc, hG, hb, hn => by
  obtain ⟨c1, t, e1, h1⟩ := EI hc
  have hz := Kd hG.ok
  have hw : j4 .i64 (((n + 1 : Nat) : Int) - 1) = (n : Int) := by rw [Ib (by omega) (by omega)]; omega
  have hstep : ∃ g1, Nh () () () ((n + 1 : Nat) : Int) c z f = some (.inl (((), (), (), (n : Int), ()), (c1, z, g1, ()))) ∧ Ff g1 (b + 3) := by
   simp only [Nh]
   rw [Ca (show ((n + 1 : Nat) : Int) > 0 by omega), e1, hw]
   simp only [cond_true, jb]
   show ∃ g1, jz (Xi f t) _ = _ ∧ _
   rw [Xt f t hz]
   simp only [jb]
   cases ht : Ni t with
   | true =>
    obtain ⟨g, hg⟩ := Ax hG (by omega) ht
    rw [Yr hg]
    exact ⟨g, rfl, hg.good⟩
   | false =>
    rw [QF ht]
    exact ⟨f, rfl, Ae hG (by omega)⟩
  obtain ⟨g1, e2, k1⟩ := hstep
  obtain ⟨c', g, e, h, k⟩ := PA z n c1 g1 (b + 3) h1 k1 (by omega) (by omega)
  refine ⟨c', g, ?_, h, Ae k (by omega)⟩
  unfold Uf at e ⊢
  erw [Hd e2]
  exact e
theorem JC (a : List Int) (hl : a.length ≤ Vc) : ∃ f : Aa, Zl a = some (f, ()) ∧ Ff f 30 := by
 obtain ⟨c, e, hc⟩ := Tw a 18 hl
 obtain ⟨c1, f1, e1, h1, g1⟩ := EF hc
 obtain ⟨c2, x, e2, h2, b2⟩ := Ai h1 4 (by omega)
 obtain ⟨n, rfl⟩ := jv b2.1
 obtain ⟨c', g, e3, h, k⟩ := PA (([] : List (List Int)), ([] : List Int), ()) n c2 f1 13 h2 g1 (by omega) (by omega)
 unfold Zl Pp
 rw [e]
 simp only [jb]
 rw [e1]
 simp only [jb]
 rw [e2]
 simp only [jb]
 rw [e3]
 exact ⟨g, rfl, Ae k (by omega)⟩
theorem YA (a : List Int) (hl : a.length ≤ Vc) : ∃ t : Uc, Al a = some (t, ()) ∧ Ni t = true := by
 obtain ⟨c, e, hc⟩ := Tw a 9 hl
 obtain ⟨c1, x, e1, h1, b1⟩ := Ai hc 9 (by omega)
 obtain ⟨c2, y, e2, h2, b2⟩ := Tv h1 [(0 : Int), 0, 3, 6] (by simp) (by simp)
 obtain ⟨c3, w, e3, h3, b3⟩ := Ai h2 3 (by omega)
 unfold Al Jo
 rw [e]
 simp only [jb]
 rw [e1]
 simp only [jb]
 rw [e2]
 simp only [jb]
 rw [e3]
 refine ⟨_, rfl, ?_⟩
 have hy : 0 ≤ y ∧ y ≤ 6 := by simp only [jp, List.not_mem_nil, or_false] at b2; omega
 simp only [Ni, decide_eq_true_eq]
 rw [Ib (by omega) (by omega)]
 omega
theorem GG {a : List Int} (h : a.length ≤ Vc) : Fo a = some (false, ()) := by
 have h20 : Vc = 1048576 := rfl
 unfold Fo
 rw [Da (by omega)]
theorem GJ {a : List Int} (h : ¬ a.length ≤ Vc) : Fo a = some (true, ()) := by
 have h20 : Vc = 1048576 := rfl
 unfold Fo
 rw [Ca (by omega)]
theorem TA (f : Aa) : Ni (Nk f) = true := by
 have p : ∀ (o : Option Int) (lo hi d : Int), lo ≤ d → d ≤ hi → lo ≤ Yp o lo hi d ∧ Yp o lo hi d ≤ hi := by
  intro o lo hi d h1 h2
  cases o with
  | none => exact ⟨h1, h2⟩
  | some v =>
   show lo ≤ cond (decide (lo ≤ v ∧ v ≤ hi)) v d ∧ cond (decide (lo ≤ v ∧ v ≤ hi)) v d ≤ hi
   by_cases h : lo ≤ v ∧ v ≤ hi
   ·rw [Ca h]; exact h
   ·rw [Da h]; exact ⟨h1, h2⟩
 have a := p (Nb f 0) 1 1000 200 (by omega) (by omega)
 have b := p (Nb f 1) 0 1000 100 (by omega) (by omega)
 have c := p (Nb f 2) 0 2 0 (by omega) (by omega)
 simp only [Ni, decide_eq_true_eq]
 exact ⟨a.1, a.2, b.1, b.2, c.1, c.2⟩
theorem CD (a : List Int) : Pn a = some (true, ()) := by
 unfold Pn
 by_cases hl : a.length ≤ Vc
 case neg => rw [GJ hl]; rfl
 obtain ⟨f, ef, hG⟩ := JC a hl
 obtain ⟨t, et, ht⟩ := YA a hl
 obtain ⟨y, hS⟩ := Ax hG (by omega) ht
 have hz := Kd hG.ok
 obtain ⟨h42, _⟩ := Wo (f := f) (t := t)
 obtain ⟨n, en, hn⟩ := SH a 200 (j4 .i64 (((ja (Ld f t).1 : Nat) : Int) + 1)) hl (by rw [Ib (by omega) (by omega)]; omega)
 rw [Ib (by omega) (by omega)] at hn
 obtain ⟨m, rfl⟩ := jv hn.1
 obtain ⟨x, j, ex, hX, hj, hP⟩ := hS.cut m
 have hcut : Mp f t (m : Int) = (x, true, ()) := by
  unfold Mp
  rw [hS.ok, Ca (show 0 ≤ (m : Int) ∧ (m : Int) ≤ ((Ld f t).1.length : Int) by omega), jn, ex]
  rfl
 have hzx := Kd hX.ok
 have hzy := Kd hS.good.ok
 obtain ⟨z, hZ⟩ := Ax hX (by omega) ht
 have hzz := Kd hZ.good.ok
 have hnone : Ld y t = ([], true) := AI hS.good.pg ht fun σ hσ => by rw [hS.prog σ (by omega), if_pos hσ]
 have hy : Nk y = t := by
  rw [Jx ht hS.prog]; rfl
 have hzt : Nk z = t := by
  rw [Jx ht hZ.prog]; rfl
 have hb := Jx ht hP
 have hsb : Ni (Nk x) = true := TA x
 have heq : De Kc t t = true := by
  obtain ⟨t1, t2, t3, u⟩ := t
  simp [De]
 rw [GG hl, ef, et]
 simp only [jb, cond_false]
 rw [Wk f t hz, hS.ok]
 simp only [jb, jg, cond_false]
 rw [en, Vn f t hz, Yr hS, Ii f hz]
 simp only [jb]
 rw [Zx f t _ hz, hcut]
 simp only [jb, jg, cond_false]
 rw [Ii x hzx, Ii y hzy, hy, Vn x t hzx, Yr hZ, Wk y t hzy, hnone]
 simp only [jb, Lq, TA, hsb, heq, jg, cond_false, cond_true]
 rw [Ii z hzz, hzt]
 simp only [jb, heq, cond_true]
 rw [hb]
 generalize Nk f = A
 obtain ⟨A1, A2, A3, _⟩ := A
 obtain ⟨t1, t2, t3, _⟩ := t
 have hj4 : j = 0 ∨ j = 1 ∨ j = 2 ∨ j = 3 := by omega
 rcases hj4 with rfl | rfl | rfl | rfl
 ·simp
 ·simp
 ·simp
 ·simp
end KF
