/- An evaluator of Go functions on plain data, its soundness, and plain laws on what the functions compute, part 5 (conditions: as each lemma tells). -/
import Derived.Test.YtdgeblmmmffgfaaGreatDoorD
set_option linter.unusedSimpArgs false
set_option linter.unusedVariables false
namespace KF
open Go
open List renaming length → ja, getElem?_eq_getElem → je, append → jf, mem_append → jl, mem_cons → jp, mem_cons_of_mem → jr, length_cons → jw, set → j6, length_nil → j7, length_set → j8, mem_singleton → qd, length_append → qe, getElem?_append_left → qg, getElem?_append_right → qh, getD_eq_getElem?_getD → qi, getElem_mem → qp, mem_of_mem_drop → qq, getElem_of_mem → qr, mem_map → qs, length_drop → qt, mem_cons_self → qv
open Option renaming bind_some → jb, bind → jz, map_some → qc, bind_eq_some_iff → qf
open Option.some renaming injEq → jc
open Bool renaming and_eq_true → jd, not_true → jg, true_and → jk, false_eq_true → jq, not_false → j9, not_eq_true → qa, false_and → qn, eq_iff_iff → qu
open Prod.mk renaming injEq → jh
open Nat renaming ble_eq_true_of_le → ji, mul_le_mul_right → jm, le_refl → jo, zero_add → js, add_assoc → jt, eq_of_beq_eq_true → ju, ble → jx, le_trans → qb, lt_of_lt_of_le → qk, pow_le_pow_right → ql, testBit_two_pow → qm, xor_lt_two_pow → qo
open Int renaming toNat_natCast → jn, eq_ofNat_of_zero_le → jv, toNat → jy
open Go.IntKind renaming wrap → j4, wrap → j5
open Sum renaming elim_inl → qj
open Result renaming andThen_ok → qw
open Sem renaming run_bind → qx
theorem Nac (a : List Ja) : ∀ c ∈ (Tb a).2.1, 0 ≤ c ∧ c ≤ 56 := by
 intro c hc
 have := (Cv a 56 c).1 hc
 omega
theorem GH (a : List Ja) (l : List Kb) (hn : a.length ≤ Ga) (ha : Vd a = true) (hm : Zc l = true) : Gi a l = some (ID (Tb a) l, ()) := by
 have h20 : Ga = 1048576 := rfl
 have hm' := hm
 simp only [Zc, jd, decide_eq_true_eq, IF] at hm'
 have h0 : CR l 0 ([], []) := ⟨by
  rw [List.drop_zero]
  cases hf : Cc (fun _ L x => Di L x) 0 [] l with
  | inl L => exact ⟨L, rfl⟩
  | inr u => rw [hf] at hm'; simp at hm', jo _, jo _, by simp⟩
 have hl := (Ae (step := fun x => Yj x.1.1 x.1.2.1 x.1.2.2.1 x.1.2.2.2.1 x.1.2.2.2.2.1 x.1.2.2.2.2.2.1 x.2.1) l (fun _ s x => mG (Tb a) s x) (fun s i => (((), s.1, s.2.map Tc, l, ((ja l : Nat) : Int), i, ()), (Tb a, ()))) (fun s => .inl ((s.1, ()), ())) (CR l) (by
  intro k hk s hi
  obtain ⟨hok, hi'⟩ := UW (b := Tb a) hk hi
  refine ⟨?_, hi'⟩
  have hlen := hi.len
  have hout := hi.out
  have hl8 := hm'.1
  have hcode : 0 ≤ l[k].2.1 ∧ l[k].2.1 ≤ 56 := by
   simp only [Ii, jd] at hok
   exact BA hok.1
  simp only [Yj]
  rw [Ba (show (k : Int) < ((ja l : Nat) : Int) by omega), Zb hk]
  simp only [cond_true, jb]
  generalize hx : l[k] = x at *
  have hW : ∀ L : List Ja, L.length ≤ 1000 → (∀ h ∈ L, 0 ≤ h.2.1.2.1 ∧ h.2.1.2.1 ≤ 56) → Qe (Tb a) (L.map Tc) = some (Mv (Tb a) (L.map Tc), ()) := fun L h1 h2 =>
   RL _ _ (Ky a) (by simpa using h1) (Nac a) (fun p hp => by
    obtain ⟨h, hh, rfl⟩ := qs.1 hp
    exact h2 h hh)
  have hcs : ∀ h ∈ jf s.2 [Td x], 0 ≤ h.2.1.2.1 ∧ h.2.1.2.1 ≤ 56 := by
   intro h hh
   rcases jl.1 (show h ∈ s.2 ++ [Td x] from hh) with hh | hh
   ·exact hi.cod h hh
   ·simp only [jp, List.not_mem_nil, or_false] at hh
    rw [hh]; exact hcode
  have happ : jf (s.2.map Tc) ([(x.2.1, x.2.2.1, ())] : List Jb) = (jf s.2 [Td x]).map Tc := by
   show _ ++ _ = List.map Tc (_ ++ _)
   rw [List.map_append]; rfl
  have happ2 : jf (jf ([] : List Jb) (s.2.map Tc)) ([(x.2.1, x.2.2.1, ())] : List Jb) = (jf s.2 [Td x]).map Tc := happ
  have hR1 := hW (jf s.2 [Td x]) (by simp; omega) hcs
  have hR0 := hW s.2 (by omega) hi.cod
  have b1 : jx (ja (s.2.map Tc) + ja ([(x.2.1, x.2.2.1, ())] : List Jb)) Ya = true := Ea (by simp; omega) (by simp)
  have b0 : jx (ja ([] : List Jb) + ja (s.2.map Tc)) Ya = true := ji (by simp [Bf]; omega)
  unfold mG TE Iu
  rcases MX hok with ⟨h0, hr⟩ | ⟨h1, hr⟩ | ⟨h2, hr⟩
  ·rw [h0, b0]
   simp only [show ((0 : Int) == 0) = true from rfl, show ((0 : Int) == 1) = false from rfl, show ((0 : Int) == 2) = false from rfl, cond_true, cond_false]
   show cond (jx (ja (s.2.map Tc) + ja ([(x.2.1, x.2.2.1, ())] : List Jb)) Ya) _ _ = _
   rw [b1, happ2]
   simp only [cond_true]
   show jz (Qe (Tb a) _) _ = _
   rw [hR1]
   simp only [jb]
   rw [show ∀ r : Aa, jx (ja s.1 + ja ([r] : List Aa)) Ya = true from fun r => Ea (by omega) (by simp)]
   simp only [cond_true]
   show jz (Qe (Tb a) _) _ = _
   rw [hR0]
   simp only [jb]
   rw [show ∀ r r' : Aa, jx (ja (jf s.1 [r]) + ja ([r'] : List Aa)) Ya = true from fun r r' => Ea (by simp; omega) (by simp)]
   simp
  ·rw [h1, b1, happ]
   simp only [show ((1 : Int) == 0) = false from rfl, show ((1 : Int) == 1) = true from rfl, cond_true, cond_false]
   show jz (Qe (Tb a) _) _ = _
   rw [hR1]
   simp only [jb]
   rw [show ∀ r : Aa, jx (ja s.1 + ja ([r] : List Aa)) Ya = true from fun r => Ea (by omega) (by simp)]
   rfl
  ·rw [h2]
   simp only [show ((2 : Int) == 0) = false from rfl, show ((2 : Int) == 1) = false from rfl, show ((2 : Int) == 2) = true from rfl, cond_true, cond_false]
   rcases Bq (Ue x.2.1 x.2.2.1) s.2 0 with h | ⟨j, hj, h⟩
   ·unfold rM at hr; omega
   ·rw [js] at h
    rw [YF (s.2.map Tc) _ (by simp; omega), QQ, h]
    simp only [jb]
    have hj' : j < (s.2.map Tc).length := by simpa using hj
    have hc := VI hj'
    have e1 : jx (ja (Nb (s.2.map Tc) (jy 0) (jy (j : Int))) + ja (Nb (s.2.map Tc) (jy ((j + 1 : Nat) : Int)) (jy ((ja (s.2.map Tc) : Nat) : Int)))) Ya = true :=
     ji (by simp [Nb]; rw [Bf]; omega)
    have e2 : jf (Nb (s.2.map Tc) (jy 0) (jy (j : Int))) (Nb (s.2.map Tc) (jy ((j + 1 : Nat) : Int)) (jy ((ja (s.2.map Tc) : Nat) : Int))) = (Gg s.2 j).map Tc := by
     rw [← NM]
     simp [Gg]
    have hsub : ∀ h ∈ Gg s.2 j, 0 ≤ h.2.1.2.1 ∧ h.2.1.2.1 ≤ 56 := by
     intro h hw
     unfold Gg Nb at hw
     rcases jl.1 (show h ∈ _ ++ _ from hw) with hw | hw
     ·exact hi.cod h (List.mem_of_mem_take (qq hw))
     ·exact hi.cod h (List.mem_of_mem_take (qq hw))
    rw [Ze (k := j) (by omega), hc.1, hc.2, e1, e2]
    simp only [cond_true]
    show jz (Qe (Tb a) _) _ = _
    rw [hW (Gg s.2 j) (by rw [MM hj]; omega) hsub]
    simp only [jb]
    rw [show ∀ r : Aa, jx (ja s.1 + ja ([r] : List Aa)) Ya = true from fun r => Ea (by omega) (by simp)]
    unfold rM
    rw [h, jn]
    rfl)
  (by
   intro s _
   simp only [Yj]
   rw [Ca (by omega)]; rfl) (by omega) ([], []) h0).1
 unfold Gi Rl
 rw [Dv _ hn, ha, GE _ (by omega), hm, Pq _ hn ha]
 simp only [jb, jg, cond_false]
 erw [hl]
 rfl
theorem WT (b : Aa) (D : List Jb) : (Mv b D).2.1.length ≤ 56 := by
 show (Vi (fun c => b.2.1.any (fun y => y == c) || D.any (fun p => p.1 == c)) 56).length ≤ 56
 exact PJ _ 56
theorem UN (b : Aa) : ∀ (l : List Kb) (k : Nat) (s : List Aa × List Ja), (∀ x ∈ s.1, x.2.1.length ≤ 56) →
 (Gc (fun _ s x => mG b s x) k s l).1.length ≤ s.1.length + 2 * l.length ∧ ∀ x ∈ (Gc (fun _ s x => mG b s x) k s l).1, x.2.1.length ≤ 56
 | [], _, s, h => by simp only [Gc]; exact ⟨by omega, h⟩
 | x :: l, k, s, h => by
  have h1 : (mG b s x).1.length ≤ s.1.length + 2 ∧ ∀ y ∈ (mG b s x).1, y.2.1.length ≤ 56 := by
   unfold mG TE
   cases x.1 == 0 with
   | true =>
    refine ⟨by simp, fun y hy => ?_⟩
    rcases jl.1 (show y ∈ s.1 ++ _ from hy) with hy | hy
    ·exact h y hy
    ·simp only [cond_true, jp, List.not_mem_nil, or_false] at hy
     rcases hy with rfl | rfl <;> exact WT _ _
   | false =>
    refine ⟨by simp, fun y hy => ?_⟩
    rcases jl.1 (show y ∈ s.1 ++ _ from hy) with hy | hy
    ·exact h y hy
    ·simp only [cond_false, jp, List.not_mem_nil, or_false] at hy
     rw [hy]; exact WT _ _
  have := UN b l (k + 1) (mG b s x) h1.2
  simp only [Gc, jw]
  exact ⟨by omega, this.2⟩
def Bj (f : Int) (l : List Ja) : Int := Gc (fun _ s (h : Ja) => cond (h.2.1.1 == 3) (Nd .i64 s (Kd .i64 1 h.2.1.2.2.2.1)) s) 0 (Nd .i64 1 f) l
theorem UF {f : Int} (hf : 0 ≤ f ∧ f ≤ 15) (l : List Ja) (hn : l.length ≤ Ga) (hv : Vd l = true) : Qr f l = some (Bj f l, ()) := by
 have h20 : Ga = 1048576 := rfl
 have hh := Yk hv
 have hl := (Ae (step := fun x => Jo x.1.1 x.1.2.1 x.1.2.2.1 x.1.2.2.2.1) l
  (fun _ s (h : Ja) => cond (h.2.1.1 == 3) (Nd .i64 s (Kd .i64 1 h.2.1.2.2.2.1)) s) (fun s i => ((s, l, ((ja l : Nat) : Int), i, ()), ()))
  (fun s => .inl ((s, ()), ())) (fun _ _ => True) (by
   intro k hk s _
   refine ⟨?_, trivial⟩
   simp only [Jo]
   rw [Ba (show (k : Int) < (ja l : Int) by omega), Zb hk]
   simp only [cond_true, jb]
   rw [Ba (Bz (hh _ (qp hk)).act)]
   cases l[k].2.1.1 == 3 <;> rfl)
  (by
   intro s _
   simp only [Jo]
   rw [Ca (by omega)]; rfl) (by omega) (Nd .i64 1 f) trivial).1
 unfold Qr Ai
 rw [Ba (show f ≥ 0 by omega), Ba hf.2, Dv _ hn, hv]
 simp only [cond_true, jb, jg, cond_false]
 erw [hl]
 rfl
theorem IG {f : Int} (hf : 0 ≤ f ∧ f ≤ 15) (l : List Ja) (hn : l.length ≤ Ga) (hv : Vd l = true) : Vr f l = some (Bj f l, ()) := by
 have h20 : Ga = 1048576 := rfl
 have hh := Yk hv
 have hl := (Ae (step := fun x => So x.1.1 x.1.2.1 x.1.2.2.1) l
  (fun _ s (h : Ja) => cond (h.2.1.1 == 3) (Nd .i64 s (Kd .i64 1 h.2.1.2.2.2.1)) s) (fun s i => ((l, s, i, ()), ()))
  (fun s => .inl ((s, ()), ())) (fun _ _ => True) (by
   intro k hk s _
   refine ⟨?_, trivial⟩
   simp only [So]
   rw [Ba (show (k : Int) < ((ja l : Nat) : Int) by omega), Zb hk, Jv _ hn, hv]
   simp only [cond_true, jb]
   rw [Ba (Bz (hh _ (qp hk)).act)]
   cases l[k].2.1.1 == 3 <;> rfl)
  (by
   intro s _
   simp only [So]
   rw [Ca (by omega)]; rfl) (by omega) (Nd .i64 1 f) trivial).1
 unfold Vr Uk
 rw [Be, Ba hf]
 simp only [cond_true, jb]
 erw [hl]
 rfl
theorem TR (a : La) : KA a = some (Oz a, ()) := by
 unfold KA Oz
 rw [Wv]
 cases Ge a <;> cases a.1 == 6 <;> rfl
theorem PQ {a : Nat} (ha : a < 2 ^ 63) (x : Ja) : Fv (a : Int) x = true ↔ Wo x ∧ a.testBit x.1.toNat = false := by
 constructor
 ·intro h
  obtain ⟨h1, h2⟩ := U8 h
  refine ⟨h1, ?_⟩
  have hx : x.1 = ((x.1.toNat : Nat) : Int) := (Int.toNat_of_nonneg h1.lo).symm
  have := Dz (a := a) (k := x.1.toNat) ha (by have := h1.hi; omega)
  rw [← hx] at this
  rw [← this]
  simp [h2]
 ·rintro ⟨h1, h2⟩
  have hx : x.1 = ((x.1.toNat : Nat) : Int) := (Int.toNat_of_nonneg h1.lo).symm
  have := Dz (a := a) (k := x.1.toNat) ha (by have := h1.hi; omega)
  rw [← hx, h2] at this
  simp only [Fv, jd, decide_eq_true_eq, Bool.not_eq_true', beq_eq_false_iff_ne]
  exact ⟨⟨h1.lo, h1.hi⟩, by rw [beq_eq_false_iff_ne] at this; exact this, h1.act, h1.n1, h1.n6, h1.n7⟩
theorem ZL : ∀ (l : List Ja) (k a : Nat), a < 2 ^ 63 → (Fu (Cc (fun _ s x => Ps s x) k (a : Int) l) = true ↔
 (∀ x ∈ l, Wo x ∧ a.testBit x.1.toNat = false) ∧ l.Pairwise (fun x y => x.1 ≠ y.1))
 | [], k, a, ha => by simp [Cc, Fu]
 | y :: l, k, a, ha => by
  simp only [Cc]
  cases hc : Fv (a : Int) y with
  | false =>
   rw [show Ps (a : Int) y = .inr () by unfold Ps; rw [hc]; rfl]
   simp only [Fu, jq, false_iff]
   rintro ⟨h, _⟩
   have := (PQ ha y).2 (h y (qv ..))
   rw [hc] at this; cases this
  | true =>
   rw [show Ps (a : Int) y = .inl (Nd .i64 (a : Int) (Kd .i64 1 y.1)) by unfold Ps; rw [hc]; rfl]
   simp only []
   obtain ⟨hy, hb⟩ := (PQ ha y).1 hc
   have h1 := hy.lo; have h2 := hy.hi
   have hyx : y.1 = ((y.1.toNat : Nat) : Int) := (Int.toNat_of_nonneg h1).symm
   have e : Nd .i64 (a : Int) (Kd .i64 1 y.1) = ((a ||| 2 ^ y.1.toNat : Nat) : Int) := by
    conv => lhs; rw [hyx]
    rw [Zx (by omega), NZ ha (Ju (by omega))]
   rw [e, ZL l (k + 1) _ (Nat.or_lt_two_pow ha (Ju (by omega)))]
   have tb : ∀ n, (a ||| 2 ^ y.1.toNat).testBit n = false ↔ a.testBit n = false ∧ y.1.toNat ≠ n := by
    intro n
    rw [Nat.testBit_or, qm, Bool.or_eq_false_iff, decide_eq_false_iff_not]
   simp only [jp, List.pairwise_cons, forall_eq_or_imp]
   constructor
   ·rintro ⟨h, hp⟩
    refine ⟨⟨⟨hy, hb⟩, fun x hx => ⟨(h x hx).1, ((tb _).1 (h x hx).2).1⟩⟩, fun x hx hxy => ?_, hp⟩
    exact ((tb _).1 (h x hx).2).2 (by rw [hxy])
   ·rintro ⟨⟨_, h⟩, hq, hp⟩
    refine ⟨fun x hx => ⟨(h x hx).1, (tb _).2 ⟨(h x hx).2, fun hn => hq x hx ?_⟩⟩, hp⟩
    have := (h x hx).1.lo
    omega
theorem Nz (l : List Ja) : Vd l = true ↔ (∀ x ∈ l, Wo x) ∧ l.Pairwise (fun x y => x.1 ≠ y.1) := by
 have := ZL l 0 0 (by decide)
 unfold Vd HV
 erw [this]
 simp
theorem Y6 {l : List Ja} (h : Vd l = true) {x : Ja} (hx : Wo x) (hn : ∀ y ∈ l, y.1 ≠ x.1) : Vd (jf l [x]) = true := by
 rw [Nz] at h ⊢
 obtain ⟨h1, h2⟩ := h
 refine ⟨fun y hy => ?_, ?_⟩
 ·rcases jl.1 (show y ∈ l ++ [x] from hy) with hy | hy
  ·exact h1 y hy
  ·rw [qd.1 hy]; exact hx
 ·show (l ++ [x]).Pairwise _
  rw [List.pairwise_append]
  exact ⟨h2, List.pairwise_singleton _ _, fun y hy z hz => by rw [qd.1 hz]; exact hn y hy⟩
theorem KN {l r : List Ja} (h : Vd l = true) (hs : r.Sublist l) : Vd r = true := by
 rw [Nz] at h ⊢
 exact ⟨fun y hy => h.1 y (hs.subset hy), h.2.sublist hs⟩
theorem LX : ∀ (n : Nat) (l : List Nat), l.Nodup → (∀ x ∈ l, x < n) → l.length ≤ n
 | 0, l, _, h => by
  cases l with
  | nil => exact jo _
  | cons x l => exact absurd (h x (qv ..)) (Nat.not_lt_zero _)
 | n + 1, l, hn, h => by
  have := LX n (l.erase n) (hn.erase n) (fun x hx => by
   have h1 := (hn.mem_erase_iff).1 hx
   have := h x h1.2
   have := h1.1
   omega)
  have h2 := List.length_erase (a := n) (l := l)
  split at h2 <;> omega
theorem Fl {l : List Ja} (h : Vd l = true) : l.length ≤ 32 := by
 rw [Nz] at h
 have hn : (l.map fun x => x.1.toNat).Nodup := by
  rw [List.Nodup, List.pairwise_map]
  refine (List.Pairwise.and_mem.1 h.2).imp ?_
  rintro x y ⟨hx, hy, hxy⟩ he
  have h1 := (h.1 x hx).lo; have h2 := (h.1 y hy).lo
  omega
 have hs : ∀ y ∈ (l.map fun x => x.1.toNat), y < 32 := by
  intro y hy
  obtain ⟨x, hx, rfl⟩ := qs.1 hy
  have := (h.1 x hx).hi; have := (h.1 x hx).lo
  omega
 have := LX 32 _ hn hs
 simpa using this
structure Uj (e : Va) : Prop where
 km : Ad e.1 = true
 m4 : e.2.1.length ≤ 4
 hd : Vd e.2.2.2.1 = true
 mac : ∀ x ∈ e.2.1, Zc x = true
 hin : ∀ x ∈ e.2.2.2.1, Fi e.1.1 e.1.2.1.length x = true
 st : RM e.1.2.1.length e.2.2.1 e.2.2.2.2.1
theorem TV {α : Type} {p : α → Bool} {l : List α} : Jd (fun _ x => p x) 0 l = true ↔ ∀ x ∈ l, p x = true := by
 rw [Vk]
 constructor
 ·intro h x hx
  obtain ⟨i, hi, rfl⟩ := qr hx
  exact h i hi
 ·intro h j hj
  exact h _ (qp hj)
theorem Jz (e : Va) : Dh e = true ↔ Uj e := by
 unfold Dh
 simp only [jd, decide_eq_true_eq, beq_iff_eq, TV]
 constructor
 ·rintro ⟨h1, h2, h3, h4, h5, h6, h7, h8⟩
  exact ⟨h1, h2, h3, h4, h5, ⟨h6.1, h6.2, h7, h8.1, h8.2⟩⟩
 ·rintro ⟨h1, h2, h3, h4, h5, h6⟩
  exact ⟨h1, h2, h3, h4, h5, ⟨h6.f0, h6.f1⟩, h6.f2, h6.o0, h6.o1⟩
theorem EA {e : Va} (h : Uj e) : Xb Ub e ≤ Ga - 5 := by
 have h20 : Ga = 1048576 := rfl
 have h1 := (KQ h.km).z
 have hh := Fl h.hd
 have h2 : Xb (.sl (.sl Xc)) e.2.1 ≤ (8 + 1) * e.2.1.length := XH (e := .sl Xc) (c := 8) fun x hx => by
  have := h.mac x hx
  simp only [Zc, jd, decide_eq_true_eq] at this
  have e2 : Xb (.sl Xc) x = x.length := Rx (e := Xc) rfl x
  omega
 have := h.m4
 have hm := Ig h.km
 have h3 : Xb Qb e.1 ≤ 200 := by
  have h1 : Xb Qb e.1 = 0 + (Xb (.sl (.sl Lc)) e.1.2.1 + 0) := rfl
  have h2 : Xb (.sl (.sl Lc)) e.1.2.1 ≤ (32 + 1) * ja e.1.2.1 := XH (e := .sl Lc) (c := 32) fun x hx => by
   obtain ⟨i, hi, rfl⟩ := qr hx
   rw [ZQ]
   have := hm.row i hi
   have := hm.k2
   omega
  have := hm.l2
  omega
 rw [Nl, Kl]
 omega
noncomputable def AO (e : Va) (k : Nat) (b : Bool) : La :=
 cond b (Oz (Xh e.1.2.1 (Zg e.1 (Bj e.2.2.1 e.2.2.2.1) k) k)) (LB (Xh e.1.2.1 (Zg e.1 (Bj e.2.2.1 e.2.2.2.1) k) k))
noncomputable def Tj (e : Va) (k : Nat) (b : Bool) : Int × Int × Bool × La := Zv e.2.2.1 e.2.2.2.2.1 e.2.2.2.2.2.1 (AO e k b)
noncomputable def pH (e : Va) (k : Nat) (b : Bool) : List Ja := jf e.2.2.2.1 [((k : Int), (Tj e k b).2.2.2, ())]
noncomputable def pE (e : Va) (k : Nat) (b : Bool) : Va := (e.1, e.2.1, (Tj e k b).1, pH e k b, (Tj e k b).2.1, (Tj e k b).2.2.1, ())
noncomputable def pM (e : Va) (k : Nat) (b : Bool) : List Aa :=
 cond ((Tj e k b).2.2.2.1 == 9) (cond (decide ((Tj e k b).2.2.2.2.2.2.1 < ((ja e.2.1 : Nat) : Int))) (ID (Tb (pH e k b)) (e.2.1.getD (Tj e k b).2.2.2.2.2.2.1.toNat [])) []) []
noncomputable def pR (e : Va) (k : Nat) (b : Bool) : List Aa := Iq Wi (Tb e.2.2.2.1) (jf (pM e k b) [Tb (pH e k b)])
theorem Jab {nl i : Nat} {a : La} (h : Cf nl i a = true) (h1 : a.1 ≠ 1) : QM nl (Oz a) := by
 have ha := WJ h
 have hP := ha
 rw [Ib] at hP
 unfold Ob at hP
 unfold Oz Ge
 rw [ha]
 by_cases h67 : a.1 = 6 ∨ a.1 = 7
 ·have e : (true && ((a.1 == 6) || (a.1 == 7))) = true := by rcases h67 with h | h <;> rw [h] <;> rfl
  rw [e]
  have hn := HL h (by omega)
  rcases h67 with h6 | h7
  ·rw [h6]
   refine ⟨?_, by show (2 : Int) ≠ 1; decide, by show (2 : Int) ≠ 6; decide, by show (2 : Int) ≠ 7; decide, fun _ => ?_⟩
   ·rw [Ib]
    exact .inr (.inl ⟨rfl, rfl, .inl rfl, .inr (by show 1 ≤ a.2.2.1 ∧ a.2.2.1 ≤ 15; omega), .inr (by show a.2.2.1 ≠ 0; omega)⟩)
   ·show (0 : Int) < (nl : Int)
    omega
  ·rw [h7]
   refine ⟨?_, by show (3 : Int) ≠ 1; decide, by show (3 : Int) ≠ 6; decide, by show (3 : Int) ≠ 7; decide, fun _ => hn⟩
   rw [Ib]
   exact .inr (.inr (.inl ⟨.inl rfl, rfl, rfl, by show 1 ≤ a.2.2.2.1; omega, by show a.2.2.2.1 ≤ 3; omega⟩))
 ·have e : (true && ((a.1 == 6) || (a.1 == 7))) = false := by
   rw [jk, Bool.or_eq_false_iff, beq_eq_false_iff_ne, beq_eq_false_iff_ne]; omega
  rw [e]
  exact ⟨ha, h1, fun h => h67 (.inl h), fun h => h67 (.inr h), fun hk => HL h hk⟩
structure O5 (e : Va) (k : Nat) (b : Bool) : Prop where
 act : QM e.1.2.1.length (AO e k b)
 ah : QM e.1.2.1.length (Tj e k b).2.2.2
 hd : Vd (pH e k b) = true
 ok : Uj (pE e k b)
 ml : (pM e k b).length ≤ 16
 mx : ∀ x ∈ pM e k b, x.2.1.length ≤ 56
theorem JL {e : Va} (h : Uj e) {k : Nat} (hk : (k : Int) < e.1.1) (hn : ∀ y ∈ e.2.2.2.1, y.1 ≠ (k : Int)) (b : Bool) : O5 e k b := by
 have hm := Ig h.km
 have h1 := Q8 hm (Bj e.2.2.1 e.2.2.2.1) hk
 have h2 : QM e.1.2.1.length (AO e k b) := by
  cases b
  ·exact Bai h1.1 h1.2
  ·exact Jab h1.1 h1.2
 have h3 := Zal (c := e.2.2.2.2.2.1) hm.l2 h.st h2
 have h4 : Vd (pH e k b) = true := Y6 h.hd (x := ((k : Int), (Tj e k b).2.2.2, ())) ⟨by show (0 : Int) ≤ (k : Int); omega, by have := hm.k2; show (k : Int) ≤ 31; omega, h3.2.act, h3.2.n1, h3.2.n6, h3.2.n7⟩ hn
 refine ⟨h2, h3.2, h4, ⟨h.km, h.m4, h4, h.mac, fun x hx => ?_, h3.1⟩, ?_, ?_⟩
 ·rcases jl.1 (show x ∈ e.2.2.2.1 ++ [((k : Int), (Tj e k b).2.2.2, ())] from hx) with hx | hx
  ·exact h.hin x hx
  ·simp only [jp, List.not_mem_nil, or_false] at hx
   subst hx
   simp only [Fi, jd, Bool.not_eq_true', Bool.and_eq_false_iff, decide_eq_false_iff_not]
   refine ⟨by show ¬ (k : Int) ≥ e.1.1; omega, ?_⟩
   by_cases h9 : (Tj e k b).2.2.2.1 = 9
   ·exact .inl (by show ((Tj e k b).2.2.2.1 != 9) = false; simp [h9])
   ·exact .inr (Int.not_le.2 (h3.2.n h9))
 all_goals
  unfold pM
  cases (Tj e k b).2.2.2.1 == 9 with
  | false => simp
  | true =>
   simp only [cond_true]
   by_cases hl : (Tj e k b).2.2.2.2.2.2.1 < ((ja e.2.1 : Nat) : Int)
   ·rw [Ba hl]
    have h0 := Bz h3.2.act
    have hmem : (e.2.1.getD (Tj e k b).2.2.2.2.2.2.1.toNat []) ∈ e.2.1 := by
     have hlt : (Tj e k b).2.2.2.2.2.2.1.toNat < e.2.1.length := by
      have : (0 : Int) ≤ (Tj e k b).2.2.2.2.2.2.1 := h0
      omega
     rw [qi, je hlt, Option.getD_some]
     exact qp hlt
    have hmc := h.mac _ hmem
    simp only [Zc, jd, decide_eq_true_eq] at hmc
    have := UN (Tb (pH e k b)) (e.2.1.getD (Tj e k b).2.2.2.2.2.2.1.toNat []) 0 ([], []) (by simp)
    simp only [cond_true]
    unfold ID
    first
     | exact this.2
     | (have h5 := this.1; simp only [j7] at h5; omega)
   ·rw [Ca hl]; simp
theorem RQ {β : Type} (MR : List Ja → List Kb → Option ((List Aa) × Unit)) (RO : List Ja → Option (Aa × Unit)) (CH : Aa → List Aa → Option ((List Aa) × Unit)) (K : List Aa → Option β)
 (hMR : ∀ a l, a.length ≤ Ga → Vd a = true → Zc l = true → MR a l = some (ID (Tb a) l, ()))
 (hRO : ∀ l, l.length ≤ Ga → Vd l = true → RO l = some (Tb l, ()))
 (hCH : ∀ (a : Aa) (l : List Aa), l.length ≤ Ga → a.2.1.length ≤ Ga → (∀ x ∈ l, x.2.1.length ≤ Ga) → CH a l = some (Iq Wi a l, ()))
 {e : Va} (h : Uj e) {k : Nat} {b : Bool} (F : O5 e k b) :
 (cond (jx (ja e.2.2.2.1 + ja ([((k : Int), (Tj e k b).2.2.2, ())] : List Ja)) Ya)
  (cond ((Tj e k b).2.2.2.1 == (9 : Int))
   (cond (decide ((Tj e k b).2.2.2.2.2.2.1 < ((ja e.2.1 : Nat) : Int)))
    (jz (Wb e.2.1 (Tj e k b).2.2.2.2.2.2.1) fun x8 => jz (MR (pH e k b) x8) fun r9 => jz (RO (pH e k b)) fun r10 =>
     cond (jx (ja r9.1 + ja ([r10.1] : List Aa)) Ya) (jz (RO e.2.2.2.1) fun r11 => jz (CH r11.1 (jf r9.1 ([r10.1] : List Aa))) fun r12 => K r12.1) none)
    (jz (RO (pH e k b)) fun r13 => cond (jx (ja ([] : List Aa) + ja ([r13.1] : List Aa)) Ya)
     (jz (RO e.2.2.2.1) fun r14 => jz (CH r14.1 (jf ([] : List Aa) ([r13.1] : List Aa))) fun r15 => K r15.1) none))
   (jz (RO (pH e k b)) fun r16 => cond (jx (ja ([] : List Aa) + ja ([r16.1] : List Aa)) Ya)
    (jz (RO e.2.2.2.1) fun r17 => jz (CH r17.1 (jf ([] : List Aa) ([r16.1] : List Aa))) fun r18 => K r18.1) none))
  none) = K (pR e k b) := by
 have h20 : Ga = 1048576 := rfl
 have hlim := Bf
 have hl1 := Fl h.hd
 have hl2 := Fl F.hd
 have R1 := hRO (pH e k b) (by omega) F.hd
 have R0 := hRO e.2.2.2.1 (by omega) h.hd
 have hr : ∀ r : Aa, jx (ja ([] : List Aa) + ja ([r] : List Aa)) Ya = true := fun r => ji (by simp only [jw, j7]; omega)
 rw [show jx (ja e.2.2.2.1 + ja ([((k : Int), (Tj e k b).2.2.2, ())] : List Ja)) Ya = true from ji (by simp only [jw, j7]; omega)]
 have plain : pM e k b = [] → (jz (RO (pH e k b)) fun r13 => cond (jx (ja ([] : List Aa) + ja ([r13.1] : List Aa)) Ya)
  (jz (RO e.2.2.2.1) fun r14 => jz (CH r14.1 (jf ([] : List Aa) ([r13.1] : List Aa))) fun r15 => K r15.1) none) = K (pR e k b) := by
  intro hm
  rw [R1, R0]
  simp only [jb]
  rw [hr, hCH _ _ (by simp; omega) (SE _) (fun x hx => by rw [qd.1 (show x ∈ [Tb (pH e k b)] from hx)]; exact SE _)]
  simp only [cond_true, jb]
  unfold pR
  rw [hm]
 simp only [cond_true]
 cases h9 : (Tj e k b).2.2.2.1 == (9 : Int) with
 | false => exact plain (by unfold pM; rw [h9]; rfl)
 | true =>
  simp only [cond_true]
  by_cases hl : (Tj e k b).2.2.2.2.2.2.1 < ((ja e.2.1 : Nat) : Int)
  ·rw [Ba hl]
   simp only [cond_true]
   have h0 : (0 : Int) ≤ (Tj e k b).2.2.2.2.2.2.1 := Bz F.ah.act
   have hlt : (Tj e k b).2.2.2.2.2.2.1.toNat < e.2.1.length := by omega
   have hi : Wb e.2.1 (Tj e k b).2.2.2.2.2.2.1 = some e.2.1[(Tj e k b).2.2.2.2.2.2.1.toNat] := by
    have := Zb (xs := e.2.1) hlt
    rw [Int.toNat_of_nonneg h0] at this
    exact this
   have hM : pM e k b = ID (Tb (pH e k b)) e.2.1[(Tj e k b).2.2.2.2.2.2.1.toNat] := by
    unfold pM
    rw [h9, Ba hl, qi, je hlt, Option.getD_some]
    rfl
   have ml := F.ml
   have mx := F.mx
   rw [hi]
   simp only [jb]
   rw [hMR _ _ (by omega) F.hd (h.mac _ (qp hlt)), R1, R0, ← hM]
   simp only [jb]
   rw [show jx (ja (pM e k b) + ja ([Tb (pH e k b)] : List Aa)) Ya = true from ji (by simp only [jw, j7]; omega)]
   simp only [cond_true]
   rw [hCH _ _ (by show (pM e k b ++ [Tb (pH e k b)]).length ≤ _; simp; omega) (SE _) (fun x hx => by
    rcases jl.1 (show x ∈ pM e k b ++ [Tb (pH e k b)] from hx) with hx | hx
    ·have := mx x hx; omega
    ·rw [qd.1 hx]; exact SE _)]
   rfl
  ·rw [Ca hl]
   exact plain (by unfold pM; rw [h9, Ca hl]; rfl)
theorem VR {e : Va} (h : Uj e) {k : Nat} (hk : (k : Int) < e.1.1) (hn : ∀ y ∈ e.2.2.2.1, y.1 ≠ (k : Int)) (b : Bool) :
 Yg e (k : Int) b = some (pE e k b, pR e k b, ()) := by
 have h20 : Ga = 1048576 := rfl
 have hm := Ig h.km
 have F := JL h hk hn b
 have hz := EA h
 have hle := Fl h.hd
 have hl := NE hm (Bj e.2.2.1 e.2.2.2.1) k
 have hrow := hm.row _ hl
 have tail := RQ Gi Yc Zd (fun r => some (pE e k b, r, ())) GH Pq EE h F
 unfold Yg
 rw [Sj _ (by omega), UF (E4 hm.l2 h.st) _ (by omega) h.hd]
 simp only [jb]
 rw [JE hm _ hk]
 simp only [jb]
 show jz (Wb e.1.2.1 ((Zg e.1 (Bj e.2.2.1 e.2.2.2.1) k : Nat) : Int)) _ = _
 rw [OW hl (by omega)]
 cases b with
 | true =>
  simp only [cond_true]
  rw [TR]
  simp only [jb]
  show jz (Tn (e.1, e.2.1, e.2.2.1, e.2.2.2.1, e.2.2.2.2.1, e.2.2.2.2.2.1, ()) (AO e k true)) _ = _
  rw [ZF _ _ _ _ _ _ _ F.act.act]
  simp only [jb]
  exact tail
 | false =>
  simp only [cond_false]
  rw [YT]
  simp only [jb]
  show jz (Tn (e.1, e.2.1, e.2.2.1, e.2.2.2.1, e.2.2.2.2.1, e.2.2.2.2.2.1, ()) (AO e k false)) _ = _
  rw [ZF _ _ _ _ _ _ _ F.act.act]
  simp only [jb]
  exact tail
theorem TP {l : List Ja} {k : Int} : Ec (fun h : Ja => h.1 == k) 0 l = -1 ↔ ∀ y ∈ l, y.1 ≠ k := by
 have key : ∀ (l : List Ja) (n : Nat), Ec (fun h : Ja => h.1 == k) n l = -1 ↔ ∀ y ∈ l, y.1 ≠ k := by
  intro l
  induction l with
  | nil => intro n; simp [Ec]
  | cons x l ih =>
   intro n
   simp only [Ec]
   cases hx : x.1 == k with
   | true =>
    simp only [cond_true, jp, forall_eq_or_imp]
    have hx := eq_of_beq hx
    constructor
    ·intro h; omega
    ·intro h; exact absurd hx h.1
   | false =>
    simp only [cond_false, jp, forall_eq_or_imp]
    rw [ih]
    exact ⟨fun h => ⟨beq_eq_false_iff_ne.1 hx, h⟩, fun h => h.2⟩
 exact key l 0
theorem MS {e : Va} (h : Uj e) {k : Nat} (hk : (k : Int) < e.1.1) (hn : ∀ y ∈ e.2.2.2.1, y.1 ≠ (k : Int)) (b : Bool) :
 Mj e (k : Int) b = some (pE e k b, pR e k b, true, ()) := by
 have h20 : Ga = 1048576 := rfl
 have hm := Ig h.km
 have hk2 := hm.k2
 have F := JL h hk hn b
 have hz := EA h
 have hle := Fl h.hd
 have hv := (Jz e).2 h
 have tail := RQ Hi Hd Qf (fun r => some (pE e k b, r, true, ())) UH Br WE h F
 unfold Mj
 rw [Yq _ (by omega), hv, HG _ _ (by omega), TP.2 hn, Xp _ (by omega), IG (E4 hm.l2 h.st) _ (by omega) h.hd]
 simp only [jb, jg, cond_false, Be]
 rw [Hc (by omega) (by omega), Ba (show 0 ≤ (k : Int) ∧ (k : Int) ≤ e.1.1 - 1 by omega), Ca (show ¬ ((-1 : Int) ≥ 0) by decide)]
 simp only [jg, cond_false]
 rw [ND (by have := (KQ h.km).z; omega) h.km _ hk]
 simp only [jb]
 cases b with
 | true =>
  simp only [cond_true]
  rw [HS]
  simp only [jb]
  show jz (Ik (e.1, e.2.1, e.2.2.1, e.2.2.2.1, e.2.2.2.2.1, e.2.2.2.2.2.1, ()) (AO e k true)) _ = _
  rw [JG _ _ _ _ _ _ _ F.act.act]
  simp only [jb]
  exact tail
 | false =>
  simp only [cond_false]
  rw [HU]
  simp only [jb]
  show jz (Ik (e.1, e.2.1, e.2.2.1, e.2.2.2.1, e.2.2.2.2.1, e.2.2.2.2.2.1, ()) (AO e k false)) _ = _
  rw [JG _ _ _ _ _ _ _ F.act.act]
  simp only [jb]
  exact tail
def wo (l : List Ja) (i : Nat) : List Ja := jf (l.take i) (l.drop (i + 1))
theorem BR (l : List Ja) (i : Nat) : (wo l i).Sublist l := by
 have h : (l.drop (i + 1)).Sublist (l.drop i) := List.drop_sublist_drop_left l (Nat.le_succ i)
 have h2 := List.Sublist.append (List.Sublist.refl (l.take i)) h
 rw [List.take_append_drop] at h2
 exact h2
def rE (e : Va) (i : Nat) : Va := (e.1, e.2.1, e.2.2.1, wo e.2.2.2.1 i, e.2.2.2.2)
def rR (e : Va) (i : Nat) : List Aa := Iq Wi (Tb e.2.2.2.1) [Tb (wo e.2.2.2.1 i)]
theorem Iaf {e : Va} (h : Uj e) (i : Nat) : Uj (rE e i) :=
 ⟨h.km, h.m4, KN h.hd (BR _ i), h.mac, fun x hx => h.hin x ((BR _ i).subset hx), h.st⟩
theorem O6 {α : Type} (l : List α) (i : Nat) : Nb l (jy (0 : Int)) (jy (i : Int)) = l.take i := by
 simp [Nb]
theorem N6 {α : Type} (l : List α) (i : Nat) : Nb l (jy ((i + 1 : Nat) : Int)) (jy ((ja l : Nat) : Int)) = l.drop (i + 1) := by
 simp [Nb]
theorem RN {e : Va} (h : Uj e) {k : Int} {i : Nat} (hi : i < e.2.2.2.1.length) (hf : Ec (fun h : Ja => h.1 == k) 0 e.2.2.2.1 = (i : Int)) :
 Eu e k = some (rE e i, rR e i, ()) := by
 have h20 : Ga = 1048576 := rfl
 have hlim := Bf
 have hz := EA h
 have hle := Fl h.hd
 have hw := KN h.hd (BR e.2.2.2.1 i)
 have hwl := Fl hw
 unfold Eu
 rw [Sj _ (by omega), RR _ _ (by omega), hf]
 simp only [jb]
 rw [Ze (by omega)]
 rw [O6, N6]
 rw [show De (ja e.2.2.2.1) (0 : Int) ((i : Nat) : Int) = true from BB (lo := 0) (by omega) (by omega), BB (by omega) (by omega)]
 rw [show jx (ja (e.2.2.2.1.take i) + ja (e.2.2.2.1.drop (i + 1))) Ya = true from ji (by simp; omega)]
 simp only [cond_true]
 rw [Pq _ (by omega) h.hd]
 simp only [jb]
 show jz (Yc (wo e.2.2.2.1 i)) _ = _
 rw [Pq _ (by omega) hw]
 simp only [jb]
 rw [EE _ _ (by simp; omega) (SE _) (fun x hx => by rw [qd.1 hx]; exact SE _)]
 rfl
theorem QO {e : Va} (h : Uj e) {k : Int} {i : Nat} (hi : i < e.2.2.2.1.length) (hf : Ec (fun h : Ja => h.1 == k) 0 e.2.2.2.1 = (i : Int)) :
 Ru e k = some (rE e i, rR e i, true, ()) := by
 have h20 : Ga = 1048576 := rfl
 have hlim := Bf
 have hz := EA h
 have hle := Fl h.hd
 have hw := KN h.hd (BR e.2.2.2.1 i)
 have hwl := Fl hw
 have hv := (Jz e).2 h
 have hW : Hf e.2.2.2.1 (i : Int) = some (wo e.2.2.2.1 i, ()) := by
  unfold Hf
  rw [Ze (by omega), O6, N6]
  rw [show De (ja e.2.2.2.1) (0 : Int) ((i : Nat) : Int) = true from BB (lo := 0) (by omega) (by omega), BB (by omega) (by omega)]
  rw [show jx (ja ([] : List Ja) + ja (e.2.2.2.1.take i)) Ya = true from ji (by simp; omega)]
  rw [show jx (ja (jf ([] : List Ja) (e.2.2.2.1.take i)) + ja (e.2.2.2.1.drop (i + 1))) Ya = true from ji (by simp; omega)]
  rfl
 unfold Ru
 rw [HG _ _ (by omega), Yq _ (by omega), hv, Xp _ (by omega), hf]
 simp only [jb, jg, cond_false]
 rw [Ca (show ¬ ((i : Int) < 0) by omega), hW]
 simp only [cond_false, jb]
 rw [Br _ (by omega) h.hd]
 simp only [jb]
 rw [Br _ (by omega) hw]
 simp only [jb]
 rw [WE _ _ (by simp; omega) (SE _) (fun x hx => by rw [qd.1 hx]; exact SE _)]
 rfl
def BI (md key e : Int) (s : Int) (x : Ia) : Int ⊕ (Int × Int) :=
 cond (Qg x) (cond (decide (x.1 ≥ e)) (.inr (2, e)) (cond (x.2.1 == key) (cond x.2.2.1 (.inl s) (.inr (1, x.1)))
  (cond x.2.2.1 (cond (md == 1) (.inr (2, x.1)) (.inl (Nd .i64 s (Kd .i64 1 x.2.1))))
   (cond (md == 2) (cond (Kk s x.2.1 == 1) (.inr (2, x.1)) (.inl s)) (.inl s))))) (.inr (0, 0))
def F6 (md key e : Int) (l : List Ia) : Int ⊕ (Int × Int) := Cc (fun _ s x => BI md key e s x) 0 0 l
def Of (t : Sx) (key at_ : Int) (l : List Ia) (til : Int) : Jb :=
 cond (Pe t && decide (0 ≤ at_ ∧ at_ ≤ 1000000)) (match F6 t.2.2.1 key (j5 .i64 (at_ + t.1)) l with
  | .inl _ => cond (decide (til ≥ j5 .i64 (at_ + t.1))) (2, j5 .i64 (at_ + t.1), ()) (0, 0, ())
  | .inr r => (r.1, r.2, ())) (0, 0, ())
theorem MN (t : Sx) (key at_ : Int) (l : List Ia) (til : Int) (hn : l.length ≤ Ga) : Mr t key at_ l til = some (Of t key at_ l til) := by
 have h20 : Ga = 1048576 := rfl
 have hl := Jj (step := fun x => Fo x.1.1 x.1.2.1 x.1.2.2.1 x.1.2.2.2.1 x.1.2.2.2.2.1 x.1.2.2.2.2.2.1 x.1.2.2.2.2.2.2.1 x.1.2.2.2.2.2.2.2.1 x.2.1) l
  (fun _ s x => BI t.2.2.1 key (j5 .i64 (at_ + t.1)) s x) (fun s i => ((key, at_, til, (), s, l, ((ja l : Nat) : Int), i, ()), (t, ())))
  (fun s => .inl ((at_, til, (), ()), (t, ()))) (fun r => .inr ((r.1, r.2, ()), ())) (fun _ _ => True) (by
   intro k hk s _
   refine ⟨?_, fun _ _ => trivial⟩
   simp only [Fo]
   rw [Ba (show (k : Int) < ((ja l : Nat) : Int) by omega), Zb hk]
   simp only [cond_true, jb]
   rw [FE]
   unfold BI
   cases he : Qg l[k] with
   | false => rfl
   | true =>
    have hk' := Wk he
    rw [Ba hk'.2.2.1, LA s hk'.2.2.1]
    simp only [cond_true, jb, jg, cond_false]
    cases decide (l[k].1 ≥ j5 .i64 (at_ + t.1)) <;> cases l[k].2.1 == key <;> cases l[k].2.2.1 <;> cases t.2.2.1 == 1 <;> cases t.2.2.1 == 2 <;> cases Kk s l[k].2.1 == 1 <;> rfl) (by
   intro s _
   simp only [Fo]
   rw [Ca (by omega)]; rfl) (by omega) 0 trivial
 unfold Mr Kq Of
 rw [XB]
 simp only [jb]
 cases Pe t with
 | false => rfl
 | true =>
  by_cases h1 : at_ < 0
  ·rw [Ba h1, Ca (show ¬ (0 ≤ at_ ∧ at_ ≤ 1000000) by omega)]; rfl
  ·by_cases h2 : at_ > 1000000
   ·rw [Ca h1, Ba h2, Ca (show ¬ (0 ≤ at_ ∧ at_ ≤ 1000000) by omega)]; rfl
   ·rw [Ca h1, Ca h2, Ba (show (0 ≤ at_ ∧ at_ ≤ 1000000) by omega)]
    simp only [jg, cond_false]
    erw [hl]
    unfold F6
    cases Cc (fun _ s x => BI t.2.2.1 key (j5 .i64 (at_ + t.1)) s x) 0 0 l with
    | inl s =>
     simp only [jb, qj]
     cases decide (til ≥ j5 .i64 (at_ + t.1)) <;> rfl
    | inr r => rfl
theorem LO (t : Sx) (key at_ : Int) (l : List Ia) (til : Int) (hn : l.length ≤ Ga) : Ax t key at_ l til = some (Of t key at_ l til) := by
 have h20 : Ga = 1048576 := rfl
 have hl := Jj (step := fun x => Oo x.1.1 x.1.2.1 x.1.2.2.1 x.1.2.2.2.1 x.1.2.2.2.2.1 x.1.2.2.2.2.2.1 x.1.2.2.2.2.2.2.1 x.2.1) l
  (fun _ s x => BI t.2.2.1 key (j5 .i64 (at_ + t.1)) s x) (fun s i => ((key, l, til, (), j5 .i64 (at_ + t.1), s, i, ()), (t, ())))
  (fun s => .inl ((til, j5 .i64 (at_ + t.1), ()), ())) (fun r => .inr ((r.1, r.2, ()), ())) (fun _ _ => True) (by
   intro k hk s _
   refine ⟨?_, fun _ _ => trivial⟩
   simp only [Oo]
   rw [Ba (show (k : Int) < ((ja l : Nat) : Int) by omega), Zb hk]
   simp only [cond_true, jb]
   rw [XE]
   unfold BI
   cases he : Qg l[k] with
   | false => rfl
   | true =>
    have hk' := Wk he
    rw [Ba hk'.2.2.1]
    simp only [cond_true, jb, jg, cond_false]
    unfold Kk
    cases decide (l[k].1 ≥ j5 .i64 (at_ + t.1)) <;> cases l[k].2.1 == key <;> cases l[k].2.2.1 <;> cases t.2.2.1 == 1 <;> cases t.2.2.1 == 2 <;> cases Yf .i64 (Ci .i64 s l[k].2.1) 1 == 1 <;> rfl) (by
   intro s _
   simp only [Oo]
   rw [Ca (by omega)]; rfl) (by omega) 0 trivial
 unfold Ax Wq Of
 rw [BC, Be]
 simp only [jb]
 cases Pe t with
 | false => rfl
 | true =>
  cases decide (0 ≤ at_ ∧ at_ ≤ 1000000) with
  | false => rfl
  | true =>
   simp only [jg, cond_false]
   erw [hl]
   unfold F6
   cases Cc (fun _ s x => BI t.2.2.1 key (j5 .i64 (at_ + t.1)) s x) 0 0 l with
   | inl s =>
    simp only [jb, qj]
    cases decide (til ≥ j5 .i64 (at_ + t.1)) <;> rfl
   | inr r => rfl
def Jq (l : List Ja) (j : Nat) : Bool := l.any (fun h => h.1 == (j : Int))
structure Nm (l : List Ja) (m : Nat) : Prop where
 lt : m < 2 ^ 63
 bit : ∀ j, m.testBit j = Jq l j
theorem C1 : ∀ (l : List Ja) (k : Nat) (s : Nat), s < 2 ^ 63 → (∀ x ∈ l, Wo x) →
 ∃ m : Nat, Gc (fun _ s (x : Ja) => Nd .i64 s (Kd .i64 1 x.1)) k (s : Int) l = (m : Int) ∧ m < 2 ^ 63 ∧ ∀ j, m.testBit j = (s.testBit j || Jq l j)
 | [], _, s, hs, _ => ⟨s, rfl, hs, fun j => by simp [Jq]⟩
 | x :: l, k, s, hs, h => by
  have hx := h x (by simp)
  obtain ⟨n, hn⟩ := jv hx.lo
  have := hx.hi
  simp only [Gc]
  rw [hn, Zx (by omega), NZ hs (Ju (by omega))]
  obtain ⟨m, h1, h2, h3⟩ := C1 l (k + 1) _ (Nat.or_lt_two_pow hs (Ju (show n ≤ 62 by omega))) (fun y hy => h y (by simp [hy]))
  refine ⟨m, h1, h2, fun j => ?_⟩
  rw [h3, Nat.testBit_or, qm]
  simp only [Jq, List.any_cons, hn]
  rw [show (((n : Nat) : Int) == ((j : Nat) : Int)) = decide (n = j) by rw [qu]; simp [Int.ofNat_inj]]
  rw [Bool.or_assoc]
theorem GL {l : List Ja} (h : Vd l = true) : ∃ m : Nat, Ym l = (m : Int) ∧ Nm l m := by
 obtain ⟨m, h1, h2, h3⟩ := C1 l 0 0 (by decide) (Yk h)
 exact ⟨m, h1, h2, fun j => by rw [h3]; simp⟩
theorem LQ {l : List Ja} {m k : Nat} (h : Nm l m) (hk : k ≤ 62) (hb : Jq l k = false) (a : La) : Nm (jf l [((k : Int), a, ())]) (m ^^^ 2 ^ k) := by
 refine ⟨qo h.lt (Ju hk), fun j => ?_⟩
 rw [Nat.testBit_xor, qm, h.bit]
 show _ = Jq (l ++ [((k : Int), a, ())]) j
 simp only [Jq, List.any_append, List.any_cons, List.any_nil, Bool.or_false]
 rw [show (((k : Nat) : Int) == ((j : Nat) : Int)) = decide (k = j) by rw [qu]; simp [Int.ofNat_inj]]
 by_cases hj : k = j
 ·subst hj
  simp only [Jq] at hb
  rw [hb, Ba rfl]; rfl
 ·rw [Ca hj]; simp
theorem Ham {l : List Ja} (hp : l.Pairwise (fun x y => x.1 ≠ y.1)) {i : Nat} (hi : i < l.length) (j : Int) : (wo l i).any (fun h => h.1 == j) = (l.any (fun h => h.1 == j) && !(l[i].1 == j)) := by
 rw [qu]
 simp only [List.any_eq_true, jd, Bool.not_eq_true', beq_iff_eq, beq_eq_false_iff_ne, wo]
 rw [List.pairwise_iff_getElem] at hp
 constructor
 ·rintro ⟨x, hx, hj⟩
  rcases jl.1 (show x ∈ l.take i ++ l.drop (i + 1) from hx) with hx | hx
  ·obtain ⟨n, hn, rfl⟩ := qr hx
   rw [List.getElem_take] at hj
   have hn2 : n < i ∧ n < l.length := by rw [List.length_take] at hn; omega
   exact ⟨⟨_, qp hn2.2, hj⟩, fun h => hp n i hn2.2 hi hn2.1 (hj.trans h.symm)⟩
  ·obtain ⟨n, hn, rfl⟩ := qr hx
   rw [List.getElem_drop] at hj
   have hn2 : i + 1 + n < l.length := by rw [qt] at hn; omega
   exact ⟨⟨_, qp hn2, hj⟩, fun h => hp i (i + 1 + n) hi hn2 (by omega) (h.trans hj.symm)⟩
 ·rintro ⟨⟨x, hx, hj⟩, hne⟩
  obtain ⟨n, hn, rfl⟩ := qr hx
  refine ⟨l[n], jl.2 ?_, hj⟩
  rcases Nat.lt_trichotomy n i with h | h | h
  ·exact .inl (List.mem_take_iff_getElem.2 ⟨n, by omega, rfl⟩)
  ·subst h; exact absurd hj hne
  ·exact .inr (List.mem_drop_iff_getElem.2 ⟨n - (i + 1), by omega, by congr 1; omega⟩)
theorem SJ {l : List Ja} (hp : l.Pairwise (fun x y => x.1 ≠ y.1)) {m k i : Nat} (h : Nm l m) (hk : k ≤ 62) (hi : i < l.length) (hb : l[i].1 = (k : Int)) : Nm (wo l i) (m ^^^ 2 ^ k) := by
 refine ⟨qo h.lt (Ju hk), fun j => ?_⟩
 rw [Nat.testBit_xor, qm, h.bit]
 simp only [Jq]
 rw [Ham hp hi, hb]
 rw [show (((k : Nat) : Int) == ((j : Nat) : Int)) = decide (k = j) by rw [qu]; simp [Int.ofNat_inj]]
 by_cases hj : k = j
 ·subst hj
  rw [Ba rfl]
  have : l.any (fun h => h.1 == (k : Int)) = true := List.any_eq_true.2 ⟨l[i], qp hi, by rw [hb]; simp⟩
  rw [this]; rfl
 ·rw [Ca hj]; simp
theorem IA {α S R : Type} (g : S → α → S ⊕ R) : ∀ (l : List α) (k j : Nat) (s : S), Cc (fun _ s x => g s x) k s l = Cc (fun _ s x => g s x) j s l
 | [], _, _, _ => rfl
 | x :: l, k, j, s => by
  simp only [Cc]
  cases g s x with
  | inl s' => exact IA g l (k + 1) (j + 1) s'
  | inr r => rfl
structure CF (d : Qa) : Prop where
 eng : Uj d.1
 len : d.2.2.1.length ≤ 64
 key : ∀ x ∈ d.2.2.1, x.2.1 < d.1.1.1
 fol : ∃ (m : Nat) (t : Int), Nm d.1.2.2.2.1 m ∧ Fu (Cc (fun _ s x => Ut s x) 0 (t, (m : Int)) d.2.2.1) = true
def DI (e : Va) (k : Int) : Nat := (Ec (fun h : Ja => h.1 == k) 0 e.2.2.2.1).toNat
noncomputable def Mh (d : Qa) (x : Ia) (r : List Ia) : Option (Qa × List Aa) :=
 cond (!x.2.2.1)
  (some ((rE d.1 (DI d.1 x.2.1), d.2.1, r, d.2.2.2.1, max d.2.2.2.2.1 x.1, d.2.2.2.2.2.1, cond (d.2.2.2.2.2.1 == j5 .i64 (x.2.1 + 1)) x.1 d.2.2.2.2.2.2.1, ()), rR d.1 (DI d.1 x.2.1)))
  (cond (Ge (Xh d.1.1.2.1 (Zg d.1.1 (Bj d.1.2.2.1 d.1.2.2.2.1) x.2.1.toNat) x.2.1.toNat))
   (
    let ch : Int × Int := cond ((d.2.2.2.2.2.1 == j5 .i64 (x.2.1 + 1)) && !decide (j5 .i64 (x.1 - d.2.2.2.2.2.2.1) ≥ d.2.1.2.1)) (1, x.1) ((Of d.2.1 x.2.1 x.1 r d.2.2.2.1).1, (Of d.2.1 x.2.1 x.1 r d.2.2.2.1).2.1)
    cond (ch.1 == 0) none
     (some ((pE d.1 x.2.1.toNat (ch.1 == 2), d.2.1, r, d.2.2.2.1, max (max d.2.2.2.2.1 x.1) ch.2, cond (ch.1 == 2) 0 (j5 .i64 (x.2.1 + 1)), cond (ch.1 == 2) d.2.2.2.2.2.2.1 x.1, ()), pR d.1 x.2.1.toNat (ch.1 == 2))))
   (some ((pE d.1 x.2.1.toNat false, d.2.1, r, d.2.2.2.1, max d.2.2.2.2.1 x.1, d.2.2.2.2.2.1, d.2.2.2.2.2.2.1, ()), pR d.1 x.2.1.toNat false)))
structure Laf (d : Qa) (x : Ia) (r : List Ia) : Prop where
 ev : Qg x = true
 key : x.2.1 < d.1.1.1
 up : x.2.2.1 = false → ∃ hi : DI d.1 x.2.1 < d.1.2.2.2.1.length, Ec (fun h : Ja => h.1 == x.2.1) 0 d.1.2.2.2.1 = ((DI d.1 x.2.1 : Nat) : Int) ∧ (d.1.2.2.2.1[DI d.1 x.2.1]'hi).1 = x.2.1
 down : x.2.2.1 = true → ∀ y ∈ d.1.2.2.2.1, y.1 ≠ x.2.1
theorem FT {α : Type} (p : α → Bool) : ∀ (xs : List α) (k j : Nat), j < xs.length → Ec p k xs = ((k + j : Nat) : Int) → ∃ h : j < xs.length, p xs[j] = true
 | [], _, _, hj, _ => absurd hj (by simp)
 | x :: xs, k, j, hj, h => by
  simp only [Ec] at h
  cases hx : p x with
  | true =>
   rw [hx] at h
   simp only [cond_true] at h
   have : j = 0 := by omega
   subst this
   exact ⟨hj, hx⟩
  | false =>
   rw [hx] at h
   simp only [cond_false] at h
   cases j with
   | zero =>
    rcases Bq p xs (k + 1) with h1 | ⟨i, _, h1⟩ <;> (rw [h1] at h; omega)
   | succ j =>
    have hj' : j < xs.length := by simp at hj; omega
    obtain ⟨_, h2⟩ := FT p xs (k + 1) j hj' (by rw [h]; omega)
    exact ⟨hj, h2⟩
theorem Kz {d : Qa} {x : Ia} {r : List Ia} (h : CF d) (hq : d.2.2.1 = x :: r) : Laf d x r := by
 obtain ⟨m, t, hm, hf⟩ := h.fol
 rw [hq] at hf
 simp only [Cc, Ut] at hf
 cases ho : Ol (t, (m : Int)) x with
 | false => rw [ho] at hf; exact absurd hf (by simp [Fu])
 | true =>
  simp only [Ol, jd] at ho
  obtain ⟨h1, h2, h3⟩ := ho
  have hk := Wk h1
  obtain ⟨n, hn⟩ := jv hk.2.2.1
  have hn' : x.2.1 = (n : Int) := hn
  rw [hn', Dz hm.lt (by omega), hm.bit] at h3
  refine ⟨h1, h.key x (by rw [hq]; simp), fun hu => ?_, fun hd => ?_⟩
  ·rw [hu] at h3
   have h4 : Jq d.1.2.2.2.1 n = true := by
    cases hh : Jq d.1.2.2.2.1 n with
    | true => rfl
    | false => rw [hh] at h3; exact absurd h3 (by decide)
   rcases Bq (fun h : Ja => h.1 == x.2.1) d.1.2.2.2.1 0 with h5 | ⟨j, hj, h5⟩
   ·rw [TP] at h5
    simp only [Jq, List.any_eq_true, beq_iff_eq] at h4
    obtain ⟨y, hy, hyk⟩ := h4
    exact absurd (hyk.trans hn'.symm) (h5 y hy)
   ·have e : DI d.1 x.2.1 = j := by unfold DI; rw [h5]; omega
    obtain ⟨h6, h7⟩ := FT _ _ _ _ hj h5
    have h7' := eq_of_beq h7
    refine ⟨by omega, by rw [h5, e]; omega, ?_⟩
    simp only [e]
    exact h7'
  ·rw [hd] at h3
   intro y hy he
   have : Jq d.1.2.2.2.1 n = true := List.any_eq_true.2 ⟨y, hy, by rw [he, hn']; simp⟩
   rw [this] at h3
   exact absurd h3 (by decide)
theorem CS {d d' : Qa} {x : Ia} {r : List Ia} {l : List Aa} (h : CF d) (hq : d.2.2.1 = x :: r) (hs : Mh d x r = some (d', l)) :
 CF d' ∧ d'.2.2.1 = r ∧ l.length ≤ 17 ∧ (∀ y ∈ l, y.2.1.length ≤ 56) := by
 have hF := Kz h hq
 have hk := Wk hF.ev
 obtain ⟨n, hn⟩ := jv hk.2.2.1
 have hn' : x.2.1 = (n : Int) := hn
 obtain ⟨m, t, hm, hf⟩ := h.fol
 have hfol : Fu (Cc (fun _ s x => Ut s x) 0 (x.1, ((m ^^^ 2 ^ n : Nat) : Int)) r) = true := by
  rw [hq] at hf
  simp only [Cc, Ut] at hf
  cases ho : Ol (t, (m : Int)) x with
  | false => rw [ho] at hf; exact absurd hf (by simp [Fu])
  | true =>
   rw [ho] at hf
   simp only [cond_true, hn', Zx (show n ≤ 62 by omega)] at hf
   rw [IH hm.lt (Ju (by omega))] at hf
   rw [IA Ut r 0 1]
   exact hf
 have hlen : r.length ≤ 64 := by have := h.len; rw [hq] at this; simp at this; omega
 have hkey : ∀ y ∈ r, y.2.1 < d.1.1.1 := fun y hy => h.key y (by rw [hq]; simp [hy])
 have hp := ((Nz d.1.2.2.2.1).1 h.eng.hd).2
 have press : ∀ b : Bool, x.2.2.1 = true → Uj (pE d.1 n b) ∧ Nm (pE d.1 n b).2.2.2.1 (m ^^^ 2 ^ n) ∧ (pR d.1 n b).length ≤ 17 ∧ (∀ y ∈ pR d.1 n b, y.2.1.length ≤ 56) := by
  intro b hd
  have hn2 := hF.down hd
  rw [hn'] at hn2
  have F := JL h.eng (k := n) (by have := hF.key; omega) hn2 b
  refine ⟨F.ok, LQ hm (by omega) ?_ _, ?_, fun y hy => ?_⟩
  ·cases hh : Jq d.1.2.2.2.1 n with
   | false => rfl
   | true =>
    simp only [Jq, List.any_eq_true, beq_iff_eq] at hh
    obtain ⟨y, hy, hyk⟩ := hh
    exact absurd hyk (hn2 y hy)
  ·have := WC (jf (pM d.1 n b) [Tb (pH d.1 n b)]) (Tb d.1.2.2.2.1)
   have h9 := F.ml
   unfold pR
   have : (jf (pM d.1 n b) [Tb (pH d.1 n b)]).length = (pM d.1 n b).length + 1 := by simp
   omega
  ·have := Gz _ _ _ hy
   rcases jl.1 (show y ∈ pM d.1 n b ++ [Tb (pH d.1 n b)] from this) with h1 | h1
   ·exact F.mx y h1
   ·rw [qd.1 h1]; exact Ky _
 unfold Mh at hs
 cases hd : x.2.2.1 with
 | false =>
  rw [hd] at hs
  simp only [j9, cond_true, jc, jh] at hs
  obtain ⟨rfl, rfl⟩ := hs
  obtain ⟨hi, hi1, hi2⟩ := hF.up hd
  refine ⟨⟨Iaf h.eng _, hlen, hkey, _, _, SJ hp hm (by omega) hi (by rw [hi2, hn']), hfol⟩, rfl, ?_, fun y hy => ?_⟩
  ·have := WC [Tb (wo d.1.2.2.2.1 (DI d.1 x.2.1))] (Tb d.1.2.2.2.1)
   unfold rR
   simp only [jw, j7] at this
   omega
  ·have := Gz _ _ _ hy
   rw [qd.1 this]; exact Ky _
 | true =>
  rw [hd] at hs
  simp only [jg, cond_false, hn', jn] at hs
  cases ht : Ge (Xh d.1.1.2.1 (Zg d.1.1 (Bj d.1.2.2.1 d.1.2.2.2.1) n) n) with
  | false =>
   rw [ht] at hs
   simp only [cond_false, jc, jh] at hs
   obtain ⟨rfl, rfl⟩ := hs
   have P := press false hd
   exact ⟨⟨P.1, hlen, hkey, _, _, P.2.1, hfol⟩, rfl, P.2.2⟩
  | true =>
   rw [ht] at hs
   simp only [cond_true] at hs
   revert hs
   generalize (cond ((d.2.2.2.2.2.1 == j5 .i64 ((n : Int) + 1)) && !decide (j5 .i64 (x.1 - d.2.2.2.2.2.2.1) ≥ d.2.1.2.1)) ((1 : Int), x.1) ((Of d.2.1 (n : Int) x.1 r d.2.2.2.1).1, (Of d.2.1 (n : Int) x.1 r d.2.2.2.1).2.1)) = ch
   intro hs
   cases h0 : ch.1 == 0 with
   | true => rw [h0] at hs; simp at hs
   | false =>
    rw [h0] at hs
    simp only [cond_false, jc, jh] at hs
    obtain ⟨rfl, rfl⟩ := hs
    have P := press (ch.1 == 2) hd
    exact ⟨⟨P.1, hlen, hkey, _, _, P.2.1, hfol⟩, rfl, P.2.2⟩
theorem LN {m : Ab} (hz : Xb Qb m ≤ Ga) (hv : Ad m = true) (on : Int) {k : Nat} (hk : (k : Int) < m.1) :
 Vw m on (k : Int) = some (Xh m.2.1 (Zg m on k) k, ()) := by
 have hm := Ig hv
 have hl := NE hm on k
 have hrow := hm.row _ hl
 unfold Vw ED
 rw [DD _ hz, hv, Ca (show ¬ (k : Int) < 0 by omega), Ca (show ¬ (k : Int) ≥ m.1 by omega), JE hm _ hk]
 simp only [jb, jg, cond_false]
 rw [Ca (by omega)]
 simp only [cond_false]
 show (jz (Wb m.2.1 ((Zg m on k : Nat) : Int)) _) = _
 rw [OW hl (by omega)]
theorem NP (t : Sx) (key at_ : Int) (l : List Ia) (til : Int) : (Of t key at_ l til).1 = 0 ∨ (Of t key at_ l til).1 = 1 ∨ (Of t key at_ l til).1 = 2 := by
 have key2 : ∀ (md k' e : Int) (l : List Ia) (k : Nat) (s : Int) (r : Int × Int), Cc (fun _ s x => BI md k' e s x) k s l = .inr r → r.1 = 0 ∨ r.1 = 1 ∨ r.1 = 2 := by
  intro md k' e l
  induction l with
  | nil => intro k s r h; simp [Cc] at h
  | cons x l ih =>
   intro k s r h
   simp only [Cc] at h
   revert h
   cases hg : BI md k' e s x with
   | inl s' => intro h; exact ih _ _ _ h
   | inr r' =>
    intro h
    simp only [Sum.inr.injEq] at h
    subst h
    unfold BI at hg
    revert hg
    cases Qg x <;> cases decide (x.1 ≥ e) <;> cases x.2.1 == k' <;> cases x.2.2.1 <;> cases md == 1 <;> cases md == 2 <;> cases Kk s x.2.1 == 1 <;> (intro hg; cases hg) <;> simp
 unfold Of
 cases Pe t && decide (0 ≤ at_ ∧ at_ ≤ 1000000) with
 | false => exact .inl rfl
 | true =>
  simp only [cond_true]
  cases h : F6 t.2.2.1 key (j5 .i64 (at_ + t.1)) l with
  | inl s => cases decide (til ≥ j5 .i64 (at_ + t.1)) <;> simp
  | inr r => exact key2 _ _ _ _ _ _ _ h
theorem ZM {α : Type} (x : α) (r : List α) (hr : r.length ≤ 64) : De (ja (x :: r)) (1 : Int) ((ja (x :: r) : Nat) : Int) = true ∧ Nb (x :: r) (jy (1 : Int)) (jy ((ja (x :: r) : Nat) : Int)) = r := by
 refine ⟨BB (lo := 1) (by simp) (by simp), ?_⟩
 show List.drop 1 (List.take _ (x :: r)) = r
 rw [jn, List.take_length]; rfl
def Yah (d : Qa) : Option (Qa × List Aa) → Qa × ((List Aa) × (Bool × Unit))
 | none => (d, ([], false, ()))
 | some (d', l) => (d', (l, true, ()))
theorem DQ {d : Qa} {x : Ia} {r : List Ia} (h : CF d) (hq : d.2.2.1 = x :: r) : Wg d = some (Yah d (Mh d x r)) := by
 have h20 : Ga = 1048576 := rfl
 have hF := Kz h hq
 have hk := Wk hF.ev
 have hlen : r.length ≤ 64 := by have := h.len; rw [hq] at this; simp at this; omega
 have hz := EA h.eng
 have hzm := (KQ h.eng.km).z
 have hle := Fl h.eng.hd
 obtain ⟨n, hn⟩ := jv hk.2.2.1
 have hn' : x.2.1 = (n : Int) := hn
 obtain ⟨e, t, q, now, clk, tp, ta, u⟩ := d
 obtain ⟨xt, xk, xd, xu⟩ := x
 cases u
 simp only at hq hn' hF hz hzm hle hk
 subst hq
 subst hn'
 have hc := ZM ((xt, (n : Int), xd, xu) : Ia) r hlen
 have hb : jx (ja ([] : List Ia) + ja r) Ya = true := ji (by simp; rw [Bf]; omega)
 have i0 : Lh (ja (((xt, (n : Int), xd, xu) : Ia) :: r)) (0 : Int) = true := by rw [show (0 : Int) = ((0 : Nat) : Int) from rfl, Im]; exact Ba (by simp)
 have g0 : (((xt, (n : Int), xd, xu) : Ia) :: r)[(jy (0 : Int))]? = some (xt, (n : Int), xd, xu) := rfl
 unfold Wg
 simp only [i0, g0, hc.1, hc.2, hb, cond_true, jb]
 unfold Mh
 cases xd with
 | false =>
  obtain ⟨hi, hi1, hi2⟩ := hF.up rfl
  rw [RN h.eng hi hi1]
  simp only [j9, cond_true, jb]
  cases tp == j5 .i64 ((n : Int) + 1) <;> rfl
 | true =>
  have hd := hF.down rfl
  have hkey := hF.key
  have hp := fun b => VR h.eng (k := n) hkey hd b
  simp only at hp hkey hd
  have hly := UF (E4 (Ig h.eng.km).l2 h.eng.st) _ (show e.2.2.2.1.length ≤ Ga by omega) h.eng.hd
  simp only at hly
  rw [hly]
  have hch := MN t (n : Int) xt r now (by omega)
  have hac := LN (m := e.1) (by omega) h.eng.km (Bj e.2.2.1 e.2.2.2.1) hkey
  simp only [jb, jg, cond_false, jn, hac, Wv, hch, hp]
  cases Ge (Xh e.1.2.1 (Zg e.1 (Bj e.2.2.1 e.2.2.2.1) n) n) with
  | false => rfl
  | true =>
   simp only [cond_true]
   have hv := NP t (n : Int) xt r now
   have hne : (tp != j5 .i64 ((n : Int) + 1)) = !(tp == j5 .i64 ((n : Int) + 1)) := rfl
   rw [hne]
   cases tp == j5 .i64 ((n : Int) + 1) with
   | false =>
    simp only [j9, cond_true, qn, cond_false]
    rcases hv with hv | hv | hv <;> (rw [hv]; rfl)
   | true =>
    simp only [jg, cond_false, jk]
    cases decide (j5 .i64 (xt - ta) ≥ t.2.1) with
    | true =>
     simp only [jg, cond_true, cond_false]
     rcases hv with hv | hv | hv <;> (rw [hv]; rfl)
    | false => rfl
theorem HK {d : Qa} {x : Ia} {r : List Ia} (h : CF d) (hq : d.2.2.1 = x :: r) (hd : x.2.2.1 = true) :
 Up d x (max d.2.2.2.2.1 x.1) = some (match Mh d x r with
  | none => (d, ([], max d.2.2.2.2.1 x.1, false, ()))
  | some (d', l) => ((d'.1, d.2.1, d.2.2.1, d.2.2.2.1, d.2.2.2.2.1, d'.2.2.2.2.2.1, d'.2.2.2.2.2.2.1, ()), (l, d'.2.2.2.2.1, true, ()))) := by
 have h20 : Ga = 1048576 := rfl
 have hF := Kz h hq
 have hk := Wk hF.ev
 have hlen : r.length ≤ 64 := by have := h.len; rw [hq] at this; simp at this; omega
 have hz := EA h.eng
 have hzm := (KQ h.eng.km).z
 have hle := Fl h.eng.hd
 obtain ⟨n, hn⟩ := jv hk.2.2.1
 have hn' : x.2.1 = (n : Int) := hn
 obtain ⟨e, t, q, now, clk, tp, ta, u⟩ := d
 obtain ⟨xt, xk, xd, xu⟩ := x
 cases u
 simp only at hq hn' hF hz hzm hle hk hd
 subst hq
 subst hn'
 subst hd
 have hc := ZM ((xt, (n : Int), true, xu) : Ia) r hlen
 have hdn := hF.down rfl
 have hkey := hF.key
 have hp := fun b => MS h.eng (k := n) hkey hdn b
 simp only at hp hkey hdn
 have hly := IG (E4 (Ig h.eng.km).l2 h.eng.st) _ (show e.2.2.2.1.length ≤ Ga by omega) h.eng.hd
 simp only at hly
 unfold Up
 simp only [hc.1, hc.2]
 unfold Mh
 rw [hly]
 have hch := LO t (n : Int) xt r now (by omega)
 have hac := ND (m := e.1) (by omega) h.eng.km (Bj e.2.2.1 e.2.2.2.1) hkey
 simp only [jb, jg, cond_false, jn, hac, Ro, hch, hp]
 cases Ge (Xh e.1.2.1 (Zg e.1 (Bj e.2.2.1 e.2.2.2.1) n) n) with
 | false => rfl
 | true =>
  simp only [cond_true]
  have hv := NP t (n : Int) xt r now
  have hlt : decide (j5 .i64 (xt - ta) < t.2.1) = !decide (j5 .i64 (xt - ta) ≥ t.2.1) := by
   rw [qu]; simp only [decide_eq_true_eq, Bool.not_eq_true', decide_eq_false_iff_not]; omega
  rw [hlt]
  cases tp == j5 .i64 ((n : Int) + 1) with
  | false =>
   simp only [qn, cond_false]
   rcases hv with hv | hv | hv <;> (rw [hv]; rfl)
  | true =>
   simp only [cond_true, jk]
   cases decide (j5 .i64 (xt - ta) ≥ t.2.1) with
   | true =>
    simp only [jg, cond_true, cond_false]
    rcases hv with hv | hv | hv <;> (rw [hv]; rfl)
   | false => rfl
theorem DM {X R : Type} {step : X → Option (X ⊕ R)} {α S : Type} (xs : List α) (g : S → α → S) (I : S → Nat → X) (out : S → R) (Ag : Nat → S → Prop)
 (h : ∀ k (hk : k < xs.length) s, Ag k s → step (I s k) = some (.inl (I (g s xs[k]) (k + 1))) ∧ Ag (k + 1) (g s xs[k]))
 (he : ∀ s, Ag xs.length s → step (I s xs.length) = some (.inr (out s))) (s0 : S) (h0 : Ag 0 s0) :
 Mb step (I s0 0) = some (out (xs.foldl g s0)) ∧ Ag xs.length (xs.foldl g s0) := by
 have key : ∀ (ys : List α) (k : Nat) (s : S), xs.drop k = ys → k ≤ xs.length → Ag k s → Mb step (I s k) = some (out (ys.foldl g s)) ∧ Ag xs.length (ys.foldl g s) := by
  intro ys
  induction ys with
  | nil =>
   intro k s hd hle hi
   have := BN hd hle
   subst this
   rw [Ve (he s hi)]
   exact ⟨rfl, hi⟩
  | cons y ys ih =>
   intro k s hd hle hi
   obtain ⟨hk, hy, hd'⟩ := WI hd
   obtain ⟨h1, h2⟩ := h k hk s hi
   rw [Ve h1, hy]
   rw [hy] at h2
   exact ih (k + 1) _ hd' hk h2
 exact key xs 0 s0 rfl (Nat.zero_le _) h0
def Pk (s : List Rd) (w : Int) (l : List Aa) : List Rd := jf s (l.map fun r => ((w, r, ()) : Rd))
theorem CJ (w : Int) : ∀ (l : List Aa) (s : List Rd), l.foldl (fun s r => jf s [((w, r, ()) : Rd)]) s = Pk s w l
 | [], s => by simp [Pk]
 | x :: l, s => by
  rw [List.foldl_cons, CJ w l]
  simp [Pk]
theorem BK (s : List Rd) (w : Int) (l : List Aa) : (Pk s w l).length = s.length + l.length := by simp [Pk]
theorem RW (s : List Rd) (w : Int) (l : List Aa) (hl : l.length ≤ 1000) (hs : s.length ≤ 1000000) : DB s w l = some (Pk s w l, ()) := by
 have h := (DM (step := fun x => Yw x.1.1 x.1.2.1 x.1.2.2.1 x.1.2.2.2.1 x.1.2.2.2.2.1) l (fun s r => jf s [((w, r, ()) : Rd)])
  (fun o k => ((o, w, (l, (k : Int)), ((ja l : Nat) : Int), (k : Int), ()), ())) (fun o => .inl ((o, ()), ())) (fun k o => o.length = s.length + k) (by
   intro k hk o ho
   refine ⟨?_, by simp [ho]; omega⟩
   simp only [Yw]
   rw [Ba (by omega), Im, Ba hk, jn, je hk]
   simp only [cond_true, jb, Nat.beq_refl]
   rw [show jx (ja o + ja ([(w, l[k], ())] : List Rd)) Ya = true from ji (by simp only [jw, j7]; rw [Bf]; omega)]
   rw [Ze (by omega)]
   rfl) (by
   intro o ho
   simp only [Yw]
   rw [Ca (by omega)]; rfl) s rfl).1
 unfold DB Kx
 erw [h]
 rw [CJ]
 rfl
theorem QD (s : List Rd) (w : Int) (l : List Aa) (d : Qa) (hl : l.length ≤ 1000) (hs : s.length ≤ 1000000) :
 Jh (((), s, w, (l, (0 : Int)), (0 : Int), ()), (d, ())) = some (.inl (((), Pk s w l, w, ()), (d, ()))) := by
 have h := (DM (step := fun x => Er x.1.1 x.1.2.1 x.1.2.2.1 x.1.2.2.2.1 x.1.2.2.2.2.1 x.2.1) l (fun s r => jf s [((w, r, ()) : Rd)])
  (fun o k => (((), o, w, (l, (k : Int)), (k : Int), ()), (d, ()))) (fun o => .inl (((), o, w, ()), (d, ()))) (fun k o => o.length = s.length + k) (by
   intro k hk o ho
   refine ⟨?_, by simp [ho]; omega⟩
   simp only [Er]
   rw [Ba (by omega), Im, Ba hk, jn, je hk]
   simp only [cond_true, jb, Nat.beq_refl]
   rw [show jx (ja o + ja ([(w, l[k], ())] : List Rd)) Ya = true from ji (by simp only [jw, j7]; rw [Bf]; omega)]
   rw [Ze (by omega)]
   rfl) (by
   intro o ho
   simp only [Er]
   rw [Ca (by omega)]; rfl) s rfl).1
 unfold Jh
 erw [h]
 rw [CJ]
noncomputable def Pd : Nat → Qa → List Rd → Qa × List Rd
 | 0, d, s => (d, s)
 | n + 1, d, s => match d.2.2.1 with
  | [] => (d, s)
  | x :: r => match Mh d x r with
   | none => (d, s)
   | some (d', l) => Pd n d' (Pk s d'.2.2.2.2.1 l)
theorem TX {d d' : Qa} {x : Ia} {r : List Ia} {l : List Aa} (hs : Mh d x r = some (d', l)) :
 d' = (d'.1, d.2.1, r, d.2.2.2.1, d'.2.2.2.2.1, d'.2.2.2.2.2.1, d'.2.2.2.2.2.2.1, ()) := by
 unfold Mh at hs
 revert hs
 generalize (cond ((d.2.2.2.2.2.1 == j5 .i64 (x.2.1 + 1)) && !decide (j5 .i64 (x.1 - d.2.2.2.2.2.2.1) ≥ d.2.1.2.1)) ((1 : Int), x.1) ((Of d.2.1 x.2.1 x.1 r d.2.2.2.1).1, (Of d.2.1 x.2.1 x.1 r d.2.2.2.1).2.1)) = ch
 generalize Ge _ = b1
 cases x.2.2.1 <;> cases b1 <;> cases h0 : ch.1 == 0 <;>
  simp only [jg, j9, cond_true, cond_false, jc, jh, reduceCtorEq, false_implies, h0, and_imp] <;> (intro h1 _; subst h1; rfl)
theorem AM (z : Qa) : ∀ (n : Nat) (d : Qa) (s : List Rd), CF d → d.2.2.1.length ≤ n → s.length + 17 * n ≤ 100000 →
 Lf (((), (), s, ()), (z, d, ())) = some (.inl (((), (), (Pd n d s).2, ()), (z, (Pd n d s).1, ())))
 | n, d, s, h, hl, hs => by
  unfold Lf
  cases hq : d.2.2.1 with
  | nil =>
   have e1 : Pd n d s = (d, s) := by
    cases n with
    | zero => rfl
    | succ n => simp only [Pd, hq]
   have hstep : Lg () () s z d = some (.inr (.inl (((), (), s, ()), (z, d, ())))) := by
    unfold Lg
    rw [hq, Ca (by simp)]; rfl
   erw [Ve hstep]
   rw [e1]; rfl
  | cons x r =>
   have hlen : d.2.2.1.length = r.length + 1 := by rw [hq]; rfl
   cases n with
   | zero => omega
   | succ n =>
    have e1 : Pd (n + 1) d s = match Mh d x r with
     | none => (d, s)
     | some (d', l) => Pd n d' (Pk s d'.2.2.2.2.1 l) := by simp only [Pd, hq]
    rw [e1]
    have hp := DQ h hq
    cases hst : Mh d x r with
    | none =>
     have hstep : Lg () () s z d = some (.inr (.inl (((), (), s, ()), (z, d, ())))) := by
      unfold Lg
      rw [Ba (by rw [hlen]; omega)]
      show (jz (Wg d) _) = _
      rw [hp, hst]; rfl
     erw [Ve hstep]; rfl
    | some p =>
     obtain ⟨d', l⟩ := p
     have hn := CS h hq hst
     have hstep : Lg () () s z d = some (.inl (((), (), Pk s d'.2.2.2.2.1 l, ()), (z, d', ()))) := by
      unfold Lg
      rw [Ba (by rw [hlen]; omega)]
      show (jz (Wg d) _) = _
      rw [hp, hst]
      show jz (DB s d'.2.2.2.2.1 l) _ = _
      rw [RW _ _ _ (by have := hn.2.2.1; omega) (by omega)]
      rfl
     erw [Ve hstep]
     have ih := AM z n d' (Pk s d'.2.2.2.2.1 l) hn.1 (by rw [hn.2.1]; omega) (by rw [BK]; have := hn.2.2.1; omega)
     unfold Lf at ih
     exact ih
theorem JM : ∀ (n : Nat) (d : Qa) (s : List Rd), CF d → d.2.2.1.length ≤ n → s.length + 17 * n ≤ 100000 →
 Rh (((), s, ()), (d, ())) = some (.inl (((), (Pd n d s).2, ()), ((Pd n d s).1, ()))) ∨ Rh (((), s, ()), (d, ())) = some (.inr (((), (Pd n d s).2, ()), ((Pd n d s).1, ())))
 | n, d, s, h, hl, hs => by
  unfold Rh
  cases hq : d.2.2.1 with
  | nil =>
   have e1 : Pd n d s = (d, s) := by
    cases n with
    | zero => rfl
    | succ n => simp only [Pd, hq]
   have hstep : Gh () s d = some (.inr (.inl (((), s, ()), (d, ())))) := by
    unfold Gh
    rw [hq, Ca (by simp)]; rfl
   refine .inl ?_
   erw [Ve hstep]
   rw [e1]; rfl
  | cons x r =>
   have hlen : d.2.2.1.length = r.length + 1 := by rw [hq]; rfl
   cases n with
   | zero => omega
   | succ n =>
    have e1 : Pd (n + 1) d s = match Mh d x r with
     | none => (d, s)
     | some (d', l) => Pd n d' (Pk s d'.2.2.2.2.1 l) := by simp only [Pd, hq]
    rw [e1]
    have h64 := h.len
    have hc := ZM x r (by omega)
    have hb : jx (ja ([] : List Ia) + ja r) Ya = true := ji (by simp; rw [Bf]; omega)
    have i0 : Lh (ja (x :: r)) (0 : Int) = true := by rw [show (0 : Int) = ((0 : Nat) : Int) from rfl, Im]; exact Ba (by simp)
    have g0 : (x :: r)[(jy (0 : Int))]? = some x := rfl
    have pre : Gh () s d = Gh () s d := rfl
    conv at pre => rhs; unfold Gh
    rw [Ba (show ((ja d.2.2.1 : Nat) : Int) > 0 by rw [hlen]; omega), hq, i0, g0] at pre
    simp only [cond_true, jb] at pre
    have Cg : ∀ (s' : List Rd) (w : Int) (e' : Qa), e'.2.2.1 = x :: r → (jz (some (Sum.inl (((), s', w, ()), (e', ()))) : Option (((Unit × List Rd × Int × Unit) × Qa × Unit) ⊕ Unit)) (Sum.elim (fun y43 => (cond (De (ja y43.2.1.2.2.1) (1 : Int) ((ja y43.2.1.2.2.1 : Nat) : Int))
     (cond (jx (ja ([] : List Ia) + ja (Nb y43.2.1.2.2.1 (jy (1 : Int)) (jy ((ja y43.2.1.2.2.1 : Nat) : Int)))) Ya)
     (some (.inl (((), y43.1.2.1, ()), ((((y43.2.1.1.1.1, y43.2.1.1.1.2.1, ()), y43.2.1.1.2), y43.2.1.2.1, (jf ([] : List Ia) (Nb y43.2.1.2.2.1 (jy (1 : Int)) (jy ((ja y43.2.1.2.2.1 : Nat) : Int)))), y43.2.1.2.2.2.1, y43.1.2.2.1, y43.2.1.2.2.2.2.2), ()))) : Option (((Unit × List Rd × Unit) × Qa × Unit) ⊕ (((Unit × List Rd × Unit) × Qa × Unit) ⊕ ((Unit × List Rd × Unit) × Qa × Unit))))
     none)
     none)) (fun z44 => none))) = some (.inl (((), s', ()), ((e'.1, e'.2.1, r, e'.2.2.2.1, w, e'.2.2.2.2.2), ()))) := by
     intro s' w e' he
     simp only [jb, qj, he, hc.1, hc.2, hb, cond_true]
     rfl
    cases hst : Mh d x r with
    | none =>
     have hd : x.2.2.1 = true := by
      cases hd : x.2.2.1 with
      | true => rfl
      | false =>
       unfold Mh at hst
       rw [hd] at hst
       simp at hst
     have hstep : Gh () s d = some (.inr (.inr (((), s, ()), (d, ())))) := by
      rw [pre, hd]
      show (jz (Up d x (max d.2.2.2.2.1 x.1)) _) = _
      rw [HK h hq hd, hst]; rfl
     refine .inr ?_
     erw [Ve hstep]; rfl
    | some p =>
     obtain ⟨d', l⟩ := p
     have hn := CS h hq hst
     have hsh := TX hst
     have hl' := hn.2.2.1
     have hstep : Gh () s d = some (.inl (((), Pk s d'.2.2.2.2.1 l, ()), (d', ()))) := by
      rw [pre]
      cases hd : x.2.2.1 with
      | true =>
       simp only [cond_true]
       show (jz (Up d x (max d.2.2.2.2.1 x.1)) _) = _
       rw [HK h hq hd, hst]
       simp only [jb, jg, cond_false]
       rw [QD _ _ _ _ (by omega) (by omega)]
       refine (Cg (Pk s d'.2.2.2.2.1 l) d'.2.2.2.2.1 (d'.1, d.2.1, d.2.2.1, d.2.2.2.1, d.2.2.2.2.1, d'.2.2.2.2.2.1, d'.2.2.2.2.2.2.1, ()) hq).trans ?_
       rw [hsh]
      | false =>
       simp only [cond_false]
       obtain ⟨hi, hi1, hi2⟩ := (Kz h hq).up hd
       show (jz (Ru d.1 x.2.1) _) = _
       rw [QO h.eng hi hi1]
       unfold Mh at hst
       rw [hd] at hst
       simp only [j9, cond_true, jc, jh] at hst
       obtain ⟨rfl, rfl⟩ := hst
       simp only [jb]
       cases d.2.2.2.2.2.1 == j5 .i64 (x.2.1 + 1) with
       | true =>
        simp only [cond_true]
        rw [QD _ _ _ _ (by omega) (by omega)]
        exact Cg _ _ _ rfl
       | false =>
        simp only [cond_false]
        rw [QD _ _ _ _ (by omega) (by omega)]
        exact Cg _ _ _ hq
     have ih := JM n d' (Pk s d'.2.2.2.2.1 l) hn.1 (by rw [hn.2.1]; omega) (by rw [BK]; omega)
     unfold Rh at ih
     erw [Ve hstep]
     exact ih
theorem JS (d : Qa) (h : CF d) : Zr d = some ((Pd d.2.2.1.length d []).1, ((Pd d.2.2.1.length d []).2, ())) := by
 have h64 := h.len
 unfold Zr
 rcases JM d.2.2.1.length d [] h (jo _) (by simp; omega) with h1 | h1 <;> (rw [h1]; rfl)
def SD : Qa := ((((0 : Int), ([] : List (List La)), ()), ([] : List (List Kb)), (0 : Int), ([] : List Ja), (0 : Int), false, ()), ((0 : Int), (0 : Int), (0 : Int), ()), ([] : List Ia), (0 : Int), (0 : Int), (0 : Int), (0 : Int), ())
def H4 (l : List Ia) : Int := (l.headD (0, 0, false, ())).1
def Dj (l : List Ia) (t : Int) : Bool := ((l.length : Int) == 0) || !decide (H4 l < t)
noncomputable def Km (d : Qa) (l : List Ia) (til : Int) : Bool :=
 Md d && (decide (d.2.2.2.1 ≤ til ∧ til ≤ 1000000) && (Dj l d.2.2.2.1 && (Zf l til && Fd (jf d.2.2.1 l) (Ym d.1.2.2.2.1) d.1.1.1)))
def Zi (d : Qa) (l : List Ia) (til : Int) : Qa := (d.1, d.2.1, jf d.2.2.1 l, til, d.2.2.2.2)
noncomputable def No (d : Qa) (l : List Ia) (til : Int) : Qa × ((List Rd) × (Bool × Unit)) :=
 cond (Km d l til) ((Pd (Zi d l til).2.2.1.length (Zi d l til) []).1, (Pd (Zi d l til).2.2.1.length (Zi d l til) []).2, true, ()) (SD, [], false, ())
theorem GN {q : List Ia} {d k : Int} (h : Fd q d k = true) : q.length ≤ 64 := by
 simp only [Fd, jd, Vx] at h
 by_cases h1 : q.length ≤ 64
 ·exact h1
 ·rw [Ca h1] at h; simp at h
theorem JR {d : Qa} {l : List Ia} {til : Int} (hd : Md d = true) (hf : Fd (jf d.2.2.1 l) (Ym d.1.2.2.2.1) d.1.1.1 = true) : CF (Zi d l til) := by
 have he : Uj d.1 := by
  rw [← Jz]
  simp only [Md, jd] at hd
  exact hd.1
 obtain ⟨m, hm, hm2⟩ := GL he.hd
 refine ⟨he, GN hf, ?_, m, 0, hm2, ?_⟩
 ·have h1 := hf
  simp only [Fd, jd, OJ] at h1
  have h2 := h1.1
  intro x hx
  have h3 := (TV (p := fun x : Ia => !decide (x.2.1 ≥ d.1.1.1))).1 h2 x hx
  simp only [Bool.not_eq_true', decide_eq_false_iff_not] at h3
  show x.2.1 < d.1.1.1
  omega
 ·have := Gab hf
  rw [hm] at this
  exact this
theorem PW {l : List Ia} (h : 0 < l.length) : ∃ x, Wb l (0 : Int) = some x ∧ x.1 = H4 l := by
 cases l with
 | nil => simp at h
 | cons x l => exact ⟨x, rfl, rfl⟩
theorem IJ (d : Qa) (l : List Ia) (til : Int) (hz : Xb Dc d ≤ Ga) (hl : l.length ≤ 1000000) : Vs d l til = some (No d l til) := by
 have h20 : Ga = 1048576 := rfl
 have hz' := hz
 rw [CB, Bv] at hz'
 have hz2 := hz'
 rw [Nl, Kl] at hz2
 have hlapp : (jf d.2.2.1 l).length = d.2.2.1.length + l.length := by simp
 have hlim : jx (ja d.2.2.1 + ja l) Ya = true := ji (by rw [Bf]; omega)
 unfold Vs No
 rw [Tv _ hz, YB _ _ (by omega), JI _ hz]
 cases hd : Md d with
 | false => rw [show Km d l til = false by unfold Km; rw [hd]; rfl]; rfl
 | true =>
  have hh : ∀ x ∈ d.1.2.2.2.1, Wo x := by
   have : Dh d.1 = true := by simp only [Md, jd] at hd; exact hd.1
   exact Yk (FA this)
  have h64 : d.2.2.1.length ≤ 64 := by
   simp only [Md, jd] at hd
   exact GN hd.2.2.2.2.1
  rw [FD _ (by omega) hh]
  simp only [jb, jg, cond_false, hlim, cond_true]
  rw [ZB _ _ _ (by rw [hlapp]; omega)]
  simp only [jb]
  have key : ∀ (K : Option (Qa × ((List Rd) × (Bool × Unit)))), (Fd (jf d.2.2.1 l) (Ym d.1.2.2.2.1) d.1.1.1 = true → K = some ((Pd (Zi d l til).2.2.1.length (Zi d l til) []).1, (Pd (Zi d l til).2.2.1.length (Zi d l til) []).2, true, ())) →
   (cond (decide (til < d.2.2.2.1)) (some (SD, [], false, ())) (cond (decide (til > 1000000)) (some (SD, [], false, ())) (cond (!Dj l d.2.2.2.1) (some (SD, [], false, ())) (cond (!Zf l til) (some (SD, [], false, ())) (cond (!Fd (jf d.2.2.1 l) (Ym d.1.2.2.2.1) d.1.1.1) (some (SD, [], false, ())) K))))) =
   some (cond (Km d l til) ((Pd (Zi d l til).2.2.1.length (Zi d l til) []).1, (Pd (Zi d l til).2.2.1.length (Zi d l til) []).2, true, ()) (SD, [], false, ())) := by
   intro K hK
   unfold Km
   rw [hd]
   by_cases h1 : til < d.2.2.2.1
   ·rw [Ba h1, Ca (show ¬ (d.2.2.2.1 ≤ til ∧ til ≤ 1000000) by omega)]; rfl
   ·by_cases h2 : til > 1000000
    ·rw [Ca h1, Ba h2, Ca (show ¬ (d.2.2.2.1 ≤ til ∧ til ≤ 1000000) by omega)]; rfl
    ·rw [Ca h1, Ca h2, Ba (show (d.2.2.2.1 ≤ til ∧ til ≤ 1000000) by omega)]
     cases Dj l d.2.2.2.1 with
     | false => rfl
     | true =>
      cases Zf l til with
      | false => rfl
      | true =>
       cases hq : Fd (jf d.2.2.1 l) (Ym d.1.2.2.2.1) d.1.1.1 with
       | false => rfl
       | true => exact hK hq
  have hrun : Fd (jf d.2.2.1 l) (Ym d.1.2.2.2.1) d.1.1.1 = true → ∀ z : Qa, Lf (((), (), ([] : List Rd), ()), (z, (d.1, d.2.1, jf d.2.2.1 l, til, d.2.2.2.2), ())) = some (.inl (((), (), (Pd (Zi d l til).2.2.1.length (Zi d l til) []).2, ()), (z, (Pd (Zi d l til).2.2.1.length (Zi d l til) []).1, ()))) := by
   intro hq z
   have h1 := JR (til := til) hd hq
   have := h1.len
   exact AM z _ (Zi d l til) [] h1 (jo _) (by simp; omega)
  by_cases h0 : l.length = 0
  ·have hna : Dj l d.2.2.2.1 = true := by unfold Dj; rw [h0]; rfl
   rw [Ca (show ¬ ((ja l : Nat) : Int) > 0 by omega)]
   simp only [cond_false]
   simp only [hna, jg, cond_false] at key
   exact key _ (fun hq => by rw [hrun hq]; rfl)
  ·obtain ⟨x, hx, hx1⟩ := PW (l := l) (by omega)
   have hna : Dj l d.2.2.2.1 = !decide (x.1 < d.2.2.2.1) := by
    unfold Dj
    rw [show ((l.length : Int) == 0) = false by simp; intro h; rw [h] at h0; simp at h0, hx1]; rfl
   rw [Ba (show ((ja l : Nat) : Int) > 0 by omega), hx]
   simp only [cond_true, jb]
   simp only [hna, Bool.not_not] at key
   exact key _ (fun hq => by rw [hrun hq]; rfl)
theorem FK (d : Qa) (l : List Ia) (til : Int) (hz : Xb Dc d ≤ Ga) (hl : l.length ≤ 1000000) : Bn d l til = some (No d l til) := by
 have h20 : Ga = 1048576 := rfl
 have hz' := hz
 rw [CB, Bv] at hz'
 have hz2 := hz'
 rw [Nl, Kl] at hz2
 have hlapp : (jf d.2.2.1 l).length = d.2.2.1.length + l.length := by simp
 have hn : jf ([] : List Ia) d.2.2.1 = d.2.2.1 := rfl
 have hlim : jx (ja d.2.2.1 + ja l) Ya = true := ji (by rw [Bf]; omega)
 have hlim2 : jx (ja ([] : List Ia) + ja d.2.2.1) Ya = true := ji (by rw [Bf]; simp; omega)
 unfold Bn No
 rw [hn, hlim, hlim2, AC _ hz, Be, Xp _ (by omega)]
 simp only [cond_true]
 cases hd : Md d with
 | false => rw [show Km d l til = false by unfold Km; rw [hd]; rfl]; rfl
 | true =>
  have hh : ∀ x ∈ d.1.2.2.2.1, Wo x := by
   have : Dh d.1 = true := by simp only [Md, jd] at hd; exact hd.1
   exact Yk (FA this)
  have h64 : d.2.2.1.length ≤ 64 := by
   simp only [Md, jd] at hd
   exact GN hd.2.2.2.2.1
  rw [Oy _ (by omega) hh]
  simp only [jb, jg, cond_false]
  rw [KB _ _ _ (by rw [hlapp]; omega)]
  simp only [jb]
  unfold Km
  rw [hd]
  cases decide (d.2.2.2.1 ≤ til ∧ til ≤ 1000000) with
  | false => rfl
  | true =>
   cases hq : Fd (jf d.2.2.1 l) (Ym d.1.2.2.2.1) d.1.1.1 with
   | false => simp only [Bool.and_false]; rfl
   | true =>
    have hrun : Zr (d.1, d.2.1, jf d.2.2.1 l, til, d.2.2.2.2) = _ := JS (Zi d l til) (JR hd hq)
    simp only [jg, cond_false, jk, Bool.and_true]
    rw [hrun]
    by_cases h0 : l.length = 0
    ·rw [Ca (show ¬ ((ja l : Nat) : Int) > 0 by omega)]
     rw [show Dj l d.2.2.2.1 = true by unfold Dj; rw [h0]; rfl, show Zf l til = true by unfold Zf; rw [h0]; rfl]
     rfl
    ·obtain ⟨x, hx, hx1⟩ := PW (l := l) (by omega)
     obtain ⟨y, hy, hy1⟩ := FH (l := l) (by omega) (by omega)
     rw [Ba (show ((ja l : Nat) : Int) > 0 by omega), hx, hy]
     simp only [cond_true, jb]
     have e0 : ((l.length : Int) == 0) = false := by simp; intro h; rw [h] at h0; simp at h0
     rw [show Dj l d.2.2.2.1 = !decide (x.1 < d.2.2.2.1) by unfold Dj; rw [e0, hx1]; rfl]
     rw [show Zf l til = !decide (y.1 > til) by
      unfold Zf; rw [e0, hy1]
      rw [Bool.false_or, qu]; simp only [decide_eq_true_eq, Bool.not_eq_true', decide_eq_false_iff_not]; omega]
     cases decide (x.1 < d.2.2.2.1) <;> cases decide (y.1 > til) <;> rfl
def L9 (p : List Int) : Bool := Jd (fun _ w => decide (0 ≤ w ∧ w ≤ 65535)) 0 p
def Haf (p : List Int) (e : Int) : Bool := ((p.length : Int) == 19) && decide (0 ≤ e ∧ e ≤ 1000) && L9 p
def VW (f : Re) : Bool := match f.1, f.2.1 with
 | [p, q], [d, e] => Haf p d && Haf q e
 | _, _ => false
def hdB (h : Int) : Bool := decide (1 ≤ h ∧ h ≤ 60000)
def Paf (h0 h1 : Int) : Int := cond (hdB h1) (cond (hdB h0) (cond (decide (h1 > h0)) 1 0) 1) (cond (hdB h0) 0 (-1))
def Yo (f : Re) : Int := cond (VW f) (match f.1 with
 | [h0 :: _, h1 :: _] => Paf h0 h1
 | _ => -1) (-1)
def HH (s v : Int) : Bool := decide (0 ≤ s ∧ s ≤ 3 ∧ 0 ≤ v ∧ v ≤ 9999)
def G6 (s v h : Int) : Int := cond (HH s v && hdB h) ((7 * s + 13 * v + 31 * h + 5).tmod 60000) 65535
def wd (w : List Int) (n : Nat) : Int := w.getD n 0
def Oal (s : Int) (w : List Int) (i : Nat) : Bool :=
 HH (wd w (1 + 3 * i)) (wd w (2 + 3 * i)) && (wd w (1 + 3 * i) == s) && (wd w (3 + 3 * i) == G6 (wd w (1 + 3 * i)) (wd w (2 + 3 * i)) (wd w 0))
def UX (s : Int) (w : List Int) : Nat → Option Int
 | 0 => none
 | n + 1 => cond (Oal s w n) (some (wd w (2 + 3 * n))) (UX s w n)
def SH (f : Re) (s : Int) : Option Int := cond (decide (Yo f < 0)) none (UX s ((f.1.getD (Yo f).toNat [])) 6)
def Val (o : Option Int) : Int × Bool := match o with
 | some v => (v, true)
 | none => (0, false)
structure Maf (f : Re) : Prop where
 l1 : f.1.length = 2
 l2 : f.2.1.length = 2
 pg : ∀ i (h1 : i < f.1.length) (h2 : i < f.2.1.length), f.1[i].length = 19 ∧ 0 ≤ f.2.1[i] ∧ f.2.1[i] ≤ 1000 ∧ L9 f.1[i] = true
def zF : Re := ([], [], ())
def CO (o : Yi) : Nat := o.2.1.toNat
def doB (f : Re) (o : Yi) : Bool :=
 VW f && (decide (0 ≤ o.2.1 ∧ o.2.1 ≤ 1) && cond o.1 (decide (o.2.2.1 = 0 ∧ o.2.2.2.1 = 0 ∧ f.2.1.getD (CO o) 0 < 1000))
  (decide (0 ≤ o.2.2.1 ∧ o.2.2.1 ≤ 18 ∧ 0 ≤ o.2.2.2.1 ∧ o.2.2.2.1 ≤ 65534 ∧ (f.1.getD (CO o) []).getD o.2.2.1.toNat 0 = 65535)))
def doF (f : Re) (o : Yi) : Re :=
 cond o.1 (f.1.set (CO o) (List.replicate 19 65535), f.2.1.set (CO o) (f.2.1.getD (CO o) 0 + 1), ())
  (f.1.set (CO o) ((f.1.getD (CO o) []).set o.2.2.1.toNat o.2.2.2.1), f.2.1, ())

def QX (f : Re) (ops : List Yi) : Re ⊕ Unit := Cc (fun _ s o => cond (doB s o) (.inl (doF s o)) (.inr ())) 0 f ops
def Haw (r : Re ⊕ Unit) : Re × Bool × Unit := r.elim (fun g => (g, true, ())) (fun _ => (zF, false, ()))
def Yal (page : Int) (at' : Nat) (s v h : Int) : List Yi :=
 [(false, page, ((1 + 3 * at' : Nat) : Int), s, ()), (false, page, ((2 + 3 * at' : Nat) : Int), v, ()), (false, page, ((3 + 3 * at' : Nat) : Int), G6 s v h, ())]
def Waf (w : List Int) (n : Nat) : Bool := (wd w (3 * n + 1) == 65535) && ((wd w (3 * n + 2) == 65535) && (wd w (3 * n + 3) == 65535))
def HN (w : List Int) : Nat → Nat
 | 0 => 0
 | n + 1 => cond (Waf w n) (HN w n) (n + 1)
def Tay (f : Re) (s v : Int) (k : Nat) : Option Int := cond ((k : Int) == s) (some v) (SH f (k : Int))
def Jaw (f : Re) (s v page h : Int) (k : Nat) (st : List Yi × Nat) : List Yi × Nat := match Tay f s v k with
 | some x => (jf st.1 (Yal page st.2 (k : Int) x h), st.2 + 1)
 | none => st
def Cak (page : Int) : Yi := (true, page, 0, 0, ())
def Pah (f : Re) (s v page h : Int) : List Yi × Nat := WR (Jaw f s v page h) 4 ([Cak page], 0)
def Yap (page h : Int) : Yi := (false, page, 0, h, ())
def L1 (f : Re) : List Int := f.1.getD (Yo f).toNat []
def DY (f : Re) (s v : Int) : List Yi × Bool :=
 cond (decide (Yo f < 0)) ([], false) (cond (!HH s v) ([], false)
  (cond (decide (HN (L1 f) 6 < 6)) (Yal (Yo f) (HN (L1 f) 6) s v (wd (L1 f) 0), true)
   (cond (decide (wd (L1 f) 0 ≥ 60000)) ([], false) (cond (decide (f.2.1.getD (1 - Yo f).toNat 0 ≥ 1000)) ([], false)
    (jf (Pah f s v (1 - Yo f) (wd (L1 f) 0 + 1)).1 [Yap (1 - Yo f) (wd (L1 f) 0 + 1)], true)))))
def Iaw (f : Re) (P : Int) : List Int := f.1.getD P.toNat []
def Say (t : Kb) : Bool := decide (1 ≤ t.1 ∧ t.1 ≤ 1000 ∧ 0 ≤ t.2.1 ∧ t.2.1 ≤ 1000 ∧ 0 ≤ t.2.2.1 ∧ t.2.2.1 ≤ 2)
abbrev SSt : Type := List Yi × Re
def Pas (k : Nat) (st : SSt) (x : Int) : SSt ⊕ Unit :=
 cond ((Val (SH st.2 (k : Int))).2 && ((Val (SH st.2 (k : Int))).1 == x)) (.inl st)
  (cond (DY st.2 (k : Int) x).2 (.inl (jf st.1 (DY st.2 (k : Int) x).1, (Haw (QX st.2 (DY st.2 (k : Int) x).1)).1)) (.inr ()))
def Fam (t : Kb) : List Int := [t.1, t.2.1, t.2.2.1]
def E5 (f : Re) (t : Kb) : List Yi × Bool := cond (!Say t) ([], false) (cond (decide (Yo f < 0)) ([], false) ((Cc Pas 0 (([], f) : SSt) (Fam t)).elim (fun st => (st.1, true)) (fun _ => ([], false))))
def Eaw (f : Re) (P : Int) : Int := f.2.1.getD P.toNat 0
def Faw (f : Re) (P : Int) : Int := wd (Iaw f P) 0
def isP (P : Int) : Prop := P = 0 ∨ P = 1
structure YO (f : Re) (c : Int) : Prop where
 ok : Maf f
 pg : isP (Yo f)
 hd : Faw f (Yo f) ≤ c + 1
 er : ∀ P, isP P → Eaw f P ≤ c
structure Vaz (f g : Re) (s v c : Int) (whole : Bool) : Prop where
 good : YO g (c + 1)
 rd : ∀ σ : Int, 0 ≤ σ ∧ σ ≤ 3 → SH g σ = cond (whole && (σ == s)) (some v) (SH f σ)
def D3 (f : Re) (t : Kb) (j : Nat) (g : Re) : Prop := ∀ σ : Nat, σ ≤ 3 → SH g (σ : Int) = if σ < j then some ((Fam t).getD σ 0) else SH f (σ : Int)
structure Oaz (f : Re) (t : Kb) (c : Int) (k : Nat) (st : SSt) : Prop where
 run : QX f st.1 = .inl st.2
 good : YO st.2 (c + k)
 prog : D3 f t k st.2
 cut : ∀ n, ∃ (x : Re) (j : Nat), QX f (st.1.take n) = .inl x ∧ YO x (c + k) ∧ j ≤ k ∧ D3 f t j x
structure Paz (f : Re) (t : Kb) (c : Int) (g : Re) : Prop where
 ok : (E5 f t).2 = true
 run : QX f (E5 f t).1 = .inl g
 good : YO g (c + 3)
 prog : D3 f t 3 g
 cut : ∀ n, ∃ (x : Re) (j : Nat), QX f ((E5 f t).1.take n) = .inl x ∧ YO x (c + 3) ∧ j ≤ 3 ∧ D3 f t j x

theorem Z5 {a : List Int} (h : a.length ≤ Ga) : Qz a = some (false, ()) := by
 have h20 : Ga = 1048576 := rfl
 unfold Qz
 rw [Ca (by omega)]
theorem Paa {a : List Int} (h : ¬ a.length ≤ Ga) : Qz a = some (true, ()) := by
 have h20 : Ga = 1048576 := rfl
 unfold Qz
 rw [Ba (by omega)]

theorem Aam (n : Nat) : RM n 0 0 := ⟨by omega, by have := Nat.two_pow_pos n; omega, by decide, by omega, by omega⟩
theorem Uaf {m : Ab} (hm : Ad m = true) : Uj (BW m 0 0 false []) :=
 (Jz _).1 (C4 hm (Aam _) false Zap (by simp))
def Dm (e : Va) (t : Kb) : Qa := (e, t, ([] : List Ia), (0 : Int), (0 : Int), (0 : Int), (0 : Int), ())
theorem Hab (d k : Int) : Fd [] d k = true := rfl
theorem R6 {e : Va} (he : Uj e) {t : Kb} (ht : Pe t = true) {q : List Ia} {now clock tp ta : Int} (hn : 0 ≤ now ∧ now ≤ 1000000) (hc : 0 ≤ clock ∧ clock ≤ now)
 (hq : Fd q (Ym e.2.2.2.1) e.1.1 = true) (hb : Zf q now = true) (htp : 0 ≤ tp ∧ tp ≤ e.1.1) (hta : 0 ≤ ta ∧ ta ≤ now) : Md (e, t, q, now, clock, tp, ta, ()) = true := by
 unfold Md
 simp only [jd, decide_eq_true_eq]
 exact ⟨(Jz e).2 he, ht, hn, hc, hq, hb, htp, hta⟩
theorem ER {e : Va} (he : Uj e) {t : Kb} (ht : Pe t = true) : Us e t = some (Dm e t, true, ()) := by
 have h20 : Ga = 1048576 := rfl
 have hz := EA he
 have hk := (Ig he.km).k1
 unfold Us
 rw [Sj _ (by omega)]
 simp only [jb]
 have : Gl (e, t, ([] : List Ia), (0 : Int), (0 : Int), (0 : Int), (0 : Int), ()) = some (true, ()) := by
  rw [← R6 he ht (q := []) (now := 0) (clock := 0) (tp := 0) (ta := 0) (by omega) (by omega) (Hab _ _) rfl (by omega) (by omega)]
  exact Tv _ (by rw [CB, Bv]; show Xb Ub e + 0 ≤ _; omega)
 rw [this]
 rfl
def AY {X R : Type} (step : X → Option (X ⊕ R)) : Nat → X → Option R
 | 0, _ => none
 | n + 1, x => match step x with
  | some (.inl y) => AY step n y
  | some (.inr r) => some r
  | none => none
theorem M1 {X R : Type} {step : X → Option (X ⊕ R)} : ∀ (n : Nat) {x : X} {r : R}, AY step n x = some r → Mb step x = some r
 | 0, _, _, h => by simp [AY] at h
 | n + 1, x, r, h => by
  unfold AY at h
  cases hs : step x with
  | none => rw [hs] at h; simp at h
  | some z =>
   rw [hs] at h
   rw [Ve hs]
   cases z with
   | inl y => exact M1 n h
   | inr r' => exact h
def AE : List (List UInt8) := [[97], [98], [99], [100], [101], [102], [103], [104], [105], [106], [107], [108], [109], [110], [111], [112], [113], [114], [115], [116], [117], [118], [119], [120], [121], [122], [49], [50], [51], [52], [53], [54], [55], [56], [57], [48], [101, 110, 116, 101, 114], [101, 115, 99], [98, 97, 99, 107], [116, 97, 98], [115, 112, 97, 99, 101], [109, 105, 110, 117, 115], [101, 113, 117, 97, 108], [108, 101, 102, 116], [114, 105, 103, 104, 116], [117, 112], [100, 111, 119, 110], [102, 49], [102, 50], [102, 51], [102, 52], [102, 53], [102, 54], [102, 55], [102, 56], [102, 57]]
def I5 : List (List UInt8) := [[], [97], [98], [99], [100], [101], [102], [103], [104], [105], [106], [107], [108], [109], [110], [111], [112], [113], [114], [115], [116], [117], [118], [119], [120], [121], [122], [49], [50], [51], [52], [53], [54], [55], [56], [57], [48], [10], [], [], [9], [32], [45], [61], [], [], [], [], [], [], [], [], [], [], [], [], []]
def J5 : List (List UInt8) := [[], [65], [66], [67], [68], [69], [70], [71], [72], [73], [74], [75], [76], [77], [78], [79], [80], [81], [82], [83], [84], [85], [86], [87], [88], [89], [90], [33], [64], [35], [36], [37], [94], [38], [42], [40], [41], [10], [], [], [9], [32], [95], [43], [], [], [], [], [], [], [], [], [], [], [], [], []]
theorem K4 : strings_Split FI [32] = some (AE, ()) := by kernel_rfl
def Jy (c : Int) : List UInt8 := cond (decide (1 ≤ c ∧ c ≤ 56)) (AE.getD (c - 1).toNat []) []
theorem L6 : AE.length = 56 := by decide +kernel
theorem Rah {c : Int} (h : 1 ≤ c ∧ c ≤ 56) : AE[(c - 1).toNat]? = some (Jy c) ∧ Lh AE.length (c - 1) = true := by
 have hl : (c - 1).toNat < AE.length := by rw [L6]; omega
 constructor
 ·unfold Jy
  rw [Ba h, cond_true, qi, je hl]; rfl
 ·have : c - 1 = (((c - 1).toNat : Nat) : Int) := by omega
  rw [this, Im]; exact Ba hl
theorem Gx (c : Int) : Ic c = some (Jy c, ()) := by
 unfold Ic
 by_cases h1 : c < 1
 ·rw [Ba h1]; unfold Jy; rw [Ca (show ¬ (1 ≤ c ∧ c ≤ 56) by omega)]; rfl
 rw [Ca h1]
 by_cases h2 : c > 56
 ·rw [Ba h2]; unfold Jy; rw [Ca (show ¬ (1 ≤ c ∧ c ≤ 56) by omega)]; rfl
 rw [Ca h2, K4]
 obtain ⟨e1, e2⟩ := Rah (c := c) (by omega)
 simp only [cond_false, jb]
 rw [Hc (by omega) (by omega), e1, e2]
 rfl
def CA (c m : Int) : List UInt8 := cond (m == 0) (I5.getD c.toNat []) (cond (m == 2) (J5.getD c.toNat []) [])
theorem Saa {c : Int} (h : ¬ (1 ≤ c ∧ c ≤ 56)) (m : Int) : CA c m = [] := by
 have h0 : I5.getD c.toNat [] = [] ∧ J5.getD c.toNat [] = [] := by
  by_cases hc : c < 1
  ·rw [show c.toNat = 0 by omega]; exact ⟨rfl, rfl⟩
  ·have l0 : I5.length = 57 := by decide +kernel
   have l2 : J5.length = 57 := by decide +kernel
   rw [qi, qi, List.getElem?_eq_none (by omega), List.getElem?_eq_none (by omega)]
   exact ⟨rfl, rfl⟩
 unfold CA
 rw [h0.1, h0.2]
 cases m == 0 <;> cases m == 2 <;> rfl
theorem I4 : ∀ c : Fin 57, Hj (c.val : Int) 0 = some (CA c.val 0, ()) := by
 intro c
 simp only [Hj, Aj, Gx, jb]
 revert c
 decide +kernel
theorem J4 : ∀ c : Fin 57, Hj (c.val : Int) 2 = some (CA c.val 2, ()) := by
 intro c
 simp only [Hj, Aj, Gx, jb]
 revert c
 decide +kernel
theorem QR (c m : Int) : Hj c m = some (CA c m, ()) := by
 by_cases hc : 1 ≤ c ∧ c ≤ 56
 ·by_cases h0 : m = 0
  ·subst h0
   have := I4 ⟨c.toNat, by omega⟩
   rwa [show ((⟨c.toNat, by omega⟩ : Fin 57).val : Int) = c by show ((c.toNat : Nat) : Int) = c; omega] at this
  ·by_cases h2 : m = 2
   ·subst h2
    have := J4 ⟨c.toNat, by omega⟩
    rwa [show ((⟨c.toNat, by omega⟩ : Fin 57).val : Int) = c by show ((c.toNat : Nat) : Int) = c; omega] at this
   ·have e : CA c m = [] := by
     unfold CA
     rw [show (m == 0) = false by simpa using h0, show (m == 2) = false by simpa using h2]; rfl
    rw [e]
    unfold Hj
    rw [Aj, Ba hc, show (m != 0) = true by simpa using h0, show (m != 2) = true by simpa using h2]
    rfl
 ·rw [Saa hc]
  unfold Hj
  rw [Aj, Ca hc]
  rfl
theorem KM (l : List UInt8) : Nt (Cd l) = l := by
 unfold Nt Cd
 rw [List.map_map]
 conv => rhs; rw [← List.map_id l]
 apply List.map_congr_left
 intro x _
 simp
theorem NY (a b : List UInt8) : Cd (a ++ b) = Cd a ++ Cd b := by simp [Cd]
theorem OY (a : List UInt8) : (Cd a).length = a.length := by simp [Cd]
theorem Qah (u : Nat) (h : u < 10 ^ 20) : Lib.nDigits u ≤ 20 := by
 apply Classical.byContradiction
 intro hn
 have h2 : ∀ k u, 10 ^ k ≤ u ∨ Lib.nDigits u ≤ k ∨ k = 0 := by
  intro k
  induction k with
  | zero => intro u; right; right; rfl
  | succ k ih =>
   intro u
   by_cases hu : u < 10
   ·right; left; rw [Lib.nDigits_small hu]; omega
   ·rcases ih (u / 10) with h | h | h
    ·left; rw [Nat.pow_succ]; omega
    ·right; left; rw [Lib.nDigits_big hu]; omega
    ·subst h; left; simpa using Nat.le_of_not_lt hu
 rcases h2 20 u with h3 | h3 | h3 <;> omega
theorem WB {n : Int} (h : -9223372036854775808 ≤ n ∧ n ≤ 9223372036854775807) : Fp n = some (Lib.itoa n, ()) := by
 unfold Fp strconv_Itoa IV
 rw [Ba h.1, Ba h.2]
 rfl
theorem TN {n : Int} (h : -9223372036854775808 ≤ n ∧ n ≤ 9223372036854775807) : (Lib.itoa n).length ≤ 21 := by
 have hN := Qah n.natAbs (by omega)
 have hl := Lib.decDigits_length n.natAbs
 unfold Lib.itoa
 by_cases hneg : n < 0
 ·rw [if_pos hneg]; simp only [jw]; omega
 ·rw [if_neg hneg, show n.toNat = n.natAbs by omega]; omega
theorem Ix {l : List (List UInt8)} {by_ : List UInt8} (h1 : l.length ≤ 1073741824) (h2 : (Lib.join l by_).length ≤ 1073741824) : Fm l by_ = some (Lib.join l by_, ()) := by
 unfold Fm strings_Join JV
 rw [ji h1, ji h2]
 rfl
theorem XW (l : List (List UInt8)) (s : List UInt8) (c : Nat) (h : ∀ x ∈ l, x.length ≤ c) : (Lib.join l s).length ≤ (c + s.length) * l.length := by
 cases l with
 | nil => simp [Lib.join_nil]
 | cons x r =>
  rw [Lib.join_cons, qe, Lib.joinTail_length]
  have h1 := h x (by simp)
  have h2 : Lib.lens r ≤ c * r.length := by
   clear h1
   induction r with
   | nil => simp [Lib.lens]
   | cons y r ih =>
    have := ih (fun z hz => h z (by simp at hz ⊢; rcases hz with hz | hz <;> simp [hz]))
    have h3 := h y (by simp)
    simp only [Lib.lens, List.map_cons, List.sum_cons, jw] at this ⊢
    rw [Nat.mul_succ]
    omega
  simp only [jw]
  rw [Nat.mul_succ, Nat.add_mul]
  omega
def LH (m : Int) : List UInt8 := [[], [67], [83], [67, 83], [65], [67, 65], [83, 65], [67, 83, 65], [71], [67, 71], [83, 71], [67, 83, 71], [65, 71], [67, 65, 71], [83, 65, 71], [67, 83, 65, 71]].getD m.toNat []
theorem DU : ∀ m : Fin 16, AY (fun x : (Int × List UInt8 × List (List UInt8) × Int × Int × Unit) × Unit => Bs x.1.1 x.1.2.1 x.1.2.2.1 x.1.2.2.2.1 x.1.2.2.2.2.1) 10 (((m.val : Int), [], [[67], [83], [65], [71]], 4, 0, ()), ()) = some (.inl ((LH m.val, ()), ())) := by
 intro m
 simp only [Bs]
 revert m
 decide +kernel
theorem VN {m : Int} (h : ¬ (1 ≤ m ∧ m ≤ 15)) : LH m = [] := by
 unfold LH
 by_cases hm : m < 1
 ·rw [show m.toNat = 0 by omega]; rfl
 ·rw [qi, List.getElem?_eq_none (by simp; omega)]; rfl
theorem FJ (m : Int) : Qs m = some (LH m, ()) := by
 unfold Qs
 by_cases h1 : m < 1
 ·rw [Ba h1, VN (by omega)]; rfl
 rw [Ca h1, cond_false]
 by_cases h2 : m > 15
 ·rw [Ba h2, VN (by omega)]; rfl
 rw [Ca h2, cond_false]
 have := M1 10 (DU ⟨m.toNat, by omega⟩)
 rw [show (((⟨m.toNat, by omega⟩ : Fin 16).val : Nat) : Int) = m by show ((m.toNat : Nat) : Int) = m; omega] at this
 unfold Nn
 erw [this]
 rfl
theorem JX (m : Int) : (LH m).length ≤ 4 := by
 by_cases h : 1 ≤ m ∧ m ≤ 15
 ·have : ∀ m : Fin 16, (LH m.val).length ≤ 4 := by decide +kernel
  have := this ⟨m.toNat, by omega⟩
  rwa [show (((⟨m.toNat, by omega⟩ : Fin 16).val : Nat) : Int) = m by show ((m.toNat : Nat) : Int) = m; omega] at this
 ·rw [VN h]; simp
theorem V6 (c : Int) : (Jy c).length ≤ 5 := by
 unfold Jy
 cases decide (1 ≤ c ∧ c ≤ 56) with
 | false => simp
 | true =>
  have h : ∀ x ∈ AE, x.length ≤ 5 := by decide +kernel
  rw [cond_true, qi]
  cases hc : AE[(c - 1).toNat]? with
  | none => simp
  | some y => exact h y (List.mem_of_getElem? hc)
def VX (r : Aa) : List UInt8 := cond (Hg r) (jf (jf (LH r.1) [58]) (Lib.join (r.2.1.map Jy) [44])) []
theorem DJ {r : Aa} (h : Hg r = true) : r.2.1.length ≤ 56 := by
 unfold Hg at h
 simp only [jd] at h
 have h2 := Vk.1 h.2
 have key : ∀ j (hj : j < r.2.1.length), (j : Int) + 1 ≤ r.2.1[j] ∧ r.2.1[j] ≤ 56 := by
  intro j
  induction j with
  | zero =>
   intro hj
   have := h2 0 hj
   simp only [CG, jd, decide_eq_true_eq] at this
   omega
  | succ j ih =>
   intro hj
   have h3 := ih (by omega)
   have := h2 (j + 1) hj
   simp only [CG, jd, Bool.or_eq_true, Bool.not_eq_true', decide_eq_true_eq, decide_eq_false_iff_not] at this
   have e : r.2.1.getD (0 + (j + 1) - 1) 0 = r.2.1[j] := by
    rw [show 0 + (j + 1) - 1 = j by omega, qi, je (by omega)]; rfl
   rw [e] at this
   omega
 apply Classical.byContradiction
 intro hn
 have := key 56 (by omega)
 omega
theorem KT {r : Aa} (h : Hg r = true) : (Lib.join (r.2.1.map Jy) [44]).length ≤ 336 := by
 have h1 := XW (r.2.1.map Jy) [44] 5 (fun x hx => by
  obtain ⟨c, _, rfl⟩ := qs.1 hx
  exact V6 c)
 have h2 := DJ h
 simp only [List.length_map, jw, j7] at h1
 omega
theorem IN (r : Aa) : (VX r).length ≤ 341 := by
 unfold VX
 cases h : Hg r with
 | false => simp
 | true =>
  have := KT h
  have := JX r.1
  simp only [cond_true, List.append_eq, qe, jw, j7]
  omega
theorem Ey (r : Aa) (hn : r.2.1.length ≤ Ga) : Jk r = some (VX r, ()) := by
 have h20 : Ga = 1048576 := rfl
 unfold Jk VX
 rw [Hx r hn]
 cases hv : Hg r with
 | false => rfl
 | true =>
  simp only [jb, jg, cond_false, cond_true]
  have hk := DJ hv
  have hl := Hu (step := fun x : (Unit × List (List UInt8) × List Int × Int × Int × Unit) × Aa × Unit => Wj x.1.1 x.1.2.1 x.1.2.2.1 x.1.2.2.2.1 x.1.2.2.2.2.1 x.2.1) r.2.1 Jy
   (fun o k => (((), o, r.2.1, (r.2.1.length : Int), k, ()), (r, ()))) (fun o => .inl (((), o, ()), (r, ()))) (by omega) (fun k hk o ho => by
    simp only [Wj]
    rw [Ba (by omega), Zb hk]
    simp only [cond_true, jb]
    rw [Gx]
    simp only [jb]
    rw [Le (by simp only [jw, j7]; omega)]
    rfl) (fun o => by
    simp only [Wj]
    rw [Ca (by omega)]
    rfl)
  unfold Pl
  erw [hl]
  simp only [jb, qj]
  rw [FJ]
  have h1 := JX r.1
  have h2 := KT hv
  simp only [jb]
  rw [Le (by simp only [jw, j7]; omega)]
  simp only [cond_true]
  rw [Ix (by simp; omega) (by omega)]
  simp only [jb]
  rw [Le (by simp only [List.append_eq, qe, jw, j7]; omega)]
  rfl
def KC (x : Rd) : List UInt8 := jf (jf (Lib.itoa x.1) [32]) (VX x.2.1)
def CY (l : List Rd) : List UInt8 := cond (((ja l : Nat) : Int) == 0) [45] (Lib.join (l.map KC) [59, 32])
theorem X6 {x : Rd} (h : -9223372036854775808 ≤ x.1 ∧ x.1 ≤ 9223372036854775807) : (KC x).length ≤ 363 := by
 have h1 := TN h
 have h2 := IN x.2.1
 unfold KC
 simp only [List.append_eq, qe, jw, j7]
 omega
theorem YP {l : List Rd} (h : ∀ x ∈ l, -9223372036854775808 ≤ x.1 ∧ x.1 ≤ 9223372036854775807) : (Lib.join (l.map KC) [59, 32]).length ≤ 365 * l.length := by
 have h1 := XW (l.map KC) [59, 32] 363 (fun x hx => by
  obtain ⟨c, hc, rfl⟩ := qs.1 hx
  exact X6 (h c hc))
 simp only [List.length_map, jw, j7] at h1
 exact h1
theorem GJ (l : List Rd) (h : ∀ x ∈ l, -9223372036854775808 ≤ x.1 ∧ x.1 ≤ 9223372036854775807) (hk : ∀ x ∈ l, x.2.1.2.1.length ≤ Ga) (hn : l.length ≤ Ga) : Qm l = some (CY l, ()) := by
 have h20 : Ga = 1048576 := rfl
 unfold Qm CY
 cases hc : ((ja l : Nat) : Int) == 0 with
 | true => rfl
 | false =>
  rw [cond_false, cond_false]
  have hl := Hu (step := fun x : (List (List UInt8) × List Rd × Int × Int × Unit) × Unit => Vl x.1.1 x.1.2.1 x.1.2.2.1 x.1.2.2.2.1) l KC
   (fun o k => ((o, l, (l.length : Int), k, ()), ())) (fun o => .inl ((o, ()), ())) (by omega) (fun k hk2 o ho => by
    have hm : l[k] ∈ l := qp hk2
    have h1 := TN (h _ hm)
    have h2 := IN l[k].2.1
    simp only [Vl]
    rw [Ba (by omega), Zb hk2]
    simp only [cond_true, jb]
    rw [WB (h _ hm)]
    simp only [jb]
    rw [Le (by simp only [jw, j7]; omega)]
    simp only [cond_true]
    rw [Ey _ (hk _ hm)]
    simp only [jb]
    rw [Le (by simp only [List.append_eq, qe, jw, j7]; omega)]
    simp only [cond_true]
    rw [Le (by simp only [jw, j7]; omega)]
    rfl) (fun o => by
    simp only [Vl]
    rw [Ca (by omega)]
    rfl)
  unfold On
  erw [hl]
  simp only [jb, qj]
  have := YP h
  rw [Ix (by simp; omega) (by omega)]
  rfl
def JF (a : Aa) (o : List Int) (x : Int) : List Int := cond (!a.2.1.any (fun y => y == x)) (jf o [x]) o
def TB (a b : Aa) : List Int := cond (Hg a && Hg b) (Gc (fun _ o x => JF a o x) 0 [] b.2.1) []
theorem YN (a : Aa) : ∀ (l : List Int) (k : Nat) (o : List Int), (Gc (fun _ o x => JF a o x) k o l).length ≤ o.length + l.length
 | [], _, o => by simp [Gc]
 | x :: r, k, o => by
  simp only [Gc]
  have := YN a r (k + 1) (JF a o x)
  have h2 : (JF a o x).length ≤ o.length + 1 := by unfold JF; cases !a.2.1.any (fun y => y == x) <;> simp
  simp only [jw]
  omega
theorem KX (a b : Aa) : (TB a b).length ≤ 56 := by
 unfold TB
 cases ha : Hg a with
 | false => simp
 | true =>
  cases hb : Hg b with
  | false => simp
  | true =>
   have := YN a b.2.1 0 []
   have := DJ hb
   simp only [Bool.and_self, cond_true]
   simp at *
   omega
theorem BQ (a b : Aa) (ha : a.2.1.length ≤ Ga) (hb : b.2.1.length ≤ Ga) : Gy a b = some (TB a b, ()) := by
 have h20 : Ga = 1048576 := rfl
 have hlim := Bf
 unfold Gy TB
 rw [Hx a ha]
 cases Hg a with
 | false => rfl
 | true =>
  simp only [jb, jg, cond_false, jk]
  rw [Hx b hb]
  cases Hg b with
  | false => rfl
  | true =>
   simp only [jb, jg, cond_false, cond_true]
   have hl := (Ae (step := fun x : (Unit × List Int × List Int × Int × Int × Unit) × Aa × Unit => Nq x.1.1 x.1.2.1 x.1.2.2.1 x.1.2.2.2.1 x.1.2.2.2.2.1 x.2.1) b.2.1 (fun _ o x => JF a o x)
    (fun o k => (((), o, b.2.1, (b.2.1.length : Int), k, ()), (a, ()))) (fun o => .inl ((o, ()), ())) (fun k o => o.length ≤ k) (fun k hk o ho => by
     have hg : (JF a o b.2.1[k]).length ≤ k + 1 := by
      have : (JF a o b.2.1[k]).length ≤ o.length + 1 := by unfold JF; cases !a.2.1.any (fun y => y == b.2.1[k]) <;> simp
      omega
     refine ⟨?_, hg⟩
     simp only [Nq]
     rw [Ba (by omega), Zb hk]
     simp only [cond_true, jb]
     rw [VF _ _ (by omega)]
     simp only [jb, JF]
     cases !a.2.1.any (fun y => y == b.2.1[k]) with
     | false => rfl
     | true =>
      simp only [cond_true]
      rw [Le (by simp only [jw, j7]; omega)]
      rfl) (fun o ho => by
     simp only [Nq]
     rw [Ca (by omega)]
     rfl) (by omega) [] (by simp)).1
   unfold Ds
   erw [hl]
   rfl
theorem DT (c m : Int) : (CA c m).length ≤ 1 := by
 have h0 : ∀ x ∈ I5, x.length ≤ 1 := by decide +kernel
 have h2 : ∀ x ∈ J5, x.length ≤ 1 := by decide +kernel
 have hg : ∀ (l : List (List UInt8)) (i : Nat), (∀ x ∈ l, x.length ≤ 1) → (l.getD i []).length ≤ 1 := by
  intro l i h
  rw [qi]
  cases hc : l[i]? with
  | none => simp
  | some y => exact h y (List.mem_of_getElem? hc)
 unfold CA
 cases m == 0 with
 | true => exact hg _ _ h0
 | false =>
  cases m == 2 with
  | true => exact hg _ _ h2
  | false => simp
def IY (m : Int) (o : List UInt8) (k : Int) : List UInt8 := jf o (CA k m)
def X1 (m : Int) (o : List UInt8) (l : List Int) : List UInt8 := Gc (fun _ o k => IY m o k) 0 o l
theorem HR (m : Int) : ∀ (l : List Int) (k : Nat) (o : List UInt8), (Gc (fun _ o k => IY m o k) k o l).length ≤ o.length + l.length
 | [], _, o => by simp [Gc]
 | x :: r, k, o => by
  simp only [Gc]
  have := HR m r (k + 1) (IY m o x)
  have h2 : (IY m o x).length ≤ o.length + 1 := by
   have := DT x m
   simp [IY]; omega
  simp only [jw]
  omega
def PS (s : Aa × List UInt8) (r : Aa) : Aa × List UInt8 := (r, X1 r.1 s.2 (TB s.1 r))
def K5 (a : Aa) (l : List Aa) : List UInt8 := (Gc (fun _ s r => PS s r) 0 (a, []) l).2
structure Naa (k : Nat) (s : Aa × List UInt8) : Prop where
 r : s.1.2.1.length ≤ Ga
 t : s.2.length ≤ 56 * k
theorem Aad {k : Nat} {s : Aa × List UInt8} (h : Naa k s) {r : Aa} (hr : r.2.1.length ≤ Ga) : Naa (k + 1) (PS s r) := by
 refine ⟨hr, ?_⟩
 have h1 := HR r.1 (TB s.1 r) 0 s.2
 have h2 := KX s.1 r
 have h3 := h.t
 show (X1 r.1 s.2 (TB s.1 r)).length ≤ _
 unfold X1
 omega
theorem ZT (a r : Aa) (L : List Aa) (n i : Int) (l : List Int) (hl : l.length ≤ 56) (o : List UInt8) (ho : o.length ≤ 100000000) :
 Kp (((), o, (), L, n, i, l, ((ja l : Nat) : Int), (0 : Int), ()), (a, r, ())) = some (.inl (((), X1 r.1 o l, (), L, n, i, ()), (a, r, ()))) := by
 have h := (Ae (step := fun x : (Unit × List UInt8 × Unit × List Aa × Int × Int × List Int × Int × Int × Unit) × Aa × Aa × Unit => Vm x.1.1 x.1.2.1 x.1.2.2.1 x.1.2.2.2.1 x.1.2.2.2.2.1 x.1.2.2.2.2.2.1 x.1.2.2.2.2.2.2.1 x.1.2.2.2.2.2.2.2.1 x.1.2.2.2.2.2.2.2.2.1 x.2.1 x.2.2.1) l (fun _ o k => IY r.1 o k)
  (fun o k => (((), o, (), L, n, i, l, (l.length : Int), k, ()), (a, r, ()))) (fun o => .inl (((), o, (), L, n, i, ()), (a, r, ()))) (fun k o' => o'.length ≤ o.length + k) (fun k hk o' ho' => by
   have hc := DT l[k] r.1
   refine ⟨?_, by simp only [IY, List.append_eq, qe]; omega⟩
   simp only [Vm]
   rw [Ba (by omega), Im, Ba hk]
   simp only [cond_true, jn]
   rw [je hk]
   simp only [jb]
   rw [QR]
   simp only [jb]
   rw [Le (by omega)]
   rfl) (fun o' ho' => by
   simp only [Vm]
   rw [Ca (by omega)]
   rfl) (by omega) o (by omega)).1
 exact h

structure Taz (d : CC) : Prop where
 k1 : 1 ≤ d.2.2.1
 k2 : d.2.2.1 ≤ 24
 len : ((ja d.2.2.2.2.2.1 : Nat) : Int) = d.2.2.1
 sh : PC d.2.2.1 d.2.2.2.1 = true
 la : PC d.2.2.1 d.2.2.2.2.1 = true
structure Saz (d : CC) (k : Nat) (s : Int × List Int) : Prop where
 len : s.2.length = k
 sh : PC d.2.2.1 s.1 = true

abbrev Daw (c : Om) : List Ia := c.2.2.2.2.2.2.1
structure Raz (c : Om) : Prop where
 len : c.2.2.1.length ≤ 64
 ev : ∀ x ∈ c.2.2.1, 0 ≤ x.2.1
 L : c.1.length ≤ 8
 cb : DZ c.1 = true
 r : ∀ x ∈ Daw c, x.2.1 ≤ 9223372036854775807

def tri (i j : Nat) : Nat := if i ≤ j then j * (j + 1) / 2 + i else i * (i + 1) / 2 + j
def VB (e i j : Nat) : Bool := e.testBit (tri i j)
def Baq (e s t : Nat) : Bool :=
 (s.testBit 0 && (t.testBit 0 && VB e 0 0 || t.testBit 1 && VB e 0 1 || (t.testBit 2 && VB e 0 2 || t.testBit 3 && VB e 0 3)) || s.testBit 1 && (t.testBit 0 && VB e 1 0 || t.testBit 1 && VB e 1 1 || (t.testBit 2 && VB e 1 2 || t.testBit 3 && VB e 1 3))) ||
 (s.testBit 2 && (t.testBit 0 && VB e 2 0 || t.testBit 1 && VB e 2 1 || (t.testBit 2 && VB e 2 2 || t.testBit 3 && VB e 2 3)) || s.testBit 3 && (t.testBit 0 && VB e 3 0 || t.testBit 1 && VB e 3 1 || (t.testBit 2 && VB e 3 2 || t.testBit 3 && VB e 3 3)))
def Nas (e a b s : Nat) : Nat := cond (Baq e (rowN 4 s a) (rowN 4 s b)) (s ||| rowN 4 s b <<< (a * 4)) s
def a3 (e a : Nat) : Nat → Nat → Nat := fun b s => Nas e a b s
def a2 (e R : Nat) : Nat → Nat → Nat := fun a s => WR (a3 e a) R s
def a1 (e R : Nat) : Nat → Nat → Nat := fun _ s => WR (a2 e R) R s
structure Qaz (b : OV) (x : Int) : Prop where
 bd : Nab b = true
 msk : FL b.1 x = true
 old : FL b.1 b.2.2.2.2.1 = true
 dk : b.2.1.2.2.1 = LE b.1
 db : MJ b.2.1 = true
 cb : BM b.2.2.1 = true
 dc : Md b.2.2.2.1 = true
 t : 0 ≤ b.2.2.2.2.2.1 ∧ b.2.2.2.2.2.1 ≤ 1000000
theorem S6 {e : Va} (h : Uj e) : Xb Ub e ≤ 1000 := by
 have hh := Fl h.hd
 have h2 : Xb (.sl (.sl Xc)) e.2.1 ≤ (16 + 1) * e.2.1.length := XH (e := .sl Xc) (c := 16) fun x hx => by
  have := h.mac x hx
  simp only [Zc, jd, decide_eq_true_eq] at this
  have e2 : Xb (.sl Xc) x = x.length := Rx (e := Xc) rfl x
  omega
 have := h.m4
 have hm := Ig h.km
 have h3 : Xb Qb e.1 ≤ 200 := by
  have h1 : Xb Qb e.1 = 0 + (Xb (.sl (.sl Lc)) e.1.2.1 + 0) := rfl
  have h2 : Xb (.sl (.sl Lc)) e.1.2.1 ≤ (32 + 1) * ja e.1.2.1 := XH (e := .sl Lc) (c := 32) fun x hx => by
   obtain ⟨i, hi, rfl⟩ := qr hx
   rw [ZQ]
   have := hm.row i hi
   have := hm.k2
   omega
  have := hm.l2
  omega
 rw [Nl, Kl]
 omega
theorem Cam (x : Rd) : Xb Pg x = x.2.1.2.1.length := by
 have h3 : Xb Pg x = Xb Hb x.2.1 := by
  show 0 + (Xb Hb x.2.1 + 0) = _
  omega
 rw [h3, HY]
theorem AU {a : Aa} {l : List Aa} (ha : a.2.1.length ≤ Ga) (hl : ∀ r ∈ l, r.2.1.length ≤ Ga) (hn : l.length ≤ Ga) : Ip a l = some (K5 a l, ()) := by
 have h20 : Ga = 1048576 := rfl
 have h := (Ae (step := fun x : (Unit × List UInt8 × List Aa × Int × Int × Unit) × Aa × Unit => Um x.1.1 x.1.2.1 x.1.2.2.1 x.1.2.2.2.1 x.1.2.2.2.2.1 x.2.1) l (fun _ s r => PS s r)
  (fun s k => (((), s.2, l, (l.length : Int), k, ()), (s.1, ()))) (fun s => .inl ((s.2, ()), ())) Naa (fun k hk s hs => by
   have hm : l[k] ∈ l := qp hk
   refine ⟨?_, Aad hs (hl _ hm)⟩
   have ht := hs.t
   simp only [Um]
   rw [Ba (by omega), Zb hk]
   simp only [cond_true, jb]
   rw [BQ _ _ hs.r (hl _ hm)]
   simp only [jb]
   rw [ZT s.1 l[k] l (l.length : Int) (k : Int) (TB s.1 l[k]) (KX _ _) s.2 (by omega)]
   rfl) (fun s hs => by
   simp only [Um]
   rw [Ca (by omega)]
   rfl) (by omega) (a, []) ⟨ha, by simp⟩).1
 unfold Ip Jp
 erw [h]
 rfl
def Bad : Va := (((0 : Int), ([] : List (List La)), ()), ([] : List (List Kb)), (0 : Int), ([] : List Ja), (0 : Int), false, ())
noncomputable def BG (e : Va) (t : Kb) : Qa × (Bool × Unit) := cond (Md (Dm e t)) (Dm e t, true, ()) (SD, false, ())
theorem IR (e : Va) (t : Kb) : Xb Dc (Dm e t) = Xb Ub e := by
 rw [CB]
 show Xb Ub e + Xb (.sl Xi) [] = _
 rw [Bv]; rfl
theorem HI (e : Va) (t : Kb) (hz : Xb Ub e ≤ Ga) : Us e t = some (BG e t) := by
 unfold Us BG
 rw [Sj _ hz]
 simp only [jb]
 have := Tv (Dm e t) (by rw [IR]; exact hz)
 unfold Dm at this
 rw [this]
 unfold Dm
 cases Md (e, t, ([] : List Ia), (0 : Int), (0 : Int), (0 : Int), (0 : Int), ()) <;> rfl
theorem KI (e : Va) (t : Kb) (hz : Xb Ub e ≤ Ga) : An e t = some (BG e t) := by
 unfold An BG
 have := AC (Dm e t) (by rw [IR]; exact hz)
 unfold Dm at this
 rw [this]
 simp only [jb]
 unfold Dm
 cases Md (e, t, ([] : List Ia), (0 : Int), (0 : Int), (0 : Int), (0 : Int), ()) with
 | false => rfl
 | true =>
  simp only [jg, cond_false, cond_true]
  rw [Xp _ hz]
  rfl
theorem AJ {α S R : Type} (g : S → α → S ⊕ R) : ∀ (l l2 : List α) (k j : Nat) (s s' : S), Cc (fun _ s x => g s x) k s l = .inl s' → Cc (fun _ s x => g s x) k s (l ++ l2) = Cc (fun _ s x => g s x) j s' l2
 | [], l2, k, j, s, s', h => by
  simp only [Cc, Sum.inl.injEq] at h
  subst h
  exact IA g l2 k j s
 | x :: l, l2, k, j, s, s', h => by
  simp only [Cc, List.cons_append] at h ⊢
  cases hx : g s x with
  | inl s1 => rw [hx] at h; exact AJ g l l2 (k + 1) j s1 s' h
  | inr r => rw [hx] at h; simp at h
theorem HX {l l2 : List Kb} {L : List Ja} (h : IF l = .inl L) : IF (l ++ l2) = Cc (fun _ L x => Di L x) 0 L l2 := AJ Di l l2 0 0 [] L h
theorem Oah {c m : Int} (h : Ac (2, c, m, 0, ()) = true) : Cc (fun _ L x => Di L x) 0 [] [((0 : Int), c, m, ())] = .inl [] := by
 simp only [Cc, Di, Ec, Ii]
 rw [h]
 rfl
theorem S8 {c m c2 : Int} (h : Ac (2, c, m, 0, ()) = true) (h2 : Ac (2, c2, 8, 0, ()) = true) (hm : m ≠ 8) :
 Cc (fun _ L x => Di L x) 0 [] [((1 : Int), c, m, ()), ((0 : Int), c2, (8 : Int), ()), ((2 : Int), c, m, ())] = .inl [] := by
 have e1 : Ue c2 8 (Td ((1 : Int), c, m, ())) = false := by unfold Ue Td; simp [hm]
 have e2 : Ue c m (Td ((1 : Int), c, m, ())) = true := by unfold Ue Td; simp
 have a1 : Di [] ((1 : Int), c, m, ()) = .inl [Td ((1 : Int), c, m, ())] := by
  simp only [Di, Ec, Ii]
  rw [h]
  rfl
 have a2 : Di [Td ((1 : Int), c, m, ())] ((0 : Int), c2, (8 : Int), ()) = .inl [Td ((1 : Int), c, m, ())] := by
  have f : Ec (Ue c2 8) 0 [Td ((1 : Int), c, m, ())] = -1 := by simp only [Ec]; rw [e1]; rfl
  show cond (Ii ((0 : Int), c2, (8 : Int), ()) (Ec (Ue c2 8) 0 [Td ((1 : Int), c, m, ())])) (Sum.inl (Iu ((0 : Int), c2, (8 : Int), ()) [Td ((1 : Int), c, m, ())] (Ec (Ue c2 8) 0 [Td ((1 : Int), c, m, ())]))) (Sum.inr ()) = _
  rw [f]
  unfold Ii
  rw [h2]
  rfl
 have a3 : Di [Td ((1 : Int), c, m, ())] ((2 : Int), c, m, ()) = .inl [] := by
  have f : Ec (Ue c m) 0 [Td ((1 : Int), c, m, ())] = 0 := by simp only [Ec]; rw [e2]; rfl
  show cond (Ii ((2 : Int), c, m, ()) (Ec (Ue c m) 0 [Td ((1 : Int), c, m, ())])) (Sum.inl (Iu ((2 : Int), c, m, ()) [Td ((1 : Int), c, m, ())] (Ec (Ue c m) 0 [Td ((1 : Int), c, m, ())]))) (Sum.inr ()) = _
  rw [f]
  unfold Ii
  rw [h]
  rfl
 simp only [Cc, a1, a2, a3]
theorem Vaj {c m : Int} (hc : 1 ≤ c ∧ c ≤ 56) (hm : 0 ≤ m ∧ m ≤ 15) : Ac (2, c, m, 0, ()) = true := by
 rw [Ib]
 show Ob 2 c m 0
 unfold Ob
 omega
theorem Xab {l : List Kb} (h : IF l = .inl []) (hl : l.length ≤ 6) : Zc l = true := by
 unfold Zc
 rw [h, Ba (by omega)]
 rfl
theorem K7 {c : Ta} (hc : Ng c) : ∃ (c' : Ta) (l : List Kb), YA c = some (c', (l, ())) ∧ Ng c' ∧ Zc l = true ∧ l.length ≤ 6 := by
 obtain ⟨c1, x1, e1, hc1, b1⟩ := Kg hc 3 (by omega)
 obtain ⟨x, rfl⟩ := jv b1.1
 unfold YA
 rw [e1]
 simp only [jb]
 have step := Cq (s := fun x : ((Unit × (List Kb × (Int × Unit))) × (Ta × Unit)) => Wy x.1.1 x.1.2.1 x.1.2.2.1 x.2.1)
  (fun z y => ∃ (c' : Ta) (l : List Kb), y = (((), l, (z : Int), ()), (c', ())) ∧ Ng c' ∧ IF l = .inl [] ∧ l.length + 3 * z ≤ 6)
  (fun r => ∃ (c' : Ta) (l : List Kb), r = .inl (((), l, ()), (c', ())) ∧ Ng c' ∧ IF l = .inl [] ∧ l.length ≤ 6) (by
  rintro z y ⟨c', l, rfl, hc', hm, hl⟩
  simp only [Wy]
  by_cases h1 : (z : Int) > 0
  ·rw [Ba h1]
   obtain ⟨c3, k, e3, hc3, bk⟩ := Kg hc' 56 (by omega)
   obtain ⟨c4, m, e4, hc4, hmm⟩ := KL hc3 [(0 : Int), (0 : Int), (2 : Int), (1 : Int)] (by simp) (by simp)
   obtain ⟨c5, b, e5, hc5⟩ := IL hc4 2 (by omega)
   have hm3 : m = 0 ∨ m = 2 ∨ m = 1 := by simpa using hmm
   have hw : j5 .i64 ((z : Int) - 1) = ((z - 1 : Nat) : Int) := by rw [Hc (by omega) (by omega)]; omega
   rw [e3]
   simp only [cond_true, jb, e4, e5]
   rw [hw, Hc (n := 1 + k) (by omega) (by omega)]
   have ha := Vaj (c := 1 + k) (m := m) (by omega) (by omega)
   cases b with
   | true =>
    simp only [cond_true]
    rw [Le (by simp; omega)]
    refine .inr ⟨_, z - 1, by omega, rfl, c5, _, rfl, hc5, ?_, ?_⟩
    ·rw [List.append_eq, HX hm]; exact Oah ha
    ·rw [List.append_eq, qe]; simp; omega
   | false =>
    simp only [cond_false]
    rw [Le (by simp; omega)]
    refine .inr ⟨_, z - 1, by omega, rfl, c5, _, rfl, hc5, ?_, ?_⟩
    ·rw [List.append_eq, HX hm, Hc (n := (60 : Int) - ((ja l : Nat) : Int)) (by omega) (by omega), Hc (n := (60 : Int) - ((ja l : Nat) : Int) - 10) (by omega) (by omega)]
     exact S8 ha (Vaj (by omega) (by omega)) (by omega)
    ·rw [List.append_eq, qe]; simp; omega
  ·rw [Ca h1]
   exact .inl ⟨_, rfl, c', l, rfl, hc', hm, by omega⟩) x (((), ([] : List Kb), (x : Int), ()), (c1, ())) ⟨c1, [], rfl, hc1, rfl, by simp; omega⟩
 obtain ⟨r, e, c', l, rfl, hc', hm, hl⟩ := step
 unfold Xu
 erw [e]
 exact ⟨c', l, rfl, hc', Xab hm hl, hl⟩
def Zh (m : Ab) (M : List (List Kb)) : Va := (m, M, (0 : Int), ([] : List Ja), (0 : Int), false, ())
theorem KR {m : Ab} {M : List (List Kb)} (hm : Ad m = true) (h4 : M.length ≤ 4) (hM : ∀ x ∈ M, Zc x = true) : Uj (Zh m M) :=
 ⟨hm, h4, (Uaf hm).hd, hM, fun x hx => absurd hx (by simp [Zh]), Aam _⟩
theorem NO {m : Ab} {M : List (List Kb)} (hm : Ad m = true) (h4 : M.length ≤ 4) (hM : ∀ x ∈ M, Zc x = true) : Kv m M = some (Zh m M, true, ()) := by
 have h := KR hm h4 hM
 have hs := EA h
 have h1 := Yq (Zh m M) (by omega)
 have h2 := Xp (Zh m M) (by omega)
 rw [(Jz _).2 h] at h1
 unfold Kv
 unfold Zh at h1 h2 ⊢
 rw [h1]
 simp only [jb, jg, cond_false]
 rw [h2]
 rfl
theorem Vab {c : Ta} (hc : Ng c) {keys : Nat} (hk1 : 1 ≤ keys) (hk : keys ≤ 32) : ∃ (c' : Ta) (m : Ab) (M : List (List Kb)), NC c (keys : Int) = some (c', (Zh m M, ())) ∧ Ng c' ∧ Ad m = true ∧ m.1 = (keys : Int) ∧ M.length ≤ 3 ∧ ∀ x ∈ M, Zc x = true ∧ x.length ≤ 6 := by
 obtain ⟨c1, x1, e1, hc1, b1⟩ := Kg hc 4 (by omega)
 obtain ⟨x, rfl⟩ := jv b1.1
 unfold NC
 rw [e1]
 simp only [jb]
 have step := Cq (s := fun x : ((Unit × (Int × (Unit × (List (List Kb) × (Int × Unit))))) × (Ta × (Va × Unit))) => Wz x.1.1 x.1.2.1 x.1.2.2.1 x.1.2.2.2.1 x.1.2.2.2.2.1 x.2.1 x.2.2.1)
  (fun z y => ∃ (c' : Ta) (M : List (List Kb)), y = (((), (keys : Int), (), M, (z : Int), ()), (c', Bad, ())) ∧ Ng c' ∧ M.length + z ≤ 3 ∧ ∀ x ∈ M, Zc x = true ∧ x.length ≤ 6)
  (fun r => ∃ (c' : Ta) (M : List (List Kb)), r = .inl (((), (keys : Int), (), M, ()), (c', Bad, ())) ∧ Ng c' ∧ M.length ≤ 3 ∧ ∀ x ∈ M, Zc x = true ∧ x.length ≤ 6) (by
  rintro z y ⟨c', M, rfl, hc', hz, hM⟩
  simp only [Wz]
  by_cases h1 : (z : Int) > 0
  ·rw [Ba h1]
   obtain ⟨c3, l, e3, hc3, hl, hl6⟩ := K7 hc'
   have hw : j5 .i64 ((z : Int) - 1) = ((z - 1 : Nat) : Int) := by rw [Hc (by omega) (by omega)]; omega
   rw [e3]
   simp only [cond_true, jb]
   rw [hw, Le (by simp; omega)]
   refine .inr ⟨_, z - 1, by omega, rfl, c3, _, rfl, hc3, ?_, ?_⟩
   ·rw [List.append_eq, qe]; simp; omega
   ·intro x hx
    rcases jl.1 (show x ∈ M ++ [l] from hx) with h | h
    ·exact hM x h
    ·simp at h; subst h; exact ⟨hl, hl6⟩
  ·rw [Ca h1]
   exact .inl ⟨_, rfl, c', M, rfl, hc', by omega, hM⟩) x (((), (keys : Int), (), ([] : List (List Kb)), (x : Int), ()), (c1, Bad, ())) ⟨c1, [], rfl, hc1, by simp; omega, by simp⟩
 obtain ⟨r, e, c', M, rfl, hc', hz, hM⟩ := step
 unfold Ew
 erw [e]
 simp only [jb, qj]
 obtain ⟨c2, m, e2, hc2, hm, hmk⟩ := J7 hc' hk1 hk
 rw [e2]
 simp only [jb]
 rw [NO hm (by omega) (fun x hx => (hM x hx).1)]
 exact ⟨c2, m, M, rfl, hc2, hm, hmk, hz, hM⟩
theorem G7 {c : Ta} (hc : Ng c) {keys : Nat} (hk1 : 1 ≤ keys) (hk : keys ≤ 32) : ∃ (c' : Ta) (m : Ab) (M : List (List Kb)) (t : Kb), SA c (keys : Int) = some (c', (Dm (Zh m M) t, ())) ∧ Ng c' ∧ Ad m = true ∧ m.1 = (keys : Int) ∧ M.length ≤ 3 ∧
 (∀ x ∈ M, Zc x = true ∧ x.length ≤ 6) ∧ Pe t = true ∧ t.1 ≤ 9 := by
 obtain ⟨c1, m1, M, e1, hc1, hm1, hmk1, hM3, hM⟩ := Vab hc hk1 hk
 unfold SA
 rw [e1]
 simp only [jb]
 have step := Cq (s := fun x : ((Unit × (Int × (Unit × (Unit × (Int × Unit))))) × (Ta × (Qa × (Va × Unit)))) => Qy x.1.1 x.1.2.1 x.1.2.2.1 x.1.2.2.2.1 x.1.2.2.2.2.1 x.2.1 x.2.2.1 x.2.2.2.1)
  (fun z y => ∃ (c' : Ta) (m : Ab) (k : Nat), y = (((), (keys : Int), (), (), (k : Int), ()), (c', SD, Zh m M, ())) ∧ z + k = keys ∧ Ng c' ∧ Ad m = true ∧ m.1 = (keys : Int))
  (fun r => ∃ (c' : Ta) (m : Ab), r = .inl (((), (), (), ()), (c', SD, Zh m M, ())) ∧ Ng c' ∧ Ad m = true ∧ m.1 = (keys : Int)) (by
  rintro z y ⟨c', m, k, rfl, hz, hc', hm, hmk⟩
  simp only [Qy]
  by_cases h1 : (k : Int) < (keys : Int)
  ·rw [Ba h1]
   obtain ⟨c3, b, e3, hc3⟩ := IL hc' 2 (by omega)
   rw [e3]
   simp only [cond_true, jb]
   rw [Ze (by omega)]
   cases b with
   | false => exact .inr ⟨_, z - 1, by omega, rfl, c3, m, k + 1, rfl, by omega, hc3, hm, hmk⟩
   | true =>
    have hm0 := hm
    unfold Ad at hm0
    simp only [jd, decide_eq_true_eq] at hm0
    obtain ⟨⟨hk', hL⟩, hall⟩ := hm0
    have hi : 0 < m.2.1.length := by omega
    have hrow := Vk.1 hall 0 hi
    rw [js] at hrow
    have hlen := TY hrow
    have hkk : k < (m.2.1[0]).length := by omega
    obtain ⟨c4, u, e4, hc4, bu⟩ := Kg hc3 40 (by omega)
    obtain ⟨c5, v, e5, hc5, bv⟩ := Kg hc4 15 (by omega)
    have i1 : Lh (ja (Zh m M).1.2.1) (0 : Int) = true := by
     show Lh (ja m.2.1) ((0 : Nat) : Int) = true
     rw [Im, Ba hi]
    have i2 : (Zh m M).1.2.1[jy (0 : Int)]? = some m.2.1[0] := by
     show m.2.1[0]? = _
     exact je hi
    have i3 : Lh (ja m.2.1[0]) (k : Int) = true := by rw [Im, Ba hkk]
    have i4 : m.2.1[0][jy (k : Int)]? = some m.2.1[0][k] := by rw [jn]; exact je hkk
    rw [i1, i2]
    simp only [cond_true, jb, e4, e5]
    rw [i3, i4]
    simp only [cond_true, jb]
    rw [Hc (n := 1 + u) (by omega) (by omega), Hc (n := 1 + v) (by omega) (by omega)]
    refine .inr ⟨_, z - 1, by omega, rfl, c5, (m.1, j6 m.2.1 0 (j6 m.2.1[0] k ((6 : Int), 1 + u, 1 + v, (0 : Int), ())), ()), k + 1, rfl, by omega, hc5, ?_, hmk⟩
    have hok : Cf m.2.1.length 0 ((6 : Int), 1 + u, 1 + v, (0 : Int), ()) = true := by
     unfold Cf
     have : Ac ((6 : Int), 1 + u, 1 + v, (0 : Int), ()) = true := by
      rw [Ib]; show Ob 6 (1 + u) (1 + v) 0; unfold Ob; omega
     rw [this]
     rw [Ca (show ¬ (0 : Int) ≥ ((m.2.1.length : Nat) : Int) by omega)]
     rfl
    unfold Ad
    simp only [jd, decide_eq_true_eq, j8]
    exact ⟨⟨hk', hL⟩, UV hall (UY hrow hok)⟩
  ·rw [Ca h1]
   exact .inl ⟨_, rfl, c', m, rfl, hc', hm, hmk⟩) keys (((), (keys : Int), (), (), ((0 : Nat) : Int), ()), (c1, SD, Zh m1 M, ())) ⟨c1, m1, 0, rfl, by omega, hc1, hm1, hmk1⟩
 obtain ⟨r, e, c', m, rfl, hc', hm, hmk⟩ := step
 unfold Su
 erw [e]
 simp only [jb, qj]
 obtain ⟨c2, a, ea, hca, ba⟩ := Kg hc' 9 (by omega)
 obtain ⟨c3, p, ep, hcp, hp⟩ := KL hca [(0 : Int), (0 : Int), (3 : Int), (6 : Int)] (by simp) (by simp)
 obtain ⟨c4, f, ef, hcf, bf⟩ := Kg hcp 3 (by omega)
 have hp' : p = 0 ∨ p = 3 ∨ p = 6 := by simpa using hp
 unfold Tz
 rw [ea]
 simp only [jb, ep, ef]
 rw [Hc (n := 1 + a) (by omega) (by omega)]
 have hE := KR hm (by omega) (fun x hx => (hM x hx).1)
 have hz := EA hE
 have ht : Pe (1 + a, p, f, ()) = true := by
  unfold Pe
  simp only [jd, decide_eq_true_eq]
  omega
 have hd : Md (Dm (Zh m M) (1 + a, p, f, ())) = true := by
  have h := ER hE ht
  rw [HI _ _ (by omega)] at h
  unfold BG at h
  cases hx : Md (Dm (Zh m M) (1 + a, p, f, ())) with
  | true => rfl
  | false => rw [hx] at h; simp at h
 have hn := KI (Zh m M) (1 + a, p, f, ()) (by omega)
 unfold BG at hn
 rw [hd] at hn
 have hn' : An (((Zh m M).1.1, (Zh m M).1.2.1, ()), (Zh m M).2) (1 + a, p, f, ()) = some (Dm (Zh m M) (1 + a, p, f, ()), true, ()) := hn
 erw [hn']
 exact ⟨c4, m, M, (1 + a, p, f, ()), rfl, hcf, hm, hmk, hM3, hM, ht, by show 1 + a ≤ 9; omega⟩
structure Mm (keys : Nat) (t0 : Int) (m0 : Nat) (l : List Ia) (t : Int) (m : Nat) : Prop where
 f : Cc (fun _ s x => Eo (keys : Int) s x) 0 (t0, (m0 : Int)) l = .inl (t, (m : Int))
 m0 : m0 < 2 ^ 63
 m : m < 2 ^ 63
theorem YI (keys : Nat) (t : Int) {m : Nat} (hm : m < 2 ^ 63) : Mm keys t m [] t m := ⟨rfl, hm, hm⟩
theorem CW {keys : Nat} {t0 t t2 : Int} {m0 m m2 : Nat} {l l2 : List Ia} (h : Mm keys t0 m0 l t m) (h2 : Mm keys t m l2 t2 m2) : Mm keys t0 m0 (l ++ l2) t2 m2 :=
 ⟨by rw [AJ (Eo (keys : Int)) l l2 0 0 _ _ h.f]; exact h2.f, h.m0, h2.m⟩
theorem HT {keys : Int} {s s' : Int × Int} {x : Ia} (h : Eo keys s x = .inl s') : Ol s x = true ∧ x.2.1 < keys ∧ s' = (x.1, Bh .i64 s.2 (Kd .i64 1 x.2.1)) := by
 unfold Eo at h
 revert h
 cases h1 : Ol s x with
 | false => intro h; simp at h
 | true =>
  by_cases h2 : x.2.1 ≥ keys
  ·rw [Ba h2]; intro h; simp at h
  ·rw [Ca h2]
   intro h
   simp only [j9, Bool.and_self, cond_true, Sum.inl.injEq] at h
   exact ⟨rfl, by omega, h.symm⟩
theorem LZ {s : Int × Int} {x : Ia} (h : Ol s x = true) : Qg x = true ∧ s.1 ≤ x.1 ∧ (x.2.2.1 == (Kk s.2 x.2.1 == 1)) = false := by
 simp only [Ol, jd, Bool.not_eq_true', decide_eq_false_iff_not] at h
 exact ⟨h.1, by have := h.2.1; omega, h.2.2⟩
theorem Tx {keys : Nat} {t0 t : Int} {m0 m : Nat} {x : Ia} {l : List Ia} (h : Mm keys t0 m0 (x :: l) t m) : ∃ k : Nat, x.2.1 = (k : Int) ∧ k < keys ∧ k ≤ 31 ∧ t0 ≤ x.1 ∧ 0 ≤ x.1 ∧ x.1 ≤ 1000000 ∧
 (x.2.2.1 == (m0.testBit k)) = false ∧ Mm keys x.1 (m0 ^^^ 2 ^ k) l t m := by
 have hf := h.f
 simp only [Cc] at hf
 cases hx : Eo (keys : Int) (t0, (m0 : Int)) x with
 | inr u => rw [hx] at hf; simp at hf
 | inl s' =>
  rw [hx] at hf
  obtain ⟨h1, h2, rfl⟩ := HT hx
  obtain ⟨h3, h4, h5⟩ := LZ h1
  have hk := Wk h3
  obtain ⟨k, hk'⟩ := jv hk.2.2.1
  have hk' : x.2.1 = (k : Int) := hk'
  simp only [hk'] at hf h5
  rw [Dz h.m0 (by omega)] at h5
  rw [Zx (by omega), IH h.m0 (Ju (by omega)), IA (Eo (keys : Int)) l 1 0] at hf
  exact ⟨k, hk', by omega, by omega, h4, hk.1, hk.2.1, h5, ⟨hf, qo h.m0 (Ju (by omega)), h.m⟩⟩
theorem RP {keys : Nat} : ∀ {l : List Ia} {t0 t : Int} {m0 m : Nat}, Mm keys t0 m0 l t m → t0 ≤ t
 | [], t0, t, m0, m, h => by have := h.f; simp only [Cc, Sum.inl.injEq, jh] at this; omega
 | x :: l, t0, t, m0, m, h => by
  obtain ⟨k, _, _, _, h1, _, _, _, h2⟩ := Tx h
  have := RP h2
  omega
theorem AL {keys : Nat} : ∀ {l : List Ia} {t0 t : Int} {m0 m : Nat}, Mm keys t0 m0 l t m → l ≠ [] → OA l = t ∧ 0 ≤ t ∧ t ≤ 1000000
 | [], _, _, _, _, _, h => absurd rfl h
 | [x], t0, t, m0, m, h, _ => by
  obtain ⟨k, _, _, _, h1, h3, h4, _, h2⟩ := Tx h
  have := h2.f
  simp only [Cc, Sum.inl.injEq, jh] at this
  refine ⟨?_, by omega, by omega⟩
  show x.1 = t
  exact this.1
 | x :: y :: l, t0, t, m0, m, h, _ => by
  obtain ⟨k, _, _, _, h1, _, _, _, h2⟩ := Tx h
  obtain ⟨h3, h4⟩ := AL h2 (by simp)
  refine ⟨?_, h4⟩
  rw [← h3]
  simp [OA]
theorem BL {keys : Nat} {t0 t : Int} {m0 m : Nat} (h : Mm keys t0 m0 [] t m) : t = t0 ∧ m = m0 := by
 have := h.f
 simp only [Cc, Sum.inl.injEq, jh] at this
 exact ⟨this.1.symm, by omega⟩
theorem QP {keys : Nat} {l : List Ia} {t0 t0' t : Int} {m0 m : Nat} (h : Mm keys t0 m0 l t m) (hle : t0' ≤ t0) : ∃ t', t' ≤ t ∧ Mm keys t0' m0 l t' m := by
 cases l with
 | nil =>
  obtain ⟨rfl, rfl⟩ := BL h
  exact ⟨t0', hle, YI _ _ h.m0⟩
 | cons x l =>
  refine ⟨t, Int.le_refl _, ?_, h.m0, h.m⟩
  have hf := h.f
  simp only [Cc] at hf ⊢
  cases hx : Eo (keys : Int) (t0, (m0 : Int)) x with
  | inr u => rw [hx] at hf; simp at hf
  | inl s' =>
   rw [hx] at hf
   obtain ⟨h1, h2, rfl⟩ := HT hx
   obtain ⟨h3, h4, h5⟩ := LZ h1
   have : Eo (keys : Int) (t0', (m0 : Int)) x = .inl (x.1, Bh .i64 (m0 : Int) (Kd .i64 1 x.2.1)) := by
    unfold Eo Ol
    simp only at h4 h5 ⊢
    rw [h3, Ca (show ¬ t0' > x.1 by omega), h5, Ca (show ¬ x.2.1 ≥ (keys : Int) by omega)]
    rfl
   rw [this]
   exact hf
theorem GZ {keys : Nat} {l : List Ia} {t0 t : Int} {m0 m : Nat} (h : Mm keys t0 m0 l t m) (h0 : 0 ≤ t0) (hl : l.length ≤ 64) : Fd l (m0 : Int) (keys : Int) = true := by
 obtain ⟨t', _, h'⟩ := QP h h0
 have h2 := GF (keys : Int) l 0 (0, (m0 : Int))
 rw [h'.f] at h2
 have h3 := h2.symm
 simp only [Fu, jd] at h3
 unfold Fd OJ Vx JW
 rw [h3.1, Ba hl]
 have h4 := h3.2
 cases hx : Cc (fun _ s x => Ut s x) 0 (0, (m0 : Int)) l with
 | inl s => rfl
 | inr u => rw [hx] at h4; simp [Fu] at h4
theorem Dab {keys : Nat} {l : List Ia} {t0 t : Int} {m0 m : Nat} (h : Mm keys t0 m0 l t m) : Dj l t0 = true := by
 cases l with
 | nil => rfl
 | cons x l =>
  obtain ⟨k, _, _, _, h1, _⟩ := Tx h
  unfold Dj
  rw [Ca (show ¬ H4 (x :: l) < t0 by show ¬ x.1 < t0; omega)]
  simp
theorem CT {keys : Nat} {l : List Ia} {t0 t til : Int} {m0 m : Nat} (h : Mm keys t0 m0 l t m) (ht : t ≤ til) : Zf l til = true := by
 unfold Zf
 by_cases hl : l = []
 ·subst hl; rfl
 ·have := (AL h hl).1
  rw [Ba (show OA l ≤ til by omega)]
  simp
theorem IZ {keys k m : Nat} {t p : Int} (hm : m < 2 ^ 63) (hk : k < keys) (hks : keys ≤ 32) (ht : 0 ≤ t) (hp : 0 ≤ p) (hle : t + p ≤ 1000000) :
 Bh .i64 (m : Int) (Kd .i64 1 (k : Int)) = ((m ^^^ 2 ^ k : Nat) : Int) ∧
 Mm keys t m [(t + p, (k : Int), (Yf .i64 (Ci .i64 (Bh .i64 (m : Int) (Kd .i64 1 (k : Int))) (k : Int)) 1 == 1), ())] (t + p) (m ^^^ 2 ^ k) := by
 have h2 := Ju (show k ≤ 62 by omega)
 have hx := qo hm h2
 have e : Bh .i64 (m : Int) (Kd .i64 1 (k : Int)) = ((m ^^^ 2 ^ k : Nat) : Int) := by rw [Zx (by omega), IH hm h2]
 refine ⟨e, ?_, hm, hx⟩
 simp only [Cc]
 have hb : (Yf .i64 (Ci .i64 (Bh .i64 (m : Int) (Kd .i64 1 (k : Int))) (k : Int)) 1 == 1) = !(m.testBit k) := by
  rw [e]
  have := Dz hx (show k ≤ 64 by omega)
  unfold Kk at this
  rw [this, Nat.testBit_xor, qm, Ba rfl]
  cases m.testBit k <;> rfl
 rw [hb]
 unfold Eo Ol Qg
 simp only
 rw [e, Dz hm (by omega), Ba (show 0 ≤ t + p ∧ t + p ≤ 1000000 by omega), Ba (show (0 : Int) ≤ (k : Int) ∧ (k : Int) ≤ 31 by omega), Ca (show ¬ t > t + p by omega), Ca (show ¬ (k : Int) ≥ (keys : Int) by omega)]
 cases m.testBit k <;> rfl
theorem H7 {c : Ta} (hc : Ng c) {keys : Nat} (hk1 : 1 ≤ keys) (hk : keys ≤ 32) {T : Int} (hT : 1 ≤ T ∧ T ≤ 9) : ∃ (c' : Ta) (l : List Ia) (t : Int) (m : Nat), Pw c (keys : Int) 6 T = some (c', (l, ())) ∧ Ng c' ∧
 Mm keys 0 0 l t m ∧ l.length ≤ 6 ∧ 0 ≤ t ∧ t ≤ 60 := by
 obtain ⟨c1, x1, e1, hc1, b1⟩ := Kg hc 7 (by omega)
 obtain ⟨x, rfl⟩ := jv b1.1
 unfold Pw
 rw [show j5 .i64 ((6 : Int) + 1) = 7 from Hc (by omega) (by omega), e1]
 simp only [jb]
 have step := Cq (s := fun x : ((Unit × (Int × (Int × ((List Ia) × Kb)))) × (Ta × Unit)) => Sy x.1.1 x.1.2.1 x.1.2.2.1 x.1.2.2.2.1 x.1.2.2.2.2.1 x.1.2.2.2.2.2.1 x.1.2.2.2.2.2.2.1 x.2.1)
  (fun z y => ∃ (c' : Ta) (l : List Ia) (t : Int) (m : Nat), y = (((), (keys : Int), T, l, t, (m : Int), (z : Int), ()), (c', ())) ∧ Ng c' ∧ Mm keys 0 0 l t m ∧ l.length + z ≤ 6 ∧ 0 ≤ t ∧ t + 10 * (z : Int) ≤ 60)
  (fun r => ∃ (c' : Ta) (l : List Ia) (t : Int) (m : Nat), r = .inl (((), l, ()), (c', ())) ∧ Ng c' ∧ Mm keys 0 0 l t m ∧ l.length ≤ 6 ∧ 0 ≤ t ∧ t ≤ 60) (by
  rintro z y ⟨c', l, t, m, rfl, hc', hE, hl, ht, htz⟩
  simp only [Sy]
  by_cases h1 : (z : Int) > 0
  ·rw [Ba h1, show ((3 : Int) == 0) = false from rfl, show ((2 : Int) == 0) = false from rfl]
   have a1 : T.tdiv 3 = T / 3 := Int.tdiv_eq_ediv_of_nonneg (by omega)
   have a2 : T.tdiv 2 = T / 2 := Int.tdiv_eq_ediv_of_nonneg (by omega)
   rw [a1, a2, Hc (n := T / 3) (by omega) (by omega), Hc (n := T / 2) (by omega) (by omega), Hc (n := T - 1) (by omega) (by omega), Hc (n := T + 1) (by omega) (by omega)]
   obtain ⟨c3, p, e3, hc3, hp⟩ := KL hc' [(0 : Int), (0 : Int), (1 : Int), T / 3, T - 1, T, T + 1, T / 2] (by simp) (by simp)
   obtain ⟨c4, k, e4, hc4, bk⟩ := Kg hc3 (keys : Int) (by omega)
   obtain ⟨k, rfl⟩ := jv bk.1
   have hp' : 0 ≤ p ∧ p ≤ 10 := by
    simp only [jp, List.not_mem_nil, or_false] at hp
    omega
   have hw : j5 .i64 ((z : Int) - 1) = ((z - 1 : Nat) : Int) := by rw [Hc (by omega) (by omega)]; omega
   rw [e3]
   simp only [cond_true, cond_false, jb, e4]
   rw [Ba bk.1, Hc (n := t + p) (by omega) (by omega), hw]
   obtain ⟨h2, h3⟩ := IZ (keys := keys) (k := k) (m := m) (t := t) (p := p) hE.m (by omega) hk ht hp'.1 (by omega)
   rw [Le (by simp; omega)]
   simp only [cond_true]
   refine .inr ⟨_, z - 1, by omega, by rw [h2], c4, _, t + p, m ^^^ 2 ^ k, rfl, hc4, ?_, ?_, by omega, by omega⟩
   ·rw [h2] at h3
    exact CW hE h3
   ·rw [List.append_eq, qe]; simp; omega
  ·rw [Ca h1]
   exact .inl ⟨_, rfl, c', l, t, m, rfl, hc', hE, by omega, ht, by omega⟩) x (((), (keys : Int), T, ([] : List Ia), (0 : Int), ((0 : Nat) : Int), (x : Int), ()), (c1, ())) ⟨c1, [], 0, 0, rfl, hc1, YI _ _ (by decide), by simp; omega, by omega, by omega⟩
 obtain ⟨r, e, c', l, t, m, rfl, h⟩ := step
 unfold Tu
 erw [e]
 exact ⟨c', l, t, m, rfl, h⟩
theorem HZ {keys : Nat} : ∀ {l : List Ia} {t0 t : Int} {m0 m : Nat} (k : Nat), Mm keys t0 m0 l t m → Gc (fun _ s (x : Ia) => Bh .i64 s (Kd .i64 1 x.2.1)) k (m0 : Int) l = (m : Int)
 | [], t0, t, m0, m, k, h => by obtain ⟨_, rfl⟩ := BL h; rfl
 | x :: l, t0, t, m0, m, k, h => by
  obtain ⟨j, hj, h1, h2, h3, h4, h5, h6, h7⟩ := Tx h
  simp only [Gc]
  rw [hj, Zx (by omega), IH h.m0 (Ju (by omega))]
  exact HZ (k + 1) h7
theorem U6 {keys : Nat} : ∀ {l : List Ia} {t0 t : Int} {m0 m : Nat}, Mm keys t0 m0 l t m → ∀ x ∈ l, 0 ≤ x.2.1 ∧ x.2.1 ≤ 31
 | [], _, _, _, _, _, x, hx => absurd hx (by simp)
 | y :: l, t0, t, m0, m, h, x, hx => by
  obtain ⟨j, hj, h1, h2, h3, h4, h5, h6, h7⟩ := Tx h
  rcases jp.1 hx with rfl | hx
  ·omega
  ·exact U6 h7 x hx
theorem Q4 {c : Ta} (hc : Ng c) {keys : Nat} (hk1 : 1 ≤ keys) (hk : keys ≤ 32) {d : Qa} (hd : d.1.1.1 = (keys : Int)) (hT : 1 ≤ d.2.1.1 ∧ d.2.1.1 ≤ 9) (hn : 0 ≤ d.2.2.2.1 ∧ d.2.2.2.1 ≤ 1000)
 (hh : ∀ x ∈ d.1.2.2.2.1, Wo x) (hhl : d.1.2.2.2.1.length ≤ 64) (hq : d.2.2.1.length ≤ 64) {tq : Int} {mh mq : Nat} (hm : Ym d.1.2.2.2.1 = (mh : Int)) {t0 : Int} (hQ : Mm keys t0 mh d.2.2.1 tq mq) :
 ∃ (c' : Ta) (l : List Ia) (t : Int) (m : Nat), Py c d 9 = some (c', (l, ())) ∧ Ng c' ∧ Mm keys d.2.2.2.1 mq l t m ∧ l.length ≤ 9 ∧ t ≤ d.2.2.2.1 + 90 := by
 have h20 : Ga = 1048576 := rfl
 unfold Py
 rw [Oy d.1 (by omega) hh, hm]
 simp only [jb]
 have hl := (Ae (step := fun x : ((Unit × (Int × (Unit × Jb))) × (Ta × (Qa × Unit))) => Dr x.1.1 x.1.2.1 x.1.2.2.1 x.1.2.2.2.1 x.1.2.2.2.2.1 x.2.1 x.2.2.1) d.2.2.1 (fun _ s (x : Ia) => Bh .i64 s (Kd .i64 1 x.2.1))
  (fun s i => (((), (9 : Int), (), s, i, ()), (c, (d, ())))) (fun s => .inl (((), (9 : Int), (), s, ()), (c, (d, ())))) (fun _ _ => True) (by
   intro k hk' s _
   refine ⟨?_, trivial⟩
   have hev := U6 hQ _ (qp hk')
   simp only [Dr]
   rw [Ba (by omega), Zb hk']
   simp only [cond_true, jb]
   rw [IS hev]
   rfl) (by
   intro s _
   simp only [Dr]
   rw [Ca (by omega)]; rfl) (by omega) (mh : Int) trivial).1
 rw [HZ 0 hQ] at hl
 unfold Js
 erw [hl]
 simp only [jb, qj]
 obtain ⟨c1, x1, e1, hc1, b1⟩ := Kg hc 10 (by omega)
 obtain ⟨x, rfl⟩ := jv b1.1
 rw [show j5 .i64 ((9 : Int) + 1) = 10 from Hc (by omega) (by omega), e1]
 simp only [jb]
 have step := Cq (s := fun x : ((Unit × (Unit × (Int × ((List Ia) × Jb)))) × (Ta × (Qa × Unit))) => Ox x.1.1 x.1.2.1 x.1.2.2.1 x.1.2.2.2.1 x.1.2.2.2.2.1 x.1.2.2.2.2.2.1 x.2.1 x.2.2.1)
  (fun z y => ∃ (c' : Ta) (l : List Ia) (t : Int) (m : Nat), y = (((), (), (m : Int), l, t, (z : Int), ()), (c', d, ())) ∧ Ng c' ∧ Mm keys d.2.2.2.1 mq l t m ∧ l.length + z ≤ 9 ∧ 0 ≤ t ∧ t + 10 * (z : Int) ≤ d.2.2.2.1 + 90)
  (fun r => ∃ (c' : Ta) (l : List Ia) (t : Int) (m : Nat), r = .inl (((), l, ()), (c', ())) ∧ Ng c' ∧ Mm keys d.2.2.2.1 mq l t m ∧ l.length ≤ 9 ∧ t ≤ d.2.2.2.1 + 90) (by
  rintro z y ⟨c', l, t, m, rfl, hc', hE, hl, ht, htz⟩
  simp only [Ox]
  by_cases h1 : (z : Int) > 0
  ·rw [Ba h1, show ((2 : Int) == 0) = false from rfl]
   generalize hT' : d.2.1.1 = T at hT
   have a2 : T.tdiv 2 = T / 2 := Int.tdiv_eq_ediv_of_nonneg (by omega)
   rw [a2, Hc (n := T / 2) (by omega) (by omega), Hc (n := T - 1) (by omega) (by omega), Hc (n := T + 1) (by omega) (by omega)]
   obtain ⟨c3, p, e3, hc3, hp⟩ := KL hc' [(0 : Int), (0 : Int), (1 : Int), (1 : Int), (2 : Int), T / 2, T - 1, T, T + 1] (by simp) (by simp)
   obtain ⟨c4, k, e4, hc4, bk⟩ := Kg hc3 (keys : Int) (by omega)
   obtain ⟨k, rfl⟩ := jv bk.1
   have hp' : 0 ≤ p ∧ p ≤ 10 := by
    simp only [jp, List.not_mem_nil, or_false] at hp
    omega
   have hw : j5 .i64 ((z : Int) - 1) = ((z - 1 : Nat) : Int) := by rw [Hc (by omega) (by omega)]; omega
   rw [e3]
   simp only [cond_true, cond_false, jb, hd, e4]
   rw [Ba bk.1, Hc (n := t + p) (by omega) (by omega), hw]
   obtain ⟨h2, h3⟩ := IZ (keys := keys) (k := k) (m := m) (t := t) (p := p) hE.m (by omega) hk ht hp'.1 (by omega)
   rw [Le (by simp; omega)]
   simp only [cond_true]
   refine .inr ⟨_, z - 1, by omega, by rw [h2], c4, _, t + p, m ^^^ 2 ^ k, rfl, hc4, ?_, ?_, by omega, by omega⟩
   ·rw [h2] at h3
    exact CW hE h3
   ·rw [List.append_eq, qe]; simp; omega
  ·rw [Ca h1]
   exact .inl ⟨_, rfl, c', l, t, m, rfl, hc', hE, by omega, by omega⟩) x (((), (), (mq : Int), ([] : List Ia), d.2.2.2.1, (x : Int), ()), (c1, d, ())) ⟨c1, [], d.2.2.2.1, mq, rfl, hc1, YI _ _ hQ.m, by simp; omega, by omega, by omega⟩
 obtain ⟨r, e, c', l, t, m, rfl, h⟩ := step
 unfold Ks
 erw [e]
 exact ⟨c', l, t, m, rfl, h⟩
structure Pv (keys : Nat) (d : Qa) : Prop where
 pl : CF d
 ks : d.1.1.1 = (keys : Int)
 mac : ∀ x ∈ d.1.2.1, x.length ≤ 6
 tim : Pe d.2.1 = true
 now : 0 ≤ d.2.2.2.1 ∧ d.2.2.2.1 ≤ 1000000
 clk : 0 ≤ d.2.2.2.2.1 ∧ d.2.2.2.2.1 ≤ d.2.2.2.1
 tp : 0 ≤ d.2.2.2.2.2.1 ∧ d.2.2.2.2.2.1 ≤ (keys : Int)
 ta : 0 ≤ d.2.2.2.2.2.2.1 ∧ d.2.2.2.2.2.2.1 ≤ d.2.2.2.1
 q : ∃ (t0 t : Int) (m0 m : Nat), Nm d.1.2.2.2.1 m0 ∧ Mm keys t0 m0 d.2.2.1 t m ∧ 0 ≤ t0 ∧ t ≤ d.2.2.2.1
theorem TJ {l : List Ja} {m m' : Nat} (h : Nm l m) (h' : Nm l m') : m = m' := Nat.eq_of_testBit_eq fun j => by rw [h.bit, h'.bit]
theorem Aak {keys : Nat} {d : Qa} (h : Pv keys d) : Md d = true := by
 obtain ⟨t0, t, m0, m, h1, h2, h3, h4⟩ := h.q
 obtain ⟨m1, h5, h6⟩ := GL h.pl.eng.hd
 obtain rfl := TJ h1 h6
 have hE := (Jz _).2 h.pl.eng
 have hF := GZ h2 h3 h.pl.len
 have hB := CT h2 h4
 have a1 := h.now; have a2 := h.clk; have a3 := h.tp; have a4 := h.ta; have a5 := h.ks
 unfold Md
 rw [hE, h.tim, h5, a5, hF, hB, Ba a1, Ba a2, Ba a3, Ba a4]
 rfl
theorem IT {α S R : Type} (g : S → α → S ⊕ R) : ∀ (l : List α) (k : Nat) (s : S) (r : R), Cc (fun _ s x => g s x) k s l = .inr r → ∃ x ∈ l, ∃ s', g s' x = .inr r
 | [], k, s, r, h => by simp [Cc] at h
 | x :: l, k, s, r, h => by
  simp only [Cc] at h
  cases hx : g s x with
  | inr r' => rw [hx] at h; simp only [Sum.inr.injEq] at h; subst h; exact ⟨x, by simp, s, hx⟩
  | inl s' =>
   rw [hx] at h
   obtain ⟨y, hy, s2, h2⟩ := IT g l (k + 1) s' r h
   exact ⟨y, jr _ hy, s2, h2⟩
theorem K6 {t : Sx} {key at_ : Int} {l : List Ia} {til : Int} (hl : ∀ x ∈ l, x.1 ≤ til) (h : (Of t key at_ l til).1 ≠ 0) : (Of t key at_ l til).2.1 ≤ til := by
 revert h
 unfold Of
 cases Pe t && decide (0 ≤ at_ ∧ at_ ≤ 1000000) with
 | false => intro h; exact absurd rfl h
 | true =>
  simp only [cond_true]
  generalize j5 .i64 (at_ + t.1) = e
  cases hc : F6 t.2.2.1 key e l with
  | inl s =>
   by_cases h1 : til ≥ e
   ·rw [Ba h1]; intro _; exact h1
   ·rw [Ca h1]; intro h; exact absurd rfl h
  | inr r =>
   intro h
   show r.2 ≤ til
   obtain ⟨x, hx, s, hg⟩ := IT (BI t.2.2.1 key e) l 0 0 r hc
   have hxl := hl x hx
   have h' : r.1 ≠ 0 := h
   unfold BI at hg
   revert hg
   cases Qg x with
   | false => intro hg; simp only [cond_false, Sum.inr.injEq] at hg; subst hg; exact absurd rfl h'
   | true =>
    simp only [cond_true]
    by_cases he : x.1 ≥ e
    ·rw [Ba he]; intro hg; simp only [cond_true, Sum.inr.injEq] at hg; subst hg; show e ≤ til; omega
    ·rw [Ca he]
     simp only [cond_false]
     cases x.2.1 == key <;> cases x.2.2.1 <;> cases t.2.2.1 == 1 <;> cases t.2.2.1 == 2 <;> cases Kk s x.2.1 == 1 <;> (intro hg; simp only [cond_true, cond_false, Sum.inr.injEq, reduceCtorEq] at hg; try (subst hg; exact hxl))
theorem DW {keys : Nat} : ∀ {l : List Ia} {t0 t : Int} {m0 m : Nat}, Mm keys t0 m0 l t m → ∀ x ∈ l, x.1 ≤ t
 | [], _, _, _, _, _, x, hx => absurd hx (by simp)
 | y :: l, t0, t, m0, m, h, x, hx => by
  obtain ⟨j, hj, h1, h2, h3, h4, h5, h6, h7⟩ := Tx h
  rcases jp.1 hx with rfl | hx
  ·exact RP h7
  ·exact DW h7 x hx
theorem ZS {keys : Nat} {d d' : Qa} {x : Ia} {r : List Ia} {l : List Aa} (h : Pv keys d) (hq : d.2.2.1 = x :: r) (hs : Mh d x r = some (d', l)) :
 Pv keys d' ∧ d'.2.2.1 = r ∧ d'.2.2.2.1 = d.2.2.2.1 ∧ d'.2.1 = d.2.1 ∧ d'.1.1 = d.1.1 := by
 have hN := CS h.pl hq hs
 have hF := Kz h.pl hq
 obtain ⟨t0, t, m0, m, hm, hE, h0, ht⟩ := h.q
 rw [hq] at hE
 obtain ⟨k, hk, hkk, hk31, hx0, hx1, hx2, hdn, hR⟩ := Tx hE
 have hxt := RP hR
 have hp := ((Nz d.1.2.2.2.1).1 h.pl.eng.hd).2
 have hrl : ∀ y ∈ r, y.1 ≤ d.2.2.2.1 := fun y hy => by have := DW hR y hy; omega
 have b1 := h.clk; have b2 := h.tp; have b3 := h.ta; have b4 := h.now
 have hks : keys ≤ 32 := by have := (Ig h.pl.eng.km).k2; have := h.ks; omega
 have hw : j5 .i64 (x.2.1 + 1) = (k : Int) + 1 := by rw [hk, Hc (by omega) (by omega)]
 have press : ∀ b : Bool, x.2.2.1 = true → Nm (pE d.1 k b).2.2.2.1 (m0 ^^^ 2 ^ k) := by
  intro b hd
  have hn2 := hF.down hd
  refine LQ hm (by omega) ?_ _
  cases hh : Jq d.1.2.2.2.1 k with
  | false => rfl
  | true =>
   simp only [Jq, List.any_eq_true, beq_iff_eq] at hh
   obtain ⟨y, hy, hyk⟩ := hh
   exact absurd (hyk.trans hk.symm) (hn2 y hy)
 unfold Mh at hs
 cases hd : x.2.2.1 with
 | false =>
  rw [hd] at hs
  simp only [j9, cond_true, jc, jh] at hs
  obtain ⟨rfl, rfl⟩ := hs
  obtain ⟨hi, hi1, hi2⟩ := hF.up hd
  refine ⟨⟨hN.1, h.ks, h.mac, h.tim, b4, ?_, b2, ?_, x.1, t, _, m, SJ hp hm (by omega) hi (by rw [hi2, hk]), hR, hx1, ht⟩, rfl, rfl, rfl, rfl⟩
  ·show 0 ≤ max d.2.2.2.2.1 x.1 ∧ max d.2.2.2.2.1 x.1 ≤ d.2.2.2.1
   omega
  ·show 0 ≤ cond (d.2.2.2.2.2.1 == j5 .i64 (x.2.1 + 1)) x.1 d.2.2.2.2.2.2.1 ∧ cond (d.2.2.2.2.2.1 == j5 .i64 (x.2.1 + 1)) x.1 d.2.2.2.2.2.2.1 ≤ d.2.2.2.1
   cases d.2.2.2.2.2.1 == j5 .i64 (x.2.1 + 1)
   ·exact b3
   ·show 0 ≤ x.1 ∧ x.1 ≤ d.2.2.2.1; omega
 | true =>
  rw [hd, hw, hk] at hs
  simp only [jg, cond_false, jn] at hs
  cases htp : Ge (Xh d.1.1.2.1 (Zg d.1.1 (Bj d.1.2.2.1 d.1.2.2.2.1) k) k) with
  | false =>
   rw [htp] at hs
   simp only [cond_false, jc, jh] at hs
   obtain ⟨rfl, rfl⟩ := hs
   refine ⟨⟨hN.1, h.ks, h.mac, h.tim, b4, ?_, b2, b3, x.1, t, _, m, press false hd, hR, hx1, ht⟩, rfl, rfl, rfl, rfl⟩
   show 0 ≤ max d.2.2.2.2.1 x.1 ∧ max d.2.2.2.2.1 x.1 ≤ d.2.2.2.1
   omega
  | true =>
   rw [htp] at hs
   simp only [cond_true] at hs
   have hch : ∀ ch : Int × Int, ch = (cond ((d.2.2.2.2.2.1 == (k : Int) + 1) && !decide (j5 .i64 (x.1 - d.2.2.2.2.2.2.1) ≥ d.2.1.2.1)) ((1 : Int), x.1) ((Of d.2.1 (k : Int) x.1 r d.2.2.2.1).1, (Of d.2.1 (k : Int) x.1 r d.2.2.2.1).2.1)) → ch.1 ≠ 0 → ch.2 ≤ d.2.2.2.1 := by
    rintro ch rfl
    cases (d.2.2.2.2.2.1 == (k : Int) + 1) && !decide (j5 .i64 (x.1 - d.2.2.2.2.2.2.1) ≥ d.2.1.2.1) with
    | true => intro _; show x.1 ≤ _; omega
    | false => intro h0; exact K6 hrl h0
   revert hs
   generalize hche : (cond ((d.2.2.2.2.2.1 == (k : Int) + 1) && !decide (j5 .i64 (x.1 - d.2.2.2.2.2.2.1) ≥ d.2.1.2.1)) ((1 : Int), x.1) ((Of d.2.1 (k : Int) x.1 r d.2.2.2.1).1, (Of d.2.1 (k : Int) x.1 r d.2.2.2.1).2.1)) = ch
   have hcl := hch ch hche.symm
   intro hs
   cases h0' : ch.1 == 0 with
   | true => rw [h0'] at hs; simp at hs
   | false =>
    have hcl := hcl (by simpa using h0')
    rw [h0'] at hs
    simp only [cond_false, jc, jh] at hs
    obtain ⟨rfl, rfl⟩ := hs
    refine ⟨⟨hN.1, h.ks, h.mac, h.tim, b4, ?_, ?_, ?_, x.1, t, _, m, press _ hd, hR, hx1, ht⟩, rfl, rfl, rfl, rfl⟩
    ·show 0 ≤ max (max d.2.2.2.2.1 x.1) ch.2 ∧ max (max d.2.2.2.2.1 x.1) ch.2 ≤ d.2.2.2.1
     omega
    ·show 0 ≤ cond (ch.1 == 2) 0 ((k : Int) + 1) ∧ cond (ch.1 == 2) 0 ((k : Int) + 1) ≤ (keys : Int)
     cases ch.1 == 2
     ·show 0 ≤ (k : Int) + 1 ∧ (k : Int) + 1 ≤ _; omega
     ·show 0 ≤ (0 : Int) ∧ (0 : Int) ≤ _; omega
    ·show 0 ≤ cond (ch.1 == 2) d.2.2.2.2.2.2.1 x.1 ∧ cond (ch.1 == 2) d.2.2.2.2.2.2.1 x.1 ≤ d.2.2.2.1
     cases ch.1 == 2
     ·show 0 ≤ x.1 ∧ x.1 ≤ _; omega
     ·exact b3
theorem AW {keys : Nat} : ∀ (n : Nat) (d : Qa) (s : List Rd), Pv keys d → Pv keys (Pd n d s).1 ∧ (Pd n d s).1.2.2.1.length ≤ d.2.2.1.length ∧ (Pd n d s).1.2.2.2.1 = d.2.2.2.1 ∧ (Pd n d s).1.2.1 = d.2.1
 | 0, d, s, h => ⟨h, jo _, rfl, rfl⟩
 | n + 1, d, s, h => by
  cases hq : d.2.2.1 with
  | nil =>
   have e : Pd (n + 1) d s = (d, s) := by simp only [Pd, hq]
   rw [e]
   exact ⟨h, by rw [hq]; exact jo _, rfl, rfl⟩
  | cons x r =>
   cases hst : Mh d x r with
   | none =>
    have e : Pd (n + 1) d s = (d, s) := by simp only [Pd, hq, hst]
    rw [e]
    exact ⟨h, by rw [hq]; exact jo _, rfl, rfl⟩
   | some p =>
    obtain ⟨d', l⟩ := p
    have e : Pd (n + 1) d s = Pd n d' (Pk s d'.2.2.2.2.1 l) := by simp only [Pd, hq, hst]
    obtain ⟨h1, h2, h3, h4, _⟩ := ZS h hq hst
    obtain ⟨i1, i2, i3, i4⟩ := AW n d' (Pk s d'.2.2.2.2.1 l) h1
    rw [e]
    exact ⟨i1, by rw [h2] at i2; simp; omega, i3.trans h3, i4.trans h4⟩
theorem YS {keys : Nat} {d : Qa} (h : Pv keys d) {l : List Ia} {t0 tq t : Int} {mh mq m : Nat} (hm : Nm d.1.2.2.2.1 mh) (h0 : 0 ≤ t0) (hQ : Mm keys t0 mh d.2.2.1 tq mq) (hqn : tq ≤ d.2.2.2.1)
 (hL : Mm keys d.2.2.2.1 mq l t m) (hlen : d.2.2.1.length + l.length ≤ 64) {til : Int} (ht : t ≤ til) (h6 : til ≤ 1000000) : Km d l til = true ∧ Pv keys (Zi d l til) := by
 have hB := Aak h
 have hn := RP hL
 obtain ⟨t', ht', hL'⟩ := QP hL hqn
 have hC := CW hQ hL'
 obtain ⟨m1, h5, h6'⟩ := GL h.pl.eng.hd
 obtain rfl := TJ hm h6'
 have hF := GZ hC h0 (by rw [qe]; omega)
 have b1 := h.clk; have b2 := h.tp; have b3 := h.ta; have b4 := h.now; have b5 := h.ks
 have hF' : Fd (jf d.2.2.1 l) (Ym d.1.2.2.2.1) d.1.1.1 = true := by rw [h5, b5]; exact hF
 refine ⟨?_, JR hB hF', h.ks, h.mac, h.tim, ?_, ?_, h.tp, ?_, t0, t', mh, m, hm, hC, h0, ?_⟩
 ·unfold Km
  rw [hB, Ba (show d.2.2.2.1 ≤ til ∧ til ≤ 1000000 by omega), Dab hL, CT hL ht, hF']
  rfl
 ·show 0 ≤ til ∧ til ≤ 1000000; omega
 ·show 0 ≤ d.2.2.2.2.1 ∧ d.2.2.2.2.1 ≤ til; omega
 ·show 0 ≤ d.2.2.2.2.2.2.1 ∧ d.2.2.2.2.2.2.1 ≤ til; omega
 ·show t' ≤ til; omega
theorem Yaa {keys : Nat} {m : Ab} {M : List (List Kb)} {t : Kb} (hm : Ad m = true) (hk : m.1 = (keys : Int)) (h3 : M.length ≤ 4) (hM : ∀ x ∈ M, Zc x = true ∧ x.length ≤ 6) (ht : Pe t = true) : Pv keys (Dm (Zh m M) t) := by
 have hE := KR hm h3 (fun x hx => (hM x hx).1)
 have h0 : Nm ([] : List Ja) 0 := ⟨by decide, fun j => by simp [Jq]⟩
 refine ⟨⟨hE, by show (0 : Nat) ≤ 64; omega, fun x hx => absurd hx (by simp [Dm]), 0, 0, h0, rfl⟩, hk, fun x hx => (hM x hx).2, ht, ⟨Int.le_refl _, by show (0 : Int) ≤ 1000000; omega⟩, ⟨Int.le_refl _, Int.le_refl _⟩, ⟨Int.le_refl _, by show (0 : Int) ≤ _; omega⟩, ⟨Int.le_refl _, Int.le_refl _⟩, 0, 0, 0, 0, h0, YI _ _ (by decide), Int.le_refl _, Int.le_refl _⟩
theorem EB : ∀ (L l : List Int), l.Nodup → (∀ x ∈ l, x ∈ L) → l.length ≤ L.length
 | [], l, _, h => by
  cases l with
  | nil => simp
  | cons x l => exact absurd (h x (by simp)) (by simp)
 | y :: L, l, hn, h => by
  by_cases hy : y ∈ l
  ·have h1 := EB L (l.erase y) (hn.erase y) (fun x hx => by
    have h2 := (hn.mem_erase_iff).1 hx
    rcases jp.1 (h x h2.2) with h3 | h3
    ·exact absurd h3 h2.1
    ·exact h3)
   rw [List.length_erase_of_mem hy] at h1
   simp only [jw]
   omega
  ·have h1 := EB L l hn (fun x hx => by
    rcases jp.1 (h x hx) with h3 | h3
    ·subst h3; exact absurd hx hy
    ·exact h3)
   simp only [jw]
   omega
theorem HF (p : Int → Bool) : ∀ n, (Vi p n).Nodup
 | 0 => by simp [Vi]
 | n + 1 => by
  have ih := HF p n
  simp only [Vi]
  cases p ((n + 1 : Nat) : Int) with
  | false => exact ih
  | true =>
   refine List.nodup_append.2 ⟨ih, by simp, fun x hx y hy e => ?_⟩
   simp only [qd] at hy
   have := ((ME p n x).1 hx).1.2
   omega
theorem HM (l : List Ja) : (Tb l).2.1.length ≤ l.length := by
 have h := EB (l.map fun h => h.2.1.2.1) (Yh l 56) (by rw [YC]; exact HF _ _) (fun x hx => by
  obtain ⟨_, h, hh, e⟩ := (Cv l 56 x).1 hx
  exact qs.2 ⟨h, hh, e⟩)
 rw [List.length_map] at h
 exact h
theorem LK (b : Aa) (D : List Jb) : (Mv b D).2.1.length ≤ b.2.1.length + D.length := by
 have h := EB (b.2.1 ++ D.map fun p => p.1) (Mv b D).2.1 (HF _ _) (fun x hx => by
  have h1 := ((ME (fun c => b.2.1.any (fun y => y == c) || D.any (fun p => p.1 == c)) 56 x).1 hx).2
  simp only [Bool.or_eq_true, List.any_eq_true, beq_iff_eq] at h1
  rcases h1 with ⟨y, hy, rfl⟩ | ⟨p, hp, rfl⟩
  ·exact jl.2 (.inl hy)
  ·exact jl.2 (.inr (qs.2 ⟨p, hp, rfl⟩)))
 rw [qe, List.length_map] at h
 exact h
theorem Wab (x : Kb) (L : List Ja) (r : Int) : (Iu x L r).length ≤ L.length + 1 := by
 unfold Iu
 cases x.1 == 1 with
 | true => simp
 | false =>
  cases x.1 == 2 with
  | true => simp [Gg, Nb]; omega
  | false => simp
theorem JQ (b : Aa) (N : Nat) : ∀ (l : List Kb) (k : Nat) (s : List Aa × List Ja), (∀ x ∈ s.1, x.2.1.length ≤ b.2.1.length + N) → s.2.length + l.length ≤ N →
 ∀ x ∈ (Gc (fun _ s x => mG b s x) k s l).1, x.2.1.length ≤ b.2.1.length + N
 | [], _, s, h, _ => h
 | x :: l, k, s, h, hn => by
  simp only [Gc]
  simp only [jw] at hn
  have hm := Wab x s.2 (rM s.2 x)
  refine JQ b N l (k + 1) (mG b s x) ?_ (by show (Iu x s.2 (rM s.2 x)).length + l.length ≤ N; omega)
  intro y hy
  rcases jl.1 (show y ∈ s.1 ++ TE b s.2 x from hy) with hy | hy
  ·exact h y hy
  ·unfold TE at hy
   revert hy
   cases x.1 == 0 with
   | true =>
    intro hy
    simp only [cond_true, jp, List.not_mem_nil, or_false] at hy
    rcases hy with rfl | rfl
    ·refine qb (LK _ _) ?_
     rw [List.length_map]
     simp; omega
    ·refine qb (LK _ _) ?_
     rw [List.length_map]
     omega
   | false =>
    intro hy
    simp only [cond_false, jp, List.not_mem_nil, or_false] at hy
    subst hy
    refine qb (LK _ _) ?_
    rw [List.length_map]
    omega
theorem MW {keys : Nat} {e : Va} (h : Uj e) (hk : e.1.1 = (keys : Int)) : e.2.2.2.1.length ≤ keys := by
 have hp := ((Nz e.2.2.2.1).1 h.hd).2
 have h1 := EB ((List.range keys).map fun n : Nat => (n : Int)) (e.2.2.2.1.map fun x => x.1) (by
  rw [List.Nodup, List.pairwise_map]; exact hp) (fun x hx => by
  obtain ⟨y, hy, rfl⟩ := qs.1 hx
  have h2 := h.hin y hy
  have h3 := Yk h.hd y hy
  unfold Fi at h2
  simp only [jd, Bool.not_eq_true', decide_eq_false_iff_not] at h2
  have h4 := h3.lo
  have h5 := h2.1
  obtain ⟨n, hn⟩ := jv h4
  rw [hn]
  exact qs.2 ⟨n, List.mem_range.2 (by omega), rfl⟩)
 rw [List.length_map, List.length_map, List.length_range] at h1
 exact h1
theorem Zaa {keys : Nat} {d d' : Qa} {x : Ia} {r : List Ia} {l : List Aa} (h : Pv keys d) (h4 : keys ≤ 4) (hq : d.2.2.1 = x :: r) (hs : Mh d x r = some (d', l)) :
 l.length ≤ 13 ∧ ∀ y ∈ l, y.2.1.length ≤ 10 := by
 have hF := Kz h.pl hq
 have hk := Wk hF.ev
 obtain ⟨n, hn⟩ := jv hk.2.2.1
 have hn' : x.2.1 = (n : Int) := hn
 have press : ∀ b : Bool, x.2.2.1 = true → (pR d.1 n b).length ≤ 13 ∧ ∀ y ∈ pR d.1 n b, y.2.1.length ≤ 10 := by
  intro b hd
  have hn2 := hF.down hd
  rw [hn'] at hn2
  have F := JL h.pl.eng (k := n) (by have := hF.key; omega) hn2 b
  have hH : (pH d.1 n b).length ≤ 4 := by have := MW F.ok h.ks; exact qb this h4
  have hR := HM (pH d.1 n b)
  have hM : (pM d.1 n b).length ≤ 12 ∧ ∀ y ∈ pM d.1 n b, y.2.1.length ≤ 10 := by
   unfold pM
   cases (Tj d.1 n b).2.2.2.1 == 9 with
   | false => exact ⟨by simp, by simp⟩
   | true =>
    cases decide ((Tj d.1 n b).2.2.2.2.2.2.1 < ((ja d.1.2.1 : Nat) : Int)) with
    | false => exact ⟨by simp, by simp⟩
    | true =>
     simp only [cond_true]
     have h6 : (d.1.2.1.getD (Tj d.1 n b).2.2.2.2.2.2.1.toNat []).length ≤ 6 := by
      rw [qi]
      cases hg : d.1.2.1[(Tj d.1 n b).2.2.2.2.2.2.1.toNat]? with
      | none => simp
      | some m =>
       simp only [Option.getD_some]
       exact h.mac m (List.mem_of_getElem? hg)
     generalize d.1.2.1.getD (Tj d.1 n b).2.2.2.2.2.2.1.toNat [] = M at h6
     have hb := UN (Tb (pH d.1 n b)) M 0 ([], []) (by simp)
     have hk6 := JQ (Tb (pH d.1 n b)) 6 M 0 ([], []) (by simp) (by simpa using h6)
     unfold ID
     refine ⟨by have := hb.1; simp at this; omega, fun y hy => ?_⟩
     have := hk6 y hy
     omega
  unfold pR
  refine ⟨?_, fun y hy => ?_⟩
  ·have h1 := WC (jf (pM d.1 n b) [Tb (pH d.1 n b)]) (Tb d.1.2.2.2.1)
   have h2 : (jf (pM d.1 n b) [Tb (pH d.1 n b)]).length = (pM d.1 n b).length + 1 := by simp
   omega
  ·have h1 := Gz _ _ _ hy
   rcases jl.1 (show y ∈ pM d.1 n b ++ [Tb (pH d.1 n b)] from h1) with h2 | h2
   ·exact hM.2 y h2
   ·rw [qd.1 h2]; omega
 unfold Mh at hs
 cases hd : x.2.2.1 with
 | false =>
  rw [hd] at hs
  simp only [j9, cond_true, jc, jh] at hs
  obtain ⟨rfl, rfl⟩ := hs
  have hE := Iaf h.pl.eng (DI d.1 x.2.1)
  have hH : (wo d.1.2.2.2.1 (DI d.1 x.2.1)).length ≤ 4 := qb (MW hE h.ks) h4
  have hR := HM (wo d.1.2.2.2.1 (DI d.1 x.2.1))
  unfold rR
  refine ⟨?_, fun y hy => ?_⟩
  ·have h1 := WC [Tb (wo d.1.2.2.2.1 (DI d.1 x.2.1))] (Tb d.1.2.2.2.1)
   simp only [jw, j7] at h1
   omega
  ·have h1 := Gz _ _ _ hy
   rw [qd.1 h1]; omega
 | true =>
  rw [hd] at hs
  simp only [jg, cond_false, hn', jn] at hs
  cases htp : Ge (Xh d.1.1.2.1 (Zg d.1.1 (Bj d.1.2.2.1 d.1.2.2.2.1) n) n) with
  | false =>
   rw [htp] at hs
   simp only [cond_false, jc, jh] at hs
   obtain ⟨rfl, rfl⟩ := hs
   exact press false hd
  | true =>
   rw [htp] at hs
   simp only [cond_true] at hs
   revert hs
   generalize (cond ((d.2.2.2.2.2.1 == j5 .i64 ((n : Int) + 1)) && !decide (j5 .i64 (x.1 - d.2.2.2.2.2.2.1) ≥ d.2.1.2.1)) ((1 : Int), x.1) ((Of d.2.1 (n : Int) x.1 r d.2.2.2.1).1, (Of d.2.1 (n : Int) x.1 r d.2.2.2.1).2.1)) = ch
   intro hs
   cases h0' : ch.1 == 0 with
   | true => rw [h0'] at hs; simp at hs
   | false =>
    rw [h0'] at hs
    simp only [cond_false, jc, jh] at hs
    obtain ⟨rfl, rfl⟩ := hs
    exact press _ hd
structure E3 (s : List Rd) : Prop where
 k : ∀ y ∈ s, y.2.1.2.1.length ≤ 10
 t : ∀ y ∈ s, 0 ≤ y.1 ∧ y.1 ≤ 1000000
theorem BY {keys : Nat} (h4 : keys ≤ 4) : ∀ (n : Nat) (d : Qa) (s : List Rd), Pv keys d → E3 s → E3 (Pd n d s).2 ∧ (Pd n d s).2.length ≤ s.length + 13 * n
 | 0, d, s, h, hs => ⟨hs, by show s.length ≤ _; omega⟩
 | n + 1, d, s, h, hs => by
  cases hq : d.2.2.1 with
  | nil =>
   have e : Pd (n + 1) d s = (d, s) := by simp only [Pd, hq]
   rw [e]; exact ⟨hs, by show s.length ≤ _; omega⟩
  | cons x r =>
   cases hst : Mh d x r with
   | none =>
    have e : Pd (n + 1) d s = (d, s) := by simp only [Pd, hq, hst]
    rw [e]; exact ⟨hs, by show s.length ≤ _; omega⟩
   | some p =>
    obtain ⟨d', l⟩ := p
    have e : Pd (n + 1) d s = Pd n d' (Pk s d'.2.2.2.2.1 l) := by simp only [Pd, hq, hst]
    have hN := ZS h hq hst
    have hR := Zaa h h4 hq hst
    have b1 := hN.1.clk
    have b2 := hN.1.now
    have ih := BY h4 n d' (Pk s d'.2.2.2.2.1 l) hN.1 ⟨fun y hy => by
     rcases jl.1 (show y ∈ s ++ _ from hy) with hy | hy
     ·exact hs.k y hy
     ·obtain ⟨r', hr', rfl⟩ := qs.1 hy
      exact hR.2 r' hr', fun y hy => by
     rcases jl.1 (show y ∈ s ++ _ from hy) with hy | hy
     ·exact hs.t y hy
     ·obtain ⟨r', hr', rfl⟩ := qs.1 hy
      show 0 ≤ d'.2.2.2.2.1 ∧ d'.2.2.2.2.1 ≤ 1000000
      omega⟩
    have e2 := BK s d'.2.2.2.2.1 l
    rw [e]
    exact ⟨ih.1, by omega⟩
theorem F7 {t : Kb} (h : Pe t = true) : 1 ≤ t.1 := by
 simp only [Pe, jd, decide_eq_true_eq] at h
 omega
theorem Kac {keys : Nat} {d : Qa} (h : Pv keys d) {l : List Ia} {til : Int} (hp : Km d l til = true) (hq : Pv keys (Zi d l til)) :
 (No d l til).2.2.1 = true ∧ Pv keys (No d l til).1 ∧ (No d l til).1.2.2.1.length ≤ d.2.2.1.length + l.length ∧ (No d l til).1.2.2.2.1 = til ∧ (No d l til).1.2.1 = d.2.1 := by
 unfold No
 rw [hp]
 simp only [cond_true]
 obtain ⟨h1, h2, h3, h4⟩ := AW (Zi d l til).2.2.1.length (Zi d l til) [] hq
 refine ⟨trivial, h1, ?_, h3, h4⟩
 refine qb h2 ?_
 show (jf d.2.2.1 l).length ≤ _
 rw [List.append_eq, qe]
 exact jo _
theorem P4 {c : Ta} (hc : Ng c) {keys : Nat} (hk1 : 1 ≤ keys) (hk : keys ≤ 4) : ∃ (c' : Ta) (d : Qa), Ny c (keys : Int) = some (c', (d, ())) ∧ Ng c' ∧ Pv keys d ∧ d.2.2.1.length ≤ 6 ∧ d.2.2.2.1 ≤ 63 ∧ d.2.1.1 ≤ 9 := by
 have h20 : Ga = 1048576 := rfl
 obtain ⟨c1, m, M, t, e1, hc1, hm, hmk, hM3, hM, ht, ht9⟩ := G7 hc hk1 (by omega)
 have hD := Yaa hm hmk (by omega) hM ht
 obtain ⟨c2, l, tl, ml, e2, hc2, hE, hl6, ht0, ht60⟩ := H7 hc1 hk1 (by omega) (T := t.1) ⟨F7 ht, ht9⟩
 obtain ⟨c3, y, e3, hc3, by3⟩ := Kg hc2 4 (by omega)
 have hz : Xb Dc (Dm (Zh m M) t) ≤ Ga := by
  rw [IR]
  have := EA hD.pl.eng
  show Xb Ub (Zh m M) ≤ _
  have e : (Dm (Zh m M) t).1 = Zh m M := rfl
  rw [e] at this
  omega
 have h0 : Nm ([] : List Ja) 0 := ⟨by decide, fun j => by simp [Jq]⟩
 obtain ⟨hp, hQ⟩ := YS hD (l := l) (t0 := 0) (tq := 0) (t := tl) (mh := 0) (mq := 0) (m := ml) h0 (Int.le_refl _) (YI _ _ (by decide)) (Int.le_refl _) hE (by show (0 : Nat) + l.length ≤ 64; omega) (til := tl + y) (by omega) (by omega)
 obtain ⟨p1, p2, p3, p4, p5⟩ := Kac hD hp hQ
 have hpl := FK (Dm (Zh m M) t) l (tl + y) hz (by omega)
 unfold Ny
 rw [e1]
 simp only [jb]
 have e2' : Pw c1 (keys : Int) 6 (Dm (Zh m M) t).2.1.1 = some (c2, (l, ())) := e2
 rw [e2']
 simp only [jb, e3]
 refine ⟨c3, (No (Dm (Zh m M) t) l (tl + y)).1, ?_, hc3, p2, ?_, ?_, ?_⟩
 ·by_cases hl : l = []
  ·subst hl
   obtain ⟨rfl, _⟩ := BL hE
   rw [Ca (show ¬ ((ja ([] : List Ia) : Nat) : Int) > 0 by simp)]
   simp only [cond_false]
   rw [Hc (n := (0 : Int) + y) (by omega) (by omega), hpl]
   rfl
  ·have hpos : 0 < l.length := List.length_pos_iff.2 hl
   have hlast := (AL hE hl).1
   rw [Ba (show ((ja l : Nat) : Int) > 0 by omega), show j5 .i64 (((ja l : Nat) : Int) - 1) = ((l.length - 1 : Nat) : Int) by rw [Hc (by omega) (by omega)]; omega, Im, Ba (show l.length - 1 < l.length by omega), jn, je (show l.length - 1 < l.length by omega)]
   simp only [cond_true, jb]
   have : l[l.length - 1].1 = tl := by
    rw [← hlast]
    simp [OA, List.getD, je (show l.length - 1 < l.length by omega)]
   rw [this, Hc (n := tl + y) (by omega) (by omega), hpl]
   rfl
 ·have : (Dm (Zh m M) t).2.2.1.length = 0 := rfl
  omega
 ·rw [p4]; omega
 ·rw [p5]; exact ht9
theorem R4 {keys : Nat} {l : List Ia} {t0 t : Int} {m0 m : Nat} (h : Mm keys t0 m0 l t m) (hl : l.length ≤ 100) : Ry l t0 = some (t, ()) := by
 unfold Ry
 by_cases h0 : l = []
 ·subst h0
  obtain ⟨rfl, _⟩ := BL h
  rfl
 ·have hpos : 0 < l.length := List.length_pos_iff.2 h0
  have hlast := (AL h h0).1
  obtain ⟨x, h1, h2⟩ := FH (l := l) hpos (by have : Ga = 1048576 := rfl; omega)
  rw [h1, show (((l.length : Nat) : Int) == 0) = false by simp; exact h0]
  simp only [cond_false, jb]
  rw [h2, hlast]
structure Saj (d : Qa) (l : List Ia) (til : Int) : Prop where
 ex : ∃ keys : Nat, keys ≤ 4 ∧ Pv keys d ∧ Pv keys (Zi d l til)
 ok : Km d l til = true
 n : d.2.2.1.length + l.length ≤ 15
theorem DR (a : List Int) (hn : a.length ≤ Ga) : ∃ (d : Qa) (l : List Ia) (til : Int), Zq a = some (d, l, til, ()) ∧ Saj d l til := by
 obtain ⟨c, e, hc⟩ := Zab a 8 hn
 obtain ⟨c1, k, e1, hc1, bk⟩ := Kg hc 4 (by omega)
 obtain ⟨k, rfl⟩ := jv bk.1
 have hw : j5 .i64 ((1 : Int) + (k : Int)) = ((k + 1 : Nat) : Int) := by rw [Hc (by omega) (by omega)]; omega
 obtain ⟨c2, d, e2, hc2, hD, hq6, hn63, ht9⟩ := P4 hc1 (keys := k + 1) (by omega) (by omega)
 obtain ⟨t0, tq, m0, mq, hm, hQ, h0, htq⟩ := hD.q
 obtain ⟨m1, hm1, hm1'⟩ := GL hD.pl.eng.hd
 obtain rfl := TJ hm hm1'
 have hheld := Fl hD.pl.eng.hd
 obtain ⟨c3, l, t, m, e3, hc3, hL, hl9, ht90⟩ := Q4 hc2 (keys := k + 1) (by omega) (by omega) hD.ks ⟨F7 hD.tim, ht9⟩ ⟨hD.now.1, by omega⟩ (Yk hD.pl.eng.hd) (by omega) (by omega) hm1 hQ
 obtain ⟨c4, y, e4, hc4, b4⟩ := Kg hc3 12 (by omega)
 have hge := RP hL
 have hnow := hD.now
 obtain ⟨hp, hQ'⟩ := YS hD hm h0 hQ htq hL (by omega) (til := t + y) (by omega) (by omega)
 unfold Zq
 rw [e]
 simp only [jb, e1, hw, e2, e3]
 rw [R4 hL (by omega)]
 simp only [jb, e4]
 rw [Hc (n := t + y) (by omega) (by omega)]
 exact ⟨d, l, t + y, rfl, ⟨k + 1, by omega, hD, hQ'⟩, hp, by omega⟩
theorem T8 {d : Qa} {l : List Ia} {til : Int} (h : Saj d l til) : (No d l til).2.2.1 = true ∧ E3 (No d l til).2.1 ∧ (No d l til).2.1.length ≤ 195 := by
 obtain ⟨keys, h4, hD, hQ⟩ := h.ex
 have hn := h.n
 obtain ⟨h1, h2⟩ := BY h4 (Zi d l til).2.2.1.length (Zi d l til) [] hQ ⟨by simp, by simp⟩
 have e : (Zi d l til).2.2.1.length = d.2.2.1.length + l.length := by
  show (jf d.2.2.1 l).length = _
  rw [List.append_eq, qe]
 unfold No
 rw [h.ok]
 simp only [cond_true]
 refine ⟨trivial, h1, ?_⟩
 simp only [j7] at h2
 omega
def AD (b : UInt8) : UInt8 := Jc.getD (b.toNat / 16) 0
def BD (b : UInt8) : UInt8 := Jc.getD (b.toNat % 16) 0
def Yy (l : List UInt8) : List UInt8 := l.flatMap fun b => [AD b, BD b]
theorem Gak : ∀ b : Fin 256, Wb Jc (Ci .u8 (b.val : Int) 4) = some (AD (UInt8.ofNat b.val)) ∧ Wb Jc (Yf .u8 (b.val : Int) 15) = some (BD (UInt8.ofNat b.val)) ∧
 0 ≤ Lib.indexByte Jc (jy ((AD (UInt8.ofNat b.val)).toNat : Int)).toUInt8 ∧ 0 ≤ Lib.indexByte Jc (jy ((BD (UInt8.ofNat b.val)).toNat : Int)).toUInt8 ∧
 j5 .u8 (j5 .i64 (j5 .i64 (16 * Lib.indexByte Jc (jy ((AD (UInt8.ofNat b.val)).toNat : Int)).toUInt8) + Lib.indexByte Jc (jy ((BD (UInt8.ofNat b.val)).toNat : Int)).toUInt8)) = (b.val : Int) := by
 decide +kernel
theorem MZ (c : UInt8) : Wb Jc (Ci .u8 (c.toNat : Int) 4) = some (AD c) ∧ Wb Jc (Yf .u8 (c.toNat : Int) 15) = some (BD c) ∧
 0 ≤ Lib.indexByte Jc (jy ((AD c).toNat : Int)).toUInt8 ∧ 0 ≤ Lib.indexByte Jc (jy ((BD c).toNat : Int)).toUInt8 ∧
 j5 .u8 (j5 .i64 (j5 .i64 (16 * Lib.indexByte Jc (jy ((AD c).toNat : Int)).toUInt8) + Lib.indexByte Jc (jy ((BD c).toNat : Int)).toUInt8)) = (c.toNat : Int) := by
 have h := Gak ⟨c.toNat, c.toNat_lt⟩
 rw [UInt8.ofNat_toNat] at h
 exact h
theorem AQ : ∀ l : List UInt8, (Yy l).length = 2 * l.length
 | [] => rfl
 | c :: l => by
  have := AQ l
  show ([AD c, BD c] ++ Yy l).length = _
  simp only [qe, jw, j7]
  omega
theorem A7 : ∀ (l : List UInt8) (k : Nat) (hk : k < l.length), (Yy l)[2 * k]? = some (AD l[k]) ∧ (Yy l)[2 * k + 1]? = some (BD l[k])
 | c :: l, 0, _ => ⟨rfl, rfl⟩
 | c :: l, k + 1, hk => by
  have h := A7 l k (by simpa using hk)
  have e : Yy (c :: l) = AD c :: BD c :: Yy l := rfl
  rw [e, show 2 * (k + 1) = 2 * k + 1 + 1 by omega, show 2 * k + 1 + 1 + 1 = (2 * k + 1) + 1 + 1 by omega]
  exact h
theorem PL {l : List UInt8} (hl : l.length ≤ 2000) : Dp (Cd l) = some (Yy l, ()) := by
 have hn := OY l
 unfold Dp
 rw [Ca (show ¬ ((ja (Cd l) : Nat) : Int) > 2000 by omega)]
 have h := (Ae (step := fun x : (((List Int) × Ta) × Unit) => Pm x.1.1 x.1.2.1 x.1.2.2.1 x.1.2.2.2.1) l (fun _ o (c : UInt8) => jf o [((AD c).toNat : Int), ((BD c).toNat : Int)])
  (fun o i => ((o, Cd l, ((ja (Cd l) : Nat) : Int), i, ()), ())) (fun o => .inl ((o, ()), ())) (fun k o => o.length = 2 * k) (by
   intro k hk o ho
   refine ⟨?_, by simp [ho]; omega⟩
   have hx := MZ l[k]
   have e : (Cd l)[k]'(by omega) = (l[k].toNat : Int) := by simp [Cd]
   simp only [Pm]
   rw [Ba (by omega), Zb (show k < (Cd l).length by omega)]
   simp only [cond_true, jb]
   rw [e, Ba (show (0 : Int) ≤ 4 by omega), hx.1]
   simp only [cond_true, jb]
   rw [hx.2.1]
   simp only [jb]
   rw [Le (by simp; omega)]
   rfl) (by
   intro o ho
   simp only [Pm]
   rw [Ca (by omega)]; rfl) (by omega) [] rfl).1
 have hf : ∀ (ys : List UInt8) (j : Nat) (o : List Int), Gc (fun _ o (c : UInt8) => jf o [((AD c).toNat : Int), ((BD c).toNat : Int)]) j o ys = o ++ Cd (Yy ys) := by
  intro ys
  induction ys with
  | nil => intro j o; simp [Gc, Yy, Cd]
  | cons y ys ih =>
   intro j o
   rw [Gc, ih]
   have e : Yy (y :: ys) = [AD y, BD y] ++ Yy ys := rfl
   rw [e, NY]
   simp [Cd]
 rw [hf] at h
 simp only [cond_false]
 unfold Ep
 erw [h]
 simp only [jb, qj, List.nil_append]
 rw [KM]
theorem SX (l : List UInt8) (hl : l.length ≤ 2000) : ∀ (n k : Nat) (o : List Int), k + n = l.length → o.length = k →
 Xg ((Yy l, o, ((2 * k : Nat) : Int), ()), ()) = some (.inl ((o ++ Cd (l.drop k), ()), ()))
 | 0, k, o, hk, ho => by
  have : k = l.length := by omega
  subst this
  have hn := AQ l
  unfold Xg
  refine (Ve (z := some (Sum.inr (.inl ((o, ()), ())))) ?_).trans ?_
  ·simp only [Xv]
   rw [Ca (by omega)]; rfl
  ·simp [Cd]
 | n + 1, k, o, hk, ho => by
  have hk' : k < l.length := by omega
  have hn := AQ l
  obtain ⟨g1, g2⟩ := A7 l k hk'
  obtain ⟨_, _, x1, x2, x3⟩ := MZ l[k]
  have i1 : Wb (Yy l) ((2 * k : Nat) : Int) = some (AD l[k]) := by unfold Wb; rw [Ba (by omega), jn, g1]; rfl
  have i2 : Wb (Yy l) ((2 * k + 1 : Nat) : Int) = some (BD l[k]) := by unfold Wb; rw [Ba (by omega), jn, g2]; rfl
  unfold Xg
  refine (Ve (z := some (Sum.inl ((Yy l, o ++ [(l[k].toNat : Int)], ((2 * (k + 1) : Nat) : Int), ()), ()))) ?_).trans ?_
  ·simp only [Xv]
   rw [Ba (by omega), i1]
   simp only [cond_true, jb]
   rw [show ∀ c : Int, strings_IndexByte Jc c = some (Lib.indexByte Jc c.toNat.toUInt8, ()) from fun _ => rfl]
   simp only [jb]
   rw [Ze (by omega), i2]
   simp only [jb]
   rw [show ∀ c : Int, strings_IndexByte Jc c = some (Lib.indexByte Jc c.toNat.toUInt8, ()) from fun _ => rfl]
   simp only [jb]
   rw [Ca (show ¬ Lib.indexByte Jc (jy ((AD l[k]).toNat : Int)).toUInt8 < 0 by omega), Ca (show ¬ Lib.indexByte Jc (jy ((BD l[k]).toNat : Int)).toUInt8 < 0 by omega), x3, Le (by simp; omega), Hc (by omega) (by omega)]
   simp only [cond_true, cond_false, List.append_eq]
   rw [show ((2 * k : Nat) : Int) + 2 = ((2 * (k + 1) : Nat) : Int) by omega]
  ·have := SX l hl n (k + 1) (o ++ [(l[k].toNat : Int)]) (by omega) (by simp [ho])
   unfold Xg at this
   refine this.trans ?_
   have e : Cd (l.drop k) = (l[k].toNat : Int) :: Cd (l.drop (k + 1)) := by
    rw [List.drop_eq_getElem_cons hk']; rfl
   rw [e]
   simp
theorem PN {l : List UInt8} (hl : l.length ≤ 2000) : Rr (Yy l) = some (Cd l, true, ()) := by
 have hn := AQ l
 unfold Rr
 have e : Int.tmod ((ja (Yy l) : Nat) : Int) 2 = 0 := by
  rw [hn, Int.tmod_eq_emod_of_nonneg (by omega)]; omega
 rw [show ((2 : Int) == 0) = false from rfl, e, Ca (show ¬ ((ja (Yy l) : Nat) : Int) > 4000 by omega)]
 have := SX l hl l.length 0 [] (by omega) rfl
 simp only [cond_false, bne_self_eq_false]
 rw [show (0 : Int) = ((2 * 0 : Nat) : Int) from rfl, this]
 simp
theorem Eam {a : Aa} {C : Nat} {l : List Aa} (hl : ∀ r ∈ l, r.2.1.length ≤ C) : (K5 a l).length ≤ C * l.length := by
 have key : ∀ (l : List Aa) (k : Nat) (s : Aa × List UInt8), (∀ r ∈ l, r.2.1.length ≤ C) → (Gc (fun _ s r => PS s r) k s l).2.length ≤ s.2.length + C * l.length := by
  intro l
  induction l with
  | nil => intro k s _; simp [Gc]
  | cons x r ih =>
   intro k s hl
   have h0 := ih (k + 1) (PS s x) (fun y hy => hl y (by simp [hy]))
   have h1 := HR x.1 (TB s.1 x) 0 s.2
   have h2 : (TB s.1 x).length ≤ x.2.1.length := by
    unfold TB
    cases Hg s.1 && Hg x with
    | false => simp
    | true => have := YN s.1 x.2.1 0 []; simpa using this
   have h3 := hl x (by simp)
   have h4 : (PS s x).2.length ≤ s.2.length + C := by
    show (X1 x.1 s.2 (TB s.1 x)).length ≤ _
    unfold X1
    omega
   simp only [Gc, jw, Nat.mul_add]
   omega
 have := key l 0 (a, []) hl
 unfold K5
 simpa using this
theorem S4 (a : List Int) : Mw a = some (true, ()) := by
 have h20 : Ga = 1048576 := rfl
 by_cases hn : a.length ≤ Ga
 case neg =>
  unfold Mw
  rw [Paa hn]
  rfl
 obtain ⟨d, l, til, eM, hM⟩ := DR a hn
 obtain ⟨p1, p2, p3⟩ := T8 hM
 obtain ⟨keys, h4, hD, hQ⟩ := hM.ex
 have hz : Xb Dc d ≤ Ga := by
  have h1 := S6 hD.pl.eng
  have h2 := hD.pl.len
  rw [CB, Bv]
  omega
 have hP := IJ d l til hz (by have := hM.n; omega)
 unfold Mw
 rw [Z5 hn]
 simp only [jb, cond_false]
 rw [eM]
 simp only [jb]
 rw [hP]
 simp only [jb]
 generalize hS : (No d l til).2.1 = S at p2 p3
 rw [p1]
 have hr : ∀ x ∈ S, -9223372036854775808 ≤ x.1 ∧ x.1 ≤ 9223372036854775807 := fun x hx => by have := p2.t x hx; omega
 have hk : ∀ x ∈ S, x.2.1.2.1.length ≤ Ga := fun x hx => by have := p2.k x hx; omega
 have hL := (Ae (step := fun x : (((List Rd) × (Bool × ((List (List UInt8)) × (Int × Unit)))) × Unit) => Ct x.1.1 x.1.2.1 x.1.2.2.1 x.1.2.2.2.1) S (fun _ o (x : Rd) => jf o [KC x])
  (fun o i => ((S, true, o, i, ()), ())) (fun o => .inl ((S, true, o, ()), ())) (fun k o => o.length = k) (by
   intro k hk' o ho
   refine ⟨?_, by simp [ho]⟩
   have hm := qp hk'
   have h1 := hr _ hm
   have h2 := hk _ hm
   have h3 := TN h1
   have h5 := IN S[k].2.1
   simp only [Ct]
   rw [Ba (by omega), Zb hk']
   simp only [cond_true, jb]
   rw [WB h1]
   simp only [jb]
   rw [Le (by simp; omega)]
   simp only [cond_true]
   rw [Ey _ h2]
   simp only [jb]
   rw [Le (by simp; omega), Le (by simp; omega)]
   rfl) (by
   intro o ho
   simp only [Ct]
   rw [Ca (by omega)]; rfl) (by omega) [] rfl).1
 have hf : ∀ (ys : List Rd) (j : Nat) (o : List (List UInt8)), Gc (fun _ o (x : Rd) => jf o [KC x]) j o ys = o ++ ys.map KC := by
  intro ys
  induction ys with
  | nil => intro j o; simp [Gc]
  | cons y ys ih => intro j o; rw [Gc, ih]; simp
 rw [hf] at hL
 unfold Gu
 erw [hL]
 simp only [jb, qj, List.nil_append]
 have hj := YP hr
 rw [Ix (by simp; omega) (by omega)]
 simp only [jb]
 have hSz : Xb (.sl Pg) S ≤ Ga := by
  have := XH (e := Pg) (c := 10) (w := S) fun x hx => by rw [Cam]; exact p2.k x hx
  omega
 have hRk : ∀ r ∈ S.map (fun x => x.2.1), r.2.1.length ≤ 10 := fun r hr => by
  obtain ⟨x, hx, rfl⟩ := qs.1 hr
  exact p2.k x hx
 have hT := Eam (a := ((0 : Int), ([] : List Int), ())) hRk
 rw [List.length_map] at hT
 have eT := AU (a := ((0 : Int), ([] : List Int), ())) (l := S.map (fun x => x.2.1)) (by simp) (fun r hr => by have := hRk r hr; omega) (by rw [List.length_map]; omega)
 rw [QL _ hSz]
 simp only [jb]
 rw [eT]
 simp only [jb]
 generalize K5 ((0 : Int), ([] : List Int), ()) (S.map (fun x => x.2.1)) = tx at hT
 rw [Le (by omega), PL (by omega)]
 simp only [cond_true, jb]
 rw [PN (by omega)]
 simp only [jb, cond_true]
 rw [GJ S hr hk (by omega)]
 simp only [jb, cond_true, KM, CY]
 cases ((ja S : Nat) : Int) == 0 <;> simp
end KF
