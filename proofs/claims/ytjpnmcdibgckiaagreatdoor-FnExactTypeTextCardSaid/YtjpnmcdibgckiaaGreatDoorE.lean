/- An evaluator of Go functions on plain data, its soundness, and plain laws on what the functions compute, part 5 (conditions: as each lemma tells). -/
import Derived.Test.YtjpnmcdibgckiaaGreatDoorD
set_option linter.unusedSimpArgs false
set_option linter.unusedVariables false
namespace KF
open Go
open List renaming length → ja, getElem?_eq_getElem → je, append → jf, mem_append → jl, mem_cons → jp, mem_cons_of_mem → jr, length_cons → jw, set → j5, length_nil → j7, mem_singleton → qc, length_append → qd, getElem?_append_left → qf, getElem?_append_right → qg, getD_eq_getElem?_getD → qh, getElem_mem → qp, mem_of_mem_drop → qq, getElem_of_mem → qr, mem_map → qs, length_drop → qt, mem_cons_self → qv
open Option renaming bind_some → jb, bind → jz, map_some → qb, bind_eq_some_iff → qe
open Option.some renaming injEq → jc
open Bool renaming and_eq_true → jd, not_true → jg, true_and → jk, false_eq_true → jq, not_false → j8, not_eq_true → j9, false_and → qm, and_self → qn, eq_iff_iff → qu
open Prod.mk renaming injEq → jh
open Nat renaming ble_eq_true_of_le → ji, mul_le_mul_right → jm, le_refl → jo, zero_add → js, add_assoc → jt, eq_of_beq_eq_true → ju, ble → jx, le_trans → qa, lt_of_lt_of_le → qj, pow_le_pow_right → qk, testBit_two_pow → ql, xor_lt_two_pow → qo
open Int renaming toNat_natCast → jn, eq_ofNat_of_zero_le → jv, toNat → jy
open Go.IntKind renaming wrap → j4
open Sum renaming elim → j6, elim_inl → qi
open Result renaming andThen_ok → qw
open Sem renaming run_bind → qx
def Bo (p : Int → Bool) : Nat → List Int
 | 0 => []
 | n + 1 => cond (p ((n + 1 : Nat) : Int)) (Bo p n ++ [((n + 1 : Nat) : Int)]) (Bo p n)
theorem VI (p : Int → Bool) : ∀ n, (Bo p n).length ≤ n
 | 0 => by simp [Bo]
 | n + 1 => by
  have := VI p n
  simp only [Bo]
  cases p ((n + 1 : Nat) : Int) <;> simp <;> omega
theorem CI (l : List Ia) : ∀ n, Mi l n = Bo (fun c => l.any fun h => h.2.1.2.1 == c) n
 | 0 => rfl
 | n + 1 => by simp only [Mi, Bo, CI l n]
theorem BN (cs : List Int) (hn : cs.length ≤ Da) (hx : ∀ c ∈ cs, 0 ≤ c ∧ c ≤ 56) : Uo cs = some (Bo (fun c => cs.any (fun y => y == c)) 56, ()) := by
 have := SD (cs.map fun c => ((0, (0, c, 0, 0, ()), ()) : Ia)) (by simpa using hn) (fun h hh => by
  obtain ⟨c, hc, rfl⟩ := qs.1 hh
  exact hx c hc)
 rw [List.map_map] at this
 have e : List.map ((fun h : Ia => h.2.1.2.1) ∘ fun c => ((0, (0, c, 0, 0, ()), ()) : Ia)) cs = cs := by
  rw [show ((fun h : Ia => h.2.1.2.1) ∘ fun c => ((0, (0, c, 0, 0, ()), ()) : Ia)) = id from rfl, List.map_id]
 rw [e] at this
 rw [this, CI]
 congr 3
 funext c
 rw [List.any_map]
 rfl
def R2 (s : Int) (D : List Hb) : Int := Tc (fun _ s (p : Hb) => Fd .i64 s p.2.1) 0 s D
def Wy (b : Aa) (D : List Hb) : Aa := (R2 b.1 D, Bo (fun c => b.2.1.any (fun y => y == c) || D.any (fun p => p.1 == c)) 56, ())
theorem BL (b : Aa) (D : List Hb) (hb : b.2.1.length ≤ 56) (hD : D.length ≤ 1000) (hbx : ∀ c ∈ b.2.1, 0 ≤ c ∧ c ≤ 56) (hDx : ∀ p ∈ D, 0 ≤ p.1 ∧ p.1 ≤ 56) :
 Ce b D = some (Wy b D, ()) := by
 have h20 : Da = 1048576 := rfl
 have hl := (Qd (step := fun x => Om x.1.1 x.1.2.1 x.1.2.2.1 x.1.2.2.2.1 x.1.2.2.2.2.1 x.1.2.2.2.2.2.1 x.2.1 x.2.2.1) D
  (fun _ (s : Int × List Int) (p : Hb) => (Fd .i64 s.1 p.2.1, jf s.2 [p.1])) (fun s i => (((), (), s.2, D, ((ja D : Nat) : Int), i, ()), (((0 : Int), ([] : List Int), ()), (s.1, ([] : List Int), ()), ())))
  (fun s => .inl (((), (), s.2, ()), (((0 : Int), ([] : List Int), ()), (s.1, ([] : List Int), ()), ()))) (fun k s => s.2.length = b.2.1.length + k) (by
   intro k hk s hs
   refine ⟨?_, by simp [hs]; omega⟩
   simp only [Om]
   rw [Ba (show (k : Int) < ((ja D : Nat) : Int) by omega), Qb hk]
   simp only [cond_true, jb]
   rw [show jx (ja s.2 + ja ([D[k].1] : List Int)) Ab = true from ji (by simp only [jw, j7, Td]; omega)]
   rfl)
  (by
   intro s _
   simp only [Om]
   rw [Ca (by omega)]; rfl) (by omega) (b.1, b.2.1) (by simp)).1
 have key : ∀ (D : List Hb) (k : Nat) (s : Int × List Int), Tc (fun _ (s : Int × List Int) (p : Hb) => (Fd .i64 s.1 p.2.1, jf s.2 [p.1])) k s D =
  (Tc (fun _ s (p : Hb) => Fd .i64 s p.2.1) k s.1 D, s.2 ++ D.map fun p => p.1) := by
  intro D
  induction D with
  | nil => intro k s; simp [Tc]
  | cons x D ih => intro k s; simp only [Tc]; rw [ih]; simp
 unfold Ce Xo
 rw [Lx _ (by omega)]
 simp only [jb]
 erw [hl]
 rw [key]
 simp only [jb, qi]
 rw [BN _ (by simp; omega) (fun c hc => by
  rcases jl.1 hc with h | h
  ·exact hbx c h
  ·obtain ⟨p, hp, rfl⟩ := qs.1 h
   exact hDx p hp)]
 simp only [jb, Wy, R2]
 congr 4
 apply congrArg (fun p => Bo p 56)
 funext c
 rw [List.any_append, List.any_map]
 rfl
abbrev zR : Aa := ((0 : Int), ([] : List Int), ())
theorem KI {α : Type} (p : α → Bool) : ∀ (l : List α) (k : Nat) (b : Bool), Tc (fun _ b x => cond b true (p x)) k b l = (b || l.any p)
 | [], _, b => by simp [Tc]
 | x :: l, k, b => by
  simp only [Tc, List.any_cons]
  rw [KI p l (k + 1)]
  cases b <;> cases p x <;> rfl
theorem JW (D : List Ia) (b : Aa) (K : List Int) (c : Int) (has : Bool) (hb : b.2.1.length ≤ Da) :
 Pj ((D, (), (), K, c, has, (0 : Int), ()), (zR, b, ())) = some (.inl ((D, (), (), K, c, has || b.2.1.any (fun y => y == c), ()), (zR, b, ()))) := by
 have h20 : Da = 1048576 := rfl
 have hl := (Qd (step := fun x => Zm x.1.1 x.1.2.1 x.1.2.2.1 x.1.2.2.2.1 x.1.2.2.2.2.1 x.1.2.2.2.2.2.1 x.1.2.2.2.2.2.2.1 x.2.1 x.2.2.1) b.2.1 (fun _ s y => cond s true (y == c)) (fun s i => ((D, (), (), K, c, s, i, ()), (zR, b, ())))
  (fun s => .inl ((D, (), (), K, c, s, ()), (zR, b, ()))) (fun _ _ => True) (by
   intro k hk s _
   refine ⟨?_, trivial⟩
   simp only [Zm]
   rw [Ba (show (k : Int) < ((ja b.2.1 : Nat) : Int) by omega), show Ql (ja b.2.1) (k : Int) = true by rw [Tr]; exact Ba hk, jn, je hk]
   simp only [cond_true, jb]
   cases s <;> rfl)
  (by
   intro s _
   simp only [Zm]
   rw [Ca (by omega)]; rfl) (by omega) has trivial).1
 unfold Pj
 erw [hl]
 rw [KI (fun y : Int => y == c)]
theorem IW (D : List Ia) (b : Aa) (K : List Int) (c : Int) (has : Bool) (hD : D.length ≤ Da) :
 Qj ((D, (), (), K, c, has, (0 : Int), ()), (zR, b, ())) = some (.inl ((D, (), (), K, c, has || D.any (fun h => h.2.1.2.1 == c), ()), (zR, b, ()))) := by
 have h20 : Da = 1048576 := rfl
 have hl := (Qd (step := fun x => An x.1.1 x.1.2.1 x.1.2.2.1 x.1.2.2.2.1 x.1.2.2.2.2.1 x.1.2.2.2.2.2.1 x.1.2.2.2.2.2.2.1 x.2.1 x.2.2.1) D (fun _ s (h : Ia) => cond s true (h.2.1.2.1 == c)) (fun s i => ((D, (), (), K, c, s, i, ()), (zR, b, ())))
  (fun s => .inl ((D, (), (), K, c, s, ()), (zR, b, ()))) (fun _ _ => True) (by
   intro k hk s _
   refine ⟨?_, trivial⟩
   simp only [An]
   rw [Ba (show (k : Int) < ((ja D : Nat) : Int) by omega), Qb hk]
   simp only [cond_true, jb]
   cases s <;> rfl)
  (by
   intro s _
   simp only [An]
   rw [Ca (by omega)]; rfl) (by omega) has trivial).1
 unfold Qj
 erw [hl]
 rw [KI (fun h : Ia => h.2.1.2.1 == c)]
theorem Px (l D : List Ia) (hn : l.length ≤ Da) (hv : Md l = true) (hD : D.length ≤ 1000) : Hg l D = some (Wy (Yb l) (D.map Qc), ()) := by
 have h20 : Da = 1048576 := rfl
 have h1 := (Qd (step := fun x => Lo x.1.1 x.1.2.1 x.1.2.2.1 x.1.2.2.2.1 x.2.1 x.2.2.1) D (fun _ s (h : Ia) => Fd .i64 s h.2.1.2.2.1) (fun s i => ((D, (), (), i, ()), (zR, ((s, (Yb l).2.1, ()) : Aa), ())))
  (fun s => .inl ((D, (), (), ()), (zR, ((s, (Yb l).2.1, ()) : Aa), ()))) (fun _ _ => True) (by
   intro k hk s _
   refine ⟨?_, trivial⟩
   simp only [Lo]
   rw [Ba (show (k : Int) < ((ja D : Nat) : Int) by omega), Qb hk]; rfl)
  (by
   intro s _
   simp only [Lo]
   rw [Ca (by omega)]; rfl) (by omega) (Yb l).1 trivial).1
 have hm : ∀ (D : List Ia) (k : Nat) (s : Int), Tc (fun _ s (h : Ia) => Fd .i64 s h.2.1.2.2.1) k s D = Tc (fun _ s (p : Hb) => Fd .i64 s p.2.1) k s (D.map Qc) := by
  intro D
  induction D with
  | nil => intro k s; rfl
  | cons x D ih => intro k s; simp only [Tc, List.map_cons]; exact ih _ _
 generalize hms : Tc (fun _ s (h : Ia) => Fd .i64 s h.2.1.2.2.1) 0 (Yb l).1 D = ms at h1
 have hms' : R2 (Yb l).1 (D.map Qc) = ms := by rw [← hms, hm]; rfl
 let pr : Int → Bool := fun c => (Yb l).2.1.any (fun y => y == c) || D.any (fun h => h.2.1.2.1 == c)
 have h2 := BE (step := fun x => Mo x.1.1 x.1.2.1 x.1.2.2.1 x.1.2.2.2.1 x.1.2.2.2.2.1 x.2.1 x.2.2.1) (fun k => ((D, (), (), Bo pr k, ((k + 1 : Nat) : Int), ()), (zR, ((ms, (Yb l).2.1, ()) : Aa), ()))) 56
  (.inl (((), (), Bo pr 56, ()), (zR, ((ms, (Yb l).2.1, ()) : Aa), ()))) (by
   intro k hk
   simp only [Mo]
   have hlen := VI pr k
   rw [Ba (show ((k + 1 : Nat) : Int) ≤ 56 by omega), JW D _ _ _ _ (by have := Py l; show (Yb l).2.1.length ≤ _; omega)]
   simp only [cond_true, jb, qi]
   rw [IW D _ _ _ _ (by omega)]
   simp only [jb, qi]
   rw [show jx (ja (Bo pr k) + ja ([((k + 1 : Nat) : Int)] : List Int)) Ab = true from ji (by simp only [jw, j7, Td]; omega), Df (by omega)]
   simp only [Bo, pr, Bool.false_or, cond_true]
   cases ((Yb l).2.1.any (fun y => y == ((k + 1 : Nat) : Int)) || D.any (fun h => h.2.1.2.1 == ((k + 1 : Nat) : Int))) <;> rfl) (by
   simp only [Mo]
   rw [Ca (by decide)]; rfl)
 unfold Hg Wq Xq
 rw [Tq l hn hv]
 simp only [jb]
 erw [h1]
 simp only [jb, qi]
 erw [h2]
 simp only [jb, qi]
 unfold Wy
 rw [hms']
 congr 4
 apply congrArg (fun p => Bo p 56)
 funext c
 simp only [pr, List.any_map]
 rfl
noncomputable def rM (L : List Ia) (x : Vb) : Int := Dc (Wg x.2.1 x.2.2.1) 0 L
noncomputable def SK (b : Aa) (L : List Ia) (x : Vb) : List Aa :=
 cond (x.1 == 0) [Wy b ((jf L [Ng x]).map Qc), Wy b (L.map Qc)] [Wy b ((BB x L (rM L x)).map Qc)]
noncomputable def mG (b : Aa) (s : List Aa × List Ia) (x : Vb) : List Aa × List Ia := (jf s.1 (SK b s.2 x), BB x s.2 (rM s.2 x))
noncomputable def HF (b : Aa) (l : List Vb) : List Aa := (Tc (fun _ s x => mG b s x) 0 ([], []) l).1
theorem IL {α : Type} (p : α → Bool) : ∀ (xs : List α) (k : Nat) (y : α), Dc p k xs = -1 → p y = true → Dc p k (xs ++ [y]) = ((k + xs.length : Nat) : Int)
 | [], k, y, _, hy => by simp only [List.nil_append, Dc, hy, cond_true]; simp
 | x :: xs, k, y, h, hy => by
  simp only [Dc] at h
  simp only [List.cons_append, Dc]
  cases hx : p x with
  | true => rw [hx] at h; simp only [cond_true] at h; omega
  | false =>
   rw [hx] at h
   simp only [cond_false] at h ⊢
   rw [IL p xs (k + 1) y h hy, jw]
   omega
structure CQ (l : List Vb) (k : Nat) (s : List Aa × List Ia) : Prop where
 ok : ∃ L', Oc (fun _ L x => Ap L x) k s.2 (l.drop k) = .inl L'
 len : s.2.length ≤ k
 out : s.1.length ≤ 2 * k
 cod : ∀ h ∈ s.2, 0 ≤ h.2.1.2.1 ∧ h.2.1.2.1 ≤ 56
theorem DV {l : List Vb} {k : Nat} (hk : k < l.length) {b : Aa} {s : List Aa × List Ia} (hi : CQ l k s) : Yr l[k] (rM s.2 l[k]) = true ∧ CQ l (k + 1) (mG b s l[k]) := by
 obtain ⟨L', hL⟩ := hi.ok
 rw [List.drop_eq_getElem_cons hk] at hL
 simp only [Oc] at hL
 unfold rM
 cases hc : Yr l[k] (Dc (Wg l[k].2.1 l[k].2.2.1) 0 s.2) with
 | false =>
  have : Ap s.2 l[k] = .inr () := by unfold Ap; rw [hc]; rfl
  rw [this] at hL; simp at hL
 | true =>
  have hm : Ap s.2 l[k] = .inl (BB l[k] s.2 (rM s.2 l[k])) := by unfold Ap rM; rw [hc]; rfl
  rw [hm] at hL
  refine ⟨rfl, ⟨L', hL⟩, ?_, ?_, ?_⟩
  ·have := RQ hm
   have := hi.len
   show (BB l[k] s.2 (rM s.2 l[k])).length ≤ k + 1
   omega
  ·have := hi.out
   show (jf s.1 (SK b s.2 l[k])).length ≤ _
   unfold SK
   cases l[k].1 == 0 <;> simp <;> omega
  ·have hcode : 0 ≤ l[k].2.1 ∧ l[k].2.1 ≤ 56 := by
    simp only [Yr, jd] at hc
    exact Vz hc.1
   intro h hh
   have hh' : h ∈ BB l[k] s.2 (rM s.2 l[k]) := hh
   unfold BB at hh'
   cases h1 : l[k].1 == 1 with
   | true =>
    rw [h1] at hh'
    rcases jl.1 (show h ∈ s.2 ++ [Ng l[k]] from hh') with hh' | hh'
    ·exact hi.cod h hh'
    ·simp only [jp, List.not_mem_nil, or_false] at hh'
     rw [hh']; exact hcode
   | false =>
    rw [h1] at hh'
    cases h2 : l[k].1 == 2 with
    | true =>
     rw [h2] at hh'
     have hsub : h ∈ s.2 := by
      have hw : h ∈ Dg s.2 (rM s.2 l[k]).toNat := hh'
      unfold Dg Kb at hw
      rcases jl.1 (show h ∈ _ ++ _ from hw) with hw | hw
      ·exact List.mem_of_mem_take (qq hw)
      ·exact List.mem_of_mem_take (qq hw)
     exact hi.cod h hsub
    | false => rw [h2] at hh'; exact hi.cod h hh'
theorem TV {x : Vb} {r : Int} (h : Yr x r = true) : (x.1 = 0 ∧ r < 0) ∨ (x.1 = 1 ∧ r < 0) ∨ (x.1 = 2 ∧ r ≥ 0) := by
 simp only [Yr, jd, Bool.or_eq_true, beq_iff_eq, Bool.not_eq_true', decide_eq_false_iff_not, decide_eq_true_eq] at h
 omega
theorem Ga {n m : Nat} (h : n ≤ 1000) (hm : m ≤ 10) : jx (n + m) Ab = true := ji (by rw [Td]; omega)
theorem PW (L : List Ia) (h : Ia) : Dg (jf L [h]) L.length = L := by
 simp [Dg, Kb]
theorem ZG (a : List Ia) (l : List Vb) (hn : a.length ≤ Da) (ha : Md a = true) (hm : He l = true) : Wh a l = some (HF (Yb a) l, ()) := by
 have h20 : Da = 1048576 := rfl
 have hm' := hm
 simp only [He, jd, decide_eq_true_eq, OV] at hm'
 have h0 : CQ l 0 ([], []) := ⟨by
  rw [List.drop_zero]
  cases hf : Oc (fun _ L x => Ap L x) 0 [] l with
  | inl L => exact ⟨L, rfl⟩
  | inr u => rw [hf] at hm'; simp at hm', jo _, jo _, by simp⟩
 have hl := (Qd (step := fun x => Nj x.1.1 x.1.2.1 x.1.2.2.1 x.1.2.2.2.1 x.1.2.2.2.2.1) l (fun _ s x => mG (Yb a) s x) (fun s i => ((a, l, s.1, s.2, i, ()), ())) (fun s => .inl ((s.1, ()), ())) (CQ l) (by
  intro k hk s hi
  obtain ⟨hok, hi'⟩ := DV (b := Yb a) hk hi
  refine ⟨?_, hi'⟩
  have hlen := hi.len
  have hout := hi.out
  have hl8 := hm'.1
  simp only [Nj]
  rw [Ba (show (k : Int) < ((ja l : Nat) : Int) by omega), Qb hk]
  simp only [cond_true, jb, Bm]
  generalize hx : l[k] = x at *
  have e1 : jx (ja s.2 + ja ([((0 : Int), ((2 : Int), x.2.1, x.2.2.1, (0 : Int), ()), ())] : List Ia)) Ab = true := Ga (by omega) (by simp)
  have hR1 : Hg a (jf s.2 [Ng x]) = some (Wy (Yb a) ((jf s.2 [Ng x]).map Qc), ()) := Px a _ hn ha (by simp; omega)
  have hR0 : Hg a s.2 = some (Wy (Yb a) (s.2.map Qc), ()) := Px a _ hn ha (by omega)
  unfold mG SK BB
  rcases TV hok with ⟨h0, hr⟩ | ⟨h1, hr⟩ | ⟨h2, hr⟩
  ·rw [h0, e1]
   simp only [show ((0 : Int) != 2) = true from rfl, show ((0 : Int) != 1) = true from rfl, show ((0 : Int) == 0) = true from rfl, show ((0 : Int) == 1) = false from rfl, show ((0 : Int) == 2) = false from rfl, cond_true, cond_false]
   show jz (Hg a (jf s.2 [Ng x])) _ = _
   rw [hR1]
   simp only [jb]
   rw [show ∀ r : Aa, jx (ja s.1 + ja ([r] : List Aa)) Ab = true from fun r => Ga (by omega) (by simp)]
   simp only [cond_true]
   have hF : Pk (jf s.2 [Ng x]) x = some (((s.2.length : Nat) : Int), ()) := by
    rw [Qz _ _ (by simp; omega)]
    have hm1 : Dc (Wg x.2.1 x.2.2.1) 0 s.2 = -1 := by
     rcases Up (Wg x.2.1 x.2.2.1) s.2 0 with h | ⟨j, _, h⟩
     ·exact h
     ·unfold rM at hr; omega
    have := IL (Wg x.2.1 x.2.2.1) s.2 0 (Ng x) hm1 (by simp [Wg, Ng])
    rw [js] at this
    show some (Dc _ 0 (s.2 ++ [Ng x]), ()) = _
    rw [this]
   have hW : Ve (jf s.2 [Ng x]) ((s.2.length : Nat) : Int) = some (s.2, ()) := by
    rw [Dw _ (by simp) (by simp; omega), PW]
   show jz (Pk (jf s.2 [Ng x]) x) _ = _
   rw [hF]
   simp only [jb]
   show jz (Ve (jf s.2 [Ng x]) ((s.2.length : Nat) : Int)) _ = _
   rw [hW]
   simp only [jb]
   rw [hR0]
   simp only [jb]
   rw [show ∀ r r' : Aa, jx (ja (jf s.1 [r]) + ja ([r'] : List Aa)) Ab = true from fun r r' => Ga (by simp; omega) (by simp)]
   simp
  ·rw [h1, e1]
   simp only [show ((1 : Int) != 2) = true from rfl, show ((1 : Int) != 1) = false from rfl, show ((1 : Int) == 0) = false from rfl, show ((1 : Int) == 1) = true from rfl, cond_true, cond_false]
   show jz (Hg a (jf s.2 [Ng x])) _ = _
   rw [hR1]
   simp only [jb]
   rw [show ∀ r : Aa, jx (ja s.1 + ja ([r] : List Aa)) Ab = true from fun r => Ga (by omega) (by simp)]
   rfl
  ·rw [h2]
   simp only [show ((2 : Int) != 2) = false from rfl, show ((2 : Int) != 1) = true from rfl, show ((2 : Int) == 0) = false from rfl, show ((2 : Int) == 1) = false from rfl, show ((2 : Int) == 2) = true from rfl, cond_true, cond_false]
   rcases Up (Wg x.2.1 x.2.2.1) s.2 0 with h | ⟨j, hj, h⟩
   ·unfold rM at hr; omega
   ·rw [js] at h
    rw [Qz _ _ (by omega), h]
    simp only [jb]
    rw [Dw _ hj (by omega)]
    simp only [jb]
    rw [Px a _ hn ha (by rw [VL hj]; omega)]
    simp only [jb]
    rw [show ∀ r : Aa, jx (ja s.1 + ja ([r] : List Aa)) Ab = true from fun r => Ga (by omega) (by simp)]
    unfold rM
    rw [h, jn]
    rfl)
  (by
   intro s _
   simp only [Nj]
   rw [Ca (by omega)]; rfl) (by omega) ([], []) h0).1
 unfold Wh Il
 rw [Lv _ hn, ha, IE _ (by omega), hm]
 simp only [jb, jg, cond_false]
 erw [hl]
 rfl
theorem Baa (a : List Ia) : ∀ c ∈ (Yb a).2.1, 0 ≤ c ∧ c ≤ 56 := by
 intro c hc
 have := (Ey a 56 c).1 hc
 omega
theorem OG (a : List Ia) (l : List Vb) (hn : a.length ≤ Da) (ha : Md a = true) (hm : He l = true) : Vh a l = some (HF (Yb a) l, ()) := by
 have h20 : Da = 1048576 := rfl
 have hm' := hm
 simp only [He, jd, decide_eq_true_eq, OV] at hm'
 have h0 : CQ l 0 ([], []) := ⟨by
  rw [List.drop_zero]
  cases hf : Oc (fun _ L x => Ap L x) 0 [] l with
  | inl L => exact ⟨L, rfl⟩
  | inr u => rw [hf] at hm'; simp at hm', jo _, jo _, by simp⟩
 have hl := (Qd (step := fun x => Mj x.1.1 x.1.2.1 x.1.2.2.1 x.1.2.2.2.1 x.1.2.2.2.2.1 x.1.2.2.2.2.2.1 x.2.1) l (fun _ s x => mG (Yb a) s x) (fun s i => (((), s.1, s.2.map Qc, l, ((ja l : Nat) : Int), i, ()), (Yb a, ()))) (fun s => .inl ((s.1, ()), ())) (CQ l) (by
  intro k hk s hi
  obtain ⟨hok, hi'⟩ := DV (b := Yb a) hk hi
  refine ⟨?_, hi'⟩
  have hlen := hi.len
  have hout := hi.out
  have hl8 := hm'.1
  have hcode : 0 ≤ l[k].2.1 ∧ l[k].2.1 ≤ 56 := by
   simp only [Yr, jd] at hok
   exact Vz hok.1
  simp only [Mj]
  rw [Ba (show (k : Int) < ((ja l : Nat) : Int) by omega), Qb hk]
  simp only [cond_true, jb]
  generalize hx : l[k] = x at *
  have hW : ∀ L : List Ia, L.length ≤ 1000 → (∀ h ∈ L, 0 ≤ h.2.1.2.1 ∧ h.2.1.2.1 ≤ 56) → Ce (Yb a) (L.map Qc) = some (Wy (Yb a) (L.map Qc), ()) := fun L h1 h2 =>
   BL _ _ (Py a) (by simpa using h1) (Baa a) (fun p hp => by
    obtain ⟨h, hh, rfl⟩ := qs.1 hp
    exact h2 h hh)
  have hcs : ∀ h ∈ jf s.2 [Ng x], 0 ≤ h.2.1.2.1 ∧ h.2.1.2.1 ≤ 56 := by
   intro h hh
   rcases jl.1 (show h ∈ s.2 ++ [Ng x] from hh) with hh | hh
   ·exact hi.cod h hh
   ·simp only [jp, List.not_mem_nil, or_false] at hh
    rw [hh]; exact hcode
  have happ : jf (s.2.map Qc) ([(x.2.1, x.2.2.1, ())] : List Hb) = (jf s.2 [Ng x]).map Qc := by
   show _ ++ _ = List.map Qc (_ ++ _)
   rw [List.map_append]; rfl
  have happ2 : jf (jf ([] : List Hb) (s.2.map Qc)) ([(x.2.1, x.2.2.1, ())] : List Hb) = (jf s.2 [Ng x]).map Qc := happ
  have hR1 := hW (jf s.2 [Ng x]) (by simp; omega) hcs
  have hR0 := hW s.2 (by omega) hi.cod
  have b1 : jx (ja (s.2.map Qc) + ja ([(x.2.1, x.2.2.1, ())] : List Hb)) Ab = true := Ga (by simp; omega) (by simp)
  have b0 : jx (ja ([] : List Hb) + ja (s.2.map Qc)) Ab = true := ji (by simp [Td]; omega)
  unfold mG SK BB
  rcases TV hok with ⟨h0, hr⟩ | ⟨h1, hr⟩ | ⟨h2, hr⟩
  ·rw [h0, b0]
   simp only [show ((0 : Int) == 0) = true from rfl, show ((0 : Int) == 1) = false from rfl, show ((0 : Int) == 2) = false from rfl, cond_true, cond_false]
   show cond (jx (ja (s.2.map Qc) + ja ([(x.2.1, x.2.2.1, ())] : List Hb)) Ab) _ _ = _
   rw [b1, happ2]
   simp only [cond_true]
   show jz (Ce (Yb a) _) _ = _
   rw [hR1]
   simp only [jb]
   rw [show ∀ r : Aa, jx (ja s.1 + ja ([r] : List Aa)) Ab = true from fun r => Ga (by omega) (by simp)]
   simp only [cond_true]
   show jz (Ce (Yb a) _) _ = _
   rw [hR0]
   simp only [jb]
   rw [show ∀ r r' : Aa, jx (ja (jf s.1 [r]) + ja ([r'] : List Aa)) Ab = true from fun r r' => Ga (by simp; omega) (by simp)]
   simp
  ·rw [h1, b1, happ]
   simp only [show ((1 : Int) == 0) = false from rfl, show ((1 : Int) == 1) = true from rfl, cond_true, cond_false]
   show jz (Ce (Yb a) _) _ = _
   rw [hR1]
   simp only [jb]
   rw [show ∀ r : Aa, jx (ja s.1 + ja ([r] : List Aa)) Ab = true from fun r => Ga (by omega) (by simp)]
   rfl
  ·rw [h2]
   simp only [show ((2 : Int) == 0) = false from rfl, show ((2 : Int) == 1) = false from rfl, show ((2 : Int) == 2) = true from rfl, cond_true, cond_false]
   rcases Up (Wg x.2.1 x.2.2.1) s.2 0 with h | ⟨j, hj, h⟩
   ·unfold rM at hr; omega
   ·rw [js] at h
    rw [EF (s.2.map Qc) _ (by simp; omega), LP, h]
    simp only [jb]
    have hj' : j < (s.2.map Qc).length := by simpa using hj
    have hc := FI hj'
    have e1 : jx (ja (Kb (s.2.map Qc) (jy 0) (jy (j : Int))) + ja (Kb (s.2.map Qc) (jy ((j + 1 : Nat) : Int)) (jy ((ja (s.2.map Qc) : Nat) : Int)))) Ab = true :=
     ji (by simp [Kb]; rw [Td]; omega)
    have e2 : jf (Kb (s.2.map Qc) (jy 0) (jy (j : Int))) (Kb (s.2.map Qc) (jy ((j + 1 : Nat) : Int)) (jy ((ja (s.2.map Qc) : Nat) : Int))) = (Dg s.2 j).map Qc := by
     rw [← XL]
     simp [Dg]
    have hsub : ∀ h ∈ Dg s.2 j, 0 ≤ h.2.1.2.1 ∧ h.2.1.2.1 ≤ 56 := by
     intro h hw
     unfold Dg Kb at hw
     rcases jl.1 (show h ∈ _ ++ _ from hw) with hw | hw
     ·exact hi.cod h (List.mem_of_mem_take (qq hw))
     ·exact hi.cod h (List.mem_of_mem_take (qq hw))
    rw [Df (k := j) (by omega), hc.1, hc.2, e1, e2]
    simp only [cond_true]
    show jz (Ce (Yb a) _) _ = _
    rw [hW (Dg s.2 j) (by rw [VL hj]; omega) hsub]
    simp only [jb]
    rw [show ∀ r : Aa, jx (ja s.1 + ja ([r] : List Aa)) Ab = true from fun r => Ga (by omega) (by simp)]
    unfold rM
    rw [h, jn]
    rfl)
  (by
   intro s _
   simp only [Mj]
   rw [Ca (by omega)]; rfl) (by omega) ([], []) h0).1
 unfold Vh Al
 rw [Av _ hn, ha, RD _ (by omega), hm, Fq _ hn ha]
 simp only [jb, jg, cond_false]
 erw [hl]
 rfl
theorem FS (b : Aa) (D : List Hb) : (Wy b D).2.1.length ≤ 56 := by
 show (Bo (fun c => b.2.1.any (fun y => y == c) || D.any (fun p => p.1 == c)) 56).length ≤ 56
 exact VI _ 56
theorem PV (b : Aa) : ∀ (l : List Vb) (k : Nat) (s : List Aa × List Ia), (∀ x ∈ s.1, x.2.1.length ≤ 56) →
 (Tc (fun _ s x => mG b s x) k s l).1.length ≤ s.1.length + 2 * l.length ∧ ∀ x ∈ (Tc (fun _ s x => mG b s x) k s l).1, x.2.1.length ≤ 56
 | [], _, s, h => by simp only [Tc]; exact ⟨by omega, h⟩
 | x :: l, k, s, h => by
  have h1 : (mG b s x).1.length ≤ s.1.length + 2 ∧ ∀ y ∈ (mG b s x).1, y.2.1.length ≤ 56 := by
   unfold mG SK
   cases x.1 == 0 with
   | true =>
    refine ⟨by simp, fun y hy => ?_⟩
    rcases jl.1 (show y ∈ s.1 ++ _ from hy) with hy | hy
    ·exact h y hy
    ·simp only [cond_true, jp, List.not_mem_nil, or_false] at hy
     rcases hy with rfl | rfl <;> exact FS _ _
   | false =>
    refine ⟨by simp, fun y hy => ?_⟩
    rcases jl.1 (show y ∈ s.1 ++ _ from hy) with hy | hy
    ·exact h y hy
    ·simp only [cond_false, jp, List.not_mem_nil, or_false] at hy
     rw [hy]; exact FS _ _
  have := PV b l (k + 1) (mG b s x) h1.2
  simp only [Tc, jw]
  exact ⟨by omega, this.2⟩
def Uk (f : Int) (l : List Ia) : Int := Tc (fun _ s (h : Ia) => cond (h.2.1.1 == 3) (Fd .i64 s (De .i64 1 h.2.1.2.2.2.1)) s) 0 (Fd .i64 1 f) l
theorem BF {f : Int} (hf : 0 ≤ f ∧ f ≤ 15) (l : List Ia) (hn : l.length ≤ Da) (hv : Md l = true) : Gr f l = some (Uk f l, ()) := by
 have h20 : Da = 1048576 := rfl
 have hh := Vp hv
 have hl := (Qd (step := fun x => Xn x.1.1 x.1.2.1 x.1.2.2.1 x.1.2.2.2.1) l
  (fun _ s (h : Ia) => cond (h.2.1.1 == 3) (Fd .i64 s (De .i64 1 h.2.1.2.2.2.1)) s) (fun s i => ((s, l, ((ja l : Nat) : Int), i, ()), ()))
  (fun s => .inl ((s, ()), ())) (fun _ _ => True) (by
   intro k hk s _
   refine ⟨?_, trivial⟩
   simp only [Xn]
   rw [Ba (show (k : Int) < (ja l : Int) by omega), Qb hk]
   simp only [cond_true, jb]
   rw [Ba (Az (hh _ (qp hk)).act)]
   cases l[k].2.1.1 == 3 <;> rfl)
  (by
   intro s _
   simp only [Xn]
   rw [Ca (by omega)]; rfl) (by omega) (Fd .i64 1 f) trivial).1
 unfold Gr Ph
 rw [Ba (show f ≥ 0 by omega), Ba hf.2, Av _ hn, hv]
 simp only [cond_true, jb, jg, cond_false]
 erw [hl]
 rfl
theorem PF {f : Int} (hf : 0 ≤ f ∧ f ≤ 15) (l : List Ia) (hn : l.length ≤ Da) (hv : Md l = true) : Pr f l = some (Uk f l, ()) := by
 have h20 : Da = 1048576 := rfl
 have hh := Vp hv
 have hl := (Qd (step := fun x => Jo x.1.1 x.1.2.1 x.1.2.2.1) l
  (fun _ s (h : Ia) => cond (h.2.1.1 == 3) (Fd .i64 s (De .i64 1 h.2.1.2.2.2.1)) s) (fun s i => ((l, s, i, ()), ()))
  (fun s => .inl ((s, ()), ())) (fun _ _ => True) (by
   intro k hk s _
   refine ⟨?_, trivial⟩
   simp only [Jo]
   rw [Ba (show (k : Int) < ((ja l : Nat) : Int) by omega), Qb hk, Lv _ hn, hv]
   simp only [cond_true, jb]
   rw [Ba (Az (hh _ (qp hk)).act)]
   cases l[k].2.1.1 == 3 <;> rfl)
  (by
   intro s _
   simp only [Jo]
   rw [Ca (by omega)]; rfl) (by omega) (Fd .i64 1 f) trivial).1
 unfold Pr Mk
 rw [Cc, Ba hf]
 simp only [cond_true, jb]
 erw [hl]
 rfl
theorem MQ (a : Va) : BA a = some (Kz a, ()) := by
 unfold BA Kz
 rw [Vv]
 cases Je a <;> cases a.1 == 6 <;> rfl
theorem KP {a : Nat} (ha : a < 2 ^ 63) (x : Ia) : Hv (a : Int) x = true ↔ Yq x ∧ a.testBit x.1.toNat = false := by
 constructor
 ·intro h
  obtain ⟨h1, h2⟩ := T6 h
  refine ⟨h1, ?_⟩
  have hx : x.1 = ((x.1.toNat : Nat) : Int) := (Int.toNat_of_nonneg h1.lo).symm
  have := EM (a := a) (k := x.1.toNat) ha (by have := h1.hi; omega)
  rw [← hx] at this
  rw [← this]
  simp [h2]
 ·rintro ⟨h1, h2⟩
  have hx : x.1 = ((x.1.toNat : Nat) : Int) := (Int.toNat_of_nonneg h1.lo).symm
  have := EM (a := a) (k := x.1.toNat) ha (by have := h1.hi; omega)
  rw [← hx, h2] at this
  simp only [Hv, jd, decide_eq_true_eq, Bool.not_eq_true', beq_eq_false_iff_ne]
  exact ⟨⟨h1.lo, h1.hi⟩, by rw [beq_eq_false_iff_ne] at this; exact this, h1.act, h1.n1, h1.n6, h1.n7⟩
theorem LL : ∀ (l : List Ia) (k a : Nat), a < 2 ^ 63 → (Lw (Oc (fun _ s x => Qs s x) k (a : Int) l) = true ↔
 (∀ x ∈ l, Yq x ∧ a.testBit x.1.toNat = false) ∧ l.Pairwise (fun x y => x.1 ≠ y.1))
 | [], k, a, ha => by simp [Oc, Lw]
 | y :: l, k, a, ha => by
  simp only [Oc]
  cases hc : Hv (a : Int) y with
  | false =>
   rw [show Qs (a : Int) y = .inr () by unfold Qs; rw [hc]; rfl]
   simp only [Lw, jq, false_iff]
   rintro ⟨h, _⟩
   have := (KP ha y).2 (h y (qv ..))
   rw [hc] at this; cases this
  | true =>
   rw [show Qs (a : Int) y = .inl (Fd .i64 (a : Int) (De .i64 1 y.1)) by unfold Qs; rw [hc]; rfl]
   simp only []
   obtain ⟨hy, hb⟩ := (KP ha y).1 hc
   have h1 := hy.lo; have h2 := hy.hi
   have hyx : y.1 = ((y.1.toNat : Nat) : Int) := (Int.toNat_of_nonneg h1).symm
   have e : Fd .i64 (a : Int) (De .i64 1 y.1) = ((a ||| 2 ^ y.1.toNat : Nat) : Int) := by
    conv => lhs; rw [hyx]
    rw [NF (by omega), TX ha (WC (by omega))]
   rw [e, LL l (k + 1) _ (Nat.or_lt_two_pow ha (WC (by omega)))]
   have tb : ∀ n, (a ||| 2 ^ y.1.toNat).testBit n = false ↔ a.testBit n = false ∧ y.1.toNat ≠ n := by
    intro n
    rw [Nat.testBit_or, ql, Bool.or_eq_false_iff, decide_eq_false_iff_not]
   simp only [jp, List.pairwise_cons, forall_eq_or_imp]
   constructor
   ·rintro ⟨h, hp⟩
    refine ⟨⟨⟨hy, hb⟩, fun x hx => ⟨(h x hx).1, ((tb _).1 (h x hx).2).1⟩⟩, fun x hx hxy => ?_, hp⟩
    exact ((tb _).1 (h x hx).2).2 (by rw [hxy])
   ·rintro ⟨⟨_, h⟩, hq, hp⟩
    refine ⟨fun x hx => ⟨(h x hx).1, (tb _).2 ⟨(h x hx).2, fun hn => hq x hx ?_⟩⟩, hp⟩
    have := (h x hx).1.lo
    omega
theorem NG (l : List Ia) : Md l = true ↔ (∀ x ∈ l, Yq x) ∧ l.Pairwise (fun x y => x.1 ≠ y.1) := by
 have := LL l 0 0 (by decide)
 unfold Md TT
 erw [this]
 simp
theorem T4 {l : List Ia} (h : Md l = true) {x : Ia} (hx : Yq x) (hn : ∀ y ∈ l, y.1 ≠ x.1) : Md (jf l [x]) = true := by
 rw [NG] at h ⊢
 obtain ⟨h1, h2⟩ := h
 refine ⟨fun y hy => ?_, ?_⟩
 ·rcases jl.1 (show y ∈ l ++ [x] from hy) with hy | hy
  ·exact h1 y hy
  ·rw [qc.1 hy]; exact hx
 ·show (l ++ [x]).Pairwise _
  rw [List.pairwise_append]
  exact ⟨h2, List.pairwise_singleton _ _, fun y hy z hz => by rw [qc.1 hz]; exact hn y hy⟩
theorem VM {l r : List Ia} (h : Md l = true) (hs : r.Sublist l) : Md r = true := by
 rw [NG] at h ⊢
 exact ⟨fun y hy => h.1 y (hs.subset hy), h.2.sublist hs⟩
theorem SV : ∀ (n : Nat) (l : List Nat), l.Nodup → (∀ x ∈ l, x < n) → l.length ≤ n
 | 0, l, _, h => by
  cases l with
  | nil => exact jo _
  | cons x l => exact absurd (h x (qv ..)) (Nat.not_lt_zero _)
 | n + 1, l, hn, h => by
  have := SV n (l.erase n) (hn.erase n) (fun x hx => by
   have h1 := (hn.mem_erase_iff).1 hx
   have := h x h1.2
   have := h1.1
   omega)
  have h2 := List.length_erase (a := n) (l := l)
  split at h2 <;> omega
theorem Vl {l : List Ia} (h : Md l = true) : l.length ≤ 32 := by
 rw [NG] at h
 have hn : (l.map fun x => x.1.toNat).Nodup := by
  rw [List.Nodup, List.pairwise_map]
  refine (List.Pairwise.and_mem.1 h.2).imp ?_
  rintro x y ⟨hx, hy, hxy⟩ he
  have h1 := (h.1 x hx).lo; have h2 := (h.1 y hy).lo
  omega
 have hs : ∀ y ∈ (l.map fun x => x.1.toNat), y < 32 := by
  intro y hy
  obtain ⟨x, hx, rfl⟩ := qs.1 hy
  have := (h.1 x hx).hi; have := (h.1 x hx).lo
  omega
 have := SV 32 _ hn hs
 simpa using this
structure Tn (e : Ua) : Prop where
 km : Ac e.1 = true
 m4 : e.2.1.length ≤ 4
 hd : Md e.2.2.2.1 = true
 mac : ∀ x ∈ e.2.1, He x = true
 hin : ∀ x ∈ e.2.2.2.1, Qi e.1.1 e.1.2.1.length x = true
 st : AM e.1.2.1.length e.2.2.1 e.2.2.2.2.1
theorem DU {α : Type} {p : α → Bool} {l : List α} : Pd (fun _ x => p x) 0 l = true ↔ ∀ x ∈ l, p x = true := by
 rw [Rp]
 constructor
 ·intro h x hx
  obtain ⟨i, hi, rfl⟩ := qr hx
  exact h i hi
 ·intro h j hj
  exact h _ (qp hj)
theorem YB (e : Ua) : Uf e = true ↔ Tn e := by
 unfold Uf
 simp only [jd, decide_eq_true_eq, beq_iff_eq, DU]
 constructor
 ·rintro ⟨h1, h2, h3, h4, h5, h6, h7, h8⟩
  exact ⟨h1, h2, h3, h4, h5, ⟨h6.1, h6.2, h7, h8.1, h8.2⟩⟩
 ·rintro ⟨h1, h2, h3, h4, h5, h6⟩
  exact ⟨h1, h2, h3, h4, h5, ⟨h6.f0, h6.f1⟩, h6.f2, h6.o0, h6.o1⟩
theorem KG {e : Ua} (h : Tn e) : Wa Mb e ≤ Da - 5 := by
 have h20 : Da = 1048576 := rfl
 have h1 := (BJ h.km).z
 have hh := Vl h.hd
 have h2 : Wa (.sl (.sl Ec)) e.2.1 ≤ (8 + 1) * e.2.1.length := EH (e := .sl Ec) (c := 8) fun x hx => by
  have := h.mac x hx
  simp only [He, jd, decide_eq_true_eq] at this
  have e2 : Wa (.sl Ec) x = x.length := Wu (e := Ec) rfl x
  omega
 have := h.m4
 have hm := Wf h.km
 have h3 : Wa Bb e.1 ≤ 200 := by
  have h1 : Wa Bb e.1 = 0 + (Wa (.sl (.sl Nb)) e.1.2.1 + 0) := rfl
  have h2 : Wa (.sl (.sl Nb)) e.1.2.1 ≤ (32 + 1) * ja e.1.2.1 := EH (e := .sl Nb) (c := 32) fun x hx => by
   obtain ⟨i, hi, rfl⟩ := qr hx
   rw [YP]
   have := hm.row i hi
   have := hm.k2
   omega
  have := hm.l2
  omega
 rw [Yk, Vk]
 omega
noncomputable def HN (e : Ua) (k : Nat) (b : Bool) : Va :=
 cond b (Kz (Yi e.1.2.1 (Ah e.1 (Uk e.2.2.1 e.2.2.2.1) k) k)) (Hj (Yi e.1.2.1 (Ah e.1 (Uk e.2.2.1 e.2.2.2.1) k) k))
noncomputable def Rl (e : Ua) (k : Nat) (b : Bool) : Int × Int × Bool × Va := Zv e.2.2.1 e.2.2.2.2.1 e.2.2.2.2.2.1 (HN e k b)
noncomputable def pH (e : Ua) (k : Nat) (b : Bool) : List Ia := jf e.2.2.2.1 [((k : Int), (Rl e k b).2.2.2, ())]
noncomputable def pE (e : Ua) (k : Nat) (b : Bool) : Ua := (e.1, e.2.1, (Rl e k b).1, pH e k b, (Rl e k b).2.1, (Rl e k b).2.2.1, ())
noncomputable def pM (e : Ua) (k : Nat) (b : Bool) : List Aa :=
 cond ((Rl e k b).2.2.2.1 == 9) (cond (decide ((Rl e k b).2.2.2.2.2.2.1 < ((ja e.2.1 : Nat) : Int))) (HF (Yb (pH e k b)) (e.2.1.getD (Rl e k b).2.2.2.2.2.2.1.toNat [])) []) []
noncomputable def pR (e : Ua) (k : Nat) (b : Bool) : List Aa := Yp Li (Yb e.2.2.2.1) (jf (pM e k b) [Yb (pH e k b)])
theorem A9 {nl i : Nat} {a : Va} (h : Oi nl i a = true) (h1 : a.1 ≠ 1) : ZL nl (Kz a) := by
 have ha := EJ h
 have hP := ha
 rw [Ob] at hP
 unfold Pc at hP
 unfold Kz Je
 rw [ha]
 by_cases h67 : a.1 = 6 ∨ a.1 = 7
 ·have e : (true && ((a.1 == 6) || (a.1 == 7))) = true := by rcases h67 with h | h <;> rw [h] <;> rfl
  rw [e]
  have hn := RK h (by omega)
  rcases h67 with h6 | h7
  ·rw [h6]
   refine ⟨?_, by show (2 : Int) ≠ 1; decide, by show (2 : Int) ≠ 6; decide, by show (2 : Int) ≠ 7; decide, fun _ => ?_⟩
   ·rw [Ob]
    exact .inr (.inl ⟨rfl, rfl, .inl rfl, .inr (by show 1 ≤ a.2.2.1 ∧ a.2.2.1 ≤ 15; omega), .inr (by show a.2.2.1 ≠ 0; omega)⟩)
   ·show (0 : Int) < (nl : Int)
    omega
  ·rw [h7]
   refine ⟨?_, by show (3 : Int) ≠ 1; decide, by show (3 : Int) ≠ 6; decide, by show (3 : Int) ≠ 7; decide, fun _ => hn⟩
   rw [Ob]
   exact .inr (.inr (.inl ⟨.inl rfl, rfl, rfl, by show 1 ≤ a.2.2.2.1; omega, by show a.2.2.2.1 ≤ 3; omega⟩))
 ·have e : (true && ((a.1 == 6) || (a.1 == 7))) = false := by
   rw [jk, Bool.or_eq_false_iff, beq_eq_false_iff_ne, beq_eq_false_iff_ne]; omega
  rw [e]
  exact ⟨ha, h1, fun h => h67 (.inl h), fun h => h67 (.inr h), fun hk => RK h hk⟩
structure Q3 (e : Ua) (k : Nat) (b : Bool) : Prop where
 act : ZL e.1.2.1.length (HN e k b)
 ah : ZL e.1.2.1.length (Rl e k b).2.2.2
 hd : Md (pH e k b) = true
 ok : Tn (pE e k b)
 ml : (pM e k b).length ≤ 16
 mx : ∀ x ∈ pM e k b, x.2.1.length ≤ 56
theorem UQ {e : Ua} (h : Tn e) {k : Nat} (hk : (k : Int) < e.1.1) (hn : ∀ y ∈ e.2.2.2.1, y.1 ≠ (k : Int)) (b : Bool) : Q3 e k b := by
 have hm := Wf h.km
 have h1 := R6 hm (Uk e.2.2.1 e.2.2.2.1) hk
 have h2 : ZL e.1.2.1.length (HN e k b) := by
  cases b
  ·exact Uae h1.1 h1.2
  ·exact A9 h1.1 h1.2
 have h3 := Gaj (c := e.2.2.2.2.2.1) hm.l2 h.st h2
 have h4 : Md (pH e k b) = true := T4 h.hd (x := ((k : Int), (Rl e k b).2.2.2, ())) ⟨by show (0 : Int) ≤ (k : Int); omega, by have := hm.k2; show (k : Int) ≤ 31; omega, h3.2.act, h3.2.n1, h3.2.n6, h3.2.n7⟩ hn
 refine ⟨h2, h3.2, h4, ⟨h.km, h.m4, h4, h.mac, fun x hx => ?_, h3.1⟩, ?_, ?_⟩
 ·rcases jl.1 (show x ∈ e.2.2.2.1 ++ [((k : Int), (Rl e k b).2.2.2, ())] from hx) with hx | hx
  ·exact h.hin x hx
  ·simp only [jp, List.not_mem_nil, or_false] at hx
   subst hx
   simp only [Qi, jd, Bool.not_eq_true', Bool.and_eq_false_iff, decide_eq_false_iff_not]
   refine ⟨by show ¬ (k : Int) ≥ e.1.1; omega, ?_⟩
   by_cases h9 : (Rl e k b).2.2.2.1 = 9
   ·exact .inl (by show ((Rl e k b).2.2.2.1 != 9) = false; simp [h9])
   ·exact .inr (Int.not_le.2 (h3.2.n h9))
 all_goals
  unfold pM
  cases (Rl e k b).2.2.2.1 == 9 with
  | false => simp
  | true =>
   simp only [cond_true]
   by_cases hl : (Rl e k b).2.2.2.2.2.2.1 < ((ja e.2.1 : Nat) : Int)
   ·rw [Ba hl]
    have h0 := Az h3.2.act
    have hmem : (e.2.1.getD (Rl e k b).2.2.2.2.2.2.1.toNat []) ∈ e.2.1 := by
     have hlt : (Rl e k b).2.2.2.2.2.2.1.toNat < e.2.1.length := by
      have : (0 : Int) ≤ (Rl e k b).2.2.2.2.2.2.1 := h0
      omega
     rw [qh, je hlt, Option.getD_some]
     exact qp hlt
    have hmc := h.mac _ hmem
    simp only [He, jd, decide_eq_true_eq] at hmc
    have := PV (Yb (pH e k b)) (e.2.1.getD (Rl e k b).2.2.2.2.2.2.1.toNat []) 0 ([], []) (by simp)
    simp only [cond_true]
    unfold HF
    first
     | exact this.2
     | (have h5 := this.1; simp only [j7] at h5; omega)
   ·rw [Ca hl]; simp
theorem NP {β : Type} (MR : List Ia → List Vb → Option ((List Aa) × Unit)) (RO : List Ia → Option (Aa × Unit)) (CH : Aa → List Aa → Option ((List Aa) × Unit)) (K : List Aa → Option β)
 (hMR : ∀ a l, a.length ≤ Da → Md a = true → He l = true → MR a l = some (HF (Yb a) l, ()))
 (hRO : ∀ l, l.length ≤ Da → Md l = true → RO l = some (Yb l, ()))
 (hCH : ∀ (a : Aa) (l : List Aa), l.length ≤ Da → a.2.1.length ≤ Da → (∀ x ∈ l, x.2.1.length ≤ Da) → CH a l = some (Yp Li a l, ()))
 {e : Ua} (h : Tn e) {k : Nat} {b : Bool} (F : Q3 e k b) :
 (cond (jx (ja e.2.2.2.1 + ja ([((k : Int), (Rl e k b).2.2.2, ())] : List Ia)) Ab)
  (cond ((Rl e k b).2.2.2.1 == (9 : Int))
   (cond (decide ((Rl e k b).2.2.2.2.2.2.1 < ((ja e.2.1 : Nat) : Int)))
    (jz (Sb e.2.1 (Rl e k b).2.2.2.2.2.2.1) fun x8 => jz (MR (pH e k b) x8) fun r9 => jz (RO (pH e k b)) fun r10 =>
     cond (jx (ja r9.1 + ja ([r10.1] : List Aa)) Ab) (jz (RO e.2.2.2.1) fun r11 => jz (CH r11.1 (jf r9.1 ([r10.1] : List Aa))) fun r12 => K r12.1) none)
    (jz (RO (pH e k b)) fun r13 => cond (jx (ja ([] : List Aa) + ja ([r13.1] : List Aa)) Ab)
     (jz (RO e.2.2.2.1) fun r14 => jz (CH r14.1 (jf ([] : List Aa) ([r13.1] : List Aa))) fun r15 => K r15.1) none))
   (jz (RO (pH e k b)) fun r16 => cond (jx (ja ([] : List Aa) + ja ([r16.1] : List Aa)) Ab)
    (jz (RO e.2.2.2.1) fun r17 => jz (CH r17.1 (jf ([] : List Aa) ([r16.1] : List Aa))) fun r18 => K r18.1) none))
  none) = K (pR e k b) := by
 have h20 : Da = 1048576 := rfl
 have hlim := Td
 have hl1 := Vl h.hd
 have hl2 := Vl F.hd
 have R1 := hRO (pH e k b) (by omega) F.hd
 have R0 := hRO e.2.2.2.1 (by omega) h.hd
 have hr : ∀ r : Aa, jx (ja ([] : List Aa) + ja ([r] : List Aa)) Ab = true := fun r => ji (by simp only [jw, j7]; omega)
 rw [show jx (ja e.2.2.2.1 + ja ([((k : Int), (Rl e k b).2.2.2, ())] : List Ia)) Ab = true from ji (by simp only [jw, j7]; omega)]
 have plain : pM e k b = [] → (jz (RO (pH e k b)) fun r13 => cond (jx (ja ([] : List Aa) + ja ([r13.1] : List Aa)) Ab)
  (jz (RO e.2.2.2.1) fun r14 => jz (CH r14.1 (jf ([] : List Aa) ([r13.1] : List Aa))) fun r15 => K r15.1) none) = K (pR e k b) := by
  intro hm
  rw [R1, R0]
  simp only [jb]
  rw [hr, hCH _ _ (by simp; omega) (DE _) (fun x hx => by rw [qc.1 (show x ∈ [Yb (pH e k b)] from hx)]; exact DE _)]
  simp only [cond_true, jb]
  unfold pR
  rw [hm]
 simp only [cond_true]
 cases h9 : (Rl e k b).2.2.2.1 == (9 : Int) with
 | false => exact plain (by unfold pM; rw [h9]; rfl)
 | true =>
  simp only [cond_true]
  by_cases hl : (Rl e k b).2.2.2.2.2.2.1 < ((ja e.2.1 : Nat) : Int)
  ·rw [Ba hl]
   simp only [cond_true]
   have h0 : (0 : Int) ≤ (Rl e k b).2.2.2.2.2.2.1 := Az F.ah.act
   have hlt : (Rl e k b).2.2.2.2.2.2.1.toNat < e.2.1.length := by omega
   have hi : Sb e.2.1 (Rl e k b).2.2.2.2.2.2.1 = some e.2.1[(Rl e k b).2.2.2.2.2.2.1.toNat] := by
    have := Qb (xs := e.2.1) hlt
    rw [Int.toNat_of_nonneg h0] at this
    exact this
   have hM : pM e k b = HF (Yb (pH e k b)) e.2.1[(Rl e k b).2.2.2.2.2.2.1.toNat] := by
    unfold pM
    rw [h9, Ba hl, qh, je hlt, Option.getD_some]
    rfl
   have ml := F.ml
   have mx := F.mx
   rw [hi]
   simp only [jb]
   rw [hMR _ _ (by omega) F.hd (h.mac _ (qp hlt)), R1, R0, ← hM]
   simp only [jb]
   rw [show jx (ja (pM e k b) + ja ([Yb (pH e k b)] : List Aa)) Ab = true from ji (by simp only [jw, j7]; omega)]
   simp only [cond_true]
   rw [hCH _ _ (by show (pM e k b ++ [Yb (pH e k b)]).length ≤ _; simp; omega) (DE _) (fun x hx => by
    rcases jl.1 (show x ∈ pM e k b ++ [Yb (pH e k b)] from hx) with hx | hx
    ·have := mx x hx; omega
    ·rw [qc.1 hx]; exact DE _)]
   rfl
  ·rw [Ca hl]
   exact plain (by unfold pM; rw [h9, Ca hl]; rfl)
theorem PQ {e : Ua} (h : Tn e) {k : Nat} (hk : (k : Int) < e.1.1) (hn : ∀ y ∈ e.2.2.2.1, y.1 ≠ (k : Int)) (b : Bool) :
 Lg e (k : Int) b = some (pE e k b, pR e k b, ()) := by
 have h20 : Da = 1048576 := rfl
 have hm := Wf h.km
 have F := UQ h hk hn b
 have hz := KG h
 have hle := Vl h.hd
 have hl := YD hm (Uk e.2.2.1 e.2.2.2.1) k
 have hrow := hm.row _ hl
 have tail := NP Vh Xc Nd (fun r => some (pE e k b, r, ())) OG Fq PD h F
 unfold Lg
 rw [Jm _ (by omega), BF (E2 hm.l2 h.st) _ (by omega) h.hd]
 simp only [jb]
 rw [VD hm _ hk]
 simp only [jb]
 show jz (Sb e.1.2.1 ((Ah e.1 (Uk e.2.2.1 e.2.2.2.1) k : Nat) : Int)) _ = _
 rw [XU hl (by omega)]
 cases b with
 | true =>
  simp only [cond_true]
  rw [MQ]
  simp only [jb]
  show jz (Nn (e.1, e.2.1, e.2.2.1, e.2.2.2.1, e.2.2.2.2.1, e.2.2.2.2.2.1, ()) (HN e k true)) _ = _
  rw [FF _ _ _ _ _ _ _ F.act.act]
  simp only [jb]
  exact tail
 | false =>
  simp only [cond_false]
  rw [KH]
  simp only [jb]
  show jz (Nn (e.1, e.2.1, e.2.2.1, e.2.2.2.1, e.2.2.2.2.1, e.2.2.2.2.2.1, ()) (HN e k false)) _ = _
  rw [FF _ _ _ _ _ _ _ F.act.act]
  simp only [jb]
  exact tail
theorem SO {l : List Ia} {k : Int} : Dc (fun h : Ia => h.1 == k) 0 l = -1 ↔ ∀ y ∈ l, y.1 ≠ k := by
 have key : ∀ (l : List Ia) (n : Nat), Dc (fun h : Ia => h.1 == k) n l = -1 ↔ ∀ y ∈ l, y.1 ≠ k := by
  intro l
  induction l with
  | nil => intro n; simp [Dc]
  | cons x l ih =>
   intro n
   simp only [Dc]
   cases hx : x.1 == k with
   | true =>
    simp only [cond_true, jp, forall_eq_or_imp]
    have hx := eq_of_beq hx
    constructor
    ·intro h; omega
    ·intro h; exact absurd hx h.1
   | false =>
    simp only [cond_false, jp, forall_eq_or_imp]
    rw [ih]
    exact ⟨fun h => ⟨beq_eq_false_iff_ne.1 hx, h⟩, fun h => h.2⟩
 exact key l 0
theorem ER {e : Ua} (h : Tn e) {k : Nat} (hk : (k : Int) < e.1.1) (hn : ∀ y ∈ e.2.2.2.1, y.1 ≠ (k : Int)) (b : Bool) :
 Cj e (k : Int) b = some (pE e k b, pR e k b, true, ()) := by
 have h20 : Da = 1048576 := rfl
 have hm := Wf h.km
 have hk2 := hm.k2
 have F := UQ h hk hn b
 have hz := KG h
 have hle := Vl h.hd
 have hv := (YB e).2 h
 have tail := NP Wh Dd Kf (fun r => some (pE e k b, r, true, ())) ZG Tq GE h F
 unfold Cj
 rw [Pq _ (by omega), hv, OF _ _ (by omega), SO.2 hn, Np _ (by omega), PF (E2 hm.l2 h.st) _ (by omega) h.hd]
 simp only [jb, jg, cond_false, Cc]
 rw [Uh (by omega) (by omega), Ba (show 0 ≤ (k : Int) ∧ (k : Int) ≤ e.1.1 - 1 by omega), Ca (show ¬ ((-1 : Int) ≥ 0) by decide)]
 simp only [jg, cond_false]
 rw [CD (by have := (BJ h.km).z; omega) h.km _ hk]
 simp only [jb]
 cases b with
 | true =>
  simp only [cond_true]
  rw [ZQ]
  simp only [jb]
  show jz (Yj (e.1, e.2.1, e.2.2.1, e.2.2.2.1, e.2.2.2.2.1, e.2.2.2.2.2.1, ()) (HN e k true)) _ = _
  rw [RF _ _ _ _ _ _ _ F.act.act]
  simp only [jb]
  exact tail
 | false =>
  simp only [cond_false]
  rw [MH]
  simp only [jb]
  show jz (Yj (e.1, e.2.1, e.2.2.1, e.2.2.2.1, e.2.2.2.2.1, e.2.2.2.2.2.1, ()) (HN e k false)) _ = _
  rw [RF _ _ _ _ _ _ _ F.act.act]
  simp only [jb]
  exact tail
def wo (l : List Ia) (i : Nat) : List Ia := jf (l.take i) (l.drop (i + 1))
theorem BQ (l : List Ia) (i : Nat) : (wo l i).Sublist l := by
 have h : (l.drop (i + 1)).Sublist (l.drop i) := List.drop_sublist_drop_left l (Nat.le_succ i)
 have h2 := List.Sublist.append (List.Sublist.refl (l.take i)) h
 rw [List.take_append_drop] at h2
 exact h2
def rE (e : Ua) (i : Nat) : Ua := (e.1, e.2.1, e.2.2.1, wo e.2.2.2.1 i, e.2.2.2.2)
def rR (e : Ua) (i : Nat) : List Aa := Yp Li (Yb e.2.2.2.1) [Yb (wo e.2.2.2.1 i)]
theorem Vam {e : Ua} (h : Tn e) (i : Nat) : Tn (rE e i) :=
 ⟨h.km, h.m4, VM h.hd (BQ _ i), h.mac, fun x hx => h.hin x ((BQ _ i).subset hx), h.st⟩
theorem M4 {α : Type} (l : List α) (i : Nat) : Kb l (jy (0 : Int)) (jy (i : Int)) = l.take i := by
 simp [Kb]
theorem L4 {α : Type} (l : List α) (i : Nat) : Kb l (jy ((i + 1 : Nat) : Int)) (jy ((ja l : Nat) : Int)) = l.drop (i + 1) := by
 simp [Kb]
theorem DN {e : Ua} (h : Tn e) {k : Int} {i : Nat} (hi : i < e.2.2.2.1.length) (hf : Dc (fun h : Ia => h.1 == k) 0 e.2.2.2.1 = (i : Int)) :
 Iu e k = some (rE e i, rR e i, ()) := by
 have h20 : Da = 1048576 := rfl
 have hlim := Td
 have hz := KG h
 have hle := Vl h.hd
 have hw := VM h.hd (BQ e.2.2.2.1 i)
 have hwl := Vl hw
 unfold Iu
 rw [Jm _ (by omega), LQ _ _ (by omega), hf]
 simp only [jb]
 rw [Df (by omega)]
 rw [M4, L4]
 rw [show Jd (ja e.2.2.2.1) (0 : Int) ((i : Nat) : Int) = true from NA (lo := 0) (by omega) (by omega), NA (by omega) (by omega)]
 rw [show jx (ja (e.2.2.2.1.take i) + ja (e.2.2.2.1.drop (i + 1))) Ab = true from ji (by simp; omega)]
 simp only [cond_true]
 rw [Fq _ (by omega) h.hd]
 simp only [jb]
 show jz (Xc (wo e.2.2.2.1 i)) _ = _
 rw [Fq _ (by omega) hw]
 simp only [jb]
 rw [PD _ _ (by simp; omega) (DE _) (fun x hx => by rw [qc.1 hx]; exact DE _)]
 rfl
theorem UN {e : Ua} (h : Tn e) {k : Int} {i : Nat} (hi : i < e.2.2.2.1.length) (hf : Dc (fun h : Ia => h.1 == k) 0 e.2.2.2.1 = (i : Int)) :
 Pu e k = some (rE e i, rR e i, true, ()) := by
 have h20 : Da = 1048576 := rfl
 have hlim := Td
 have hz := KG h
 have hle := Vl h.hd
 have hw := VM h.hd (BQ e.2.2.2.1 i)
 have hwl := Vl hw
 have hv := (YB e).2 h
 have hW : Ve e.2.2.2.1 (i : Int) = some (wo e.2.2.2.1 i, ()) := by
  unfold Ve
  rw [Df (by omega), M4, L4]
  rw [show Jd (ja e.2.2.2.1) (0 : Int) ((i : Nat) : Int) = true from NA (lo := 0) (by omega) (by omega), NA (by omega) (by omega)]
  rw [show jx (ja ([] : List Ia) + ja (e.2.2.2.1.take i)) Ab = true from ji (by simp; omega)]
  rw [show jx (ja (jf ([] : List Ia) (e.2.2.2.1.take i)) + ja (e.2.2.2.1.drop (i + 1))) Ab = true from ji (by simp; omega)]
  rfl
 unfold Pu
 rw [OF _ _ (by omega), Pq _ (by omega), hv, Np _ (by omega), hf]
 simp only [jb, jg, cond_false]
 rw [Ca (show ¬ ((i : Int) < 0) by omega), hW]
 simp only [cond_false, jb]
 rw [Tq _ (by omega) h.hd]
 simp only [jb]
 rw [Tq _ (by omega) hw]
 simp only [jb]
 rw [GE _ _ (by simp; omega) (DE _) (fun x hx => by rw [qc.1 hx]; exact DE _)]
 rfl
def FL (md key e : Int) (s : Int) (x : Ma) : Int ⊕ (Int × Int) :=
 cond (Rh x) (cond (decide (x.1 ≥ e)) (.inr (2, e)) (cond (x.2.1 == key) (cond x.2.2.1 (.inl s) (.inr (1, x.1)))
  (cond x.2.2.1 (cond (md == 1) (.inr (2, x.1)) (.inl (Fd .i64 s (De .i64 1 x.2.1))))
   (cond (md == 2) (cond (Gn s x.2.1 == 1) (.inr (2, x.1)) (.inl s)) (.inl s))))) (.inr (0, 0))
def chR (md key e : Int) (l : List Ma) : Int ⊕ (Int × Int) := Oc (fun _ s x => FL md key e s x) 0 0 l
def Kj (t : Zy) (key at_ : Int) (l : List Ma) (til : Int) : Hb :=
 cond (Fj t && decide (0 ≤ at_ ∧ at_ ≤ 1000000)) (match chR t.2.2.1 key (j4 .i64 (at_ + t.1)) l with
  | .inl _ => cond (decide (til ≥ j4 .i64 (at_ + t.1))) (2, j4 .i64 (at_ + t.1), ()) (0, 0, ())
  | .inr r => (r.1, r.2, ())) (0, 0, ())
theorem YM (t : Zy) (key at_ : Int) (l : List Ma) (til : Int) (hn : l.length ≤ Da) : Cr t key at_ l til = some (Kj t key at_ l til) := by
 have h20 : Da = 1048576 := rfl
 have hl := Tf (step := fun x => Un x.1.1 x.1.2.1 x.1.2.2.1 x.1.2.2.2.1 x.1.2.2.2.2.1 x.1.2.2.2.2.2.1 x.1.2.2.2.2.2.2.1 x.1.2.2.2.2.2.2.2.1 x.2.1) l
  (fun _ s x => FL t.2.2.1 key (j4 .i64 (at_ + t.1)) s x) (fun s i => ((key, at_, til, (), s, l, ((ja l : Nat) : Int), i, ()), (t, ())))
  (fun s => .inl ((at_, til, (), ()), (t, ()))) (fun r => .inr ((r.1, r.2, ()), ())) (fun _ _ => True) (by
   intro k hk s _
   refine ⟨?_, fun _ _ => trivial⟩
   simp only [Un]
   rw [Ba (show (k : Int) < ((ja l : Nat) : Int) by omega), Qb hk]
   simp only [cond_true, jb]
   rw [QD]
   unfold FL
   cases he : Rh l[k] with
   | false => rfl
   | true =>
    have hk' := Sp he
    rw [Ba hk'.2.2.1, CA s hk'.2.2.1]
    simp only [cond_true, jb, jg, cond_false]
    cases decide (l[k].1 ≥ j4 .i64 (at_ + t.1)) <;> cases l[k].2.1 == key <;> cases l[k].2.2.1 <;> cases t.2.2.1 == 1 <;> cases t.2.2.1 == 2 <;> cases Gn s l[k].2.1 == 1 <;> rfl) (by
   intro s _
   simp only [Un]
   rw [Ca (by omega)]; rfl) (by omega) 0 trivial
 unfold Cr Zp Kj
 rw [HB]
 simp only [jb]
 cases Fj t with
 | false => rfl
 | true =>
  by_cases h1 : at_ < 0
  ·rw [Ba h1, Ca (show ¬ (0 ≤ at_ ∧ at_ ≤ 1000000) by omega)]; rfl
  ·by_cases h2 : at_ > 1000000
   ·rw [Ca h1, Ba h2, Ca (show ¬ (0 ≤ at_ ∧ at_ ≤ 1000000) by omega)]; rfl
   ·rw [Ca h1, Ca h2, Ba (show (0 ≤ at_ ∧ at_ ≤ 1000000) by omega)]
    simp only [jg, cond_false]
    erw [hl]
    unfold chR
    cases Oc (fun _ s x => FL t.2.2.1 key (j4 .i64 (at_ + t.1)) s x) 0 0 l with
    | inl s =>
     simp only [jb, qi]
     cases decide (til ≥ j4 .i64 (at_ + t.1)) <;> rfl
    | inr r => rfl
theorem QN (t : Zy) (key at_ : Int) (l : List Ma) (til : Int) (hn : l.length ≤ Da) : Dx t key at_ l til = some (Kj t key at_ l til) := by
 have h20 : Da = 1048576 := rfl
 have hl := Tf (step := fun x => Co x.1.1 x.1.2.1 x.1.2.2.1 x.1.2.2.2.1 x.1.2.2.2.2.1 x.1.2.2.2.2.2.1 x.1.2.2.2.2.2.2.1 x.2.1) l
  (fun _ s x => FL t.2.2.1 key (j4 .i64 (at_ + t.1)) s x) (fun s i => ((key, l, til, (), j4 .i64 (at_ + t.1), s, i, ()), (t, ())))
  (fun s => .inl ((til, j4 .i64 (at_ + t.1), ()), ())) (fun r => .inr ((r.1, r.2, ()), ())) (fun _ _ => True) (by
   intro k hk s _
   refine ⟨?_, fun _ _ => trivial⟩
   simp only [Co]
   rw [Ba (show (k : Int) < ((ja l : Nat) : Int) by omega), Qb hk]
   simp only [cond_true, jb]
   rw [HE]
   unfold FL
   cases he : Rh l[k] with
   | false => rfl
   | true =>
    have hk' := Sp he
    rw [Ba hk'.2.2.1]
    simp only [cond_true, jb, jg, cond_false]
    unfold Gn
    cases decide (l[k].1 ≥ j4 .i64 (at_ + t.1)) <;> cases l[k].2.1 == key <;> cases l[k].2.2.1 <;> cases t.2.2.1 == 1 <;> cases t.2.2.1 == 2 <;> cases Pf .i64 (Xv .i64 s l[k].2.1) 1 == 1 <;> rfl) (by
   intro s _
   simp only [Co]
   rw [Ca (by omega)]; rfl) (by omega) 0 trivial
 unfold Dx Nq Kj
 rw [LB, Cc]
 simp only [jb]
 cases Fj t with
 | false => rfl
 | true =>
  cases decide (0 ≤ at_ ∧ at_ ≤ 1000000) with
  | false => rfl
  | true =>
   simp only [jg, cond_false]
   erw [hl]
   unfold chR
   cases Oc (fun _ s x => FL t.2.2.1 key (j4 .i64 (at_ + t.1)) s x) 0 0 l with
   | inl s =>
    simp only [jb, qi]
    cases decide (til ≥ j4 .i64 (at_ + t.1)) <;> rfl
   | inr r => rfl
def Ix (l : List Ia) (j : Nat) : Bool := l.any (fun h => h.1 == (j : Int))
structure BC (l : List Ia) (m : Nat) : Prop where
 lt : m < 2 ^ 63
 bit : ∀ j, m.testBit j = Ix l j
theorem YY : ∀ (l : List Ia) (k : Nat) (s : Nat), s < 2 ^ 63 → (∀ x ∈ l, Yq x) →
 ∃ m : Nat, Tc (fun _ s (x : Ia) => Fd .i64 s (De .i64 1 x.1)) k (s : Int) l = (m : Int) ∧ m < 2 ^ 63 ∧ ∀ j, m.testBit j = (s.testBit j || Ix l j)
 | [], _, s, hs, _ => ⟨s, rfl, hs, fun j => by simp [Ix]⟩
 | x :: l, k, s, hs, h => by
  have hx := h x (by simp)
  obtain ⟨n, hn⟩ := jv hx.lo
  have := hx.hi
  simp only [Tc]
  rw [hn, NF (by omega), TX hs (WC (by omega))]
  obtain ⟨m, h1, h2, h3⟩ := YY l (k + 1) _ (Nat.or_lt_two_pow hs (WC (show n ≤ 62 by omega))) (fun y hy => h y (by simp [hy]))
  refine ⟨m, h1, h2, fun j => ?_⟩
  rw [h3, Nat.testBit_or, ql]
  simp only [Ix, List.any_cons, hn]
  rw [show (((n : Nat) : Int) == ((j : Nat) : Int)) = decide (n = j) by rw [qu]; simp [Int.ofNat_inj]]
  rw [Bool.or_assoc]
theorem Hae {l : List Ia} (h : Md l = true) : ∃ m : Nat, Dt l = (m : Int) ∧ BC l m := by
 obtain ⟨m, h1, h2, h3⟩ := YY l 0 0 (by decide) (Vp h)
 exact ⟨m, h1, h2, fun j => by rw [h3]; simp⟩
theorem Q2 {l : List Ia} {m k : Nat} (h : BC l m) (hk : k ≤ 62) (hb : Ix l k = false) (a : Va) : BC (jf l [((k : Int), a, ())]) (m ^^^ 2 ^ k) := by
 refine ⟨qo h.lt (WC hk), fun j => ?_⟩
 rw [Nat.testBit_xor, ql, h.bit]
 show _ = Ix (l ++ [((k : Int), a, ())]) j
 simp only [Ix, List.any_append, List.any_cons, List.any_nil, Bool.or_false]
 rw [show (((k : Nat) : Int) == ((j : Nat) : Int)) = decide (k = j) by rw [qu]; simp [Int.ofNat_inj]]
 by_cases hj : k = j
 ·subst hj
  simp only [Ix] at hb
  rw [hb, Ba rfl]; rfl
 ·rw [Ca hj]; simp
theorem Paj {l : List Ia} (hp : l.Pairwise (fun x y => x.1 ≠ y.1)) {i : Nat} (hi : i < l.length) (j : Int) : (wo l i).any (fun h => h.1 == j) = (l.any (fun h => h.1 == j) && !(l[i].1 == j)) := by
 rw [qu]
 simp only [List.any_eq_true, jd, Bool.not_eq_true', beq_iff_eq, beq_eq_false_iff_ne, wo]
 rw [List.pairwise_iff_getElem] at hp
 constructor
 ·rintro ⟨x, hx, hj⟩
  rcases jl.1 (show x ∈ l.take i ++ l.drop (i + 1) from hx) with hx | hx
  ·obtain ⟨n, hn, rfl⟩ := qr hx
   rw [List.getElem_take] at hj
   have hn2 : n < i ∧ n < l.length := by rw [List.length_take] at hn; omega
   exact ⟨⟨_, qp hn2.2, hj⟩, fun h => hp n i hn2.2 hi hn2.1 (hj.trans h.symm)⟩
  ·obtain ⟨n, hn, rfl⟩ := qr hx
   rw [List.getElem_drop] at hj
   have hn2 : i + 1 + n < l.length := by rw [qt] at hn; omega
   exact ⟨⟨_, qp hn2, hj⟩, fun h => hp i (i + 1 + n) hi hn2 (by omega) (h.trans hj.symm)⟩
 ·rintro ⟨⟨x, hx, hj⟩, hne⟩
  obtain ⟨n, hn, rfl⟩ := qr hx
  refine ⟨l[n], jl.2 ?_, hj⟩
  rcases Nat.lt_trichotomy n i with h | h | h
  ·exact .inl (List.mem_take_iff_getElem.2 ⟨n, by omega, rfl⟩)
  ·subst h; exact absurd hj hne
  ·exact .inr (List.mem_drop_iff_getElem.2 ⟨n - (i + 1), by omega, by congr 1; omega⟩)
theorem QV {l : List Ia} (hp : l.Pairwise (fun x y => x.1 ≠ y.1)) {m k i : Nat} (h : BC l m) (hk : k ≤ 62) (hi : i < l.length) (hb : l[i].1 = (k : Int)) : BC (wo l i) (m ^^^ 2 ^ k) := by
 refine ⟨qo h.lt (WC hk), fun j => ?_⟩
 rw [Nat.testBit_xor, ql, h.bit]
 simp only [Ix]
 rw [Paj hp hi, hb]
 rw [show (((k : Nat) : Int) == ((j : Nat) : Int)) = decide (k = j) by rw [qu]; simp [Int.ofNat_inj]]
 by_cases hj : k = j
 ·subst hj
  rw [Ba rfl]
  have : l.any (fun h => h.1 == (k : Int)) = true := List.any_eq_true.2 ⟨l[i], qp hi, by rw [hb]; simp⟩
  rw [this]; rfl
 ·rw [Ca hj]; simp
theorem KL {α S R : Type} (g : S → α → S ⊕ R) : ∀ (l : List α) (k j : Nat) (s : S), Oc (fun _ s x => g s x) k s l = Oc (fun _ s x => g s x) j s l
 | [], _, _, _ => rfl
 | x :: l, k, j, s => by
  simp only [Oc]
  cases g s x with
  | inl s' => exact KL g l (k + 1) (j + 1) s'
  | inr r => rfl
structure CC (d : Eb) : Prop where
 eng : Tn d.1
 len : d.2.2.1.length ≤ 64
 key : ∀ x ∈ d.2.2.1, x.2.1 < d.1.1.1
 fol : ∃ (m : Nat) (t : Int), BC d.1.2.2.2.1 m ∧ Lw (Oc (fun _ s x => Sv s x) 0 (t, (m : Int)) d.2.2.1) = true
def QR (e : Ua) (k : Int) : Nat := (Dc (fun h : Ia => h.1 == k) 0 e.2.2.2.1).toNat
noncomputable def Zj (d : Eb) (x : Ma) (r : List Ma) : Option (Eb × List Aa) :=
 cond (!x.2.2.1)
  (some ((rE d.1 (QR d.1 x.2.1), d.2.1, r, d.2.2.2.1, max d.2.2.2.2.1 x.1, d.2.2.2.2.2.1, cond (d.2.2.2.2.2.1 == j4 .i64 (x.2.1 + 1)) x.1 d.2.2.2.2.2.2.1, ()), rR d.1 (QR d.1 x.2.1)))
  (cond (Je (Yi d.1.1.2.1 (Ah d.1.1 (Uk d.1.2.2.1 d.1.2.2.2.1) x.2.1.toNat) x.2.1.toNat))
   (
    let ch : Int × Int := cond ((d.2.2.2.2.2.1 == j4 .i64 (x.2.1 + 1)) && !decide (j4 .i64 (x.1 - d.2.2.2.2.2.2.1) ≥ d.2.1.2.1)) (1, x.1) ((Kj d.2.1 x.2.1 x.1 r d.2.2.2.1).1, (Kj d.2.1 x.2.1 x.1 r d.2.2.2.1).2.1)
    cond (ch.1 == 0) none
     (some ((pE d.1 x.2.1.toNat (ch.1 == 2), d.2.1, r, d.2.2.2.1, max (max d.2.2.2.2.1 x.1) ch.2, cond (ch.1 == 2) 0 (j4 .i64 (x.2.1 + 1)), cond (ch.1 == 2) d.2.2.2.2.2.2.1 x.1, ()), pR d.1 x.2.1.toNat (ch.1 == 2))))
   (some ((pE d.1 x.2.1.toNat false, d.2.1, r, d.2.2.2.1, max d.2.2.2.2.1 x.1, d.2.2.2.2.2.1, d.2.2.2.2.2.2.1, ()), pR d.1 x.2.1.toNat false)))
structure Oac (d : Eb) (x : Ma) (r : List Ma) : Prop where
 ev : Rh x = true
 key : x.2.1 < d.1.1.1
 up : x.2.2.1 = false → ∃ hi : QR d.1 x.2.1 < d.1.2.2.2.1.length, Dc (fun h : Ia => h.1 == x.2.1) 0 d.1.2.2.2.1 = ((QR d.1 x.2.1 : Nat) : Int) ∧ (d.1.2.2.2.1[QR d.1 x.2.1]'hi).1 = x.2.1
 down : x.2.2.1 = true → ∀ y ∈ d.1.2.2.2.1, y.1 ≠ x.2.1
theorem PR {α : Type} (p : α → Bool) : ∀ (xs : List α) (k j : Nat), j < xs.length → Dc p k xs = ((k + j : Nat) : Int) → ∃ h : j < xs.length, p xs[j] = true
 | [], _, _, hj, _ => absurd hj (by simp)
 | x :: xs, k, j, hj, h => by
  simp only [Dc] at h
  cases hx : p x with
  | true =>
   rw [hx] at h
   simp only [cond_true] at h
   have : j = 0 := by omega
   subst this
   exact ⟨hj, hx⟩
  | false =>
   rw [hx] at h
   simp only [cond_false] at h
   cases j with
   | zero =>
    rcases Up p xs (k + 1) with h1 | ⟨i, _, h1⟩ <;> (rw [h1] at h; omega)
   | succ j =>
    have hj' : j < xs.length := by simp at hj; omega
    obtain ⟨_, h2⟩ := PR p xs (k + 1) j hj' (by rw [h]; omega)
    exact ⟨hj, h2⟩
theorem LG {d : Eb} {x : Ma} {r : List Ma} (h : CC d) (hq : d.2.2.1 = x :: r) : Oac d x r := by
 obtain ⟨m, t, hm, hf⟩ := h.fol
 rw [hq] at hf
 simp only [Oc, Sv] at hf
 cases ho : Hy (t, (m : Int)) x with
 | false => rw [ho] at hf; exact absurd hf (by simp [Lw])
 | true =>
  simp only [Hy, jd] at ho
  obtain ⟨h1, h2, h3⟩ := ho
  have hk := Sp h1
  obtain ⟨n, hn⟩ := jv hk.2.2.1
  have hn' : x.2.1 = (n : Int) := hn
  rw [hn', EM hm.lt (by omega), hm.bit] at h3
  refine ⟨h1, h.key x (by rw [hq]; simp), fun hu => ?_, fun hd => ?_⟩
  ·rw [hu] at h3
   have h4 : Ix d.1.2.2.2.1 n = true := by
    cases hh : Ix d.1.2.2.2.1 n with
    | true => rfl
    | false => rw [hh] at h3; exact absurd h3 (by decide)
   rcases Up (fun h : Ia => h.1 == x.2.1) d.1.2.2.2.1 0 with h5 | ⟨j, hj, h5⟩
   ·rw [SO] at h5
    simp only [Ix, List.any_eq_true, beq_iff_eq] at h4
    obtain ⟨y, hy, hyk⟩ := h4
    exact absurd (hyk.trans hn'.symm) (h5 y hy)
   ·have e : QR d.1 x.2.1 = j := by unfold QR; rw [h5]; omega
    obtain ⟨h6, h7⟩ := PR _ _ _ _ hj h5
    have h7' := eq_of_beq h7
    refine ⟨by omega, by rw [h5, e]; omega, ?_⟩
    simp only [e]
    exact h7'
  ·rw [hd] at h3
   intro y hy he
   have : Ix d.1.2.2.2.1 n = true := List.any_eq_true.2 ⟨y, hy, by rw [he, hn']; simp⟩
   rw [this] at h3
   exact absurd h3 (by decide)
theorem VQ {d d' : Eb} {x : Ma} {r : List Ma} {l : List Aa} (h : CC d) (hq : d.2.2.1 = x :: r) (hs : Zj d x r = some (d', l)) :
 CC d' ∧ d'.2.2.1 = r ∧ l.length ≤ 17 ∧ (∀ y ∈ l, y.2.1.length ≤ 56) := by
 have hF := LG h hq
 have hk := Sp hF.ev
 obtain ⟨n, hn⟩ := jv hk.2.2.1
 have hn' : x.2.1 = (n : Int) := hn
 obtain ⟨m, t, hm, hf⟩ := h.fol
 have hfol : Lw (Oc (fun _ s x => Sv s x) 0 (x.1, ((m ^^^ 2 ^ n : Nat) : Int)) r) = true := by
  rw [hq] at hf
  simp only [Oc, Sv] at hf
  cases ho : Hy (t, (m : Int)) x with
  | false => rw [ho] at hf; exact absurd hf (by simp [Lw])
  | true =>
   rw [ho] at hf
   simp only [cond_true, hn', NF (show n ≤ 62 by omega)] at hf
   rw [G9 hm.lt (WC (by omega))] at hf
   rw [KL Sv r 0 1]
   exact hf
 have hlen : r.length ≤ 64 := by have := h.len; rw [hq] at this; simp at this; omega
 have hkey : ∀ y ∈ r, y.2.1 < d.1.1.1 := fun y hy => h.key y (by rw [hq]; simp [hy])
 have hp := ((NG d.1.2.2.2.1).1 h.eng.hd).2
 have press : ∀ b : Bool, x.2.2.1 = true → Tn (pE d.1 n b) ∧ BC (pE d.1 n b).2.2.2.1 (m ^^^ 2 ^ n) ∧ (pR d.1 n b).length ≤ 17 ∧ (∀ y ∈ pR d.1 n b, y.2.1.length ≤ 56) := by
  intro b hd
  have hn2 := hF.down hd
  rw [hn'] at hn2
  have F := UQ h.eng (k := n) (by have := hF.key; omega) hn2 b
  refine ⟨F.ok, Q2 hm (by omega) ?_ _, ?_, fun y hy => ?_⟩
  ·cases hh : Ix d.1.2.2.2.1 n with
   | false => rfl
   | true =>
    simp only [Ix, List.any_eq_true, beq_iff_eq] at hh
    obtain ⟨y, hy, hyk⟩ := hh
    exact absurd hyk (hn2 y hy)
  ·have := HM (jf (pM d.1 n b) [Yb (pH d.1 n b)]) (Yb d.1.2.2.2.1)
   have h9 := F.ml
   unfold pR
   have : (jf (pM d.1 n b) [Yb (pH d.1 n b)]).length = (pM d.1 n b).length + 1 := by simp
   omega
  ·have := GG _ _ _ hy
   rcases jl.1 (show y ∈ pM d.1 n b ++ [Yb (pH d.1 n b)] from this) with h1 | h1
   ·exact F.mx y h1
   ·rw [qc.1 h1]; exact Py _
 unfold Zj at hs
 cases hd : x.2.2.1 with
 | false =>
  rw [hd] at hs
  simp only [j8, cond_true, jc, jh] at hs
  obtain ⟨rfl, rfl⟩ := hs
  obtain ⟨hi, hi1, hi2⟩ := hF.up hd
  refine ⟨⟨Vam h.eng _, hlen, hkey, _, _, QV hp hm (by omega) hi (by rw [hi2, hn']), hfol⟩, rfl, ?_, fun y hy => ?_⟩
  ·have := HM [Yb (wo d.1.2.2.2.1 (QR d.1 x.2.1))] (Yb d.1.2.2.2.1)
   unfold rR
   simp only [jw, j7] at this
   omega
  ·have := GG _ _ _ hy
   rw [qc.1 this]; exact Py _
 | true =>
  rw [hd] at hs
  simp only [jg, cond_false, hn', jn] at hs
  cases ht : Je (Yi d.1.1.2.1 (Ah d.1.1 (Uk d.1.2.2.1 d.1.2.2.2.1) n) n) with
  | false =>
   rw [ht] at hs
   simp only [cond_false, jc, jh] at hs
   obtain ⟨rfl, rfl⟩ := hs
   have P := press false hd
   exact ⟨⟨P.1, hlen, hkey, _, _, P.2.1, hfol⟩, rfl, P.2.2⟩
  | true =>
   rw [ht] at hs
   simp only [cond_true] at hs
   revert hs
   generalize (cond ((d.2.2.2.2.2.1 == j4 .i64 ((n : Int) + 1)) && !decide (j4 .i64 (x.1 - d.2.2.2.2.2.2.1) ≥ d.2.1.2.1)) ((1 : Int), x.1) ((Kj d.2.1 (n : Int) x.1 r d.2.2.2.1).1, (Kj d.2.1 (n : Int) x.1 r d.2.2.2.1).2.1)) = ch
   intro hs
   cases h0 : ch.1 == 0 with
   | true => rw [h0] at hs; simp at hs
   | false =>
    rw [h0] at hs
    simp only [cond_false, jc, jh] at hs
    obtain ⟨rfl, rfl⟩ := hs
    have P := press (ch.1 == 2) hd
    exact ⟨⟨P.1, hlen, hkey, _, _, P.2.1, hfol⟩, rfl, P.2.2⟩
theorem XM {m : Ka} (hz : Wa Bb m ≤ Da) (hv : Ac m = true) (on : Int) {k : Nat} (hk : (k : Int) < m.1) :
 Uw m on (k : Int) = some (Yi m.2.1 (Ah m on k) k, ()) := by
 have hm := Wf hv
 have hl := YD hm on k
 have hrow := hm.row _ hl
 unfold Uw PC
 rw [Kx _ hz, hv, Ca (show ¬ (k : Int) < 0 by omega), Ca (show ¬ (k : Int) ≥ m.1 by omega), VD hm _ hk]
 simp only [jb, jg, cond_false]
 rw [Ca (by omega)]
 simp only [cond_false]
 show (jz (Sb m.2.1 ((Ah m on k : Nat) : Int)) _) = _
 rw [XU hl (by omega)]
theorem MO (t : Zy) (key at_ : Int) (l : List Ma) (til : Int) : (Kj t key at_ l til).1 = 0 ∨ (Kj t key at_ l til).1 = 1 ∨ (Kj t key at_ l til).1 = 2 := by
 have key2 : ∀ (md k' e : Int) (l : List Ma) (k : Nat) (s : Int) (r : Int × Int), Oc (fun _ s x => FL md k' e s x) k s l = .inr r → r.1 = 0 ∨ r.1 = 1 ∨ r.1 = 2 := by
  intro md k' e l
  induction l with
  | nil => intro k s r h; simp [Oc] at h
  | cons x l ih =>
   intro k s r h
   simp only [Oc] at h
   revert h
   cases hg : FL md k' e s x with
   | inl s' => intro h; exact ih _ _ _ h
   | inr r' =>
    intro h
    simp only [Sum.inr.injEq] at h
    subst h
    unfold FL at hg
    revert hg
    cases Rh x <;> cases decide (x.1 ≥ e) <;> cases x.2.1 == k' <;> cases x.2.2.1 <;> cases md == 1 <;> cases md == 2 <;> cases Gn s x.2.1 == 1 <;> (intro hg; cases hg) <;> simp
 unfold Kj
 cases Fj t && decide (0 ≤ at_ ∧ at_ ≤ 1000000) with
 | false => exact .inl rfl
 | true =>
  simp only [cond_true]
  cases h : chR t.2.2.1 key (j4 .i64 (at_ + t.1)) l with
  | inl s => cases decide (til ≥ j4 .i64 (at_ + t.1)) <;> simp
  | inr r => exact key2 _ _ _ _ _ _ _ h
theorem KM {α : Type} (x : α) (r : List α) (hr : r.length ≤ 64) : Jd (ja (x :: r)) (1 : Int) ((ja (x :: r) : Nat) : Int) = true ∧ Kb (x :: r) (jy (1 : Int)) (jy ((ja (x :: r) : Nat) : Int)) = r := by
 refine ⟨NA (lo := 1) (by simp) (by simp), ?_⟩
 show List.drop 1 (List.take _ (x :: r)) = r
 rw [jn, List.take_length]; rfl
def Pae (d : Eb) : Option (Eb × List Aa) → Eb × ((List Aa) × (Bool × Unit))
 | none => (d, ([], false, ()))
 | some (d', l) => (d', (l, true, ()))
theorem AP {d : Eb} {x : Ma} {r : List Ma} (h : CC d) (hq : d.2.2.1 = x :: r) : Kg d = some (Pae d (Zj d x r)) := by
 have h20 : Da = 1048576 := rfl
 have hF := LG h hq
 have hk := Sp hF.ev
 have hlen : r.length ≤ 64 := by have := h.len; rw [hq] at this; simp at this; omega
 have hz := KG h.eng
 have hzm := (BJ h.eng.km).z
 have hle := Vl h.eng.hd
 obtain ⟨n, hn⟩ := jv hk.2.2.1
 have hn' : x.2.1 = (n : Int) := hn
 obtain ⟨e, t, q, now, clk, tp, ta, u⟩ := d
 obtain ⟨xt, xk, xd, xu⟩ := x
 cases u
 simp only at hq hn' hF hz hzm hle hk
 subst hq
 subst hn'
 have hc := KM ((xt, (n : Int), xd, xu) : Ma) r hlen
 have hb : jx (ja ([] : List Ma) + ja r) Ab = true := ji (by simp; rw [Td]; omega)
 have i0 : Ql (ja (((xt, (n : Int), xd, xu) : Ma) :: r)) (0 : Int) = true := by rw [show (0 : Int) = ((0 : Nat) : Int) from rfl, Tr]; exact Ba (by simp)
 have g0 : (((xt, (n : Int), xd, xu) : Ma) :: r)[(jy (0 : Int))]? = some (xt, (n : Int), xd, xu) := rfl
 unfold Kg
 simp only [i0, g0, hc.1, hc.2, hb, cond_true, jb]
 unfold Zj
 cases xd with
 | false =>
  obtain ⟨hi, hi1, hi2⟩ := hF.up rfl
  rw [DN h.eng hi hi1]
  simp only [j8, cond_true, jb]
  cases tp == j4 .i64 ((n : Int) + 1) <;> rfl
 | true =>
  have hd := hF.down rfl
  have hkey := hF.key
  have hp := fun b => PQ h.eng (k := n) hkey hd b
  simp only at hp hkey hd
  have hly := BF (E2 (Wf h.eng.km).l2 h.eng.st) _ (show e.2.2.2.1.length ≤ Da by omega) h.eng.hd
  simp only at hly
  rw [hly]
  have hch := YM t (n : Int) xt r now (by omega)
  have hac := XM (m := e.1) (by omega) h.eng.km (Uk e.2.2.1 e.2.2.2.1) hkey
  simp only [jb, jg, cond_false, jn, hac, Vv, hch, hp]
  cases Je (Yi e.1.2.1 (Ah e.1 (Uk e.2.2.1 e.2.2.2.1) n) n) with
  | false => rfl
  | true =>
   simp only [cond_true]
   have hv := MO t (n : Int) xt r now
   have hne : (tp != j4 .i64 ((n : Int) + 1)) = !(tp == j4 .i64 ((n : Int) + 1)) := rfl
   rw [hne]
   cases tp == j4 .i64 ((n : Int) + 1) with
   | false =>
    simp only [j8, cond_true, qm, cond_false]
    rcases hv with hv | hv | hv <;> (rw [hv]; rfl)
   | true =>
    simp only [jg, cond_false, jk]
    cases decide (j4 .i64 (xt - ta) ≥ t.2.1) with
    | true =>
     simp only [jg, cond_true, cond_false]
     rcases hv with hv | hv | hv <;> (rw [hv]; rfl)
    | false => rfl
theorem RJ {d : Eb} {x : Ma} {r : List Ma} (h : CC d) (hq : d.2.2.1 = x :: r) (hd : x.2.2.1 = true) :
 Lp d x (max d.2.2.2.2.1 x.1) = some (match Zj d x r with
  | none => (d, ([], max d.2.2.2.2.1 x.1, false, ()))
  | some (d', l) => ((d'.1, d.2.1, d.2.2.1, d.2.2.2.1, d.2.2.2.2.1, d'.2.2.2.2.2.1, d'.2.2.2.2.2.2.1, ()), (l, d'.2.2.2.2.1, true, ()))) := by
 have h20 : Da = 1048576 := rfl
 have hF := LG h hq
 have hk := Sp hF.ev
 have hlen : r.length ≤ 64 := by have := h.len; rw [hq] at this; simp at this; omega
 have hz := KG h.eng
 have hzm := (BJ h.eng.km).z
 have hle := Vl h.eng.hd
 obtain ⟨n, hn⟩ := jv hk.2.2.1
 have hn' : x.2.1 = (n : Int) := hn
 obtain ⟨e, t, q, now, clk, tp, ta, u⟩ := d
 obtain ⟨xt, xk, xd, xu⟩ := x
 cases u
 simp only at hq hn' hF hz hzm hle hk hd
 subst hq
 subst hn'
 subst hd
 have hc := KM ((xt, (n : Int), true, xu) : Ma) r hlen
 have hdn := hF.down rfl
 have hkey := hF.key
 have hp := fun b => ER h.eng (k := n) hkey hdn b
 simp only at hp hkey hdn
 have hly := PF (E2 (Wf h.eng.km).l2 h.eng.st) _ (show e.2.2.2.1.length ≤ Da by omega) h.eng.hd
 simp only at hly
 unfold Lp
 simp only [hc.1, hc.2]
 unfold Zj
 rw [hly]
 have hch := QN t (n : Int) xt r now (by omega)
 have hac := CD (m := e.1) (by omega) h.eng.km (Uk e.2.2.1 e.2.2.2.1) hkey
 simp only [jb, jg, cond_false, jn, hac, Io, hch, hp]
 cases Je (Yi e.1.2.1 (Ah e.1 (Uk e.2.2.1 e.2.2.2.1) n) n) with
 | false => rfl
 | true =>
  simp only [cond_true]
  have hv := MO t (n : Int) xt r now
  have hlt : decide (j4 .i64 (xt - ta) < t.2.1) = !decide (j4 .i64 (xt - ta) ≥ t.2.1) := by
   rw [qu]; simp only [decide_eq_true_eq, Bool.not_eq_true', decide_eq_false_iff_not]; omega
  rw [hlt]
  cases tp == j4 .i64 ((n : Int) + 1) with
  | false =>
   simp only [qm, cond_false]
   rcases hv with hv | hv | hv <;> (rw [hv]; rfl)
  | true =>
   simp only [cond_true, jk]
   cases decide (j4 .i64 (xt - ta) ≥ t.2.1) with
   | true =>
    simp only [jg, cond_true, cond_false]
    rcases hv with hv | hv | hv <;> (rw [hv]; rfl)
   | false => rfl
theorem PL {X R : Type} {step : X → Option (X ⊕ R)} {α S : Type} (xs : List α) (g : S → α → S) (I : S → Nat → X) (out : S → R) (Cg : Nat → S → Prop)
 (h : ∀ k (hk : k < xs.length) s, Cg k s → step (I s k) = some (.inl (I (g s xs[k]) (k + 1))) ∧ Cg (k + 1) (g s xs[k]))
 (he : ∀ s, Cg xs.length s → step (I s xs.length) = some (.inr (out s))) (s0 : S) (h0 : Cg 0 s0) :
 Za step (I s0 0) = some (out (xs.foldl g s0)) ∧ Cg xs.length (xs.foldl g s0) := by
 have key : ∀ (ys : List α) (k : Nat) (s : S), xs.drop k = ys → k ≤ xs.length → Cg k s → Za step (I s k) = some (out (ys.foldl g s)) ∧ Cg xs.length (ys.foldl g s) := by
  intro ys
  induction ys with
  | nil =>
   intro k s hd hle hi
   have := MM hd hle
   subst this
   rw [Hc (he s hi)]
   exact ⟨rfl, hi⟩
  | cons y ys ih =>
   intro k s hd hle hi
   obtain ⟨hk, hy, hd'⟩ := GI hd
   obtain ⟨h1, h2⟩ := h k hk s hi
   rw [Hc h1, hy]
   rw [hy] at h2
   exact ih (k + 1) _ hd' hk h2
 exact key xs 0 s0 rfl (Nat.zero_le _) h0
def Qm (s : List Ie) (w : Int) (l : List Aa) : List Ie := jf s (l.map fun r => ((w, r, ()) : Ie))
theorem MI (w : Int) : ∀ (l : List Aa) (s : List Ie), l.foldl (fun s r => jf s [((w, r, ()) : Ie)]) s = Qm s w l
 | [], s => by simp [Qm]
 | x :: l, s => by
  rw [List.foldl_cons, MI w l]
  simp [Qm]
theorem JJ (s : List Ie) (w : Int) (l : List Aa) : (Qm s w l).length = s.length + l.length := by simp [Qm]
theorem AV (s : List Ie) (w : Int) (l : List Aa) (hl : l.length ≤ 1000) (hs : s.length ≤ 1000000) : OA s w l = some (Qm s w l, ()) := by
 have h := (PL (step := fun x => Ww x.1.1 x.1.2.1 x.1.2.2.1 x.1.2.2.2.1 x.1.2.2.2.2.1) l (fun s r => jf s [((w, r, ()) : Ie)])
  (fun o k => ((o, w, (l, (k : Int)), ((ja l : Nat) : Int), (k : Int), ()), ())) (fun o => .inl ((o, ()), ())) (fun k o => o.length = s.length + k) (by
   intro k hk o ho
   refine ⟨?_, by simp [ho]; omega⟩
   simp only [Ww]
   rw [Ba (by omega), Tr, Ba hk, jn, je hk]
   simp only [cond_true, jb, Nat.beq_refl]
   rw [show jx (ja o + ja ([(w, l[k], ())] : List Ie)) Ab = true from ji (by simp only [jw, j7]; rw [Td]; omega)]
   rw [Df (by omega)]
   rfl) (by
   intro o ho
   simp only [Ww]
   rw [Ca (by omega)]; rfl) s rfl).1
 unfold OA Mx
 erw [h]
 rw [MI]
 rfl
theorem FD (s : List Ie) (w : Int) (l : List Aa) (d : Eb) (hl : l.length ≤ 1000) (hs : s.length ≤ 1000000) :
 Ug (((), s, w, (l, (0 : Int)), (0 : Int), ()), (d, ())) = some (.inl (((), Qm s w l, w, ()), (d, ()))) := by
 have h := (PL (step := fun x => Vq x.1.1 x.1.2.1 x.1.2.2.1 x.1.2.2.2.1 x.1.2.2.2.2.1 x.2.1) l (fun s r => jf s [((w, r, ()) : Ie)])
  (fun o k => (((), o, w, (l, (k : Int)), (k : Int), ()), (d, ()))) (fun o => .inl (((), o, w, ()), (d, ()))) (fun k o => o.length = s.length + k) (by
   intro k hk o ho
   refine ⟨?_, by simp [ho]; omega⟩
   simp only [Vq]
   rw [Ba (by omega), Tr, Ba hk, jn, je hk]
   simp only [cond_true, jb, Nat.beq_refl]
   rw [show jx (ja o + ja ([(w, l[k], ())] : List Ie)) Ab = true from ji (by simp only [jw, j7]; rw [Td]; omega)]
   rw [Df (by omega)]
   rfl) (by
   intro o ho
   simp only [Vq]
   rw [Ca (by omega)]; rfl) s rfl).1
 unfold Ug
 erw [h]
 rw [MI]
noncomputable def Ke : Nat → Eb → List Ie → Eb × List Ie
 | 0, d, s => (d, s)
 | n + 1, d, s => match d.2.2.1 with
  | [] => (d, s)
  | x :: r => match Zj d x r with
   | none => (d, s)
   | some (d', l) => Ke n d' (Qm s d'.2.2.2.2.1 l)
theorem ZV {d d' : Eb} {x : Ma} {r : List Ma} {l : List Aa} (hs : Zj d x r = some (d', l)) :
 d' = (d'.1, d.2.1, r, d.2.2.2.1, d'.2.2.2.2.1, d'.2.2.2.2.2.1, d'.2.2.2.2.2.2.1, ()) := by
 unfold Zj at hs
 revert hs
 generalize (cond ((d.2.2.2.2.2.1 == j4 .i64 (x.2.1 + 1)) && !decide (j4 .i64 (x.1 - d.2.2.2.2.2.2.1) ≥ d.2.1.2.1)) ((1 : Int), x.1) ((Kj d.2.1 x.2.1 x.1 r d.2.2.2.1).1, (Kj d.2.1 x.2.1 x.1 r d.2.2.2.1).2.1)) = ch
 generalize Je _ = b1
 cases x.2.2.1 <;> cases b1 <;> cases h0 : ch.1 == 0 <;>
  simp only [jg, j8, cond_true, cond_false, jc, jh, reduceCtorEq, false_implies, h0, and_imp] <;> (intro h1 _; subst h1; rfl)
theorem ML (z : Eb) : ∀ (n : Nat) (d : Eb) (s : List Ie), CC d → d.2.2.1.length ≤ n → s.length + 17 * n ≤ 100000 →
 Ye (((), (), s, ()), (z, d, ())) = some (.inl (((), (), (Ke n d s).2, ()), (z, (Ke n d s).1, ())))
 | n, d, s, h, hl, hs => by
  unfold Ye
  cases hq : d.2.2.1 with
  | nil =>
   have e1 : Ke n d s = (d, s) := by
    cases n with
    | zero => rfl
    | succ n => simp only [Ke, hq]
   have hstep : Yf () () s z d = some (.inr (.inl (((), (), s, ()), (z, d, ())))) := by
    unfold Yf
    rw [hq, Ca (by simp)]; rfl
   erw [Hc hstep]
   rw [e1]; rfl
  | cons x r =>
   have hlen : d.2.2.1.length = r.length + 1 := by rw [hq]; rfl
   cases n with
   | zero => omega
   | succ n =>
    have e1 : Ke (n + 1) d s = match Zj d x r with
     | none => (d, s)
     | some (d', l) => Ke n d' (Qm s d'.2.2.2.2.1 l) := by simp only [Ke, hq]
    rw [e1]
    have hp := AP h hq
    cases hst : Zj d x r with
    | none =>
     have hstep : Yf () () s z d = some (.inr (.inl (((), (), s, ()), (z, d, ())))) := by
      unfold Yf
      rw [Ba (by rw [hlen]; omega)]
      show (jz (Kg d) _) = _
      rw [hp, hst]; rfl
     erw [Hc hstep]; rfl
    | some p =>
     obtain ⟨d', l⟩ := p
     have hn := VQ h hq hst
     have hstep : Yf () () s z d = some (.inl (((), (), Qm s d'.2.2.2.2.1 l, ()), (z, d', ()))) := by
      unfold Yf
      rw [Ba (by rw [hlen]; omega)]
      show (jz (Kg d) _) = _
      rw [hp, hst]
      show jz (OA s d'.2.2.2.2.1 l) _ = _
      rw [AV _ _ _ (by have := hn.2.2.1; omega) (by omega)]
      rfl
     erw [Hc hstep]
     have ih := ML z n d' (Qm s d'.2.2.2.2.1 l) hn.1 (by rw [hn.2.1]; omega) (by rw [JJ]; have := hn.2.2.1; omega)
     unfold Ye at ih
     exact ih
theorem TL : ∀ (n : Nat) (d : Eb) (s : List Ie), CC d → d.2.2.1.length ≤ n → s.length + 17 * n ≤ 100000 →
 Dh (((), s, ()), (d, ())) = some (.inl (((), (Ke n d s).2, ()), ((Ke n d s).1, ()))) ∨ Dh (((), s, ()), (d, ())) = some (.inr (((), (Ke n d s).2, ()), ((Ke n d s).1, ())))
 | n, d, s, h, hl, hs => by
  unfold Dh
  cases hq : d.2.2.1 with
  | nil =>
   have e1 : Ke n d s = (d, s) := by
    cases n with
    | zero => rfl
    | succ n => simp only [Ke, hq]
   have hstep : Rg () s d = some (.inr (.inl (((), s, ()), (d, ())))) := by
    unfold Rg
    rw [hq, Ca (by simp)]; rfl
   refine .inl ?_
   erw [Hc hstep]
   rw [e1]; rfl
  | cons x r =>
   have hlen : d.2.2.1.length = r.length + 1 := by rw [hq]; rfl
   cases n with
   | zero => omega
   | succ n =>
    have e1 : Ke (n + 1) d s = match Zj d x r with
     | none => (d, s)
     | some (d', l) => Ke n d' (Qm s d'.2.2.2.2.1 l) := by simp only [Ke, hq]
    rw [e1]
    have h64 := h.len
    have hc := KM x r (by omega)
    have hb : jx (ja ([] : List Ma) + ja r) Ab = true := ji (by simp; rw [Td]; omega)
    have i0 : Ql (ja (x :: r)) (0 : Int) = true := by rw [show (0 : Int) = ((0 : Nat) : Int) from rfl, Tr]; exact Ba (by simp)
    have g0 : (x :: r)[(jy (0 : Int))]? = some x := rfl
    have pre : Rg () s d = Rg () s d := rfl
    conv at pre => rhs; unfold Rg
    rw [Ba (show ((ja d.2.2.1 : Nat) : Int) > 0 by rw [hlen]; omega), hq, i0, g0] at pre
    simp only [cond_true, jb] at pre
    have Hh : ∀ (s' : List Ie) (w : Int) (e' : Eb), e'.2.2.1 = x :: r → (jz (some (Sum.inl (((), s', w, ()), (e', ()))) : Option (((Unit × List Ie × Int × Unit) × Eb × Unit) ⊕ Unit)) (j6 (fun y43 => (cond (Jd (ja y43.2.1.2.2.1) (1 : Int) ((ja y43.2.1.2.2.1 : Nat) : Int))
     (cond (jx (ja ([] : List Ma) + ja (Kb y43.2.1.2.2.1 (jy (1 : Int)) (jy ((ja y43.2.1.2.2.1 : Nat) : Int)))) Ab)
     (some (.inl (((), y43.1.2.1, ()), ((((y43.2.1.1.1.1, y43.2.1.1.1.2.1, ()), y43.2.1.1.2), y43.2.1.2.1, (jf ([] : List Ma) (Kb y43.2.1.2.2.1 (jy (1 : Int)) (jy ((ja y43.2.1.2.2.1 : Nat) : Int)))), y43.2.1.2.2.2.1, y43.1.2.2.1, y43.2.1.2.2.2.2.2), ()))) : Option (((Unit × List Ie × Unit) × Eb × Unit) ⊕ (((Unit × List Ie × Unit) × Eb × Unit) ⊕ ((Unit × List Ie × Unit) × Eb × Unit))))
     none)
     none)) (fun z44 => none))) = some (.inl (((), s', ()), ((e'.1, e'.2.1, r, e'.2.2.2.1, w, e'.2.2.2.2.2), ()))) := by
     intro s' w e' he
     simp only [jb, qi, he, hc.1, hc.2, hb, cond_true]
     rfl
    cases hst : Zj d x r with
    | none =>
     have hd : x.2.2.1 = true := by
      cases hd : x.2.2.1 with
      | true => rfl
      | false =>
       unfold Zj at hst
       rw [hd] at hst
       simp at hst
     have hstep : Rg () s d = some (.inr (.inr (((), s, ()), (d, ())))) := by
      rw [pre, hd]
      show (jz (Lp d x (max d.2.2.2.2.1 x.1)) _) = _
      rw [RJ h hq hd, hst]; rfl
     refine .inr ?_
     erw [Hc hstep]; rfl
    | some p =>
     obtain ⟨d', l⟩ := p
     have hn := VQ h hq hst
     have hsh := ZV hst
     have hl' := hn.2.2.1
     have hstep : Rg () s d = some (.inl (((), Qm s d'.2.2.2.2.1 l, ()), (d', ()))) := by
      rw [pre]
      cases hd : x.2.2.1 with
      | true =>
       simp only [cond_true]
       show (jz (Lp d x (max d.2.2.2.2.1 x.1)) _) = _
       rw [RJ h hq hd, hst]
       simp only [jb, jg, cond_false]
       rw [FD _ _ _ _ (by omega) (by omega)]
       refine (Hh (Qm s d'.2.2.2.2.1 l) d'.2.2.2.2.1 (d'.1, d.2.1, d.2.2.1, d.2.2.2.1, d.2.2.2.2.1, d'.2.2.2.2.2.1, d'.2.2.2.2.2.2.1, ()) hq).trans ?_
       rw [hsh]
      | false =>
       simp only [cond_false]
       obtain ⟨hi, hi1, hi2⟩ := (LG h hq).up hd
       show (jz (Pu d.1 x.2.1) _) = _
       rw [UN h.eng hi hi1]
       unfold Zj at hst
       rw [hd] at hst
       simp only [j8, cond_true, jc, jh] at hst
       obtain ⟨rfl, rfl⟩ := hst
       simp only [jb]
       cases d.2.2.2.2.2.1 == j4 .i64 (x.2.1 + 1) with
       | true =>
        simp only [cond_true]
        rw [FD _ _ _ _ (by omega) (by omega)]
        exact Hh _ _ _ rfl
       | false =>
        simp only [cond_false]
        rw [FD _ _ _ _ (by omega) (by omega)]
        exact Hh _ _ _ hq
     have ih := TL n d' (Qm s d'.2.2.2.2.1 l) hn.1 (by rw [hn.2.1]; omega) (by rw [JJ]; omega)
     unfold Dh at ih
     erw [Hc hstep]
     exact ih
theorem BR (d : Eb) (h : CC d) : Xr d = some ((Ke d.2.2.1.length d []).1, ((Ke d.2.2.1.length d []).2, ())) := by
 have h64 := h.len
 unfold Xr
 rcases TL d.2.2.1.length d [] h (jo _) (by simp; omega) with h1 | h1 <;> (rw [h1]; rfl)
def XJ : Eb := ((((0 : Int), ([] : List (List Va)), ()), ([] : List (List Vb)), (0 : Int), ([] : List Ia), (0 : Int), false, ()), ((0 : Int), (0 : Int), (0 : Int), ()), ([] : List Ma), (0 : Int), (0 : Int), (0 : Int), (0 : Int), ())
def Gac (l : List Ma) : Int := (l.headD (0, 0, false, ())).1
def Dl (l : List Ma) (t : Int) : Bool := ((l.length : Int) == 0) || !decide (Gac l < t)
noncomputable def Ur (d : Eb) (l : List Ma) (til : Int) : Bool :=
 Zd d && (decide (d.2.2.2.1 ≤ til ∧ til ≤ 1000000) && (Dl l d.2.2.2.1 && (Yg l til && Wd (jf d.2.2.1 l) (Dt d.1.2.2.2.1) d.1.1.1)))
def Jn (d : Eb) (l : List Ma) (til : Int) : Eb := (d.1, d.2.1, jf d.2.2.1 l, til, d.2.2.2.2)
noncomputable def Zw (d : Eb) (l : List Ma) (til : Int) : Eb × ((List Ie) × (Bool × Unit)) :=
 cond (Ur d l til) ((Ke (Jn d l til).2.2.1.length (Jn d l til) []).1, (Ke (Jn d l til).2.2.1.length (Jn d l til) []).2, true, ()) (XJ, [], false, ())
theorem TM {q : List Ma} {d k : Int} (h : Wd q d k = true) : q.length ≤ 64 := by
 simp only [Wd, jd, Iz] at h
 by_cases h1 : q.length ≤ 64
 ·exact h1
 ·rw [Ca h1] at h; simp at h
theorem GQ {d : Eb} {l : List Ma} {til : Int} (hd : Zd d = true) (hf : Wd (jf d.2.2.1 l) (Dt d.1.2.2.2.1) d.1.1.1 = true) : CC (Jn d l til) := by
 have he : Tn d.1 := by
  rw [← YB]
  simp only [Zd, jd] at hd
  exact hd.1
 obtain ⟨m, hm, hm2⟩ := Hae he.hd
 refine ⟨he, TM hf, ?_, m, 0, hm2, ?_⟩
 ·have h1 := hf
  simp only [Wd, jd, EP] at h1
  have h2 := h1.1
  intro x hx
  have h3 := (DU (p := fun x : Ma => !decide (x.2.1 ≥ d.1.1.1))).1 h2 x hx
  simp only [Bool.not_eq_true', decide_eq_false_iff_not] at h3
  show x.2.1 < d.1.1.1
  omega
 ·have := Z8 hf
  rw [hm] at this
  exact this
theorem YU {l : List Ma} (h : 0 < l.length) : ∃ x, Sb l (0 : Int) = some x ∧ x.1 = Gac l := by
 cases l with
 | nil => simp at h
 | cons x l => exact ⟨x, rfl, rfl⟩
theorem QI (d : Eb) (l : List Ma) (til : Int) (hz : Wa Uc d ≤ Da) (hl : l.length ≤ 1000000) : Vs d l til = some (Zw d l til) := by
 have h20 : Da = 1048576 := rfl
 have hz' := hz
 rw [KC, Rx] at hz'
 have hz2 := hz'
 rw [Yk, Vk] at hz2
 have hlapp : (jf d.2.2.1 l).length = d.2.2.1.length + l.length := by simp
 have hlim : jx (ja d.2.2.1 + ja l) Ab = true := ji (by rw [Td]; omega)
 unfold Vs Zw
 rw [GB _ hz, IB _ _ (by omega), PH _ hz]
 cases hd : Zd d with
 | false => rw [show Ur d l til = false by unfold Ur; rw [hd]; rfl]; rfl
 | true =>
  have hh : ∀ x ∈ d.1.2.2.2.1, Yq x := by
   have : Uf d.1 = true := by simp only [Zd, jd] at hd; exact hd.1
   exact Vp (Yz this)
  have h64 : d.2.2.1.length ≤ 64 := by
   simp only [Zd, jd] at hd
   exact TM hd.2.2.2.2.1
  rw [QC _ (by omega) hh]
  simp only [jb, jg, cond_false, hlim, cond_true]
  rw [JB _ _ _ (by rw [hlapp]; omega)]
  simp only [jb]
  have key : ∀ (K : Option (Eb × ((List Ie) × (Bool × Unit)))), (Wd (jf d.2.2.1 l) (Dt d.1.2.2.2.1) d.1.1.1 = true → K = some ((Ke (Jn d l til).2.2.1.length (Jn d l til) []).1, (Ke (Jn d l til).2.2.1.length (Jn d l til) []).2, true, ())) →
   (cond (decide (til < d.2.2.2.1)) (some (XJ, [], false, ())) (cond (decide (til > 1000000)) (some (XJ, [], false, ())) (cond (!Dl l d.2.2.2.1) (some (XJ, [], false, ())) (cond (!Yg l til) (some (XJ, [], false, ())) (cond (!Wd (jf d.2.2.1 l) (Dt d.1.2.2.2.1) d.1.1.1) (some (XJ, [], false, ())) K))))) =
   some (cond (Ur d l til) ((Ke (Jn d l til).2.2.1.length (Jn d l til) []).1, (Ke (Jn d l til).2.2.1.length (Jn d l til) []).2, true, ()) (XJ, [], false, ())) := by
   intro K hK
   unfold Ur
   rw [hd]
   by_cases h1 : til < d.2.2.2.1
   ·rw [Ba h1, Ca (show ¬ (d.2.2.2.1 ≤ til ∧ til ≤ 1000000) by omega)]; rfl
   ·by_cases h2 : til > 1000000
    ·rw [Ca h1, Ba h2, Ca (show ¬ (d.2.2.2.1 ≤ til ∧ til ≤ 1000000) by omega)]; rfl
    ·rw [Ca h1, Ca h2, Ba (show (d.2.2.2.1 ≤ til ∧ til ≤ 1000000) by omega)]
     cases Dl l d.2.2.2.1 with
     | false => rfl
     | true =>
      cases Yg l til with
      | false => rfl
      | true =>
       cases hq : Wd (jf d.2.2.1 l) (Dt d.1.2.2.2.1) d.1.1.1 with
       | false => rfl
       | true => exact hK hq
  have hrun : Wd (jf d.2.2.1 l) (Dt d.1.2.2.2.1) d.1.1.1 = true → ∀ z : Eb, Ye (((), (), ([] : List Ie), ()), (z, (d.1, d.2.1, jf d.2.2.1 l, til, d.2.2.2.2), ())) = some (.inl (((), (), (Ke (Jn d l til).2.2.1.length (Jn d l til) []).2, ()), (z, (Ke (Jn d l til).2.2.1.length (Jn d l til) []).1, ()))) := by
   intro hq z
   have h1 := GQ (til := til) hd hq
   have := h1.len
   exact ML z _ (Jn d l til) [] h1 (jo _) (by simp; omega)
  by_cases h0 : l.length = 0
  ·have hna : Dl l d.2.2.2.1 = true := by unfold Dl; rw [h0]; rfl
   rw [Ca (show ¬ ((ja l : Nat) : Int) > 0 by omega)]
   simp only [cond_false]
   simp only [hna, jg, cond_false] at key
   exact key _ (fun hq => by rw [hrun hq]; rfl)
  ·obtain ⟨x, hx, hx1⟩ := YU (l := l) (by omega)
   have hna : Dl l d.2.2.2.1 = !decide (x.1 < d.2.2.2.1) := by
    unfold Dl
    rw [show ((l.length : Int) == 0) = false by simp; intro h; rw [h] at h0; simp at h0, hx1]; rfl
   rw [Ba (show ((ja l : Nat) : Int) > 0 by omega), hx]
   simp only [cond_true, jb]
   simp only [hna, Bool.not_not] at key
   exact key _ (fun hq => by rw [hrun hq]; rfl)
theorem OJ (d : Eb) (l : List Ma) (til : Int) (hz : Wa Uc d ≤ Da) (hl : l.length ≤ 1000000) : It d l til = some (Zw d l til) := by
 have h20 : Da = 1048576 := rfl
 have hz' := hz
 rw [KC, Rx] at hz'
 have hz2 := hz'
 rw [Yk, Vk] at hz2
 have hlapp : (jf d.2.2.1 l).length = d.2.2.1.length + l.length := by simp
 have hn : jf ([] : List Ma) d.2.2.1 = d.2.2.1 := rfl
 have hlim : jx (ja d.2.2.1 + ja l) Ab = true := ji (by rw [Td]; omega)
 have hlim2 : jx (ja ([] : List Ma) + ja d.2.2.1) Ab = true := ji (by rw [Td]; simp; omega)
 unfold It Zw
 rw [hn, hlim, hlim2, KB _ hz, Cc, Np _ (by omega)]
 simp only [cond_true]
 cases hd : Zd d with
 | false => rw [show Ur d l til = false by unfold Ur; rw [hd]; rfl]; rfl
 | true =>
  have hh : ∀ x ∈ d.1.2.2.2.1, Yq x := by
   have : Uf d.1 = true := by simp only [Zd, jd] at hd; exact hd.1
   exact Vp (Yz this)
  have h64 : d.2.2.1.length ≤ 64 := by
   simp only [Zd, jd] at hd
   exact TM hd.2.2.2.2.1
  rw [JE _ (by omega) hh]
  simp only [jb, jg, cond_false]
  rw [UA _ _ _ (by rw [hlapp]; omega)]
  simp only [jb]
  unfold Ur
  rw [hd]
  cases decide (d.2.2.2.1 ≤ til ∧ til ≤ 1000000) with
  | false => rfl
  | true =>
   cases hq : Wd (jf d.2.2.1 l) (Dt d.1.2.2.2.1) d.1.1.1 with
   | false => simp only [Bool.and_false]; rfl
   | true =>
    have hrun : Xr (d.1, d.2.1, jf d.2.2.1 l, til, d.2.2.2.2) = _ := BR (Jn d l til) (GQ hd hq)
    simp only [jg, cond_false, jk, Bool.and_true]
    rw [hrun]
    by_cases h0 : l.length = 0
    ·rw [Ca (show ¬ ((ja l : Nat) : Int) > 0 by omega)]
     rw [show Dl l d.2.2.2.1 = true by unfold Dl; rw [h0]; rfl, show Yg l til = true by unfold Yg; rw [h0]; rfl]
     rfl
    ·obtain ⟨x, hx, hx1⟩ := YU (l := l) (by omega)
     obtain ⟨y, hy, hy1⟩ := WM (l := l) (by omega) (by omega)
     rw [Ba (show ((ja l : Nat) : Int) > 0 by omega), hx, hy]
     simp only [cond_true, jb]
     have e0 : ((l.length : Int) == 0) = false := by simp; intro h; rw [h] at h0; simp at h0
     rw [show Dl l d.2.2.2.1 = !decide (x.1 < d.2.2.2.1) by unfold Dl; rw [e0, hx1]; rfl]
     rw [show Yg l til = !decide (y.1 > til) by
      unfold Yg; rw [e0, hy1]
      rw [Bool.false_or, qu]; simp only [decide_eq_true_eq, Bool.not_eq_true', decide_eq_false_iff_not]; omega]
     cases decide (x.1 < d.2.2.2.1) <;> cases decide (y.1 > til) <;> rfl
def rowN (C m r : Nat) : Nat := (m >>> (r * C)) &&& (2 ^ C - 1)
def Yao (C a b m : Nat) : Nat := cond (rowN C m a &&& rowN C m b != 0) (m ||| rowN C m b <<< (a * C)) m
def g3 (C a : Nat) : Nat → Nat → Nat := fun b m => Yao C a b m
def g2 (C R : Nat) : Nat → Nat → Nat := fun a m => QQ (g3 C a) R m
def g1 (C R : Nat) : Nat → Nat → Nat := fun _ m => QQ (g2 C R) R m
structure Dim (C R : Nat) : Prop where
 c1 : 1 ≤ C
 c2 : C ≤ 6
 r1 : 1 ≤ R
 r2 : R ≤ 4

structure Cur (c : Oag) : Prop where
 lo : 0 ≤ c.2.1
 hi : c.2.1 ≤ (c.1.length : Int)
 len : c.1.length ≤ Da



def K7 (p : List Int) : Bool := Pd (fun _ w => decide (0 ≤ w ∧ w ≤ 65535)) 0 p
def Kac (p : List Int) (e : Int) : Bool := ((p.length : Int) == 19) && decide (0 ≤ e ∧ e ≤ 1000) && K7 p
def EV (f : Fe) : Bool := match f.1, f.2.1 with
 | [p, q], [d, e] => Kac p d && Kac q e
 | _, _ => false
def hdB (h : Int) : Bool := decide (1 ≤ h ∧ h ≤ 60000)
def Sac (h0 h1 : Int) : Int := cond (hdB h1) (cond (hdB h0) (cond (decide (h1 > h0)) 1 0) 1) (cond (hdB h0) 0 (-1))
def No (f : Fe) : Int := cond (EV f) (match f.1 with
 | [h0 :: _, h1 :: _] => Sac h0 h1
 | _ => -1) (-1)
def PG (s v : Int) : Bool := decide (0 ≤ s ∧ s ≤ 3 ∧ 0 ≤ v ∧ v ≤ 9999)
def D4 (s v h : Int) : Int := cond (PG s v && hdB h) ((7 * s + 13 * v + 31 * h + 5).tmod 60000) 65535
def wd (w : List Int) (n : Nat) : Int := w.getD n 0
def Wai (s : Int) (w : List Int) (i : Nat) : Bool :=
 PG (wd w (1 + 3 * i)) (wd w (2 + 3 * i)) && (wd w (1 + 3 * i) == s) && (wd w (3 + 3 * i) == D4 (wd w (1 + 3 * i)) (wd w (2 + 3 * i)) (wd w 0))
def CW (s : Int) (w : List Int) : Nat → Option Int
 | 0 => none
 | n + 1 => cond (Wai s w n) (some (wd w (2 + 3 * n))) (CW s w n)
def XG (f : Fe) (s : Int) : Option Int := cond (decide (No f < 0)) none (CW s ((f.1.getD (No f).toNat [])) 6)
def Caj (o : Option Int) : Int × Bool := match o with
 | some v => (v, true)
 | none => (0, false)
structure Pac (f : Fe) : Prop where
 l1 : f.1.length = 2
 l2 : f.2.1.length = 2
 pg : ∀ i (h1 : i < f.1.length) (h2 : i < f.2.1.length), f.1[i].length = 19 ∧ 0 ≤ f.2.1[i] ∧ f.2.1[i] ≤ 1000 ∧ K7 f.1[i] = true
def zF : Fe := ([], [], ())
def KN (o : Pi) : Nat := o.2.1.toNat
def doB (f : Fe) (o : Pi) : Bool :=
 EV f && (decide (0 ≤ o.2.1 ∧ o.2.1 ≤ 1) && cond o.1 (decide (o.2.2.1 = 0 ∧ o.2.2.2.1 = 0 ∧ f.2.1.getD (KN o) 0 < 1000))
  (decide (0 ≤ o.2.2.1 ∧ o.2.2.1 ≤ 18 ∧ 0 ≤ o.2.2.2.1 ∧ o.2.2.2.1 ≤ 65534 ∧ (f.1.getD (KN o) []).getD o.2.2.1.toNat 0 = 65535)))
def doF (f : Fe) (o : Pi) : Fe :=
 cond o.1 (f.1.set (KN o) (List.replicate 19 65535), f.2.1.set (KN o) (f.2.1.getD (KN o) 0 + 1), ())
  (f.1.set (KN o) ((f.1.getD (KN o) []).set o.2.2.1.toNat o.2.2.2.1), f.2.1, ())

def XV (f : Fe) (ops : List Pi) : Fe ⊕ Unit := Oc (fun _ s o => cond (doB s o) (.inl (doF s o)) (.inr ())) 0 f ops
def Oat (r : Fe ⊕ Unit) : Fe × Bool × Unit := r.elim (fun g => (g, true, ())) (fun _ => (zF, false, ()))
def Faj (page : Int) (at' : Nat) (s v h : Int) : List Pi :=
 [(false, page, ((1 + 3 * at' : Nat) : Int), s, ()), (false, page, ((2 + 3 * at' : Nat) : Int), v, ()), (false, page, ((3 + 3 * at' : Nat) : Int), D4 s v h, ())]
def Vac (w : List Int) (n : Nat) : Bool := (wd w (3 * n + 1) == 65535) && ((wd w (3 * n + 2) == 65535) && (wd w (3 * n + 3) == 65535))
def UM (w : List Int) : Nat → Nat
 | 0 => 0
 | n + 1 => cond (Vac w n) (UM w n) (n + 1)
def Maw (f : Fe) (s v : Int) (k : Nat) : Option Int := cond ((k : Int) == s) (some v) (XG f (k : Int))
def Qat (f : Fe) (s v page h : Int) (k : Nat) (st : List Pi × Nat) : List Pi × Nat := match Maw f s v k with
 | some x => (jf st.1 (Faj page st.2 (k : Int) x h), st.2 + 1)
 | none => st
def Yag (page : Int) : Pi := (true, page, 0, 0, ())
def Iae (f : Fe) (s v page h : Int) : List Pi × Nat := QQ (Qat f s v page h) 4 ([Yag page], 0)
def Sam (page h : Int) : Pi := (false, page, 0, h, ())
def FZ (f : Fe) : List Int := f.1.getD (No f).toNat []
def HW (f : Fe) (s v : Int) : List Pi × Bool :=
 cond (decide (No f < 0)) ([], false) (cond (!PG s v) ([], false)
  (cond (decide (UM (FZ f) 6 < 6)) (Faj (No f) (UM (FZ f) 6) s v (wd (FZ f) 0), true)
   (cond (decide (wd (FZ f) 0 ≥ 60000)) ([], false) (cond (decide (f.2.1.getD (1 - No f).toNat 0 ≥ 1000)) ([], false)
    (jf (Iae f s v (1 - No f) (wd (FZ f) 0 + 1)).1 [Sam (1 - No f) (wd (FZ f) 0 + 1)], true)))))
def Pat (f : Fe) (P : Int) : List Int := f.1.getD P.toNat []
def Law (t : Vb) : Bool := decide (1 ≤ t.1 ∧ t.1 ≤ 1000 ∧ 0 ≤ t.2.1 ∧ t.2.1 ≤ 1000 ∧ 0 ≤ t.2.2.1 ∧ t.2.2.1 ≤ 2)
abbrev SSt : Type := List Pi × Fe
def Zao (k : Nat) (st : SSt) (x : Int) : SSt ⊕ Unit :=
 cond ((Caj (XG st.2 (k : Int))).2 && ((Caj (XG st.2 (k : Int))).1 == x)) (.inl st)
  (cond (HW st.2 (k : Int) x).2 (.inl (jf st.1 (HW st.2 (k : Int) x).1, (Oat (XV st.2 (HW st.2 (k : Int) x).1)).1)) (.inr ()))
def Naj (t : Vb) : List Int := [t.1, t.2.1, t.2.2.1]
def A3 (f : Fe) (t : Vb) : List Pi × Bool := cond (!Law t) ([], false) (cond (decide (No f < 0)) ([], false) ((Oc Zao 0 (([], f) : SSt) (Naj t)).elim (fun st => (st.1, true)) (fun _ => ([], false))))
def Kat (f : Fe) (P : Int) : Int := f.2.1.getD P.toNat 0
def Lat (f : Fe) (P : Int) : Int := wd (Pat f P) 0
def isP (P : Int) : Prop := P = 0 ∨ P = 1
structure ZN (f : Fe) (c : Int) : Prop where
 ok : Pac f
 pg : isP (No f)
 hd : Lat f (No f) ≤ c + 1
 er : ∀ P, isP P → Kat f P ≤ c
structure Zax (f g : Fe) (s v c : Int) (whole : Bool) : Prop where
 good : ZN g (c + 1)
 rd : ∀ σ : Int, 0 ≤ σ ∧ σ ≤ 3 → XG g σ = cond (whole && (σ == s)) (some v) (XG f σ)
def C1 (f : Fe) (t : Vb) (j : Nat) (g : Fe) : Prop := ∀ σ : Nat, σ ≤ 3 → XG g (σ : Int) = if σ < j then some ((Naj t).getD σ 0) else XG f (σ : Int)
structure Sax (f : Fe) (t : Vb) (c : Int) (k : Nat) (st : SSt) : Prop where
 run : XV f st.1 = .inl st.2
 good : ZN st.2 (c + k)
 prog : C1 f t k st.2
 cut : ∀ n, ∃ (x : Fe) (j : Nat), XV f (st.1.take n) = .inl x ∧ ZN x (c + k) ∧ j ≤ k ∧ C1 f t j x
structure Tax (f : Fe) (t : Vb) (c : Int) (g : Fe) : Prop where
 ok : (A3 f t).2 = true
 run : XV f (A3 f t).1 = .inl g
 good : ZN g (c + 3)
 prog : C1 f t 3 g
 cut : ∀ n, ∃ (x : Fe) (j : Nat), XV f ((A3 f t).1.take n) = .inl x ∧ ZN x (c + 3) ∧ j ≤ 3 ∧ C1 f t j x



theorem Jaw (n : Nat) : AM n 0 0 := ⟨by omega, by have := Nat.two_pow_pos n; omega, by decide, by omega, by omega⟩
theorem PX {m : Ka} (hm : Ac m = true) : Tn (Rv m 0 0 false []) :=
 (YB _).1 (C2 hm (Jaw _) false Tam (by simp))
theorem GS {m : Ka} (hm : Ac m = true) : Rk m [] = some (Rv m 0 0 false [], true, ()) := by
 have h20 : Da = 1048576 := rfl
 have hz := (BJ hm).z
 have he := PX hm
 have hz2 := KG he
 unfold Rk
 rw [Cu _ (by omega), Du [] (by show (0 : Nat) ≤ _; omega)]
 simp only [jb]
 have : Sj (m, ([] : List (List Vb)), (0 : Int), ([] : List Ia), (0 : Int), false, ()) = some (true, ()) := by
  rw [← (YB _).2 he]
  exact Jx (Rv m 0 0 false []) (by omega)
 rw [this]
 rfl
def JC (e : Ua) (t : Vb) : Eb := (e, t, ([] : List Ma), (0 : Int), (0 : Int), (0 : Int), (0 : Int), ())
structure Xax (d : MB) : Prop where
 k1 : 1 ≤ d.2.2.1
 k2 : d.2.2.1 ≤ 24
 len : ((ja d.2.2.2.2.2.1 : Nat) : Int) = d.2.2.1
 sh : ZB d.2.2.1 d.2.2.2.1 = true
 la : ZB d.2.2.1 d.2.2.2.2.1 = true
structure Wax (d : MB) (k : Nat) (s : Int × List Int) : Prop where
 len : s.2.length = k
 sh : ZB d.2.2.1 s.1 = true

abbrev Jat (c : Cm) : List Ma := c.2.2.2.2.2.2.1
structure Vax (c : Cm) : Prop where
 len : c.2.2.1.length ≤ 64
 ev : ∀ x ∈ c.2.2.1, 0 ≤ x.2.1
 L : c.1.length ≤ 8
 cb : NX c.1 = true
 r : ∀ x ∈ Jat c, x.2.1 ≤ 9223372036854775807

def tri (i j : Nat) : Nat := if i ≤ j then j * (j + 1) / 2 + i else i * (i + 1) / 2 + j
def FB (e i j : Nat) : Bool := e.testBit (tri i j)
def Uam (e s t : Nat) : Bool :=
 (s.testBit 0 && (t.testBit 0 && FB e 0 0 || t.testBit 1 && FB e 0 1 || (t.testBit 2 && FB e 0 2 || t.testBit 3 && FB e 0 3)) || s.testBit 1 && (t.testBit 0 && FB e 1 0 || t.testBit 1 && FB e 1 1 || (t.testBit 2 && FB e 1 2 || t.testBit 3 && FB e 1 3))) ||
 (s.testBit 2 && (t.testBit 0 && FB e 2 0 || t.testBit 1 && FB e 2 1 || (t.testBit 2 && FB e 2 2 || t.testBit 3 && FB e 2 3)) || s.testBit 3 && (t.testBit 0 && FB e 3 0 || t.testBit 1 && FB e 3 1 || (t.testBit 2 && FB e 3 2 || t.testBit 3 && FB e 3 3)))
def Xao (e a b s : Nat) : Nat := cond (Uam e (rowN 4 s a) (rowN 4 s b)) (s ||| rowN 4 s b <<< (a * 4)) s
def a3 (e a : Nat) : Nat → Nat → Nat := fun b s => Xao e a b s
def a2 (e R : Nat) : Nat → Nat → Nat := fun a s => QQ (a3 e a) R s
def a1 (e R : Nat) : Nat → Nat → Nat := fun _ s => QQ (a2 e R) R s
structure Uax (b : YT) (x : Int) : Prop where
 bd : E9 b = true
 msk : PK b.1 x = true
 old : PK b.1 b.2.2.2.2.1 = true
 dk : b.2.1.2.2.1 = XD b.1
 db : SI b.2.1 = true
 cb : NL b.2.2.1 = true
 dc : Zd b.2.2.2.1 = true
 t : 0 ≤ b.2.2.2.2.2.1 ∧ b.2.2.2.2.2.1 ≤ 1000000
theorem P4 {e : Ua} (h : Tn e) : Wa Mb e ≤ 1000 := by
 have hh := Vl h.hd
 have h2 : Wa (.sl (.sl Ec)) e.2.1 ≤ (16 + 1) * e.2.1.length := EH (e := .sl Ec) (c := 16) fun x hx => by
  have := h.mac x hx
  simp only [He, jd, decide_eq_true_eq] at this
  have e2 : Wa (.sl Ec) x = x.length := Wu (e := Ec) rfl x
  omega
 have := h.m4
 have hm := Wf h.km
 have h3 : Wa Bb e.1 ≤ 200 := by
  have h1 : Wa Bb e.1 = 0 + (Wa (.sl (.sl Nb)) e.1.2.1 + 0) := rfl
  have h2 : Wa (.sl (.sl Nb)) e.1.2.1 ≤ (32 + 1) * ja e.1.2.1 := EH (e := .sl Nb) (c := 32) fun x hx => by
   obtain ⟨i, hi, rfl⟩ := qr hx
   rw [YP]
   have := hm.row i hi
   have := hm.k2
   omega
  have := hm.l2
  omega
 rw [Yk, Vk]
 omega
theorem MP : ∀ (n : Nat) (d : Eb) (s : List Ie), CC d → (∀ y ∈ s, y.2.1.2.1.length ≤ 56) → CC (Ke n d s).1 ∧ (Ke n d s).2.length ≤ s.length + 17 * n ∧ (∀ y ∈ (Ke n d s).2, y.2.1.2.1.length ≤ 56)
 | 0, d, s, h, hs => ⟨h, by show s.length ≤ _; omega, hs⟩
 | n + 1, d, s, h, hs => by
  cases hq : d.2.2.1 with
  | nil =>
   have e : Ke (n + 1) d s = (d, s) := by simp only [Ke, hq]
   rw [e]; exact ⟨h, by show s.length ≤ _; omega, hs⟩
  | cons x r =>
   cases hst : Zj d x r with
   | none =>
    have e : Ke (n + 1) d s = (d, s) := by simp only [Ke, hq, hst]
    rw [e]; exact ⟨h, by show s.length ≤ _; omega, hs⟩
   | some p =>
    obtain ⟨d', l⟩ := p
    have e : Ke (n + 1) d s = Ke n d' (Qm s d'.2.2.2.2.1 l) := by simp only [Ke, hq, hst]
    have hn := VQ h hq hst
    have ih := MP n d' (Qm s d'.2.2.2.2.1 l) hn.1 (fun y hy => by
     rcases jl.1 (show y ∈ s ++ _ from hy) with hy | hy
     ·exact hs y hy
     ·obtain ⟨r', hr', rfl⟩ := qs.1 hy
      exact hn.2.2.2 r' hr')
    have e2 := JJ s d'.2.2.2.2.1 l
    have h17 := hn.2.2.1
    rw [e]
    exact ⟨ih.1, by omega, ih.2.2⟩
theorem Jaj (x : Ie) : Wa Ag x = x.2.1.2.1.length := by
 have h3 : Wa Ag x = Wa Db x.2.1 := by
  show 0 + (Wa Db x.2.1 + 0) = _
  omega
 rw [h3, MW]
theorem AW (d : Eb) (l : List Ma) (til : Int) : Wa Uc (Zw d l til).1 ≤ 2000 ∧ (Zw d l til).2.1.length ≤ 1088 ∧ (∀ y ∈ (Zw d l til).2.1, y.2.1.2.1.length ≤ 56) := by
 unfold Zw
 cases h : Ur d l til with
 | false => simp only [cond_false]; exact ⟨by decide, by simp, by simp⟩
 | true =>
  simp only [Ur, jd] at h
  have h1 := GQ (til := til) h.1 h.2.2.2.2
  have h2 := MP (Jn d l til).2.2.1.length (Jn d l til) [] h1 (by simp)
  have h64 := h1.len
  simp only [cond_true]
  refine ⟨?_, by have := h2.2.1; simp at this; omega, h2.2.2⟩
  rw [KC, Rx]
  have h3 := P4 h2.1.eng
  have := h2.1.len
  omega
theorem IZ {l : List Ie} {n : Nat} (h : l.length ≤ n) (hx : ∀ y ∈ l, y.2.1.2.1.length ≤ 56) : Wa (.sl Ag) l ≤ 57 * n := by
 have := EH (e := Ag) (c := 56) (w := l) fun y hy => by rw [Jaj]; exact hx y hy
 exact qa this (Nat.mul_le_mul_left _ h)
theorem MS {a : Aa} {l : List Aa} (ha : a.2.1.length ≤ Da) (hl : ∀ r ∈ l, r.2.1.length ≤ Da) (hn : l.length ≤ Da) : Cv a l = some (Naa a l, ()) := by
 have h20 : Da = 1048576 := rfl
 have h := (Qd (step := fun x : (Unit × List UInt8 × List Aa × Int × Int × Unit) × Aa × Unit => Hm x.1.1 x.1.2.1 x.1.2.2.1 x.1.2.2.2.1 x.1.2.2.2.2.1 x.2.1) l (fun _ s r => L3 s r)
  (fun s k => (((), s.2, l, (l.length : Int), k, ()), (s.1, ()))) (fun s => .inl ((s.2, ()), ())) P1 (fun k hk s hs => by
   have hm : l[k] ∈ l := qp hk
   refine ⟨?_, OW hs (hl _ hm)⟩
   have ht := hs.t
   simp only [Hm]
   rw [Ba (by omega), Qb hk]
   simp only [cond_true, jb]
   rw [YO _ _ hs.r (hl _ hm)]
   simp only [jb]
   rw [LS s.1 l[k] l (l.length : Int) (k : Int) (UC s.1 l[k]) (FN _ _) s.2 (by omega)]
   rfl) (fun s hs => by
   simp only [Hm]
   rw [Ca (by omega)]
   rfl) (by omega) (a, []) ⟨ha, by simp⟩).1
 unfold Cv So
 erw [h]
 rfl
theorem TS (a : Aa) (L : List Aa) (i : Nat) (hi : i < L.length) (l : List Int) (hl : l.length ≤ 56) (o : List UInt8) (ho : o.length ≤ 100000000) :
 Kp ((L, (), o, (i : Int), l, (0 : Int), ()), (a, ())) = some (.inl ((L, (), H7 L[i].1 o l, (i : Int), ()), (a, ()))) := by
 have h := (Qd (step := fun x : (List Aa × Unit × List UInt8 × Int × List Int × Int × Unit) × Aa × Unit => Xm x.1.1 x.1.2.1 x.1.2.2.1 x.1.2.2.2.1 x.1.2.2.2.2.1 x.1.2.2.2.2.2.1 x.2.1) l (fun _ o k => ZP L[i].1 o k)
  (fun o k => ((L, (), o, (i : Int), l, k, ()), (a, ()))) (fun o => .inl ((L, (), o, (i : Int), ()), (a, ()))) (fun k o' => o'.length ≤ o.length + k) (fun k hk o' ho' => by
   have hc := JI l[k] L[i].1
   refine ⟨?_, by simp only [ZP, List.append_eq, qd]; omega⟩
   simp only [Xm]
   rw [Ba (by omega), Tr, Ba hk]
   simp only [cond_true, jn]
   rw [je hk]
   simp only [jb]
   rw [Qb hi]
   simp only [jb]
   rw [Oz]
   simp only [jb]
   rw [Sh (by omega)]
   rfl) (fun o' ho' => by
   simp only [Xm]
   rw [Ca (by omega)]
   rfl) (by omega) o (by omega)).1
 exact h
theorem US {a : Aa} {l : List Aa} (ha : a.2.1.length ≤ Da) (hl : ∀ r ∈ l, r.2.1.length ≤ Da) (hn : l.length ≤ Da) : Ov a l = some (Naa a l, ()) := by
 have h20 : Da = 1048576 := rfl
 have h := (Qd (step := fun x : (List Aa × Unit × List UInt8 × Int × Unit) × Aa × Unit => Wm x.1.1 x.1.2.1 x.1.2.2.1 x.1.2.2.2.1 x.2.1) l (fun _ s r => L3 s r)
  (fun s k => ((l, (), s.2, k, ()), (s.1, ()))) (fun s => .inl ((s.2, ()), ())) P1 (fun k hk s hs => by
   have hm : l[k] ∈ l := qp hk
   refine ⟨?_, OW hs (hl _ hm)⟩
   have ht := hs.t
   simp only [Wm]
   rw [Ba (by omega), Qb hk]
   simp only [cond_true, jb]
   rw [RP _ _ hs.r (hl _ hm)]
   simp only [jb]
   rw [TS s.1 l k hk (UC s.1 l[k]) (FN _ _) s.2 (by omega)]
   simp only [jb, qi]
   rw [Qb hk]
   rfl) (fun s hs => by
   simp only [Wm]
   rw [Ca (by omega)]
   rfl) (by omega) (a, []) ⟨ha, by simp⟩).1
 unfold Ov Jp
 erw [h]
 rfl
theorem O4 {m : Ka} : Uf (Rv m 0 0 false []) = Ac m := by
 cases hm : Ac m with
 | true => exact (YB _).2 (PX hm)
 | false => unfold Uf; simp [Rv, hm]
def Paw : Ua := (((0 : Int), ([] : List (List Va)), ()), ([] : List (List Vb)), (0 : Int), ([] : List Ia), (0 : Int), false, ())
noncomputable def Ni (m : Ka) : Ua × (Bool × Unit) := cond (Ac m) (Rv m 0 0 false [], true, ()) (Paw, false, ())
theorem PI (m : Ka) (hz : Wa Bb m ≤ Da) : Rk m [] = some (Ni m) := by
 have h20 : Da = 1048576 := rfl
 unfold Ni
 cases hm : Ac m with
 | true => exact GS hm
 | false =>
  unfold Rk
  rw [Cu _ hz, Du [] (by show (0 : Nat) ≤ _; omega)]
  simp only [jb]
  have : Sj (m, ([] : List (List Vb)), (0 : Int), ([] : List Ia), (0 : Int), false, ()) = some (false, ()) := by
   have h := Jx (Rv m 0 0 false []) (by rw [KK]; simpa using hz)
   rw [O4, hm] at h
   exact h
  rw [this]
  rfl
theorem NJ (m : Ka) (hz : Wa Bb m ≤ Da) : Mv m [] = some (Ni m) := by
 have h20 : Da = 1048576 := rfl
 have hs : Wa Mb (Rv m 0 0 false []) ≤ Da := by rw [KK]; simpa using hz
 unfold Ni Mv
 have h1 : Ci (m, ([] : List (List Vb)), (0 : Int), ([] : List Ia), (0 : Int), false, ()) = some (Ac m, ()) := by
  have h := Pq (Rv m 0 0 false []) hs
  rw [O4] at h
  exact h
 rw [h1]
 cases hm : Ac m with
 | true =>
  simp only [jb, jg, cond_false, cond_true]
  have := Np (Rv m 0 0 false []) hs
  unfold Rv at this
  rw [this]
  rfl
 | false => rfl
noncomputable def Cl (e : Ua) (t : Vb) : Eb × (Bool × Unit) := cond (Zd (JC e t)) (JC e t, true, ()) (XJ, false, ())
theorem FQ (e : Ua) (t : Vb) : Wa Uc (JC e t) = Wa Mb e := by
 rw [KC]
 show Wa Mb e + Wa (.sl Kl) [] = _
 rw [Rx]; rfl
theorem OH (e : Ua) (t : Vb) (hz : Wa Mb e ≤ Da) : Us e t = some (Cl e t) := by
 unfold Us Cl
 rw [Jm _ hz]
 simp only [jb]
 have := GB (JC e t) (by rw [FQ]; exact hz)
 unfold JC at this
 rw [this]
 unfold JC
 cases Zd (e, t, ([] : List Ma), (0 : Int), (0 : Int), (0 : Int), (0 : Int), ()) <;> rfl
theorem TH (e : Ua) (t : Vb) (hz : Wa Mb e ≤ Da) : Ht e t = some (Cl e t) := by
 unfold Ht Cl
 have := KB (JC e t) (by rw [FQ]; exact hz)
 unfold JC at this
 rw [this]
 simp only [jb]
 unfold JC
 cases Zd (e, t, ([] : List Ma), (0 : Int), (0 : Int), (0 : Int), (0 : Int), ()) with
 | false => rfl
 | true =>
  simp only [jg, cond_false, cond_true]
  rw [Np _ hz]
  rfl
noncomputable def WK (m : Ka) (t : Vb) (s : List UInt8) : List UInt8 × (Bool × Unit) :=
 cond ((Hx m s).2.1 && (Ni m).2.1 && (Cl (Ni m).1 t).2.1 && (Zw (Cl (Ni m).1 t).1 (Hx m s).1 ((ja s : Nat) : Int)).2.2.1)
  (Naa ((0 : Int), ([] : List Int), ()) ((Zw (Cl (Ni m).1 t).1 (Hx m s).1 ((ja s : Nat) : Int)).2.1.map fun x => x.2.1), true, ()) ([], false, ())
theorem WR {m : Ka} (hz : Wa Bb m ≤ Da) : Wa Mb (Ni m).1 ≤ Da := by
 unfold Ni
 cases Ac m with
 | true => show Wa Mb (Rv m 0 0 false []) ≤ _; rw [KK]; simpa using hz
 | false => show (0 : Nat) ≤ _; omega
theorem VR {e : Ua} {t : Vb} (hz : Wa Mb e ≤ Da) : Wa Uc (Cl e t).1 ≤ Da := by
 unfold Cl
 cases Zd (JC e t) with
 | true => show Wa Uc (JC e t) ≤ _; rw [FQ]; exact hz
 | false => show (0 : Nat) ≤ _; omega
theorem AN (m : Ka) (t : Vb) (s : List UInt8) (hz : Wa Bb m ≤ Da) : Hr m t s = some (WK m t s) := by
 have h20 : Da = 1048576 := rfl
 have he := WR hz
 have hd := VR (t := t) he
 have hl := IU m s
 obtain ⟨_, hp1, hp2⟩ := AW (Cl (Ni m).1 t).1 (Hx m s).1 ((ja s : Nat) : Int)
 unfold Hr WK
 rw [YK m s hz, PI m hz]
 simp only [jb]
 cases (Hx m s).2.1 with
 | false => rfl
 | true =>
  cases (Ni m).2.1 with
  | false => rfl
  | true =>
   simp only [jg, cond_false, qn, jk]
   rw [OH _ _ he]
   simp only [jb]
   cases (Cl (Ni m).1 t).2.1 with
   | false => rfl
   | true =>
    simp only [jg, cond_false, qn, jk]
    rw [QI _ _ _ hd (by omega)]
    simp only [jb]
    cases (Zw (Cl (Ni m).1 t).1 (Hx m s).1 ((ja s : Nat) : Int)).2.2.1 with
    | false => rfl
    | true =>
     simp only [jg, cond_false, cond_true]
     rw [ZK _ (qa (IZ hp1 hp2) (by omega))]
     simp only [jb]
     rw [MS (by simp) (fun r hr => by
      obtain ⟨x, hx, rfl⟩ := qs.1 hr
      have := hp2 x hx
      omega) (by rw [List.length_map]; omega)]
     rfl
theorem TN (m : Ka) (t : Vb) (s : List UInt8) (hz : Wa Bb m ≤ Da) : Qr m t s = some (WK m t s) := by
 have h20 : Da = 1048576 := rfl
 have he := WR hz
 have hd := VR (t := t) he
 have hl := IU m s
 obtain ⟨_, hp1, hp2⟩ := AW (Cl (Ni m).1 t).1 (Hx m s).1 ((ja s : Nat) : Int)
 unfold Qr WK
 rw [CL m s hz, NJ m hz]
 simp only [jb]
 rw [TH _ _ he]
 simp only [jb]
 rw [OJ _ _ _ hd (by omega)]
 simp only [jb]
 cases (Hx m s).2.1 with
 | false => rfl
 | true =>
  cases (Ni m).2.1 with
  | false => rfl
  | true =>
   cases (Cl (Ni m).1 t).2.1 with
   | false => rfl
   | true =>
    cases (Zw (Cl (Ni m).1 t).1 (Hx m s).1 ((ja s : Nat) : Int)).2.2.1 with
    | false => rfl
    | true =>
     simp only [jg, cond_false, cond_true, qn]
     rw [DL _ (qa (IZ hp1 hp2) (by omega))]
     simp only [jb]
     rw [US (by simp) (fun r hr => by
      obtain ⟨x, hx, rfl⟩ := qs.1 hr
      have := hp2 x hx
      omega) (by rw [List.length_map]; omega)]
     rfl
theorem HS (m : Ka) (t : Vb) (s : List UInt8) (_ : Ew Bb m) (_ : Ew Ec t) (_ : Ew .s s) (hz : Wa Bb m ≤ Da) (_ : Wa .s s ≤ Da) :
 ∃ w b, Qr m t s = some (w, b, ()) ∧ Hr m t s = some (w, b, ()) :=
 ⟨(WK m t s).1, (WK m t s).2.1, TN m t s hz, AN m t s hz⟩
theorem LV (a0 : Ka) (a1 : Vb) (a2 : (List UInt8)) (hr0 : Ew Bb a0) (hr1 : Ew Ec a1) (hr2 : Ew .s a2) : Gk a0 a1 a2 = some (true, ()) := by
 have h20 : Da = 1048576 := rfl
 have h40 : Wz = 1099511627776 := rfl
 unfold Gk
 by_cases l2 : ((ja a2 : Nat) : Int) > 1048576
 ·rw [Ba l2]; rfl
 rw [Ca l2]
 simp only [cond_false]
 have s0 := DX a0 hr0 (1048576) (by omega)
 rw [show ((1048576 : Nat) : Int) = 1048576 from rfl] at s0
 rw [s0]
 simp only [jb]
 by_cases z0 : Wa Bb a0 ≤ 1048576
 case neg => rw [GD z0]; rfl
 rw [SF z0, Ca (by omega)]
 simp only [cond_false]
 have hz0 : Wa Bb a0 ≤ Da := by omega
 have hz2 : Wa .s a2 ≤ Da := by show ja a2 ≤ Da; omega
 obtain ⟨w0, w1, e1, e2⟩ := HS a0 a1 a2 hr0 hr1 hr2 hz0 hz2
 simp only [e1, e2, FX a0 hz0, WW a0 (by omega), GX a1 (by rw [DH rfl]; exact Nat.zero_le _), jb, bne_self_eq_false', bne_self_eq_false, jg, cond_false]
end KF
