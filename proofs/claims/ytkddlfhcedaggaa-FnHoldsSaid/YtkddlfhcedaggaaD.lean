/- An evaluator of Go functions on plain data, its soundness, and plain laws on what the functions compute, part 4 (conditions: as each lemma tells). -/
import Derived.Test.YtkddlfhcedaggaaC
set_option linter.unusedSimpArgs false
set_option linter.unusedVariables false
namespace KF
open Go
open List renaming length → ja, getElem?_eq_getElem → je, append → jf, mem_append → jl, mem_cons → jp, mem_cons_of_mem → jr, length_cons → jw, set → j6, length_nil → j7, length_set → j8, mem_singleton → qd, length_append → qe, getElem?_append_left → qg, getElem?_append_right → qh, getD_eq_getElem?_getD → qi, getElem_mem → qo, mem_of_mem_drop → qp, getElem_of_mem → qq, mem_map → qr, length_drop → qs, mem_cons_self → qu
open Option renaming bind_some → jb, bind → jz, map_some → qc, bind_eq_some_iff → qf
open Option.some renaming injEq → jc
open Bool renaming and_eq_true → jd, not_true → jg, true_and → jk, false_eq_true → jq, not_false → j9, not_eq_true → qa, false_and → qm, eq_iff_iff → qt
open Prod.mk renaming injEq → jh
open Nat renaming ble_eq_true_of_le → ji, mul_le_mul_right → jm, le_refl → jo, zero_add → js, add_assoc → jt, eq_of_beq_eq_true → ju, ble → jx, le_trans → qb, lt_of_lt_of_le → qk, testBit_two_pow → ql, xor_lt_two_pow → qn
open Int renaming toNat_natCast → jn, eq_ofNat_of_zero_le → jv, toNat → jy
open Go.IntKind renaming wrap → j4, wrap → j5
open Sum renaming elim_inl → qj
open Result renaming andThen_ok → qv
open Sem renaming run_bind → qw
theorem ZP {m : Ta} (hm : Wt m) (on : Int) {k : Nat} (hk : (k : Int) < m.1) : Ue m.2.1.length (Pf m on k) (Rg m.2.1 (Pf m on k) k) = true ∧ (Rg m.2.1 (Pf m on k) k).1 ≠ 1 := by
 have hl := Bz hm on k
 have hrow := hm.row _ hl
 have hk' : k < m.2.1[Pf m on k].length := by omega
 have hact := hm.act _ hl k hk'
 rw [JB hl hk']
 refine ⟨hact, ?_⟩
 have key : ∀ n, Kf m.2.1 on k n = 0 ∨ (Rg m.2.1 (Kf m.2.1 on k n) k).1 ≠ 1 := by
  intro n
  induction n with
  | zero => exact .inl rfl
  | succ n ih =>
   simp only [Kf]
   cases hc : ((Lo on ((n + 1 : Nat) : Int) == 1) && ((Rg m.2.1 (n + 1) k).1 != 1)) with
   | true =>
    simp only [jd, bne_iff_ne] at hc
    exact .inr hc.2
   | false => exact ih
 rcases key (m.2.1.length - 1) with h0 | h1
 ·have h0' : Pf m on k = 0 := h0
  intro h1
  simp only [Ue, jd, Bool.not_eq_true', Bool.and_eq_false_iff, beq_eq_false_iff_ne] at hact
  rcases hact.1.2 with h2 | h2
  ·exact h2 (by rw [h0']; rfl)
  ·exact h2 h1
 ·have e : Rg m.2.1 (Kf m.2.1 on k (m.2.1.length - 1)) k = m.2.1[Pf m on k][k] := JB hl hk'
  rw [e] at h1
  exact h1
theorem EW {nl i : Nat} {a : Ha} (h : Ue nl i a = true) (h1 : a.1 ≠ 1) : HB nl (Uu a) := by
 have ha := Iz h
 have hP := ha
 rw [Sb] at hP
 unfold Rb at hP
 unfold Uu Td
 rw [ha]
 by_cases h67 : a.1 = 6 ∨ a.1 = 7
 ·have e : (true && ((a.1 == 6) || (a.1 == 7))) = true := by rcases h67 with h | h <;> rw [h] <;> rfl
  rw [e]
  simp only [cond_true]
  refine ⟨?_, by show (2 : Int) ≠ 1; decide, by show (2 : Int) ≠ 6; decide, by show (2 : Int) ≠ 7; decide, fun _ => ?_⟩
  ·rw [Sb]
   exact .inr (.inl ⟨rfl, rfl, .inr (by show 1 ≤ a.2.1 ∧ a.2.1 ≤ 56; omega), .inl rfl, .inl (by show a.2.1 ≠ 0; omega)⟩)
  ·show (0 : Int) < (nl : Int)
   have := HA h (by omega)
   omega
 ·have e : (true && ((a.1 == 6) || (a.1 == 7))) = false := by
   rw [jk, Bool.or_eq_false_iff, beq_eq_false_iff_ne, beq_eq_false_iff_ne]; omega
  rw [e]
  exact ⟨ha, h1, fun h => h67 (.inl h), fun h => h67 (.inr h), fun hk => HA h hk⟩
def WH (m : Ta) (f o : Int) (c : Bool) (h : List Na) : Cb := (m, [], f, h, o, c, ())
theorem IM {m : Ta} (hv : Bd m = true) {f o : Int} (hs : IB m.2.1.length f o) (c : Bool) {h : List Na} (hh : Sd h = true) (hi : ∀ x ∈ h, Ik m.1 m.2.1.length x = true) : Rh (WH m f o c h) = true := by
 have hk := Sh hv
 have e1 : Yd (fun _ x => Ik m.1 m.2.1.length x) 0 h = true := Qh.2 fun j hj => hi _ (qo hj)
 show (Bd m && (decide (([] : List (List Cc)).length ≤ 4) && (Sd h && (true && (Yd (fun _ x => Ik m.1 m.2.1.length x) 0 h &&
  (decide (0 ≤ f ∧ f < ((2 ^ m.2.1.length : Nat) : Int)) && ((Int.tmod f 2 == 0) && decide (0 ≤ o ∧ o ≤ 15)))))))) = true
 rw [hv, hh, e1, Ia (⟨hs.f0, hs.f1⟩ : 0 ≤ f ∧ f < ((2 ^ m.2.1.length : Nat) : Int)), Ia (⟨hs.o0, hs.o1⟩ : 0 ≤ o ∧ o ≤ 15), hs.f2]
 rfl
theorem QY {nl : Nat} (h4 : nl ≤ 4) {f o : Int} (hs : IB nl f o) : 0 ≤ f ∧ f ≤ 15 := by
 have := M0 h4
 have h1 := hs.f1
 have h0 := hs.f0
 omega
theorem Nw (e : Cb) (k : Int) (hn : e.2.2.2.1.length ≤ Ka) : Wo e k = some (Uc (fun h => h.1 == k) 0 e.2.2.2.1, ()) := by
 have h20 : Ka = 1048576 := rfl
 have hl := ZA (step := fun x => Qm x.1.1 x.1.2.1 x.1.2.2.1 x.1.2.2.2.1) e.2.2.2.1 (fun h => h.1 == k) (fun i => ((k, e.2.2.2.1, ((ja e.2.2.2.1 : Nat) : Int), i, ()), ())) (.inl ((), ())) (fun i => .inr ((i, ()), ()))
  (by
   intro j hj
   simp only [Qm]
   rw [Ia (show (j : Int) < ((ja e.2.2.2.1 : Nat) : Int) by omega), Vc hj]
   simp only [cond_true, jb]
   cases e.2.2.2.1[j].1 == k <;> rfl) (by
   simp only [Qm]
   rw [Ga (by omega)]; rfl) (by omega)
 unfold Wo Ln
 erw [hl]
 simp only [jb]
 by_cases hc : Uc (fun h : Na => h.1 == k) 0 e.2.2.2.1 = -1
 ·rw [if_pos hc, hc]; rfl
 ·rw [if_neg hc]; rfl
theorem Fv (a : Da) (l : List Da) (hn : l.length ≤ Ka) (ha : a.2.1.length ≤ Ka) (hx : ∀ x ∈ l, x.2.1.length ≤ Ka) : Wc a l = some (Pp Mp a l, ()) := by
 have h20 : Ka = 1048576 := rfl
 have hlim := Hg
 unfold Wc CM
 have e : (jx (ja l) Hb && (Tu a && l.all Tu)) = true := by
  rw [jd, jd, List.all_eq_true]
  refine ⟨ji (by omega), ji (by show ja a.2.1 ≤ _; omega), fun x hm => ji ?_⟩
  have := hx x hm
  show ja x.2.1 ≤ _
  omega
 rw [e]; rfl
theorem Hx : ∀ (l : List Da) (a : Da), (Pp Mp a l).length ≤ l.length
 | [], _ => by simp [Pp]
 | x :: l, a => by
  have := Hx l x
  simp only [Pp]
  cases Mp a x <;> simp <;> omega
theorem Rq (l : List Na) : (Ec l).2.1.length ≤ 56 := FD l 56
theorem Du : ∀ (l : List Da) (a x : Da), x ∈ Pp Mp a l → x ∈ l
 | [], _, x, h => by simp [Pp] at h
 | y :: l, a, x, h => by
  simp only [Pp] at h
  cases hs : Mp a y with
  | true => rw [hs] at h; exact jr _ (Du l y x h)
  | false =>
   rw [hs] at h
   rcases jp.1 h with h | h
   ·exact h ▸ qu ..
   ·exact jr _ (Du l y x h)
noncomputable def S5 (m : Ta) (f : Int) (k : Nat) : Ha := Uu (Rg m.2.1 (Pf m (Ie .i64 1 f) k) k)
noncomputable def G9 (m : Ta) (f o : Int) (c : Bool) (k : Nat) : Int × Int × Bool × Ha := Su f o c (S5 m f k)
noncomputable def hK (m : Ta) (f o : Int) (c : Bool) (k : Nat) : List Na := [((k : Int), (G9 m f o c k).2.2.2, ())]
structure Z0 (m : Ta) : Prop where
 v : Bd m = true
 z : Xb Ib m ≤ Ka - 10
theorem JA (l : List Na) : (Ec l).2.1.length ≤ Ka := by
 have h20 : Ka = 1048576 := rfl
 have := Rq l
 omega
theorem D1 : Sd [] = true := rfl
theorem WD {m : Ta} (hv : Bd m = true) : Z0 m := by
 have hm := Sh hv
 refine ⟨hv, ?_⟩
 have h20 : Ka = 1048576 := rfl
 have h1 : Xb Ib m = 0 + (Xb (.sl (.sl Sc)) m.2.1 + 0) := rfl
 have h2 : Xb (.sl (.sl Sc)) m.2.1 ≤ (32 + 1) * ja m.2.1 := JE (e := .sl Sc) (c := 32) fun x hx => by
  obtain ⟨i, hi, rfl⟩ := qq hx
  rw [FJ]
  have := hm.row i hi
  have := hm.k2
  omega
 have := hm.l2
 omega
abbrev St := (Int × Int × Bool) × List Da
structure L9 (m : Ta) (k : Nat) (s : St) : Prop where
 st : IB m.2.1.length s.1.1 s.1.2.1
 len : s.2.length ≤ 2 * k
 rep : ∀ x ∈ s.2, x.2.1.length ≤ 56
def Lq (p : Int → Bool) : Nat → List Int
 | 0 => []
 | n + 1 => cond (p ((n + 1 : Nat) : Int)) (Lq p n ++ [((n + 1 : Nat) : Int)]) (Lq p n)
theorem AG (p : Int → Bool) : ∀ n, (Lq p n).length ≤ n
 | 0 => by simp [Lq]
 | n + 1 => by
  have := AG p n
  simp only [Lq]
  cases p ((n + 1 : Nat) : Int) <;> simp <;> omega
theorem Oy (l : List Na) : ∀ n, Di l n = Lq (fun c => l.any fun h => h.2.1.2.1 == c) n
 | 0 => rfl
 | n + 1 => by simp only [Di, Lq, Oy l n]
theorem ZB (cs : List Int) (hn : cs.length ≤ Ka) (hx : ∀ c ∈ cs, 0 ≤ c ∧ c ≤ 56) : Kk cs = some (Lq (fun c => cs.any (fun y => y == c)) 56, ()) := by
 have := Iv (cs.map fun c => ((0, (0, c, 0, 0, ()), ()) : Na)) (by simpa using hn) (fun h hh => by
  obtain ⟨c, hc, rfl⟩ := qr.1 hh
  exact hx c hc)
 rw [List.map_map] at this
 have e : List.map ((fun h : Na => h.2.1.2.1) ∘ fun c => ((0, (0, c, 0, 0, ()), ()) : Na)) cs = cs := by
  rw [show ((fun h : Na => h.2.1.2.1) ∘ fun c => ((0, (0, c, 0, 0, ()), ()) : Na)) = id from rfl, List.map_id]
 rw [e] at this
 rw [this, Oy]
 congr 3
 funext c
 rw [List.any_map]
 rfl
def TU (s : Int) (D : List Nb) : Int := Be (fun _ s (p : Nb) => Ie .i64 s p.2.1) 0 s D
def Zx (b : Da) (D : List Nb) : Da := (TU b.1 D, Lq (fun c => b.2.1.any (fun y => y == c) || D.any (fun p => p.1 == c)) 56, ())
theorem PA (b : Da) (D : List Nb) (hb : b.2.1.length ≤ 56) (hD : D.length ≤ 1000) (hbx : ∀ c ∈ b.2.1, 0 ≤ c ∧ c ≤ 56) (hDx : ∀ p ∈ D, 0 ≤ p.1 ∧ p.1 ≤ 56) :
 Kd b D = some (Zx b D, ()) := by
 have h20 : Ka = 1048576 := rfl
 have hl := (Rl (step := fun x => Cj x.1.1 x.1.2.1 x.1.2.2.1 x.1.2.2.2.1 x.1.2.2.2.2.1 x.1.2.2.2.2.2.1 x.2.1 x.2.2.1) D
  (fun _ (s : Int × List Int) (p : Nb) => (Ie .i64 s.1 p.2.1, jf s.2 [p.1])) (fun s i => (((), (), s.2, D, ((ja D : Nat) : Int), i, ()), (((0 : Int), ([] : List Int), ()), (s.1, ([] : List Int), ()), ())))
  (fun s => .inl (((), (), s.2, ()), (((0 : Int), ([] : List Int), ()), (s.1, ([] : List Int), ()), ()))) (fun k s => s.2.length = b.2.1.length + k) (by
   intro k hk s hs
   refine ⟨?_, by simp [hs]; omega⟩
   simp only [Cj]
   rw [Ia (show (k : Int) < ((ja D : Nat) : Int) by omega), Vc hk]
   simp only [cond_true, jb]
   rw [show jx (ja s.2 + ja ([D[k].1] : List Int)) Hb = true from ji (by simp only [jw, j7, Hg]; omega)]
   rfl)
  (by
   intro s _
   simp only [Cj]
   rw [Ga (by omega)]; rfl) (by omega) (b.1, b.2.1) (by simp)).1
 have key : ∀ (D : List Nb) (k : Nat) (s : Int × List Int), Be (fun _ (s : Int × List Int) (p : Nb) => (Ie .i64 s.1 p.2.1, jf s.2 [p.1])) k s D =
  (Be (fun _ s (p : Nb) => Ie .i64 s p.2.1) k s.1 D, s.2 ++ D.map fun p => p.1) := by
  intro D
  induction D with
  | nil => intro k s; simp [Be]
  | cons x D ih => intro k s; simp only [Be]; rw [ih]; simp
 unfold Kd Nk
 rw [Sp _ (by omega)]
 simp only [jb]
 erw [hl]
 rw [key]
 simp only [jb, qj]
 rw [ZB _ (by simp; omega) (fun c hc => by
  rcases jl.1 hc with h | h
  ·exact hbx c h
  ·obtain ⟨p, hp, rfl⟩ := qr.1 h
   exact hDx p hp)]
 simp only [jb, Zx, TU]
 congr 4
 apply congrArg (fun p => Lq p 56)
 funext c
 rw [List.any_append, List.any_map]
 rfl

noncomputable def rM (L : List Na) (x : Cc) : Int := Uc (Yo x.2.1 x.2.2.1) 0 L
noncomputable def CE (b : Da) (L : List Na) (x : Cc) : List Da :=
 cond (x.1 == 0) [Zx b ((jf L [Jq x]).map Jc), Zx b (L.map Jc)] [Zx b ((Zv x L (rM L x)).map Jc)]
noncomputable def mG (b : Da) (s : List Da × List Na) (x : Cc) : List Da × List Na := (jf s.1 (CE b s.2 x), Zv x s.2 (rM s.2 x))
noncomputable def Ez (b : Da) (l : List Cc) : List Da := (Be (fun _ s x => mG b s x) 0 ([], []) l).1
structure JL (l : List Cc) (k : Nat) (s : List Da × List Na) : Prop where
 ok : ∃ L', Md (fun _ L x => Nq L x) k s.2 (l.drop k) = .inl L'
 len : s.2.length ≤ k
 out : s.1.length ≤ 2 * k
 cod : ∀ h ∈ s.2, 0 ≤ h.2.1.2.1 ∧ h.2.1.2.1 ≤ 56
theorem QS {l : List Cc} {k : Nat} (hk : k < l.length) {b : Da} {s : List Da × List Na} (hi : JL l k s) : Ko l[k] (rM s.2 l[k]) = true ∧ JL l (k + 1) (mG b s l[k]) := by
 obtain ⟨L', hL⟩ := hi.ok
 rw [List.drop_eq_getElem_cons hk] at hL
 simp only [Md] at hL
 unfold rM
 cases hc : Ko l[k] (Uc (Yo l[k].2.1 l[k].2.2.1) 0 s.2) with
 | false =>
  have : Nq s.2 l[k] = .inr () := by unfold Nq; rw [hc]; rfl
  rw [this] at hL; simp at hL
 | true =>
  have hm : Nq s.2 l[k] = .inl (Zv l[k] s.2 (rM s.2 l[k])) := by unfold Nq rM; rw [hc]; rfl
  rw [hm] at hL
  refine ⟨rfl, ⟨L', hL⟩, ?_, ?_, ?_⟩
  ·have := MK hm
   have := hi.len
   show (Zv l[k] s.2 (rM s.2 l[k])).length ≤ k + 1
   omega
  ·have := hi.out
   show (jf s.1 (CE b s.2 l[k])).length ≤ _
   unfold CE
   cases l[k].1 == 0 <;> simp <;> omega
  ·have hcode : 0 ≤ l[k].2.1 ∧ l[k].2.1 ≤ 56 := by
    simp only [Ko, jd] at hc
    exact Uv hc.1
   intro h hh
   have hh' : h ∈ Zv l[k] s.2 (rM s.2 l[k]) := hh
   unfold Zv at hh'
   cases h1 : l[k].1 == 1 with
   | true =>
    rw [h1] at hh'
    rcases jl.1 (show h ∈ s.2 ++ [Jq l[k]] from hh') with hh' | hh'
    ·exact hi.cod h hh'
    ·simp only [jp, List.not_mem_nil, or_false] at hh'
     rw [hh']; exact hcode
   | false =>
    rw [h1] at hh'
    cases h2 : l[k].1 == 2 with
    | true =>
     rw [h2] at hh'
     have hsub : h ∈ s.2 := by
      have hw : h ∈ Kg s.2 (rM s.2 l[k]).toNat := hh'
      unfold Kg Lb at hw
      rcases jl.1 (show h ∈ _ ++ _ from hw) with hw | hw
      ·exact List.mem_of_mem_take (qp hw)
      ·exact List.mem_of_mem_take (qp hw)
     exact hi.cod h hsub
    | false => rw [h2] at hh'; exact hi.cod h hh'
theorem XS {x : Cc} {r : Int} (h : Ko x r = true) : (x.1 = 0 ∧ r < 0) ∨ (x.1 = 1 ∧ r < 0) ∨ (x.1 = 2 ∧ r ≥ 0) := by
 simp only [Ko, jd, Bool.or_eq_true, beq_iff_eq, Bool.not_eq_true', decide_eq_false_iff_not, decide_eq_true_eq] at h
 omega
theorem Ca {n m : Nat} (h : n ≤ 1000) (hm : m ≤ 10) : jx (n + m) Hb = true := ji (by rw [Hg]; omega)
theorem MT (a : List Na) : ∀ c ∈ (Ec a).2.1, 0 ≤ c ∧ c ≤ 56 := by
 intro c hc
 have := (Gq a 56 c).1 hc
 omega
theorem Mx (a : List Na) (l : List Cc) (hn : a.length ≤ Ka) (ha : Sd a = true) (hm : Gg l = true) : Jg a l = some (Ez (Ec a) l, ()) := by
 have h20 : Ka = 1048576 := rfl
 have hm' := hm
 simp only [Gg, jd, decide_eq_true_eq, VS] at hm'
 have h0 : JL l 0 ([], []) := ⟨by
  rw [List.drop_zero]
  cases hf : Md (fun _ L x => Nq L x) 0 [] l with
  | inl L => exact ⟨L, rfl⟩
  | inr u => rw [hf] at hm'; simp at hm', jo _, jo _, by simp⟩
 have hl := (Rl (step := fun x => Ah x.1.1 x.1.2.1 x.1.2.2.1 x.1.2.2.2.1 x.1.2.2.2.2.1 x.1.2.2.2.2.2.1 x.2.1) l (fun _ s x => mG (Ec a) s x) (fun s i => (((), s.1, s.2.map Jc, l, ((ja l : Nat) : Int), i, ()), (Ec a, ()))) (fun s => .inl ((s.1, ()), ())) (JL l) (by
  intro k hk s hi
  obtain ⟨hok, hi'⟩ := QS (b := Ec a) hk hi
  refine ⟨?_, hi'⟩
  have hlen := hi.len
  have hout := hi.out
  have hl8 := hm'.1
  have hcode : 0 ≤ l[k].2.1 ∧ l[k].2.1 ≤ 56 := by
   simp only [Ko, jd] at hok
   exact Uv hok.1
  simp only [Ah]
  rw [Ia (show (k : Int) < ((ja l : Nat) : Int) by omega), Vc hk]
  simp only [cond_true, jb]
  generalize hx : l[k] = x at *
  have hW : ∀ L : List Na, L.length ≤ 1000 → (∀ h ∈ L, 0 ≤ h.2.1.2.1 ∧ h.2.1.2.1 ≤ 56) → Kd (Ec a) (L.map Jc) = some (Zx (Ec a) (L.map Jc), ()) := fun L h1 h2 =>
   PA _ _ (Rq a) (by simpa using h1) (MT a) (fun p hp => by
    obtain ⟨h, hh, rfl⟩ := qr.1 hp
    exact h2 h hh)
  have hcs : ∀ h ∈ jf s.2 [Jq x], 0 ≤ h.2.1.2.1 ∧ h.2.1.2.1 ≤ 56 := by
   intro h hh
   rcases jl.1 (show h ∈ s.2 ++ [Jq x] from hh) with hh | hh
   ·exact hi.cod h hh
   ·simp only [jp, List.not_mem_nil, or_false] at hh
    rw [hh]; exact hcode
  have happ : jf (s.2.map Jc) ([(x.2.1, x.2.2.1, ())] : List Nb) = (jf s.2 [Jq x]).map Jc := by
   show _ ++ _ = List.map Jc (_ ++ _)
   rw [List.map_append]; rfl
  have happ2 : jf (jf ([] : List Nb) (s.2.map Jc)) ([(x.2.1, x.2.2.1, ())] : List Nb) = (jf s.2 [Jq x]).map Jc := happ
  have hR1 := hW (jf s.2 [Jq x]) (by simp; omega) hcs
  have hR0 := hW s.2 (by omega) hi.cod
  have b1 : jx (ja (s.2.map Jc) + ja ([(x.2.1, x.2.2.1, ())] : List Nb)) Hb = true := Ca (by simp; omega) (by simp)
  have b0 : jx (ja ([] : List Nb) + ja (s.2.map Jc)) Hb = true := ji (by simp [Hg]; omega)
  unfold mG CE Zv
  rcases XS hok with ⟨h0, hr⟩ | ⟨h1, hr⟩ | ⟨h2, hr⟩
  ·rw [h0, b0]
   simp only [show ((0 : Int) == 0) = true from rfl, show ((0 : Int) == 1) = false from rfl, show ((0 : Int) == 2) = false from rfl, cond_true, cond_false]
   show cond (jx (ja (s.2.map Jc) + ja ([(x.2.1, x.2.2.1, ())] : List Nb)) Hb) _ _ = _
   rw [b1, happ2]
   simp only [cond_true]
   show jz (Kd (Ec a) _) _ = _
   rw [hR1]
   simp only [jb]
   rw [show ∀ r : Da, jx (ja s.1 + ja ([r] : List Da)) Hb = true from fun r => Ca (by omega) (by simp)]
   simp only [cond_true]
   show jz (Kd (Ec a) _) _ = _
   rw [hR0]
   simp only [jb]
   rw [show ∀ r r' : Da, jx (ja (jf s.1 [r]) + ja ([r'] : List Da)) Hb = true from fun r r' => Ca (by simp; omega) (by simp)]
   simp
  ·rw [h1, b1, happ]
   simp only [show ((1 : Int) == 0) = false from rfl, show ((1 : Int) == 1) = true from rfl, cond_true, cond_false]
   show jz (Kd (Ec a) _) _ = _
   rw [hR1]
   simp only [jb]
   rw [show ∀ r : Da, jx (ja s.1 + ja ([r] : List Da)) Hb = true from fun r => Ca (by omega) (by simp)]
   rfl
  ·rw [h2]
   simp only [show ((2 : Int) == 0) = false from rfl, show ((2 : Int) == 1) = false from rfl, show ((2 : Int) == 2) = true from rfl, cond_true, cond_false]
   rcases Hs (Yo x.2.1 x.2.2.1) s.2 0 with h | ⟨j, hj, h⟩
   ·unfold rM at hr; omega
   ·rw [js] at h
    rw [Pw (s.2.map Jc) _ (by simp; omega), BE, h]
    simp only [jb]
    have hj' : j < (s.2.map Jc).length := by simpa using hj
    have hc := QF hj'
    have e1 : jx (ja (Lb (s.2.map Jc) (jy 0) (jy (j : Int))) + ja (Lb (s.2.map Jc) (jy ((j + 1 : Nat) : Int)) (jy ((ja (s.2.map Jc) : Nat) : Int)))) Hb = true :=
     ji (by simp [Lb]; rw [Hg]; omega)
    have e2 : jf (Lb (s.2.map Jc) (jy 0) (jy (j : Int))) (Lb (s.2.map Jc) (jy ((j + 1 : Nat) : Int)) (jy ((ja (s.2.map Jc) : Nat) : Int))) = (Kg s.2 j).map Jc := by
     rw [← FB]
     simp [Kg]
    have hsub : ∀ h ∈ Kg s.2 j, 0 ≤ h.2.1.2.1 ∧ h.2.1.2.1 ≤ 56 := by
     intro h hw
     unfold Kg Lb at hw
     rcases jl.1 (show h ∈ _ ++ _ from hw) with hw | hw
     ·exact hi.cod h (List.mem_of_mem_take (qp hw))
     ·exact hi.cod h (List.mem_of_mem_take (qp hw))
    rw [Zf (k := j) (by omega), hc.1, hc.2, e1, e2]
    simp only [cond_true]
    show jz (Kd (Ec a) _) _ = _
    rw [hW (Kg s.2 j) (by rw [XJ hj]; omega) hsub]
    simp only [jb]
    rw [show ∀ r : Da, jx (ja s.1 + ja ([r] : List Da)) Hb = true from fun r => Ca (by omega) (by simp)]
    unfold rM
    rw [h, jn]
    rfl)
  (by
   intro s _
   simp only [Ah]
   rw [Ga (by omega)]; rfl) (by omega) ([], []) h0).1
 unfold Jg Fi
 rw [Co _ hn, ha, Hv _ (by omega), hm, Gl _ hn ha]
 simp only [jb, jg, cond_false]
 erw [hl]
 rfl
theorem JG (b : Da) (D : List Nb) : (Zx b D).2.1.length ≤ 56 := by
 show (Lq (fun c => b.2.1.any (fun y => y == c) || D.any (fun p => p.1 == c)) 56).length ≤ 56
 exact AG _ 56
theorem PI (b : Da) : ∀ (l : List Cc) (k : Nat) (s : List Da × List Na), (∀ x ∈ s.1, x.2.1.length ≤ 56) →
 (Be (fun _ s x => mG b s x) k s l).1.length ≤ s.1.length + 2 * l.length ∧ ∀ x ∈ (Be (fun _ s x => mG b s x) k s l).1, x.2.1.length ≤ 56
 | [], _, s, h => by simp only [Be]; exact ⟨by omega, h⟩
 | x :: l, k, s, h => by
  have h1 : (mG b s x).1.length ≤ s.1.length + 2 ∧ ∀ y ∈ (mG b s x).1, y.2.1.length ≤ 56 := by
   unfold mG CE
   cases x.1 == 0 with
   | true =>
    refine ⟨by simp, fun y hy => ?_⟩
    rcases jl.1 (show y ∈ s.1 ++ _ from hy) with hy | hy
    ·exact h y hy
    ·simp only [cond_true, jp, List.not_mem_nil, or_false] at hy
     rcases hy with rfl | rfl <;> exact JG _ _
   | false =>
    refine ⟨by simp, fun y hy => ?_⟩
    rcases jl.1 (show y ∈ s.1 ++ _ from hy) with hy | hy
    ·exact h y hy
    ·simp only [cond_false, jp, List.not_mem_nil, or_false] at hy
     rw [hy]; exact JG _ _
  have := PI b l (k + 1) (mG b s x) h1.2
  simp only [Be, jw]
  exact ⟨by omega, this.2⟩
def Bh (f : Int) (l : List Na) : Int := Be (fun _ s (h : Na) => cond (h.2.1.1 == 3) (Ie .i64 s (Of .i64 1 h.2.1.2.2.2.1)) s) 0 (Ie .i64 1 f) l
theorem Ow {f : Int} (hf : 0 ≤ f ∧ f ≤ 15) (l : List Na) (hn : l.length ≤ Ka) (hv : Sd l = true) : Cm f l = some (Bh f l, ()) := by
 have h20 : Ka = 1048576 := rfl
 have hh := Ns hv
 have hl := (Rl (step := fun x => Wj x.1.1 x.1.2.1 x.1.2.2.1 x.1.2.2.2.1) l
  (fun _ s (h : Na) => cond (h.2.1.1 == 3) (Ie .i64 s (Of .i64 1 h.2.1.2.2.2.1)) s) (fun s i => ((s, l, ((ja l : Nat) : Int), i, ()), ()))
  (fun s => .inl ((s, ()), ())) (fun _ _ => True) (by
   intro k hk s _
   refine ⟨?_, trivial⟩
   simp only [Wj]
   rw [Ia (show (k : Int) < (ja l : Int) by omega), Vc hk]
   simp only [cond_true, jb]
   rw [Ia (Ax (hh _ (qo hk)).act)]
   cases l[k].2.1.1 == 3 <;> rfl)
  (by
   intro s _
   simp only [Wj]
   rw [Ga (by omega)]; rfl) (by omega) (Ie .i64 1 f) trivial).1
 unfold Cm Eg
 rw [Ia (show f ≥ 0 by omega), Ia hf.2, Co _ hn, hv]
 simp only [cond_true, jb, jg, cond_false]
 erw [hl]
 rfl
theorem UE (a : Ha) : Sr a = some (Rt a, ()) := by
 unfold Sr Rt
 rw [Vj]
 cases Td a <;> cases a.1 == 6 <;> rfl
theorem AE {a : Nat} (ha : a < 2 ^ 63) (x : Na) : Aq (a : Int) x = true ↔ Ro x ∧ a.testBit x.1.toNat = false := by
 constructor
 ·intro h
  obtain ⟨h1, h2⟩ := CQ h
  refine ⟨h1, ?_⟩
  have hx : x.1 = ((x.1.toNat : Nat) : Int) := (Int.toNat_of_nonneg h1.lo).symm
  have := MB (a := a) (k := x.1.toNat) ha (by have := h1.hi; omega)
  rw [← hx] at this
  rw [← this]
  simp [h2]
 ·rintro ⟨h1, h2⟩
  have hx : x.1 = ((x.1.toNat : Nat) : Int) := (Int.toNat_of_nonneg h1.lo).symm
  have := MB (a := a) (k := x.1.toNat) ha (by have := h1.hi; omega)
  rw [← hx, h2] at this
  simp only [Aq, jd, decide_eq_true_eq, Bool.not_eq_true', beq_eq_false_iff_ne]
  exact ⟨⟨h1.lo, h1.hi⟩, by rw [beq_eq_false_iff_ne] at this; exact this, h1.act, h1.n1, h1.n6, h1.n7⟩
theorem WA : ∀ (l : List Na) (k a : Nat), a < 2 ^ 63 → (Zy (Md (fun _ s x => Iq s x) k (a : Int) l) = true ↔
 (∀ x ∈ l, Ro x ∧ a.testBit x.1.toNat = false) ∧ l.Pairwise (fun x y => x.1 ≠ y.1))
 | [], k, a, ha => by simp [Md, Zy]
 | y :: l, k, a, ha => by
  simp only [Md]
  cases hc : Aq (a : Int) y with
  | false =>
   rw [show Iq (a : Int) y = .inr () by unfold Iq; rw [hc]; rfl]
   simp only [Zy, jq, false_iff]
   rintro ⟨h, _⟩
   have := (AE ha y).2 (h y (qu ..))
   rw [hc] at this; cases this
  | true =>
   rw [show Iq (a : Int) y = .inl (Ie .i64 (a : Int) (Of .i64 1 y.1)) by unfold Iq; rw [hc]; rfl]
   simp only []
   obtain ⟨hy, hb⟩ := (AE ha y).1 hc
   have h1 := hy.lo; have h2 := hy.hi
   have hyx : y.1 = ((y.1.toNat : Nat) : Int) := (Int.toNat_of_nonneg h1).symm
   have e : Ie .i64 (a : Int) (Of .i64 1 y.1) = ((a ||| 2 ^ y.1.toNat : Nat) : Int) := by
    conv => lhs; rw [hyx]
    rw [MA (by omega), IK ha (Ou (by omega))]
   rw [e, WA l (k + 1) _ (Nat.or_lt_two_pow ha (Ou (by omega)))]
   have tb : ∀ n, (a ||| 2 ^ y.1.toNat).testBit n = false ↔ a.testBit n = false ∧ y.1.toNat ≠ n := by
    intro n
    rw [Nat.testBit_or, ql, Bool.or_eq_false_iff, decide_eq_false_iff_not]
   simp only [jp, List.pairwise_cons, forall_eq_or_imp]
   constructor
   ·rintro ⟨h, hp⟩
    refine ⟨⟨⟨hy, hb⟩, fun x hx => ⟨(h x hx).1, ((tb _).1 (h x hx).2).1⟩⟩, fun x hx hxy => ?_, hp⟩
    exact ((tb _).1 (h x hx).2).2 (by rw [hxy])
   ·rintro ⟨⟨_, h⟩, hq, hp⟩
    refine ⟨fun x hx => ⟨(h x hx).1, (tb _).2 ⟨(h x hx).2, fun hn => hq x hx ?_⟩⟩, hp⟩
    have := (h x hx).1.lo
    omega
theorem Lx (l : List Na) : Sd l = true ↔ (∀ x ∈ l, Ro x) ∧ l.Pairwise (fun x y => x.1 ≠ y.1) := by
 have := WA l 0 0 (by decide)
 unfold Sd MM
 erw [this]
 simp
theorem EO {l : List Na} (h : Sd l = true) {x : Na} (hx : Ro x) (hn : ∀ y ∈ l, y.1 ≠ x.1) : Sd (jf l [x]) = true := by
 rw [Lx] at h ⊢
 obtain ⟨h1, h2⟩ := h
 refine ⟨fun y hy => ?_, ?_⟩
 ·rcases jl.1 (show y ∈ l ++ [x] from hy) with hy | hy
  ·exact h1 y hy
  ·rw [qd.1 hy]; exact hx
 ·show (l ++ [x]).Pairwise _
  rw [List.pairwise_append]
  exact ⟨h2, List.pairwise_singleton _ _, fun y hy z hz => by rw [qd.1 hz]; exact hn y hy⟩
theorem GI {l r : List Na} (h : Sd l = true) (hs : r.Sublist l) : Sd r = true := by
 rw [Lx] at h ⊢
 exact ⟨fun y hy => h.1 y (hs.subset hy), h.2.sublist hs⟩
theorem SI : ∀ (n : Nat) (l : List Nat), l.Nodup → (∀ x ∈ l, x < n) → l.length ≤ n
 | 0, l, _, h => by
  cases l with
  | nil => exact jo _
  | cons x l => exact absurd (h x (qu ..)) (Nat.not_lt_zero _)
 | n + 1, l, hn, h => by
  have := SI n (l.erase n) (hn.erase n) (fun x hx => by
   have h1 := (hn.mem_erase_iff).1 hx
   have := h x h1.2
   have := h1.1
   omega)
  have h2 := List.length_erase (a := n) (l := l)
  split at h2 <;> omega
theorem Ao {l : List Na} (h : Sd l = true) : l.length ≤ 32 := by
 rw [Lx] at h
 have hn : (l.map fun x => x.1.toNat).Nodup := by
  rw [List.Nodup, List.pairwise_map]
  refine (List.Pairwise.and_mem.1 h.2).imp ?_
  rintro x y ⟨hx, hy, hxy⟩ he
  have h1 := (h.1 x hx).lo; have h2 := (h.1 y hy).lo
  omega
 have hs : ∀ y ∈ (l.map fun x => x.1.toNat), y < 32 := by
  intro y hy
  obtain ⟨x, hx, rfl⟩ := qr.1 hy
  have := (h.1 x hx).hi; have := (h.1 x hx).lo
  omega
 have := SI 32 _ hn hs
 simpa using this
structure Ri (e : Cb) : Prop where
 km : Bd e.1 = true
 m4 : e.2.1.length ≤ 4
 hd : Sd e.2.2.2.1 = true
 mac : ∀ x ∈ e.2.1, Gg x = true
 hin : ∀ x ∈ e.2.2.2.1, Ik e.1.1 e.1.2.1.length x = true
 st : IB e.1.2.1.length e.2.2.1 e.2.2.2.2.1
theorem PH {α : Type} {p : α → Bool} {l : List α} : Yd (fun _ x => p x) 0 l = true ↔ ∀ x ∈ l, p x = true := by
 rw [Qh]
 constructor
 ·intro h x hx
  obtain ⟨i, hi, rfl⟩ := qq hx
  exact h i hi
 ·intro h j hj
  exact h _ (qo hj)
theorem Jw (e : Cb) : Rh e = true ↔ Ri e := by
 unfold Rh
 simp only [jd, decide_eq_true_eq, beq_iff_eq, PH]
 constructor
 ·rintro ⟨h1, h2, h3, h4, h5, h6, h7, h8⟩
  exact ⟨h1, h2, h3, h4, h5, ⟨h6.1, h6.2, h7, h8.1, h8.2⟩⟩
 ·rintro ⟨h1, h2, h3, h4, h5, h6⟩
  exact ⟨h1, h2, h3, h4, h5, ⟨h6.f0, h6.f1⟩, h6.f2, h6.o0, h6.o1⟩
theorem Cv {e : Cb} (h : Ri e) : Xb Kc e ≤ Ka - 5 := by
 have h20 : Ka = 1048576 := rfl
 have h1 := (WD h.km).z
 have hh := Ao h.hd
 have h2 : Xb (.sl (.sl Oc)) e.2.1 ≤ (8 + 1) * e.2.1.length := JE (e := .sl Oc) (c := 8) fun x hx => by
  have := h.mac x hx
  simp only [Gg, jd, decide_eq_true_eq] at this
  have e2 : Xb (.sl Oc) x = x.length := Lr (e := Oc) rfl x
  omega
 have := h.m4
 have hm := Sh h.km
 have h3 : Xb Ib e.1 ≤ 200 := by
  have h1 : Xb Ib e.1 = 0 + (Xb (.sl (.sl Sc)) e.1.2.1 + 0) := rfl
  have h2 : Xb (.sl (.sl Sc)) e.1.2.1 ≤ (32 + 1) * ja e.1.2.1 := JE (e := .sl Sc) (c := 32) fun x hx => by
   obtain ⟨i, hi, rfl⟩ := qq hx
   rw [FJ]
   have := hm.row i hi
   have := hm.k2
   omega
  have := hm.l2
  omega
 rw [Fu, Vt]
 omega
noncomputable def Lz (e : Cb) (k : Nat) (b : Bool) : Ha :=
 cond b (Rt (Rg e.1.2.1 (Pf e.1 (Bh e.2.2.1 e.2.2.2.1) k) k)) (Uu (Rg e.1.2.1 (Pf e.1 (Bh e.2.2.1 e.2.2.2.1) k) k))
noncomputable def Hh (e : Cb) (k : Nat) (b : Bool) : Int × Int × Bool × Ha := Su e.2.2.1 e.2.2.2.2.1 e.2.2.2.2.2.1 (Lz e k b)
noncomputable def pH (e : Cb) (k : Nat) (b : Bool) : List Na := jf e.2.2.2.1 [((k : Int), (Hh e k b).2.2.2, ())]
noncomputable def pE (e : Cb) (k : Nat) (b : Bool) : Cb := (e.1, e.2.1, (Hh e k b).1, pH e k b, (Hh e k b).2.1, (Hh e k b).2.2.1, ())
noncomputable def pM (e : Cb) (k : Nat) (b : Bool) : List Da :=
 cond ((Hh e k b).2.2.2.1 == 9) (cond (decide ((Hh e k b).2.2.2.2.2.2.1 < ((ja e.2.1 : Nat) : Int))) (Ez (Ec (pH e k b)) (e.2.1.getD (Hh e k b).2.2.2.2.2.2.1.toNat [])) []) []
noncomputable def pR (e : Cb) (k : Nat) (b : Bool) : List Da := Pp Mp (Ec e.2.2.2.1) (jf (pM e k b) [Ec (pH e k b)])
theorem KS {nl i : Nat} {a : Ha} (h : Ue nl i a = true) (h1 : a.1 ≠ 1) : HB nl (Rt a) := by
 have ha := Iz h
 have hP := ha
 rw [Sb] at hP
 unfold Rb at hP
 unfold Rt Td
 rw [ha]
 by_cases h67 : a.1 = 6 ∨ a.1 = 7
 ·have e : (true && ((a.1 == 6) || (a.1 == 7))) = true := by rcases h67 with h | h <;> rw [h] <;> rfl
  rw [e]
  have hn := HA h (by omega)
  rcases h67 with h6 | h7
  ·rw [h6]
   refine ⟨?_, by show (2 : Int) ≠ 1; decide, by show (2 : Int) ≠ 6; decide, by show (2 : Int) ≠ 7; decide, fun _ => ?_⟩
   ·rw [Sb]
    exact .inr (.inl ⟨rfl, rfl, .inl rfl, .inr (by show 1 ≤ a.2.2.1 ∧ a.2.2.1 ≤ 15; omega), .inr (by show a.2.2.1 ≠ 0; omega)⟩)
   ·show (0 : Int) < (nl : Int)
    omega
  ·rw [h7]
   refine ⟨?_, by show (3 : Int) ≠ 1; decide, by show (3 : Int) ≠ 6; decide, by show (3 : Int) ≠ 7; decide, fun _ => hn⟩
   rw [Sb]
   exact .inr (.inr (.inl ⟨.inl rfl, rfl, rfl, by show 1 ≤ a.2.2.2.1; omega, by show a.2.2.2.1 ≤ 3; omega⟩))
 ·have e : (true && ((a.1 == 6) || (a.1 == 7))) = false := by
   rw [jk, Bool.or_eq_false_iff, beq_eq_false_iff_ne, beq_eq_false_iff_ne]; omega
  rw [e]
  exact ⟨ha, h1, fun h => h67 (.inl h), fun h => h67 (.inr h), fun hk => HA h hk⟩
structure MN (e : Cb) (k : Nat) (b : Bool) : Prop where
 act : HB e.1.2.1.length (Lz e k b)
 ah : HB e.1.2.1.length (Hh e k b).2.2.2
 hd : Sd (pH e k b) = true
 ok : Ri (pE e k b)
 ml : (pM e k b).length ≤ 16
 mx : ∀ x ∈ pM e k b, x.2.1.length ≤ 56
theorem IA {e : Cb} (h : Ri e) {k : Nat} (hk : (k : Int) < e.1.1) (hn : ∀ y ∈ e.2.2.2.1, y.1 ≠ (k : Int)) (b : Bool) : MN e k b := by
 have hm := Sh h.km
 have h1 := ZP hm (Bh e.2.2.1 e.2.2.2.1) hk
 have h2 : HB e.1.2.1.length (Lz e k b) := by
  cases b
  ·exact EW h1.1 h1.2
  ·exact KS h1.1 h1.2
 have h3 := Q0 (c := e.2.2.2.2.2.1) hm.l2 h.st h2
 have h4 : Sd (pH e k b) = true := EO h.hd (x := ((k : Int), (Hh e k b).2.2.2, ())) ⟨by show (0 : Int) ≤ (k : Int); omega, by have := hm.k2; show (k : Int) ≤ 31; omega, h3.2.act, h3.2.n1, h3.2.n6, h3.2.n7⟩ hn
 refine ⟨h2, h3.2, h4, ⟨h.km, h.m4, h4, h.mac, fun x hx => ?_, h3.1⟩, ?_, ?_⟩
 ·rcases jl.1 (show x ∈ e.2.2.2.1 ++ [((k : Int), (Hh e k b).2.2.2, ())] from hx) with hx | hx
  ·exact h.hin x hx
  ·simp only [jp, List.not_mem_nil, or_false] at hx
   subst hx
   simp only [Ik, jd, Bool.not_eq_true', Bool.and_eq_false_iff, decide_eq_false_iff_not]
   refine ⟨by show ¬ (k : Int) ≥ e.1.1; omega, ?_⟩
   by_cases h9 : (Hh e k b).2.2.2.1 = 9
   ·exact .inl (by show ((Hh e k b).2.2.2.1 != 9) = false; simp [h9])
   ·exact .inr (Int.not_le.2 (h3.2.n h9))
 all_goals
  unfold pM
  cases (Hh e k b).2.2.2.1 == 9 with
  | false => simp
  | true =>
   simp only [cond_true]
   by_cases hl : (Hh e k b).2.2.2.2.2.2.1 < ((ja e.2.1 : Nat) : Int)
   ·rw [Ia hl]
    have h0 := Ax h3.2.act
    have hmem : (e.2.1.getD (Hh e k b).2.2.2.2.2.2.1.toNat []) ∈ e.2.1 := by
     have hlt : (Hh e k b).2.2.2.2.2.2.1.toNat < e.2.1.length := by
      have : (0 : Int) ≤ (Hh e k b).2.2.2.2.2.2.1 := h0
      omega
     rw [qi, je hlt, Option.getD_some]
     exact qo hlt
    have hmc := h.mac _ hmem
    simp only [Gg, jd, decide_eq_true_eq] at hmc
    have := PI (Ec (pH e k b)) (e.2.1.getD (Hh e k b).2.2.2.2.2.2.1.toNat []) 0 ([], []) (by simp)
    simp only [cond_true]
    unfold Ez
    first
     | exact this.2
     | (have h5 := this.1; simp only [j7] at h5; omega)
   ·rw [Ga hl]; simp
theorem AN {β : Type} (MR : List Na → List Cc → Option ((List Da) × Unit)) (RO : List Na → Option (Da × Unit)) (CH : Da → List Da → Option ((List Da) × Unit)) (K : List Da → Option β)
 (hMR : ∀ a l, a.length ≤ Ka → Sd a = true → Gg l = true → MR a l = some (Ez (Ec a) l, ()))
 (hRO : ∀ l, l.length ≤ Ka → Sd l = true → RO l = some (Ec l, ()))
 (hCH : ∀ (a : Da) (l : List Da), l.length ≤ Ka → a.2.1.length ≤ Ka → (∀ x ∈ l, x.2.1.length ≤ Ka) → CH a l = some (Pp Mp a l, ()))
 {e : Cb} (h : Ri e) {k : Nat} {b : Bool} (F : MN e k b) :
 (cond (jx (ja e.2.2.2.1 + ja ([((k : Int), (Hh e k b).2.2.2, ())] : List Na)) Hb)
  (cond ((Hh e k b).2.2.2.1 == (9 : Int))
   (cond (decide ((Hh e k b).2.2.2.2.2.2.1 < ((ja e.2.1 : Nat) : Int)))
    (jz (Ed e.2.1 (Hh e k b).2.2.2.2.2.2.1) fun x8 => jz (MR (pH e k b) x8) fun r9 => jz (RO (pH e k b)) fun r10 =>
     cond (jx (ja r9.1 + ja ([r10.1] : List Da)) Hb) (jz (RO e.2.2.2.1) fun r11 => jz (CH r11.1 (jf r9.1 ([r10.1] : List Da))) fun r12 => K r12.1) none)
    (jz (RO (pH e k b)) fun r13 => cond (jx (ja ([] : List Da) + ja ([r13.1] : List Da)) Hb)
     (jz (RO e.2.2.2.1) fun r14 => jz (CH r14.1 (jf ([] : List Da) ([r13.1] : List Da))) fun r15 => K r15.1) none))
   (jz (RO (pH e k b)) fun r16 => cond (jx (ja ([] : List Da) + ja ([r16.1] : List Da)) Hb)
    (jz (RO e.2.2.2.1) fun r17 => jz (CH r17.1 (jf ([] : List Da) ([r16.1] : List Da))) fun r18 => K r18.1) none))
  none) = K (pR e k b) := by
 have h20 : Ka = 1048576 := rfl
 have hlim := Hg
 have hl1 := Ao h.hd
 have hl2 := Ao F.hd
 have R1 := hRO (pH e k b) (by omega) F.hd
 have R0 := hRO e.2.2.2.1 (by omega) h.hd
 have hr : ∀ r : Da, jx (ja ([] : List Da) + ja ([r] : List Da)) Hb = true := fun r => ji (by simp only [jw, j7]; omega)
 rw [show jx (ja e.2.2.2.1 + ja ([((k : Int), (Hh e k b).2.2.2, ())] : List Na)) Hb = true from ji (by simp only [jw, j7]; omega)]
 have plain : pM e k b = [] → (jz (RO (pH e k b)) fun r13 => cond (jx (ja ([] : List Da) + ja ([r13.1] : List Da)) Hb)
  (jz (RO e.2.2.2.1) fun r14 => jz (CH r14.1 (jf ([] : List Da) ([r13.1] : List Da))) fun r15 => K r15.1) none) = K (pR e k b) := by
  intro hm
  rw [R1, R0]
  simp only [jb]
  rw [hr, hCH _ _ (by simp; omega) (JA _) (fun x hx => by rw [qd.1 (show x ∈ [Ec (pH e k b)] from hx)]; exact JA _)]
  simp only [cond_true, jb]
  unfold pR
  rw [hm]
 simp only [cond_true]
 cases h9 : (Hh e k b).2.2.2.1 == (9 : Int) with
 | false => exact plain (by unfold pM; rw [h9]; rfl)
 | true =>
  simp only [cond_true]
  by_cases hl : (Hh e k b).2.2.2.2.2.2.1 < ((ja e.2.1 : Nat) : Int)
  ·rw [Ia hl]
   simp only [cond_true]
   have h0 : (0 : Int) ≤ (Hh e k b).2.2.2.2.2.2.1 := Ax F.ah.act
   have hlt : (Hh e k b).2.2.2.2.2.2.1.toNat < e.2.1.length := by omega
   have hi : Ed e.2.1 (Hh e k b).2.2.2.2.2.2.1 = some e.2.1[(Hh e k b).2.2.2.2.2.2.1.toNat] := by
    have := Vc (xs := e.2.1) hlt
    rw [Int.toNat_of_nonneg h0] at this
    exact this
   have hM : pM e k b = Ez (Ec (pH e k b)) e.2.1[(Hh e k b).2.2.2.2.2.2.1.toNat] := by
    unfold pM
    rw [h9, Ia hl, qi, je hlt, Option.getD_some]
    rfl
   have ml := F.ml
   have mx := F.mx
   rw [hi]
   simp only [jb]
   rw [hMR _ _ (by omega) F.hd (h.mac _ (qo hlt)), R1, R0, ← hM]
   simp only [jb]
   rw [show jx (ja (pM e k b) + ja ([Ec (pH e k b)] : List Da)) Hb = true from ji (by simp only [jw, j7]; omega)]
   simp only [cond_true]
   rw [hCH _ _ (by show (pM e k b ++ [Ec (pH e k b)]).length ≤ _; simp; omega) (JA _) (fun x hx => by
    rcases jl.1 (show x ∈ pM e k b ++ [Ec (pH e k b)] from hx) with hx | hx
    ·have := mx x hx; omega
    ·rw [qd.1 hx]; exact JA _)]
   rfl
  ·rw [Ga hl]
   exact plain (by unfold pM; rw [h9, Ga hl]; rfl)
theorem Qw {e : Cb} (h : Ri e) {k : Nat} (hk : (k : Int) < e.1.1) (hn : ∀ y ∈ e.2.2.2.1, y.1 ≠ (k : Int)) (b : Bool) :
 Te e (k : Int) b = some (pE e k b, pR e k b, ()) := by
 have h20 : Ka = 1048576 := rfl
 have hm := Sh h.km
 have F := IA h hk hn b
 have hz := Cv h
 have hle := Ao h.hd
 have hl := Bz hm (Bh e.2.2.1 e.2.2.2.1) k
 have hrow := hm.row _ hl
 have tail := AN Jg Bc Wc (fun r => some (pE e k b, r, ())) Mx Gl Fv h F
 unfold Te
 rw [Yi _ (by omega), Ow (QY hm.l2 h.st) _ (by omega) h.hd]
 simp only [jb]
 rw [Jv hm _ hk]
 simp only [jb]
 show jz (Ed e.1.2.1 ((Pf e.1 (Bh e.2.2.1 e.2.2.2.1) k : Nat) : Int)) _ = _
 rw [MS hl (by omega)]
 cases b with
 | true =>
  simp only [cond_true]
  rw [UE]
  simp only [jb]
  show jz (Lj (e.1, e.2.1, e.2.2.1, e.2.2.2.1, e.2.2.2.2.1, e.2.2.2.2.2.1, ()) (Lz e k true)) _ = _
  rw [Rw _ _ _ _ _ _ _ F.act.act]
  simp only [jb]
  exact tail
 | false =>
  simp only [cond_false]
  rw [PG]
  simp only [jb]
  show jz (Lj (e.1, e.2.1, e.2.2.1, e.2.2.2.1, e.2.2.2.2.1, e.2.2.2.2.2.1, ()) (Lz e k false)) _ = _
  rw [Rw _ _ _ _ _ _ _ F.act.act]
  simp only [jb]
  exact tail
theorem KM {l : List Na} {k : Int} : Uc (fun h : Na => h.1 == k) 0 l = -1 ↔ ∀ y ∈ l, y.1 ≠ k := by
 have key : ∀ (l : List Na) (n : Nat), Uc (fun h : Na => h.1 == k) n l = -1 ↔ ∀ y ∈ l, y.1 ≠ k := by
  intro l
  induction l with
  | nil => intro n; simp [Uc]
  | cons x l ih =>
   intro n
   simp only [Uc]
   cases hx : x.1 == k with
   | true =>
    simp only [cond_true, jp, forall_eq_or_imp]
    have hx := eq_of_beq hx
    constructor
    ·intro h; omega
    ·intro h; exact absurd hx h.1
   | false =>
    simp only [cond_false, jp, forall_eq_or_imp]
    rw [ih]
    exact ⟨fun h => ⟨beq_eq_false_iff_ne.1 hx, h⟩, fun h => h.2⟩
 exact key l 0
def wo (l : List Na) (i : Nat) : List Na := jf (l.take i) (l.drop (i + 1))
theorem HJ (l : List Na) (i : Nat) : (wo l i).Sublist l := by
 have h : (l.drop (i + 1)).Sublist (l.drop i) := List.drop_sublist_drop_left l (Nat.le_succ i)
 have h2 := List.Sublist.append (List.Sublist.refl (l.take i)) h
 rw [List.take_append_drop] at h2
 exact h2
def rE (e : Cb) (i : Nat) : Cb := (e.1, e.2.1, e.2.2.1, wo e.2.2.2.1 i, e.2.2.2.2)
def rR (e : Cb) (i : Nat) : List Da := Pp Mp (Ec e.2.2.2.1) [Ec (wo e.2.2.2.1 i)]
theorem I1 {e : Cb} (h : Ri e) (i : Nat) : Ri (rE e i) :=
 ⟨h.km, h.m4, GI h.hd (HJ _ i), h.mac, fun x hx => h.hin x ((HJ _ i).subset hx), h.st⟩
theorem MY {α : Type} (l : List α) (i : Nat) : Lb l (jy (0 : Int)) (jy (i : Int)) = l.take i := by
 simp [Lb]
theorem LY {α : Type} (l : List α) (i : Nat) : Lb l (jy ((i + 1 : Nat) : Int)) (jy ((ja l : Nat) : Int)) = l.drop (i + 1) := by
 simp [Lb]
theorem AC {e : Cb} (h : Ri e) {k : Int} {i : Nat} (hi : i < e.2.2.2.1.length) (hf : Uc (fun h : Na => h.1 == k) 0 e.2.2.2.1 = (i : Int)) :
 Tn e k = some (rE e i, rR e i, ()) := by
 have h20 : Ka = 1048576 := rfl
 have hlim := Hg
 have hz := Cv h
 have hle := Ao h.hd
 have hw := GI h.hd (HJ e.2.2.2.1 i)
 have hwl := Ao hw
 unfold Tn
 rw [Yi _ (by omega), Nw _ _ (by omega), hf]
 simp only [jb]
 rw [Zf (by omega)]
 rw [MY, LY]
 rw [show Pe (ja e.2.2.2.1) (0 : Int) ((i : Nat) : Int) = true from Ry (lo := 0) (by omega) (by omega), Ry (by omega) (by omega)]
 rw [show jx (ja (e.2.2.2.1.take i) + ja (e.2.2.2.1.drop (i + 1))) Hb = true from ji (by simp; omega)]
 simp only [cond_true]
 rw [Gl _ (by omega) h.hd]
 simp only [jb]
 show jz (Bc (wo e.2.2.2.1 i)) _ = _
 rw [Gl _ (by omega) hw]
 simp only [jb]
 rw [Fv _ _ (by simp; omega) (JA _) (fun x hx => by rw [qd.1 hx]; exact JA _)]
 rfl
def TH (md key e : Int) (s : Int) (x : Ua) : Int ⊕ (Int × Int) :=
 cond (Mj x) (cond (decide (x.1 ≥ e)) (.inr (2, e)) (cond (x.2.1 == key) (cond x.2.2.1 (.inl s) (.inr (1, x.1)))
  (cond x.2.2.1 (cond (md == 1) (.inr (2, x.1)) (.inl (Ie .i64 s (Of .i64 1 x.2.1))))
   (cond (md == 2) (cond (Lo s x.2.1 == 1) (.inr (2, x.1)) (.inl s)) (.inl s))))) (.inr (0, 0))
def KY (md key e : Int) (l : List Ua) : Int ⊕ (Int × Int) := Md (fun _ s x => TH md key e s x) 0 0 l
def Ni (t : Ew) (key at_ : Int) (l : List Ua) (til : Int) : Nb :=
 cond (Qe t && decide (0 ≤ at_ ∧ at_ ≤ 1000000)) (match KY t.2.2.1 key (j5 .i64 (at_ + t.1)) l with
  | .inl _ => cond (decide (til ≥ j5 .i64 (at_ + t.1))) (2, j5 .i64 (at_ + t.1), ()) (0, 0, ())
  | .inr r => (r.1, r.2, ())) (0, 0, ())
theorem XB (t : Ew) (key at_ : Int) (l : List Ua) (til : Int) (hn : l.length ≤ Ka) : Zl t key at_ l til = some (Ni t key at_ l til) := by
 have h20 : Ka = 1048576 := rfl
 have hl := Zo (step := fun x => Tj x.1.1 x.1.2.1 x.1.2.2.1 x.1.2.2.2.1 x.1.2.2.2.2.1 x.1.2.2.2.2.2.1 x.1.2.2.2.2.2.2.1 x.1.2.2.2.2.2.2.2.1 x.2.1) l
  (fun _ s x => TH t.2.2.1 key (j5 .i64 (at_ + t.1)) s x) (fun s i => ((key, at_, til, (), s, l, ((ja l : Nat) : Int), i, ()), (t, ())))
  (fun s => .inl ((at_, til, (), ()), (t, ()))) (fun r => .inr ((r.1, r.2, ()), ())) (fun _ _ => True) (by
   intro k hk s _
   refine ⟨?_, fun _ _ => trivial⟩
   simp only [Tj]
   rw [Ia (show (k : Int) < ((ja l : Nat) : Int) by omega), Vc hk]
   simp only [cond_true, jb]
   rw [Gv]
   unfold TH
   cases he : Mj l[k] with
   | false => rfl
   | true =>
    have hk' := Es he
    rw [Ia hk'.2.2.1, Tr s hk'.2.2.1]
    simp only [cond_true, jb, jg, cond_false]
    cases decide (l[k].1 ≥ j5 .i64 (at_ + t.1)) <;> cases l[k].2.1 == key <;> cases l[k].2.2.1 <;> cases t.2.2.1 == 1 <;> cases t.2.2.1 == 2 <;> cases Lo s l[k].2.1 == 1 <;> rfl) (by
   intro s _
   simp only [Tj]
   rw [Ga (by omega)]; rfl) (by omega) 0 trivial
 unfold Zl Cl Ni
 rw [Ft]
 simp only [jb]
 cases Qe t with
 | false => rfl
 | true =>
  by_cases h1 : at_ < 0
  ·rw [Ia h1, Ga (show ¬ (0 ≤ at_ ∧ at_ ≤ 1000000) by omega)]; rfl
  ·by_cases h2 : at_ > 1000000
   ·rw [Ga h1, Ia h2, Ga (show ¬ (0 ≤ at_ ∧ at_ ≤ 1000000) by omega)]; rfl
   ·rw [Ga h1, Ga h2, Ia (show (0 ≤ at_ ∧ at_ ≤ 1000000) by omega)]
    simp only [jg, cond_false]
    erw [hl]
    unfold KY
    cases Md (fun _ s x => TH t.2.2.1 key (j5 .i64 (at_ + t.1)) s x) 0 0 l with
    | inl s =>
     simp only [jb, qj]
     cases decide (til ≥ j5 .i64 (at_ + t.1)) <;> rfl
    | inr r => rfl
def Qp (l : List Na) (j : Nat) : Bool := l.any (fun h => h.1 == (j : Int))
structure Xt (l : List Na) (m : Nat) : Prop where
 lt : m < 2 ^ 63
 bit : ∀ j, m.testBit j = Qp l j
theorem NK : ∀ (l : List Na) (k : Nat) (s : Nat), s < 2 ^ 63 → (∀ x ∈ l, Ro x) →
 ∃ m : Nat, Be (fun _ s (x : Na) => Ie .i64 s (Of .i64 1 x.1)) k (s : Int) l = (m : Int) ∧ m < 2 ^ 63 ∧ ∀ j, m.testBit j = (s.testBit j || Qp l j)
 | [], _, s, hs, _ => ⟨s, rfl, hs, fun j => by simp [Qp]⟩
 | x :: l, k, s, hs, h => by
  have hx := h x (by simp)
  obtain ⟨n, hn⟩ := jv hx.lo
  have := hx.hi
  simp only [Be]
  rw [hn, MA (by omega), IK hs (Ou (by omega))]
  obtain ⟨m, h1, h2, h3⟩ := NK l (k + 1) _ (Nat.or_lt_two_pow hs (Ou (show n ≤ 62 by omega))) (fun y hy => h y (by simp [hy]))
  refine ⟨m, h1, h2, fun j => ?_⟩
  rw [h3, Nat.testBit_or, ql]
  simp only [Qp, List.any_cons, hn]
  rw [show (((n : Nat) : Int) == ((j : Nat) : Int)) = decide (n = j) by rw [qt]; simp [Int.ofNat_inj]]
  rw [Bool.or_assoc]
theorem OV {l : List Na} (h : Sd l = true) : ∃ m : Nat, Sl l = (m : Int) ∧ Xt l m := by
 obtain ⟨m, h1, h2, h3⟩ := NK l 0 0 (by decide) (Ns h)
 exact ⟨m, h1, h2, fun j => by rw [h3]; simp⟩
theorem VM {l : List Na} {m k : Nat} (h : Xt l m) (hk : k ≤ 62) (hb : Qp l k = false) (a : Ha) : Xt (jf l [((k : Int), a, ())]) (m ^^^ 2 ^ k) := by
 refine ⟨qn h.lt (Ou hk), fun j => ?_⟩
 rw [Nat.testBit_xor, ql, h.bit]
 show _ = Qp (l ++ [((k : Int), a, ())]) j
 simp only [Qp, List.any_append, List.any_cons, List.any_nil, Bool.or_false]
 rw [show (((k : Nat) : Int) == ((j : Nat) : Int)) = decide (k = j) by rw [qt]; simp [Int.ofNat_inj]]
 by_cases hj : k = j
 ·subst hj
  simp only [Qp] at hb
  rw [hb, Ia rfl]; rfl
 ·rw [Ga hj]; simp
theorem X0 {l : List Na} (hp : l.Pairwise (fun x y => x.1 ≠ y.1)) {i : Nat} (hi : i < l.length) (j : Int) : (wo l i).any (fun h => h.1 == j) = (l.any (fun h => h.1 == j) && !(l[i].1 == j)) := by
 rw [qt]
 simp only [List.any_eq_true, jd, Bool.not_eq_true', beq_iff_eq, beq_eq_false_iff_ne, wo]
 rw [List.pairwise_iff_getElem] at hp
 constructor
 ·rintro ⟨x, hx, hj⟩
  rcases jl.1 (show x ∈ l.take i ++ l.drop (i + 1) from hx) with hx | hx
  ·obtain ⟨n, hn, rfl⟩ := qq hx
   rw [List.getElem_take] at hj
   have hn2 : n < i ∧ n < l.length := by rw [List.length_take] at hn; omega
   exact ⟨⟨_, qo hn2.2, hj⟩, fun h => hp n i hn2.2 hi hn2.1 (hj.trans h.symm)⟩
  ·obtain ⟨n, hn, rfl⟩ := qq hx
   rw [List.getElem_drop] at hj
   have hn2 : i + 1 + n < l.length := by rw [qs] at hn; omega
   exact ⟨⟨_, qo hn2, hj⟩, fun h => hp i (i + 1 + n) hi hn2 (by omega) (h.trans hj.symm)⟩
 ·rintro ⟨⟨x, hx, hj⟩, hne⟩
  obtain ⟨n, hn, rfl⟩ := qq hx
  refine ⟨l[n], jl.2 ?_, hj⟩
  rcases Nat.lt_trichotomy n i with h | h | h
  ·exact .inl (List.mem_take_iff_getElem.2 ⟨n, by omega, rfl⟩)
  ·subst h; exact absurd hj hne
  ·exact .inr (List.mem_drop_iff_getElem.2 ⟨n - (i + 1), by omega, by congr 1; omega⟩)
theorem QI {l : List Na} (hp : l.Pairwise (fun x y => x.1 ≠ y.1)) {m k i : Nat} (h : Xt l m) (hk : k ≤ 62) (hi : i < l.length) (hb : l[i].1 = (k : Int)) : Xt (wo l i) (m ^^^ 2 ^ k) := by
 refine ⟨qn h.lt (Ou hk), fun j => ?_⟩
 rw [Nat.testBit_xor, ql, h.bit]
 simp only [Qp]
 rw [X0 hp hi, hb]
 rw [show (((k : Nat) : Int) == ((j : Nat) : Int)) = decide (k = j) by rw [qt]; simp [Int.ofNat_inj]]
 by_cases hj : k = j
 ·subst hj
  rw [Ia rfl]
  have : l.any (fun h => h.1 == (k : Int)) = true := List.any_eq_true.2 ⟨l[i], qo hi, by rw [hb]; simp⟩
  rw [this]; rfl
 ·rw [Ga hj]; simp
theorem VA {α S R : Type} (g : S → α → S ⊕ R) : ∀ (l : List α) (k j : Nat) (s : S), Md (fun _ s x => g s x) k s l = Md (fun _ s x => g s x) j s l
 | [], _, _, _ => rfl
 | x :: l, k, j, s => by
  simp only [Md]
  cases g s x with
  | inl s' => exact VA g l (k + 1) (j + 1) s'
  | inr r => rfl
structure ME (d : Jb) : Prop where
 eng : Ri d.1
 len : d.2.2.1.length ≤ 64
 key : ∀ x ∈ d.2.2.1, x.2.1 < d.1.1.1
 fol : ∃ (m : Nat) (t : Int), Xt d.1.2.2.2.1 m ∧ Zy (Md (fun _ s x => Bt s x) 0 (t, (m : Int)) d.2.2.1) = true
def YF (e : Cb) (k : Int) : Nat := (Uc (fun h : Na => h.1 == k) 0 e.2.2.2.1).toNat
noncomputable def Qk (d : Jb) (x : Ua) (r : List Ua) : Option (Jb × List Da) :=
 cond (!x.2.2.1)
  (some ((rE d.1 (YF d.1 x.2.1), d.2.1, r, d.2.2.2.1, max d.2.2.2.2.1 x.1, d.2.2.2.2.2.1, cond (d.2.2.2.2.2.1 == j5 .i64 (x.2.1 + 1)) x.1 d.2.2.2.2.2.2.1, ()), rR d.1 (YF d.1 x.2.1)))
  (cond (Td (Rg d.1.1.2.1 (Pf d.1.1 (Bh d.1.2.2.1 d.1.2.2.2.1) x.2.1.toNat) x.2.1.toNat))
   (
    let ch : Int × Int := cond ((d.2.2.2.2.2.1 == j5 .i64 (x.2.1 + 1)) && !decide (j5 .i64 (x.1 - d.2.2.2.2.2.2.1) ≥ d.2.1.2.1)) (1, x.1) ((Ni d.2.1 x.2.1 x.1 r d.2.2.2.1).1, (Ni d.2.1 x.2.1 x.1 r d.2.2.2.1).2.1)
    cond (ch.1 == 0) none
     (some ((pE d.1 x.2.1.toNat (ch.1 == 2), d.2.1, r, d.2.2.2.1, max (max d.2.2.2.2.1 x.1) ch.2, cond (ch.1 == 2) 0 (j5 .i64 (x.2.1 + 1)), cond (ch.1 == 2) d.2.2.2.2.2.2.1 x.1, ()), pR d.1 x.2.1.toNat (ch.1 == 2))))
   (some ((pE d.1 x.2.1.toNat false, d.2.1, r, d.2.2.2.1, max d.2.2.2.2.1 x.1, d.2.2.2.2.2.1, d.2.2.2.2.2.2.1, ()), pR d.1 x.2.1.toNat false)))
structure XU (d : Jb) (x : Ua) (r : List Ua) : Prop where
 ev : Mj x = true
 key : x.2.1 < d.1.1.1
 up : x.2.2.1 = false → ∃ hi : YF d.1 x.2.1 < d.1.2.2.2.1.length, Uc (fun h : Na => h.1 == x.2.1) 0 d.1.2.2.2.1 = ((YF d.1 x.2.1 : Nat) : Int) ∧ (d.1.2.2.2.1[YF d.1 x.2.1]'hi).1 = x.2.1
 down : x.2.2.1 = true → ∀ y ∈ d.1.2.2.2.1, y.1 ≠ x.2.1
theorem UF {α : Type} (p : α → Bool) : ∀ (xs : List α) (k j : Nat), j < xs.length → Uc p k xs = ((k + j : Nat) : Int) → ∃ h : j < xs.length, p xs[j] = true
 | [], _, _, hj, _ => absurd hj (by simp)
 | x :: xs, k, j, hj, h => by
  simp only [Uc] at h
  cases hx : p x with
  | true =>
   rw [hx] at h
   simp only [cond_true] at h
   have : j = 0 := by omega
   subst this
   exact ⟨hj, hx⟩
  | false =>
   rw [hx] at h
   simp only [cond_false] at h
   cases j with
   | zero =>
    rcases Hs p xs (k + 1) with h1 | ⟨i, _, h1⟩ <;> (rw [h1] at h; omega)
   | succ j =>
    have hj' : j < xs.length := by simp at hj; omega
    obtain ⟨_, h2⟩ := UF p xs (k + 1) j hj' (by rw [h]; omega)
    exact ⟨hj, h2⟩
theorem ZH {d : Jb} {x : Ua} {r : List Ua} (h : ME d) (hq : d.2.2.1 = x :: r) : XU d x r := by
 obtain ⟨m, t, hm, hf⟩ := h.fol
 rw [hq] at hf
 simp only [Md, Bt] at hf
 cases ho : Lw (t, (m : Int)) x with
 | false => rw [ho] at hf; exact absurd hf (by simp [Zy])
 | true =>
  simp only [Lw, jd] at ho
  obtain ⟨h1, h2, h3⟩ := ho
  have hk := Es h1
  obtain ⟨n, hn⟩ := jv hk.2.2.1
  have hn' : x.2.1 = (n : Int) := hn
  rw [hn', MB hm.lt (by omega), hm.bit] at h3
  refine ⟨h1, h.key x (by rw [hq]; simp), fun hu => ?_, fun hd => ?_⟩
  ·rw [hu] at h3
   have h4 : Qp d.1.2.2.2.1 n = true := by
    cases hh : Qp d.1.2.2.2.1 n with
    | true => rfl
    | false => rw [hh] at h3; exact absurd h3 (by decide)
   rcases Hs (fun h : Na => h.1 == x.2.1) d.1.2.2.2.1 0 with h5 | ⟨j, hj, h5⟩
   ·rw [KM] at h5
    simp only [Qp, List.any_eq_true, beq_iff_eq] at h4
    obtain ⟨y, hy, hyk⟩ := h4
    exact absurd (hyk.trans hn'.symm) (h5 y hy)
   ·have e : YF d.1 x.2.1 = j := by unfold YF; rw [h5]; omega
    obtain ⟨h6, h7⟩ := UF _ _ _ _ hj h5
    have h7' := eq_of_beq h7
    refine ⟨by omega, by rw [h5, e]; omega, ?_⟩
    simp only [e]
    exact h7'
  ·rw [hd] at h3
   intro y hy he
   have : Qp d.1.2.2.2.1 n = true := List.any_eq_true.2 ⟨y, hy, by rw [he, hn']; simp⟩
   rw [this] at h3
   exact absurd h3 (by decide)
theorem YV {d d' : Jb} {x : Ua} {r : List Ua} {l : List Da} (h : ME d) (hq : d.2.2.1 = x :: r) (hs : Qk d x r = some (d', l)) :
 ME d' ∧ d'.2.2.1 = r ∧ l.length ≤ 17 ∧ (∀ y ∈ l, y.2.1.length ≤ 56) := by
 have hF := ZH h hq
 have hk := Es hF.ev
 obtain ⟨n, hn⟩ := jv hk.2.2.1
 have hn' : x.2.1 = (n : Int) := hn
 obtain ⟨m, t, hm, hf⟩ := h.fol
 have hfol : Zy (Md (fun _ s x => Bt s x) 0 (x.1, ((m ^^^ 2 ^ n : Nat) : Int)) r) = true := by
  rw [hq] at hf
  simp only [Md, Bt] at hf
  cases ho : Lw (t, (m : Int)) x with
  | false => rw [ho] at hf; exact absurd hf (by simp [Zy])
  | true =>
   rw [ho] at hf
   simp only [cond_true, hn', MA (show n ≤ 62 by omega)] at hf
   rw [SS hm.lt (Ou (by omega))] at hf
   rw [VA Bt r 0 1]
   exact hf
 have hlen : r.length ≤ 64 := by have := h.len; rw [hq] at this; simp at this; omega
 have hkey : ∀ y ∈ r, y.2.1 < d.1.1.1 := fun y hy => h.key y (by rw [hq]; simp [hy])
 have hp := ((Lx d.1.2.2.2.1).1 h.eng.hd).2
 have press : ∀ b : Bool, x.2.2.1 = true → Ri (pE d.1 n b) ∧ Xt (pE d.1 n b).2.2.2.1 (m ^^^ 2 ^ n) ∧ (pR d.1 n b).length ≤ 17 ∧ (∀ y ∈ pR d.1 n b, y.2.1.length ≤ 56) := by
  intro b hd
  have hn2 := hF.down hd
  rw [hn'] at hn2
  have F := IA h.eng (k := n) (by have := hF.key; omega) hn2 b
  refine ⟨F.ok, VM hm (by omega) ?_ _, ?_, fun y hy => ?_⟩
  ·cases hh : Qp d.1.2.2.2.1 n with
   | false => rfl
   | true =>
    simp only [Qp, List.any_eq_true, beq_iff_eq] at hh
    obtain ⟨y, hy, hyk⟩ := hh
    exact absurd hyk (hn2 y hy)
  ·have := Hx (jf (pM d.1 n b) [Ec (pH d.1 n b)]) (Ec d.1.2.2.2.1)
   have h9 := F.ml
   unfold pR
   have : (jf (pM d.1 n b) [Ec (pH d.1 n b)]).length = (pM d.1 n b).length + 1 := by simp
   omega
  ·have := Du _ _ _ hy
   rcases jl.1 (show y ∈ pM d.1 n b ++ [Ec (pH d.1 n b)] from this) with h1 | h1
   ·exact F.mx y h1
   ·rw [qd.1 h1]; exact Rq _
 unfold Qk at hs
 cases hd : x.2.2.1 with
 | false =>
  rw [hd] at hs
  simp only [j9, cond_true, jc, jh] at hs
  obtain ⟨rfl, rfl⟩ := hs
  obtain ⟨hi, hi1, hi2⟩ := hF.up hd
  refine ⟨⟨I1 h.eng _, hlen, hkey, _, _, QI hp hm (by omega) hi (by rw [hi2, hn']), hfol⟩, rfl, ?_, fun y hy => ?_⟩
  ·have := Hx [Ec (wo d.1.2.2.2.1 (YF d.1 x.2.1))] (Ec d.1.2.2.2.1)
   unfold rR
   simp only [jw, j7] at this
   omega
  ·have := Du _ _ _ hy
   rw [qd.1 this]; exact Rq _
 | true =>
  rw [hd] at hs
  simp only [jg, cond_false, hn', jn] at hs
  cases ht : Td (Rg d.1.1.2.1 (Pf d.1.1 (Bh d.1.2.2.1 d.1.2.2.2.1) n) n) with
  | false =>
   rw [ht] at hs
   simp only [cond_false, jc, jh] at hs
   obtain ⟨rfl, rfl⟩ := hs
   have P := press false hd
   exact ⟨⟨P.1, hlen, hkey, _, _, P.2.1, hfol⟩, rfl, P.2.2⟩
  | true =>
   rw [ht] at hs
   simp only [cond_true] at hs
   revert hs
   generalize (cond ((d.2.2.2.2.2.1 == j5 .i64 ((n : Int) + 1)) && !decide (j5 .i64 (x.1 - d.2.2.2.2.2.2.1) ≥ d.2.1.2.1)) ((1 : Int), x.1) ((Ni d.2.1 (n : Int) x.1 r d.2.2.2.1).1, (Ni d.2.1 (n : Int) x.1 r d.2.2.2.1).2.1)) = ch
   intro hs
   cases h0 : ch.1 == 0 with
   | true => rw [h0] at hs; simp at hs
   | false =>
    rw [h0] at hs
    simp only [cond_false, jc, jh] at hs
    obtain ⟨rfl, rfl⟩ := hs
    have P := press (ch.1 == 2) hd
    exact ⟨⟨P.1, hlen, hkey, _, _, P.2.1, hfol⟩, rfl, P.2.2⟩
theorem Iu {m : Ta} (hz : Xb Ib m ≤ Ka) (hv : Bd m = true) (on : Int) {k : Nat} (hk : (k : Int) < m.1) :
 Yl m on (k : Int) = some (Rg m.2.1 (Pf m on k) k, ()) := by
 have hm := Sh hv
 have hl := Bz hm on k
 have hrow := hm.row _ hl
 unfold Yl Ku
 rw [Ju _ hz, hv, Ga (show ¬ (k : Int) < 0 by omega), Ga (show ¬ (k : Int) ≥ m.1 by omega), Jv hm _ hk]
 simp only [jb, jg, cond_false]
 rw [Ga (by omega)]
 simp only [cond_false]
 show (jz (Ed m.2.1 ((Pf m on k : Nat) : Int)) _) = _
 rw [MS hl (by omega)]
theorem FM (t : Ew) (key at_ : Int) (l : List Ua) (til : Int) : (Ni t key at_ l til).1 = 0 ∨ (Ni t key at_ l til).1 = 1 ∨ (Ni t key at_ l til).1 = 2 := by
 have key2 : ∀ (md k' e : Int) (l : List Ua) (k : Nat) (s : Int) (r : Int × Int), Md (fun _ s x => TH md k' e s x) k s l = .inr r → r.1 = 0 ∨ r.1 = 1 ∨ r.1 = 2 := by
  intro md k' e l
  induction l with
  | nil => intro k s r h; simp [Md] at h
  | cons x l ih =>
   intro k s r h
   simp only [Md] at h
   revert h
   cases hg : TH md k' e s x with
   | inl s' => intro h; exact ih _ _ _ h
   | inr r' =>
    intro h
    simp only [Sum.inr.injEq] at h
    subst h
    unfold TH at hg
    revert hg
    cases Mj x <;> cases decide (x.1 ≥ e) <;> cases x.2.1 == k' <;> cases x.2.2.1 <;> cases md == 1 <;> cases md == 2 <;> cases Lo s x.2.1 == 1 <;> (intro hg; cases hg) <;> simp
 unfold Ni
 cases Qe t && decide (0 ≤ at_ ∧ at_ ≤ 1000000) with
 | false => exact .inl rfl
 | true =>
  simp only [cond_true]
  cases h : KY t.2.2.1 key (j5 .i64 (at_ + t.1)) l with
  | inl s => cases decide (til ≥ j5 .i64 (at_ + t.1)) <;> simp
  | inr r => exact key2 _ _ _ _ _ _ _ h
theorem CS {α : Type} (x : α) (r : List α) (hr : r.length ≤ 64) : Pe (ja (x :: r)) (1 : Int) ((ja (x :: r) : Nat) : Int) = true ∧ Lb (x :: r) (jy (1 : Int)) (jy ((ja (x :: r) : Nat) : Int)) = r := by
 refine ⟨Ry (lo := 1) (by simp) (by simp), ?_⟩
 show List.drop 1 (List.take _ (x :: r)) = r
 rw [jn, List.take_length]; rfl
def XV (d : Jb) : Option (Jb × List Da) → Jb × ((List Da) × (Bool × Unit))
 | none => (d, ([], false, ()))
 | some (d', l) => (d', (l, true, ()))
theorem QD {d : Jb} {x : Ua} {r : List Ua} (h : ME d) (hq : d.2.2.1 = x :: r) : Cf d = some (XV d (Qk d x r)) := by
 have h20 : Ka = 1048576 := rfl
 have hF := ZH h hq
 have hk := Es hF.ev
 have hlen : r.length ≤ 64 := by have := h.len; rw [hq] at this; simp at this; omega
 have hz := Cv h.eng
 have hzm := (WD h.eng.km).z
 have hle := Ao h.eng.hd
 obtain ⟨n, hn⟩ := jv hk.2.2.1
 have hn' : x.2.1 = (n : Int) := hn
 obtain ⟨e, t, q, now, clk, tp, ta, u⟩ := d
 obtain ⟨xt, xk, xd, xu⟩ := x
 cases u
 simp only at hq hn' hF hz hzm hle hk
 subst hq
 subst hn'
 have hc := CS ((xt, (n : Int), xd, xu) : Ua) r hlen
 have hb : jx (ja ([] : List Ua) + ja r) Hb = true := ji (by simp; rw [Hg]; omega)
 have i0 : Gh (ja (((xt, (n : Int), xd, xu) : Ua) :: r)) (0 : Int) = true := by rw [show (0 : Int) = ((0 : Nat) : Int) from rfl, Cr]; exact Ia (by simp)
 have g0 : (((xt, (n : Int), xd, xu) : Ua) :: r)[(jy (0 : Int))]? = some (xt, (n : Int), xd, xu) := rfl
 unfold Cf
 simp only [i0, g0, hc.1, hc.2, hb, cond_true, jb]
 unfold Qk
 cases xd with
 | false =>
  obtain ⟨hi, hi1, hi2⟩ := hF.up rfl
  rw [AC h.eng hi hi1]
  simp only [j9, cond_true, jb]
  cases tp == j5 .i64 ((n : Int) + 1) <;> rfl
 | true =>
  have hd := hF.down rfl
  have hkey := hF.key
  have hp := fun b => Qw h.eng (k := n) hkey hd b
  simp only at hp hkey hd
  have hly := Ow (QY (Sh h.eng.km).l2 h.eng.st) _ (show e.2.2.2.1.length ≤ Ka by omega) h.eng.hd
  simp only at hly
  rw [hly]
  have hch := XB t (n : Int) xt r now (by omega)
  have hac := Iu (m := e.1) (by omega) h.eng.km (Bh e.2.2.1 e.2.2.2.1) hkey
  simp only [jb, jg, cond_false, jn, hac, Vj, hch, hp]
  cases Td (Rg e.1.2.1 (Pf e.1 (Bh e.2.2.1 e.2.2.2.1) n) n) with
  | false => rfl
  | true =>
   simp only [cond_true]
   have hv := FM t (n : Int) xt r now
   have hne : (tp != j5 .i64 ((n : Int) + 1)) = !(tp == j5 .i64 ((n : Int) + 1)) := rfl
   rw [hne]
   cases tp == j5 .i64 ((n : Int) + 1) with
   | false =>
    simp only [j9, cond_true, qm, cond_false]
    rcases hv with hv | hv | hv <;> (rw [hv]; rfl)
   | true =>
    simp only [jg, cond_false, jk]
    cases decide (j5 .i64 (xt - ta) ≥ t.2.1) with
    | true =>
     simp only [jg, cond_true, cond_false]
     rcases hv with hv | hv | hv <;> (rw [hv]; rfl)
    | false => rfl
theorem QJ {X R : Type} {step : X → Option (X ⊕ R)} {α S : Type} (xs : List α) (g : S → α → S) (I : S → Nat → X) (out : S → R) (Jf : Nat → S → Prop)
 (h : ∀ k (hk : k < xs.length) s, Jf k s → step (I s k) = some (.inl (I (g s xs[k]) (k + 1))) ∧ Jf (k + 1) (g s xs[k]))
 (he : ∀ s, Jf xs.length s → step (I s xs.length) = some (.inr (out s))) (s0 : S) (h0 : Jf 0 s0) :
 Yb step (I s0 0) = some (out (xs.foldl g s0)) ∧ Jf xs.length (xs.foldl g s0) := by
 have key : ∀ (ys : List α) (k : Nat) (s : S), xs.drop k = ys → k ≤ xs.length → Jf k s → Yb step (I s k) = some (out (ys.foldl g s)) ∧ Jf xs.length (ys.foldl g s) := by
  intro ys
  induction ys with
  | nil =>
   intro k s hd hle hi
   have := QB hd hle
   subst this
   rw [Vf (he s hi)]
   exact ⟨rfl, hi⟩
  | cons y ys ih =>
   intro k s hd hle hi
   obtain ⟨hk, hy, hd'⟩ := Sy hd
   obtain ⟨h1, h2⟩ := h k hk s hi
   rw [Vf h1, hy]
   rw [hy] at h2
   exact ih (k + 1) _ hd' hk h2
 exact key xs 0 s0 rfl (Nat.zero_le _) h0
def Ph (s : List Oe) (w : Int) (l : List Da) : List Oe := jf s (l.map fun r => ((w, r, ()) : Oe))
theorem XF (w : Int) : ∀ (l : List Da) (s : List Oe), l.foldl (fun s r => jf s [((w, r, ()) : Oe)]) s = Ph s w l
 | [], s => by simp [Ph]
 | x :: l, s => by
  rw [List.foldl_cons, XF w l]
  simp [Ph]
theorem Vs (s : List Oe) (w : Int) (l : List Da) : (Ph s w l).length = s.length + l.length := by simp [Ph]
theorem JI (s : List Oe) (w : Int) (l : List Da) (hl : l.length ≤ 1000) (hs : s.length ≤ 1000000) : Ms s w l = some (Ph s w l, ()) := by
 have h := (QJ (step := fun x => Hp x.1.1 x.1.2.1 x.1.2.2.1 x.1.2.2.2.1 x.1.2.2.2.2.1) l (fun s r => jf s [((w, r, ()) : Oe)])
  (fun o k => ((o, w, (l, (k : Int)), ((ja l : Nat) : Int), (k : Int), ()), ())) (fun o => .inl ((o, ()), ())) (fun k o => o.length = s.length + k) (by
   intro k hk o ho
   refine ⟨?_, by simp [ho]; omega⟩
   simp only [Hp]
   rw [Ia (by omega), Cr, Ia hk, jn, je hk]
   simp only [cond_true, jb, Nat.beq_refl]
   rw [show jx (ja o + ja ([(w, l[k], ())] : List Oe)) Hb = true from ji (by simp only [jw, j7]; rw [Hg]; omega)]
   rw [Zf (by omega)]
   rfl) (by
   intro o ho
   simp only [Hp]
   rw [Ga (by omega)]; rfl) s rfl).1
 unfold Ms Tp
 erw [h]
 rw [XF]
 rfl
noncomputable def Sf : Nat → Jb → List Oe → Jb × List Oe
 | 0, d, s => (d, s)
 | n + 1, d, s => match d.2.2.1 with
  | [] => (d, s)
  | x :: r => match Qk d x r with
   | none => (d, s)
   | some (d', l) => Sf n d' (Ph s d'.2.2.2.2.1 l)
theorem XA (z : Jb) : ∀ (n : Nat) (d : Jb) (s : List Oe), ME d → d.2.2.1.length ≤ n → s.length + 17 * n ≤ 100000 →
 Wd (((), (), s, ()), (z, d, ())) = some (.inl (((), (), (Sf n d s).2, ()), (z, (Sf n d s).1, ())))
 | n, d, s, h, hl, hs => by
  unfold Wd
  cases hq : d.2.2.1 with
  | nil =>
   have e1 : Sf n d s = (d, s) := by
    cases n with
    | zero => rfl
    | succ n => simp only [Sf, hq]
   have hstep : Re () () s z d = some (.inr (.inl (((), (), s, ()), (z, d, ())))) := by
    unfold Re
    rw [hq, Ga (by simp)]; rfl
   erw [Vf hstep]
   rw [e1]; rfl
  | cons x r =>
   have hlen : d.2.2.1.length = r.length + 1 := by rw [hq]; rfl
   cases n with
   | zero => omega
   | succ n =>
    have e1 : Sf (n + 1) d s = match Qk d x r with
     | none => (d, s)
     | some (d', l) => Sf n d' (Ph s d'.2.2.2.2.1 l) := by simp only [Sf, hq]
    rw [e1]
    have hp := QD h hq
    cases hst : Qk d x r with
    | none =>
     have hstep : Re () () s z d = some (.inr (.inl (((), (), s, ()), (z, d, ())))) := by
      unfold Re
      rw [Ia (by rw [hlen]; omega)]
      show (jz (Cf d) _) = _
      rw [hp, hst]; rfl
     erw [Vf hstep]; rfl
    | some p =>
     obtain ⟨d', l⟩ := p
     have hn := YV h hq hst
     have hstep : Re () () s z d = some (.inl (((), (), Ph s d'.2.2.2.2.1 l, ()), (z, d', ()))) := by
      unfold Re
      rw [Ia (by rw [hlen]; omega)]
      show (jz (Cf d) _) = _
      rw [hp, hst]
      show jz (Ms s d'.2.2.2.2.1 l) _ = _
      rw [JI _ _ _ (by have := hn.2.2.1; omega) (by omega)]
      rfl
     erw [Vf hstep]
     have ih := XA z n d' (Ph s d'.2.2.2.2.1 l) hn.1 (by rw [hn.2.1]; omega) (by rw [Vs]; have := hn.2.2.1; omega)
     unfold Wd at ih
     exact ih
def RC : Jb := ((((0 : Int), ([] : List (List Ha)), ()), ([] : List (List Cc)), (0 : Int), ([] : List Na), (0 : Int), false, ()), ((0 : Int), (0 : Int), (0 : Int), ()), ([] : List Ua), (0 : Int), (0 : Int), (0 : Int), (0 : Int), ())
def QU (l : List Ua) : Int := (l.headD (0, 0, false, ())).1
def Vp (l : List Ua) (t : Int) : Bool := ((l.length : Int) == 0) || !decide (QU l < t)
noncomputable def Rk (d : Jb) (l : List Ua) (til : Int) : Bool :=
 Ff d && (decide (d.2.2.2.1 ≤ til ∧ til ≤ 1000000) && (Vp l d.2.2.2.1 && (Tl l til && Ad (jf d.2.2.1 l) (Sl d.1.2.2.2.1) d.1.1.1)))
def Jm (d : Jb) (l : List Ua) (til : Int) : Jb := (d.1, d.2.1, jf d.2.2.1 l, til, d.2.2.2.2)
noncomputable def Zm (d : Jb) (l : List Ua) (til : Int) : Jb × ((List Oe) × (Bool × Unit)) :=
 cond (Rk d l til) ((Sf (Jm d l til).2.2.1.length (Jm d l til) []).1, (Sf (Jm d l til).2.2.1.length (Jm d l til) []).2, true, ()) (RC, [], false, ())
theorem AI {q : List Ua} {d k : Int} (h : Ad q d k = true) : q.length ≤ 64 := by
 simp only [Ad, jd, Qt] at h
 by_cases h1 : q.length ≤ 64
 ·exact h1
 ·rw [Ga h1] at h; simp at h
theorem DV {d : Jb} {l : List Ua} {til : Int} (hd : Ff d = true) (hf : Ad (jf d.2.2.1 l) (Sl d.1.2.2.2.1) d.1.1.1 = true) : ME (Jm d l til) := by
 have he : Ri d.1 := by
  rw [← Jw]
  simp only [Ff, jd] at hd
  exact hd.1
 obtain ⟨m, hm, hm2⟩ := OV he.hd
 refine ⟨he, AI hf, ?_, m, 0, hm2, ?_⟩
 ·have h1 := hf
  simp only [Ad, jd, MI] at h1
  have h2 := h1.1
  intro x hx
  have h3 := (PH (p := fun x : Ua => !decide (x.2.1 ≥ d.1.1.1))).1 h2 x hx
  simp only [Bool.not_eq_true', decide_eq_false_iff_not] at h3
  show x.2.1 < d.1.1.1
  omega
 ·have := GS hf
  rw [hm] at this
  exact this
theorem NS {l : List Ua} (h : 0 < l.length) : ∃ x, Ed l (0 : Int) = some x ∧ x.1 = QU l := by
 cases l with
 | nil => simp at h
 | cons x l => exact ⟨x, rfl, rfl⟩
theorem Is (d : Jb) (l : List Ua) (til : Int) (hz : Xb Gd d ≤ Ka) (hl : l.length ≤ 1000000) : Vi d l til = some (Zm d l til) := by
 have h20 : Ka = 1048576 := rfl
 have hz' := hz
 rw [Hw, Kr] at hz'
 have hz2 := hz'
 rw [Fu, Vt] at hz2
 have hlapp : (jf d.2.2.1 l).length = d.2.2.1.length + l.length := by simp
 have hlim : jx (ja d.2.2.1 + ja l) Hb = true := ji (by rw [Hg]; omega)
 unfold Vi Zm
 rw [Et _ hz, Gt _ _ (by omega), Iy _ hz]
 cases hd : Ff d with
 | false => rw [show Rk d l til = false by unfold Rk; rw [hd]; rfl]; rfl
 | true =>
  have hh : ∀ x ∈ d.1.2.2.2.1, Ro x := by
   have : Rh d.1 = true := by simp only [Ff, jd] at hd; exact hd.1
   exact Ns (SA this)
  have h64 : d.2.2.1.length ≤ 64 := by
   simp only [Ff, jd] at hd
   exact AI hd.2.2.2.2.1
  rw [Lu _ (by omega) hh]
  simp only [jb, jg, cond_false, hlim, cond_true]
  rw [Ht _ _ _ (by rw [hlapp]; omega)]
  simp only [jb]
  have key : ∀ (K : Option (Jb × ((List Oe) × (Bool × Unit)))), (Ad (jf d.2.2.1 l) (Sl d.1.2.2.2.1) d.1.1.1 = true → K = some ((Sf (Jm d l til).2.2.1.length (Jm d l til) []).1, (Sf (Jm d l til).2.2.1.length (Jm d l til) []).2, true, ())) →
   (cond (decide (til < d.2.2.2.1)) (some (RC, [], false, ())) (cond (decide (til > 1000000)) (some (RC, [], false, ())) (cond (!Vp l d.2.2.2.1) (some (RC, [], false, ())) (cond (!Tl l til) (some (RC, [], false, ())) (cond (!Ad (jf d.2.2.1 l) (Sl d.1.2.2.2.1) d.1.1.1) (some (RC, [], false, ())) K))))) =
   some (cond (Rk d l til) ((Sf (Jm d l til).2.2.1.length (Jm d l til) []).1, (Sf (Jm d l til).2.2.1.length (Jm d l til) []).2, true, ()) (RC, [], false, ())) := by
   intro K hK
   unfold Rk
   rw [hd]
   by_cases h1 : til < d.2.2.2.1
   ·rw [Ia h1, Ga (show ¬ (d.2.2.2.1 ≤ til ∧ til ≤ 1000000) by omega)]; rfl
   ·by_cases h2 : til > 1000000
    ·rw [Ga h1, Ia h2, Ga (show ¬ (d.2.2.2.1 ≤ til ∧ til ≤ 1000000) by omega)]; rfl
    ·rw [Ga h1, Ga h2, Ia (show (d.2.2.2.1 ≤ til ∧ til ≤ 1000000) by omega)]
     cases Vp l d.2.2.2.1 with
     | false => rfl
     | true =>
      cases Tl l til with
      | false => rfl
      | true =>
       cases hq : Ad (jf d.2.2.1 l) (Sl d.1.2.2.2.1) d.1.1.1 with
       | false => rfl
       | true => exact hK hq
  have hrun : Ad (jf d.2.2.1 l) (Sl d.1.2.2.2.1) d.1.1.1 = true → ∀ z : Jb, Wd (((), (), ([] : List Oe), ()), (z, (d.1, d.2.1, jf d.2.2.1 l, til, d.2.2.2.2), ())) = some (.inl (((), (), (Sf (Jm d l til).2.2.1.length (Jm d l til) []).2, ()), (z, (Sf (Jm d l til).2.2.1.length (Jm d l til) []).1, ()))) := by
   intro hq z
   have h1 := DV (til := til) hd hq
   have := h1.len
   exact XA z _ (Jm d l til) [] h1 (jo _) (by simp; omega)
  by_cases h0 : l.length = 0
  ·have hna : Vp l d.2.2.2.1 = true := by unfold Vp; rw [h0]; rfl
   rw [Ga (show ¬ ((ja l : Nat) : Int) > 0 by omega)]
   simp only [cond_false]
   simp only [hna, jg, cond_false] at key
   exact key _ (fun hq => by rw [hrun hq]; rfl)
  ·obtain ⟨x, hx, hx1⟩ := NS (l := l) (by omega)
   have hna : Vp l d.2.2.2.1 = !decide (x.1 < d.2.2.2.1) := by
    unfold Vp
    rw [show ((l.length : Int) == 0) = false by simp; intro h; rw [h] at h0; simp at h0, hx1]; rfl
   rw [Ia (show ((ja l : Nat) : Int) > 0 by omega), hx]
   simp only [cond_true, jb]
   simp only [hna, Bool.not_not] at key
   exact key _ (fun hq => by rw [hrun hq]; rfl)
def rowN (C m r : Nat) : Nat := (m >>> (r * C)) &&& (2 ^ C - 1)
def J1 (C a b m : Nat) : Nat := cond (rowN C m a &&& rowN C m b != 0) (m ||| rowN C m b <<< (a * C)) m
def g3 (C a : Nat) : Nat → Nat → Nat := fun b m => J1 C a b m
def g2 (C R : Nat) : Nat → Nat → Nat := fun a m => QM (g3 C a) R m
def g1 (C R : Nat) : Nat → Nat → Nat := fun _ m => QM (g2 C R) R m
structure N9 (C R : Nat) : Prop where
 c1 : 1 ≤ C
 c2 : C ≤ 6
 r1 : 1 ≤ R
 r2 : R ≤ 4

structure Zh (c : Gb) : Prop where
 lo : 0 ≤ c.2.1
 hi : c.2.1 ≤ (c.1.length : Int)
 len : c.1.length ≤ Ka
theorem QN (z : Int) : 0 ≤ Kn .i64 z 255 ∧ Kn .i64 z 255 ≤ 255 := by
 have h : (BitVec.ofInt 64 z &&& BitVec.ofInt 64 255).toNat ≤ 255 := by
  rw [BitVec.toNat_and]
  exact Nat.and_le_right
 show 0 ≤ j5 .i64 ((BitVec.ofInt 64 z &&& BitVec.ofInt 64 255).toNat : Int) ∧ j5 .i64 ((BitVec.ofInt 64 z &&& BitVec.ofInt 64 255).toNat : Int) ≤ 255
 rw [Ud (by omega) (by omega)]
 omega
theorem CA {c : Gb} (h : Zh c) : ∃ (c' : Gb) (x : Int), Uh c = some (c', (x, ())) ∧ Zh c' ∧ 0 ≤ x ∧ x ≤ 255 := by
 have h20 : Ka = 1048576 := rfl
 have h1 := h.lo
 have h2 := h.len
 unfold Uh
 by_cases hi : c.2.1 < ((ja c.1 : Nat) : Int)
 ·obtain ⟨k, hk⟩ := jv h1
  rw [Ia hi, hk, Vc (show k < c.1.length by omega)]
  refine ⟨_, _, rfl, ⟨?_, ?_, h2⟩, QN _⟩
  ·show 0 ≤ j5 .i64 ((k : Int) + 1)
   rw [Zf (by omega)]; omega
  ·show j5 .i64 ((k : Int) + 1) ≤ _
   rw [Zf (by omega)]; show _ ≤ ((ja c.1 : Nat) : Int); omega
 ·rw [Ga hi]
  exact ⟨_, _, rfl, ⟨h1, h.hi, h2⟩, QN _⟩
theorem Ci {c : Gb} (h : Zh c) (n : Int) (hn : 0 < n) : ∃ (c' : Gb) (x : Int), Wa c n = some (c', (x, ())) ∧ Zh c' ∧ 0 ≤ x ∧ x < n := by
 obtain ⟨c1, x1, e1, h1, b1⟩ := CA h
 unfold Wa
 rw [Ga (show ¬ n ≤ 0 by omega), e1, show (n == 0) = false by simp; omega]
 simp only [cond_false, jb]
 by_cases h256 : n ≤ 256
 ·rw [Ia h256]
  exact ⟨_, _, rfl, h1, Int.tmod_nonneg _ (by omega), Int.tmod_lt_of_pos _ hn⟩
 ·obtain ⟨c2, x2, e2, h2, b2⟩ := CA h1
  obtain ⟨c3, x3, e3, h3, b3⟩ := CA h2
  obtain ⟨c4, x4, e4, h4, b4⟩ := CA h3
  rw [Ga h256, e2]
  simp only [cond_false, jb]
  rw [e3]
  simp only [jb]
  rw [e4]
  simp only [jb]
  rw [Ud (n := x1 * 16777216) (by omega) (by omega), Ud (n := x2 * 65536) (by omega) (by omega), Ud (n := x3 * 256) (by omega) (by omega), Ud (n := x1 * 16777216 + x2 * 65536) (by omega) (by omega), Ud (n := x1 * 16777216 + x2 * 65536 + x3 * 256) (by omega) (by omega), Ud (n := x1 * 16777216 + x2 * 65536 + x3 * 256 + x4) (by omega) (by omega)]
  exact ⟨_, _, rfl, h4, Int.tmod_nonneg _ (by omega), Int.tmod_lt_of_pos _ hn⟩
theorem QK {c : Gb} (h : Zh c) (n : Int) (hn : 0 < n) : ∃ (c' : Gb) (b : Bool), Hm c n = some (c', (b, ())) ∧ Zh c' := by
 obtain ⟨c1, x1, e1, h1, b1⟩ := Ci h n hn
 unfold Hm
 rw [e1]
 exact ⟨_, _, rfl, h1⟩
theorem UK {c : Gb} (h : Zh c) (l : List Int) (hl : 0 < l.length) (h2 : l.length ≤ 1000) : ∃ (c' : Gb) (x : Int), Tk c l = some (c', (x, ())) ∧ Zh c' ∧ x ∈ l := by
 obtain ⟨c1, x1, e1, h1, b1⟩ := Ci h ((ja l : Nat) : Int) (by omega)
 unfold Tk
 rw [e1]
 obtain ⟨k, rfl⟩ := jv b1.1
 have hk : k < l.length := by omega
 simp only [jb]
 rw [Cr, Ia hk, jn, je hk]
 exact ⟨_, _, rfl, h1, qo hk⟩
theorem D0 (a : List Int) (hn : a.length ≤ Ka) : ∃ h : Int, Ot a = some (a, (0, (h, ()))) := by
 have h20 : Ka = 1048576 := rfl
 have := Nv (s := fun x : (List Int × (Int × (Int × Unit))) × Unit => Jr x.1.1 x.1.2.1 x.1.2.2.1) (fun n x => ∃ (h : Int) (k : Nat), x = ((a, h, (k : Int), ()), ()) ∧ n + k = a.length) (fun r => ∃ h : Int, r = .inl ((a, h, ()), ())) (by
  rintro n x ⟨h, k, rfl, hk⟩
  simp only [Jr]
  by_cases h1 : (k : Int) < ((ja a : Nat) : Int)
  ·rw [Ia h1]
   by_cases h2 : (k : Int) < 4000
   ·rw [Ia h2, Vc (show k < a.length by omega), Zf (by omega)]
    exact .inr ⟨_, n - 1, by omega, rfl, _, k + 1, rfl, by omega⟩
   ·rw [Ga h2]; exact .inl ⟨_, rfl, _, rfl⟩
  ·rw [Ga h1]; exact .inl ⟨_, rfl, _, rfl⟩) a.length ((a, j5 .i64 (10729 + ((ja a : Nat) : Int)), ((0 : Nat) : Int), ()), ()) ⟨_, 0, rfl, rfl⟩
 obtain ⟨r, h1, h, rfl⟩ := this
 refine ⟨h, ?_⟩
 unfold Ot Qo
 erw [h1]
 rfl
theorem DC (a : List Int) (n : Int) (hn : a.length ≤ Ka) : ∃ c : Gb, Im a n = some c ∧ Zh c := by
 obtain ⟨h, e⟩ := D0 a hn
 unfold Im
 rw [e]
 exact ⟨_, rfl, ⟨Int.le_refl _, by show (0 : Int) ≤ _; omega, hn⟩⟩
theorem BQ (a : List Int) (p n : Int) (hl : a.length ≤ Ka) (hn : 0 < n) : ∃ x : Int, Bn a p n = some (x, ()) ∧ 0 ≤ x ∧ x < n := by
 obtain ⟨c, e, hc⟩ := DC a p hl
 obtain ⟨c1, x, e1, h1, b1⟩ := Ci hc n hn
 unfold Bn
 rw [e]
 simp only [jb]
 rw [e1]
 exact ⟨x, rfl, b1⟩
def As (n : Int) (a : Ha) : Prop := Yc a = true ∧ a.1 ≠ 1 ∧ (a.1 = 9 ∨ a.2.2.2.1 < n)
theorem Fk {n k c m x : Int} (h : Rb k c m x) (h1 : k ≠ 1) (h2 : k = 9 ∨ x < n) : As n (k, c, m, x, ()) := ⟨(Sb _).2 h, h1, h2⟩
def Qj (n : Int) (o : Option (Gb × (Ha × Unit))) : Prop := ∃ (c : Gb) (a : Ha), o = some (c, (a, ())) ∧ Zh c ∧ As n a
theorem Fp {n : Int} {c : Gb} {a : Ha} (h : Zh c) (ha : As n a) : Qj n (some (c, (a, ()))) := ⟨c, a, rfl, h, ha⟩
theorem Hk {n : Int} {b : Bool} {x y : Option (Gb × (Ha × Unit))} (h1 : Qj n x) (h2 : Qj n y) : Qj n (cond b x y) := by cases b <;> assumption
theorem JS {n : Int} {p : Prop} [Decidable p] {x y : Option (Gb × (Ha × Unit))} (h1 : p → Qj n x) (h2 : Qj n y) : Qj n (cond (decide p) x y) := by
 by_cases h : p
 ·rw [Ia h]; exact h1 h
 ·rw [Ga h]; exact h2
theorem Br {n m : Int} {c : Gb} (hc : Zh c) (hm : 0 < m) {f : (Gb × (Int × Unit)) → Option (Gb × (Ha × Unit))}
 (h : ∀ (c' : Gb) (x : Int), Zh c' → 0 ≤ x → x < m → Qj n (f (c', (x, ())))) : Qj n (jz (Wa c m) f) := by
 obtain ⟨c1, x1, e1, h1, b1⟩ := Ci hc m hm
 rw [e1]
 exact h c1 x1 h1 b1.1 b1.2
theorem IV {n m : Int} {c : Gb} (hc : Zh c) (hm : 0 < m) {f : (Gb × (Bool × Unit)) → Option (Gb × (Ha × Unit))}
 (h : ∀ (c' : Gb) (x : Bool), Zh c' → Qj n (f (c', (x, ())))) : Qj n (jz (Hm c m) f) := by
 obtain ⟨c1, x1, e1, h1⟩ := QK hc m hm
 rw [e1]
 exact h c1 x1 h1
theorem L1 {c : Gb} {n x : Int} {a0 a1 a2 : Ha} (hc : Zh c) (h0 : 0 ≤ x) (h3 : x < 3) (g0 : As n a0) (g1 : As n a1) (g2 : As n a2) :
 Qj n (cond (Gh (ja [a0, a1, a2]) x) (jz [a0, a1, a2][(jy x)]? fun y => some (c, (y, ()))) none) := by
 have : x = 0 ∨ x = 1 ∨ x = 2 := by omega
 rcases this with rfl | rfl | rfl
 ·exact Fp hc g0
 ·exact Fp hc g1
 ·exact Fp hc g2
theorem KO {c : Gb} (h : Zh c) (n : Int) (hn : 1 ≤ n) (hn4 : n ≤ 4) : Qj n (Xr c n) := by
 unfold Xr
 rw [Ud (n := n - 1) (by omega) (by omega)]
 refine Br h (by omega) fun c1 x1 h1 l1 u1 => ?_
 refine Br h1 (by omega) fun c2 x2 h2 l2 u2 => ?_
 refine IV h2 (by omega) fun c3 x3 h3 => ?_
 simp only
 rw [Ud (n := 1 + x1) (by omega) (by omega), Ud (n := 1 + x2) (by omega) (by omega)]
 have tail : ∀ (md : Int), 1 ≤ md → md ≤ 15 → Qj n (jz (Wa c3 (max (1 : Int) (n - 1))) fun r4 =>
  (jz (Wa r4.1 (16 : Int)) fun r5 =>
  (cond (r5.2.1 == (0 : Int)) (some (r5.1, (((2 : Int), (1 + x1), md, (0 : Int), ()), ())))
  (cond (r5.2.1 == (1 : Int)) (some (r5.1, (((2 : Int), (0 : Int), md, (0 : Int), ()), ())))
  (cond (r5.2.1 == (2 : Int)) (some (r5.1, (((6 : Int), (1 + x1), md, (0 : Int), ()), ())))
  (cond (r5.2.1 == (3 : Int)) (some (r5.1, (((6 : Int), (1 + x1), md, (0 : Int), ()), ())))
  (cond (r5.2.1 == (4 : Int)) (some (r5.1, (((8 : Int), (0 : Int), md, (0 : Int), ()), ())))
  (cond (r5.2.1 == (5 : Int)) (jz (Wa r5.1 (4 : Int)) fun r6 => (some (r6.1, (((9 : Int), (0 : Int), (0 : Int), r6.2.1, ()), ()))))
  (cond (r5.2.1 == (6 : Int)) (some (r5.1, (((10 : Int), (0 : Int), (0 : Int), (0 : Int), ()), ())))
  (cond (r5.2.1 == (7 : Int)) (jz (Wa r5.1 (max (1 : Int) n)) fun r7 => (some (r7.1, (((5 : Int), (0 : Int), (0 : Int), r7.2.1, ()), ()))))
  (cond (r5.2.1 == (8 : Int)) (cond (decide (n > (1 : Int))) (jz (Wa r5.1 (3 : Int)) fun r8 => (cond (Gh (ja ([((3 : Int), (0 : Int), (0 : Int), (j4 .i64 ((1 : Int) + r4.2.1)), ()), ((4 : Int), (0 : Int), (0 : Int), (j4 .i64 ((1 : Int) + r4.2.1)), ()), ((7 : Int), (1 + x1), (0 : Int), (j4 .i64 ((1 : Int) + r4.2.1)), ())] : List Ha)) r8.2.1) (jz ([((3 : Int), (0 : Int), (0 : Int), (j4 .i64 ((1 : Int) + r4.2.1)), ()), ((4 : Int), (0 : Int), (0 : Int), (j4 .i64 ((1 : Int) + r4.2.1)), ()), ((7 : Int), (1 + x1), (0 : Int), (j4 .i64 ((1 : Int) + r4.2.1)), ())] : List Ha)[(jy r8.2.1)]? fun x9 => (some (r8.1, (x9, ())))) none)) (some (r5.1, (((2 : Int), (1 + x1), (0 : Int), (0 : Int), ()), ()))))
  (cond (r5.2.1 == (9 : Int)) (cond (decide (n > (1 : Int))) (jz (Wa r5.1 (3 : Int)) fun r8 => (cond (Gh (ja ([((3 : Int), (0 : Int), (0 : Int), (j4 .i64 ((1 : Int) + r4.2.1)), ()), ((4 : Int), (0 : Int), (0 : Int), (j4 .i64 ((1 : Int) + r4.2.1)), ()), ((7 : Int), (1 + x1), (0 : Int), (j4 .i64 ((1 : Int) + r4.2.1)), ())] : List Ha)) r8.2.1) (jz ([((3 : Int), (0 : Int), (0 : Int), (j4 .i64 ((1 : Int) + r4.2.1)), ()), ((4 : Int), (0 : Int), (0 : Int), (j4 .i64 ((1 : Int) + r4.2.1)), ()), ((7 : Int), (1 + x1), (0 : Int), (j4 .i64 ((1 : Int) + r4.2.1)), ())] : List Ha)[(jy r8.2.1)]? fun x9 => (some (r8.1, (x9, ())))) none)) (some (r5.1, (((2 : Int), (1 + x1), (0 : Int), (0 : Int), ()), ()))))
  (cond (r5.2.1 == (10 : Int)) (cond (decide (n > (1 : Int))) (jz (Wa r5.1 (3 : Int)) fun r8 => (cond (Gh (ja ([((3 : Int), (0 : Int), (0 : Int), (j4 .i64 ((1 : Int) + r4.2.1)), ()), ((4 : Int), (0 : Int), (0 : Int), (j4 .i64 ((1 : Int) + r4.2.1)), ()), ((7 : Int), (1 + x1), (0 : Int), (j4 .i64 ((1 : Int) + r4.2.1)), ())] : List Ha)) r8.2.1) (jz ([((3 : Int), (0 : Int), (0 : Int), (j4 .i64 ((1 : Int) + r4.2.1)), ()), ((4 : Int), (0 : Int), (0 : Int), (j4 .i64 ((1 : Int) + r4.2.1)), ()), ((7 : Int), (1 + x1), (0 : Int), (j4 .i64 ((1 : Int) + r4.2.1)), ())] : List Ha)[(jy r8.2.1)]? fun x9 => (some (r8.1, (x9, ())))) none)) (some (r5.1, (((2 : Int), (1 + x1), (0 : Int), (0 : Int), ()), ()))))
  (some (r5.1, (((2 : Int), (1 + x1), (0 : Int), (0 : Int), ()), ())))))))))))))))) := by
  intro md lm um
  refine Br h3 (by omega) fun c4 x4 h4 l4 u4 => ?_
  refine Br h4 (by omega) fun c5 x5 h5 l5 u5 => ?_
  simp only
  rw [Ud (n := 1 + x4) (by omega) (by omega)]
  have last : Qj n (some (c5, (((2 : Int), (1 + x1), (0 : Int), (0 : Int), ()), ()))) := Fp h5 (Fk (by unfold Rb; omega) (by omega) (by omega))
  have mid : Qj n (cond (decide (n > (1 : Int))) (jz (Wa c5 (3 : Int)) fun r8 => (cond (Gh (ja ([((3 : Int), (0 : Int), (0 : Int), (1 + x4), ()), ((4 : Int), (0 : Int), (0 : Int), (1 + x4), ()), ((7 : Int), (1 + x1), (0 : Int), (1 + x4), ())] : List Ha)) r8.2.1) (jz ([((3 : Int), (0 : Int), (0 : Int), (1 + x4), ()), ((4 : Int), (0 : Int), (0 : Int), (1 + x4), ()), ((7 : Int), (1 + x1), (0 : Int), (1 + x4), ())] : List Ha)[(jy r8.2.1)]? fun x9 => (some (r8.1, (x9, ())))) none)) (some (c5, (((2 : Int), (1 + x1), (0 : Int), (0 : Int), ()), ())))) := by
   refine JS (fun hn1 => ?_) last
   have hx : 1 + x4 < n := by omega
   refine Br h5 (by omega) fun c6 x6 h6 l6 u6 => ?_
   exact L1 h6 l6 u6 (Fk (by unfold Rb; omega) (by omega) (by omega)) (Fk (by unfold Rb; omega) (by omega) (by omega)) (Fk (by unfold Rb; omega) (by omega) (by omega))
  refine Hk (Fp h5 (Fk (by unfold Rb; omega) (by omega) (by omega))) ?_
  refine Hk (Fp h5 (Fk (by unfold Rb; omega) (by omega) (by omega))) ?_
  refine Hk (Fp h5 (Fk (by unfold Rb; omega) (by omega) (by omega))) ?_
  refine Hk (Fp h5 (Fk (by unfold Rb; omega) (by omega) (by omega))) ?_
  refine Hk (Fp h5 (Fk (by unfold Rb; omega) (by omega) (by omega))) ?_
  refine Hk (Br h5 (by omega) fun c6 x6 h6 l6 u6 => by simp only; exact Fp h6 (Fk (by unfold Rb; omega) (by omega) (by omega))) ?_
  refine Hk (Fp h5 (Fk (by unfold Rb; omega) (by omega) (by omega))) ?_
  refine Hk (Br h5 (by omega) fun c6 x6 h6 l6 u6 => by simp only; exact Fp h6 (Fk (by unfold Rb; omega) (by omega) (by omega))) ?_
  exact Hk mid (Hk mid (Hk mid last))
 cases x3 with
 | true => exact tail 2 (by omega) (by omega)
 | false => exact tail (1 + x2) (by omega) (by omega)
theorem Aw {n i : Nat} {a : Ha} (h : As (n : Int) a) : Ue n i a = true := by
 obtain ⟨h1, h2, h3⟩ := h
 unfold Ue
 rw [h1]
 have e1 : (a.1 == 1) = false := by simp; exact h2
 rw [e1]
 rcases h3 with h | h
 ·simp [h]
 ·simp; exact .inr h
theorem XM {n i : Nat} (hi : 0 < i) (hn : 1 ≤ n) : Ue n i ((1 : Int), (0 : Int), (0 : Int), (0 : Int), ()) = true := by
 unfold Ue
 have : Yc ((1 : Int), (0 : Int), (0 : Int), (0 : Int), ()) = true := (Sb _).2 (by simp [Rb])
 rw [this]
 have hi' : ((i : Int) == 0) = false := by simp; omega
 rw [hi']
 simp; omega
theorem JF {α : Type} {p : Nat → α → Bool} {xs : List α} {x : α} (h : Yd p 0 xs = true) (hx : p xs.length x = true) : Yd p 0 (xs ++ [x]) = true := by
 rw [Qh] at h ⊢
 intro j hj
 rw [qe, List.length_singleton] at hj
 rw [List.getElem_append]
 split
 ·rename_i h1; exact h j h1
 ·have : j = xs.length := by omega
  subst this
  simpa using hx
theorem US {c : Gb} (hc : Zh c) {keys n i : Nat} (hk : keys ≤ 32) (hn : 1 ≤ n) (hn4 : n ≤ 4) (b4 b6 : Ta) :
 ∃ (c' : Gb) (row : List Ha), Xn (((), (keys : Int), (), (n : Int), (), (i : Int), ([] : List Ha), (0 : Int), ()), (c, b4, b6, ())) = some (.inl (((), (keys : Int), (), (n : Int), (), (i : Int), row, ()), (c', b4, b6, ()))) ∧
  Zh c' ∧ row.length = keys ∧ Yd (fun _ a => Ue n i a) 0 row = true := by
 have hlim : Hb = 1073741824 := rfl
 have := Nv (s := fun x : ((Unit × (Int × (Unit × (Int × (Unit × (Int × ((List Ha) × (Int × Unit)))))))) × (Gb × (Ta × (Ta × Unit)))) => Uq x.1.1 x.1.2.1 x.1.2.2.1 x.1.2.2.2.1 x.1.2.2.2.2.1 x.1.2.2.2.2.2.1 x.1.2.2.2.2.2.2.1 x.1.2.2.2.2.2.2.2.1 x.2.1 x.2.2.1 x.2.2.2.1)
  (fun m x => ∃ (c' : Gb) (row : List Ha) (k : Nat), x = (((), (keys : Int), (), (n : Int), (), (i : Int), row, (k : Int), ()), (c', b4, b6, ())) ∧ m + k = keys ∧ row.length = k ∧ Zh c' ∧ Yd (fun _ a => Ue n i a) 0 row = true)
  (fun r => ∃ (c' : Gb) (row : List Ha), r = .inl (((), (keys : Int), (), (n : Int), (), (i : Int), row, ()), (c', b4, b6, ())) ∧ Zh c' ∧ row.length = keys ∧ Yd (fun _ a => Ue n i a) 0 row = true) (by
  rintro m x ⟨c', row, k, rfl, hm, hl, hc', hr⟩
  simp only [Uq]
  by_cases h1 : (k : Int) < (keys : Int)
  ·rw [Ia h1]
   obtain ⟨c1, a, e1, hc1, ha⟩ := KO hc' (n : Int) (by omega) (by omega)
   rw [e1]
   simp only [cond_true, jb]
   have room : ∀ z : Ha, jx (ja row + ja [z]) Hb = true := fun z => ji (by simp; omega)
   rw [Zf (by omega)]
   have Nf : ∀ (z : Ha) (c2 : Gb), Ue n i z = true → Zh c2 → ∃ c' row' k', (((), (keys : Int), (), (n : Int), (), (i : Int), jf row [z], ((k + 1 : Nat) : Int), ()), (c2, b4, b6, ())) = (((), (keys : Int), (), (n : Int), (), (i : Int), row', ((k' : Nat) : Int), ()), (c', b4, b6, ())) ∧ (m - 1) + k' = keys ∧ ja row' = k' ∧ Zh c' ∧ Yd (fun _ a => Ue n i a) 0 row' = true :=
    fun z c2 hz h2 => ⟨c2, _, k + 1, rfl, by omega, by simp [hl], h2, JF hr hz⟩
   by_cases h2 : (i : Int) > 0
   ·rw [Ia h2]
    obtain ⟨c2, b, e2, hc2⟩ := QK hc1 3 (by omega)
    rw [e2]
    simp only [cond_true, jb, room]
    cases b with
    | true => exact .inr ⟨_, m - 1, by omega, rfl, Nf _ _ (XM (by omega) hn) hc2⟩
    | false => exact .inr ⟨_, m - 1, by omega, rfl, Nf _ _ (Aw ha) hc2⟩
   ·rw [Ga h2]
    simp only [cond_true, cond_false, room]
    exact .inr ⟨_, m - 1, by omega, rfl, Nf _ _ (Aw ha) hc1⟩
  ·rw [Ga h1]; exact .inl ⟨_, rfl, c', row, rfl, hc', by omega, hr⟩) keys (((), (keys : Int), (), (n : Int), (), (i : Int), ([] : List Ha), ((0 : Nat) : Int), ()), (c, b4, b6, ())) ⟨c, [], 0, rfl, rfl, rfl, hc, rfl⟩
 obtain ⟨r, e, c', row, rfl, h⟩ := this
 exact ⟨c', row, e, h⟩
theorem LO {c : Gb} (hc : Zh c) {keys : Nat} (hk1 : 1 ≤ keys) (hk : keys ≤ 32) : ∃ (c' : Gb) (m : Ta), Yr c (keys : Int) = some (c', (m, ())) ∧ Zh c' ∧ Bd m = true ∧ m.1 = (keys : Int) := by
 have hlim : Hb = 1073741824 := rfl
 obtain ⟨c1, x1, e1, hc1, b1⟩ := Ci hc 4 (by omega)
 obtain ⟨n0, rfl⟩ := jv b1.1
 obtain ⟨n, hn⟩ : ∃ n : Nat, n = n0 + 1 := ⟨_, rfl⟩
 have hw : j5 .i64 ((1 : Int) + (n0 : Int)) = (n : Int) := by rw [Ud (by omega) (by omega)]; omega
 unfold Yr
 rw [e1]
 simp only [jb, hw]
 have := Nv (s := fun x : ((Unit × (Int × (Unit × (Int × (Unit × (Int × Unit)))))) × (Gb × (Ta × (Ta × Unit)))) => Tq x.1.1 x.1.2.1 x.1.2.2.1 x.1.2.2.2.1 x.1.2.2.2.2.1 x.1.2.2.2.2.2.1 x.2.1 x.2.2.1 x.2.2.2.1)
  (fun m x => ∃ (c' : Gb) (L : List (List Ha)) (k : Nat), x = (((), (keys : Int), (), (n : Int), (), (k : Int), ()), (c', ((0 : Int), ([] : List (List Ha)), ()), ((keys : Int), L, ()), ())) ∧ m + k = n ∧ L.length = k ∧ Zh c' ∧ Yd (fun i l => Gf (keys : Int) n i l) 0 L = true)
  (fun r => ∃ (c' : Gb) (L : List (List Ha)), r = .inl (((), (), (), ()), (c', ((0 : Int), ([] : List (List Ha)), ()), ((keys : Int), L, ()), ())) ∧ Zh c' ∧ L.length = n ∧ Yd (fun i l => Gf (keys : Int) n i l) 0 L = true) (by
  rintro m x ⟨c', L, k, rfl, hm, hl, hc', hr⟩
  simp only [Tq]
  by_cases h1 : (k : Int) < (n : Int)
  ·rw [Ia h1]
   obtain ⟨c2, row, e2, hc2, hrow, hall⟩ := US hc' (i := k) hk (show 1 ≤ n by omega) (show n ≤ 4 by omega) ((0 : Int), ([] : List (List Ha)), ()) ((keys : Int), L, ())
   erw [e2]
   simp only [cond_true, jb, qj]
   rw [show jx (ja L + ja [row]) Hb = true from ji (by simp; omega), Zf (by omega)]
   refine .inr ⟨_, m - 1, by omega, rfl, c2, _, k + 1, rfl, by omega, by simp [hl], hc2, ?_⟩
   refine JF hr ?_
   unfold Gf
   rw [hl, hall, hrow]
   simp
  ·rw [Ga h1]; exact .inl ⟨_, rfl, c', L, rfl, hc', by omega, hr⟩) n (((), (keys : Int), (), (n : Int), (), ((0 : Nat) : Int), ()), (c1, ((0 : Int), ([] : List (List Ha)), ()), ((keys : Int), ([] : List (List Ha)), ()), ())) ⟨c1, [], 0, rfl, rfl, rfl, hc1, rfl⟩
 obtain ⟨r, e, c', L, rfl, hc', hL, hall⟩ := this
 unfold Wn
 erw [e]
 refine ⟨c', ((keys : Int), L, ()), rfl, hc', ?_, rfl⟩
 unfold Bd
 simp only [jd, decide_eq_true_eq]
 refine ⟨⟨by omega, by omega⟩, ?_⟩
 show Yd (fun i l => Gf (keys : Int) L.length i l) 0 L = true
 rw [hL]; exact hall
theorem QH {α : Type} {p : Nat → α → Bool} {xs : List α} {i : Nat} {x : α} (h : Yd p 0 xs = true) (hx : p i x = true) : Yd p 0 (j6 xs i x) = true := by
 rw [Qh] at h ⊢
 intro j hj
 rw [j8] at hj
 rw [List.getElem_set]
 split
 ·rename_i e; subst e; simpa using hx
 ·exact h j hj
theorem SJ {keys : Int} {n i : Nat} {l : List Ha} {k : Nat} {a : Ha} (h : Gf keys n i l = true) (ha : Ue n i a = true) : Gf keys n i (j6 l k a) = true := by
 unfold Gf at h ⊢
 rw [jd] at h ⊢
 exact ⟨by rw [j8]; exact h.1, QH h.2 ha⟩
theorem RJ {keys : Int} {n i : Nat} {l : List Ha} (h : Gf keys n i l = true) : (l.length : Int) = keys := by
 unfold Gf at h
 rw [jd] at h
 simpa using h.1
theorem SM {c : Gb} (hc : Zh c) {keys : Nat} (hk1 : 1 ≤ keys) (hk : keys ≤ 32) : ∃ (c' : Gb) (m : Ta), Sq c (keys : Int) = some (c', (m, ())) ∧ Zh c' ∧ Bd m = true ∧ m.1 = (keys : Int) := by
 obtain ⟨c1, m1, e1, hc1, hm1, hmk⟩ := LO hc hk1 hk
 obtain ⟨c2, x2, e2, hc2, b2⟩ := Ci hc1 6 (by omega)
 obtain ⟨x, rfl⟩ := jv b2.1
 unfold Sq
 rw [e1]
 simp only [jb, e2]
 have step := Nv (s := fun x : ((Unit × (Int × (Unit × (Unit × (Int × Unit))))) × (Gb × (Ta × (Ta × Unit)))) => Wp x.1.1 x.1.2.1 x.1.2.2.1 x.1.2.2.2.1 x.1.2.2.2.2.1 x.2.1 x.2.2.1 x.2.2.2.1)
  (fun z y => ∃ (c' : Gb) (m : Ta), y = (((), (keys : Int), (), (), (z : Int), ()), (c', ((0 : Int), ([] : List (List Ha)), ()), m, ())) ∧ z ≤ 6 ∧ Zh c' ∧ Bd m = true ∧ m.1 = (keys : Int))
  (fun r => ∃ (c' : Gb) (m : Ta), r = .inl (((), (), (), ()), (c', ((0 : Int), ([] : List (List Ha)), ()), m, ())) ∧ Zh c' ∧ Bd m = true ∧ m.1 = (keys : Int)) (by
  rintro z y ⟨c', m, rfl, hz, hc', hm, hmk⟩
  simp only [Wp]
  by_cases h1 : (z : Int) > 0
  ·rw [Ia h1]
   have hm0 := hm
   unfold Bd at hm0
   simp only [jd, decide_eq_true_eq] at hm0
   obtain ⟨⟨hk', hL⟩, hall⟩ := hm0
   obtain ⟨c3, i, e3, hc3, bi⟩ := Ci hc' ((ja m.2.1 : Nat) : Int) (by omega)
   obtain ⟨i, rfl⟩ := jv bi.1
   obtain ⟨c4, k, e4, hc4, bk⟩ := Ci hc3 (keys : Int) (by omega)
   obtain ⟨k, rfl⟩ := jv bk.1
   rw [e3]
   simp only [cond_true, jb, e4]
   have hw : j5 .i64 ((z : Int) - 1) = ((z - 1 : Nat) : Int) := by rw [Ud (by omega) (by omega)]; omega
   rw [hw]
   have hi : i < m.2.1.length := by omega
   by_cases h2 : ((ja m.2.1 : Nat) : Int) > 1
   ·rw [Ia h2, Cr, Ia hi, jn, je hi]
    have hrow := Qh.1 hall i hi
    rw [js] at hrow
    have hlen := RJ hrow
    have hkk : k < (m.2.1[i]).length := by omega
    obtain ⟨c5, kd, e5, hc5, hkd⟩ := UK hc4 [(4 : Int), (5 : Int), (3 : Int)] (by simp) (by simp)
    obtain ⟨c6, q, e6, hc6, bq⟩ := Ci hc5 (((ja m.2.1 : Nat) : Int) - 1) (by omega)
    simp only [cond_true, jb, e5]
    rw [Ud (n := ((ja m.2.1 : Nat) : Int) - 1) (by omega) (by omega), e6]
    simp only [jb]
    rw [Cr, Ia hkk, jn, je hkk, Ud (n := 1 + q) (by omega) (by omega)]
    simp only [cond_true, jb]
    refine .inr ⟨_, z - 1, by omega, rfl, c6, _, rfl, by omega, hc6, ?_, hmk⟩
    have hd : As ((ja m.2.1 : Nat) : Int) (kd, (0 : Int), (0 : Int), 1 + q, ()) := by
     have : kd = 4 ∨ kd = 5 ∨ kd = 3 := by simpa using hkd
     exact Fk (by unfold Rb; omega) (by omega) (by omega)
    show Bd (m.1, j6 m.2.1 i (j6 m.2.1[i] k (kd, (0 : Int), (0 : Int), 1 + q, ())), ()) = true
    unfold Bd
    simp only [jd, decide_eq_true_eq, j8]
    exact ⟨⟨hk', hL⟩, QH hall (SJ hrow (Aw hd))⟩
   ·rw [Ga h2]
    simp only [cond_false]
    exact .inr ⟨_, z - 1, by omega, rfl, c4, m, rfl, by omega, hc4, hm, hmk⟩
  ·rw [Ga h1]
   have : z = 0 := by omega
   exact .inl ⟨_, rfl, c', m, rfl, hc', hm, hmk⟩) x (((), (keys : Int), (), (), (x : Int), ()), (c2, ((0 : Int), ([] : List (List Ha)), ()), m1, ())) ⟨c2, m1, rfl, by omega, hc2, hm1, hmk⟩
 obtain ⟨r, e, c', m, rfl, hc', hm, hmk'⟩ := step
 unfold Om
 erw [e]
 exact ⟨c', m, rfl, hc', hm, hmk'⟩
theorem KG (a : List Int) (p : Int) {keys : Nat} (hn : a.length ≤ Ka) (hk1 : 1 ≤ keys) (hk : keys ≤ 32) : ∃ m : Ta, Fj a p (keys : Int) = some (m, ()) ∧ Bd m = true ∧ m.1 = (keys : Int) := by
 obtain ⟨c, e, hc⟩ := DC a p hn
 obtain ⟨c', m, e1, _, hm, hmk⟩ := SM hc hk1 hk
 unfold Fj
 rw [e]
 simp only [jb, e1]
 exact ⟨m, rfl, hm, hmk⟩
def SQ (p : List Int) : Bool := Yd (fun _ w => decide (0 ≤ w ∧ w ≤ 65535)) 0 p
def VU (p : List Int) (e : Int) : Bool := ((p.length : Int) == 19) && decide (0 ≤ e ∧ e ≤ 1000) && SQ p
def LI (f : Od) : Bool := match f.1, f.2.1 with
 | [p, q], [d, e] => VU p d && VU q e
 | _, _ => false
def PU (h : Int) : Bool := decide (1 ≤ h ∧ h ≤ 60000)
def AV (h0 h1 : Int) : Int := cond (PU h1) (cond (PU h0) (cond (decide (h1 > h0)) 1 0) 1) (cond (PU h0) 0 (-1))
def Ek (f : Od) : Int := cond (LI f) (match f.1 with
 | [h0 :: _, h1 :: _] => AV h0 h1
 | _ => -1) (-1)
def Nx (s v : Int) : Bool := decide (0 ≤ s ∧ s ≤ 3 ∧ 0 ≤ v ∧ v ≤ 9999)
def WN (s v h : Int) : Int := cond (Nx s v && PU h) ((7 * s + 13 * v + 31 * h + 5).tmod 60000) 65535
def wd (w : List Int) (n : Nat) : Int := w.getD n 0
def C0 (s : Int) (w : List Int) (i : Nat) : Bool :=
 Nx (wd w (1 + 3 * i)) (wd w (2 + 3 * i)) && (wd w (1 + 3 * i) == s) && (wd w (3 + 3 * i) == WN (wd w (1 + 3 * i)) (wd w (2 + 3 * i)) (wd w 0))
def YI (s : Int) (w : List Int) : Nat → Option Int
 | 0 => none
 | n + 1 => cond (C0 s w n) (some (wd w (2 + 3 * n))) (YI s w n)
def Vx (f : Od) (s : Int) : Option Int := cond (decide (Ek f < 0)) none (YI s ((f.1.getD (Ek f).toNat [])) 6)
def J0 (o : Option Int) : Int × Bool := match o with
 | some v => (v, true)
 | none => (0, false)
structure YU (f : Od) : Prop where
 l1 : f.1.length = 2
 l2 : f.2.1.length = 2
 pg : ∀ i (h1 : i < f.1.length) (h2 : i < f.2.1.length), f.1[i].length = 19 ∧ 0 ≤ f.2.1[i] ∧ f.2.1[i] ≤ 1000 ∧ SQ f.1[i] = true
def zF : Od := ([], [], ())
def GC (o : Sg) : Nat := o.2.1.toNat
def C9 (f : Od) (o : Sg) : Bool :=
 LI f && (decide (0 ≤ o.2.1 ∧ o.2.1 ≤ 1) && cond o.1 (decide (o.2.2.1 = 0 ∧ o.2.2.2.1 = 0 ∧ f.2.1.getD (GC o) 0 < 1000))
  (decide (0 ≤ o.2.2.1 ∧ o.2.2.1 ≤ 18 ∧ 0 ≤ o.2.2.2.1 ∧ o.2.2.2.1 ≤ 65534 ∧ (f.1.getD (GC o) []).getD o.2.2.1.toNat 0 = 65535)))
def D9 (f : Od) (o : Sg) : Od :=
 cond o.1 (f.1.set (GC o) (List.replicate 19 65535), f.2.1.set (GC o) (f.2.1.getD (GC o) 0 + 1), ())
  (f.1.set (GC o) ((f.1.getD (GC o) []).set o.2.2.1.toNat o.2.2.2.1), f.2.1, ())

def WI (f : Od) (ops : List Sg) : Od ⊕ Unit := Md (fun _ s o => cond (C9 s o) (.inl (D9 s o)) (.inr ())) 0 f ops
def W5 (r : Od ⊕ Unit) : Od × Bool × Unit := r.elim (fun g => (g, true, ())) (fun _ => (zF, false, ()))
def N0 (page : Int) (at' : Nat) (s v h : Int) : List Sg :=
 [(false, page, ((1 + 3 * at' : Nat) : Int), s, ()), (false, page, ((2 + 3 * at' : Nat) : Int), v, ()), (false, page, ((3 + 3 * at' : Nat) : Int), WN s v h, ())]
def FV (w : List Int) (n : Nat) : Bool := (wd w (3 * n + 1) == 65535) && ((wd w (3 * n + 2) == 65535) && (wd w (3 * n + 3) == 65535))
def WB (w : List Int) : Nat → Nat
 | 0 => 0
 | n + 1 => cond (FV w n) (WB w n) (n + 1)
def T8 (f : Od) (s v : Int) (k : Nat) : Option Int := cond ((k : Int) == s) (some v) (Vx f (k : Int))
def Y5 (f : Od) (s v page h : Int) (k : Nat) (st : List Sg × Nat) : List Sg × Nat := match T8 f s v k with
 | some x => (jf st.1 (N0 page st.2 (k : Int) x h), st.2 + 1)
 | none => st
def OY (page : Int) : Sg := (true, page, 0, 0, ())
def PV (f : Od) (s v page h : Int) : List Sg × Nat := QM (Y5 f s v page h) 4 ([OY page], 0)
def C1 (page h : Int) : Sg := (false, page, 0, h, ())
def TK (f : Od) : List Int := f.1.getD (Ek f).toNat []
def DJ (f : Od) (s v : Int) : List Sg × Bool :=
 cond (decide (Ek f < 0)) ([], false) (cond (!Nx s v) ([], false)
  (cond (decide (WB (TK f) 6 < 6)) (N0 (Ek f) (WB (TK f) 6) s v (wd (TK f) 0), true)
   (cond (decide (wd (TK f) 0 ≥ 60000)) ([], false) (cond (decide (f.2.1.getD (1 - Ek f).toNat 0 ≥ 1000)) ([], false)
    (jf (PV f s v (1 - Ek f) (wd (TK f) 0 + 1)).1 [C1 (1 - Ek f) (wd (TK f) 0 + 1)], true)))))
def X5 (f : Od) (P : Int) : List Int := f.1.getD P.toNat []
def S8 (t : Cc) : Bool := decide (1 ≤ t.1 ∧ t.1 ≤ 1000 ∧ 0 ≤ t.2.1 ∧ t.2.1 ≤ 1000 ∧ 0 ≤ t.2.2.1 ∧ t.2.2.1 ≤ 2)
abbrev BU : Type := List Sg × Od
def K1 (k : Nat) (st : BU) (x : Int) : BU ⊕ Unit :=
 cond ((J0 (Vx st.2 (k : Int))).2 && ((J0 (Vx st.2 (k : Int))).1 == x)) (.inl st)
  (cond (DJ st.2 (k : Int) x).2 (.inl (jf st.1 (DJ st.2 (k : Int) x).1, (W5 (WI st.2 (DJ st.2 (k : Int) x).1)).1)) (.inr ()))
def V0 (t : Cc) : List Int := [t.1, t.2.1, t.2.2.1]
def FN (f : Od) (t : Cc) : List Sg × Bool := cond (!S8 t) ([], false) (cond (decide (Ek f < 0)) ([], false) ((Md K1 0 (([], f) : BU) (V0 t)).elim (fun st => (st.1, true)) (fun _ => ([], false))))
def U5 (f : Od) (P : Int) : Int := f.2.1.getD P.toNat 0
def V5 (f : Od) (P : Int) : Int := wd (X5 f P) 0
def P1 (P : Int) : Prop := P = 0 ∨ P = 1
structure SC (f : Od) (c : Int) : Prop where
 ok : YU f
 pg : P1 (Ek f)
 hd : V5 f (Ek f) ≤ c + 1
 er : ∀ P, P1 P → U5 f P ≤ c
structure M9 (f g : Od) (s v c : Int) (whole : Bool) : Prop where
 good : SC g (c + 1)
 rd : ∀ σ : Int, 0 ≤ σ ∧ σ ≤ 3 → Vx g σ = cond (whole && (σ == s)) (some v) (Vx f σ)
def KL (f : Od) (t : Cc) (j : Nat) (g : Od) : Prop := ∀ σ : Nat, σ ≤ 3 → Vx g (σ : Int) = if σ < j then some ((V0 t).getD σ 0) else Vx f (σ : Int)
structure J9 (f : Od) (t : Cc) (c : Int) (k : Nat) (st : BU) : Prop where
 run : WI f st.1 = .inl st.2
 good : SC st.2 (c + k)
 prog : KL f t k st.2
 cut : ∀ n, ∃ (x : Od) (j : Nat), WI f (st.1.take n) = .inl x ∧ SC x (c + k) ∧ j ≤ k ∧ KL f t j x
structure K9 (f : Od) (t : Cc) (c : Int) (g : Od) : Prop where
 ok : (FN f t).2 = true
 run : WI f (FN f t).1 = .inl g
 good : SC g (c + 3)
 prog : KL f t 3 g
 cut : ∀ n, ∃ (x : Od) (j : Nat), WI f ((FN f t).1.take n) = .inl x ∧ SC x (c + 3) ∧ j ≤ 3 ∧ KL f t j x

theorem TN {a : List Int} (h : a.length ≤ Ka) : Er a = some (false, ()) := by
 have h20 : Ka = 1048576 := rfl
 unfold Er
 rw [Ga (by omega)]
theorem WR {a : List Int} (h : ¬ a.length ≤ Ka) : Er a = some (true, ()) := by
 have h20 : Ka = 1048576 := rfl
 unfold Er
 rw [Ia (by omega)]
theorem Xq {α : Type} (l : List α) (k : Nat) : Yd (fun _ (_ : α) => true) k l = true := Qh.2 fun _ _ => rfl
theorem VG (l : List Int) (hn : l.length ≤ Ka) : Jp l l = some (true, ()) := by
 have h20 : Ka = 1048576 := rfl
 have hl := Wf (step := fun x => Ck x.1.1 x.1.2.1 x.1.2.2.1) l (fun _ _ => true) (fun i => ((l, l, i, ()), ())) (.inl ((), ())) (.inr ((false, ()), ())) (by
  intro k hk
  simp only [Ck]
  rw [Ia (show (k : Int) < ((ja l : Nat) : Int) by omega), Vc hk]
  simp) (by
  simp only [Ck]
  rw [Ga (by omega)]; rfl) (by omega)
 unfold Jp Nl
 erw [hl]
 rw [Xq]
 simp
theorem MJ (x : Na) : Ki Zr x x = true := by simp [Ki]
theorem NG (x : Ha) : Ki Sc x x = true := by simp [Ki]
theorem UG (l : List Na) (hn : l.length ≤ Ka) : Ip l l = some (true, ()) := by
 have h20 : Ka = 1048576 := rfl
 have hl := Wf (step := fun x => Bk x.1.1 x.1.2.1 x.1.2.2.1) l (fun _ _ => true) (fun i => ((l, l, i, ()), ())) (.inl ((), ())) (.inr ((false, ()), ())) (by
  intro k hk
  simp only [Bk]
  rw [Ia (show (k : Int) < ((ja l : Nat) : Int) by omega), Vc hk]
  simp only [cond_true, jb, MJ]; rfl) (by
  simp only [Bk]
  rw [Ga (by omega)]; rfl) (by omega)
 unfold Ip Ml
 erw [hl]
 rw [Xq]
 simp
theorem KC (l : List Da) (hn : l.length ≤ Ka) (hr : ∀ x ∈ l, x.2.1.length ≤ Ka) : Ql l l = some (true, ()) := by
 have h20 : Ka = 1048576 := rfl
 have hl := Wf (step := fun x => Nh x.1.1 x.1.2.1 x.1.2.2.1) l (fun _ _ => true) (fun i => ((l, l, i, ()), ())) (.inl ((), ())) (.inr ((false, ()), ())) (by
  intro k hk
  simp only [Nh]
  rw [Ia (show (k : Int) < ((ja l : Nat) : Int) by omega), Vc hk]
  simp only [cond_true, jb, VG _ (hr _ (qo hk))]
  simp) (by
  simp only [Nh]
  rw [Ga (by omega)]; rfl) (by omega)
 unfold Ql Li
 erw [hl]
 rw [Xq]
 simp
theorem UJ (m : Ta) (i : Nat) (hi : i < m.2.1.length) (hl : m.2.1[i].length ≤ Ka) :
 Ji (((), (), (i : Int), (0 : Int), ()), (m, m, ())) = some (.inl (((), (), (i : Int), ()), (m, m, ()))) := by
 have h20 : Ka = 1048576 := rfl
 have hl := Wf (step := fun x : ((Unit × (Unit × Nb)) × (Ta × (Ta × Unit))) => Pl x.1.1 x.1.2.1 x.1.2.2.1 x.1.2.2.2.1 x.2.1 x.2.2.1) m.2.1[i] (fun _ _ => true) (fun j => (((), (), (i : Int), j, ()), (m, m, ()))) (.inl (((), (), (i : Int), ()), (m, m, ()))) (.inr ((false, ()), ())) (by
  intro k hk
  simp only [Pl]
  rw [Vc hi]
  simp only [jb]
  rw [Ia (show (k : Int) < ((ja m.2.1[i] : Nat) : Int) by omega), Vc hk]
  simp only [cond_true, jb, NG]; rfl) (by
  simp only [Pl]
  rw [Vc hi]
  simp only [jb]
  rw [Ga (by omega)]; rfl) (by omega)
 unfold Ji
 erw [hl]
 rw [Xq]; rfl
theorem CJ (m : Ta) (hn : m.2.1.length ≤ Ka) (hr : ∀ x ∈ m.2.1, x.length ≤ Ka) : Mq m m = some (true, ()) := by
 have h20 : Ka = 1048576 := rfl
 have hl := Wf (step := fun x : ((Unit × (Unit × (Int × Unit))) × (Ta × (Ta × Unit))) => Ol x.1.1 x.1.2.1 x.1.2.2.1 x.2.1 x.2.2.1) m.2.1 (fun _ _ => true) (fun j => (((), (), j, ()), (m, m, ()))) (.inl ((), ())) (.inr ((false, ()), ())) (by
  intro k hk
  simp only [Ol]
  rw [Ia (show (k : Int) < ((ja m.2.1 : Nat) : Int) by omega), Vc hk, UJ m k hk (hr _ (qo hk))]
  simp) (by
  simp only [Ol]
  rw [Ga (by omega)]; rfl) (by omega)
 unfold Mq Nm
 erw [hl]
 rw [Xq]
 simp
theorem FE (e : Cb) (h1 : e.1.2.1.length ≤ Ka) (h2 : ∀ x ∈ e.1.2.1, x.length ≤ Ka) (h3 : e.2.2.2.1.length ≤ Ka) : Dj e e = some (true, ()) := by
 unfold Dj
 rw [CJ _ h1 h2, UG _ h3]
 simp
theorem R8 (n : Nat) : IB n 0 0 := ⟨by omega, by have := Nat.two_pow_pos n; omega, by decide, by omega, by omega⟩
theorem EK {m : Ta} (hm : Bd m = true) : Ri (WH m 0 0 false []) :=
 (Jw _).1 (IM hm (R8 _) false D1 (by simp))
theorem MG {m : Ta} (hm : Bd m = true) : Eo m [] = some (WH m 0 0 false [], true, ()) := by
 have h20 : Ka = 1048576 := rfl
 have hz := (WD hm).z
 have he := EK hm
 have hz2 := Cv he
 unfold Eo
 rw [Js _ (by omega), Ks [] (by show (0 : Nat) ≤ _; omega)]
 simp only [jb]
 have : Ch (m, ([] : List (List Cc)), (0 : Int), ([] : List Na), (0 : Int), false, ()) = some (true, ()) := by
  rw [← (Jw _).2 he]
  exact Rp (WH m 0 0 false []) (by omega)
 rw [this]
 rfl
theorem LG (a : List Int) (hn : a.length ≤ Ka) : ∃ t : Cc, Cn a = some (t, ()) ∧ Qe t = true ∧ t.1 ≤ 9 := by
 obtain ⟨c, e, hc⟩ := DC a 9 hn
 obtain ⟨c1, x1, e1, h1, b1⟩ := Ci hc 9 (by omega)
 obtain ⟨c2, x2, e2, h2, b2⟩ := UK h1 [(0 : Int), (0 : Int), (3 : Int), (6 : Int)] (by simp) (by simp)
 obtain ⟨c3, x3, e3, h3, b3⟩ := Ci h2 3 (by omega)
 unfold Cn
 rw [e]
 simp only [jb]
 unfold Ir
 rw [e1]
 simp only [jb]
 rw [e2]
 simp only [jb]
 rw [e3]
 simp only [jb]
 rw [Ud (by omega) (by omega)]
 have hx2 : x2 = 0 ∨ x2 = 3 ∨ x2 = 6 := by simpa using b2
 refine ⟨_, rfl, ?_, by show 1 + x1 ≤ 9; omega⟩
 simp only [Qe, jd, decide_eq_true_eq]
 exact ⟨by omega, by omega, by omega⟩
def At (e : Cb) (t : Cc) : Jb := (e, t, ([] : List Ua), (0 : Int), (0 : Int), (0 : Int), (0 : Int), ())
theorem VB (d k : Int) : Ad [] d k = true := rfl
theorem Bv {e : Cb} (he : Ri e) {t : Cc} (ht : Qe t = true) {q : List Ua} {now clock tp ta : Int} (hn : 0 ≤ now ∧ now ≤ 1000000) (hc : 0 ≤ clock ∧ clock ≤ now)
 (hq : Ad q (Sl e.2.2.2.1) e.1.1 = true) (hb : Tl q now = true) (htp : 0 ≤ tp ∧ tp ≤ e.1.1) (hta : 0 ≤ ta ∧ ta ≤ now) : Ff (e, t, q, now, clock, tp, ta, ()) = true := by
 unfold Ff
 simp only [jd, decide_eq_true_eq]
 exact ⟨(Jw e).2 he, ht, hn, hc, hq, hb, htp, hta⟩
theorem LE {e : Cb} (he : Ri e) {t : Cc} (ht : Qe t = true) : Tm e t = some (At e t, true, ()) := by
 have h20 : Ka = 1048576 := rfl
 have hz := Cv he
 have hk := (Sh he.km).k1
 unfold Tm
 rw [Yi _ (by omega)]
 simp only [jb]
 have : Vh (e, t, ([] : List Ua), (0 : Int), (0 : Int), (0 : Int), (0 : Int), ()) = some (true, ()) := by
  rw [← Bv he ht (q := []) (now := 0) (clock := 0) (tp := 0) (ta := 0) (by omega) (by omega) (VB _ _) rfl (by omega) (by omega)]
  exact Et _ (by rw [Hw, Kr]; show Xb Kc e + 0 ≤ _; omega)
 rw [this]
 rfl
theorem VF {α : Type} (p : α → Bool) : ∀ (l : List α) (k : Nat), (∀ x ∈ l, p x = false) → Uc p k l = -1
 | [], _, _ => rfl
 | x :: l, k, h => by
  simp only [Uc, h x (by simp), cond_false]
  exact VF p l (k + 1) fun y hy => h y (jr _ hy)
theorem NN {e : Cb} (h : Ri e) {k : Nat} (hk : (k : Int) < e.1.1) (hn : ∀ y ∈ e.2.2.2.1, y.1 ≠ (k : Int)) (b : Bool) :
 Jt e (k : Int) b = some (pE e k b, pR e k b, true, ()) := by
 have h20 : Ka = 1048576 := rfl
 have hz := Cv h
 have hle := Ao h.hd
 unfold Jt
 rw [Rp _ (by omega), (Jw e).2 h]
 simp only [jb, jg, cond_false]
 rw [Ga (show ¬ (k : Int) < 0 by omega), Ga (show ¬ (k : Int) ≥ e.1.1 by omega), Nw _ _ (by omega), VF _ _ _ (fun y hy => by simpa using hn y hy)]
 simp only [jb, cond_false]
 rw [Ga (show ¬ (-1 : Int) ≥ 0 by decide), Qw h hk hn b]
 rfl
theorem HT {e : Cb} {k : Nat} (h : Td (Rg e.1.2.1 (Pf e.1 (Bh e.2.2.1 e.2.2.2.1) k) k) = false) : Lz e k true = Lz e k false := by
 unfold Lz Rt Uu
 rw [h]; rfl
theorem L0 {e : Cb} {k : Nat} (h : Td (Rg e.1.2.1 (Pf e.1 (Bh e.2.2.1 e.2.2.2.1) k) k) = false) : pE e k true = pE e k false ∧ pR e k true = pR e k false := by
 have h0 := HT h
 have h1 : Hh e k true = Hh e k false := by unfold Hh; rw [h0]
 have h2 : pH e k true = pH e k false := by unfold pH; rw [h1]
 have h3 : pM e k true = pM e k false := by unfold pM; rw [h1, h2]
 exact ⟨by unfold pE; rw [h1, h2], by unfold pR; rw [h2, h3]⟩
theorem H1 {e : Cb} (h : Ri e) {k : Nat} (hk : (k : Int) < e.1.1) (hn : ∀ y ∈ e.2.2.2.1, y.1 ≠ (k : Int)) (b : Bool) : (pR e k b).length ≤ 17 ∧ ∀ x ∈ pR e k b, x.2.1.length ≤ 56 := by
 have F := IA h hk hn b
 constructor
 ·have := Hx (jf (pM e k b) [Ec (pH e k b)]) (Ec e.2.2.2.1)
  have h9 := F.ml
  unfold pR
  have : (jf (pM e k b) [Ec (pH e k b)]).length = (pM e k b).length + 1 := by simp
  omega
 ·intro x hx
  have := Du _ _ _ hx
  rcases jl.1 (show x ∈ pM e k b ++ [Ec (pH e k b)] from this) with h1 | h1
  ·exact F.mx x h1
  ·rw [qd.1 h1]; exact Rq _
theorem ED {t : Cc} (ht : Qe t = true) (key til : Int) : Ni t key 5 [] til = cond (decide (til ≥ 5 + t.1)) (2, 5 + t.1, ()) (0, 0, ()) := by
 have h := ht
 simp only [Qe, jd, decide_eq_true_eq] at h
 unfold Ni
 rw [ht, Ud (n := 5 + t.1) (by omega) (by omega)]
 rfl
theorem HS {k : Nat} (hk : k < 3) : Ad [((5 : Int), (k : Int), true, ())] 0 3 = true := by
 have : k = 0 ∨ k = 1 ∨ k = 2 := by omega
 rcases this with rfl | rfl | rfl <;> decide
theorem NM {t : Cc} (ht : Qe t = true) (a : Ha) (R : List Da) (L : List Oe) (hL : L.length ≤ Ka) (w : Int) (hw : w = cond (Td a) (5 + t.1) 5) (hall : ∀ s ∈ L, s.1 = w) :
 Mh (((), (), R, L, (0 : Int), ()), (t, a, ())) = some (.inl ((R, L, ()), ())) := by
 have h20 : Ka = 1048576 := rfl
 have h := ht
 simp only [Qe, jd, decide_eq_true_eq] at h
 have hl := Wf (step := fun x : ((Unit × (Unit × ((List Da) × ((List Oe) × (Int × Unit))))) × (Cc × (Ha × Unit))) => Ak x.1.1 x.1.2.1 x.1.2.2.1 x.1.2.2.2.1 x.1.2.2.2.2.1 x.2.1 x.2.2.1) L (fun _ _ => true)
  (fun i => (((), (), R, L, i, ()), (t, a, ()))) (.inl ((R, L, ()), ())) (.inr ((false, ()), ())) (by
  intro k hk
  have hs := hall _ (qo hk)
  simp only [Ak]
  rw [Ia (show (k : Int) < ((ja L : Nat) : Int) by omega), Cr, Ia hk, jn, je hk, Ud (n := 5 + t.1) (by omega) (by omega)]
  simp only [cond_true, jb, hs, Vj]
  cases hT : Td a with
  | true =>
   rw [hT] at hw
   simp only [cond_true] at hw
   rw [show (w != 5) = true by simp; omega, show (w != 5 + t.1) = false by simp; omega]
   rfl
  | false =>
   rw [hT] at hw
   simp only [cond_false] at hw
   rw [show (w != 5) = false by simp; omega, show (w != 5 + t.1) = true by simp; omega]
   rfl) (by
  simp only [Ak]
  rw [Ga (by omega)]; rfl) (by omega)
 unfold Mh
 erw [hl]
 rw [Xq]; rfl
theorem UT (w : Int) (R : List Da) : (Ph [] w R).map (fun x => x.2.1) = R := by simp [Ph, Function.comp_def]
theorem IQ (w : Int) (R : List Da) : ∀ s ∈ Ph [] w R, s.1 = w := by
 intro s hs
 have : s ∈ R.map fun r => ((w, r, ()) : Oe) := hs
 obtain ⟨r, _, rfl⟩ := qr.1 this
 rfl
theorem CW {w : Int} {R : List Da} (h1 : R.length ≤ 1000) (h2 : ∀ x ∈ R, x.2.1.length ≤ 56) : Xb (.sl Uf) (Ph [] w R) ≤ Ka := by
 have h20 : Ka = 1048576 := rfl
 have := JE (e := Uf) (c := 56) (w := Ph [] w R) fun s hs => by
  have : s ∈ R.map fun r => ((w, r, ()) : Oe) := hs
  obtain ⟨r, hr, rfl⟩ := qr.1 this
  have h3 := h2 r hr
  show 0 + (Xb Tc r + 0) ≤ 56
  rw [GJ]
  omega
 rw [Vs] at this
 simp only [j7] at this
 omega
theorem OJ (a : List Int) : Ok a = some (true, ()) := by
 have h20 : Ka = 1048576 := rfl
 by_cases hn : a.length ≤ Ka
 case neg => unfold Ok; rw [WR hn]; rfl
 obtain ⟨m, em, hm, hm3⟩ := KG a 69 (keys := 3) hn (by omega) (by omega)
 obtain ⟨t, et, ht, ht9⟩ := LG a hn
 obtain ⟨ki, ek, hk0, hk3⟩ := BQ a 70 3 hn (by omega)
 obtain ⟨k, rfl⟩ := jv hk0
 have hk : k < 3 := by omega
 have hTm := ht
 simp only [Qe, jd, decide_eq_true_eq] at hTm
 have hm3' : m.1 = 3 := hm3
 have he := EK hm
 have hz := Cv he
 have hmz := (WD hm).z
 obtain ⟨e, hee⟩ : ∃ e, e = WH m 0 0 false [] := ⟨_, rfl⟩
 have e1 : e.1 = m := by rw [hee]; rfl
 have eh : e.2.2.2.1 = [] := by rw [hee]; rfl
 have ef : e.2.2.1 = 0 := by rw [hee]; rfl
 have hNE := MG hm
 rw [← hee] at he hz hNE
 have hke : (k : Int) < e.1.1 := by rw [e1]; omega
 have hno : ∀ y ∈ e.2.2.2.1, y.1 ≠ (k : Int) := by rw [eh]; simp
 have hmask : Sl e.2.2.2.1 = 0 := by rw [eh]; rfl
 have hfit : Ad [((5 : Int), (k : Int), true, ())] (Sl e.2.2.2.1) e.1.1 = true := by rw [hmask, e1, hm3']; exact HS hk
 have hlay : Bh e.2.2.1 e.2.2.2.1 = 1 := by rw [ef, eh]; rfl
 have hAct := Iu (by omega : Xb Ib m ≤ Ka) hm 1 (k := k) (by omega)
 obtain ⟨act, hact⟩ : ∃ act, act = Rg m.2.1 (Pf m 1 k) k := ⟨_, rfl⟩
 rw [← hact] at hAct
 have hact' : Rg e.1.2.1 (Pf e.1 (Bh e.2.2.1 e.2.2.2.1) k) k = act := by rw [hlay, e1, hact]
 have hk1 : ((0 : Int) == j5 .i64 ((k : Int) + 1)) = false := by
  rw [Ud (by omega) (by omega)]; simp; omega
 obtain ⟨x, hx⟩ : ∃ x : Ua, x = ((5 : Int), (k : Int), true, ()) := ⟨_, rfl⟩
 have hzd : ∀ (q : List Ua) (n c p z : Int), q.length ≤ 1 → Xb Gd (e, t, q, n, c, p, z, ()) ≤ Ka := by
  intro q n c p z hq
  rw [Hw, Kr]
  show Xb Kc e + q.length ≤ _
  omega
 have hok1 : Rk (At e t) [x] 5 = true := by
  unfold Rk
  rw [show Ff (At e t) = true from Bv he ht (by omega) (by omega) (VB _ _) rfl (by omega) (by omega)]
  have h1 : Ad (jf (At e t).2.2.1 [x]) (Sl (At e t).1.2.2.2.1) (At e t).1.1.1 = true := by rw [hx]; exact hfit
  rw [h1, hx]; rfl
 have hR := fun b => H1 he hke hno b
 have F := fun b => IA he hke hno b
 have hPr := NN he hke hno true
 have hfeed : Bo (At e t) ((5 : Int), (k : Int), true, ()) = some (Zm (At e t) [x] 5) := by
  unfold Bo
  rw [← hx, show x.1 = 5 by rw [hx], Is (At e t) [x] 5 (hzd [] 0 0 0 0 (by simp)) (by simp only [jw, j7]; omega)]
  rfl
 have hwait : ∀ d : Jb, Xb Gd d ≤ Ka → Ho d (5 + t.1) = some (Zm d [] (5 + t.1)) := by
  intro d hd
  unfold Ho
  rw [Is _ _ _ hd (by simp only [j7]; omega)]
  rfl
 have hsame : ∀ b, Dj (pE e k b) (pE e k b) = some (true, ()) := by
  intro b
  have hkm := Sh (F b).ok.km
  have hl := Ao (F b).ok.hd
  refine FE _ (by have := hkm.l2; omega) (fun l hl => ?_) (by omega)
  obtain ⟨i, hi, rfl⟩ := qq hl
  have := hkm.row i hi
  have := hkm.k2
  omega
 have hfin : ∀ (d1 d2 : Jb) (s1 s2 : List Oe) (b : Bool) (w : Int), Zm (At e t) [x] 5 = (d1, s1, true, ()) → Xb Gd d1 ≤ Ka → Zm d1 [] (5 + t.1) = (d2, s2, true, ()) → d2.2.2.1 = [] → d2.1 = pE e k b →
  pE e k true = pE e k b → pR e k true = pR e k b → jf (jf ([] : List Oe) s1) s2 = Ph [] w (pR e k b) → s1.length ≤ 17 → s2.length ≤ 17 → w = cond (Td act) (5 + t.1) 5 → Ok a = some (true, ()) := by
  intro d1 d2 s1 s2 b w hp1 hd1 hp2 hq2 hd2 hpe hpr hs l1 l2 hw
  unfold Ok
  rw [TN hn]
  simp only [jb, cond_false]
  rw [show Fj a 69 3 = some (m, ()) from em]
  simp only [jb]
  rw [hNE]
  simp only [jb]
  rw [et]
  simp only [jb]
  rw [LE he ht]
  simp only [jb]
  rw [ek]
  simp only [jb]
  rw [hAct]
  simp only [jb]
  rw [hfeed, hp1]
  simp only [jb]
  rw [Ud (n := 5 + t.1) (by omega) (by omega), hwait _ hd1, hp2]
  simp only [jb]
  rw [hPr]
  simp only [jb, jg, cond_false]
  rw [hq2, hd2, hpe, hsame]
  simp only [jb, jg, cond_false]
  rw [Ga (show ¬ ((ja ([] : List Ua) : Nat) : Int) > 0 by simp)]
  simp only [cond_false]
  rw [show jx (ja ([] : List Oe) + ja s1) Hb = true from ji (by rw [Hg]; simp; omega),
   show jx (ja (jf ([] : List Oe) s1) + ja s2) Hb = true from ji (by rw [Hg]; simp; omega), hs, hpr]
  simp only [cond_true]
  have hRb := hR b
  rw [NM ht act (pR e k b) (Ph [] w (pR e k b)) (by rw [Vs]; simp; omega) w hw (IQ _ _)]
  simp only [jb, qj]
  rw [OA _ (CW (by omega) hRb.2), UT]
  simp only [jb]
  rw [KC _ (by omega) (fun y hy => by have := hRb.2 y hy; omega)]
  rfl
 cases hT : Td act with
 | true =>
  have hs1 : Qk (e, t, [x], (5 : Int), (0 : Int), (0 : Int), (0 : Int), ()) x [] = none := by
   unfold Qk
   rw [hx]
   simp only [jg, cond_false, jn, hact', hT, cond_true, hk1, qm, ED ht]
   rw [Ga (show ¬ (5 : Int) ≥ 5 + t.1 by omega)]
   rfl
  have hs2 : Qk (e, t, [x], 5 + t.1, (0 : Int), (0 : Int), (0 : Int), ()) x [] = some ((pE e k true, t, [], 5 + t.1, 5 + t.1, (0 : Int), (0 : Int), ()), pR e k true) := by
   unfold Qk
   rw [hx]
   simp only [jg, cond_false, jn, hact', hT, cond_true, hk1, qm, ED ht]
   rw [Ia (show (5 + t.1 : Int) ≥ 5 + t.1 by omega)]
   simp only [cond_true]
   rw [show max (max (0 : Int) 5) (5 + t.1) = 5 + t.1 by omega]
   rfl
  have hp1 : Zm (At e t) [x] 5 = ((e, t, [x], (5 : Int), (0 : Int), (0 : Int), (0 : Int), ()), [], true, ()) := by
   unfold Zm
   rw [hok1]
   simp only [cond_true]
   show ((Sf 1 (e, t, [x], (5 : Int), (0 : Int), (0 : Int), (0 : Int), ()) []).1, (Sf 1 (e, t, [x], (5 : Int), (0 : Int), (0 : Int), (0 : Int), ()) []).2, true, ()) = _
   simp only [Sf, hs1]
  have hok2 : Rk (e, t, [x], (5 : Int), (0 : Int), (0 : Int), (0 : Int), ()) [] (5 + t.1) = true := by
   unfold Rk
   rw [show Ff (e, t, [x], (5 : Int), (0 : Int), (0 : Int), (0 : Int), ()) = true from Bv he ht (by omega) (by omega) (by rw [hx]; exact hfit) (by rw [hx]; rfl) (by omega) (by omega)]
   have h1 : Ad (jf [x] []) (Sl e.2.2.2.1) e.1.1 = true := by rw [hx]; exact hfit
   simp only [jk]
   rw [h1, Ia (show (5 : Int) ≤ 5 + t.1 ∧ 5 + t.1 ≤ 1000000 by omega)]; rfl
  have hp2 : Zm (e, t, [x], (5 : Int), (0 : Int), (0 : Int), (0 : Int), ()) [] (5 + t.1) = ((pE e k true, t, [], 5 + t.1, 5 + t.1, (0 : Int), (0 : Int), ()), Ph [] (5 + t.1) (pR e k true), true, ()) := by
   unfold Zm
   rw [hok2]
   simp only [cond_true]
   show ((Sf 1 (e, t, [x], 5 + t.1, (0 : Int), (0 : Int), (0 : Int), ()) []).1, (Sf 1 (e, t, [x], 5 + t.1, (0 : Int), (0 : Int), (0 : Int), ()) []).2, true, ()) = _
   simp only [Sf, hs2]
  exact hfin _ _ _ _ true (5 + t.1) hp1 (hzd _ _ _ _ _ (by simp)) hp2 rfl rfl rfl rfl rfl (by simp) (by rw [Vs]; have := (hR true).1; simp; omega) (by rw [hT]; rfl)
 | false =>
  obtain ⟨hpe, hpr⟩ := L0 (e := e) (k := k) (by rw [hact']; exact hT)
  have hs1 : Qk (e, t, [x], (5 : Int), (0 : Int), (0 : Int), (0 : Int), ()) x [] = some ((pE e k false, t, [], (5 : Int), (5 : Int), (0 : Int), (0 : Int), ()), pR e k false) := by
   unfold Qk
   rw [hx]
   simp only [jg, cond_false, jn, hact', hT]
   rfl
  have hp1 : Zm (At e t) [x] 5 = ((pE e k false, t, [], (5 : Int), (5 : Int), (0 : Int), (0 : Int), ()), Ph [] 5 (pR e k false), true, ()) := by
   unfold Zm
   rw [hok1]
   simp only [cond_true]
   show ((Sf 1 (e, t, [x], (5 : Int), (0 : Int), (0 : Int), (0 : Int), ()) []).1, (Sf 1 (e, t, [x], (5 : Int), (0 : Int), (0 : Int), (0 : Int), ()) []).2, true, ()) = _
   simp only [Sf, hs1]
  have hk1' : (3 : Int) = (pE e k false).1.1 := by show (3 : Int) = e.1.1; rw [e1]; omega
  have hok2 : Rk (pE e k false, t, [], (5 : Int), (5 : Int), (0 : Int), (0 : Int), ()) [] (5 + t.1) = true := by
   unfold Rk
   rw [show Ff (pE e k false, t, ([] : List Ua), (5 : Int), (5 : Int), (0 : Int), (0 : Int), ()) = true from Bv (F false).ok ht (by omega) (by omega) (VB _ _) rfl (by omega) (by omega)]
   have h1 : Ad (jf [] []) (Sl (pE e k false).2.2.2.1) (pE e k false).1.1 = true := rfl
   simp only [jk]
   rw [h1, Ia (show (5 : Int) ≤ 5 + t.1 ∧ 5 + t.1 ≤ 1000000 by omega)]; rfl
  have hp2 : Zm (pE e k false, t, [], (5 : Int), (5 : Int), (0 : Int), (0 : Int), ()) [] (5 + t.1) = ((pE e k false, t, [], 5 + t.1, (5 : Int), (0 : Int), (0 : Int), ()), [], true, ()) := by
   unfold Zm
   rw [hok2]
   rfl
  refine hfin _ _ _ _ false 5 hp1 ?_ hp2 rfl rfl hpe hpr (by simp) (by rw [Vs]; have := (hR false).1; simp; omega) (by simp) (by rw [hT]; rfl)
  have hz2 := Cv (F false).ok
  rw [Hw, Kr]
  show Xb Kc (pE e k false) + 0 ≤ _
  omega
end KF
