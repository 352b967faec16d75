/- An evaluator of Go functions on plain data, its soundness, and plain laws on what the functions compute, part 6 (conditions: as each lemma tells). -/
import Derived.Test.YtoncbegnhhcgmaaGreatE
set_option linter.unusedSimpArgs false
set_option linter.unusedVariables false
namespace KF
open Go
open List renaming length → ja, getElem?_eq_getElem → je, append → jf, mem_append → jl, mem_cons → jp, mem_cons_of_mem → jr, length_cons → jw, set → j6, length_nil → j8, length_set → j9, mem_singleton → qe, length_append → qf, getElem?_append_left → qh, getElem?_append_right → qi, getD_eq_getElem?_getD → qj, getElem_mem → qs, mem_of_mem_drop → qt, getElem_of_mem → qu, mem_map → qv, getElem?_set_self → qw, length_drop → qx, mem_cons_self → qz
open Option renaming bind_some → jb, bind → jz, map_some → qd, bind_eq_some_iff → qg
open Option.some renaming injEq → jc
open Bool renaming and_eq_true → jd, not_true → jg, true_and → jk, false_eq_true → jq, not_false → qa, not_eq_true → qb, false_and → qq, eq_iff_iff → qy
open Prod.mk renaming injEq → jh
open Nat renaming ble_eq_true_of_le → ji, mul_le_mul_right → jm, le_refl → jo, zero_add → js, add_assoc → jt, eq_of_beq_eq_true → ju, ble → jx, le_trans → qc, shiftLeft_eq → qk, lt_of_lt_of_le → qm, pow_le_pow_right → qn, testBit_xor → qo, testBit_two_pow → qp, xor_lt_two_pow → qr
open Int renaming toNat_natCast → jn, eq_ofNat_of_zero_le → jv, toNat → jy
open Go.IntKind renaming wrap → j5
open Sum renaming elim → j7, elim_inl → ql
open Result renaming andThen_ok → q0
open Sem renaming run_bind → q5
theorem T4 {X R : Type} {step : X → Option (X ⊕ R)} {α S : Type} (xs : List α) (g : S → α → S) (I : S → Nat → X) (out : S → R) (Pi : Nat → S → Prop)
 (h : ∀ k (hk : k < xs.length) s, Pi k s → step (I s k) = some (.inl (I (g s xs[k]) (k + 1))) ∧ Pi (k + 1) (g s xs[k]))
 (he : ∀ s, Pi xs.length s → step (I s xs.length) = some (.inr (out s))) (s0 : S) (h0 : Pi 0 s0) :
 Ua step (I s0 0) = some (out (xs.foldl g s0)) ∧ Pi xs.length (xs.foldl g s0) := by
 have key : ∀ (ys : List α) (k : Nat) (s : S), xs.drop k = ys → k ≤ xs.length → Pi k s → Ua step (I s k) = some (out (ys.foldl g s)) ∧ Pi xs.length (ys.foldl g s) := by
  intro ys
  induction ys with
  | nil =>
   intro k s hd hle hi
   have := ZX hd hle
   subst this
   rw [Bd (he s hi)]
   exact ⟨rfl, hi⟩
  | cons y ys ih =>
   intro k s hd hle hi
   obtain ⟨hk, hy, hd'⟩ := NQ hd
   obtain ⟨h1, h2⟩ := h k hk s hi
   rw [Bd h1, hy]
   rw [hy] at h2
   exact ih (k + 1) _ hd' hk h2
 exact key xs 0 s0 rfl (Nat.zero_le _) h0
def Xr (s : List Lf) (w : Int) (l : List Ka) : List Lf := jf s (l.map fun r => ((w, r, ()) : Lf))
theorem M0 (w : Int) : ∀ (l : List Ka) (s : List Lf), l.foldl (fun s r => jf s [((w, r, ()) : Lf)]) s = Xr s w l
 | [], s => by simp [Xr]
 | x :: l, s => by
  rw [List.foldl_cons, M0 w l]
  simp [Xr]
theorem Q1 (s : List Lf) (w : Int) (l : List Ka) : (Xr s w l).length = s.length + l.length := by simp [Xr]
theorem Eai (s : List Lf) (w : Int) (l : List Ka) (hl : l.length ≤ 1000) (hs : s.length ≤ 1000000) : QQ s w l = some (Xr s w l, ()) := by
 have h := (T4 (step := fun x => GJ x.1.1 x.1.2.1 x.1.2.2.1 x.1.2.2.2.1 x.1.2.2.2.2.1) l (fun s r => jf s [((w, r, ()) : Lf)])
  (fun o k => ((o, w, (l, (k : Int)), ((ja l : Nat) : Int), (k : Int), ()), ())) (fun o => .inl ((o, ()), ())) (fun k o => o.length = s.length + k) (by
   intro k hk o ho
   refine ⟨?_, by simp [ho]; omega⟩
   simp only [GJ]
   rw [Ba (by omega), Fg, Ba hk, jn, je hk]
   simp only [cond_true, jb, Nat.beq_refl]
   rw [show jx (ja o + ja ([(w, l[k], ())] : List Lf)) Sa = true from ji (by simp only [jw, j8]; rw [Ud]; omega)]
   rw [Jc (by omega)]
   rfl) (by
   intro o ho
   simp only [GJ]
   rw [Aa (by omega)]; rfl) s rfl).1
 unfold QQ OK
 erw [h]
 rw [M0]
 rfl
theorem AU (s : List Lf) (w : Int) (l : List Ka) (d : Gb) (hl : l.length ≤ 1000) (hs : s.length ≤ 1000000) :
 Vi (((), s, w, (l, (0 : Int)), (0 : Int), ()), (d, ())) = some (.inl (((), Xr s w l, w, ()), (d, ()))) := by
 have h := (T4 (step := fun x => Oy x.1.1 x.1.2.1 x.1.2.2.1 x.1.2.2.2.1 x.1.2.2.2.2.1 x.2.1) l (fun s r => jf s [((w, r, ()) : Lf)])
  (fun o k => (((), o, w, (l, (k : Int)), (k : Int), ()), (d, ()))) (fun o => .inl (((), o, w, ()), (d, ()))) (fun k o => o.length = s.length + k) (by
   intro k hk o ho
   refine ⟨?_, by simp [ho]; omega⟩
   simp only [Oy]
   rw [Ba (by omega), Fg, Ba hk, jn, je hk]
   simp only [cond_true, jb, Nat.beq_refl]
   rw [show jx (ja o + ja ([(w, l[k], ())] : List Lf)) Sa = true from ji (by simp only [jw, j8]; rw [Ud]; omega)]
   rw [Jc (by omega)]
   rfl) (by
   intro o ho
   simp only [Oy]
   rw [Aa (by omega)]; rfl) s rfl).1
 unfold Vi
 erw [h]
 rw [M0]
noncomputable def Eg : Nat → Gb → List Lf → Gb × List Lf
 | 0, d, s => (d, s)
 | n + 1, d, s => match d.2.2.1 with
  | [] => (d, s)
  | x :: r => match Dn d x r with
   | none => (d, s)
   | some (d', l) => Eg n d' (Xr s d'.2.2.2.2.1 l)
theorem Laj {d d' : Gb} {x : Ca} {r : List Ca} {l : List Ka} (hs : Dn d x r = some (d', l)) :
 d' = (d'.1, d.2.1, r, d.2.2.2.1, d'.2.2.2.2.1, d'.2.2.2.2.2.1, d'.2.2.2.2.2.2.1, ()) := by
 unfold Dn at hs
 revert hs
 generalize (cond ((d.2.2.2.2.2.1 == j5 .i64 (x.2.1 + 1)) && !decide (j5 .i64 (x.1 - d.2.2.2.2.2.2.1) ≥ d.2.1.2.1)) ((1 : Int), x.1) ((Bm d.2.1 x.2.1 x.1 r d.2.2.2.1).1, (Bm d.2.1 x.2.1 x.1 r d.2.2.2.1).2.1)) = ch
 generalize Dg _ = b1
 cases x.2.2.1 <;> cases b1 <;> cases h0 : ch.1 == 0 <;>
  simp only [jg, qa, cond_true, cond_false, jc, jh, reduceCtorEq, false_implies, h0, and_imp] <;> (intro h1 _; subst h1; rfl)
theorem R4 (z : Gb) : ∀ (n : Nat) (d : Gb) (s : List Lf), QS d → d.2.2.1.length ≤ n → s.length + 17 * n ≤ 100000 →
 Qg (((), (), s, ()), (z, d, ())) = some (.inl (((), (), (Eg n d s).2, ()), (z, (Eg n d s).1, ())))
 | n, d, s, h, hl, hs => by
  unfold Qg
  cases hq : d.2.2.1 with
  | nil =>
   have e1 : Eg n d s = (d, s) := by
    cases n with
    | zero => rfl
    | succ n => simp only [Eg, hq]
   have hstep : Rh () () s z d = some (.inr (.inl (((), (), s, ()), (z, d, ())))) := by
    unfold Rh
    rw [hq, Aa (by simp)]; rfl
   erw [Bd hstep]
   rw [e1]; rfl
  | cons x r =>
   have hlen : d.2.2.1.length = r.length + 1 := by rw [hq]; rfl
   cases n with
   | zero => omega
   | succ n =>
    have e1 : Eg (n + 1) d s = match Dn d x r with
     | none => (d, s)
     | some (d', l) => Eg n d' (Xr s d'.2.2.2.2.1 l) := by simp only [Eg, hq]
    rw [e1]
    have hp := H9 h hq
    cases hst : Dn d x r with
    | none =>
     have hstep : Rh () () s z d = some (.inr (.inl (((), (), s, ()), (z, d, ())))) := by
      unfold Rh
      rw [Ba (by rw [hlen]; omega)]
      show (jz (Fi d) _) = _
      rw [hp, hst]; rfl
     erw [Bd hstep]; rfl
    | some p =>
     obtain ⟨d', l⟩ := p
     have hn := Aac h hq hst
     have hstep : Rh () () s z d = some (.inl (((), (), Xr s d'.2.2.2.2.1 l, ()), (z, d', ()))) := by
      unfold Rh
      rw [Ba (by rw [hlen]; omega)]
      show (jz (Fi d) _) = _
      rw [hp, hst]
      show jz (QQ s d'.2.2.2.2.1 l) _ = _
      rw [Eai _ _ _ (by have := hn.2.2.1; omega) (by omega)]
      rfl
     erw [Bd hstep]
     have ih := R4 z n d' (Xr s d'.2.2.2.2.1 l) hn.1 (by rw [hn.2.1]; omega) (by rw [Q1]; have := hn.2.2.1; omega)
     unfold Qg at ih
     exact ih
theorem A5 : ∀ (n : Nat) (d : Gb) (s : List Lf), QS d → d.2.2.1.length ≤ n → s.length + 17 * n ≤ 100000 →
 Tj (((), s, ()), (d, ())) = some (.inl (((), (Eg n d s).2, ()), ((Eg n d s).1, ()))) ∨ Tj (((), s, ()), (d, ())) = some (.inr (((), (Eg n d s).2, ()), ((Eg n d s).1, ())))
 | n, d, s, h, hl, hs => by
  unfold Tj
  cases hq : d.2.2.1 with
  | nil =>
   have e1 : Eg n d s = (d, s) := by
    cases n with
    | zero => rfl
    | succ n => simp only [Eg, hq]
   have hstep : Si () s d = some (.inr (.inl (((), s, ()), (d, ())))) := by
    unfold Si
    rw [hq, Aa (by simp)]; rfl
   refine .inl ?_
   erw [Bd hstep]
   rw [e1]; rfl
  | cons x r =>
   have hlen : d.2.2.1.length = r.length + 1 := by rw [hq]; rfl
   cases n with
   | zero => omega
   | succ n =>
    have e1 : Eg (n + 1) d s = match Dn d x r with
     | none => (d, s)
     | some (d', l) => Eg n d' (Xr s d'.2.2.2.2.1 l) := by simp only [Eg, hq]
    rw [e1]
    have h64 := h.len
    have hc := XS x r (by omega)
    have hb : jx (ja ([] : List Ca) + ja r) Sa = true := ji (by simp; rw [Ud]; omega)
    have i0 : Af (ja (x :: r)) (0 : Int) = true := by rw [show (0 : Int) = ((0 : Nat) : Int) from rfl, Fg]; exact Ba (by simp)
    have g0 : (x :: r)[(jy (0 : Int))]? = some x := rfl
    have pre : Si () s d = Si () s d := rfl
    conv at pre => rhs; unfold Si
    rw [Ba (show ((ja d.2.2.1 : Nat) : Int) > 0 by rw [hlen]; omega), hq, i0, g0] at pre
    simp only [cond_true, jb] at pre
    have Ji : ∀ (s' : List Lf) (w : Int) (e' : Gb), e'.2.2.1 = x :: r → (jz (some (Sum.inl (((), s', w, ()), (e', ()))) : Option (((Unit × List Lf × Int × Unit) × Gb × Unit) ⊕ Unit)) (j7 (fun y43 => (cond (Ld (ja y43.2.1.2.2.1) (1 : Int) ((ja y43.2.1.2.2.1 : Nat) : Int))
     (cond (jx (ja ([] : List Ca) + ja (Eb y43.2.1.2.2.1 (jy (1 : Int)) (jy ((ja y43.2.1.2.2.1 : Nat) : Int)))) Sa)
     (some (.inl (((), y43.1.2.1, ()), ((((y43.2.1.1.1.1, y43.2.1.1.1.2.1, ()), y43.2.1.1.2), y43.2.1.2.1, (jf ([] : List Ca) (Eb y43.2.1.2.2.1 (jy (1 : Int)) (jy ((ja y43.2.1.2.2.1 : Nat) : Int)))), y43.2.1.2.2.2.1, y43.1.2.2.1, y43.2.1.2.2.2.2.2), ()))) : Option (((Unit × List Lf × Unit) × Gb × Unit) ⊕ (((Unit × List Lf × Unit) × Gb × Unit) ⊕ ((Unit × List Lf × Unit) × Gb × Unit))))
     none)
     none)) (fun z44 => none))) = some (.inl (((), s', ()), ((e'.1, e'.2.1, r, e'.2.2.2.1, w, e'.2.2.2.2.2), ()))) := by
     intro s' w e' he
     simp only [jb, ql, he, hc.1, hc.2, hb, cond_true]
     rfl
    cases hst : Dn d x r with
    | none =>
     have hd : x.2.2.1 = true := by
      cases hd : x.2.2.1 with
      | true => rfl
      | false =>
       unfold Dn at hst
       rw [hd] at hst
       simp at hst
     have hstep : Si () s d = some (.inr (.inr (((), s, ()), (d, ())))) := by
      rw [pre, hd]
      show (jz (Dw d x (max d.2.2.2.2.1 x.1)) _) = _
      rw [Z1 h hq hd, hst]; rfl
     refine .inr ?_
     erw [Bd hstep]; rfl
    | some p =>
     obtain ⟨d', l⟩ := p
     have hn := Aac h hq hst
     have hsh := Laj hst
     have hl' := hn.2.2.1
     have hstep : Si () s d = some (.inl (((), Xr s d'.2.2.2.2.1 l, ()), (d', ()))) := by
      rw [pre]
      cases hd : x.2.2.1 with
      | true =>
       simp only [cond_true]
       show (jz (Dw d x (max d.2.2.2.2.1 x.1)) _) = _
       rw [Z1 h hq hd, hst]
       simp only [jb, jg, cond_false]
       rw [AU _ _ _ _ (by omega) (by omega)]
       refine (Ji (Xr s d'.2.2.2.2.1 l) d'.2.2.2.2.1 (d'.1, d.2.1, d.2.2.1, d.2.2.2.1, d.2.2.2.2.1, d'.2.2.2.2.2.1, d'.2.2.2.2.2.2.1, ()) hq).trans ?_
       rw [hsh]
      | false =>
       simp only [cond_false]
       obtain ⟨hi, hi1, hi2⟩ := (AY h hq).up hd
       show (jz (UE d.1 x.2.1) _) = _
       rw [S7 h.eng hi hi1]
       unfold Dn at hst
       rw [hd] at hst
       simp only [qa, cond_true, jc, jh] at hst
       obtain ⟨rfl, rfl⟩ := hst
       simp only [jb]
       cases d.2.2.2.2.2.1 == j5 .i64 (x.2.1 + 1) with
       | true =>
        simp only [cond_true]
        rw [AU _ _ _ _ (by omega) (by omega)]
        exact Ji _ _ _ rfl
       | false =>
        simp only [cond_false]
        rw [AU _ _ _ _ (by omega) (by omega)]
        exact Ji _ _ _ hq
     have ih := A5 n d' (Xr s d'.2.2.2.2.1 l) hn.1 (by rw [hn.2.1]; omega) (by rw [Q1]; omega)
     unfold Tj at ih
     erw [Bd hstep]
     exact ih
theorem Hac (d : Gb) (h : QS d) : HA d = some ((Eg d.2.2.1.length d []).1, ((Eg d.2.2.1.length d []).2, ())) := by
 have h64 := h.len
 unfold HA
 rcases A5 d.2.2.1.length d [] h (jo _) (by simp; omega) with h1 | h1 <;> (rw [h1]; rfl)
def W7 : Gb := ((((0 : Int), ([] : List (List Cb)), ()), ([] : List (List Zc)), (0 : Int), ([] : List Ra), (0 : Int), false, ()), ((0 : Int), (0 : Int), (0 : Int), ()), ([] : List Ca), (0 : Int), (0 : Int), (0 : Int), (0 : Int), ())
def UaK (l : List Ca) : Int := (l.headD (0, 0, false, ())).1
def Lg (l : List Ca) (t : Int) : Bool := ((l.length : Int) == 0) || !decide (UaK l < t)
noncomputable def FA (d : Gb) (l : List Ca) (til : Int) : Bool :=
 Nf d && (decide (d.2.2.2.1 ≤ til ∧ til ≤ 1000000) && (Lg l d.2.2.2.1 && (Rf l til && Rd (jf d.2.2.1 l) (Ju d.1.2.2.2.1) d.1.1.1)))
def Us (d : Gb) (l : List Ca) (til : Int) : Gb := (d.1, d.2.1, jf d.2.2.1 l, til, d.2.2.2.2)
noncomputable def LN (d : Gb) (l : List Ca) (til : Int) : Gb × ((List Lf) × (Bool × Unit)) :=
 cond (FA d l til) ((Eg (Us d l til).2.2.1.length (Us d l til) []).1, (Eg (Us d l til).2.2.1.length (Us d l til) []).2, true, ()) (W7, [], false, ())
theorem QO {q : List Ca} {d k : Int} (h : Rd q d k = true) : q.length ≤ 64 := by
 simp only [Rd, jd, SO] at h
 by_cases h1 : q.length ≤ 64
 ·exact h1
 ·rw [Aa h1] at h; simp at h
theorem Cab {d : Gb} {l : List Ca} {til : Int} (hd : Nf d = true) (hf : Rd (jf d.2.2.1 l) (Ju d.1.2.2.2.1) d.1.1.1 = true) : QS (Us d l til) := by
 have he : Pw d.1 := by
  rw [← Dab]
  simp only [Nf, jd] at hd
  exact hd.1
 obtain ⟨m, hm, hm2⟩ := FaQ he.hd
 refine ⟨he, QO hf, ?_, m, 0, hm2, ?_⟩
 ·have h1 := hf
  simp only [Rd, jd, M9] at h1
  have h2 := h1.1
  intro x hx
  have h3 := (O5 (p := fun x : Ca => !decide (x.2.1 ≥ d.1.1.1))).1 h2 x hx
  simp only [Bool.not_eq_true', decide_eq_false_iff_not] at h3
  show x.2.1 < d.1.1.1
  omega
 ·have := I6 hf
  rw [hm] at this
  exact this
theorem FY {l : List Ca} (h : 0 < l.length) : ∃ x, Ya l (0 : Int) = some x ∧ x.1 = UaK l := by
 cases l with
 | nil => simp at h
 | cons x l => exact ⟨x, rfl, rfl⟩
theorem S0 (d : Gb) (l : List Ca) (til : Int) (hz : Ha Hc d ≤ Ea) (hl : l.length ≤ 1000000) : KB d l til = some (LN d l til) := by
 have h20 : Ea = 1048576 := rfl
 have hz' := hz
 rw [MQ, GF] at hz'
 have hz2 := hz'
 rw [Ul, Gl] at hz2
 have hlapp : (jf d.2.2.1 l).length = d.2.2.1.length + l.length := by simp
 have hlim : jx (ja d.2.2.1 + ja l) Sa = true := ji (by rw [Ud]; omega)
 unfold KB LN
 rw [RR _ hz, Zt _ _ (by omega), OZ _ hz]
 cases hd : Nf d with
 | false => rw [show FA d l til = false by unfold FA; rw [hd]; rfl]; rfl
 | true =>
  have hh : ∀ x ∈ d.1.2.2.2.1, Zu x := by
   have : Lj d.1 = true := by simp only [Nf, jd] at hd; exact hd.1
   exact Ho (CA this)
  have h64 : d.2.2.1.length ≤ 64 := by
   simp only [Nf, jd] at hd
   exact QO hd.2.2.2.2.1
  rw [MK _ (by omega) hh]
  simp only [jb, jg, cond_false, hlim, cond_true]
  rw [Au _ _ _ (by rw [hlapp]; omega)]
  simp only [jb]
  have key : ∀ (K : Option (Gb × ((List Lf) × (Bool × Unit)))), (Rd (jf d.2.2.1 l) (Ju d.1.2.2.2.1) d.1.1.1 = true → K = some ((Eg (Us d l til).2.2.1.length (Us d l til) []).1, (Eg (Us d l til).2.2.1.length (Us d l til) []).2, true, ())) →
   (cond (decide (til < d.2.2.2.1)) (some (W7, [], false, ())) (cond (decide (til > 1000000)) (some (W7, [], false, ())) (cond (!Lg l d.2.2.2.1) (some (W7, [], false, ())) (cond (!Rf l til) (some (W7, [], false, ())) (cond (!Rd (jf d.2.2.1 l) (Ju d.1.2.2.2.1) d.1.1.1) (some (W7, [], false, ())) K))))) =
   some (cond (FA d l til) ((Eg (Us d l til).2.2.1.length (Us d l til) []).1, (Eg (Us d l til).2.2.1.length (Us d l til) []).2, true, ()) (W7, [], false, ())) := by
   intro K hK
   unfold FA
   rw [hd]
   by_cases h1 : til < d.2.2.2.1
   ·rw [Ba h1, Aa (show ¬ (d.2.2.2.1 ≤ til ∧ til ≤ 1000000) by omega)]; rfl
   ·by_cases h2 : til > 1000000
    ·rw [Aa h1, Ba h2, Aa (show ¬ (d.2.2.2.1 ≤ til ∧ til ≤ 1000000) by omega)]; rfl
    ·rw [Aa h1, Aa h2, Ba (show (d.2.2.2.1 ≤ til ∧ til ≤ 1000000) by omega)]
     cases Lg l d.2.2.2.1 with
     | false => rfl
     | true =>
      cases Rf l til with
      | false => rfl
      | true =>
       cases hq : Rd (jf d.2.2.1 l) (Ju d.1.2.2.2.1) d.1.1.1 with
       | false => rfl
       | true => exact hK hq
  have hrun : Rd (jf d.2.2.1 l) (Ju d.1.2.2.2.1) d.1.1.1 = true → ∀ z : Gb, Qg (((), (), ([] : List Lf), ()), (z, (d.1, d.2.1, jf d.2.2.1 l, til, d.2.2.2.2), ())) = some (.inl (((), (), (Eg (Us d l til).2.2.1.length (Us d l til) []).2, ()), (z, (Eg (Us d l til).2.2.1.length (Us d l til) []).1, ()))) := by
   intro hq z
   have h1 := Cab (til := til) hd hq
   have := h1.len
   exact R4 z _ (Us d l til) [] h1 (jo _) (by simp; omega)
  by_cases h0 : l.length = 0
  ·have hna : Lg l d.2.2.2.1 = true := by unfold Lg; rw [h0]; rfl
   rw [Aa (show ¬ ((ja l : Nat) : Int) > 0 by omega)]
   simp only [cond_false]
   simp only [hna, jg, cond_false] at key
   exact key _ (fun hq => by rw [hrun hq]; rfl)
  ·obtain ⟨x, hx, hx1⟩ := FY (l := l) (by omega)
   have hna : Lg l d.2.2.2.1 = !decide (x.1 < d.2.2.2.1) := by
    unfold Lg
    rw [show ((l.length : Int) == 0) = false by simp; intro h; rw [h] at h0; simp at h0, hx1]; rfl
   rw [Ba (show ((ja l : Nat) : Int) > 0 by omega), hx]
   simp only [cond_true, jb]
   simp only [hna, Bool.not_not] at key
   exact key _ (fun hq => by rw [hrun hq]; rfl)
theorem V1 (d : Gb) (l : List Ca) (til : Int) (hz : Ha Hc d ≤ Ea) (hl : l.length ≤ 1000000) : QC d l til = some (LN d l til) := by
 have h20 : Ea = 1048576 := rfl
 have hz' := hz
 rw [MQ, GF] at hz'
 have hz2 := hz'
 rw [Ul, Gl] at hz2
 have hlapp : (jf d.2.2.1 l).length = d.2.2.1.length + l.length := by simp
 have hn : jf ([] : List Ca) d.2.2.1 = d.2.2.1 := rfl
 have hlim : jx (ja d.2.2.1 + ja l) Sa = true := ji (by rw [Ud]; omega)
 have hlim2 : jx (ja ([] : List Ca) + ja d.2.2.1) Sa = true := ji (by rw [Ud]; simp; omega)
 unfold QC LN
 rw [hn, hlim, hlim2, VR _ hz, Mc, KP _ (by omega)]
 simp only [cond_true]
 cases hd : Nf d with
 | false => rw [show FA d l til = false by unfold FA; rw [hd]; rfl]; rfl
 | true =>
  have hh : ∀ x ∈ d.1.2.2.2.1, Zu x := by
   have : Lj d.1 = true := by simp only [Nf, jd] at hd; exact hd.1
   exact Ho (CA this)
  have h64 : d.2.2.1.length ≤ 64 := by
   simp only [Nf, jd] at hd
   exact QO hd.2.2.2.2.1
  rw [RN _ (by omega) hh]
  simp only [jb, jg, cond_false]
  rw [Is _ _ _ (by rw [hlapp]; omega)]
  simp only [jb]
  unfold FA
  rw [hd]
  cases decide (d.2.2.2.1 ≤ til ∧ til ≤ 1000000) with
  | false => rfl
  | true =>
   cases hq : Rd (jf d.2.2.1 l) (Ju d.1.2.2.2.1) d.1.1.1 with
   | false => simp only [Bool.and_false]; rfl
   | true =>
    have hrun : HA (d.1, d.2.1, jf d.2.2.1 l, til, d.2.2.2.2) = _ := Hac (Us d l til) (Cab hd hq)
    simp only [jg, cond_false, jk, Bool.and_true]
    rw [hrun]
    by_cases h0 : l.length = 0
    ·rw [Aa (show ¬ ((ja l : Nat) : Int) > 0 by omega)]
     rw [show Lg l d.2.2.2.1 = true by unfold Lg; rw [h0]; rfl, show Rf l til = true by unfold Rf; rw [h0]; rfl]
     rfl
    ·obtain ⟨x, hx, hx1⟩ := FY (l := l) (by omega)
     obtain ⟨y, hy, hy1⟩ := BT (l := l) (by omega) (by omega)
     rw [Ba (show ((ja l : Nat) : Int) > 0 by omega), hx, hy]
     simp only [cond_true, jb]
     have e0 : ((l.length : Int) == 0) = false := by simp; intro h; rw [h] at h0; simp at h0
     rw [show Lg l d.2.2.2.1 = !decide (x.1 < d.2.2.2.1) by unfold Lg; rw [e0, hx1]; rfl]
     rw [show Rf l til = !decide (y.1 > til) by
      unfold Rf; rw [e0, hy1]
      rw [Bool.false_or, qy]; simp only [decide_eq_true_eq, Bool.not_eq_true', decide_eq_false_iff_not]; omega]
     cases decide (x.1 < d.2.2.2.1) <;> cases decide (y.1 > til) <;> rfl
def rowN (C m r : Nat) : Nat := (m >>> (r * C)) &&& (2 ^ C - 1)
theorem IP (C m r j : Nat) : (rowN C m r).testBit j = (decide (j < C) && m.testBit (r * C + j)) := by
 unfold rowN
 rw [Nat.testBit_and, Nat.testBit_two_pow_sub_one, Nat.testBit_shiftRight, Bool.and_comm]
theorem XQ (C m r : Nat) : rowN C m r < 2 ^ C := by
 unfold rowN
 rw [Nat.and_two_pow_sub_one_eq_mod]
 exact Nat.mod_lt _ (Nat.two_pow_pos C)
theorem Qaj (C m a x r : Nat) (hx : x < 2 ^ C) : rowN C (m ||| x <<< (a * C)) r = if r = a then rowN C m a ||| x else rowN C m r := by
 apply Nat.eq_of_testBit_eq
 intro j
 rw [IP, Nat.testBit_or, Nat.testBit_shiftLeft]
 by_cases hj : j < C
 ·by_cases hr : r = a
  ·subst hr
   rw [if_pos rfl, Nat.testBit_or, IP, Ba hj, Ba (show r * C + j ≥ r * C by omega), show r * C + j - r * C = j by omega]
   simp
  ·rw [if_neg hr, IP, Ba hj]
   have : (decide (r * C + j ≥ a * C) && x.testBit (r * C + j - a * C)) = false := by
    by_cases h1 : r < a
    ·have h2 : (r + 1) * C ≤ a * C := jm C h1
     rw [Nat.add_mul, Nat.one_mul] at h2
     rw [Aa (show ¬ r * C + j ≥ a * C by omega)]; rfl
    ·have h2 : (a + 1) * C ≤ r * C := jm C (by omega)
     rw [Nat.add_mul, Nat.one_mul] at h2
     have h3 : x.testBit (r * C + j - a * C) = false := by
      apply Nat.testBit_lt_two_pow
      exact qm hx (qn (by omega) (by omega))
     rw [h3, Bool.and_false]
   rw [this, Bool.or_false]
 ·have h3 : x.testBit j = false := Nat.testBit_lt_two_pow (qm hx (qn (by omega) (by omega)))
  rw [Aa hj]
  by_cases hr : r = a
  ·rw [if_pos hr, Nat.testBit_or, IP, Aa hj, h3]; rfl
  ·rw [if_neg hr, IP, Aa hj]; rfl
theorem Saj {C x a R : Nat} (hx : x < 2 ^ C) (ha : a < R) : x <<< (a * C) < 2 ^ (R * C) := by
 rw [qk]
 have h1 : x * 2 ^ (a * C) < 2 ^ C * 2 ^ (a * C) := Nat.mul_lt_mul_of_pos_right hx (Nat.two_pow_pos _)
 rw [← Nat.pow_add] at h1
 have h2 : (a + 1) * C ≤ R * C := jm C ha
 rw [Nat.add_mul, Nat.one_mul] at h2
 exact qm h1 (qn (by omega) (by omega))
def Xy (C a b m : Nat) : Nat := cond (rowN C m a &&& rowN C m b != 0) (m ||| rowN C m b <<< (a * C)) m
theorem UaQ {C a b m R : Nat} (hm : m < 2 ^ (R * C)) (ha : a < R) : Xy C a b m < 2 ^ (R * C) := by
 unfold Xy
 cases rowN C m a &&& rowN C m b != 0 with
 | false => exact hm
 | true => exact Nat.or_lt_two_pow hm (Saj (XQ C m b) ha)
theorem RQ {S : Type} {g : Nat → S → S} {p : S → Prop} {s0 : S} {n : Nat} (h0 : p s0) (hs : ∀ k s, k < n → p s → p (g k s)) : ∀ k, k ≤ n → p (Ye g k s0)
 | 0, _ => h0
 | k + 1, h => hs k _ (by omega) (RQ h0 hs k (by omega))
def g3 (C a : Nat) : Nat → Nat → Nat := fun b m => Xy C a b m
def g2 (C R : Nat) : Nat → Nat → Nat := fun a m => Ye (g3 C a) R m
def g1 (C R : Nat) : Nat → Nat → Nat := fun _ m => Ye (g2 C R) R m
def Wp (C R m : Nat) : Nat := Ye (g1 C R) R m
theorem Qaw {C R m a : Nat} (hm : m < 2 ^ (R * C)) (ha : a < R) (k : Nat) (hk : k ≤ R) : Ye (g3 C a) k m < 2 ^ (R * C) :=
 RQ (p := fun m => m < 2 ^ (R * C)) (n := R) hm (fun b s _ hs => UaQ hs ha) k hk
theorem Paw {C R m : Nat} (hm : m < 2 ^ (R * C)) (k : Nat) (hk : k ≤ R) : Ye (g2 C R) k m < 2 ^ (R * C) :=
 RQ (p := fun m => m < 2 ^ (R * C)) (n := R) hm (fun a s ha hs => Qaw hs ha R (jo _)) k hk
theorem Oaw {C R m : Nat} (hm : m < 2 ^ (R * C)) (k : Nat) (hk : k ≤ R) : Ye (g1 C R) k m < 2 ^ (R * C) :=
 RQ (p := fun m => m < 2 ^ (R * C)) (n := R) hm (fun _ s _ hs => Paw hs R (jo _)) k hk
structure QL (C R : Nat) : Prop where
 c1 : 1 ≤ C
 c2 : C ≤ 6
 r1 : 1 ≤ R
 r2 : R ≤ 4
theorem X2 {C R r : Nat} (h : QL C R) (hr : r ≤ R) : r * C ≤ 24 := qc (Nat.mul_le_mul (qc hr h.r2) h.c2) (by decide)
theorem YS {C R m : Nat} (h : QL C R) (hm : m < 2 ^ (R * C)) : m < 2 ^ 63 := qm hm (qn (by omega) (by have := X2 h (jo R); omega))
theorem QW {C R m : Nat} (h : QL C R) (r : Nat) : rowN C m r < 2 ^ 63 := qm (XQ C m r) (qn (by omega) (by have := h.c2; omega))
theorem MS {C R r : Nat} (h : QL C R) (hr : r ≤ R) : j5 .i64 ((r : Int) * (C : Int)) = ((r * C : Nat) : Int) := by
 have := X2 h hr
 rw [← Int.natCast_mul]
 generalize r * C = z at *
 exact Ie (by omega) (by omega)
theorem Dar {C R m r : Nat} (h : QL C R) (hm : m < 2 ^ 63) (hr : r ≤ R) :
 Va .i64 (Vb .i64 (m : Int) (j5 .i64 ((r : Int) * (C : Int)))) (j5 .i64 (Qa .i64 1 (C : Int) - 1)) = ((rowN C m r : Nat) : Int) := by
 have h1 := X2 h hr
 have h2 := h.c2
 have hp := Maj (k := C) (by omega)
 have hsh : m >>> (r * C) ≤ m := by rw [Nat.shiftRight_eq_div_pow]; exact Nat.div_le_self _ _
 have e : j5 .i64 (((2 ^ C : Nat) : Int) - 1) = ((2 ^ C - 1 : Nat) : Int) := by
  generalize 2 ^ C = z at hp
  rw [Ie (by omega) (by omega)]; omega
 rw [MS h hr, LT m (by omega), Cl (by omega), e, VO (by omega) (by rw [Nw]; generalize 2 ^ C = z at hp; omega)]
 rfl
theorem Z4 {C R m r : Nat} (h : QL C R) (d : Bool) (hm : m < 2 ^ 63) (hr : r ≤ R) : TG ((R : Int), (C : Int), d, ()) (m : Int) (r : Int) = some (((rowN C m r : Nat) : Int), ()) := by
 unfold TG
 rw [Dar h hm hr]
 rw [MS h hr, Ba (Int.natCast_nonneg _), Ba (Int.natCast_nonneg C)]
 rfl
theorem JaB {C R m a x : Nat} (h : QL C R) (hm : m < 2 ^ (R * C)) (ha : a < R) (hx : x < 2 ^ C) :
 Nc .i64 (m : Int) (Qa .i64 (x : Int) (j5 .i64 ((a : Int) * (C : Int)))) = ((m ||| x <<< (a * C) : Nat) : Int) := by
 have h1 := X2 h (Nat.le_of_lt ha)
 have h2 := Saj hx ha
 have h3 : x <<< (a * C) < 2 ^ 63 := YS h h2
 rw [MS h (Nat.le_of_lt ha), T6 (by rw [← qk]; exact h3) (by omega), Sv (YS h hm) h3]
theorem Tay (x y : Nat) (hx : x < 2 ^ 63) (hy : y < 2 ^ 63) : (Va .i64 (x : Int) (y : Int) != 0) = (x &&& y != 0) := by
 rw [VO hx hy, qy]
 simp
theorem Pax {C R m a : Nat} (h : QL C R) (d : Bool) (hm : m < 2 ^ (R * C)) (ha : a < R) (t : Int) :
 BB (((), (m : Int), t, (a : Int), (0 : Int), ()), (((R : Int), (C : Int), d, ()), ())) = some (.inl (((), ((g2 C R a m : Nat) : Int), t, (a : Int), ()), (((R : Int), (C : Int), d, ()), ()))) := by
 have hr2 := h.r2
 have := Ch (step := fun x => Uy x.1.1 x.1.2.1 x.1.2.2.1 x.1.2.2.2.1 x.1.2.2.2.2.1 x.2.1) R (by omega) (g3 C a) m (fun s i => (((), (s : Int), t, (a : Int), i, ()), (((R : Int), (C : Int), d, ()), ()))) (fun s => .inl (((), (s : Int), t, (a : Int), ()), (((R : Int), (C : Int), d, ()), ())))
  (by
   intro k hk
   have hs := Qaw hm ha k (by omega)
   generalize Ye (g3 C a) k m = s at *
   have hs63 := YS h hs
   simp only [Uy]
   rw [Ba (show (k : Int) < (R : Int) by omega), Z4 h d hs63 (by omega), Z4 h d hs63 (by omega)]
   simp only [cond_true, jb]
   rw [Tay _ _ (QW h _) (QW h _), JaB h hs ha (XQ C s k), MS h (by omega), Ba (Int.natCast_nonneg _)]
   unfold g3 Xy
   cases (rowN C s a &&& rowN C s k != 0) <;> rfl)
  (by
   simp only [Uy]
   rw [Aa (by omega)]; rfl)
 exact this
theorem Oax {C R m : Nat} (h : QL C R) (d : Bool) (hm : m < 2 ^ (R * C)) (t : Int) :
 BF (((), (m : Int), t, (0 : Int), ()), (((R : Int), (C : Int), d, ()), ())) = some (.inl (((), ((Ye (g2 C R) R m : Nat) : Int), t, ()), (((R : Int), (C : Int), d, ()), ()))) := by
 have hr2 := h.r2
 have := Ch (step := fun x => YC x.1.1 x.1.2.1 x.1.2.2.1 x.1.2.2.2.1 x.2.1) R (by omega) (g2 C R) m (fun s i => (((), (s : Int), t, i, ()), (((R : Int), (C : Int), d, ()), ()))) (fun s => .inl (((), (s : Int), t, ()), (((R : Int), (C : Int), d, ()), ())))
  (by
   intro k hk
   have hs := Paw hm k (by omega)
   generalize Ye (g2 C R) k m = s at *
   simp only [YC]
   rw [Ba (show (k : Int) < (R : Int) by omega), Pax h d hs hk]; rfl)
  (by
   simp only [YC]
   rw [Aa (by omega)]; rfl)
 exact this
theorem Waj {C R m : Nat} (h : QL C R) (d : Bool) (hm : m < 2 ^ (R * C)) : Jt ((R : Int), (C : Int), d, ()) (m : Int) = some (((cond d m (Wp C R m) : Nat) : Int), ()) := by
 have hr2 := h.r2
 unfold Jt
 cases d with
 | true => rfl
 | false =>
  have := Ch (step := fun x => XC x.1.1 x.1.2.1 x.1.2.2.1 x.2.1) R (by omega) (g1 C R) m (fun s i => (((), (s : Int), i, ()), (((R : Int), (C : Int), false, ()), ()))) (fun s => .inl (((s : Int), ()), ()))
   (by
    intro k hk
    have hs := Oaw hm k (by omega)
    generalize Ye (g1 C R) k m = s at *
    simp only [XC]
    rw [Ba (show (k : Int) < (R : Int) by omega), Oax h false hs]; rfl)
   (by
    simp only [XC]
    rw [Aa (by omega)]; rfl)
  unfold AF
  simp only [cond_false]
  erw [this]
  rfl
def Gj (C m : Nat) : List Int := [((rowN C m 0 : Nat) : Int), ((rowN C m 1 : Nat) : Int), ((rowN C m 2 : Nat) : Int), ((rowN C m 3 : Nat) : Int)]
theorem lt4 {r : Nat} (h : r < 4) : r = 0 ∨ r = 1 ∨ r = 2 ∨ r = 3 := by omega
theorem P1 {C m r : Nat} (h : r < 4) : (Gj C m)[r]? = some ((rowN C m r : Nat) : Int) := by
 rcases lt4 h with rfl | rfl | rfl | rfl <;> rfl
theorem QaB {C m a x : Nat} (ha : a < 4) (hx : x < 2 ^ C) : (Gj C m).set a (((rowN C m a ||| x : Nat)) : Int) = Gj C (m ||| x <<< (a * C)) := by
 unfold Gj
 simp only [Qaj C m a x _ hx]
 rcases lt4 ha with rfl | rfl | rfl | rfl <;> simp
theorem DaE {C m r : Nat} (h : r < 4) : Af (ja (Gj C m)) (r : Int) = true := by
 rw [Fg]; exact Ba h
theorem Waw {C R m a : Nat} (h : QL C R) (d : Bool) (hm : m < 2 ^ (R * C)) (ha : a < R) (t1 t2 t3 t4 : Int) :
 JH (((), Gj C m, (a : Int), t1, t2, t3, t4, (R : Int), (0 : Int), ()), (((R : Int), (C : Int), d, ()), ())) = some (.inl (((), Gj C (g2 C R a m), t1, t2, t3, t4, ()), (((R : Int), (C : Int), d, ()), ()))) := by
 have hr2 := h.r2
 have := Ch (step := fun x => VF x.1.1 x.1.2.1 x.1.2.2.1 x.1.2.2.2.1 x.1.2.2.2.2.1 x.1.2.2.2.2.2.1 x.1.2.2.2.2.2.2.1 x.1.2.2.2.2.2.2.2.1 x.1.2.2.2.2.2.2.2.2.1 x.2.1) R (by omega) (g3 C a) m
  (fun s i => (((), Gj C s, (a : Int), t1, t2, t3, t4, (R : Int), i, ()), (((R : Int), (C : Int), d, ()), ()))) (fun s => .inl (((), Gj C s, t1, t2, t3, t4, ()), (((R : Int), (C : Int), d, ()), ())))
  (by
   intro k hk
   have hs := Qaw hm ha k (by omega)
   generalize Ye (g3 C a) k m = s at *
   simp only [VF]
   have hlen : Nat.beq 4 (ja (Gj C s)) = true := rfl
   rw [Ba (show (k : Int) < (R : Int) by omega), hlen, DaE (show a < 4 by omega), DaE (show k < 4 by omega)]
   simp only [jn, cond_true]
   rw [P1 (show a < 4 by omega), P1 (show k < 4 by omega)]
   simp only [jb]
   rw [Tay _ _ (QW h _) (QW h _), Sv (QW h _) (QW h _), QaB (show a < 4 by omega) (XQ C s k)]
   unfold g3 Xy
   cases (rowN C s a &&& rowN C s k != 0) <;> rfl)
  (by
   simp only [VF]
   rw [Aa (by omega)]; rfl)
 exact this
theorem Vaw {C R m : Nat} (h : QL C R) (d : Bool) (hm : m < 2 ^ (R * C)) (t1 t2 : Int) :
 HH (((), Gj C m, t1, t2, (R : Int), (0 : Int), ()), (((R : Int), (C : Int), d, ()), ())) = some (.inl (((), Gj C (Ye (g2 C R) R m), t1, t2, ()), (((R : Int), (C : Int), d, ()), ()))) := by
 have hr2 := h.r2
 have := Ch (step := fun x => UF x.1.1 x.1.2.1 x.1.2.2.1 x.1.2.2.2.1 x.1.2.2.2.2.1 x.1.2.2.2.2.2.1 x.2.1) R (by omega) (g2 C R) m
  (fun s i => (((), Gj C s, t1, t2, (R : Int), i, ()), (((R : Int), (C : Int), d, ()), ()))) (fun s => .inl (((), Gj C s, t1, t2, ()), (((R : Int), (C : Int), d, ()), ())))
  (by
   intro k hk
   have hs := Paw hm k (by omega)
   generalize Ye (g2 C R) k m = s at *
   simp only [UF]
   rw [Ba (show (k : Int) < (R : Int) by omega), Waw h d hs hk]; rfl)
  (by
   simp only [UF]
   rw [Aa (by omega)]; rfl)
 exact this
theorem Uaw {C R m : Nat} (h : QL C R) (d : Bool) (hm : m < 2 ^ (R * C)) :
 GH (((), Gj C m, (R : Int), (0 : Int), ()), (((R : Int), (C : Int), d, ()), ())) = some (.inl (((), Gj C (Wp C R m), ()), (((R : Int), (C : Int), d, ()), ()))) := by
 have hr2 := h.r2
 have := Ch (step := fun x => TF x.1.1 x.1.2.1 x.1.2.2.1 x.1.2.2.2.1 x.2.1) R (by omega) (g1 C R) m
  (fun s i => (((), Gj C s, (R : Int), i, ()), (((R : Int), (C : Int), d, ()), ()))) (fun s => .inl (((), Gj C s, ()), (((R : Int), (C : Int), d, ()), ())))
  (by
   intro k hk
   have hs := Oaw hm k (by omega)
   generalize Ye (g1 C R) k m = s at *
   simp only [TF]
   rw [Ba (show (k : Int) < (R : Int) by omega), Vaw h d hs]; rfl)
  (by
   simp only [TF]
   rw [Aa (by omega)]; rfl)
 exact this
def YH (C m k : Nat) : List Int := [0, 1, 2, 3].map fun r => if r < k then ((rowN C m r : Nat) : Int) else 0
theorem KaF {C R m r : Nat} (hm : m < 2 ^ (R * C)) (hr : R ≤ r) : rowN C m r = 0 := by
 unfold rowN
 have : m >>> (r * C) = 0 := by
  rw [Nat.shiftRight_eq_div_pow]
  apply Nat.div_eq_of_lt
  exact qm hm (qn (by omega) (jm C hr))
 rw [this, Nat.zero_and]
theorem Law {C R m : Nat} (hm : m < 2 ^ (R * C)) : YH C m R = Gj C m := by
 have key : ∀ r, (if r < R then ((rowN C m r : Nat) : Int) else 0) = ((rowN C m r : Nat) : Int) := by
  intro r
  by_cases h : r < R
  ·rw [if_pos h]
  ·rw [if_neg h, KaF hm (by omega)]; rfl
 unfold YH Gj
 simp only [List.map_cons, List.map_nil, key]
theorem Maw {C m k : Nat} (hk : k < 4) : (YH C m k).set k ((rowN C m k : Nat) : Int) = YH C m (k + 1) := by
 rcases lt4 hk with rfl | rfl | rfl | rfl <;> simp [YH]
theorem Xaz {C R m : Nat} (h : QL C R) (d : Bool) (hm : m < 2 ^ (R * C)) :
 NK (((m : Int), (), List.replicate 4 (0 : Int), (R : Int), (0 : Int), ()), (((R : Int), (C : Int), d, ()), ())) = some (.inl (((), Gj C m, ()), (((R : Int), (C : Int), d, ()), ()))) := by
 have hr2 := h.r2
 have := Mw (step := fun x => EJ x.1.1 x.1.2.1 x.1.2.2.1 x.1.2.2.2.1 x.1.2.2.2.2.1 x.2.1) (fun k => (((m : Int), (), YH C m k, (R : Int), (k : Int), ()), (((R : Int), (C : Int), d, ()), ()))) R (.inl (((), Gj C m, ()), (((R : Int), (C : Int), d, ()), ())))
  (by
   intro k hk
   simp only [EJ]
   have hlen : Nat.beq 4 (ja (YH C m k)) = true := rfl
   have hin : Af (ja (YH C m k)) (k : Int) = true := by rw [Fg]; exact Ba (show k < 4 by omega)
   have hget : ∃ y, (YH C m k)[k]? = some y := ⟨(YH C m k)[k]'(show k < 4 by omega), je _⟩
   obtain ⟨y, hy⟩ := hget
   rw [Ba (show (k : Int) < (R : Int) by omega), Dar h (YS h hm) (by omega), MS h (by omega), Ba (Int.natCast_nonneg _), Ba (Int.natCast_nonneg C), hlen, hin]
   simp only [jn, cond_true]
   rw [hy]
   simp only [jb]
   rw [Maw (by omega), Jc (by omega)])
  (by
   simp only [EJ]
   rw [Aa (by omega), Law hm]; rfl)
 exact this
theorem Jai {C m : Nat} : ∀ k, ∀ j, (Ye (fun i s => s ||| rowN C m i <<< (i * C)) k 0).testBit j = (decide (j < k * C) && m.testBit j)
 | 0, j => by simp [Ye]
 | k + 1, j => by
  simp only [Ye]
  rw [Nat.testBit_or, Jai k j, Nat.testBit_shiftLeft, IP, Nat.add_mul, Nat.one_mul]
  by_cases h1 : j < k * C
  ·rw [Ba h1, Aa (show ¬ j ≥ k * C by omega), Ba (show j < k * C + C by omega)]; simp
  ·rw [Aa h1, Ba (show j ≥ k * C by omega), show k * C + (j - k * C) = j by omega]
   by_cases h2 : j < k * C + C
   ·rw [Ba h2, Ba (show j - k * C < C by omega)]; simp
   ·rw [Aa h2, Aa (show ¬ j - k * C < C by omega)]; simp
theorem FaE {C R m : Nat} (hm : m < 2 ^ (R * C)) : Ye (fun i s => s ||| rowN C m i <<< (i * C)) R 0 = m := by
 apply Nat.eq_of_testBit_eq
 intro j
 rw [Jai]
 by_cases h : j < R * C
 ·rw [Ba h]; rfl
 ·rw [Aa h, Nat.testBit_lt_two_pow (qm hm (qn (by omega) (by omega)))]; rfl
theorem TaL {C R m : Nat} (k : Nat) (hk : k ≤ R) : Ye (fun i s => s ||| rowN C m i <<< (i * C)) k 0 < 2 ^ (R * C) :=
 RQ (p := fun s => s < 2 ^ (R * C)) (n := R) (Nat.two_pow_pos _) (fun i s hi hs => Nat.or_lt_two_pow hs (Saj (XQ C m i) hi)) k hk
theorem Yaz {C R m : Nat} (h : QL C R) (d : Bool) (hm : m < 2 ^ (R * C)) :
 KH (((), Gj C m, (0 : Int), (R : Int), (0 : Int), ()), (((R : Int), (C : Int), d, ()), ())) = some (.inl (((m : Int), ()), ())) := by
 have hr2 := h.r2
 have := Ch (step := fun x => XF x.1.1 x.1.2.1 x.1.2.2.1 x.1.2.2.2.1 x.1.2.2.2.2.1 x.2.1) R (by omega) (fun i s => s ||| rowN C m i <<< (i * C)) 0
  (fun (s : Nat) i => (((), Gj C m, (s : Int), (R : Int), i, ()), (((R : Int), (C : Int), d, ()), ()))) (fun s => .inl (((s : Int), ()), ()))
  (by
   intro k hk
   have hs := TaL (C := C) (R := R) (m := m) k (by omega)
   generalize Ye (fun i s => s ||| rowN C m i <<< (i * C)) k 0 = s at *
   have hlen : Nat.beq 4 (ja (Gj C m)) = true := rfl
   simp only [XF]
   rw [Ba (show (k : Int) < (R : Int) by omega), hlen, DaE (show k < 4 by omega)]
   simp only [jn, cond_true]
   rw [P1 (show k < 4 by omega)]
   simp only [jb]
   rw [JaB h hs hk (XQ C m k), MS h (by omega), Ba (Int.natCast_nonneg _)]; rfl)
  (by
   simp only [XF]
   rw [Aa (by omega)]; rfl)
 rw [FaE hm] at this
 exact this
theorem Naj {C R m : Nat} (hm : m < 2 ^ (R * C)) : Wp C R m < 2 ^ (R * C) := Oaw hm R (jo _)
theorem Dai {C R m : Nat} (h : QL C R) (d : Bool) (hm : m < 2 ^ (R * C)) : ZD ((R : Int), (C : Int), d, ()) (m : Int) = some (((cond d m (Wp C R m) : Nat) : Int), ()) := by
 unfold ZD
 cases d with
 | true => rfl
 | false =>
  simp only [cond_false]
  rw [Xaz h false hm]
  simp only [jb, ql]
  rw [Uaw h false hm]
  simp only [jb, ql]
  rw [Yaz h false (Naj hm)]
  rfl
def Bp (M : Be) (x : Int) : Int := ((cond M.2.2.1 x.toNat (Wp M.2.1.toNat M.1.toNat x.toNat) : Nat) : Int)
theorem UK {M : Be} {x : Int} (h : Fd M x = true) : ∃ C R m : Nat, ∃ d : Bool, M = ((R : Int), (C : Int), d, ()) ∧ x = (m : Int) ∧ QL C R ∧ m < 2 ^ (R * C) := by
 obtain ⟨r, c, d, u⟩ := M
 simp only [Fd, jd, Oe, decide_eq_true_eq] at h
 have hm := h.1
 simp only [Gg, decide_eq_true_eq] at hm
 obtain ⟨R, rfl⟩ := jv (show 0 ≤ r by omega)
 obtain ⟨C, rfl⟩ := jv (show 0 ≤ c by omega)
 obtain ⟨m, rfl⟩ := jv h.2.1
 refine ⟨C, R, m, d, rfl, rfl, ⟨by omega, by omega, by omega, by omega⟩, ?_⟩
 have hk : Vc ((R : Int), (C : Int), d, u) = ((R * C : Nat) : Int) := by
  unfold Vc; rw [h.1]; simp
 rw [hk, jn] at h
 exact Int.ofNat_lt.1 h.2.2
theorem YX {C R m : Nat} {d : Bool} (h : QL C R) (hm : m < 2 ^ (R * C)) : Fd ((R : Int), (C : Int), d, ()) (m : Int) = true := by
 have h1 := h.c1; have h2 := h.c2; have h3 := h.r1; have h4 := h.r2
 have hM : Gg ((R : Int), (C : Int), d, ()) = true := by simp only [Gg, decide_eq_true_eq]; omega
 have hk : Vc ((R : Int), (C : Int), d, ()) = ((R * C : Nat) : Int) := by
  unfold Vc; rw [hM]; simp
 simp only [Fd, hM, hk, Oe, jn, jk, decide_eq_true_eq]
 exact ⟨Int.natCast_nonneg _, Int.ofNat_lt.2 hm⟩
theorem WQ {C R m : Nat} {d : Bool} : Bp ((R : Int), (C : Int), d, ()) (m : Int) = ((cond d m (Wp C R m) : Nat) : Int) := by
 unfold Bp
 simp only [jn]
theorem Pab {M : Be} {x : Int} (h : Fd M x = true) : ZD M x = some (Bp M x, ()) := by
 obtain ⟨C, R, m, d, rfl, rfl, hd, hm⟩ := UK h
 rw [Dai hd d hm, WQ]
theorem Nac {M : Be} {x : Int} (h : Fd M x = true) : Jt M x = some (Bp M x, ()) := by
 obtain ⟨C, R, m, d, rfl, rfl, hd, hm⟩ := UK h
 rw [Waj hd d hm, WQ]
theorem OaB {M : Be} {x : Int} (h : Fd M x = true) : Fd M (Bp M x) = true := by
 obtain ⟨C, R, m, d, rfl, rfl, hd, hm⟩ := UK h
 rw [WQ]
 cases d with
 | true => exact YX hd hm
 | false => exact YX hd (Naj hm)
def Mj (M : Be) (x : Int) : Bool := Fd M x && (Bp M x == x)
theorem EH (M : Be) (x : Int) : Lo M x = some (Mj M x, ()) := by
 unfold Lo Mj
 rw [Kv]
 cases h : Fd M x with
 | false => rfl
 | true => simp only [jb, cond_true, jk]; rw [Pab h]; rfl
theorem Ru (M : Be) (x : Int) : Po M x = some (Mj M x, ()) := by
 unfold Po Mj
 rw [Bw]
 cases h : Fd M x with
 | false => rfl
 | true => simp only [jb, cond_true, jk]; rw [Nac h]; rfl
theorem W1 (M : Be) (x : Int) : RC M x = some (cond (Fd M x) (Bp M x) 0, Fd M x, ()) := by
 unfold RC
 rw [Bw]
 cases h : Fd M x with
 | false => rfl
 | true => simp only [jb, jg, cond_false, cond_true]; rw [Nac h]; rfl
theorem Vac {M : Be} {x : Int} {k : Nat} (h : Fd M x = true) (hk : k ≤ 62) : Fd M (Mb .i64 x (Qa .i64 1 (k : Int))) = true := by
 obtain ⟨C, R, m, d, rfl, rfl, hd, hm⟩ := UK h
 rw [Cl hk, P0 (YS hd hm) (Aj hk)]
 exact YX hd (qr hm (Nat.lt_of_le_of_lt Nat.and_le_left hm))
def P5 (M : Be) (x : Int) (k : Nat) : Bool := (Kd x (k : Int) == 1) && (Bp M (Mb .i64 x (Qa .i64 1 (k : Int))) == x)
theorem Xay {x : Nat} {k : Nat} (hx : x < 2 ^ 63) (hk : k ≤ 64) : Kd (x : Int) (k : Int) = 0 ∨ Kd (x : Int) (k : Int) = 1 := by
 unfold Kd
 have h1 : x >>> k ≤ x := by rw [Nat.shiftRight_eq_div_pow]; exact Nat.div_le_self _ _
 rw [LT x hk]
 show Va .i64 ((x >>> k : Nat) : Int) ((1 : Nat) : Int) = _ ∨ Va .i64 ((x >>> k : Nat) : Int) ((1 : Nat) : Int) = _
 rw [VO (by omega) (by decide), Nat.and_one_is_mod]
 omega
theorem Cah {M : Be} {x : Int} {k : Nat} (h : Fd M x = true) (hk : k ≤ 64) : (Kd x (k : Int) == 0) = !(Kd x (k : Int) == 1) := by
 obtain ⟨C, R, m, d, rfl, rfl, hd, hm⟩ := UK h
 rcases Xay (YS hd hm) hk with h | h <;> rw [h] <;> rfl
theorem L3 {M : Be} {x : Int} (h : Mj M x = true) : Fd M x = true ∧ 1 ≤ Vc M ∧ Vc M ≤ 24 := by
 simp only [Mj, jd] at h
 have h2 := h.1
 simp only [Fd, jd] at h2
 exact ⟨h.1, L9 h2.1⟩
theorem NZ {M : Be} {x : Int} (h : Mj M x = true) {k : Nat} (hk : (k : Int) < Vc M) :
 ∃ y, Ax M x (k : Int) = some (y, P5 M x k, ()) := by
 have hm := L3 h
 unfold Ax P5
 rw [EH, h, Xo]
 simp only [jb, jg, cond_false]
 rw [Aa (show ¬ (k : Int) < 0 by omega), Aa (show ¬ (k : Int) ≥ Vc M by omega), Ba (show 0 ≤ (k : Int) by omega)]
 simp only [cond_false, cond_true]
 have hb := Cah (k := k) hm.1 (by omega)
 unfold Kd at hb ⊢
 rw [hb]
 cases Va .i64 (Vb .i64 x (k : Int)) 1 == 1 with
 | false => exact ⟨_, rfl⟩
 | true =>
  simp only [jg, cond_false, jk]
  rw [Pab (Vac hm.1 (by omega))]
  simp only [jb, bne]
  cases Bp M (Mb .i64 x (Qa .i64 1 (k : Int))) == x <;> exact ⟨_, rfl⟩
theorem SZ {M : Be} {x : Int} (h : Mj M x = true) {k : Nat} (hk : (k : Int) < Vc M) :
 ∃ y, Cy M x (k : Int) = some (y, P5 M x k, ()) := by
 have hm := L3 h
 unfold Cy P5
 rw [Ru, h, Ij]
 simp only [jb, jg, cond_false, Mc]
 rw [Ie (by omega) (by omega), Ba (show 0 ≤ (k : Int) ∧ (k : Int) ≤ Vc M - 1 by omega), Ba (show 0 ≤ (k : Int) by omega)]
 simp only [cond_false, cond_true, jg]
 have hb := Cah (k := k) hm.1 (by omega)
 unfold Kd at hb ⊢
 rw [hb]
 cases Va .i64 (Vb .i64 x (k : Int)) 1 == 1 with
 | false => exact ⟨_, rfl⟩
 | true =>
  simp only [jg, cond_false, jk]
  rw [Nac (Vac hm.1 (by omega))]
  simp only [jb, bne]
  cases Bp M (Mb .i64 x (Qa .i64 1 (k : Int))) == x <;> exact ⟨_, rfl⟩
def WS (M : Be) (x : Int) (k : Nat) (s : Int) : Int := cond ((Kd x (k : Int) == 1) && !P5 M x k) (Nc .i64 s (Qa .i64 1 (k : Int))) s
def ZZ (M : Be) (x : Int) : Int := cond (Mj M x) (Ye (WS M x) (Vc M).toNat 0) 0
theorem S3 (M : Be) (x : Int) : QF M x = some (ZZ M x, ()) := by
 unfold QF ZZ
 rw [EH]
 cases h : Mj M x with
 | false => rfl
 | true =>
  have hm := L3 h
  obtain ⟨n, hn⟩ := jv (show 0 ≤ Vc M by omega)
  have hl := Ch (step := fun y => Wq y.1.1 y.1.2.1 y.1.2.2.1 y.1.2.2.2.1 y.1.2.2.2.2.1 y.2.1) n (by omega) (WS M x) 0 (fun s i => ((x, (), s, (n : Int), i, ()), (M, ()))) (fun s => .inl ((s, ()), ()))
   (by
    intro k hk
    generalize Ye (WS M x) k 0 = s
    obtain ⟨y, hy⟩ := NZ h (k := k) (by omega)
    simp only [Wq]
    rw [Ba (show (k : Int) < (n : Int) by omega), Ba (show 0 ≤ (k : Int) by omega), hy]
    simp only [cond_true, jb, WS, Kd]
    cases Va .i64 (Vb .i64 x (k : Int)) 1 == 1 <;> cases P5 M x k <;> rfl)
   (by
    simp only [Wq]
    rw [Aa (by omega)]; rfl)
  rw [Xo, hn]
  simp only [jb, jg, cond_false, cond_true, jn]
  unfold Gv
  erw [hl]
  rfl
theorem C4 (M : Be) (x : Int) : NG M x = some (ZZ M x, ()) := by
 unfold NG ZZ
 cases h : Mj M x with
 | false =>
  unfold Lm
  have hs : Rj x () 0 0 M = some (.inr (.inl ((0, ()), ()))) := by
   unfold Rj
   rw [Ij, Ru, h]
   simp only [jb, cond_false]
   cases decide (0 < Vc M) <;> rfl
  rw [Bd hs]
  rfl
 | true =>
  have hm := L3 h
  obtain ⟨n, hn⟩ := jv (show 0 ≤ Vc M by omega)
  have hl := Ch (step := fun y => Rj y.1.1 y.1.2.1 y.1.2.2.1 y.1.2.2.2.1 y.2.1) n (by omega) (WS M x) 0 (fun s i => ((x, (), s, i, ()), (M, ()))) (fun s => .inl ((s, ()), ()))
   (by
    intro k hk
    generalize Ye (WS M x) k 0 = s
    obtain ⟨y, hy⟩ := SZ h (k := k) (by omega)
    simp only [Rj]
    rw [Ij, Ru, h, hn]
    simp only [jb]
    rw [Ba (show (k : Int) < (n : Int) by omega), Ba (show 0 ≤ (k : Int) by omega), hy]
    simp only [cond_true, jb, WS, Kd]
    cases Va .i64 (Vb .i64 x (k : Int)) 1 == 1 <;> cases P5 M x k <;> rfl)
   (by
    simp only [Rj]
    rw [Ij, hn]
    simp only [jb]
    rw [Aa (by omega)]; rfl)
  rw [hn, jn]
  unfold Lm
  erw [hl]
  rfl
def Vag (M : Be) (old x : Int) : Int := Va .i64 x (Nc .i64 old (ZZ M x))
def SS (M : Be) (old x : Int) : Bool := Fd M old && Mj M x
theorem Iab (M : Be) (old x : Int) : Vq M old x = some (cond (SS M old x) (Vag M old x) 0, SS M old x, ()) := by
 unfold Vq SS
 rw [Kv, EH, S3]
 cases Fd M old <;> cases Mj M x <;> rfl
theorem Eac (M : Be) (old x : Int) : Yr M old x = some (cond (SS M old x) (Vag M old x) 0, SS M old x, ()) := by
 unfold Yr SS
 rw [Bw, Ru, C4]
 cases Fd M old <;> cases Mj M x <;> rfl
theorem JaD {M : Be} {x : Int} (h : Fd M x = true) (y : Int) : Fd M (Va .i64 x y) = true := by
 obtain ⟨C, R, m, d, rfl, rfl, hd, hm⟩ := UK h
 have hm63 := YS hd hm
 have e : Va .i64 (m : Int) y = ((m &&& (BitVec.ofInt 64 y).toNat : Nat) : Int) := by
  have h2 : (BitVec.ofInt (IntKind.bits .i64) (m : Int) &&& BitVec.ofInt (IntKind.bits .i64) y).toNat = m &&& (BitVec.ofInt 64 y).toNat := by
   rw [BitVec.toNat_and]; erw [ZL hm63]; rfl
  unfold Va
  rw [h2]
  have h3 : m &&& (BitVec.ofInt 64 y).toNat ≤ m := Nat.and_le_left
  have h4 := Nw
  exact Ie (by omega) (by omega)
 rw [e]
 exact YX hd (Nat.lt_of_le_of_lt Nat.and_le_left hm)
theorem HaD {M : Be} {old x : Int} (h : SS M old x = true) : Fd M (Vag M old x) = true := by
 simp only [SS, Mj, jd] at h
 exact JaD h.2.1 _
theorem Bah {a : Nat} {k : Nat} (ha : a < 2 ^ 63) (hk : k ≤ 64) : Kd (a : Int) (k : Int) = cond (a.testBit k) 1 0 := by
 have h := Ts ha hk
 rcases Xay ha hk with h1 | h1
 ·rw [h1] at h ⊢
  cases ht : a.testBit k with
  | true => rw [ht] at h; exact absurd h (by decide)
  | false => rfl
 ·rw [h1] at h ⊢
  cases ht : a.testBit k with
  | true => rfl
  | false => rw [ht] at h; exact absurd h (by decide)
theorem N8 {a b k : Nat} (ha : a < 2 ^ 63) (hb : b < 2 ^ 63) (hk : k ≤ 64) : (Kd (a : Int) (k : Int) != Kd (b : Int) (k : Int)) = (a ^^^ b).testBit k := by
 rw [Bah ha hk, Bah hb hk, qo]
 cases a.testBit k <;> cases b.testBit k <;> rfl
theorem S5 {a b k : Nat} (ha : a < 2 ^ 63) (hb : b < 2 ^ 63) (hk : k ≤ 64) : (Va .i64 (Vb .i64 (Za .i64 (a : Int) (b : Int)) (k : Int)) 1 == 1) = (Kd (a : Int) (k : Int) != Kd (b : Int) (k : Int)) := by
 rw [N8 ha hb hk, PK ha hb]
 exact Ts (qr ha hb) hk
def Baw (d : Qb) (raw : Int) (k : Nat) (x : Int) : Int :=
 cond ((d.1 == 0) && (Kd raw (k : Int) != Kd d.2.2.2.2.1 (k : Int))) 1 (cond ((d.1 == 1) && (raw != d.2.2.2.2.1)) 1 (min (j5 .i64 (x + 1)) 99))
def Oah (d : Qb) (raw : Int) (k : Nat) (x : Int) : Bool := decide (Baw d raw k x ≥ d.2.1) && (Kd raw (k : Int) != Kd d.2.2.2.1 (k : Int))
def JK (d : Qb) (raw : Int) (k : Nat) (s : Int × List Int) (x : Int) : Int × List Int :=
 (cond (Oah d raw k x) (Za .i64 s.1 (Qa .i64 1 (k : Int))) s.1, jf s.2 [cond (Oah d raw k x && (d.1 == 2)) 0 (Baw d raw k x)])
def Bab (d : Qb) (raw : Int) : Int × List Int := Pd (fun k s x => JK d raw k s x) 0 (d.2.2.2.1, []) d.2.2.2.2.2.1
def AZ : Qb := ((0 : Int), (0 : Int), (0 : Int), (0 : Int), (0 : Int), ([] : List Int), ())
def G0 (d : Qb) (raw : Int) : Bool := Zg d && Oe d.2.2.1 raw
def D6 (d : Qb) (raw : Int) : Qb × (Bool × Unit) := cond (G0 d raw) ((d.1, d.2.1, d.2.2.1, (Bab d raw).1, raw, (Bab d raw).2, ()), true, ()) (AZ, false, ())
structure Oar (d : Qb) : Prop where
 k1 : 1 ≤ d.2.2.1
 k2 : d.2.2.1 ≤ 24
 len : ((ja d.2.2.2.2.2.1 : Nat) : Int) = d.2.2.1
 sh : Oe d.2.2.1 d.2.2.2.1 = true
 la : Oe d.2.2.1 d.2.2.2.2.1 = true
theorem Cag {d : Qb} (h : Zg d = true) : Oar d := by
 simp only [Zg, jd, decide_eq_true_eq, beq_iff_eq] at h
 exact ⟨h.2.2.1.1, h.2.2.1.2, h.2.2.2.1, h.2.2.2.2.1, h.2.2.2.2.2.1⟩
theorem JT {k x : Int} (h : Oe k x = true) : ∃ n : Nat, x = (n : Int) ∧ n < 2 ^ k.toNat := by
 simp only [Oe, decide_eq_true_eq] at h
 obtain ⟨n, rfl⟩ := jv h.1
 exact ⟨n, rfl, by exact_mod_cast h.2⟩
theorem X9 {k : Int} {n : Nat} (hk : k ≤ 24) (h : n < 2 ^ k.toNat) : n < 2 ^ 63 :=
 qm h (qn (by omega) (by omega))
theorem Bae (d : Qb) (raw : Int) (k : Nat) (hk : k < d.2.2.2.2.2.1.length) (s : Int × List Int) (hs : s.2.length = k) (hn : d.2.2.2.2.2.1.length ≤ 24) :
 Kj raw () () () d.2.2.2.2.2.1 ((ja d.2.2.2.2.2.1 : Nat) : Int) (k : Int) d AZ (d.1, d.2.1, d.2.2.1, s.1, d.2.2.2.2.1, s.2, ()) =
  some (.inl ((raw, (), (), (), d.2.2.2.2.2.1, ((ja d.2.2.2.2.2.1 : Nat) : Int), j5 .i64 ((k : Int) + 1), ()), (d, AZ, (d.1, d.2.1, d.2.2.1, (JK d raw k s d.2.2.2.2.2.1[k]).1, d.2.2.2.2.1, (JK d raw k s d.2.2.2.2.2.1[k]).2, ()), ()))) := by
 have hb : ∀ x : Int, jx (ja s.2 + ja ([x] : List Int)) Sa = true := fun x => ji (by rw [Ud]; simp only [jw, j8]; omega)
 have hbit : ∀ m : Int, Xe m (k : Int) = some (Kd m (k : Int), ()) := fun m => Ml m (by omega)
 unfold Kj
 rw [Ba (show (k : Int) < ((ja d.2.2.2.2.2.1 : Nat) : Int) by omega), Jb hk, Ba (show (0 : Int) ≤ (k : Int) by omega)]
 simp only [cond_true, jb, hb, hbit]
 unfold JK Oah Baw
 generalize d.2.2.2.2.2.1[k] = x
 cases d.1 == 0 <;> (try simp only [cond_true, cond_false, jk, qq]) <;>
  cases Kd raw (k : Int) != Kd d.2.2.2.2.1 (k : Int) <;> (try simp only [cond_true, cond_false]) <;>
  cases d.1 == 1 <;> (try simp only [cond_true, cond_false, jk, qq]) <;>
  cases raw != d.2.2.2.2.1 <;> (try simp only [cond_true, cond_false]) <;>
  cases decide ((1 : Int) ≥ d.2.1) <;> (try simp only [cond_true, cond_false, jk, qq]) <;>
  cases decide (min (j5 .i64 (x + 1)) 99 ≥ d.2.1) <;> (try simp only [cond_true, cond_false, jk, qq]) <;>
  cases Kd raw (k : Int) != Kd d.2.2.2.1 (k : Int) <;> (try simp only [cond_true, cond_false, jk, qq]) <;>
  cases d.1 == 2 <;> rfl
theorem Oae (d : Qb) (hd : Oar d) (raw : Int) (hraw : Oe d.2.2.1 raw = true) (k : Nat) (hk : k < d.2.2.2.2.2.1.length) (s : Int × List Int) (hs : s.2.length = k) :
 Sj raw () () () (k : Int) d AZ (d.1, d.2.1, d.2.2.1, s.1, d.2.2.2.2.1, s.2, ()) =
  some (.inl ((raw, (), (), (), j5 .i64 ((k : Int) + 1), ()), (d, AZ, (d.1, d.2.1, d.2.2.1, (JK d raw k s d.2.2.2.2.2.1[k]).1, d.2.2.2.2.1, (JK d raw k s d.2.2.2.2.2.1[k]).2, ()), ()))) := by
 have h1 := hd.k2
 have h2 := hd.len
 obtain ⟨r, hr, hr2⟩ := JT hraw
 obtain ⟨a, ha, ha2⟩ := JT hd.sh
 obtain ⟨b, hb', hb2⟩ := JT hd.la
 have e1 : (Va .i64 (Vb .i64 (Za .i64 raw d.2.2.2.2.1) (k : Int)) 1 == 1) = (Kd raw (k : Int) != Kd d.2.2.2.2.1 (k : Int)) := by
  rw [hr, hb']; exact S5 (X9 h1 hr2) (X9 h1 hb2) (by omega)
 have e2 : (Va .i64 (Vb .i64 (Za .i64 raw d.2.2.2.1) (k : Int)) 1 == 1) = (Kd raw (k : Int) != Kd d.2.2.2.1 (k : Int)) := by
  rw [hr, ha]; exact S5 (X9 h1 hr2) (X9 h1 ha2) (by omega)
 have hb : ∀ x : Int, jx (ja s.2 + ja ([x] : List Int)) Sa = true := fun x => ji (by rw [Ud]; simp only [jw, j8]; omega)
 have hmin : ∀ x : Int, min (99 : Int) x = min x 99 := fun x => by omega
 unfold Sj
 rw [Ba (show (k : Int) < d.2.2.1 by omega), Jb hk, Ba (show (0 : Int) ≤ (k : Int) by omega)]
 simp only [cond_true, jb, hb, e1, e2, hmin]
 unfold JK Oah Baw
 generalize d.2.2.2.2.2.1[k] = x
 cases d.1 == 0 <;> (try simp only [cond_true, cond_false, jk, qq]) <;>
  cases Kd raw (k : Int) != Kd d.2.2.2.2.1 (k : Int) <;> (try simp only [cond_true, cond_false]) <;>
  cases d.1 == 1 <;> (try simp only [cond_true, cond_false, jk, qq]) <;>
  cases raw != d.2.2.2.2.1 <;> (try simp only [cond_true, cond_false]) <;>
  cases decide ((1 : Int) ≥ d.2.1) <;> (try simp only [cond_true, cond_false, jk, qq]) <;>
  cases decide (min (j5 .i64 (x + 1)) 99 ≥ d.2.1) <;> (try simp only [cond_true, cond_false, jk, qq]) <;>
  cases Kd raw (k : Int) != Kd d.2.2.2.1 (k : Int) <;> (try simp only [cond_true, cond_false, jk, qq]) <;>
  cases d.1 == 2 <;> rfl
structure Nag (d : Qb) (k : Nat) (s : Int × List Int) : Prop where
 len : s.2.length = k
 sh : Oe d.2.2.1 s.1 = true
theorem UaD {d : Qb} (hd : Oar d) (raw : Int) {k : Nat} (hk : k < d.2.2.2.2.2.1.length) {s : Int × List Int} (hs : Nag d k s) (x : Int) : Nag d (k + 1) (JK d raw k s x) := by
 have h1 := hd.k2
 have h2 := hd.len
 refine ⟨by simp [JK, hs.len], ?_⟩
 obtain ⟨a, ha, ha2⟩ := JT hs.sh
 unfold JK
 cases Oah d raw k x with
 | false => exact hs.sh
 | true =>
  show Oe d.2.2.1 (Za .i64 s.1 (Qa .i64 1 (k : Int))) = true
  rw [ha, Cl (by omega), PK (X9 h1 ha2) (Aj (by omega))]
  have hk2 : 2 ^ k < 2 ^ d.2.2.1.toNat := Nat.pow_lt_pow_right (by omega) (by omega)
  have := qr ha2 hk2
  simp only [Oe, decide_eq_true_eq]
  exact ⟨by omega, by exact_mod_cast this⟩
theorem Bam {d : Qb} (hd : Oar d) (raw : Int) : Nag d d.2.2.2.2.2.1.length (Bab d raw) := by
 have h : ∀ (l : List Int) (k : Nat) (s : Int × List Int), d.2.2.2.2.2.1.drop k = l → k ≤ d.2.2.2.2.2.1.length → Nag d k s → Nag d d.2.2.2.2.2.1.length (Pd (fun k s x => JK d raw k s x) k s l) := by
  intro l
  induction l with
  | nil =>
   intro k s hl hk hs
   have := ZX hl hk
   rw [← this]; exact hs
  | cons y l ih =>
   intro k s hl hk hs
   obtain ⟨hk', hy, hl'⟩ := NQ hl
   exact ih (k + 1) _ hl' hk' (UaD hd raw hk' hs y)
 exact h _ 0 _ rfl (Nat.zero_le _) ⟨rfl, hd.sh⟩
theorem Uak (d : Qb) (raw : Int) (hn : d.2.2.2.2.2.1.length ≤ Ea) : An d raw = some (D6 d raw) := by
 unfold An D6 G0
 rw [WN d hn]
 cases hv : Zg d with
 | false => rfl
 | true =>
  have hd := Cag hv
  have h1 := hd.k1
  have h2 := hd.k2
  have h3 := hd.len
  simp only [jb, jg, cond_false, jk]
  rw [Ba (show (0 : Int) ≤ d.2.2.1 by omega), TW (show 0 ≤ d.2.2.1 ∧ d.2.2.1 ≤ 62 by omega)]
  simp only [cond_true]
  by_cases h0 : raw < 0
  ·rw [Ba h0, show Oe d.2.2.1 raw = false by unfold Oe; exact Aa (by omega)]; rfl
  ·by_cases h9 : raw ≥ ((2 ^ d.2.2.1.toNat : Nat) : Int)
   ·rw [Aa h0, Ba h9, show Oe d.2.2.1 raw = false by unfold Oe; exact Aa (by omega)]; rfl
   ·rw [Aa h0, Aa h9, show Oe d.2.2.1 raw = true by unfold Oe; exact Ba (by omega)]
    simp only [cond_false, cond_true]
    have hl := (Ce (step := fun x => Kj x.1.1 x.1.2.1 x.1.2.2.1 x.1.2.2.2.1 x.1.2.2.2.2.1 x.1.2.2.2.2.2.1 x.1.2.2.2.2.2.2.1 x.2.1 x.2.2.1 x.2.2.2.1) d.2.2.2.2.2.1 (fun k s x => JK d raw k s x)
     (fun s i => ((raw, (), (), (), d.2.2.2.2.2.1, ((ja d.2.2.2.2.2.1 : Nat) : Int), i, ()), (d, AZ, (d.1, d.2.1, d.2.2.1, s.1, d.2.2.2.2.1, s.2, ()), ())))
     (fun s => .inl ((raw, (), (), ()), (AZ, (d.1, d.2.1, d.2.2.1, s.1, d.2.2.2.2.1, s.2, ()), ()))) (fun k s => s.2.length = k) (by
      intro k hk s hs
      exact ⟨Bae d raw k hk s hs (by omega), by simp [JK, hs]⟩) (by
      intro s hs
      simp only [Kj]
      rw [Aa (by omega)]; rfl) (by omega) (d.2.2.2.1, []) rfl).1
    unfold Uo
    erw [hl]
    rfl
theorem Aal (d : Qb) (raw : Int) (hn : d.2.2.2.2.2.1.length ≤ Ea) : En d raw = some (D6 d raw) := by
 unfold En D6 G0
 rw [DO d hn]
 cases hv : Zg d with
 | false => rfl
 | true =>
  have hd := Cag hv
  have h1 := hd.k1
  have h2 := hd.k2
  have h3 := hd.len
  simp only [jb, jg, cond_false, jk]
  rw [Ba (show (0 : Int) ≤ d.2.2.1 by omega), Mc, LS _ _ (show 0 ≤ d.2.2.1 ∧ d.2.2.1 ≤ 62 by omega)]
  simp only [cond_true, jb]
  cases hraw : Oe d.2.2.1 raw with
  | false => rfl
  | true =>
   simp only [jg, cond_false, cond_true]
   have hl := (Ce (step := fun x => Sj x.1.1 x.1.2.1 x.1.2.2.1 x.1.2.2.2.1 x.1.2.2.2.2.1 x.2.1 x.2.2.1 x.2.2.2.1) d.2.2.2.2.2.1 (fun k s x => JK d raw k s x)
    (fun s i => ((raw, (), (), (), i, ()), (d, AZ, (d.1, d.2.1, d.2.2.1, s.1, d.2.2.2.2.1, s.2, ()), ())))
    (fun s => .inl ((raw, (), (), ()), (AZ, (d.1, d.2.1, d.2.2.1, s.1, d.2.2.2.2.1, s.2, ()), ()))) (fun k s => s.2.length = k) (by
     intro k hk s hs
     exact ⟨Oae d hd raw hraw k hk s hs, by simp [JK, hs]⟩) (by
     intro s hs
     simp only [Sj]
     rw [Aa (by omega)]; rfl) (by omega) (d.2.2.2.1, []) rfl).1
   unfold Fp
   erw [hl]
   rfl
def Rq (L : List Wa) (set : Int) : Bool := !Le (fun _ (c : Wa) => !(Mb .i64 set c.1 == 0)) 0 L
theorem JW (L : List Wa) (set : Int) (hn : L.length ≤ Ea) : CI L set = some (Rq L set, ()) := by
 have h20 : Ea = 1048576 := rfl
 have hl := Jf (step := fun x => TB x.1.1 x.1.2.1 x.1.2.2.1 x.1.2.2.2.1) L (fun _ (c : Wa) => !(Mb .i64 set c.1 == 0)) (fun i => ((set, L, ((ja L : Nat) : Int), i, ()), ()))
  (.inl ((), ())) (.inr ((true, ()), ())) (by
   intro k hk
   simp only [TB]
   rw [Ba (by omega), Jb hk]
   simp only [cond_true, jb]
   cases Mb .i64 set L[k].1 == 0 <;> rfl) (by
   simp only [TB]
   rw [Aa (by omega)]; rfl) (by omega)
 unfold CI BE Rq
 erw [hl]
 cases Le (fun _ (c : Wa) => !(Mb .i64 set c.1 == 0)) 0 L <;> rfl
theorem YW (L : List Wa) (set : Int) (hn : L.length ≤ Ea) : WE L set = some (Rq L set, ()) := by
 have h20 : Ea = 1048576 := rfl
 have hl := Jf (step := fun x => Qy x.1.1 x.1.2.1 x.1.2.2.1) L (fun _ (c : Wa) => !(Mb .i64 set c.1 == 0)) (fun i => ((L, set, i, ()), ()))
  (.inl ((), ())) (.inr ((true, ()), ())) (by
   intro k hk
   simp only [Qy]
   rw [Ba (by omega), Jb hk]
   simp only [cond_true, jb]
   cases Mb .i64 set L[k].1 == 0 <;> rfl) (by
   simp only [Qy]
   rw [Aa (by omega)]; rfl) (by omega)
 unfold WE YA Rq
 erw [hl]
 cases Le (fun _ (c : Wa) => !(Mb .i64 set c.1 == 0)) 0 L <;> rfl
def G5 (set : Int) (s : Int × Bool) (c : Wa) : Int × Bool := cond (c.1 == set) (c.2.1, s.2) (cond (Mb .i64 set c.1 == 0) (s.1, true) s)
def Ug (L : List Wa) (set : Int) : Int × Bool := Pd (fun _ s c => G5 set s c) 0 (-1, false) L
theorem IR (L : List Wa) (set : Int) (hn : L.length ≤ Ea) : Im L set = some ((Ug L set).1, (Ug L set).2, ()) := by
 have h20 : Ea = 1048576 := rfl
 have hl := (Ce (step := fun x => Pp x.1.1 x.1.2.1 x.1.2.2.1 x.1.2.2.2.1 x.1.2.2.2.2.1 x.1.2.2.2.2.2.1) L (fun _ s c => G5 set s c) (fun s i => ((set, s.1, s.2, L, ((ja L : Nat) : Int), i, ()), ()))
  (fun s => .inl ((s.1, s.2, ()), ())) (fun _ _ => True) (by
   intro k hk s _
   refine ⟨?_, trivial⟩
   simp only [Pp]
   rw [Ba (by omega), Jb hk]
   simp only [cond_true, jb]
   unfold G5
   cases L[k].1 == set <;> cases Mb .i64 set L[k].1 == 0 <;> rfl) (by
   intro s _
   simp only [Pp]
   rw [Aa (by omega)]; rfl) (by omega) (-1, false) trivial).1
 unfold Im Bt Ug
 erw [hl]
 rfl
theorem PR (L : List Wa) (set : Int) (hn : L.length ≤ Ea) : UI L set = some ((Ug L set).1, (Ug L set).2, ()) := by
 have h20 : Ea = 1048576 := rfl
 have hl := (Ce (step := fun x => VC x.1.1 x.1.2.1 x.1.2.2.1 x.1.2.2.2.1 x.1.2.2.2.2.1) L (fun _ s c => G5 set s c) (fun s i => ((L, set, s.1, s.2, i, ()), ()))
  (fun s => .inl ((s.1, s.2, ()), ())) (fun _ _ => True) (by
   intro k hk s _
   refine ⟨?_, trivial⟩
   simp only [VC]
   rw [Ba (by omega), Jb hk]
   simp only [cond_true, jb]
   unfold G5
   rw [show (set == L[k].1) = (L[k].1 == set) by rw [qy, beq_iff_eq, beq_iff_eq]; exact eq_comm]
   cases L[k].1 == set <;> cases Mb .i64 set L[k].1 == 0 <;> rfl) (by
   intro s _
   simp only [VC]
   rw [Aa (by omega)]; rfl) (by omega) (-1, false) trivial).1
 unfold UI YE Ug
 erw [hl]
 rfl
theorem HaC {L : List Wa} (hL : Ih L = true) (set : Int) : (Ug L set).1 = -1 ∨ 24 ≤ (Ug L set).1 ∧ (Ug L set).1 ≤ 31 := by
 have hx : ∀ c ∈ L, 24 ≤ c.2.1 ∧ c.2.1 ≤ 31 := by
  simp only [Ih, jd] at hL
  intro c hc
  obtain ⟨i, hi, rfl⟩ := qu hc
  have := (ID.1 hL.2) i hi
  simp only [Yw, jd, decide_eq_true_eq] at this
  omega
 have key : ∀ (l : List Wa) (k : Nat) (s : Int × Bool), (∀ c ∈ l, 24 ≤ c.2.1 ∧ c.2.1 ≤ 31) → (s.1 = -1 ∨ 24 ≤ s.1 ∧ s.1 ≤ 31) → ((Pd (fun _ s c => G5 set s c) k s l).1 = -1 ∨ 24 ≤ (Pd (fun _ s c => G5 set s c) k s l).1 ∧ (Pd (fun _ s c => G5 set s c) k s l).1 ≤ 31) := by
  intro l
  induction l with
  | nil => intro k s _ hs; exact hs
  | cons c l ih =>
   intro k s hc hs
   refine ih (k + 1) (G5 set s c) (fun d hd => hc d (by simp [hd])) ?_
   unfold G5
   cases c.1 == set with
   | true => exact .inr (hc c (by simp))
   | false => cases Mb .i64 set c.1 == 0 <;> exact hs
 exact key L 0 _ hx (.inl rfl)
def DD (x : Ca) : Bool := Sh x && decide (x.2.1 < 24)
theorem X0 (x : Ca) : Vl x = some (DD x, ()) := by
 unfold Vl DD
 rw [JM]
 cases Sh x <;> rfl
theorem A2 (x : Ca) : Hw x = some (DD x, ()) := by
 unfold Hw DD
 rw [PN]
 cases Sh x <;> rfl
def OT (L : List Wa) (e : Int) (k : Nat) (set : Int) (x : Ca) : Int ⊕ ((Int × Nat × Int) ⊕ (Int × Int × Int)) :=
 cond (DD x) (cond (decide (x.1 ≥ e)) (.inr (.inl (set, k + 1, e))) (cond x.2.2.1
  (cond (Rq L (Nc .i64 set (Qa .i64 1 x.2.1))) (cond (decide ((Ug L (Nc .i64 set (Qa .i64 1 x.2.1))).1 ≥ 0) && !(Ug L (Nc .i64 set (Qa .i64 1 x.2.1))).2)
   (.inr (.inr (((k + 2 : Nat) : Int), x.1, (Ug L (Nc .i64 set (Qa .i64 1 x.2.1))).1))) (.inl (Nc .i64 set (Qa .i64 1 x.2.1))))
   (.inr (.inl (set, k + 1, x.1))))
  (.inr (.inl (set, k + 1, x.1))))) (.inr (.inr (0, 0, -1)))
def NT (L : List Wa) (set : Int) (n : Nat) (at_ : Int) : Int × Int × Int := cond (decide ((Ug L set).1 ≥ 0)) ((n : Int), at_, (Ug L set).1) (1, at_, -1)
def Aax (L : List Wa) (e now : Int) (set : Int) (r : List Ca) : Int × Int × Int :=
 match Xc (fun k s x => OT L e k s x) 0 set r with
 | .inl s => cond (decide (now < e)) (0, 0, -1) (NT L s (r.length + 1) e)
 | .inr (.inl b) => NT L b.1 b.2.1 b.2.2
 | .inr (.inr b) => b
def Zi (L : List Wa) (term : Int) (q : List Ca) (now : Int) : Int × Int × Int :=
 match q with
 | [] => (0, 0, -1)
 | f :: r => cond (Ih L && (decide (1 ≤ term ∧ term ≤ 200) && (DD f && f.2.2.1)))
  (cond (Rq L (Qa .i64 1 f.2.1)) (Aax L (j5 .i64 (f.1 + term)) now (Qa .i64 1 f.2.1) r) (1, f.1, -1)) (0, 0, -1)
theorem Naa {x : Ca} (h : DD x = true) : 0 ≤ x.1 ∧ x.1 ≤ 1000000 ∧ 0 ≤ x.2.1 ∧ x.2.1 < 24 := by
 simp only [DD, jd, decide_eq_true_eq] at h
 have := Kk h.1
 omega
theorem G9 (L : List Wa) (term now : Int) (f : Ca) (e : Int) (he : j5 .i64 (f.1 + term) = e) (set : Int) (r : List Ca) (hn : L.length ≤ Ea) (hr : r.length ≤ Ea) :
 Tk ((L, term, now, (), set, e, (1 : Int), true, r, ((ja r : Nat) : Int), (0 : Int), ()), (f, ())) =
  some (match Xc (fun k s x => OT L e k s x) 0 set r with
   | .inl s => .inl ((L, now, s, e, ((r.length + 1 : Nat) : Int), true, ()), ())
   | .inr (.inl b) => .inl ((L, now, b.1, b.2.2, (b.2.1 : Int), false, ()), ())
   | .inr (.inr b) => .inr ((b.1, b.2.1, b.2.2, ()), ())) := by
 have h20 : Ea = 1048576 := rfl
 have hl := TV (step := fun x => Pn x.1.1 x.1.2.1 x.1.2.2.1 x.1.2.2.2.1 x.1.2.2.2.2.1 x.1.2.2.2.2.2.1 x.1.2.2.2.2.2.2.1 x.1.2.2.2.2.2.2.2.1 x.1.2.2.2.2.2.2.2.2.1 x.1.2.2.2.2.2.2.2.2.2.1 x.1.2.2.2.2.2.2.2.2.2.2.1 x.2.1) r (fun k s x => OT L e k s x)
  (fun k s => ((L, term, now, (), s, e, ((k + 1 : Nat) : Int), true, r, ((ja r : Nat) : Int), (k : Int), ()), (f, ())))
  (fun s => .inl ((L, now, s, e, ((r.length + 1 : Nat) : Int), true, ()), ()))
  (fun b => match b with | .inl b => .inl ((L, now, b.1, b.2.2, (b.2.1 : Int), false, ()), ()) | .inr b => .inr ((b.1, b.2.1, b.2.2, ()), ())) (fun _ _ => True) (by
   intro k hk s _
   refine ⟨?_, fun _ _ => trivial⟩
   simp only [Pn]
   rw [Ba (show (k : Int) < ((ja r : Nat) : Int) by omega), Jb hk, he]
   simp only [cond_true, jb]
   rw [X0]
   simp only [jb]
   unfold OT
   generalize r[k] = x
   cases hx : DD x with
   | false => rfl
   | true =>
    have hk' := Naa hx
    rw [Ba hk'.2.2.1, JW _ _ hn, IR _ _ hn, Jc (show k + 1 < _ by omega), Jc (show k < _ by omega)]
    simp only [jg, cond_false, cond_true, jb]
    by_cases h1 : x.1 ≥ e
    ·rw [Ba h1, show min e x.1 = e by omega]; rfl
    ·rw [Aa h1, show min e x.1 = x.1 by omega]
     simp only [cond_false]
     cases x.2.2.1 with
     | false => rfl
     | true =>
      simp only [jg, cond_false, cond_true]
      cases Rq L (Nc .i64 s (Qa .i64 1 x.2.1)) with
      | false => rfl
      | true =>
       simp only [jg, cond_false, cond_true]
       cases decide ((Ug L (Nc .i64 s (Qa .i64 1 x.2.1))).1 ≥ 0) <;> cases (Ug L (Nc .i64 s (Qa .i64 1 x.2.1))).2 <;> rfl) (by
   intro s _
   simp only [Pn]
   rw [Aa (by omega)]; rfl) set trivial
 unfold Tk
 refine hl.trans ?_
 cases Xc (fun k s x => OT L e k s x) 0 set r with
 | inl s => rfl
 | inr b => cases b <;> rfl
theorem Haa (L : List Wa) (now : Int) (f : Ca) (e : Int) (set : Int) (r : List Ca) (hn : L.length ≤ Ea) (hr : r.length ≤ Ea) :
 Ql ((L, f :: r, now, set, e, (1 : Int), e, ()), ()) =
  some (match Xc (fun k s x => OT L e k s x) 0 set r with
   | .inl s => cond (decide (now < e)) (.inr (((0 : Int), (0 : Int), (-1 : Int), ()), ())) (.inl ((L, s, ((r.length + 1 : Nat) : Int), e, ()), ()))
   | .inr (.inl b) => .inl ((L, b.1, (b.2.1 : Int), b.2.2, ()), ())
   | .inr (.inr b) => .inr ((b.1, b.2.1, b.2.2, ()), ())) := by
 have h20 : Ea = 1048576 := rfl
 have hl := TV (step := fun x => Xp x.1.1 x.1.2.1 x.1.2.2.1 x.1.2.2.2.1 x.1.2.2.2.2.1 x.1.2.2.2.2.2.1 x.1.2.2.2.2.2.2.1) r (fun k s x => OT L e k s x)
  (fun k s => ((L, f :: r, now, s, e, ((k + 1 : Nat) : Int), e, ()), ()))
  (fun s => cond (decide (now < e)) (.inr (((0 : Int), (0 : Int), (-1 : Int), ()), ())) (.inl ((L, s, ((r.length + 1 : Nat) : Int), e, ()), ())))
  (fun b => match b with | .inl b => .inl ((L, b.1, (b.2.1 : Int), b.2.2, ()), ()) | .inr b => .inr ((b.1, b.2.1, b.2.2, ()), ())) (fun _ _ => True) (by
   intro k hk s _
   refine ⟨?_, fun _ _ => trivial⟩
   simp only [Xp]
   rw [show (((k + 1 : Nat) : Int) == ((ja (f :: r) : Nat) : Int)) = false by simp; omega]
   rw [Jb (show k + 1 < (f :: r).length by simp; omega)]
   simp only [cond_false, jb, List.getElem_cons_succ]
   rw [A2]
   simp only [jb]
   unfold OT
   generalize r[k] = x
   cases hx : DD x with
   | false => rfl
   | true =>
    have hk' := Naa hx
    rw [Ba hk'.2.2.1, YW _ _ hn, PR _ _ hn, Jc (show k + 1 < _ by omega)]
    simp only [jg, cond_false, cond_true, jb]
    cases decide (x.1 ≥ e) with
    | true => rfl
    | false =>
     simp only [cond_false]
     cases x.2.2.1 with
     | false => rfl
     | true =>
      simp only [jg, cond_false, cond_true]
      cases Rq L (Nc .i64 s (Qa .i64 1 x.2.1)) with
      | false => rfl
      | true =>
       simp only [jg, cond_false, cond_true]
       cases decide ((Ug L (Nc .i64 s (Qa .i64 1 x.2.1))).1 ≥ 0) <;> cases (Ug L (Nc .i64 s (Qa .i64 1 x.2.1))).2 <;> rfl) (by
   intro s _
   simp only [Xp]
   rw [show (((r.length + 1 : Nat) : Int) == ((ja (f :: r) : Nat) : Int)) = true by simp]
   cases decide (now < e) <;> rfl) set trivial
 unfold Ql
 refine hl.trans ?_
 cases Xc (fun k s x => OT L e k s x) 0 set r with
 | inl s => rfl
 | inr b => cases b <;> rfl
theorem Dae (L : List Wa) (term : Int) (q : List Ca) (now : Int) (hn : L.length ≤ Ea) (hq : q.length ≤ Ea) :
 JB L term q now = some ((Zi L term q now).1, (Zi L term q now).2.1, (Zi L term q now).2.2, ()) := by
 have h20 : Ea = 1048576 := rfl
 unfold JB Zi
 rw [DT _ hn]
 cases q with
 | nil =>
  cases Ih L <;> simp only [jb, jg, qa, cond_true, cond_false]
  cases decide (term < 1) <;> cases decide (term > 200) <;> rfl
 | cons f r =>
  have hr : r.length ≤ Ea := by simp at hq; omega
  cases Ih L with
  | false => rfl
  | true =>
   simp only [jb, jg, jk, cond_false, Zw]
   cases decide (1 ≤ term ∧ term ≤ 200) with
   | false => rfl
   | true =>
    rw [show (((ja (f :: r) : Nat) : Int) == 0) = false by simp; omega]
    simp only [Bai, jb, X0, cond_false, cond_true, jk]
    cases hf : DD f with
    | false => rfl
    | true =>
     have hk := Naa hf
     cases f.2.2.1 with
     | false => rfl
     | true =>
      have hc : Ld (ja (f :: r)) (1 : Int) ((ja (f :: r) : Nat) : Int) = true := Zh (lo := 1) (by simp) (by simp)
      have hc2 : Eb (f :: r) (jy (1 : Int)) (jy ((ja (f :: r) : Nat) : Int)) = r := by
       show List.drop 1 (List.take _ (f :: r)) = r
       rw [jn, List.take_length]; rfl
      rw [Ba hk.2.2.1, JW _ _ hn, hc, hc2]
      simp only [jg, cond_false, cond_true, jb, Bool.and_self, jk]
      cases Rq L (Qa .i64 1 f.2.1) with
      | false => rfl
      | true =>
       simp only [jg, cond_false, cond_true]
       rw [G9 L term now f _ rfl _ _ hn hr]
       unfold Aax
       cases Xc (fun k s x => OT L (j5 .i64 (f.1 + term)) k s x) 0 (Qa .i64 1 f.2.1) r with
       | inl s =>
        simp only [jb, ql, cond_true]
        rw [IR _ _ hn]
        unfold NT
        simp only [jb]
        cases decide (now < j5 .i64 (f.1 + term)) <;> cases decide ((Ug L s).1 ≥ 0) <;> rfl
       | inr b =>
        cases b with
        | inl b =>
         simp only [jb, ql, cond_false]
         rw [IR _ _ hn]
         unfold NT
         simp only [jb]
         cases decide ((Ug L b.1).1 ≥ 0) <;> rfl
        | inr b => rfl
theorem Rae (L : List Wa) (term : Int) (q : List Ca) (now : Int) (hn : L.length ≤ Ea) (hq : q.length ≤ Ea) :
 PC L term q now = some ((Zi L term q now).1, (Zi L term q now).2.1, (Zi L term q now).2.2, ()) := by
 have h20 : Ea = 1048576 := rfl
 unfold PC Zi
 rw [WT _ hn, Mc]
 cases q with
 | nil =>
  cases Ih L <;> simp only [jb, jg, qa, cond_true, cond_false]
  cases decide (1 ≤ term ∧ term ≤ 200) <;> rfl
 | cons f r =>
  have hr : r.length ≤ Ea := by simp at hq; omega
  cases hL : Ih L with
  | false => rfl
  | true =>
   simp only [jb, jg, jk, cond_false]
   cases decide (1 ≤ term ∧ term ≤ 200) with
   | false => rfl
   | true =>
    rw [show (((ja (f :: r) : Nat) : Int) == 0) = false by simp; omega]
    simp only [Bai, jb, A2, cond_false, cond_true, jk, jg]
    cases hf : DD f with
    | false => rfl
    | true =>
     have hk := Naa hf
     cases f.2.2.1 with
     | false => rfl
     | true =>
      rw [Ba hk.2.2.1, YW _ _ hn]
      simp only [jg, cond_false, cond_true, jb, Bool.and_self, jk]
      have hfin : ∀ (s : Int) (n : Nat) (a : Int), (cond (decide ((Ug L s).1 < 0)) (some ((1 : Int), a, (Ug L s).1, ())) (some ((n : Int), a, (Ug L s).1, ()))) = some ((NT L s n a).1, (NT L s n a).2.1, (NT L s n a).2.2, ()) := by
       intro s n a
       unfold NT
       rcases HaC hL s with h | h
       ·rw [h]; rfl
       ·rw [Aa (by omega), Ba (show (Ug L s).1 ≥ 0 by omega)]; rfl
      cases Rq L (Qa .i64 1 f.2.1) with
      | false => rfl
      | true =>
       simp only [jg, cond_false, cond_true]
       rw [Haa L now f _ _ _ hn hr]
       unfold Aax
       cases Xc (fun k s x => OT L (j5 .i64 (f.1 + term)) k s x) 0 (Qa .i64 1 f.2.1) r with
       | inl s =>
        cases decide (now < j5 .i64 (f.1 + term)) with
        | true => rfl
        | false =>
         simp only [jb, ql, cond_false]
         rw [PR _ _ hn]
         exact hfin s (r.length + 1) _
       | inr b =>
        cases b with
        | inl b =>
         simp only [jb, ql]
         rw [PR _ _ hn]
         exact hfin b.1 b.2.1 _
        | inr b => rfl
theorem B7 (L : List Wa) (term : Int) (f : Ca) (r : List Ca) (now : Int) : ∃ n : Nat, (Zi L term (f :: r) now).1 = (n : Int) ∧ n ≤ r.length + 1 := by
 have key : ∀ (e : Int) (l : List Ca) (k : Nat) (set : Int) (b : (Int × Nat × Int) ⊕ (Int × Int × Int)), Xc (fun k s x => OT L e k s x) k set l = .inr b →
  match b with | .inl b => b.2.1 ≤ k + l.length | .inr b => ∃ n : Nat, b.1 = (n : Int) ∧ n ≤ k + l.length + 1 := by
  intro e l
  induction l with
  | nil => intro k set b h; simp [Xc] at h
  | cons x l ih =>
   intro k set b h
   simp only [Xc] at h
   revert h
   cases hg : OT L e k set x with
   | inl s =>
    intro h
    have := ih (k + 1) s b h
    cases b with
    | inl b => simp only [jw] at this ⊢; omega
    | inr b => obtain ⟨n, h1, h2⟩ := this; exact ⟨n, h1, by simp only [jw]; omega⟩
   | inr r =>
    intro h
    simp only [Sum.inr.injEq] at h
    subst h
    unfold OT at hg
    revert hg
    cases DD x <;> cases decide (x.1 ≥ e) <;> cases x.2.2.1 <;> cases Rq L (Nc .i64 set (Qa .i64 1 x.2.1)) <;> cases (decide ((Ug L (Nc .i64 set (Qa .i64 1 x.2.1))).1 ≥ 0) && !(Ug L (Nc .i64 set (Qa .i64 1 x.2.1))).2) <;>
     (intro hg; cases hg) <;>
     first
      | exact ⟨0, rfl, by omega⟩
      | exact ⟨_, rfl, by simp only [jw]; omega⟩
      | (simp only [jw]; omega)
 have Ji : ∀ s n a, n ≤ r.length + 1 → 1 ≤ n → ∃ m : Nat, (NT L s n a).1 = (m : Int) ∧ m ≤ r.length + 1 := by
  intro s n a hn _
  unfold NT
  cases decide ((Ug L s).1 ≥ 0)
  ·exact ⟨1, rfl, by omega⟩
  ·exact ⟨n, rfl, hn⟩
 simp only [Zi]
 cases Ih L && (decide (1 ≤ term ∧ term ≤ 200) && (DD f && f.2.2.1)) with
 | false => exact ⟨0, rfl, by omega⟩
 | true =>
  cases Rq L (Qa .i64 1 f.2.1) with
  | false => exact ⟨1, rfl, by omega⟩
  | true =>
   simp only [cond_true, Aax]
   cases h : Xc (fun k s x => OT L (j5 .i64 (f.1 + term)) k s x) 0 (Qa .i64 1 f.2.1) r with
   | inl s =>
    cases decide (now < j5 .i64 (f.1 + term)) with
    | true => exact ⟨0, rfl, by omega⟩
    | false => exact Ji s _ _ (jo _) (by omega)
   | inr b =>
    have := key _ _ _ _ _ h
    cases b with
    | inl b =>
     unfold NT
     simp only at this ⊢
     cases decide ((Ug L b.1).1 ≥ 0)
     ·exact ⟨1, rfl, by omega⟩
     ·exact ⟨b.2.1, rfl, by omega⟩
    | inr b => obtain ⟨n, h1, h2⟩ := this; exact ⟨n, h1, by omega⟩
abbrev Md (c : Pa) : List Ca := c.2.2.2.2.2.2.1
abbrev NaD (c : Pa) (l : List Ca) : Pa := (c.1, c.2.1, c.2.2.1, c.2.2.2.1, c.2.2.2.2.1, c.2.2.2.2.2.1, l, ())
def woE {α : Type} (l : List α) (i : Nat) : List α := jf (l.take i) (l.drop (i + 1))
def zEv : Ca := (0, 0, false, ())
def IS (l : List Ca) (key : Int) (j : Nat) : List Ca :=
 cond (Mb .i64 (l.getD j zEv).2.1 (Qa .i64 1 key) == 0) (woE l j) (l.set j ((l.getD j zEv).1, Mb .i64 (l.getD j zEv).2.1 (Qa .i64 1 key), false, ()))
def XY (l : List Ca) (at_ : Int) (j : Nat) : List Ca := cond (l.getD j zEv).2.2.1 [(at_, (l.getD j zEv).1, false, ())] []
def XV (c : Pa) (key : Int) : Int := Qd (fun (a : Ca) => !(Kd a.2.1 key == 0)) 0 (Md c)
def VI (c : Pa) (key at_ : Int) : Pa × List Ca :=
 if XV c key = -1 then ((c.1, c.2.1, c.2.2.1, c.2.2.2.1, c.2.2.2.2.1, Mb .i64 c.2.2.2.2.2.1 (Qa .i64 1 key), Md c, ()), [(at_, key, false, ())])
 else (NaD c (IS (Md c) key (XV c key).toNat), XY (Md c) at_ (XV c key).toNat)
theorem P3 {α : Type} (l : List α) (j : Nat) (hj : j < l.length) (v : α) :
 Eb (l.set j v) (jy (0 : Int)) (jy (j : Int)) = l.take j ∧ Eb (l.set j v) (jy ((j + 1 : Nat) : Int)) (jy ((ja (l.set j v) : Nat) : Int)) = l.drop (j + 1) := by
 constructor
 ·show List.drop 0 (List.take _ (l.set j v)) = _
  rw [jn, List.drop_zero, List.take_set_of_le (jo j)]
 ·show List.drop _ (List.take _ (l.set j v)) = _
  rw [jn, jn, List.take_length, List.drop_set_of_lt (by omega)]
theorem Xaw (c : Pa) (key at_ : Int) (hk : 0 ≤ key) (hn : (Md c).length ≤ Ea) : To c key at_ = some ((VI c key at_).1, ((VI c key at_).2, ())) := by
 have h20 : Ea = 1048576 := rfl
 have hlim := Ud
 have hl := EA (step := fun x => Jn x.1.1 x.1.2.1 x.1.2.2.1 x.1.2.2.2.1 x.1.2.2.2.2.1 x.2.1) (Md c) (fun (a : Ca) => !(Kd a.2.1 key == 0)) (fun i => (((), key, at_, ((ja (Md c) : Nat) : Int), i, ()), (c, ())))
  (.inl (((), key, at_, ()), (c, ()))) (fun i => .inr (((), XY (Md c) at_ i.toNat, ()), (NaD c (IS (Md c) key i.toNat), ()))) (by
   intro j hj
   simp only [Jn]
   rw [Ba (show (j : Int) < ((ja (Md c) : Nat) : Int) by omega), Fg, Ba hj]
   have hg : (Md c)[jy (j : Int)]? = some (Md c)[j] := by rw [jn, je hj]
   have hgd : (Md c).getD j zEv = (Md c)[j] := by rw [qj, je hj]; rfl
   simp only [hg, cond_true, jb]
   rw [Ml _ hk, Ba hk]
   simp only [jb, cond_true]
   cases hb : Kd (Md c)[j].2.1 key == 0 with
   | true => rfl
   | false =>
    simp only [cond_false, qa, cond_true]
    have hs2 : ∀ v w : Ca, (((Md c).set j v).set j w) = (Md c).set j w := fun v w => List.set_set ..
    have hs3 : ∀ v : Ca, ((Md c).set j v)[jy (j : Int)]? = some v := fun v => by
     rw [jn, qw (by omega)]
    have ht : ∀ (l : List Ca) (v : Ca), l.set (jy (j : Int)) v = l.set j v := fun l v => by rw [jn]
    simp only [hs2, hs3, ht, jb, Jc (show j < 9223372036854775807 by omega), (P3 (Md c) j hj _).1, (P3 (Md c) j hj _).2]
    have hc1 : ∀ v : Ca, Ld (ja ((Md c).set j v)) 0 (j : Int) = true := fun v => Zh (lo := 0) (by omega) (by rw [j9]; omega)
    have hc2 : ∀ v : Ca, Ld (ja ((Md c).set j v)) ((j + 1 : Nat) : Int) ((ja ((Md c).set j v) : Nat) : Int) = true := fun v => Zh (by rw [j9]; omega) (jo _)
    have hb1 : jx (ja ([] : List Ca) + ja ((Md c).take j)) Sa = true := ji (by simp; omega)
    have hb2 : jx (ja (jf ([] : List Ca) ((Md c).take j)) + ja ((Md c).drop (j + 1))) Sa = true := ji (by simp; omega)
    simp only [hc1, hc2, hb1, hb2, cond_true, jn]
    unfold IS XY
    rw [hgd]
    generalize hx : (Md c)[j] = x
    obtain ⟨xo, xl, xd, xu⟩ := x
    cases xd <;> cases Mb .i64 xl (Qa .i64 1 key) == 0 <;> rfl) (by
   simp only [Jn]
   rw [Aa (by omega)]; rfl) (by omega)
 unfold To Gq VI XV
 erw [hl]
 simp only [jb]
 by_cases hc : Qd (fun (a : Ca) => !(Kd a.2.1 key == 0)) 0 (Md c) = -1
 ·rw [if_pos hc, if_pos hc]
  simp only [ql]
  rw [Ba hk]; rfl
 ·rw [if_neg hc, if_neg hc]; rfl
theorem Qax (c : Pa) (key at_ : Int) (hk : 0 ≤ key) (hn : (Md c).length ≤ Ea) : TN c key at_ = some ((VI c key at_).1, ((VI c key at_).2, ())) := by
 have h20 : Ea = 1048576 := rfl
 have hlim := Ud
 have hl := EA (step := fun x => SG x.1.1 x.1.2.1 x.1.2.2.1 x.1.2.2.2.1 x.2.1) (Md c) (fun (a : Ca) => !(Kd a.2.1 key == 0)) (fun i => (((), key, at_, i, ()), (c, ())))
  (.inl (((), key, at_, ()), (c, ()))) (fun i => .inr (((), XY (Md c) at_ i.toNat, ()), (NaD c (IS (Md c) key i.toNat), ()))) (by
   intro j hj
   simp only [SG]
   rw [Ba (show (j : Int) < ((ja (Md c) : Nat) : Int) by omega), Fg, Ba hj]
   have hg : (Md c)[jy (j : Int)]? = some (Md c)[j] := by rw [jn, je hj]
   have hgd : (Md c).getD j zEv = (Md c)[j] := by rw [qj, je hj]; rfl
   simp only [hg, cond_true, jb]
   rw [Ba hk]
   simp only [jb, cond_true]
   show cond (Kd (Md c)[j].2.1 key == 0) _ _ = _
   cases hb : Kd (Md c)[j].2.1 key == 0 with
   | true => rfl
   | false =>
    simp only [cond_false, qa, cond_true]
    have ht : ∀ v : Ca, (Md c).set (jy (j : Int)) v = (Md c).set j v := fun v => by rw [jn]
    simp only [ht, jb, Jc (show j < 9223372036854775807 by omega), (P3 (Md c) j hj _).1, (P3 (Md c) j hj _).2]
    have hc1 : ∀ v : Ca, Ld (ja ((Md c).set j v)) 0 (j : Int) = true := fun v => Zh (lo := 0) (by omega) (by rw [j9]; omega)
    have hc2 : ∀ v : Ca, Ld (ja ((Md c).set j v)) ((j + 1 : Nat) : Int) ((ja ((Md c).set j v) : Nat) : Int) = true := fun v => Zh (by rw [j9]; omega) (jo _)
    have hb1 : jx (ja ([] : List Ca) + ja ((Md c).take j)) Sa = true := ji (by simp; omega)
    have hb2 : jx (ja (jf ([] : List Ca) ((Md c).take j)) + ja ((Md c).drop (j + 1))) Sa = true := ji (by simp; omega)
    have hb3 : ∀ v : Ca, jx (ja ([] : List Ca) + ja [v]) Sa = true := fun v => ji (by rw [hlim]; simp)
    simp only [hc1, hc2, hb1, hb2, hb3, cond_true, jn]
    unfold IS XY
    rw [hgd]
    generalize hx : (Md c)[j] = x
    obtain ⟨xo, xl, xd, xu⟩ := x
    cases xd <;> cases Mb .i64 xl (Qa .i64 1 key) == 0 <;> rfl) (by
   simp only [SG]
   rw [Aa (Int.lt_irrefl _)]; rfl) (by omega)
 unfold TN QH VI XV
 erw [hl]
 simp only [jb]
 by_cases hc : Qd (fun (a : Ca) => !(Kd a.2.1 key == 0)) 0 (Md c) = -1
 ·rw [if_pos hc, if_pos hc]
  simp only [ql]
  rw [Ba hk]; rfl
 ·rw [if_neg hc, if_neg hc]; rfl
theorem AaR (n : Int) : j5 .i64 n ≤ 9223372036854775807 := by
 rw [IntKind.wrap_i64]; omega
theorem CaE (x y : Int) : Mb .i64 x y ≤ 9223372036854775807 := AaR _
theorem Tad (l : List Ca) (at_ : Int) (j : Nat) : (XY l at_ j).length ≤ 1 := by
 unfold XY
 cases (l.getD j zEv).2.2.1 <;> simp
theorem EaV (l : List Ca) (key : Int) (j : Nat) (hx : ∀ x ∈ l, x.2.1 ≤ 9223372036854775807) : (IS l key j).length ≤ l.length ∧ ∀ x ∈ IS l key j, x.2.1 ≤ 9223372036854775807 := by
 unfold IS
 cases Mb .i64 (l.getD j zEv).2.1 (Qa .i64 1 key) == 0 with
 | true =>
  simp only [cond_true, woE]
  refine ⟨by simp; omega, fun x h => ?_⟩
  rcases jl.1 (show x ∈ l.take j ++ l.drop (j + 1) from h) with h | h
  ·exact hx x (List.mem_of_mem_take h)
  ·exact hx x (qt h)
 | false =>
  simp only [cond_false]
  refine ⟨by simp, fun x h => ?_⟩
  rcases List.mem_or_eq_of_mem_set h with h | h
  ·exact hx x h
  ·rw [h]; exact CaE _ _
structure MV (c : Pa) : Prop where
 len : c.2.2.1.length ≤ 64
 ev : ∀ x ∈ c.2.2.1, 0 ≤ x.2.1
 L : c.1.length ≤ 8
 cb : Ih c.1 = true
 r : ∀ x ∈ Md c, x.2.1 ≤ 9223372036854775807
def Bz (c : Pa) (x : Ca) (r : List Ca) : Option (Pa × List Ca) :=
 cond x.2.2.1
  (
   let m := Zi c.1 c.2.1 c.2.2.1 c.2.2.2.1
   cond (m.1 == 0) none
    (cond (decide (m.2.2 < 0))
     (some ((c.1, c.2.1, c.2.2.1.drop m.1.toNat, c.2.2.2.1, max (max c.2.2.2.2.1 x.1) m.2.1, Nc .i64 c.2.2.2.2.2.1 (Qa .i64 1 x.2.1), Md c, ()), [(max (max c.2.2.2.2.1 x.1) m.2.1, x.2.1, true, ())]))
     (some ((c.1, c.2.1, c.2.2.1.drop m.1.toNat, c.2.2.2.1, max (max c.2.2.2.2.1 x.1) m.2.1, c.2.2.2.2.2.1, jf (Md c) [(m.2.2, KY c.1 m.2.2, true, ())], ()), [(max (max c.2.2.2.2.1 x.1) m.2.1, m.2.2, true, ())]))))
  (some (VI (c.1, c.2.1, r, c.2.2.2.1, max c.2.2.2.2.1 x.1, c.2.2.2.2.2) x.2.1 (max c.2.2.2.2.1 x.1)))
def RaK (c : Pa) : Option (Pa × List Ca) → Pa × ((List Ca) × (Bool × Unit))
 | none => (c, ([], false, ()))
 | some (c', l) => (c', (l, true, ()))
theorem WX {α : Type} (l : List α) (n : Nat) : Eb l (jy (n : Int)) (jy ((ja l : Nat) : Int)) = l.drop n := by
 show List.drop _ (List.take _ l) = _
 rw [jn, jn, List.take_length]
theorem Lab {c : Pa} {x : Ca} {r : List Ca} (h : MV c) (hq : c.2.2.1 = x :: r) (ha : (Md c).length ≤ 100000) : Vh c = some (RaK c (Bz c x r)) := by
 have h20 : Ea = 1048576 := rfl
 have hlim := Ud
 have h64 := h.len
 have hl8 := h.L
 have hkx : 0 ≤ x.2.1 := h.ev x (by rw [hq]; simp)
 have hlen : r.length ≤ 64 := by have := h.len; rw [hq] at this; simp at this; omega
 have hc := XS x r hlen
 have i0 : Af (ja (x :: r)) (0 : Int) = true := by rw [show (0 : Int) = ((0 : Nat) : Int) from rfl, Fg]; exact Ba (by simp)
 have g0 : (x :: r)[(jy (0 : Int))]? = some x := rfl
 have hb : jx (ja ([] : List Ca) + ja r) Sa = true := ji (by simp; omega)
 obtain ⟨cL, ct, q, now, clk, dn, act, u⟩ := c
 cases u
 simp only at hq ha h64 hl8
 have ha' : act.length ≤ 100000 := ha
 subst hq
 unfold Vh Bz
 simp only [i0, g0, hc.1, hc.2, hb, cond_true, jb]
 cases x.2.2.1 with
 | false =>
  simp only [qa, cond_true, cond_false]
  show jz (To (cL, ct, r, now, max clk x.1, dn, act, ()) x.2.1 (max clk x.1)) _ = _
  rw [Xaw _ _ _ hkx (by show act.length ≤ Ea; omega)]
  rfl
 | true =>
  simp only [jg, cond_false, cond_true]
  rw [Dae _ _ _ _ (by omega) (by omega)]
  obtain ⟨n, hn, hn2⟩ := B7 cL ct x r now
  simp only [jb]
  cases hm : (Zi cL ct (x :: r) now).1 == 0 with
  | true => rfl
  | false =>
   simp only [cond_false]
   rw [hn, WX, jn, Zh (show n ≤ (x :: r).length by simp; omega) (jo _)]
   have hb2 : jx (ja ([] : List Ca) + ja ((x :: r).drop n)) Sa = true := ji (by rw [qx]; simp only [jw, j8] at h64 ⊢; omega)
   rw [hb2, Ba hkx, QU _ _ (by omega)]
   simp only [cond_true, jb]
   have hb3 : ∀ v : Ca, jx (ja act + ja [v]) Sa = true := fun v => ji (by simp only [jw, j8]; omega)
   simp only [hb3, cond_true]
   cases decide ((Zi cL ct (x :: r) now).2.2 < 0) <;> rfl
theorem Zaa {c c' : Pa} {x : Ca} {r : List Ca} {l : List Ca} (h : MV c) (hq : c.2.2.1 = x :: r) (hs : Bz c x r = some (c', l)) :
 MV c' ∧ c'.2.2.1.length < c.2.2.1.length ∧ (Md c').length ≤ (Md c).length + 1 ∧ l.length ≤ 1 ∧ c'.2.2.2.1 = c.2.2.2.1 := by
 have h64 := h.len
 have hlen : c.2.2.1.length = r.length + 1 := by rw [hq]; rfl
 unfold Bz at hs
 cases hd : x.2.2.1 with
 | false =>
  rw [hd] at hs
  simp only [cond_false, jc] at hs
  have e1 : c' = (VI (c.1, c.2.1, r, c.2.2.2.1, max c.2.2.2.2.1 x.1, c.2.2.2.2.2) x.2.1 (max c.2.2.2.2.1 x.1)).1 := by rw [hs]
  have e2 : l = (VI (c.1, c.2.1, r, c.2.2.2.1, max c.2.2.2.2.1 x.1, c.2.2.2.2.2) x.2.1 (max c.2.2.2.2.1 x.1)).2 := by rw [hs]
  have hr : ∀ y ∈ r, 0 ≤ y.2.1 := fun y hy => h.ev y (by rw [hq]; simp [hy])
  unfold VI at e1 e2
  split at e1
  ·rename_i hc
   rw [if_pos hc] at e2
   subst e1 e2
   exact ⟨⟨by show r.length ≤ 64; omega, hr, h.L, h.cb, h.r⟩, by show r.length < _; omega, by show (Md c).length ≤ _; omega, by simp, rfl⟩
  ·rename_i hc
   rw [if_neg hc] at e2
   have hu := EaV (Md c) x.2.1 (XV (c.1, c.2.1, r, c.2.2.2.1, max c.2.2.2.2.1 x.1, c.2.2.2.2.2) x.2.1).toNat h.r
   subst e1 e2
   refine ⟨⟨by show r.length ≤ 64; omega, hr, h.L, h.cb, hu.2⟩, by show r.length < _; omega, ?_, ?_, rfl⟩
   ·have := hu.1
    show (IS (Md c) _ _).length ≤ _
    omega
   ·exact Tad _ _ _
 | true =>
  rw [hd] at hs
  simp only [cond_true] at hs
  obtain ⟨n, hn, hn2⟩ := B7 c.1 c.2.1 x r c.2.2.2.1
  rw [hq] at hs
  cases hm : (Zi c.1 c.2.1 (x :: r) c.2.2.2.1).1 == 0 with
  | true => rw [hm] at hs; simp at hs
  | false =>
   have hn0 : n ≠ 0 := by intro h0; rw [hn, h0] at hm; simp at hm
   rw [hm, hn, jn] at hs
   have hdl : ((x :: r).drop n).length < r.length + 1 := by rw [qx]; simp only [jw]; omega
   have hde : ∀ y ∈ (x :: r).drop n, 0 ≤ y.2.1 := fun y hy => h.ev y (by rw [hq]; exact qt hy)
   cases h2 : decide ((Zi c.1 c.2.1 (x :: r) c.2.2.2.1).2.2 < 0) with
   | true =>
    rw [h2] at hs
    simp only [cond_true, cond_false, jc, jh] at hs
    obtain ⟨rfl, rfl⟩ := hs
    exact ⟨⟨by show ((x :: r).drop n).length ≤ 64; omega, hde, h.L, h.cb, h.r⟩, by show ((x :: r).drop n).length < _; omega, by show (Md c).length ≤ _; omega, by simp, rfl⟩
   | false =>
    rw [h2] at hs
    simp only [cond_false, jc, jh] at hs
    obtain ⟨rfl, rfl⟩ := hs
    refine ⟨⟨by show ((x :: r).drop n).length ≤ 64; omega, hde, h.L, h.cb, fun y hy => ?_⟩, by show ((x :: r).drop n).length < _; omega, by show (jf (Md c) [_]).length ≤ _; simp, by simp, rfl⟩
    rcases jl.1 (show y ∈ Md c ++ [_] from hy) with hy | hy
    ·exact h.r y hy
    ·rw [qe.1 hy]
     show KY c.1 _ ≤ _
     unfold KY
     cases hf : (Ak c.1 (Zi c.1 c.2.1 (x :: r) c.2.2.2.1).2.2).isSome with
     | true => have := VX h.cb hf; omega
     | false =>
      have e : Ak c.1 (Zi c.1 c.2.1 (x :: r) c.2.2.2.1).2.2 = none := Option.not_isSome_iff_eq_none.1 (by rw [hf]; simp)
      rw [e]
      decide
def Ag : Nat → Pa → List Ca → Pa × List Ca
 | 0, c, o => (c, o)
 | n + 1, c, o => match c.2.2.1 with
  | [] => (c, o)
  | x :: r => match Bz c x r with
   | none => (c, o)
   | some (c', l) => Ag n c' (jf o l)
theorem IZ (z : Pa) : ∀ (n : Nat) (c : Pa) (o : List Ca), MV c → c.2.2.1.length ≤ n → o.length + n ≤ 1000 → (Md c).length + n ≤ 100000 →
 Tf (((), (), o, ()), (z, c, ())) = some (.inl (((), (), (Ag n c o).2, ()), (z, (Ag n c o).1, ())))
 | n, c, o, h, hl, ho, ha => by
  unfold Tf
  cases hq : c.2.2.1 with
  | nil =>
   have e1 : Ag n c o = (c, o) := by
    cases n with
    | zero => rfl
    | succ n => simp only [Ag, hq]
   have hstep : Kg () () o z c = some (.inr (.inl (((), (), o, ()), (z, c, ())))) := by
    unfold Kg
    rw [Aa (by rw [hq]; simp)]; rfl
   erw [Bd hstep]
   rw [e1]; rfl
  | cons x r =>
   have hlen : c.2.2.1.length = r.length + 1 := by rw [hq]; rfl
   cases n with
   | zero => omega
   | succ n =>
    have e1 : Ag (n + 1) c o = match Bz c x r with
     | none => (c, o)
     | some (c', l) => Ag n c' (jf o l) := by simp only [Ag, hq]
    rw [e1]
    have hp := Lab h hq (by omega)
    cases hst : Bz c x r with
    | none =>
     have hstep : Kg () () o z c = some (.inr (.inl (((), (), o, ()), (z, c, ())))) := by
      unfold Kg
      rw [Ba (by rw [hlen]; omega)]
      show (jz (Vh c) _) = _
      rw [hp, hst]; rfl
     erw [Bd hstep]; rfl
    | some p =>
     obtain ⟨c', l⟩ := p
     have hn := Zaa h hq hst
     have hstep : Kg () () o z c = some (.inl (((), (), jf o l, ()), (z, c', ()))) := by
      unfold Kg
      rw [Ba (by rw [hlen]; omega)]
      show (jz (Vh c) _) = _
      rw [hp, hst]
      have hb : jx (ja o + ja l) Sa = true := ji (by rw [Ud]; omega)
      simp only [RaK, jb, jg, cond_false, hb, cond_true]
     erw [Bd hstep]
     have ih := IZ z n c' (jf o l) hn.1 (by omega) (by
      have : (jf o l).length = o.length + l.length := by simp
      omega) (by omega)
     unfold Tf at ih
     exact ih
theorem Xbe (c : Pa) (q : List Ca) (clk : Int) (key at_ : Int) :
 VI (c.1, c.2.1, q, c.2.2.2.1, clk, c.2.2.2.2.2) key at_ = (((VI c key at_).1.1, (VI c key at_).1.2.1, q, (VI c key at_).1.2.2.2.1, clk, (VI c key at_).1.2.2.2.2.2), (VI c key at_).2) := by
 have hi : XV (c.1, c.2.1, q, c.2.2.2.1, clk, c.2.2.2.2.2) key = XV c key := rfl
 unfold VI
 rw [hi]
 by_cases h : XV c key = -1
 ·rw [if_pos h, if_pos h]
 ·rw [if_neg h, if_neg h]
theorem DaV (c : Pa) (key at_ : Int) : (VI c key at_).1.2.2.1 = c.2.2.1 ∧ (VI c key at_).2.length ≤ 1 := by
 unfold VI
 by_cases h : XV c key = -1
 ·rw [if_pos h]; exact ⟨rfl, by simp⟩
 ·rw [if_neg h]; exact ⟨rfl, Tad _ _ _⟩
theorem Gac {c : Pa} {x : Ca} {r : List Ca} (o : List Ca) (h : MV c) (hq : c.2.2.1 = x :: r) (ha : (Md c).length ≤ 100000) (ho : o.length ≤ 1000) :
 Ks () o c = some (match Bz c x r with
  | none => .inr (.inr (((), o, ()), (c, ())))
  | some (c', l) => .inl (((), jf o l, ()), (c', ()))) := by
 have h20 : Ea = 1048576 := rfl
 have hlim := Ud
 have h64 := h.len
 have hl8 := h.L
 have hkx : 0 ≤ x.2.1 := h.ev x (by rw [hq]; simp)
 have hlen : r.length ≤ 64 := by have := h.len; rw [hq] at this; simp at this; omega
 have hc := XS x r hlen
 have i0 : Af (ja (x :: r)) (0 : Int) = true := by rw [show (0 : Int) = ((0 : Nat) : Int) from rfl, Fg]; exact Ba (by simp)
 have g0 : (x :: r)[(jy (0 : Int))]? = some x := rfl
 have hb : jx (ja ([] : List Ca) + ja r) Sa = true := ji (by simp; omega)
 have ho1 : ∀ v : Ca, jx (ja o + ja [v]) Sa = true := fun v => ji (by simp only [jw, j8]; omega)
 obtain ⟨cL, ct, q, now, clk, dn, act, u⟩ := c
 cases u
 simp only at hq ha h64 hl8
 have ha' : act.length ≤ 100000 := ha
 subst hq
 unfold Ks Bz
 have hgt : decide (((ja (x :: r) : Nat) : Int) > 0) = true := Ba (by simp only [jw]; omega)
 simp only [hgt, i0, g0, cond_true, jb]
 cases hd : x.2.2.1 with
 | false =>
  simp only [cond_false]
  show jz (TN (cL, ct, x :: r, now, clk, dn, act, ()) x.2.1 (max clk x.1)) _ = _
  rw [Qax _ _ _ hkx (by show act.length ≤ Ea; omega)]
  have hu := DaV (cL, ct, x :: r, now, clk, dn, act, ()) x.2.1 (max clk x.1)
  have hu2 := Xbe (cL, ct, x :: r, now, clk, dn, act, ()) r (max clk x.1) x.2.1 (max clk x.1)
  simp only at hu hu2
  have hb2 : jx (ja o + ja (VI (cL, ct, x :: r, now, clk, dn, act, ()) x.2.1 (max clk x.1)).2) Sa = true := ji (by have := hu.2; omega)
  simp only [jb, hb2, hu.1, hc.1, hc.2, hb, cond_true, hu2]
  rfl
 | true =>
  simp only [cond_true]
  rw [Rae _ _ _ _ (by omega) (by omega)]
  obtain ⟨n, hn, hn2⟩ := B7 cL ct x r now
  simp only [jb]
  cases hm : (Zi cL ct (x :: r) now).1 == 0 with
  | true => rfl
  | false =>
   simp only [cond_false]
   rw [hn, WX, jn, Zh (show n ≤ (x :: r).length by simp; omega) (jo _)]
   have hb2 : jx (ja ([] : List Ca) + ja ((x :: r).drop n)) Sa = true := ji (by rw [qx]; simp only [jw, j8] at h64 ⊢; omega)
   rw [hb2, Ba hkx, GV _ _ (by omega)]
   have hb3 : ∀ v : Ca, jx (ja (jf ([] : List Ca) act) + ja [v]) Sa = true := fun v => ji (by show act.length + _ ≤ Sa; simp only [jw, j8]; omega)
   have hb4 : jx (ja ([] : List Ca) + ja act) Sa = true := ji (by simp only [j8]; omega)
   simp only [hb3, hb4, ho1, cond_true, jb]
   have e1 : decide ((Zi cL ct (x :: r) now).2.2 ≥ 0) = !decide ((Zi cL ct (x :: r) now).2.2 < 0) := by
    rw [qy]; simp only [decide_eq_true_eq, Bool.not_eq_true', decide_eq_false_iff_not]; omega
   rw [e1]
   cases decide ((Zi cL ct (x :: r) now).2.2 < 0) <;> rfl
theorem LZ : ∀ (n : Nat) (c : Pa) (o : List Ca), MV c → c.2.2.1.length ≤ n → o.length + n ≤ 1000 → (Md c).length + n ≤ 100000 →
 Uj (((), o, ()), (c, ())) = some (.inl (((), (Ag n c o).2, ()), ((Ag n c o).1, ()))) ∨ Uj (((), o, ()), (c, ())) = some (.inr (((), (Ag n c o).2, ()), ((Ag n c o).1, ())))
 | n, c, o, h, hl, ho, ha => by
  unfold Uj
  cases hq : c.2.2.1 with
  | nil =>
   have e1 : Ag n c o = (c, o) := by
    cases n with
    | zero => rfl
    | succ n => simp only [Ag, hq]
   have hstep : Ks () o c = some (.inr (.inl (((), o, ()), (c, ())))) := by
    unfold Ks
    rw [Aa (by rw [hq]; simp)]; rfl
   refine .inl ?_
   erw [Bd hstep]
   rw [e1]; rfl
  | cons x r =>
   have hlen : c.2.2.1.length = r.length + 1 := by rw [hq]; rfl
   cases n with
   | zero => omega
   | succ n =>
    have e1 : Ag (n + 1) c o = match Bz c x r with
     | none => (c, o)
     | some (c', l) => Ag n c' (jf o l) := by simp only [Ag, hq]
    rw [e1]
    have hp := Gac o h hq (by omega) (by omega)
    cases hst : Bz c x r with
    | none =>
     rw [hst] at hp
     refine .inr ?_
     erw [Bd hp]; rfl
    | some p =>
     obtain ⟨c', l⟩ := p
     have hn := Zaa h hq hst
     rw [hst] at hp
     erw [Bd hp]
     have ih := LZ n c' (jf o l) hn.1 (by omega) (by
      have : (jf o l).length = o.length + l.length := by simp
      omega) (by omega)
     unfold Uj at ih
     exact ih
theorem O8 : ∀ (n : Nat) (c : Pa) (o : List Ca), MV c → MV (Ag n c o).1 ∧ (Md (Ag n c o).1).length ≤ (Md c).length + n ∧ (Ag n c o).2.length ≤ o.length + n
 | 0, c, o, h => ⟨h, by show (Md c).length ≤ _; omega, by show o.length ≤ _; omega⟩
 | n + 1, c, o, h => by
  cases hq : c.2.2.1 with
  | nil =>
   have e : Ag (n + 1) c o = (c, o) := by simp only [Ag, hq]
   rw [e]; exact ⟨h, by show (Md c).length ≤ _; omega, by show o.length ≤ _; omega⟩
  | cons x r =>
   cases hst : Bz c x r with
   | none =>
    have e : Ag (n + 1) c o = (c, o) := by simp only [Ag, hq, hst]
    rw [e]; exact ⟨h, by show (Md c).length ≤ _; omega, by show o.length ≤ _; omega⟩
   | some p =>
    obtain ⟨c', l⟩ := p
    have e : Ag (n + 1) c o = Ag n c' (jf o l) := by simp only [Ag, hq, hst]
    have hn := Zaa h hq hst
    have ih := O8 n c' (jf o l) hn.1
    have e2 : (jf o l).length = o.length + l.length := by simp
    rw [e]
    exact ⟨ih.1, by omega, by omega⟩
def zCb : Pa := (([] : List Wa), (0 : Int), ([] : List Ca), (0 : Int), (0 : Int), (0 : Int), ([] : List Ca), ())
def BA (c : Pa) (l : List Ca) (til : Int) : Bool :=
 Zd c && (decide (c.2.2.2.1 ≤ til ∧ til ≤ 1000000) && (Lg l c.2.2.2.1 && (Rf l til && Rd (jf c.2.2.1 l) (Cm c) 24)))
def JU (c : Pa) (l : List Ca) (til : Int) : Pa := (c.1, c.2.1, jf c.2.2.1 l, til, c.2.2.2.2)
def GM (c : Pa) (l : List Ca) (til : Int) : Pa × ((List Ca) × (Bool × Unit)) :=
 cond (BA c l til) ((Ag 64 (JU c l til) []).1, (Ag 64 (JU c l til) []).2, true, ()) (zCb, [], false, ())
theorem EaB {l : List Ca} (h : ∀ x ∈ l, 0 ≤ x.1 ∧ x.1 ≤ 31) (hp : (l.map fun x => x.1.toNat).Nodup) : l.length ≤ 32 := by
 have := D7 32 (l.map fun x => x.1.toNat) hp (by
  intro y hy
  obtain ⟨x, hx, rfl⟩ := qv.1 hy
  have := h x hx
  omega)
 rwa [List.length_map] at this
theorem Tac {L : List Wa} : ∀ {l pre : List Ca}, VH L pre l = true → (∀ x ∈ l, 0 ≤ x.1) → (∀ x ∈ pre, 0 ≤ x.1) → (pre.map fun x => x.1.toNat).Nodup → ((pre ++ l).map fun x => x.1.toNat).Nodup
 | [], pre, _, _, _, hn => by simpa using hn
 | x :: l, pre, h, hx, hpre, hn => by
  simp only [VH, jd] at h
  have hne : NE pre x = true := h.1.2
  have := Tac (l := l) (pre := pre ++ [x]) h.2 (fun y hy => hx y (by simp [hy])) (fun y hy => by
   rcases jl.1 hy with hy | hy
   ·exact hpre y hy
   ·rw [qe.1 hy]; exact hx x (by simp)) (by
   rw [List.map_append, List.nodup_append]
   refine ⟨hn, by simp, ?_⟩
   intro a ha b hb hab
   obtain ⟨y, hy, rfl⟩ := qv.1 ha
   simp only [List.map_cons, List.map_nil, qe] at hb
   subst hb
   have h1 := (O5 (p := fun y : Ca => !(y.1 == x.1))).1 hne y hy
   simp only [Bool.not_eq_true', beq_eq_false_iff_ne] at h1
   have := hpre y hy
   have := hx x (by simp)
   omega)
  simpa using this
theorem Vaa {c : Pa} (h : Zd c = true) : (Md c).length ≤ 32 := by
 have ha := ZI h
 refine EaB (fun x hx => ⟨(ha x hx).lo, (ha x hx).hi⟩) ?_
 simp only [Zd, jd] at h
 have := Tac (pre := []) (l := Md c) h.2.2.2.2.1.2.1 (fun x hx => (ha x hx).lo) (by simp) (by simp)
 simpa using this
theorem Jah {c : Pa} {l : List Ca} {til : Int} (hz : Bj c) (hc : Zd c = true) (hf : Rd (jf c.2.2.1 l) (Cm c) 24 = true) : MV (JU c l til) := by
 have h1 : Ih c.1 = true := by simp only [Zd, jd] at hc; exact hc.1
 have h2 : c.1.length ≤ 8 := by simp only [Ih, jd, decide_eq_true_eq] at h1; exact h1.1
 refine ⟨QO hf, fun x hx => ?_, h2, h1, hz.r⟩
 have := Kk (BY (I6 hf) x hx)
 omega
theorem D9 (c : Pa) (l : List Ca) (til : Int) (hz : Bj c) (hl : l.length ≤ 1000000) : Xq c l til = some (GM c l til) := by
 have h20 : Ea = 1048576 := rfl
 have hzq := hz.q
 have hze := hz.e
 have hlapp : (jf c.2.2.1 l).length = c.2.2.1.length + l.length := by simp
 have hlim : jx (ja c.2.2.1 + ja l) Sa = true := ji (by rw [Ud]; omega)
 unfold Xq GM
 rw [PQ _ hz, Zt _ _ (by omega), HY _ hz, Px _ hz.e]
 cases hd : Zd c with
 | false => rw [show BA c l til = false by unfold BA; rw [hd]; rfl]; rfl
 | true =>
  have hsw : swB c = true := by simp only [Zd, jd] at hd; exact hd.2.2.2.2.1.2.2
  have h64 : c.2.2.1.length ≤ 64 := by
   simp only [Zd, jd] at hd
   exact QO hd.2.2.2.2.2.1
  simp only [jb, jg, cond_false, hlim, cond_true, hsw]
  rw [Au _ _ _ (by rw [hlapp]; omega)]
  simp only [jb]
  have key : ∀ (K : Option (Pa × ((List Ca) × (Bool × Unit)))), (Rd (jf c.2.2.1 l) (Cm c) 24 = true → K = some ((Ag 64 (JU c l til) []).1, (Ag 64 (JU c l til) []).2, true, ())) →
   (cond (decide (til < c.2.2.2.1)) (some (zCb, [], false, ())) (cond (decide (til > 1000000)) (some (zCb, [], false, ())) (cond (!Lg l c.2.2.2.1) (some (zCb, [], false, ())) (cond (!Rf l til) (some (zCb, [], false, ())) (cond (!Rd (jf c.2.2.1 l) (Cm c) 24) (some (zCb, [], false, ())) K))))) =
   some (cond (BA c l til) ((Ag 64 (JU c l til) []).1, (Ag 64 (JU c l til) []).2, true, ()) (zCb, [], false, ())) := by
   intro K hK
   unfold BA
   rw [hd]
   by_cases h1 : til < c.2.2.2.1
   ·rw [Ba h1, Aa (show ¬ (c.2.2.2.1 ≤ til ∧ til ≤ 1000000) by omega)]; rfl
   ·by_cases h2 : til > 1000000
    ·rw [Aa h1, Ba h2, Aa (show ¬ (c.2.2.2.1 ≤ til ∧ til ≤ 1000000) by omega)]; rfl
    ·rw [Aa h1, Aa h2, Ba (show (c.2.2.2.1 ≤ til ∧ til ≤ 1000000) by omega)]
     cases Lg l c.2.2.2.1 with
     | false => rfl
     | true =>
      cases Rf l til with
      | false => rfl
      | true =>
       cases hq : Rd (jf c.2.2.1 l) (Cm c) 24 with
       | false => rfl
       | true => exact hK hq
  have hrun : Rd (jf c.2.2.1 l) (Cm c) 24 = true → ∀ z : Pa, Tf (((), (), ([] : List Ca), ()), (z, (c.1, c.2.1, jf c.2.2.1 l, til, c.2.2.2.2), ())) = some (.inl (((), (), (Ag 64 (JU c l til) []).2, ()), (z, (Ag 64 (JU c l til) []).1, ()))) := by
   intro hq z
   have h1 := Jah (til := til) hz hd hq
   have h2 := h1.len
   have h3 := Vaa hd
   exact IZ z 64 (JU c l til) [] h1 h2 (by simp) (by show (Md c).length + 64 ≤ _; omega)
  by_cases h0 : l.length = 0
  ·have hna : Lg l c.2.2.2.1 = true := by unfold Lg; rw [h0]; rfl
   rw [Aa (show ¬ ((ja l : Nat) : Int) > 0 by omega)]
   simp only [cond_false]
   simp only [hna, jg, cond_false] at key
   exact key _ (fun hq => by rw [hrun hq]; rfl)
  ·obtain ⟨x, hx, hx1⟩ := FY (l := l) (by omega)
   have hna : Lg l c.2.2.2.1 = !decide (x.1 < c.2.2.2.1) := by
    unfold Lg
    rw [show ((l.length : Int) == 0) = false by simp; intro h; rw [h] at h0; simp at h0, hx1]; rfl
   rw [Ba (show ((ja l : Nat) : Int) > 0 by omega), hx]
   simp only [cond_true, jb]
   simp only [hna, Bool.not_not] at key
   exact key _ (fun hq => by rw [hrun hq]; rfl)
theorem Iac (c : Pa) (h : MV c) (ha : (Md c).length ≤ 32) : IA c = some ((Ag 64 c []).1, ((Ag 64 c []).2, ())) := by
 unfold IA
 rcases LZ 64 c [] h h.len (by simp) (by omega) with h1 | h1 <;> (rw [h1]; rfl)
theorem Baa (c : Pa) (l : List Ca) (til : Int) (hz : Bj c) (hl : l.length ≤ 1000000) : As c l til = some (GM c l til) := by
 have h20 : Ea = 1048576 := rfl
 have hzq := hz.q
 have hze := hz.e
 have hlapp : (jf c.2.2.1 l).length = c.2.2.1.length + l.length := by simp
 have hn : jf ([] : List Ca) c.2.2.1 = c.2.2.1 := rfl
 have hlim : jx (ja c.2.2.1 + ja l) Sa = true := ji (by rw [Ud]; omega)
 have hlim2 : jx (ja ([] : List Ca) + ja c.2.2.1) Sa = true := ji (by rw [Ud]; simp; omega)
 unfold As GM
 rw [hn, hlim, hlim2, ZQ _ hz, Mc, Gaa _ hz, SN _ hz.e]
 simp only [cond_true]
 cases hd : Zd c with
 | false => rw [show BA c l til = false by unfold BA; rw [hd]; rfl]; rfl
 | true =>
  have h64 : c.2.2.1.length ≤ 64 := by
   simp only [Zd, jd] at hd
   exact QO hd.2.2.2.2.2.1
  simp only [jb, jg, cond_false]
  rw [Is _ _ _ (by rw [hlapp]; omega)]
  simp only [jb]
  unfold BA
  rw [hd]
  cases decide (c.2.2.2.1 ≤ til ∧ til ≤ 1000000) with
  | false => rfl
  | true =>
   cases hq : Rd (jf c.2.2.1 l) (Cm c) 24 with
   | false => simp only [Bool.and_false]; rfl
   | true =>
    have hrun : IA (c.1, c.2.1, jf c.2.2.1 l, til, c.2.2.2.2) = _ := Iac (JU c l til) (Jah hz hd hq) (show (Md c).length ≤ 32 from Vaa hd)
    simp only [jg, cond_false, jk, Bool.and_true]
    rw [hrun]
    by_cases h0 : l.length = 0
    ·rw [Aa (show ¬ ((ja l : Nat) : Int) > 0 by omega)]
     rw [show Lg l c.2.2.2.1 = true by unfold Lg; rw [h0]; rfl, show Rf l til = true by unfold Rf; rw [h0]; rfl]
     rfl
    ·obtain ⟨x, hx, hx1⟩ := FY (l := l) (by omega)
     obtain ⟨y, hy, hy1⟩ := BT (l := l) (by omega) (by omega)
     rw [Ba (show ((ja l : Nat) : Int) > 0 by omega), hx, hy]
     simp only [cond_true, jb]
     have e0 : ((l.length : Int) == 0) = false := by simp; intro h; rw [h] at h0; simp at h0
     rw [show Lg l c.2.2.2.1 = !decide (x.1 < c.2.2.2.1) by unfold Lg; rw [e0, hx1]; rfl]
     rw [show Rf l til = !decide (y.1 > til) by
      unfold Rf; rw [e0, hy1]
      rw [Bool.false_or, qy]; simp only [decide_eq_true_eq, Bool.not_eq_true', decide_eq_false_iff_not]; omega]
     cases decide (x.1 < c.2.2.2.1) <;> cases decide (y.1 > til) <;> rfl
def IV (w : Nat → Nat) (t : Nat) : Nat := ((cond (t.testBit 0) (w 0) 0) ||| (cond (t.testBit 1) (w 1) 0)) ||| ((cond (t.testBit 2) (w 2) 0) ||| (cond (t.testBit 3) (w 3) 0))
theorem EaC (w : Nat → Nat) (s t : Nat) : IV w (s ||| t) = IV w s ||| IV w t := by
 apply Nat.eq_of_testBit_eq
 intro i
 simp only [IV, Nat.testBit_or]
 cases s.testBit 0 <;> cases s.testBit 1 <;> cases s.testBit 2 <;> cases s.testBit 3 <;> cases t.testBit 0 <;> cases t.testBit 1 <;> cases t.testBit 2 <;> cases t.testBit 3 <;>
  simp only [Bool.or_true, Bool.true_or, Bool.or_false, Bool.false_or, cond_true, cond_false, Nat.zero_testBit] <;>
  cases (w 0).testBit i <;> cases (w 1).testBit i <;> cases (w 2).testBit i <;> cases (w 3).testBit i <;> rfl
def tri (i j : Nat) : Nat := if i ≤ j then j * (j + 1) / 2 + i else i * (i + 1) / 2 + j
def AL (e i j : Nat) : Bool := e.testBit (tri i j)
def J3 (e s t : Nat) : Bool :=
 (s.testBit 0 && (t.testBit 0 && AL e 0 0 || t.testBit 1 && AL e 0 1 || (t.testBit 2 && AL e 0 2 || t.testBit 3 && AL e 0 3)) || s.testBit 1 && (t.testBit 0 && AL e 1 0 || t.testBit 1 && AL e 1 1 || (t.testBit 2 && AL e 1 2 || t.testBit 3 && AL e 1 3))) ||
 (s.testBit 2 && (t.testBit 0 && AL e 2 0 || t.testBit 1 && AL e 2 1 || (t.testBit 2 && AL e 2 2 || t.testBit 3 && AL e 2 3)) || s.testBit 3 && (t.testBit 0 && AL e 3 0 || t.testBit 1 && AL e 3 1 || (t.testBit 2 && AL e 3 2 || t.testBit 3 && AL e 3 3)))
def Rax (e a b s : Nat) : Nat := cond (J3 e (rowN 4 s a) (rowN 4 s b)) (s ||| rowN 4 s b <<< (a * 4)) s
def a3 (e a : Nat) : Nat → Nat → Nat := fun b s => Rax e a b s
def a2 (e R : Nat) : Nat → Nat → Nat := fun a s => Ye (a3 e a) R s
def a1 (e R : Nat) : Nat → Nat → Nat := fun _ s => Ye (a2 e R) R s
def QY (e R : Nat) : Nat := Ye (a1 e R) R 33825
def KS (e R s : Nat) : Bool := (List.range R).all fun a => (List.range R).all fun b => !J3 e (rowN 4 s a) (rowN 4 s b) || (rowN 4 s a ||| rowN 4 s b == rowN 4 s a)
theorem GaL : ∀ e : Fin 2, KS e.val 1 (QY e.val 1) = true := by decide +kernel
theorem HaL : ∀ e : Fin 8, KS e.val 2 (QY e.val 2) = true := by decide +kernel
theorem IaL : ∀ e : Fin 64, KS e.val 3 (QY e.val 3) = true := by decide +kernel
theorem JaL : ∀ e : Fin 1024, KS e.val 4 (QY e.val 4) = true := by decide +kernel
theorem Aaw {e R : Nat} (he : e < 2 ^ (R * (R + 1) / 2)) (h1 : 1 ≤ R) (h4 : R ≤ 4) : KS e R (QY e R) = true := by
 have : R = 1 ∨ R = 2 ∨ R = 3 ∨ R = 4 := by omega
 rcases this with rfl | rfl | rfl | rfl
 ·exact GaL ⟨e, he⟩
 ·exact HaL ⟨e, he⟩
 ·exact IaL ⟨e, he⟩
 ·exact JaL ⟨e, he⟩
theorem MX (x y : Nat) : (x &&& y != 0) = true ↔ ∃ k, x.testBit k = true ∧ y.testBit k = true := by
 rw [bne_iff_ne]
 constructor
 ·intro h
  obtain ⟨k, hk⟩ := Nat.exists_testBit_of_ne_zero h
  rw [Nat.testBit_and, jd] at hk
  exact ⟨k, hk⟩
 ·rintro ⟨k, h1, h2⟩ h0
  have : (x &&& y).testBit k = true := by rw [Nat.testBit_and, h1, h2]; rfl
  rw [h0, Nat.zero_testBit] at this
  exact absurd this (by decide)
theorem R3 (w : Nat → Nat) (t k : Nat) : (IV w t).testBit k = true ↔ ∃ i, i < 4 ∧ t.testBit i = true ∧ (w i).testBit k = true := by
 have e : (IV w t).testBit k = ((t.testBit 0 && (w 0).testBit k || t.testBit 1 && (w 1).testBit k) || (t.testBit 2 && (w 2).testBit k || t.testBit 3 && (w 3).testBit k)) := by
  simp only [IV, Nat.testBit_or]
  cases t.testBit 0 <;> cases t.testBit 1 <;> cases t.testBit 2 <;> cases t.testBit 3 <;> simp
 rw [e]
 simp only [Bool.or_eq_true, jd]
 constructor
 ·rintro ((h | h) | (h | h))
  ·exact ⟨0, by omega, h⟩
  ·exact ⟨1, by omega, h⟩
  ·exact ⟨2, by omega, h⟩
  ·exact ⟨3, by omega, h⟩
 ·rintro ⟨i, hi, h⟩
  have : i = 0 ∨ i = 1 ∨ i = 2 ∨ i = 3 := by omega
  rcases this with rfl | rfl | rfl | rfl
  ·exact .inl (.inl h)
  ·exact .inl (.inr h)
  ·exact .inr (.inl h)
  ·exact .inr (.inr h)
theorem DaB (e s t : Nat) : J3 e s t = true ↔ ∃ i j, i < 4 ∧ j < 4 ∧ s.testBit i = true ∧ t.testBit j = true ∧ AL e i j = true := by
 have h4 : ∀ p : Nat → Prop, (∃ i, i < 4 ∧ p i) ↔ ((p 0 ∨ p 1) ∨ (p 2 ∨ p 3)) := by
  intro p
  constructor
  ·rintro ⟨i, hi, h⟩
   have : i = 0 ∨ i = 1 ∨ i = 2 ∨ i = 3 := by omega
   rcases this with rfl | rfl | rfl | rfl
   ·exact .inl (.inl h)
   ·exact .inl (.inr h)
   ·exact .inr (.inl h)
   ·exact .inr (.inr h)
  ·rintro ((h | h) | (h | h))
   ·exact ⟨0, by omega, h⟩
   ·exact ⟨1, by omega, h⟩
   ·exact ⟨2, by omega, h⟩
   ·exact ⟨3, by omega, h⟩
 have h5 : (∃ i j, i < 4 ∧ j < 4 ∧ s.testBit i = true ∧ t.testBit j = true ∧ AL e i j = true) ↔ ∃ i, i < 4 ∧ (s.testBit i = true ∧ ∃ j, j < 4 ∧ (t.testBit j = true ∧ AL e i j = true)) := by
  constructor
  ·rintro ⟨i, j, a, b, c, d, f⟩; exact ⟨i, a, c, j, b, d, f⟩
  ·rintro ⟨i, a, c, j, b, d, f⟩; exact ⟨i, j, a, b, c, d, f⟩
 rw [h5, h4]
 simp only [h4]
 simp only [J3, Bool.or_eq_true, jd]
def Uw (w : Nat → Nat) : Nat :=
 ((cond (w 0 &&& w 0 != 0) 1 0) ||| (cond (w 0 &&& w 1 != 0) 2 0) ||| (cond (w 1 &&& w 1 != 0) 4 0) ||| (cond (w 0 &&& w 2 != 0) 8 0) ||| (cond (w 1 &&& w 2 != 0) 16 0)) |||
 ((cond (w 2 &&& w 2 != 0) 32 0) ||| (cond (w 0 &&& w 3 != 0) 64 0) ||| (cond (w 1 &&& w 3 != 0) 128 0) ||| (cond (w 2 &&& w 3 != 0) 256 0) ||| (cond (w 3 &&& w 3 != 0) 512 0))
theorem K8 (w : Nat → Nat) : ∀ i j, i < 4 → j < 4 → AL (Uw w) i j = (w i &&& w j != 0) := by
 have hc : ∀ i j, (w i &&& w j != 0) = (w j &&& w i != 0) := fun i j => by rw [Nat.and_comm]
 have key : ∀ b0 b1 b2 b3 b4 b5 b6 b7 b8 b9 : Bool,
  (let e := ((cond b0 1 0) ||| (cond b1 2 0) ||| (cond b2 4 0) ||| (cond b3 8 0) ||| (cond b4 16 0)) |||
 ((cond b5 32 0) ||| (cond b6 64 0) ||| (cond b7 128 0) ||| (cond b8 256 0) ||| (cond b9 512 0))
  e.testBit 0 = b0 ∧ e.testBit 1 = b1 ∧ e.testBit 2 = b2 ∧ e.testBit 3 = b3 ∧ e.testBit 4 = b4 ∧ e.testBit 5 = b5 ∧ e.testBit 6 = b6 ∧ e.testBit 7 = b7 ∧ e.testBit 8 = b8 ∧ e.testBit 9 = b9) := by decide +kernel
 have := key (w 0 &&& w 0 != 0) (w 0 &&& w 1 != 0) (w 1 &&& w 1 != 0) (w 0 &&& w 2 != 0) (w 1 &&& w 2 != 0) (w 2 &&& w 2 != 0) (w 0 &&& w 3 != 0) (w 1 &&& w 3 != 0) (w 2 &&& w 3 != 0) (w 3 &&& w 3 != 0)
 obtain ⟨h0, h1, h2, h3, h4, h5, h6, h7, h8, h9⟩ := this
 intro i j hi hj
 have i4 : i = 0 ∨ i = 1 ∨ i = 2 ∨ i = 3 := by omega
 have j4 : j = 0 ∨ j = 1 ∨ j = 2 ∨ j = 3 := by omega
 rcases i4 with rfl | rfl | rfl | rfl <;> rcases j4 with rfl | rfl | rfl | rfl
 ·exact h0
 ·exact h1
 ·exact h3
 ·exact h6
 ·rw [hc]; exact h1
 ·exact h2
 ·exact h4
 ·exact h7
 ·rw [hc]; exact h3
 ·rw [hc]; exact h4
 ·exact h5
 ·exact h8
 ·rw [hc]; exact h6
 ·rw [hc]; exact h7
 ·rw [hc]; exact h8
 ·exact h9
theorem IaD (w : Nat → Nat) {R : Nat} (h1 : 1 ≤ R) (h4 : R ≤ 4) (hw : ∀ i, R ≤ i → w i = 0) : Uw w < 2 ^ (R * (R + 1) / 2) := by
 have k1 : ∀ b : Bool, cond b 1 0 < 2 := by decide
 have k2 : ∀ b0 b1 b2 : Bool, (cond b0 1 0 ||| cond b1 2 0 ||| cond b2 4 0) < 8 := by decide
 have k3 : ∀ b0 b1 b2 b3 b4 b5 : Bool, ((cond b0 1 0 ||| cond b1 2 0 ||| cond b2 4 0 ||| cond b3 8 0 ||| cond b4 16 0) ||| cond b5 32 0) < 64 := by decide +kernel
 have k4 : ∀ b0 b1 b2 b3 b4 b5 b6 b7 b8 b9 : Bool, ((((cond b0 1 0) ||| (cond b1 2 0) ||| (cond b2 4 0) ||| (cond b3 8 0) ||| (cond b4 16 0)) |||  ((cond b5 32 0) ||| (cond b6 64 0) ||| (cond b7 128 0) ||| (cond b8 256 0) ||| (cond b9 512 0))) < 1024) := by decide +kernel
 have : R = 1 ∨ R = 2 ∨ R = 3 ∨ R = 4 := by omega
 rcases this with rfl | rfl | rfl | rfl
 ·have := k1 (w 0 &&& w 0 != 0)
  simpa [Uw, hw 1 (by omega), hw 2 (by omega), hw 3 (by omega)] using this
 ·have := k2 (w 0 &&& w 0 != 0) (w 0 &&& w 1 != 0) (w 1 &&& w 1 != 0)
  simpa [Uw, hw 2 (by omega), hw 3 (by omega)] using this
 ·have := k3 (w 0 &&& w 0 != 0) (w 0 &&& w 1 != 0) (w 1 &&& w 1 != 0) (w 0 &&& w 2 != 0) (w 1 &&& w 2 != 0) (w 2 &&& w 2 != 0)
  simpa [Uw, hw 3 (by omega)] using this
 ·exact k4 _ _ _ _ _ _ _ _ _ _
theorem Iad (w : Nat → Nat) (s t : Nat) : (IV w s &&& IV w t != 0) = J3 (Uw w) s t := by
 rw [qy, MX, DaB]
 constructor
 ·rintro ⟨k, h1, h2⟩
  obtain ⟨i, hi, a, b⟩ := (R3 w s k).1 h1
  obtain ⟨j, hj, c, d⟩ := (R3 w t k).1 h2
  refine ⟨i, j, hi, hj, a, c, ?_⟩
  rw [K8 w i j hi hj, MX]
  exact ⟨k, b, d⟩
 ·rintro ⟨i, j, hi, hj, a, c, h⟩
  rw [K8 w i j hi hj, MX] at h
  obtain ⟨k, b, d⟩ := h
  exact ⟨k, (R3 w s k).2 ⟨i, hi, a, b⟩, (R3 w t k).2 ⟨j, hj, c, d⟩⟩
def HO (w : Nat → Nat) (C R m s : Nat) : Prop := ∀ r, r < R → rowN C m r = IV w (rowN 4 s r)
theorem JY {S T : Type} {g : Nat → S → S} {h : Nat → T → T} {p : S → T → Prop} {n : Nat} {s0 : S} {t0 : T} (h0 : p s0 t0) (hs : ∀ k s t, k < n → p s t → p (g k s) (h k t)) : ∀ k, k ≤ n → p (Ye g k s0) (Ye h k t0)
 | 0, _ => h0
 | k + 1, hk => hs k _ _ (by omega) (JY h0 hs k (by omega))
theorem GaF {w : Nat → Nat} {C R m s a b : Nat} (ha : a < R) (hb : b < R) (h : HO w C R m s) : HO w C R (Xy C a b m) (Rax (Uw w) a b s) := by
 unfold Xy Rax
 rw [h a ha, h b hb, Iad]
 cases J3 (Uw w) (rowN 4 s a) (rowN 4 s b) with
 | false => exact h
 | true =>
  simp only [cond_true]
  intro r hr
  rw [Qaj C m a _ r (by rw [← h b hb]; exact XQ C m b), Qaj 4 s a _ r (XQ 4 s b)]
  by_cases e : r = a
  ·rw [if_pos e, if_pos e, EaC, h a ha]
  ·rw [if_neg e, if_neg e, h r hr]
theorem Abj {w : Nat → Nat} {C R m s a : Nat} (ha : a < R) (h : HO w C R m s) : HO w C R (Ye (g3 C a) R m) (Ye (a3 (Uw w) a) R s) :=
 JY (p := HO w C R) (g := g3 C a) (h := a3 (Uw w) a) (n := R) h (fun b s t hb h3 => GaF ha hb h3) R (jo R)
theorem Zbi {w : Nat → Nat} {C R m s : Nat} (h : HO w C R m s) : HO w C R (Ye (g2 C R) R m) (Ye (a2 (Uw w) R) R s) :=
 JY (p := HO w C R) (g := g2 C R) (h := a2 (Uw w) R) (n := R) h (fun a s t ha h3 => Abj ha h3) R (jo R)
theorem Ybi {w : Nat → Nat} {C R m s : Nat} (h : HO w C R m s) : HO w C R (Ye (g1 C R) R m) (Ye (a1 (Uw w) R) R s) :=
 JY (p := HO w C R) (g := g1 C R) (h := a1 (Uw w) R) (n := R) h (fun _ s t _ h3 => Zbi h3) R (jo R)
def wOf (C R m i : Nat) : Nat := if i < R then rowN C m i else 0
theorem FaF {C R m : Nat} (hR : R ≤ 4) : HO (wOf C R m) C R (Wp C R m) (QY (Uw (wOf C R m)) R) := by
 have h0 : HO (wOf C R m) C R m 33825 := by
  intro r hr
  have : r = 0 ∨ r = 1 ∨ r = 2 ∨ r = 3 := by omega
  have e0 : rowN 4 33825 0 = 1 := by decide
  have e1 : rowN 4 33825 1 = 2 := by decide
  have e2 : rowN 4 33825 2 = 4 := by decide
  have e3 : rowN 4 33825 3 = 8 := by decide
  rcases this with rfl | rfl | rfl | rfl
  ·rw [e0, show rowN C m 0 = wOf C R m 0 from (if_pos hr).symm]; simp [IV, show Nat.testBit 1 1 = false from by decide, show Nat.testBit 1 2 = false from by decide, show Nat.testBit 1 3 = false from by decide]
  ·rw [e1, show rowN C m 1 = wOf C R m 1 from (if_pos hr).symm]; simp [IV, show Nat.testBit 2 0 = false from by decide, show Nat.testBit 2 1 = true from by decide, show Nat.testBit 2 2 = false from by decide, show Nat.testBit 2 3 = false from by decide]
  ·rw [e2, show rowN C m 2 = wOf C R m 2 from (if_pos hr).symm]; simp [IV, show Nat.testBit 4 0 = false from by decide, show Nat.testBit 4 1 = false from by decide, show Nat.testBit 4 2 = true from by decide, show Nat.testBit 4 3 = false from by decide]
  ·rw [e3, show rowN C m 3 = wOf C R m 3 from (if_pos hr).symm]; simp [IV, show Nat.testBit 8 0 = false from by decide, show Nat.testBit 8 1 = false from by decide, show Nat.testBit 8 2 = false from by decide, show Nat.testBit 8 3 = true from by decide]
 unfold Wp QY
 exact Ybi h0
theorem Iax {C m a x : Nat} (h : rowN C m a ||| x = rowN C m a) : m ||| x <<< (a * C) = m := by
 apply Nat.eq_of_testBit_eq
 intro i
 rw [Nat.testBit_or, Nat.testBit_shiftLeft]
 cases hx : (decide (i ≥ a * C) && x.testBit (i - a * C)) with
 | false => simp
 | true =>
  simp only [jd, decide_eq_true_eq] at hx
  have h1 : (rowN C m a).testBit (i - a * C) = true := by rw [← h, Nat.testBit_or, hx.2]; simp
  rw [IP, jd] at h1
  have h2 := h1.2
  rw [show a * C + (i - a * C) = i by omega] at h2
  rw [h2]; rfl
theorem IY {S : Type} {g : Nat → S → S} {n : Nat} {s : S} (h : ∀ k, k < n → g k s = s) : ∀ k, k ≤ n → Ye g k s = s
 | 0, _ => rfl
 | k + 1, hk => by
  show g k (Ye g k s) = s
  rw [IY h k (by omega)]
  exact h k (by omega)
theorem NaB {C R m : Nat} (h : QL C R) : Wp C R (Wp C R m) = Wp C R m := by
 have hrel := FaF (C := C) (m := m) h.r2
 have hcl := Aaw (IaD (wOf C R m) h.r1 h.r2 fun i hi => if_neg (by omega)) h.r1 h.r2
 have hst : ∀ a b, a < R → b < R → Xy C a b (Wp C R m) = Wp C R m := by
  intro a b ha hb
  unfold Xy
  cases hc : (rowN C (Wp C R m) a &&& rowN C (Wp C R m) b != 0) with
  | false => rfl
  | true =>
   simp only [cond_true]
   apply Iax
   rw [hrel a ha, hrel b hb] at hc ⊢
   rw [Iad] at hc
   simp only [KS, List.all_eq_true, List.mem_range, Bool.or_eq_true, Bool.not_eq_true', beq_iff_eq] at hcl
   rcases hcl a ha b hb with h1 | h1
   ·rw [hc] at h1; exact absurd h1 (by decide)
   ·rw [← EaC, h1]
 unfold Wp at hst ⊢
 exact IY (n := R) (fun _ _ => IY (n := R) (fun a ha => IY (n := R) (fun b hb => hst a b ha hb) R (jo R)) R (jo R)) R (jo R)
theorem Yak {M : Be} {x : Int} (h : Fd M x = true) : Mj M (Bp M x) = true := by
 unfold Mj
 rw [OaB h, jk, beq_iff_eq]
 obtain ⟨C, R, m, d, rfl, rfl, hd, hm⟩ := UK h
 rw [WQ, WQ]
 cases d with
 | true => rfl
 | false =>
  show ((Wp C R (Wp C R m) : Nat) : Int) = _
  rw [NaB hd]; rfl
def BL (a b t : Int) (k : Nat) (o : List Ca) : List Ca := cond (Kd a (k : Int) != Kd b (k : Int)) (jf o [(t, (k : Int), Kd b (k : Int) == 1, ())]) o
def I0 (a b t : Int) : List Ca := Ye (BL a b t) 32 []
theorem J0 (a b t : Int) : ∀ n, (Ye (BL a b t) n []).length ≤ n
 | 0 => jo _
 | n + 1 => by
  have ih := J0 a b t n
  show (BL a b t n (Ye (BL a b t) n [])).length ≤ n + 1
  unfold BL at ih ⊢
  cases Kd a (n : Int) != Kd b (n : Int)
  ·simp only [cond_false]; omega
  ·simp only [cond_true]; simp; omega
theorem E9 (a b t : Int) : Dr a b t = some (I0 a b t, ()) := by
 have hl := Ch (step := fun x => Nl x.1.1 x.1.2.1 x.1.2.2.1 x.1.2.2.2.1 x.1.2.2.2.2.1) 32 (by omega) (BL a b t) [] (fun o i => ((a, b, t, o, i, ()), ())) (fun o => .inl ((o, ()), ())) (by
  intro k hk
  have hlen := J0 a b t k
  simp only [Nl]
  rw [Ba (by omega), Ml a (by omega), Ml b (by omega)]
  simp only [cond_true, jb]
  show _ = some (Sum.inl ((a, b, t, BL a b t k (Ye (BL a b t) k []), _, ()), ()))
  generalize Ye (BL a b t) k [] = o at hlen ⊢
  unfold BL
  have hb : ∀ v : Ca, jx (ja o + ja [v]) Sa = true := fun v => ji (by rw [Ud]; simp only [jw, j8]; omega)
  cases Kd a (k : Int) != Kd b (k : Int)
  ·rfl
  ·simp only [cond_true, hb]) (by
  simp only [Nl]
  rw [Aa (by omega)]; rfl)
 unfold Dr Qn
 erw [hl]
 rfl
theorem Dam {a b : Nat} {t : Int} {n : Nat} (ha : a < 2 ^ n) (hb : b < 2 ^ n) (hn : n ≤ 32) : ∀ k, Ye (BL (a : Int) (b : Int) t) (n + k) [] = Ye (BL (a : Int) (b : Int) t) n [] ∨ 32 < n + k
 | 0 => .inl rfl
 | k + 1 => by
  rcases Nat.lt_or_ge 32 (n + (k + 1)) with h | h
  ·exact .inr h
  ·rcases Dam (t := t) ha hb hn k with ih | ih
   ·refine .inl ?_
    show BL (a : Int) (b : Int) t (n + k) (Ye (BL (a : Int) (b : Int) t) (n + k) []) = _
    rw [ih]
    unfold BL
    have Nw : n ≤ 62 := by omega
    have h63 : ∀ x : Nat, x < 2 ^ n → x < 2 ^ 63 := fun x hx => qm hx (qn (by omega) (by omega))
    rw [N8 (h63 a ha) (h63 b hb) (by omega), qo]
    rw [Nat.testBit_lt_two_pow (qm ha (qn (by omega) (Nat.le_add_right n k))), Nat.testBit_lt_two_pow (qm hb (qn (by omega) (Nat.le_add_right n k)))]
    rfl
   ·omega
theorem Daa (z : Jd) (b : Jd) (acc : Int) (d : Qb) (n : Nat) (hk : d.2.2.1 = (n : Int)) (hn : n ≤ 24) (x y : Nat) (hx : b.2.1.2.2.2.1 = (x : Int)) (hx2 : x < 2 ^ n) (hy : d.2.2.2.1 = (y : Int)) (hy2 : y < 2 ^ n) :
 Qj (((), (), acc, (), ([] : List Ca), (0 : Int), ()), (b, z, d, ())) = some (.inl (((), (), acc, (), I0 b.2.1.2.2.2.1 d.2.2.2.1 b.2.2.2.2.2.1, ()), (b, z, d, ()))) := by
 have h63 : ∀ x : Nat, x < 2 ^ n → x < 2 ^ 63 := fun x hx => qm hx (qn (by omega) (by omega))
 have hl := Ch (step := fun x => Zr x.1.1 x.1.2.1 x.1.2.2.1 x.1.2.2.2.1 x.1.2.2.2.2.1 x.1.2.2.2.2.2.1 x.2.1 x.2.2.1 x.2.2.2.1) n (by omega) (BL b.2.1.2.2.2.1 d.2.2.2.1 b.2.2.2.2.2.1) []
  (fun o i => (((), (), acc, (), o, i, ()), (b, z, d, ()))) (fun o => .inl (((), (), acc, (), o, ()), (b, z, d, ()))) (by
  intro k hk'
  have hlen := J0 b.2.1.2.2.2.1 d.2.2.2.1 b.2.2.2.2.2.1 k
  simp only [Zr]
  have e1 : (Va .i64 (Vb .i64 (Za .i64 d.2.2.2.1 b.2.1.2.2.2.1) (k : Int)) 1 == 1) = (Kd b.2.1.2.2.2.1 (k : Int) != Kd d.2.2.2.1 (k : Int)) := by
   rw [hx, hy, S5 (h63 y hy2) (h63 x hx2) (by omega), N8 (h63 y hy2) (h63 x hx2) (by omega), N8 (h63 x hx2) (h63 y hy2) (by omega), Nat.xor_comm]
  have e2 : Va .i64 (Vb .i64 d.2.2.2.1 (k : Int)) 1 = Kd d.2.2.2.1 (k : Int) := rfl
  rw [Ba (show (k : Int) < d.2.2.1 by omega), Ba (show (0 : Int) ≤ (k : Int) by omega), e1, e2]
  simp only [cond_true]
  show _ = some (Sum.inl (((), (), acc, (), BL b.2.1.2.2.2.1 d.2.2.2.1 b.2.2.2.2.2.1 k (Ye (BL b.2.1.2.2.2.1 d.2.2.2.1 b.2.2.2.2.2.1) k []), _, ()), _))
  generalize Ye (BL b.2.1.2.2.2.1 d.2.2.2.1 b.2.2.2.2.2.1) k [] = o at hlen ⊢
  unfold BL
  have hb : ∀ v : Ca, jx (ja o + ja [v]) Sa = true := fun v => ji (by rw [Ud]; simp only [jw, j8]; omega)
  cases Kd b.2.1.2.2.2.1 (k : Int) != Kd d.2.2.2.1 (k : Int)
  ·rfl
  ·simp only [cond_true, hb]) (by
  simp only [Zr]
  rw [Aa (by omega)]; rfl)
 unfold Qj
 refine hl.trans ?_
 unfold I0
 rw [hx, hy]
 rcases Dam (t := b.2.2.2.2.2.1) hx2 hy2 (by omega) (32 - n) with h | h
 ·rw [show n + (32 - n) = 32 by omega] at h
  rw [h]
 ·omega
noncomputable def ZW (b : Jd) (x : Int) : Bool := Tm b && (Fd b.1 x && !decide (b.2.2.2.2.2.1 ≥ 1000000))
def Tw (b : Jd) (x : Int) : Int := Vag b.1 b.2.2.2.2.1 (Bp b.1 x)
def Gn (b : Jd) (x : Int) : Qb := (D6 b.2.1 (Tw b x)).1
def Cv (b : Jd) (x : Int) : Pa × ((List Ca) × (Bool × Unit)) := GM b.2.2.1 (I0 b.2.1.2.2.2.1 (Gn b x).2.2.2.1 b.2.2.2.2.2.1) b.2.2.2.2.2.1
noncomputable def Pz (b : Jd) (x : Int) : Gb × ((List Lf) × (Bool × Unit)) := LN b.2.2.2.1 (Cv b x).2.1 b.2.2.2.2.2.1
noncomputable def Dq (b : Jd) (x : Int) : Jd × ((List Lf) × (Bool × Unit)) :=
 cond (ZW b x && ((Cv b x).2.2.1 && (Pz b x).2.2.1))
  ((b.1, Gn b x, (Cv b x).1, (Pz b x).1, Tw b x, j5 .i64 (b.2.2.2.2.2.1 + 1), ()), (Pz b x).2.1, true, ()) (AX, [], false, ())
structure Cav (b : Jd) (x : Int) : Prop where
 bd : Tm b = true
 msk : Fd b.1 x = true
 old : Fd b.1 b.2.2.2.2.1 = true
 dk : b.2.1.2.2.1 = Vc b.1
 db : Zg b.2.1 = true
 cb : Zd b.2.2.1 = true
 dc : Nf b.2.2.2.1 = true
 t : 0 ≤ b.2.2.2.2.2.1 ∧ b.2.2.2.2.2.1 ≤ 1000000
theorem Cak {b : Jd} {x : Int} (h : Tm b = true) (hm : Fd b.1 x = true) : Cav b x := by
 have hb := h
 simp only [Tm, jd, decide_eq_true_eq, beq_iff_eq] at h
 exact ⟨hb, hm, h.2.2.2.2.2.2.1, h.2.2.2.2.1, h.2.1, h.2.2.1, h.2.2.2.1, h.2.2.2.2.2.2.2.2.1⟩
theorem V7 {b : Jd} {x : Int} (h : Cav b x) : SS b.1 b.2.2.2.2.1 (Bp b.1 x) = true ∧ Fd b.1 (Tw b x) = true ∧ G0 b.2.1 (Tw b x) = true := by
 have h1 : SS b.1 b.2.2.2.2.1 (Bp b.1 x) = true := by
  unfold SS
  rw [h.old, Yak h.msk]; rfl
 have h2 := HaD h1
 refine ⟨h1, h2, ?_⟩
 unfold G0
 rw [h.db, jk, h.dk]
 have h3 : Fd b.1 (Tw b x) = true := h2
 simp only [Fd, jd] at h3
 exact h3.2
theorem Pah {b : Jd} {x : Int} (h : Cav b x) : D6 b.2.1 (Tw b x) = (Gn b x, true, ()) ∧ Gn b x = (b.2.1.1, b.2.1.2.1, b.2.1.2.2.1, (Bab b.2.1 (Tw b x)).1, Tw b x, (Bab b.2.1 (Tw b x)).2, ()) := by
 have := (V7 h).2.2
 unfold Gn D6
 rw [this]
 exact ⟨rfl, rfl⟩
theorem B6 (c : Pa) (l : List Ca) (til : Int) (hz : Bj c) : (GM c l til).2.1.length ≤ 64 ∧ Bj (GM c l til).1 ∧ Ha Pb (GM c l til).1 ≤ 200 := by
 unfold GM
 cases h : BA c l til with
 | false =>
  simp only [cond_false]
  exact ⟨by simp, ⟨by decide, by decide, by decide, fun x hx => by simp [zCb] at hx⟩, by decide⟩
 | true =>
  simp only [BA, jd] at h
  have h1 := Jah (til := til) hz h.1 h.2.2.2.2
  have h2 := O8 64 (JU c l til) [] h1
  have h3 : (Md (JU c l til)).length ≤ 32 := show (Md c).length ≤ 32 from Vaa h.1
  have h4 := h2.1.L
  have h5 := h2.1.len
  have h6 := h2.2.1
  have h7 := h2.2.2
  have h20 : Ea = 1048576 := rfl
  simp only [cond_true]
  refine ⟨by simp at h7; omega, ⟨by omega, by omega, by show (Md _).length ≤ _; omega, h2.1.r⟩, ?_⟩
  rw [Zal]
  have : (Ag 64 (JU c l til) []).1.2.2.2.2.2.2.1.length ≤ 96 := by show (Md _).length ≤ _; omega
  omega
theorem Laz {e : Hb} (h : Pw e) : Ha Dc e ≤ 1000 := by
 have hh := Lq h.hd
 have h2 : Ha (.sl (.sl Kc)) e.2.1 ≤ (16 + 1) * e.2.1.length := WY (e := .sl Kc) (c := 16) fun x hx => by
  have := h.mac x hx
  simp only [Cg, jd, decide_eq_true_eq] at this
  have e2 : Ha (.sl Kc) x = x.length := Hl (e := Kc) rfl x
  omega
 have := h.m4
 have hm := Nj h.km
 have h3 : Ha Bc e.1 ≤ 200 := by
  have h1 : Ha Bc e.1 = 0 + (Ha (.sl (.sl Wb)) e.1.2.1 + 0) := rfl
  have h2 : Ha (.sl (.sl Wb)) e.1.2.1 ≤ (32 + 1) * ja e.1.2.1 := WY (e := .sl Wb) (c := 32) fun x hx => by
   obtain ⟨i, hi, rfl⟩ := qu hx
   rw [Oaa]
   have := hm.row i hi
   have := hm.k2
   omega
  have := hm.l2
  omega
 rw [Ul, Gl]
 omega
theorem W9 : ∀ (n : Nat) (d : Gb) (s : List Lf), QS d → (∀ y ∈ s, y.2.1.2.1.length ≤ 56) → QS (Eg n d s).1 ∧ (Eg n d s).2.length ≤ s.length + 17 * n ∧ (∀ y ∈ (Eg n d s).2, y.2.1.2.1.length ≤ 56)
 | 0, d, s, h, hs => ⟨h, by show s.length ≤ _; omega, hs⟩
 | n + 1, d, s, h, hs => by
  cases hq : d.2.2.1 with
  | nil =>
   have e : Eg (n + 1) d s = (d, s) := by simp only [Eg, hq]
   rw [e]; exact ⟨h, by show s.length ≤ _; omega, hs⟩
  | cons x r =>
   cases hst : Dn d x r with
   | none =>
    have e : Eg (n + 1) d s = (d, s) := by simp only [Eg, hq, hst]
    rw [e]; exact ⟨h, by show s.length ≤ _; omega, hs⟩
   | some p =>
    obtain ⟨d', l⟩ := p
    have e : Eg (n + 1) d s = Eg n d' (Xr s d'.2.2.2.2.1 l) := by simp only [Eg, hq, hst]
    have hn := Aac h hq hst
    have ih := W9 n d' (Xr s d'.2.2.2.2.1 l) hn.1 (fun y hy => by
     rcases jl.1 (show y ∈ s ++ _ from hy) with hy | hy
     ·exact hs y hy
     ·obtain ⟨r', hr', rfl⟩ := qv.1 hy
      exact hn.2.2.2 r' hr')
    have e2 := Q1 s d'.2.2.2.2.1 l
    have h17 := hn.2.2.1
    rw [e]
    exact ⟨ih.1, by omega, ih.2.2⟩
theorem ZaU (x : Lf) : Ha Wj x = x.2.1.2.1.length := by
 have h3 : Ha Wj x = Ha Ec x.2.1 := by
  show 0 + (Ha Ec x.2.1 + 0) = _
  omega
 rw [h3, WaF]
theorem CaF (d : Gb) (l : List Ca) (til : Int) : Ha Hc (LN d l til).1 ≤ 2000 ∧ (LN d l til).2.1.length ≤ 1088 ∧ (∀ y ∈ (LN d l til).2.1, y.2.1.2.1.length ≤ 56) := by
 unfold LN
 cases h : FA d l til with
 | false => simp only [cond_false]; exact ⟨by decide, by simp, by simp⟩
 | true =>
  simp only [FA, jd] at h
  have h1 := Cab (til := til) h.1 h.2.2.2.2
  have h2 := W9 (Us d l til).2.2.1.length (Us d l til) [] h1 (by simp)
  have h64 := h1.len
  simp only [cond_true]
  refine ⟨?_, by have := h2.2.1; simp at this; omega, h2.2.2⟩
  rw [MQ, GF]
  have h3 := Laz h2.1.eng
  have := h2.1.len
  omega
theorem T0 (b : Jd) (x : Int) (hb : Yu b) : Al b x = some (Dq b x) := by
 have h20 : Ea = 1048576 := rfl
 unfold Al Dq ZW
 rw [NU b hb, Kv]
 cases h1 : Tm b with
 | false => rfl
 | true =>
  cases h2 : Fd b.1 x with
  | false => rfl
  | true =>
   have hp := Cak h1 h2
   have ha := V7 hp
   have hd := Pah hp
   simp only [jb, jg, cond_false, jk]
   cases h3 : decide (b.2.2.2.2.2.1 ≥ 1000000) with
   | true => rfl
   | false =>
    rw [Pab h2]
    simp only [jb, cond_false]
    rw [Iab, ha.1]
    simp only [jb, cond_true, jg, cond_false]
    show jz (An b.2.1 (Tw b x)) _ = _
    rw [Uak _ _ hb.d, hd.1]
    simp only [jb, jg, cond_false]
    rw [E9]
    simp only [jb]
    have hev := J0 b.2.1.2.2.2.1 (Gn b x).2.2.2.1 b.2.2.2.2.2.1 32
    rw [D9 _ _ _ hb.c (by unfold I0; omega)]
    have hcl := B6 b.2.2.1 (I0 b.2.1.2.2.2.1 (Gn b x).2.2.2.1 b.2.2.2.2.2.1) b.2.2.2.2.2.1 hb.c
    have e1 : GM b.2.2.1 (I0 b.2.1.2.2.2.1 (Gn b x).2.2.2.1 b.2.2.2.2.2.1) b.2.2.2.2.2.1 = Cv b x := rfl
    rw [e1] at hcl ⊢
    simp only [jb]
    rw [S0 _ _ _ hb.x (by omega)]
    have e2 : LN b.2.2.2.1 (Cv b x).2.1 b.2.2.2.2.2.1 = Pz b x := rfl
    rw [e2]
    simp only [jb, qa, jk]
    cases (Cv b x).2.2.1 with
    | false => rfl
    | true => cases (Pz b x).2.2.1 <;> rfl
theorem Y1 (b : Jd) (x : Int) (hb : Yu b) : Dl b x = some (Dq b x) := by
 have h20 : Ea = 1048576 := rfl
 unfold Dl Dq ZW
 rw [EV b hb, W1]
 cases h1 : Tm b with
 | false => rfl
 | true =>
  cases h2 : Fd b.1 x with
  | false => rfl
  | true =>
   have hp := Cak h1 h2
   have ha := V7 hp
   have hd := Pah hp
   have ht := hp.t
   simp only [jb, jg, cond_false, cond_true, jk]
   rw [show (b.2.2.2.2.2.1 == 1000000) = decide (b.2.2.2.2.2.1 ≥ 1000000) by rw [qy]; simp; omega]
   cases h3 : decide (b.2.2.2.2.2.1 ≥ 1000000) with
   | true => rfl
   | false =>
    simp only [cond_false]
    rw [Eac, ha.1]
    simp only [jb, cond_true]
    show jz (En b.2.1 (Tw b x)) _ = _
    rw [Aal _ _ hb.d, hd.1]
    simp only [jb]
    have hdp := Cag hp.db
    have hk := hdp.k2
    have hk1 := hdp.k1
    obtain ⟨p, hp1, hp2⟩ := JT hdp.sh
    obtain ⟨q, hq1, hq2⟩ := JT (Bam hdp (Tw b x)).sh
    have hdo : (Gn b x).2.2.2.1 = (q : Int) := by rw [hd.2]; exact hq1
    have hdk : (Gn b x).2.2.1 = b.2.1.2.2.1 := by rw [hd.2]
    have hsp := Daa AX b (Tw b x) (Gn b x) b.2.1.2.2.1.toNat (by rw [hdk]; omega) (by omega) p q hp1 hp2 hdo hq2
    have hsp' : Qj (((), (), (Vag b.1 b.2.2.2.2.1 (Bp b.1 x)), (), ([] : List Ca), (0 : Int), ()), (b, AX, Gn b x, ())) = _ := hsp
    erw [hsp']
    simp only [jb, ql]
    have hev := J0 b.2.1.2.2.2.1 (Gn b x).2.2.2.1 b.2.2.2.2.2.1 32
    rw [Baa _ _ _ hb.c (by unfold I0; omega)]
    have hcl := B6 b.2.2.1 (I0 b.2.1.2.2.2.1 (Gn b x).2.2.2.1 b.2.2.2.2.2.1) b.2.2.2.2.2.1 hb.c
    have e1 : GM b.2.2.1 (I0 b.2.1.2.2.2.1 (Gn b x).2.2.2.1 b.2.2.2.2.2.1) b.2.2.2.2.2.1 = Cv b x := rfl
    rw [e1] at hcl ⊢
    simp only [jb]
    rw [V1 _ _ _ hb.x (by omega)]
    have e2 : LN b.2.2.2.1 (Cv b x).2.1 b.2.2.2.2.2.1 = Pz b x := rfl
    rw [e2]
    simp only [jb, qa, jk]
    cases (Cv b x).2.2.1 with
    | false => rfl
    | true => cases (Pz b x).2.2.1 <;> rfl
theorem XaQ (b : Jd) (x : Int) (hb : Yu b) : Yu (Dq b x).1 ∧ Ha Ed (Dq b x).1 ≤ 3000 ∧ (Dq b x).2.1.length ≤ 1088 ∧ (∀ y ∈ (Dq b x).2.1, y.2.1.2.1.length ≤ 56) := by
 have h20 : Ea = 1048576 := rfl
 unfold Dq
 cases h : ZW b x && ((Cv b x).2.2.1 && (Pz b x).2.2.1) with
 | false => simp only [cond_false]; exact ⟨⟨by decide, ⟨by decide, by decide, by decide, fun x hx => by simp [AX] at hx⟩, by decide⟩, by decide, by simp, by simp⟩
 | true =>
  simp only [jd, ZW] at h
  have hp := Cak h.1.1 h.1.2.1
  have hd := Pah hp
  have hdp := Cag hp.db
  have hcl := B6 b.2.2.1 (I0 b.2.1.2.2.2.1 (Gn b x).2.2.2.1 b.2.2.2.2.2.1) b.2.2.2.2.2.1 hb.c
  have hpl := CaF b.2.2.2.1 (Cv b x).2.1 b.2.2.2.2.2.1
  have hda : (Gn b x).2.2.2.2.2.1.length ≤ 24 := by
   rw [hd.2]
   have h1 := (Bam hdp (Tw b x)).len
   have h2 := hdp.len
   have h3 := hdp.k2
   show (Bab b.2.1 (Tw b x)).2.length ≤ 24
   omega
  simp only [cond_true]
  refine ⟨⟨by show (Gn b x).2.2.2.2.2.1.length ≤ _; omega, hcl.2.1, by show Ha Hc (Pz b x).1 ≤ _; have := hpl.1; unfold Pz; omega⟩, ?_, hpl.2.1, hpl.2.2⟩
  rw [Dah]
  show Ha Nb (Gn b x) + (Ha Pb (Cv b x).1 + Ha Hc (Pz b x).1) ≤ 3000
  rw [Kaz]
  have h1 : Ha Pb (Cv b x).1 ≤ 200 := hcl.2.2
  have h2 : Ha Hc (Pz b x).1 ≤ 2000 := hpl.1
  omega
theorem TaQ {l : List Lf} {n : Nat} (h : l.length ≤ n) (hx : ∀ y ∈ l, y.2.1.2.1.length ≤ 56) : Ha (.sl Wj) l ≤ 57 * n := by
 have := WY (e := Wj) (c := 56) (w := l) fun y hy => by rw [ZaU]; exact hx y hy
 exact qc this (Nat.mul_le_mul_left _ h)
structure Hbm (k : Nat) (s : Jd × List Lf) : Prop where
 sz : Yu s.1
 len : s.2.length ≤ 1088 * k
 rep : ∀ y ∈ s.2, y.2.1.2.1.length ≤ 56
def Nd (x : Int) : Prop := 0 ≤ x ∧ x ≤ 255
def AW (c : Int) : Int := cond (decide (j5 .i64 (c * 2) > 255)) (Za .i64 (j5 .i64 (c * 2)) 263) (j5 .i64 (c * 2))
def ckG (c x : Int) : Int := Ye (fun _ c => AW c) 8 (Za .i64 c (j5 .i64 x))
def LQ (l : List Int) : Int := Pd (fun _ c x => ckG c x) 0 0 l
theorem Saw (c : Int) (l : List Int) (n i : Int) : Hn ((c, l, n, i, (0 : Int), ()), ()) = some (.inl ((Ye (fun _ c => AW c) 8 c, l, n, i, ()), ())) := by
 have hl := Ch (step := fun x => Qt x.1.1 x.1.2.1 x.1.2.2.1 x.1.2.2.2.1 x.1.2.2.2.2.1) 8 (by omega) (fun _ c => AW c) c (fun c k => ((c, l, n, i, k, ()), ())) (fun c => .inl ((c, l, n, i, ()), ())) (by
  intro k hk
  simp only [Qt]
  rw [Ba (by omega)]
  generalize Ye (fun _ c => AW c) k c = d
  unfold AW
  cases decide (j5 .i64 (d * 2) > 255) <;> rfl) (by
  simp only [Qt]
  rw [Aa (by omega)]; rfl)
 unfold Hn
 exact hl
theorem Nax (c : Int) (l : List Int) (i : Int) : Wn ((l, c, i, (0 : Int), ()), ()) = some (.inl ((l, Ye (fun _ c => AW c) 8 c, i, ()), ())) := by
 have hl := Ch (step := fun x => Lu x.1.1 x.1.2.1 x.1.2.2.1 x.1.2.2.2.1) 8 (by omega) (fun _ c => AW c) c (fun c k => ((l, c, i, k, ()), ())) (fun c => .inl ((l, c, i, ()), ())) (by
  intro k hk
  simp only [Lu]
  rw [Ba (by omega)]
  generalize Ye (fun _ c => AW c) k c = d
  unfold AW
  rw [Int.mul_comm 2 d]
  cases decide (j5 .i64 (d * 2) > 255) <;> rfl) (by
  simp only [Lu]
  rw [Aa (by omega)]; rfl)
 unfold Wn
 exact hl
theorem Taw (l : List Int) (hn : l.length ≤ Ea) : BJ l = some (LQ l, ()) := by
 have h20 : Ea = 1048576 := rfl
 have hl := (Ce (step := fun x => Pt x.1.1 x.1.2.1 x.1.2.2.1 x.1.2.2.2.1) l (fun _ c x => ckG c x) (fun c i => ((c, l, ((ja l : Nat) : Int), i, ()), ())) (fun c => .inl ((c, ()), ())) (fun _ _ => True) (by
  intro k hk c _
  refine ⟨?_, trivial⟩
  simp only [Pt]
  rw [Ba (by omega), Jb hk]
  simp only [cond_true, jb]
  rw [Saw]
  rfl) (by
  intro c _
  simp only [Pt]
  rw [Aa (by omega)]; rfl) (by omega) 0 trivial).1
 unfold BJ Bx LQ
 erw [hl]; rfl
theorem Eaa (l : List Int) (hn : l.length ≤ Ea) : Rz l = some (LQ l, ()) := by
 have h20 : Ea = 1048576 := rfl
 have hl := (Ce (step := fun x => Ku x.1.1 x.1.2.1 x.1.2.2.1) l (fun _ c x => ckG c x) (fun c i => ((l, c, i, ()), ())) (fun c => .inl ((c, ()), ())) (fun _ _ => True) (by
  intro k hk c _
  refine ⟨?_, trivial⟩
  simp only [Ku]
  rw [Ba (by omega), Jb hk]
  simp only [cond_true, jb]
  rw [Nax]
  rfl) (by
  intro c _
  simp only [Ku]
  rw [Aa (by omega)]; rfl) (by omega) 0 trivial).1
 unfold Rz Dy LQ
 erw [hl]; rfl
theorem RaD {c : Int} (h : Nd c) : Nd (AW c) := by
 have key : ∀ n : Fin 256, 0 ≤ AW (n.val : Int) ∧ AW (n.val : Int) ≤ 255 := by decide +kernel
 obtain ⟨n, rfl⟩ := jv h.1
 exact key ⟨n, by have := h.2; omega⟩
theorem SaD {c x : Int} (hc : Nd c) (hx : Nd x) : Nd (ckG c x) := by
 have h0 : Nd (Za .i64 c (j5 .i64 x)) := by
  obtain ⟨a, rfl⟩ := jv hc.1
  obtain ⟨b, rfl⟩ := jv hx.1
  have ha := hc.2
  have hb := hx.2
  rw [Ie (by omega) (by omega), PK (by rw [Nw]; omega) (by rw [Nw]; omega)]
  have := qr (n := 8) (x := a) (y := b) (by omega) (by omega)
  exact ⟨by omega, by omega⟩
 have : ∀ n c, Nd c → Nd (Ye (fun _ c => AW c) n c) := by
  intro n
  induction n with
  | zero => intro c h; exact h
  | succ n ih => intro c h; exact RaD (ih c h)
 exact this 8 _ h0
theorem A6 {l : List Int} (h : ∀ x ∈ l, Nd x) : Nd (LQ l) := by
 have key : ∀ (l : List Int) (k : Nat) (c : Int), Nd c → (∀ x ∈ l, Nd x) → Nd (Pd (fun _ c x => ckG c x) k c l) := by
  intro l
  induction l with
  | nil => intro k c hc _; exact hc
  | cons x l ih => intro k c hc hx; exact ih (k + 1) _ (SaD hc (hx x (by simp))) (fun y hy => hx y (by simp [hy]))
 exact key l 0 0 ⟨by decide, by decide⟩ h
def Ot (n m : Int) : List Int := [85, n, m % 256, m / 256 % 256, m / 65536]
def Xi (n m : Int) : List Int := jf (Ot n m) [LQ (Ot n m)]
theorem IF (m : Int) : j5 .u8 m = m % 256 := by rw [IntKind.wrap_u8]
theorem CS {n m : Int} (hn : Nd n) (hm : 0 ≤ m ∧ m ≤ 16777215) : ∀ x ∈ Ot n m, Nd x := by
 intro x hx
 simp only [Ot, jp, List.not_mem_nil, or_false] at hx
 unfold Nd at hn ⊢
 rcases hx with rfl | rfl | rfl | rfl | rfl <;> omega
theorem Iai {m : Int} (hm : 0 ≤ m) {k : Nat} (hk : k ≤ 64) : Vb .i64 m (k : Int) = m / ((2 ^ k : Nat) : Int) := by
 obtain ⟨n, rfl⟩ := jv hm
 rw [LT n hk, Nat.shiftRight_eq_div_pow]
 norm_cast
theorem HZ {n m : Int} (hn : Nd n) (hm : 0 ≤ m ∧ m ≤ 16777215) : Lv n m = some (Xi n m, ()) := by
 have hn1 := hn.1
 have hn2 := hn.2
 have e8 : Vb .i64 m 8 = m / 256 := Iai (k := 8) hm.1 (by omega)
 have e16 : Vb .i64 m 16 = m / 65536 := Iai (k := 16) hm.1 (by omega)
 have hh : ([(85 : Int), j5 .u8 n, j5 .u8 m, j5 .u8 (Vb .i64 m 8), j5 .u8 (Vb .i64 m 16)] : List Int) = Ot n m := by
  unfold Ot
  rw [e8, e16, IF, IF, IF, IF, show n % 256 = n by omega, show m / 65536 % 256 = m / 65536 by omega]
 unfold Lv
 rw [Aa (by omega), Aa (by omega), Aa (by omega), Aa (by omega), hh, Taw _ (by show 5 ≤ 1048576; omega)]
 have hc := A6 (CS hn hm)
 simp only [cond_false, jb]
 rw [IF, show LQ (Ot n m) % 256 = LQ (Ot n m) by have := hc.1; have := hc.2; omega]
 rfl
theorem Pae {n m : Int} (hn : Nd n) (hm : 0 ≤ m ∧ m ≤ 16777215) : PG n m = some (Xi n m, ()) := by
 have hn1 := hn.1
 have hn2 := hn.2
 have hh : ([(85 : Int), j5 .u8 n, j5 .u8 (Int.tmod m 256), j5 .u8 (Int.tmod (j5 .i64 (Int.tdiv m 256)) 256), j5 .u8 (j5 .i64 (Int.tdiv m 65536))] : List Int) = Ot n m := by
  unfold Ot
  rw [Int.tmod_eq_emod_of_nonneg hm.1, Int.tdiv_eq_ediv_of_nonneg hm.1, Int.tdiv_eq_ediv_of_nonneg hm.1, Ie (by omega) (by omega), Ie (by omega) (by omega), Int.tmod_eq_emod_of_nonneg (by omega), IF, IF, IF, IF,
   show n % 256 = n by omega, show m % 256 % 256 = m % 256 by omega, show m / 256 % 256 % 256 = m / 256 % 256 by omega, show m / 65536 % 256 = m / 65536 by omega]
 unfold PG
 rw [Mc, Mc, Ba (show 0 ≤ n ∧ n ≤ 255 from hn), Ba (show 0 ≤ m ∧ m ≤ 16777215 from hm), hh, Eaa _ (by show 5 ≤ 1048576; omega)]
 have hc := A6 (CS hn hm)
 simp only [cond_false, jb, jg, show ((256 : Int) == 0) = false from rfl, show ((65536 : Int) == 0) = false from rfl]
 rw [IF, show LQ (Ot n m) % 256 = LQ (Ot n m) by have := hc.1; have := hc.2; omega]
 rfl
theorem BS {n m : Int} (hn : Nd n) (hm : 0 ≤ m ∧ m ≤ 16777215) : ∀ x ∈ Xi n m, Nd x := by
 intro x hx
 rcases jl.1 (show x ∈ Ot n m ++ [LQ (Ot n m)] from hx) with hx | hx
 ·exact CS hn hm x hx
 ·rw [qe.1 hx]; exact A6 (CS hn hm)
theorem Hay {a b : Nat} (ha : a < 256) (hb : b < 256) (h : UInt8.ofNat a = UInt8.ofNat b) : a = b := by
 have h1 : (UInt8.ofNat a).toNat = (UInt8.ofNat b).toNat := by rw [h]
 rw [UInt8.toNat_ofNat', UInt8.toNat_ofNat'] at h1
 omega
theorem Oad : ∀ {a b : List Int}, (∀ x ∈ a, Nd x) → (∀ x ∈ b, Nd x) → Qm a = Qm b → a = b
 | [], [], _, _, _ => rfl
 | [], _ :: _, _, _, h => by simp [Qm] at h
 | _ :: _, [], _, _, h => by simp [Qm] at h
 | x :: a, y :: b, hx, hy, h => by
  simp only [Qm, List.map_cons, List.cons.injEq] at h
  have h1 := hx x (by simp)
  have h2 := hy y (by simp)
  have h1a := h1.1
  have h1b := h1.2
  have h2a := h2.1
  have h2b := h2.2
  have e := Hay (by omega) (by omega) h.1
  rw [Oad (fun z hz => hx z (by simp [hz])) (fun z hz => hy z (by simp [hz])) h.2, show x = y by omega]
def A9 (b : List Int) : Int := b.getD 2 0 + 256 * b.getD 3 0 + 65536 * b.getD 4 0
def C3 (b : List Int) : Bool := (b.getD 0 0 == 85) && (LQ (b.take 5) == b.getD 5 0)
def ZH (b : List Int) : Int × Int × Bool := cond (C3 b) (b.getD 1 0, A9 b, true) (0, 0, false)
theorem MaQ {x y z : Int} (hx : Nd x) (hy : Nd y) (hz : Nd z) :
 Nc .i64 (Nc .i64 (j5 .i64 x) (Qa .i64 (j5 .i64 y) 8)) (Qa .i64 (j5 .i64 z) 16) = x + 256 * y + 65536 * z := by
 obtain ⟨a, rfl⟩ := jv hx.1
 obtain ⟨b, rfl⟩ := jv hy.1
 obtain ⟨c, rfl⟩ := jv hz.1
 have ha := hx.2
 have hb := hy.2
 have hc := hz.2
 have e1 : Qa .i64 ((b : Nat) : Int) 8 = ((b <<< 8 : Nat) : Int) := T6 (k := 8) (by rw [Nw]; omega) (by omega)
 have e2 : Qa .i64 ((c : Nat) : Int) 16 = ((c <<< 16 : Nat) : Int) := T6 (k := 16) (by rw [Nw]; omega) (by omega)
 have e3 : a ||| b <<< 8 = b <<< 8 + a := by rw [Nat.or_comm, Nat.shiftLeft_add_eq_or_of_lt (by omega)]
 have e4 : b <<< 8 + a < 2 ^ 16 := by rw [qk]; omega
 have e5 : (b <<< 8 + a) ||| c <<< 16 = c <<< 16 + (b <<< 8 + a) := by rw [Nat.or_comm, Nat.shiftLeft_add_eq_or_of_lt e4]
 rw [Ie (by omega) (by omega), Ie (by omega) (by omega), Ie (by omega) (by omega), e1, e2, Sv (by rw [Nw]; omega) (by rw [Nw, qk]; omega), e3, Sv (by rw [Nw]; omega) (by rw [Nw, qk]; omega), e5]
 rw [qk, qk]
 omega
theorem Rab {b : List Int} (h : b.length = 6) : ∃ x0 x1 x2 x3 x4 x5, b = [x0, x1, x2, x3, x4, x5] := by
 match b, h with
 | [x0, x1, x2, x3, x4, x5], _ => exact ⟨_, _, _, _, _, _, rfl⟩
theorem OaL (x1 x2 x3 x4 : Int) (h2 : Nd x2) (h3 : Nd x3) (h4 : Nd x4) : Ot x1 (x2 + 256 * x3 + 65536 * x4) = [85, x1, x2, x3, x4] := by
 unfold Ot
 have a := h2.1
 have b := h2.2
 have c := h3.1
 have d := h3.2
 have e := h4.1
 have f := h4.2
 rw [show (x2 + 256 * x3 + 65536 * x4) % 256 = x2 by omega, show (x2 + 256 * x3 + 65536 * x4) / 256 % 256 = x3 by omega, show (x2 + 256 * x3 + 65536 * x4) / 65536 = x4 by omega]
theorem T3 {b : List Int} (h6 : b.length = 6) (hb : ∀ x ∈ b, Nd x) : SF b = some ((ZH b).1, (ZH b).2.1, (ZH b).2.2, ()) := by
 obtain ⟨x0, x1, x2, x3, x4, x5, rfl⟩ := Rab h6
 have h0 := hb x0 (by simp)
 have h1 := hb x1 (by simp)
 have h2 := hb x2 (by simp)
 have h3 := hb x3 (by simp)
 have h4 := hb x4 (by simp)
 have h5 := hb x5 (by simp)
 have a := h2.1
 have b := h2.2
 have c := h3.1
 have d := h3.2
 have e := h4.1
 have f := h4.2
 have g := h1.1
 have g' := h1.2
 have hm : 0 ≤ x2 + 256 * x3 + 65536 * x4 ∧ x2 + 256 * x3 + 65536 * x4 ≤ 16777215 := by omega
 have e1 : Ya [x0, x1, x2, x3, x4, x5] (1 : Int) = some x1 := rfl
 have e2 : Ya [x0, x1, x2, x3, x4, x5] (2 : Int) = some x2 := rfl
 have e3 : Ya [x0, x1, x2, x3, x4, x5] (3 : Int) = some x3 := rfl
 have e4 : Ya [x0, x1, x2, x3, x4, x5] (4 : Int) = some x4 := rfl
 unfold SF
 rw [show (((ja [x0, x1, x2, x3, x4, x5] : Nat) : Int) != 6) = false from rfl]
 simp only [cond_false, jb, e1, e2, e3, e4]
 rw [MaQ h2 h3 h4, Ie (n := x1) (by omega) (by omega), HZ h1 hm]
 simp only [jb]
 have key : (Qm (Xi x1 (x2 + 256 * x3 + 65536 * x4)) != Qm [x0, x1, x2, x3, x4, x5]) = !C3 [x0, x1, x2, x3, x4, x5] := by
  have hd := OaL x1 x2 x3 x4 h2 h3 h4
  rw [show (Qm (Xi x1 (x2 + 256 * x3 + 65536 * x4)) != Qm [x0, x1, x2, x3, x4, x5]) = !(Qm (Xi x1 (x2 + 256 * x3 + 65536 * x4)) == Qm [x0, x1, x2, x3, x4, x5]) from rfl]
  congr 1
  rw [qy, beq_iff_eq]
  show _ ↔ ((x0 == 85) && (LQ [x0, x1, x2, x3, x4] == x5)) = true
  rw [jd, beq_iff_eq, beq_iff_eq]
  constructor
  ·intro h
   have := Oad (BS h1 hm) hb h
   unfold Xi at this
   rw [hd] at this
   simp only [List.append_eq, List.cons_append, List.nil_append, List.cons.injEq, and_true, true_and] at this
   rw [← this.1]
   exact ⟨rfl, this.2⟩
  ·rintro ⟨rfl, h⟩
   unfold Xi
   rw [hd, h]; rfl
 rw [key]
 unfold ZH
 cases C3 [x0, x1, x2, x3, x4, x5] <;> rfl
theorem D4 {b : List Int} (h6 : b.length = 6) (hb : ∀ x ∈ b, Nd x) : QG b = some ((ZH b).1, (ZH b).2.1, (ZH b).2.2, ()) := by
 obtain ⟨x0, x1, x2, x3, x4, x5, rfl⟩ := Rab h6
 have h1 := hb x1 (by simp)
 have h2 := hb x2 (by simp)
 have h3 := hb x3 (by simp)
 have h4 := hb x4 (by simp)
 have h5 := hb x5 (by simp)
 have a := h2.1
 have b := h2.2
 have c := h3.1
 have d := h3.2
 have e := h4.1
 have f := h4.2
 have g := h1.1
 have g' := h1.2
 have k := h5.1
 have k' := h5.2
 have e0 : Ya [x0, x1, x2, x3, x4, x5] (0 : Int) = some x0 := rfl
 have e1 : Ya [x0, x1, x2, x3, x4, x5] (1 : Int) = some x1 := rfl
 have e2 : Ya [x0, x1, x2, x3, x4, x5] (2 : Int) = some x2 := rfl
 have e3 : Ya [x0, x1, x2, x3, x4, x5] (3 : Int) = some x3 := rfl
 have e4 : Ya [x0, x1, x2, x3, x4, x5] (4 : Int) = some x4 := rfl
 have e5 : Ya [x0, x1, x2, x3, x4, x5] (5 : Int) = some x5 := rfl
 unfold QG
 rw [show (((ja [x0, x1, x2, x3, x4, x5] : Nat) : Int) != 6) = false from rfl, show Ld (ja [x0, x1, x2, x3, x4, x5]) (0 : Int) (5 : Int) = true from rfl, show Eb [x0, x1, x2, x3, x4, x5] (jy (0 : Int)) (jy (5 : Int)) = [x0, x1, x2, x3, x4] from rfl, Eaa _ (by show 5 ≤ 1048576; omega)]
 simp only [cond_false, cond_true, jb, e0, e1, e2, e3, e4, e5]
 rw [Ie (n := x1) (by omega) (by omega), Ie (n := x2) (by omega) (by omega), Ie (n := x3) (by omega) (by omega), Ie (n := x4) (by omega) (by omega), Ie (n := x5) (by omega) (by omega), Ie (n := 256 * x3) (by omega) (by omega), Ie (n := 65536 * x4) (by omega) (by omega), Ie (n := x2 + 256 * x3) (by omega) (by omega), Ie (n := x2 + 256 * x3 + 65536 * x4) (by omega) (by omega)]
 have hf : C3 [x0, x1, x2, x3, x4, x5] = ((x0 == 85) && (LQ [x0, x1, x2, x3, x4] == x5)) := rfl
 unfold ZH
 rw [hf]
 rw [show (x0 != 85) = !(x0 == 85) from rfl, show (LQ [x0, x1, x2, x3, x4] != x5) = !(LQ [x0, x1, x2, x3, x4] == x5) from rfl]
 cases x0 == 85 <;> cases LQ [x0, x1, x2, x3, x4] == x5 <;> rfl
structure Jp (r : Rb) : Prop where
 ok : Oh r = true
 by_ : ∀ x ∈ r.1, Nd x
def OE (r : Rb) (x : Int) : Rb × Int :=
 cond (decide ((((r.1.length + 1 : Nat)) : Int) < 6)) ((jf r.1 [x], r.2), 1)
  (cond (ZH (jf r.1 [x])).2.2 (cond ((ZH (jf r.1 [x])).1 == r.2.1) (([], r.2.1, r.2.2.1, 0, ()), 3) (([], (ZH (jf r.1 [x])).1, (ZH (jf r.1 [x])).2.1, 0, ()), 2)) (((jf r.1 [x]).drop 1, r.2), 1))
theorem MN {r : Rb} (h : Oh r = true) : r.1.length < 6 ∧ (-1 ≤ r.2.1 ∧ r.2.1 ≤ 255) ∧ (0 ≤ r.2.2.1 ∧ r.2.2.1 ≤ 16777215) ∧ (0 ≤ r.2.2.2.1 ∧ r.2.2.2.1 ≤ 20) := by
 simp only [Oh, jd, decide_eq_true_eq] at h
 exact h
theorem NW {b : List Int} {n m s : Int} (h1 : b.length < 6) (h2 : -1 ≤ n ∧ n ≤ 255) (h3 : 0 ≤ m ∧ m ≤ 16777215) (h4 : 0 ≤ s ∧ s ≤ 20) : Oh (b, n, m, s, ()) = true := by
 simp only [Oh, jd, decide_eq_true_eq]
 exact ⟨h1, h2, h3, h4⟩
theorem LU {b : List Int} (h : ∀ x ∈ b, Nd x) (i : Nat) : Nd (b.getD i 0) := by
 rw [qj]
 by_cases hi : i < b.length
 ·rw [je hi]; exact h _ (qs hi)
 ·rw [List.getElem?_eq_none (by omega)]; exact ⟨by decide, by decide⟩
theorem Car {r : Rb} {x : Int} (h : Jp r) (hx : Nd x) : Jp (OE r x).1 ∧ ((OE r x).2 = 1 ∨ (OE r x).2 = 2 ∨ (OE r x).2 = 3) := by
 have hb := MN h.ok
 have happ : ∀ y ∈ jf r.1 [x], Nd y := by
  intro y hy
  rcases jl.1 (show y ∈ r.1 ++ [x] from hy) with hy | hy
  ·exact h.by_ y hy
  ·rw [qe.1 hy]; exact hx
 have hlen : (jf r.1 [x]).length = r.1.length + 1 := by simp
 unfold OE
 by_cases h6 : (((r.1.length + 1 : Nat)) : Int) < 6
 ·rw [Ba h6]
  exact ⟨⟨NW (by omega) hb.2.1 hb.2.2.1 hb.2.2.2, happ⟩, .inl rfl⟩
 ·rw [Aa h6]
  simp only [cond_false]
  cases hf : (ZH (jf r.1 [x])).2.2 with
  | false =>
   refine ⟨⟨NW (by rw [qx]; omega) hb.2.1 hb.2.2.1 hb.2.2.2, fun y hy => happ y (qt hy)⟩, .inl rfl⟩
  | true =>
   simp only [cond_true]
   cases hn : (ZH (jf r.1 [x])).1 == r.2.1 with
   | true => exact ⟨⟨NW (by decide) hb.2.1 hb.2.2.1 ⟨by decide, by decide⟩, fun y hy => absurd hy (by simp)⟩, .inr (.inr rfl)⟩
   | false =>
    have e : C3 (jf r.1 [x]) = true := by
     cases hk : C3 (jf r.1 [x]) with
     | true => rfl
     | false => unfold ZH at hf; rw [hk] at hf; simp at hf
    have g1 := LU happ 1
    have g2 := LU happ 2
    have g3 := LU happ 3
    have g4 := LU happ 4
    unfold Nd at g1 g2 g3 g4
    refine ⟨⟨NW (by decide) ?_ ?_ ⟨by decide, by decide⟩, fun y hy => absurd hy (by simp)⟩, .inr (.inl rfl)⟩
    ·unfold ZH; rw [e]
     show -1 ≤ (jf r.1 [x]).getD 1 0 ∧ (jf r.1 [x]).getD 1 0 ≤ 255
     omega
    ·unfold ZH; rw [e]
     show 0 ≤ A9 (jf r.1 [x]) ∧ A9 (jf r.1 [x]) ≤ 16777215
     unfold A9
     omega
theorem Cai {r : Rb} {x : Int} (h : Jp r) (hx : Nd x) : Ix r x = some ((OE r x).1, (OE r x).2, ()) := by
 have hb := MN h.ok
 have hlim := Ud
 have happ : ∀ y ∈ jf r.1 [x], Nd y := by
  intro y hy
  rcases jl.1 (show y ∈ r.1 ++ [x] from hy) with hy | hy
  ·exact h.by_ y hy
  ·rw [qe.1 hy]; exact hx
 have hlen : (jf r.1 [x]).length = r.1.length + 1 := by simp
 have e0 : jf ([] : List Int) r.1 = r.1 := rfl
 unfold Ix OE
 rw [Br, h.ok, e0, show jx (ja ([] : List Int) + ja r.1) Sa = true from ji (by simp; omega), show jx (ja r.1 + ja ([x] : List Int)) Sa = true from ji (by simp only [jw, j8]; omega), hlen]
 simp only [jb, jg, cond_false, cond_true]
 by_cases h6 : (((r.1.length + 1 : Nat)) : Int) < 6
 ·rw [Ba h6]; rfl
 ·rw [Aa h6, T3 (by rw [hlen]; omega) happ]
  simp only [jb, cond_false]
  have hc : Ld (r.1.length + 1) (1 : Int) ((r.1.length + 1 : Nat) : Int) = true := Zh (lo := 1) (by omega) (jo _)
  have hc2 : Eb (jf r.1 [x]) (jy (1 : Int)) (jy ((r.1.length + 1 : Nat) : Int)) = (jf r.1 [x]).drop 1 := by
   rw [← hlen]; exact WX _ 1
  rw [hc, hc2]
  cases (ZH (jf r.1 [x])).2.2 with
  | false => rfl
  | true => cases (ZH (jf r.1 [x])).1 == r.2.1 <;> rfl
theorem Taj {r : Rb} {x : Int} (h : Jp r) (hx : Nd x) : Ky r x = some ((OE r x).1, (OE r x).2, ()) := by
 have hb := MN h.ok
 have hlim := Ud
 have happ : ∀ y ∈ jf r.1 [x], Nd y := by
  intro y hy
  rcases jl.1 (show y ∈ r.1 ++ [x] from hy) with hy | hy
  ·exact h.by_ y hy
  ·rw [qe.1 hy]; exact hx
 have hlen : (jf r.1 [x]).length = r.1.length + 1 := by simp
 have e0 : jf ([] : List Int) r.1 = r.1 := rfl
 unfold Ky OE
 rw [Ds, h.ok, e0, show jx (ja ([] : List Int) + ja r.1) Sa = true from ji (by simp; omega), show jx (ja r.1 + ja ([x] : List Int)) Sa = true from ji (by simp only [jw, j8]; omega), hlen]
 simp only [jb, jg, cond_false, cond_true]
 by_cases h6 : (((r.1.length + 1 : Nat)) : Int) < 6
 ·rw [Ba h6]; rfl
 ·rw [Aa h6, D4 (by rw [hlen]; omega) happ]
  simp only [jb, cond_false]
  have hc : Ld (r.1.length + 1) (1 : Int) ((r.1.length + 1 : Nat) : Int) = true := Zh (lo := 1) (by omega) (jo _)
  have hc2 : Eb (jf r.1 [x]) (jy (1 : Int)) (jy ((r.1.length + 1 : Nat) : Int)) = (jf r.1 [x]).drop 1 := by
   rw [← hlen]; exact WX _ 1
  rw [hc, hc2]
  cases (ZH (jf r.1 [x])).2.2 with
  | false => rfl
  | true => cases (ZH (jf r.1 [x])).1 == r.2.1 <;> rfl
def raG (s : Rb × List Int) (x : Int) : Rb × List Int := ((OE s.1 x).1, cond ((OE s.1 x).2 == 2) (jf s.2 [(OE s.1 x).1.2.2.1]) s.2)
def CO (r : Rb) (l : List Int) : Rb × List Int := Pd (fun _ s x => raG s x) 0 (r, []) l
structure Paf (k : Nat) (s : Rb × List Int) : Prop where
 ok : Jp s.1
 len : s.2.length ≤ k
theorem Bar {k : Nat} {s : Rb × List Int} {x : Int} (h : Paf k s) (hx : Nd x) : Paf (k + 1) (raG s x) := by
 refine ⟨(Car h.ok hx).1, ?_⟩
 have := h.len
 show (cond ((OE s.1 x).2 == 2) (jf s.2 [(OE s.1 x).1.2.2.1]) s.2).length ≤ k + 1
 cases (OE s.1 x).2 == 2
 ·show s.2.length ≤ k + 1; omega
 ·show (jf s.2 [(OE s.1 x).1.2.2.1]).length ≤ k + 1
  simp; omega
theorem Q4 {r : Rb} {l : List Int} (h : Jp r) (hl : ∀ x ∈ l, Nd x) (hn : l.length ≤ 1000) : LB r l = some ((CO r l).1, (CO r l).2, ()) ∧ Jp (CO r l).1 := by
 have hlim := Ud
 have hb := MN h.ok
 have hloop := Ce (step := fun x => Kp x.1.1 x.1.2.1 x.1.2.2.1 x.1.2.2.2.1 x.1.2.2.2.2.1 x.1.2.2.2.2.2.1 x.2.1 x.2.2.1) l (fun _ s x => raG s x)
  (fun s i => (((), (), s.2, l, ((ja l : Nat) : Int), i, ()), (s.1, (([] : List Int), (0 : Int), (0 : Int), (0 : Int), ()), ()))) (fun s => .inl (((), (), s.2, ()), (s.1, (([] : List Int), (0 : Int), (0 : Int), (0 : Int), ()), ()))) Paf (by
   intro k hk s hs
   have hx := hl l[k] (qs hk)
   refine ⟨?_, Bar hs hx⟩
   have hlen := hs.len
   simp only [Kp]
   rw [Ba (by omega), Jb hk]
   simp only [cond_true, jb]
   rw [Cai hs.ok hx]
   simp only [jb]
   rw [show jx (ja s.2 + ja ([(OE s.1 l[k]).1.2.2.1] : List Int)) Sa = true from ji (by simp only [jw, j8]; omega)]
   simp only [jb, cond_true]
   unfold raG
   cases (OE s.1 l[k]).2 == 2 <;> rfl) (by
   intro s hs
   simp only [Kp]
   rw [Aa (by omega)]; rfl) (by omega) (r, []) ⟨h, jo _⟩
 refine ⟨?_, hloop.2.ok⟩
 unfold LB
 rw [Br, h.ok, show jx (ja ([] : List Int) + ja r.1) Sa = true from ji (by simp; omega)]
 simp only [jb, jg, cond_false, cond_true]
 unfold Vs
 erw [hloop.1]
 rfl
theorem Zak {r : Rb} {l : List Int} (h : Jp r) (hl : ∀ x ∈ l, Nd x) (hn : l.length ≤ 1000) : SC r l = some ((CO r l).1, (CO r l).2, ()) := by
 have hlim := Ud
 have hb := MN h.ok
 have hloop := Ce (step := fun x => Yp x.1.1 x.1.2.1 x.1.2.2.1 x.1.2.2.2.1 x.1.2.2.2.2.1 x.2.1 x.2.2.1) l (fun _ s x => raG s x)
  (fun s i => ((l, (), s.2, (), i, ()), ((([] : List Int), (0 : Int), (0 : Int), (0 : Int), ()), s.1, ()))) (fun s => .inl (((), s.2, (), ()), ((([] : List Int), (0 : Int), (0 : Int), (0 : Int), ()), s.1, ()))) Paf (by
   intro k hk s hs
   have hx := hl l[k] (qs hk)
   refine ⟨?_, Bar hs hx⟩
   have hlen := hs.len
   simp only [Yp]
   rw [Ba (by omega), Jb hk]
   simp only [cond_true, jb]
   rw [Taj hs.ok hx]
   simp only [jb]
   rw [show jx (ja s.2 + ja ([(OE s.1 l[k]).1.2.2.1] : List Int)) Sa = true from ji (by simp only [jw, j8]; omega)]
   simp only [jb, cond_true]
   have h0 : ((OE s.1 l[k]).2 == 0) = false := by
    rcases (Car hs.ok hx).2 with e | e | e <;> rw [e] <;> rfl
   rw [h0]
   simp only [cond_false]
   unfold raG
   cases (OE s.1 l[k]).2 == 2 <;> rfl) (by
   intro s hs
   simp only [Yp]
   rw [Aa (by omega)]; rfl) (by omega) (r, []) ⟨h, jo _⟩
 unfold SC
 rw [show jx (ja ([] : List Int) + ja r.1) Sa = true from ji (by simp; omega)]
 simp only [cond_true]
 unfold Dt
 erw [hloop.1]
 simp only [jb, ql]
 rw [Ds]
 have e : Oh (CO r l).1 = true := hloop.2.ok.ok
 unfold CO at e ⊢
 rw [e]
 rfl
def SY (r : Rb) : Rb := cond (min (j5 .i64 (r.2.2.2.1 + 1)) 20 == 20) (r.1, -1, 0, min (j5 .i64 (r.2.2.2.1 + 1)) 20, ()) (r.1, r.2.1, r.2.2.1, min (j5 .i64 (r.2.2.2.1 + 1)) 20, ())
theorem RaF {r : Rb} (h : Jp r) : Jp (SY r) := by
 have hb := MN h.ok
 have hw : j5 .i64 (r.2.2.2.1 + 1) = r.2.2.2.1 + 1 := Ie (by omega) (by omega)
 unfold SY
 rw [hw]
 cases min (r.2.2.2.1 + 1) 20 == 20 with
 | true => exact ⟨NW hb.1 ⟨by decide, by decide⟩ ⟨by decide, by decide⟩ (by omega), h.by_⟩
 | false => exact ⟨NW hb.1 hb.2.1 hb.2.2.1 (by omega), h.by_⟩
theorem Wak {r : Rb} (h : Jp r) : MB r = some (SY r, ()) := by
 have hb := MN h.ok
 unfold MB SY
 rw [Br, h.ok, show jx (ja ([] : List Int) + ja r.1) Sa = true from ji (by rw [Ud]; simp; omega)]
 simp only [jb, jg, cond_false, cond_true]
 cases min (j5 .i64 (r.2.2.2.1 + 1)) 20 == 20 <;> rfl
theorem Cal {r : Rb} (h : Jp r) : UC r = some (SY r, ()) := by
 have hb := MN h.ok
 unfold UC SY
 rw [Ds, h.ok, show jx (ja ([] : List Int) + ja r.1) Sa = true from ji (by rw [Ud]; simp; omega)]
 rw [Int.min_comm 20]
 simp only [jb, jg, cond_false, cond_true]
 cases min (j5 .i64 (r.2.2.2.1 + 1)) 20 == 20 <;> rfl
def JD (f l : List Int) : List Int := cond (((ja l : Nat) : Int) == 0) f (cond (((ja l : Nat) : Int) == 6) (List.zipWith (Za .u8) f l) [])
theorem Vak {f l : List Int} (hf : f.length = 6) : KM f l = some (JD f l, ()) := by
 unfold KM JD
 cases ((ja l : Nat) : Int) == 0 with
 | true => rfl
 | false =>
  cases h6 : ((ja l : Nat) : Int) == 6 with
  | false => rfl
  | true =>
   have h6' : l.length = 6 := by have := eq_of_beq h6; omega
   obtain ⟨a, b, c, d, e, g, rfl⟩ := Rab h6'
   obtain ⟨x0, x1, x2, x3, x4, x5, rfl⟩ := Rab hf
   simp only [cond_false, cond_true]
   unfold QA
   rw [Bd (show (fun x => Ai x.1.1 x.1.2.1 x.1.2.2.1 x.1.2.2.2.1 x.1.2.2.2.2.1) (([a, b, c, d, e, g], ([] : List Int), [x0, x1, x2, x3, x4, x5], ((ja [x0, x1, x2, x3, x4, x5] : Nat) : Int), (0 : Int), ()), ()) = some (.inl (([a, b, c, d, e, g], [Za .u8 x0 a], [x0, x1, x2, x3, x4, x5], 6, 1, ()), ())) from rfl)]
   simp only [jb, ql]
   rw [Bd (show (fun x => Ai x.1.1 x.1.2.1 x.1.2.2.1 x.1.2.2.2.1 x.1.2.2.2.2.1) (([a, b, c, d, e, g], [Za .u8 x0 a], [x0, x1, x2, x3, x4, x5], 6, 1, ()), ()) = some (.inl (([a, b, c, d, e, g], [Za .u8 x0 a, Za .u8 x1 b], [x0, x1, x2, x3, x4, x5], 6, 2, ()), ())) from rfl)]
   simp only [jb, ql]
   rw [Bd (show (fun x => Ai x.1.1 x.1.2.1 x.1.2.2.1 x.1.2.2.2.1 x.1.2.2.2.2.1) (([a, b, c, d, e, g], [Za .u8 x0 a, Za .u8 x1 b], [x0, x1, x2, x3, x4, x5], 6, 2, ()), ()) = some (.inl (([a, b, c, d, e, g], [Za .u8 x0 a, Za .u8 x1 b, Za .u8 x2 c], [x0, x1, x2, x3, x4, x5], 6, 3, ()), ())) from rfl)]
   simp only [jb, ql]
   rw [Bd (show (fun x => Ai x.1.1 x.1.2.1 x.1.2.2.1 x.1.2.2.2.1 x.1.2.2.2.2.1) (([a, b, c, d, e, g], [Za .u8 x0 a, Za .u8 x1 b, Za .u8 x2 c], [x0, x1, x2, x3, x4, x5], 6, 3, ()), ()) = some (.inl (([a, b, c, d, e, g], [Za .u8 x0 a, Za .u8 x1 b, Za .u8 x2 c, Za .u8 x3 d], [x0, x1, x2, x3, x4, x5], 6, 4, ()), ())) from rfl)]
   simp only [jb, ql]
   rw [Bd (show (fun x => Ai x.1.1 x.1.2.1 x.1.2.2.1 x.1.2.2.2.1 x.1.2.2.2.2.1) (([a, b, c, d, e, g], [Za .u8 x0 a, Za .u8 x1 b, Za .u8 x2 c, Za .u8 x3 d], [x0, x1, x2, x3, x4, x5], 6, 4, ()), ()) = some (.inl (([a, b, c, d, e, g], [Za .u8 x0 a, Za .u8 x1 b, Za .u8 x2 c, Za .u8 x3 d, Za .u8 x4 e], [x0, x1, x2, x3, x4, x5], 6, 5, ()), ())) from rfl)]
   simp only [jb, ql]
   rw [Bd (show (fun x => Ai x.1.1 x.1.2.1 x.1.2.2.1 x.1.2.2.2.1 x.1.2.2.2.2.1) (([a, b, c, d, e, g], [Za .u8 x0 a, Za .u8 x1 b, Za .u8 x2 c, Za .u8 x3 d, Za .u8 x4 e], [x0, x1, x2, x3, x4, x5], 6, 5, ()), ()) = some (.inl (([a, b, c, d, e, g], [Za .u8 x0 a, Za .u8 x1 b, Za .u8 x2 c, Za .u8 x3 d, Za .u8 x4 e, Za .u8 x5 g], [x0, x1, x2, x3, x4, x5], 6, 6, ()), ())) from rfl)]
   simp only [jb, ql]
   rw [Bd (show (fun x => Ai x.1.1 x.1.2.1 x.1.2.2.1 x.1.2.2.2.1 x.1.2.2.2.2.1) (([a, b, c, d, e, g], [Za .u8 x0 a, Za .u8 x1 b, Za .u8 x2 c, Za .u8 x3 d, Za .u8 x4 e, Za .u8 x5 g], [x0, x1, x2, x3, x4, x5], 6, 6, ()), ()) = some (.inr (.inl (([Za .u8 x0 a, Za .u8 x1 b, Za .u8 x2 c, Za .u8 x3 d, Za .u8 x4 e, Za .u8 x5 g], ()), ()))) from rfl)]
   rfl
theorem Tae (x0 x1 x2 x3 x4 x5 a b c d e g : Int) :
 Eo (([a, b, c, d, e, g], [x0, x1, x2, x3, x4, x5], (0 : Int), ()), ()) = some (.inl (([Za .u8 x0 a, Za .u8 x1 b, Za .u8 x2 c, Za .u8 x3 d, Za .u8 x4 e, Za .u8 x5 g], ()), ())) := by
 unfold Eo
 rw [Bd (show (fun x => Ph x.1.1 x.1.2.1 x.1.2.2.1) (([a, b, c, d, e, g], [x0, x1, x2, x3, x4, x5], (0 : Int), ()), ()) = some (.inl (([a, b, c, d, e, g], [Za .u8 x0 a, x1, x2, x3, x4, x5], (1 : Int), ()), ())) from rfl)]
 simp only [jb, ql]
 rw [Bd (show (fun x => Ph x.1.1 x.1.2.1 x.1.2.2.1) (([a, b, c, d, e, g], [Za .u8 x0 a, x1, x2, x3, x4, x5], (1 : Int), ()), ()) = some (.inl (([a, b, c, d, e, g], [Za .u8 x0 a, Za .u8 x1 b, x2, x3, x4, x5], (2 : Int), ()), ())) from rfl)]
 simp only [jb, ql]
 rw [Bd (show (fun x => Ph x.1.1 x.1.2.1 x.1.2.2.1) (([a, b, c, d, e, g], [Za .u8 x0 a, Za .u8 x1 b, x2, x3, x4, x5], (2 : Int), ()), ()) = some (.inl (([a, b, c, d, e, g], [Za .u8 x0 a, Za .u8 x1 b, Za .u8 x2 c, x3, x4, x5], (3 : Int), ()), ())) from rfl)]
 simp only [jb, ql]
 rw [Bd (show (fun x => Ph x.1.1 x.1.2.1 x.1.2.2.1) (([a, b, c, d, e, g], [Za .u8 x0 a, Za .u8 x1 b, Za .u8 x2 c, x3, x4, x5], (3 : Int), ()), ()) = some (.inl (([a, b, c, d, e, g], [Za .u8 x0 a, Za .u8 x1 b, Za .u8 x2 c, Za .u8 x3 d, x4, x5], (4 : Int), ()), ())) from rfl)]
 simp only [jb, ql]
 rw [Bd (show (fun x => Ph x.1.1 x.1.2.1 x.1.2.2.1) (([a, b, c, d, e, g], [Za .u8 x0 a, Za .u8 x1 b, Za .u8 x2 c, Za .u8 x3 d, x4, x5], (4 : Int), ()), ()) = some (.inl (([a, b, c, d, e, g], [Za .u8 x0 a, Za .u8 x1 b, Za .u8 x2 c, Za .u8 x3 d, Za .u8 x4 e, x5], (5 : Int), ()), ())) from rfl)]
 simp only [jb, ql]
 rw [Bd (show (fun x => Ph x.1.1 x.1.2.1 x.1.2.2.1) (([a, b, c, d, e, g], [Za .u8 x0 a, Za .u8 x1 b, Za .u8 x2 c, Za .u8 x3 d, Za .u8 x4 e, x5], (5 : Int), ()), ()) = some (.inl (([a, b, c, d, e, g], [Za .u8 x0 a, Za .u8 x1 b, Za .u8 x2 c, Za .u8 x3 d, Za .u8 x4 e, Za .u8 x5 g], (6 : Int), ()), ())) from rfl)]
 simp only [jb, ql]
 rw [Bd (show (fun x => Ph x.1.1 x.1.2.1 x.1.2.2.1) (([a, b, c, d, e, g], [Za .u8 x0 a, Za .u8 x1 b, Za .u8 x2 c, Za .u8 x3 d, Za .u8 x4 e, Za .u8 x5 g], (6 : Int), ()), ()) = some (.inr (.inl (([Za .u8 x0 a, Za .u8 x1 b, Za .u8 x2 c, Za .u8 x3 d, Za .u8 x4 e, Za .u8 x5 g], ()), ()))) from rfl)]
 rfl
theorem OQ (n m : Int) : (Xi n m).length = 6 := rfl
theorem Bal {n m : Int} (l : List Int) (hn : Nd n) (hm : 0 ≤ m ∧ m ≤ 16777215) : EK n m l = some (JD (Xi n m) l, ()) := by
 unfold EK JD
 rw [Pae hn hm]
 simp only [jb]
 cases ((ja l : Nat) : Int) == 0 with
 | true => rfl
 | false =>
  rw [show (((ja l : Nat) : Int) != ((ja (Xi n m) : Nat) : Int)) = !(((ja l : Nat) : Int) == 6) from rfl]
  cases h6 : ((ja l : Nat) : Int) == 6 with
  | false => rfl
  | true =>
   have h6' : l.length = 6 := by have := eq_of_beq h6; omega
   obtain ⟨a, b, c, d, e, g, rfl⟩ := Rab h6'
   obtain ⟨x0, x1, x2, x3, x4, x5, hf⟩ := Rab (OQ n m)
   rw [hf]
   simp only [cond_false, cond_true, jg]
   rw [Tae]
   rfl
theorem R5 {f l : List Int} (hf : ∀ x ∈ f, Nd x) (h6 : f.length = 6) : (∀ x ∈ JD f l, Nd x) ∧ (JD f l).length ≤ 6 := by
 unfold JD
 cases ((ja l : Nat) : Int) == 0 with
 | true => exact ⟨hf, by show f.length ≤ 6; omega⟩
 | false =>
  cases ((ja l : Nat) : Int) == 6 with
  | false => exact ⟨by intro x hx; exact absurd hx (by simp), by simp⟩
  | true =>
   simp only [cond_false, cond_true]
   refine ⟨fun x hx => ?_, by rw [List.length_zipWith]; omega⟩
   have key : ∀ (f l : List Int), ∀ x ∈ List.zipWith (Za .u8) f l, Nd x := by
    intro f
    induction f with
    | nil => intro l x hx; exact absurd hx (by simp)
    | cons a f ih =>
     intro l
     cases l with
     | nil => intro x hx; exact absurd hx (by simp)
     | cons b l =>
      intro x hx
      rw [List.zipWith_cons_cons, jp] at hx
      rcases hx with rfl | hx
      ·unfold Za Nd
       rw [IF]
       omega
      ·exact ih l x hx
   exact key f l x hx
def IaV : Rb := (([] : List Int), (0 : Int), (0 : Int), (0 : Int), ())
def Kay : Gd := (AX, IaV, (0 : Int), ())
structure OS (h : Gd) : Prop where
 b : Yu h.1
 by_ : ∀ x ∈ h.2.1.1, Nd x
noncomputable def C9 (h : Gd) (a b : Int) : Bool := Ir h && (Oe (Dj h.1.1) a && Oe (Dj h.1.1) b)
def Iag (h : Gd) (far : Int) (noise : List Int) : Rb × List Int := CO h.2.1 (JD (Xi h.2.2.1 far) noise)
def H7 (h : Gd) (far : Int) (noise : List Int) : Rb := cond (((ja (Iag h far noise).2 : Nat) : Int) == 0) (SY (Iag h far noise).1) (Iag h far noise).1
def DB (h : Gd) (near far : Int) (noise : List Int) : Int := Nc .i64 near (Qa .i64 (Va .i64 (H7 h far noise).2.2.1 (j5 .i64 (Qa .i64 1 (Dj h.1.1) - 1))) (Dj h.1.1))
noncomputable def GZ (h : Gd) (near far : Int) (noise : List Int) : Gd × ((List Lf) × (Bool × Unit)) :=
 cond (C9 h near far && (Dq h.1 (DB h near far noise)).2.2.1)
  (((Dq h.1 (DB h near far noise)).1, H7 h far noise, Int.tmod (j5 .i64 (h.2.2.1 + 1)) 256, ()), (Dq h.1 (DB h near far noise)).2.1, true, ()) (Kay, [], false, ())
structure HtP (h : Gd) (near far : Int) : Prop where
 n : Nd h.2.2.1
 far : 0 ≤ far ∧ far ≤ 16777215
 rc : Oh h.2.1 = true
theorem BaE {h : Gd} {near far : Int} (hv : Ir h = true) (hf : Oe (Dj h.1.1) far = true) : HtP h near far := by
 have hb := D3 h.1.1
 obtain ⟨n, rfl, hn⟩ := JT hf
 have : 2 ^ (Dj h.1.1).toNat ≤ 2 ^ 12 := qn (by omega) (by omega)
 simp only [Ir, jd, decide_eq_true_eq] at hv
 exact ⟨by unfold Nd; omega, by omega, by simp_all⟩
theorem Taq {k x : Int} (hk : 0 ≤ k ∧ k ≤ 62) : ∀ {α : Type} (Y Z : α), cond (decide (x < 0)) Z (cond (decide (x ≥ Qa .i64 1 k)) Z Y) = cond (Oe k x) Y Z := by
 intro α Y Z
 rw [TW hk]
 unfold Oe
 by_cases h1 : x < 0
 ·rw [Ba h1, Aa (show ¬ (0 ≤ x ∧ x < ((2 ^ k.toNat : Nat) : Int)) by omega)]; rfl
 ·by_cases h2 : x ≥ ((2 ^ k.toNat : Nat) : Int)
  ·rw [Aa h1, Ba h2, Aa (show ¬ (0 ≤ x ∧ x < ((2 ^ k.toNat : Nat) : Int)) by omega)]; rfl
  ·rw [Aa h1, Aa h2, Ba (show (0 ≤ x ∧ x < ((2 ^ k.toNat : Nat) : Int)) by omega)]; rfl
theorem MaB {r : Rb} {l : List Int} (h : Jp r) (hl : ∀ x ∈ l, Nd x) (hn : l.length ≤ 1000) : Jp (CO r l).1 := (Q4 h hl hn).2
theorem PaQ {h : Gd} {near far : Int} {noise : List Int} (hh : OS h) (hp : HtP h near far) : Jp (H7 h far noise) := by
 have hr : Jp h.2.1 := ⟨hp.rc, hh.by_⟩
 have hb := BS hp.n hp.far
 have ha := R5 (l := noise) hb (OQ _ _)
 have h1 := MaB hr ha.1 (by omega)
 unfold H7 Iag
 cases ((ja (CO h.2.1 (JD (Xi h.2.2.1 far) noise)).2 : Nat) : Int) == 0
 ·exact h1
 ·exact RaF h1
theorem Cae (h : Gd) (near far : Int) (noise : List Int) (hh : OS h) : Dm h near far noise = some (GZ h near far noise) := by
 have hb := D3 h.1.1
 unfold Dm GZ C9
 rw [N6 _ hh.b, CT]
 cases hv : Ir h with
 | false => rfl
 | true =>
  simp only [jb, jg, cond_false, jk]
  rw [Ba (show 0 ≤ Dj h.1.1 by omega)]
  simp only [cond_true]
  rw [Taq (by omega), Taq (by omega)]
  cases h1 : Oe (Dj h.1.1) near with
  | false => rfl
  | true =>
   cases h2 : Oe (Dj h.1.1) far with
   | false => rfl
   | true =>
    have hp := BaE (near := near) hv h2
    have hr : Jp h.2.1 := ⟨hp.rc, hh.by_⟩
    have ha := R5 (l := noise) (BS hp.n hp.far) (OQ _ _)
    have hall := Q4 hr ha.1 (by omega)
    rw [HZ hp.n hp.far]
    simp only [jb, cond_true, jk]
    rw [Vak (OQ _ _)]
    simp only [jb]
    rw [hall.1]
    simp only [jb]
    have e : cond (((ja (CO h.2.1 (JD (Xi h.2.2.1 far) noise)).2 : Nat) : Int) == 0) (SY (CO h.2.1 (JD (Xi h.2.2.1 far) noise)).1) (CO h.2.1 (JD (Xi h.2.2.1 far) noise)).1 = H7 h far noise := rfl
    cases h0 : (((ja (CO h.2.1 (JD (Xi h.2.2.1 far) noise)).2 : Nat) : Int) == 0) with
    | true =>
     rw [h0] at e
     simp only [cond_true] at e ⊢
     rw [Wak hall.2, e]
     simp only [jb]
     show jz (Al h.1 (DB h near far noise)) _ = _
     rw [T0 _ _ hh.b]
     simp only [jb]
     cases (Dq h.1 (DB h near far noise)).2.2.1 <;> rfl
    | false =>
     rw [h0] at e
     simp only [cond_false] at e ⊢
     rw [e]
     show jz (Al h.1 (DB h near far noise)) _ = _
     rw [T0 _ _ hh.b]
     simp only [jb]
     cases (Dq h.1 (DB h near far noise)).2.2.1 <;> rfl
theorem Qae (h : Gd) (near far : Int) (noise : List Int) (hh : OS h) : Bs h near far noise = some (GZ h near far noise) := by
 have hb := D3 h.1.1
 unfold Bs GZ C9
 rw [O7 _ hh.b, VT]
 cases hv : Ir h with
 | false => rfl
 | true =>
  simp only [jb, jg, cond_false, jk]
  rw [Ba (show 0 ≤ Dj h.1.1 by omega), Mc, Mc, LS _ _ (show 0 ≤ Dj h.1.1 ∧ Dj h.1.1 ≤ 62 by omega), LS _ _ (show 0 ≤ Dj h.1.1 ∧ Dj h.1.1 ≤ 62 by omega)]
  simp only [cond_true, jb]
  cases h1 : Oe (Dj h.1.1) near with
  | false => rfl
  | true =>
   cases h2 : Oe (Dj h.1.1) far with
   | false => rfl
   | true =>
    have hp := BaE (near := near) hv h2
    have hr : Jp h.2.1 := ⟨hp.rc, hh.by_⟩
    have ha := R5 (l := noise) (BS hp.n hp.far) (OQ _ _)
    have hall := Zak hr ha.1 (by omega)
    have hall2 := MaB hr ha.1 (by omega)
    rw [Bal noise hp.n hp.far]
    simp only [jb, cond_true, jk, jg, cond_false]
    rw [hall]
    simp only [jb]
    have e : cond (((ja (CO h.2.1 (JD (Xi h.2.2.1 far) noise)).2 : Nat) : Int) == 0) (SY (CO h.2.1 (JD (Xi h.2.2.1 far) noise)).1) (CO h.2.1 (JD (Xi h.2.2.1 far) noise)).1 = H7 h far noise := rfl
    cases h0 : (((ja (CO h.2.1 (JD (Xi h.2.2.1 far) noise)).2 : Nat) : Int) == 0) with
    | true =>
     rw [h0] at e
     simp only [cond_true] at e ⊢
     rw [Cal hall2, e]
     simp only [jb]
     show jz (Dl h.1 (DB h near far noise)) _ = _
     rw [Y1 _ _ hh.b]
     simp only [jb]
     cases (Dq h.1 (DB h near far noise)).2.2.1 <;> rfl
    | false =>
     rw [h0] at e
     simp only [cond_false] at e ⊢
     rw [e]
     show jz (Dl h.1 (DB h near far noise)) _ = _
     rw [Y1 _ _ hh.b]
     simp only [jb]
     cases (Dq h.1 (DB h near far noise)).2.2.1 <;> rfl
theorem WaU (r : Rb) : Ha Tc r = r.1.length := by
 have h1 := Hl (e := Uh) rfl r.1
 simp only [Ha, Nat.add_zero, js] at h1 ⊢
 exact h1
theorem Ra6 (h : Gd) (near far : Int) (noise : List Int) (hh : OS h) : OS (GZ h near far noise).1 ∧ Ha Fe (GZ h near far noise).1 ≤ 4000 ∧ (GZ h near far noise).2.1.length ≤ 1088 ∧ (∀ y ∈ (GZ h near far noise).2.1, y.2.1.2.1.length ≤ 56) := by
 have h20 : Ea = 1048576 := rfl
 unfold GZ
 cases hc : C9 h near far && (Dq h.1 (DB h near far noise)).2.2.1 with
 | false =>
  simp only [cond_false]
  exact ⟨⟨⟨by decide, ⟨by decide, by decide, by decide, fun x hx => by simp [AX, Kay] at hx⟩, by decide⟩, fun x hx => by simp [Kay, IaV] at hx⟩, by decide, by simp, by simp⟩
 | true =>
  simp only [jd, C9] at hc
  have hp := BaE (near := near) hc.1.1 hc.1.2.2
  have hr := PaQ (near := near) (noise := noise) hh hp
  have ht := XaQ h.1 (DB h near far noise) hh.b
  have hrb := MN hr.ok
  simp only [cond_true]
  refine ⟨⟨ht.1, hr.by_⟩, ?_, ht.2.2.1, ht.2.2.2⟩
  rw [Fad]
  show Ha Ed (Dq h.1 (DB h near far noise)).1 + Ha Tc (H7 h far noise) ≤ 4000
  rw [WaU]
  omega
theorem QaL {h : Gd} (hr : Jj Fe h) (hz : Ha Fe h ≤ Ea) : OS h := by
 rw [Fad] at hz
 refine ⟨MaD h.1 hr.1 (by omega), fun x hx => ?_⟩
 obtain ⟨i, hi, rfl⟩ := qu hx
 have h1 := hr.2.1.1.2 i hi
 have h2 : IntKind.u8.has h.2.1.1[i] := h1
 unfold Nd
 have := h2
 simp only [IntKind.has] at this
 exact ⟨by have := this.1; rw [show IntKind.u8.min = 0 from rfl] at this; exact this, by have := this.2; rw [show IntKind.u8.max = 255 from rfl] at this; exact this⟩
theorem A8 (h : Gd) (near far : Int) (noise : List Int) (hr : Jj Fe h) (_ : Jj int near) (_ : Jj int far) (_ : Jj (.sl Uh) noise) (hz : Ha Fe h ≤ Ea) (_ : Ha (.sl Uh) noise ≤ Ea) :
 ∃ w0 w1 w2, Bs h near far noise = some (w0, w1, w2, ()) ∧ Dm h near far noise = some (w0, w1, w2, ()) ∧ Ha Fe w0 ≤ Ea ∧ Ha (.sl Wj) w1 ≤ Ea := by
 have h20 : Ea = 1048576 := rfl
 have hh := QaL hr hz
 have hs := Ra6 h near far noise hh
 refine ⟨(GZ h near far noise).1, (GZ h near far noise).2.1, (GZ h near far noise).2.2.1, Qae h near far noise hh, Cae h near far noise hh, by omega, ?_⟩
 have := TaQ hs.2.2.1 hs.2.2.2
 omega
structure Gbm (k : Nat) (s : Gd × List Lf) : Prop where
 ok : OS s.1
 len : s.2.length ≤ 1088 * k
 rep : ∀ y ∈ s.2, y.2.1.2.1.length ≤ 56
theorem Qab (a0 : Gd) (a1 : Int) (a2 : Int) (a3 : (List Int)) (hr0 : Jj Fe a0) (hr1 : Jj int a1) (hr2 : Jj int a2) (hr3 : Jj (.sl Uh) a3) : Ol a0 a1 a2 a3 = some (true, ()) := by
 have h20 : Ea = 1048576 := rfl
 have h40 : Qc = 1099511627776 := rfl
 unfold Ol
 by_cases l3 : ((ja a3 : Nat) : Int) > 1048576
 ·rw [Ba l3]; rfl
 rw [Aa l3]
 simp only [cond_false]
 have s0 := Hal a0 hr0 (1048576) (by omega)
 rw [show ((1048576 : Nat) : Int) = 1048576 from rfl] at s0
 rw [s0]
 simp only [jb]
 by_cases z0 : Ha Fe a0 ≤ 1048576
 case neg => rw [Gf z0]; rfl
 rw [Tg z0, Aa (by omega)]
 simp only [cond_false]
 have hz0 : Ha Fe a0 ≤ Ea := by omega
 have hz3 : Ha (.sl Uh) a3 ≤ Ea := by rw [Hl (e := Uh) rfl a3]; omega
 obtain ⟨w0, w1, w2, e1, e2, b0, b1⟩ := A8 a0 a1 a2 a3 hr0 hr1 hr2 hr3 hz0 hz3
 obtain ⟨x0, k0, g0, i0, m0, n0, _⟩ := KZ a0 1 (by omega)
 rw [show ((1 : Nat) : Int) = 1 from rfl] at m0 n0
 have d0 : decide ((k0 : Int) < 0) = false := Aa (by omega)
 obtain ⟨x1, k1, g1, i1, m1, n1, _⟩ := H1 a3 k0 (by omega)
 have d1 : decide ((k1 : Int) < 0) = false := Aa (by omega)
 obtain ⟨x2, k2, g2, i2, m2, n2, f2⟩ := KZ w0 1 (by omega)
 simp only [kf, true_and, and_true] at f2
 have q2 : (((w0.1.1, (w0.1.2.1.1, w0.1.2.1.2.1, w0.1.2.1.2.2.1, w0.1.2.1.2.2.2.1, w0.1.2.1.2.2.2.2.1, x2.1.2.1.2.2.2.2.2.1, ()), (x2.1.2.2.1.1, w0.1.2.2.1.2.1, x2.1.2.2.1.2.2.1, w0.1.2.2.1.2.2.2.1, w0.1.2.2.1.2.2.2.2.1, w0.1.2.2.1.2.2.2.2.2.1, x2.1.2.2.1.2.2.2.2.2.2.1, ()), (((w0.1.2.2.2.1.1.1.1, x2.1.2.2.2.1.1.1.2.1, ()), x2.1.2.2.2.1.1.2.1, w0.1.2.2.2.1.1.2.2.1, x2.1.2.2.2.1.1.2.2.2.1, w0.1.2.2.2.1.1.2.2.2.2), w0.1.2.2.2.1.2.1, x2.1.2.2.2.1.2.2.1, w0.1.2.2.2.1.2.2.2), w0.1.2.2.2.2), (x2.2.1.1, w0.2.1.2), w0.2.2) : Gd) = x2 := by simp only [Prod.ext_iff, f2, and_self]
 rw [show ((1 : Nat) : Int) = 1 from rfl] at m2 n2
 have d2 : decide ((k2 : Int) < 0) = false := Aa (by omega)
 obtain ⟨x3, k3, g3, i3, m3, n3, _⟩ := Baj w1 k2 (by omega)
 have d3 : decide ((k3 : Int) < 0) = false := Aa (by omega)
 simp only [e1, e2, Nal a0 hz0, J4 a0 (by omega), Paa a3 hz3, T8 a3 (by omega), J4 w0 (by omega), Haw w1 (by omega), m0, d0, m1, d1, q2, m2, d2, n2, m3, d3, n3, jb, bne_self_eq_false', jg, cond_false]
end KF
