/- An evaluator of Go functions on plain data, its soundness, and plain laws on what the functions compute, part 6 (conditions: as each lemma tells). -/
import Derived.Test.YtoncbegnhhcgmaaGreatE
set_option linter.unusedSimpArgs false
set_option linter.unusedVariables false
namespace KF
open Go
open List renaming length → ja, getElem?_eq_getElem → je, append → jf, mem_append → jl, mem_cons → jp, mem_cons_of_mem → jr, length_cons → jw, set → j6, length_nil → j8, length_set → j9, mem_singleton → qe, length_append → qf, getElem?_append_left → qh, getElem?_append_right → qi, getD_eq_getElem?_getD → qj, getElem_mem → qt, mem_of_mem_drop → qu, getElem_of_mem → qv, mem_map → qw, getElem?_set_self → qx, length_drop → qy, mem_cons_self → q0
open Option renaming bind_some → jb, bind → jz, map_some → qd, bind_eq_some_iff → qg
open Option.some renaming injEq → jc
open Bool renaming and_eq_true → jd, not_true → jg, true_and → jk, false_eq_true → jq, not_false → qa, not_eq_true → qb, false_and → qq, and_self → qr, eq_iff_iff → qz
open Prod.mk renaming injEq → jh
open Nat renaming ble_eq_true_of_le → ji, mul_le_mul_right → jm, le_refl → jo, zero_add → js, add_assoc → jt, eq_of_beq_eq_true → ju, ble → jx, le_trans → qc, shiftLeft_eq → qk, lt_of_lt_of_le → qm, pow_le_pow_right → qn, testBit_xor → qo, testBit_two_pow → qp, xor_lt_two_pow → qs
open Int renaming toNat_natCast → jn, eq_ofNat_of_zero_le → jv, toNat → jy
open Go.IntKind renaming wrap → j5
open Sum renaming elim → j7, elim_inl → ql
open Result renaming andThen_ok → q5
open Sem renaming run_bind → q6
theorem P6 {X R : Type} {step : X → Option (X ⊕ R)} {α S : Type} (xs : List α) (g : S → α → S) (I : S → Nat → X) (out : S → R) (Vi : Nat → S → Prop)
 (h : ∀ k (hk : k < xs.length) s, Vi k s → step (I s k) = some (.inl (I (g s xs[k]) (k + 1))) ∧ Vi (k + 1) (g s xs[k]))
 (he : ∀ s, Vi xs.length s → step (I s xs.length) = some (.inr (out s))) (s0 : S) (h0 : Vi 0 s0) :
 Ta step (I s0 0) = some (out (xs.foldl g s0)) ∧ Vi xs.length (xs.foldl g s0) := by
 have key : ∀ (ys : List α) (k : Nat) (s : S), xs.drop k = ys → k ≤ xs.length → Vi k s → Ta step (I s k) = some (out (ys.foldl g s)) ∧ Vi xs.length (ys.foldl g s) := by
  intro ys
  induction ys with
  | nil =>
   intro k s hd hle hi
   have := LZ hd hle
   subst this
   rw [Dd (he s hi)]
   exact ⟨rfl, hi⟩
  | cons y ys ih =>
   intro k s hd hle hi
   obtain ⟨hk, hy, hd'⟩ := TR hd
   obtain ⟨h1, h2⟩ := h k hk s hi
   rw [Dd h1, hy]
   rw [hy] at h2
   exact ih (k + 1) _ hd' hk h2
 exact key xs 0 s0 rfl (Nat.zero_le _) h0
def Ms (s : List Qe) (w : Int) (l : List Ka) : List Qe := jf s (l.map fun r => ((w, r, ()) : Qe))
theorem H2 (w : Int) : ∀ (l : List Ka) (s : List Qe), l.foldl (fun s r => jf s [((w, r, ()) : Qe)]) s = Ms s w l
 | [], s => by simp [Ms]
 | x :: l, s => by
  rw [List.foldl_cons, H2 w l]
  simp [Ms]
theorem K3 (s : List Qe) (w : Int) (l : List Ka) : (Ms s w l).length = s.length + l.length := by simp [Ms]
theorem Zaj (s : List Qe) (w : Int) (l : List Ka) (hl : l.length ≤ 1000) (hs : s.length ≤ 1000000) : WR s w l = some (Ms s w l, ()) := by
 have h := (P6 (step := fun x => DK x.1.1 x.1.2.1 x.1.2.2.1 x.1.2.2.2.1 x.1.2.2.2.2.1) l (fun s r => jf s [((w, r, ()) : Qe)])
  (fun o k => ((o, w, (l, (k : Int)), ((ja l : Nat) : Int), (k : Int), ()), ())) (fun o => .inl ((o, ()), ())) (fun k o => o.length = s.length + k) (by
   intro k hk o ho
   refine ⟨?_, by simp [ho]; omega⟩
   simp only [DK]
   rw [Ba (by omega), Ag, Ba hk, jn, je hk]
   simp only [cond_true, jb, Nat.beq_refl]
   rw [show jx (ja o + ja ([(w, l[k], ())] : List Qe)) Qa = true from ji (by simp only [jw, j8]; rw [Rd]; omega)]
   rw [Kc (by omega)]
   rfl) (by
   intro o ho
   simp only [DK]
   rw [Aa (by omega)]; rfl) s rfl).1
 unfold WR NL
 erw [h]
 rw [H2]
 rfl
theorem HV (s : List Qe) (w : Int) (l : List Ka) (d : Ib) (hl : l.length ≤ 1000) (hs : s.length ≤ 1000000) :
 Bj (((), s, w, (l, (0 : Int)), (0 : Int), ()), (d, ())) = some (.inl (((), Ms s w l, w, ()), (d, ()))) := by
 have h := (P6 (step := fun x => Kz x.1.1 x.1.2.1 x.1.2.2.1 x.1.2.2.2.1 x.1.2.2.2.2.1 x.2.1) l (fun s r => jf s [((w, r, ()) : Qe)])
  (fun o k => (((), o, w, (l, (k : Int)), (k : Int), ()), (d, ()))) (fun o => .inl (((), o, w, ()), (d, ()))) (fun k o => o.length = s.length + k) (by
   intro k hk o ho
   refine ⟨?_, by simp [ho]; omega⟩
   simp only [Kz]
   rw [Ba (by omega), Ag, Ba hk, jn, je hk]
   simp only [cond_true, jb, Nat.beq_refl]
   rw [show jx (ja o + ja ([(w, l[k], ())] : List Qe)) Qa = true from ji (by simp only [jw, j8]; rw [Rd]; omega)]
   rw [Kc (by omega)]
   rfl) (by
   intro o ho
   simp only [Kz]
   rw [Aa (by omega)]; rfl) s rfl).1
 unfold Bj
 erw [h]
 rw [H2]
noncomputable def Hg : Nat → Ib → List Qe → Ib × List Qe
 | 0, d, s => (d, s)
 | n + 1, d, s => match d.2.2.1 with
  | [] => (d, s)
  | x :: r => match Jn d x r with
   | none => (d, s)
   | some (d', l) => Hg n d' (Ms s d'.2.2.2.2.1 l)
theorem Gal {d d' : Ib} {x : Ca} {r : List Ca} {l : List Ka} (hs : Jn d x r = some (d', l)) :
 d' = (d'.1, d.2.1, r, d.2.2.2.1, d'.2.2.2.2.1, d'.2.2.2.2.2.1, d'.2.2.2.2.2.2.1, ()) := by
 unfold Jn at hs
 revert hs
 generalize (cond ((d.2.2.2.2.2.1 == j5 .i64 (x.2.1 + 1)) && !decide (j5 .i64 (x.1 - d.2.2.2.2.2.2.1) ≥ d.2.1.2.1)) ((1 : Int), x.1) ((Hm d.2.1 x.2.1 x.1 r d.2.2.2.1).1, (Hm d.2.1 x.2.1 x.1 r d.2.2.2.1).2.1)) = ch
 generalize Gg _ = b1
 cases x.2.2.1 <;> cases b1 <;> cases h0 : ch.1 == 0 <;>
  simp only [jg, qa, cond_true, cond_false, jc, jh, reduceCtorEq, false_implies, h0, and_imp] <;> (intro h1 _; subst h1; rfl)
theorem N6 (z : Ib) : ∀ (n : Nat) (d : Ib) (s : List Qe), VT d → d.2.2.1.length ≤ n → s.length + 17 * n ≤ 100000 →
 Vg (((), (), s, ()), (z, d, ())) = some (.inl (((), (), (Hg n d s).2, ()), (z, (Hg n d s).1, ())))
 | n, d, s, h, hl, hs => by
  unfold Vg
  cases hq : d.2.2.1 with
  | nil =>
   have e1 : Hg n d s = (d, s) := by
    cases n with
    | zero => rfl
    | succ n => simp only [Hg, hq]
   have hstep : Uh () () s z d = some (.inr (.inl (((), (), s, ()), (z, d, ())))) := by
    unfold Uh
    rw [hq, Aa (by simp)]; rfl
   erw [Dd hstep]
   rw [e1]; rfl
  | cons x r =>
   have hlen : d.2.2.1.length = r.length + 1 := by rw [hq]; rfl
   cases n with
   | zero => omega
   | succ n =>
    have e1 : Hg (n + 1) d s = match Jn d x r with
     | none => (d, s)
     | some (d', l) => Hg n d' (Ms s d'.2.2.2.2.1 l) := by simp only [Hg, hq]
    rw [e1]
    have hp := Zaa h hq
    cases hst : Jn d x r with
    | none =>
     have hstep : Uh () () s z d = some (.inr (.inl (((), (), s, ()), (z, d, ())))) := by
      unfold Uh
      rw [Ba (by rw [hlen]; omega)]
      show (jz (Ki d) _) = _
      rw [hp, hst]; rfl
     erw [Dd hstep]; rfl
    | some p =>
     obtain ⟨d', l⟩ := p
     have hn := Vad h hq hst
     have hstep : Uh () () s z d = some (.inl (((), (), Ms s d'.2.2.2.2.1 l, ()), (z, d', ()))) := by
      unfold Uh
      rw [Ba (by rw [hlen]; omega)]
      show (jz (Ki d) _) = _
      rw [hp, hst]
      show jz (WR s d'.2.2.2.2.1 l) _ = _
      rw [Zaj _ _ _ (by have := hn.2.2.1; omega) (by omega)]
      rfl
     erw [Dd hstep]
     have ih := N6 z n d' (Ms s d'.2.2.2.2.1 l) hn.1 (by rw [hn.2.1]; omega) (by rw [K3]; have := hn.2.2.1; omega)
     unfold Vg at ih
     exact ih
theorem V6 : ∀ (n : Nat) (d : Ib) (s : List Qe), VT d → d.2.2.1.length ≤ n → s.length + 17 * n ≤ 100000 →
 Ak (((), s, ()), (d, ())) = some (.inl (((), (Hg n d s).2, ()), ((Hg n d s).1, ()))) ∨ Ak (((), s, ()), (d, ())) = some (.inr (((), (Hg n d s).2, ()), ((Hg n d s).1, ())))
 | n, d, s, h, hl, hs => by
  unfold Ak
  cases hq : d.2.2.1 with
  | nil =>
   have e1 : Hg n d s = (d, s) := by
    cases n with
    | zero => rfl
    | succ n => simp only [Hg, hq]
   have hstep : Yi () s d = some (.inr (.inl (((), s, ()), (d, ())))) := by
    unfold Yi
    rw [hq, Aa (by simp)]; rfl
   refine .inl ?_
   erw [Dd hstep]
   rw [e1]; rfl
  | cons x r =>
   have hlen : d.2.2.1.length = r.length + 1 := by rw [hq]; rfl
   cases n with
   | zero => omega
   | succ n =>
    have e1 : Hg (n + 1) d s = match Jn d x r with
     | none => (d, s)
     | some (d', l) => Hg n d' (Ms s d'.2.2.2.2.1 l) := by simp only [Hg, hq]
    rw [e1]
    have h64 := h.len
    have hc := CU x r (by omega)
    have hb : jx (ja ([] : List Ca) + ja r) Qa = true := ji (by simp; rw [Rd]; omega)
    have i0 : Af (ja (x :: r)) (0 : Int) = true := by rw [show (0 : Int) = ((0 : Nat) : Int) from rfl, Ag]; exact Ba (by simp)
    have g0 : (x :: r)[(jy (0 : Int))]? = some x := rfl
    have pre : Yi () s d = Yi () s d := rfl
    conv at pre => rhs; unfold Yi
    rw [Ba (show ((ja d.2.2.1 : Nat) : Int) > 0 by rw [hlen]; omega), hq, i0, g0] at pre
    simp only [cond_true, jb] at pre
    have Pi : ∀ (s' : List Qe) (w : Int) (e' : Ib), e'.2.2.1 = x :: r → (jz (some (Sum.inl (((), s', w, ()), (e', ()))) : Option (((Unit × List Qe × Int × Unit) × Ib × Unit) ⊕ Unit)) (j7 (fun y43 => (cond (Ld (ja y43.2.1.2.2.1) (1 : Int) ((ja y43.2.1.2.2.1 : Nat) : Int))
     (cond (jx (ja ([] : List Ca) + ja (Gb y43.2.1.2.2.1 (jy (1 : Int)) (jy ((ja y43.2.1.2.2.1 : Nat) : Int)))) Qa)
     (some (.inl (((), y43.1.2.1, ()), ((((y43.2.1.1.1.1, y43.2.1.1.1.2.1, ()), y43.2.1.1.2), y43.2.1.2.1, (jf ([] : List Ca) (Gb y43.2.1.2.2.1 (jy (1 : Int)) (jy ((ja y43.2.1.2.2.1 : Nat) : Int)))), y43.2.1.2.2.2.1, y43.1.2.2.1, y43.2.1.2.2.2.2.2), ()))) : Option (((Unit × List Qe × Unit) × Ib × Unit) ⊕ (((Unit × List Qe × Unit) × Ib × Unit) ⊕ ((Unit × List Qe × Unit) × Ib × Unit))))
     none)
     none)) (fun z44 => none))) = some (.inl (((), s', ()), ((e'.1, e'.2.1, r, e'.2.2.2.1, w, e'.2.2.2.2.2), ()))) := by
     intro s' w e' he
     simp only [jb, ql, he, hc.1, hc.2, hb, cond_true]
     rfl
    cases hst : Jn d x r with
    | none =>
     have hd : x.2.2.1 = true := by
      cases hd : x.2.2.1 with
      | true => rfl
      | false =>
       unfold Jn at hst
       rw [hd] at hst
       simp at hst
     have hstep : Yi () s d = some (.inr (.inr (((), s, ()), (d, ())))) := by
      rw [pre, hd]
      show (jz (Uw d x (max d.2.2.2.2.1 x.1)) _) = _
      rw [T3 h hq hd, hst]; rfl
     refine .inr ?_
     erw [Dd hstep]; rfl
    | some p =>
     obtain ⟨d', l⟩ := p
     have hn := Vad h hq hst
     have hsh := Gal hst
     have hl' := hn.2.2.1
     have hstep : Yi () s d = some (.inl (((), Ms s d'.2.2.2.2.1 l, ()), (d', ()))) := by
      rw [pre]
      cases hd : x.2.2.1 with
      | true =>
       simp only [cond_true]
       show (jz (Uw d x (max d.2.2.2.2.1 x.1)) _) = _
       rw [T3 h hq hd, hst]
       simp only [jb, jg, cond_false]
       rw [HV _ _ _ _ (by omega) (by omega)]
       refine (Pi (Ms s d'.2.2.2.2.1 l) d'.2.2.2.2.1 (d'.1, d.2.1, d.2.2.1, d.2.2.2.1, d.2.2.2.2.1, d'.2.2.2.2.2.1, d'.2.2.2.2.2.2.1, ()) hq).trans ?_
       rw [hsh]
      | false =>
       simp only [cond_false]
       obtain ⟨hi, hi1, hi2⟩ := (MZ h hq).up hd
       show (jz (TF d.1 x.2.1) _) = _
       rw [K9 h.eng hi hi1]
       unfold Jn at hst
       rw [hd] at hst
       simp only [qa, cond_true, jc, jh] at hst
       obtain ⟨rfl, rfl⟩ := hst
       simp only [jb]
       cases d.2.2.2.2.2.1 == j5 .i64 (x.2.1 + 1) with
       | true =>
        simp only [cond_true]
        rw [HV _ _ _ _ (by omega) (by omega)]
        exact Pi _ _ _ rfl
       | false =>
        simp only [cond_false]
        rw [HV _ _ _ _ (by omega) (by omega)]
        exact Pi _ _ _ hq
     have ih := V6 n d' (Ms s d'.2.2.2.2.1 l) hn.1 (by rw [hn.2.1]; omega) (by rw [K3]; omega)
     unfold Ak at ih
     erw [Dd hstep]
     exact ih
theorem Cae (d : Ib) (h : VT d) : DB d = some ((Hg d.2.2.1.length d []).1, ((Hg d.2.2.1.length d []).2, ())) := by
 have h64 := h.len
 unfold DB
 rcases V6 d.2.2.1.length d [] h (jo _) (by simp; omega) with h1 | h1 <;> (rw [h1]; rfl)
def O9 : Ib := ((((0 : Int), ([] : List (List Db)), ()), ([] : List (List Ad)), (0 : Int), ([] : List Sa), (0 : Int), false, ()), ((0 : Int), (0 : Int), (0 : Int), ()), ([] : List Ca), (0 : Int), (0 : Int), (0 : Int), (0 : Int), ())
def HaN (l : List Ca) : Int := (l.headD (0, 0, false, ())).1
def Pg (l : List Ca) (t : Int) : Bool := ((l.length : Int) == 0) || !decide (HaN l < t)
noncomputable def CB (d : Ib) (l : List Ca) (til : Int) : Bool :=
 Pf d && (decide (d.2.2.2.1 ≤ til ∧ til ≤ 1000000) && (Pg l d.2.2.2.1 && (Sf l til && Ud (jf d.2.2.1 l) (Uu d.1.2.2.2.1) d.1.1.1)))
def Gt (d : Ib) (l : List Ca) (til : Int) : Ib := (d.1, d.2.1, jf d.2.2.1 l, til, d.2.2.2.2)
noncomputable def UO (d : Ib) (l : List Ca) (til : Int) : Ib × ((List Qe) × (Bool × Unit)) :=
 cond (CB d l til) ((Hg (Gt d l til).2.2.1.length (Gt d l til) []).1, (Hg (Gt d l til).2.2.1.length (Gt d l til) []).2, true, ()) (O9, [], false, ())
theorem BQ {q : List Ca} {d k : Int} (h : Ud q d k = true) : q.length ≤ 64 := by
 simp only [Ud, jd, CQ] at h
 by_cases h1 : q.length ≤ 64
 ·exact h1
 ·rw [Aa h1] at h; simp at h
theorem Yac {d : Ib} {l : List Ca} {til : Int} (hd : Pf d = true) (hf : Ud (jf d.2.2.1 l) (Uu d.1.2.2.2.1) d.1.1.1 = true) : VT (Gt d l til) := by
 have he : Jx d.1 := by
  rw [← Zac]
  simp only [Pf, jd] at hd
  exact hd.1
 obtain ⟨m, hm, hm2⟩ := TaS he.hd
 refine ⟨he, BQ hf, ?_, m, 0, hm2, ?_⟩
 ·have h1 := hf
  simp only [Ud, jd, Eab] at h1
  have h2 := h1.1
  intro x hx
  have h3 := (J7 (p := fun x : Ca => !decide (x.2.1 ≥ d.1.1.1))).1 h2 x hx
  simp only [Bool.not_eq_true', decide_eq_false_iff_not] at h3
  show x.2.1 < d.1.1.1
  omega
 ·have := B8 hf
  rw [hm] at this
  exact this
theorem RZ {l : List Ca} (h : 0 < l.length) : ∃ x, Xa l (0 : Int) = some x ∧ x.1 = HaN l := by
 cases l with
 | nil => simp at h
 | cons x l => exact ⟨x, rfl, rfl⟩
theorem L2 (d : Ib) (l : List Ca) (til : Int) (hz : Ha Ic d ≤ Ea) (hl : l.length ≤ 1000000) : FC d l til = some (UO d l til) := by
 have h20 : Ea = 1048576 := rfl
 have hz' := hz
 rw [LN, Uz] at hz'
 have hz2 := hz'
 rw [Bm, Pl] at hz2
 have hlapp : (jf d.2.2.1 l).length = d.2.2.1.length + l.length := by simp
 have hlim : jx (ja d.2.2.1 + ja l) Qa = true := ji (by rw [Rd]; omega)
 unfold FC UO
 rw [XS _ hz, Ku _ _ (by omega), HP _ hz]
 cases hd : Pf d with
 | false => rw [show CB d l til = false by unfold CB; rw [hd]; rfl]; rfl
 | true =>
  have hh : ∀ x ∈ d.1.2.2.2.1, Jv x := by
   have : Sj d.1 = true := by simp only [Pf, jd] at hd; exact hd.1
   exact Mo (ZA this)
  have h64 : d.2.2.1.length ≤ 64 := by
   simp only [Pf, jd] at hd
   exact BQ hd.2.2.2.2.1
  rw [LL _ (by omega) hh]
  simp only [jb, jg, cond_false, hlim, cond_true]
  rw [Lu _ _ _ (by rw [hlapp]; omega)]
  simp only [jb]
  have key : ∀ (K : Option (Ib × ((List Qe) × (Bool × Unit)))), (Ud (jf d.2.2.1 l) (Uu d.1.2.2.2.1) d.1.1.1 = true → K = some ((Hg (Gt d l til).2.2.1.length (Gt d l til) []).1, (Hg (Gt d l til).2.2.1.length (Gt d l til) []).2, true, ())) →
   (cond (decide (til < d.2.2.2.1)) (some (O9, [], false, ())) (cond (decide (til > 1000000)) (some (O9, [], false, ())) (cond (!Pg l d.2.2.2.1) (some (O9, [], false, ())) (cond (!Sf l til) (some (O9, [], false, ())) (cond (!Ud (jf d.2.2.1 l) (Uu d.1.2.2.2.1) d.1.1.1) (some (O9, [], false, ())) K))))) =
   some (cond (CB d l til) ((Hg (Gt d l til).2.2.1.length (Gt d l til) []).1, (Hg (Gt d l til).2.2.1.length (Gt d l til) []).2, true, ()) (O9, [], false, ())) := by
   intro K hK
   unfold CB
   rw [hd]
   by_cases h1 : til < d.2.2.2.1
   ·rw [Ba h1, Aa (show ¬ (d.2.2.2.1 ≤ til ∧ til ≤ 1000000) by omega)]; rfl
   ·by_cases h2 : til > 1000000
    ·rw [Aa h1, Ba h2, Aa (show ¬ (d.2.2.2.1 ≤ til ∧ til ≤ 1000000) by omega)]; rfl
    ·rw [Aa h1, Aa h2, Ba (show (d.2.2.2.1 ≤ til ∧ til ≤ 1000000) by omega)]
     cases Pg l d.2.2.2.1 with
     | false => rfl
     | true =>
      cases Sf l til with
      | false => rfl
      | true =>
       cases hq : Ud (jf d.2.2.1 l) (Uu d.1.2.2.2.1) d.1.1.1 with
       | false => rfl
       | true => exact hK hq
  have hrun : Ud (jf d.2.2.1 l) (Uu d.1.2.2.2.1) d.1.1.1 = true → ∀ z : Ib, Vg (((), (), ([] : List Qe), ()), (z, (d.1, d.2.1, jf d.2.2.1 l, til, d.2.2.2.2), ())) = some (.inl (((), (), (Hg (Gt d l til).2.2.1.length (Gt d l til) []).2, ()), (z, (Hg (Gt d l til).2.2.1.length (Gt d l til) []).1, ()))) := by
   intro hq z
   have h1 := Yac (til := til) hd hq
   have := h1.len
   exact N6 z _ (Gt d l til) [] h1 (jo _) (by simp; omega)
  by_cases h0 : l.length = 0
  ·have hna : Pg l d.2.2.2.1 = true := by unfold Pg; rw [h0]; rfl
   rw [Aa (show ¬ ((ja l : Nat) : Int) > 0 by omega)]
   simp only [cond_false]
   simp only [hna, jg, cond_false] at key
   exact key _ (fun hq => by rw [hrun hq]; rfl)
  ·obtain ⟨x, hx, hx1⟩ := RZ (l := l) (by omega)
   have hna : Pg l d.2.2.2.1 = !decide (x.1 < d.2.2.2.1) := by
    unfold Pg
    rw [show ((l.length : Int) == 0) = false by simp; intro h; rw [h] at h0; simp at h0, hx1]; rfl
   rw [Ba (show ((ja l : Nat) : Int) > 0 by omega), hx]
   simp only [cond_true, jb]
   simp only [hna, Bool.not_not] at key
   exact key _ (fun hq => by rw [hrun hq]; rfl)
theorem P3 (d : Ib) (l : List Ca) (til : Int) (hz : Ha Ic d ≤ Ea) (hl : l.length ≤ 1000000) : LD d l til = some (UO d l til) := by
 have h20 : Ea = 1048576 := rfl
 have hz' := hz
 rw [LN, Uz] at hz'
 have hz2 := hz'
 rw [Bm, Pl] at hz2
 have hlapp : (jf d.2.2.1 l).length = d.2.2.1.length + l.length := by simp
 have hn : jf ([] : List Ca) d.2.2.1 = d.2.2.1 := rfl
 have hlim : jx (ja d.2.2.1 + ja l) Qa = true := ji (by rw [Rd]; omega)
 have hlim2 : jx (ja ([] : List Ca) + ja d.2.2.1) Qa = true := ji (by rw [Rd]; simp; omega)
 unfold LD UO
 rw [hn, hlim, hlim2, AT _ hz, Oc, TH _ (by omega)]
 simp only [cond_true]
 cases hd : Pf d with
 | false => rw [show CB d l til = false by unfold CB; rw [hd]; rfl]; rfl
 | true =>
  have hh : ∀ x ∈ d.1.2.2.2.1, Jv x := by
   have : Sj d.1 = true := by simp only [Pf, jd] at hd; exact hd.1
   exact Mo (ZA this)
  have h64 : d.2.2.1.length ≤ 64 := by
   simp only [Pf, jd] at hd
   exact BQ hd.2.2.2.2.1
  rw [AP _ (by omega) hh]
  simp only [jb, jg, cond_false]
  rw [Ws _ _ _ (by rw [hlapp]; omega)]
  simp only [jb]
  unfold CB
  rw [hd]
  cases decide (d.2.2.2.1 ≤ til ∧ til ≤ 1000000) with
  | false => rfl
  | true =>
   cases hq : Ud (jf d.2.2.1 l) (Uu d.1.2.2.2.1) d.1.1.1 with
   | false => simp only [Bool.and_false]; rfl
   | true =>
    have hrun : DB (d.1, d.2.1, jf d.2.2.1 l, til, d.2.2.2.2) = _ := Cae (Gt d l til) (Yac hd hq)
    simp only [jg, cond_false, jk, Bool.and_true]
    rw [hrun]
    by_cases h0 : l.length = 0
    ·rw [Aa (show ¬ ((ja l : Nat) : Int) > 0 by omega)]
     rw [show Pg l d.2.2.2.1 = true by unfold Pg; rw [h0]; rfl, show Sf l til = true by unfold Sf; rw [h0]; rfl]
     rfl
    ·obtain ⟨x, hx, hx1⟩ := RZ (l := l) (by omega)
     obtain ⟨y, hy, hy1⟩ := GU (l := l) (by omega) (by omega)
     rw [Ba (show ((ja l : Nat) : Int) > 0 by omega), hx, hy]
     simp only [cond_true, jb]
     have e0 : ((l.length : Int) == 0) = false := by simp; intro h; rw [h] at h0; simp at h0
     rw [show Pg l d.2.2.2.1 = !decide (x.1 < d.2.2.2.1) by unfold Pg; rw [e0, hx1]; rfl]
     rw [show Sf l til = !decide (y.1 > til) by
      unfold Sf; rw [e0, hy1]
      rw [Bool.false_or, qz]; simp only [decide_eq_true_eq, Bool.not_eq_true', decide_eq_false_iff_not]; omega]
     cases decide (x.1 < d.2.2.2.1) <;> cases decide (y.1 > til) <;> rfl
def rowN (C m r : Nat) : Nat := (m >>> (r * C)) &&& (2 ^ C - 1)
theorem PQ (C m r j : Nat) : (rowN C m r).testBit j = (decide (j < C) && m.testBit (r * C + j)) := by
 unfold rowN
 rw [Nat.testBit_and, Nat.testBit_two_pow_sub_one, Nat.testBit_shiftRight, Bool.and_comm]
theorem ES (C m r : Nat) : rowN C m r < 2 ^ C := by
 unfold rowN
 rw [Nat.and_two_pow_sub_one_eq_mod]
 exact Nat.mod_lt _ (Nat.two_pow_pos C)
theorem Lal (C m a x r : Nat) (hx : x < 2 ^ C) : rowN C (m ||| x <<< (a * C)) r = if r = a then rowN C m a ||| x else rowN C m r := by
 apply Nat.eq_of_testBit_eq
 intro j
 rw [PQ, Nat.testBit_or, Nat.testBit_shiftLeft]
 by_cases hj : j < C
 ·by_cases hr : r = a
  ·subst hr
   rw [if_pos rfl, Nat.testBit_or, PQ, Ba hj, Ba (show r * C + j ≥ r * C by omega), show r * C + j - r * C = j by omega]
   simp
  ·rw [if_neg hr, PQ, Ba hj]
   have : (decide (r * C + j ≥ a * C) && x.testBit (r * C + j - a * C)) = false := by
    by_cases h1 : r < a
    ·have h2 : (r + 1) * C ≤ a * C := jm C h1
     rw [Nat.add_mul, Nat.one_mul] at h2
     rw [Aa (show ¬ r * C + j ≥ a * C by omega)]; rfl
    ·have h2 : (a + 1) * C ≤ r * C := jm C (by omega)
     rw [Nat.add_mul, Nat.one_mul] at h2
     have h3 : x.testBit (r * C + j - a * C) = false := by
      apply Nat.testBit_lt_two_pow
      exact qm hx (qn (by omega) (by omega))
     rw [h3, Bool.and_false]
   rw [this, Bool.or_false]
 ·have h3 : x.testBit j = false := Nat.testBit_lt_two_pow (qm hx (qn (by omega) (by omega)))
  rw [Aa hj]
  by_cases hr : r = a
  ·rw [if_pos hr, Nat.testBit_or, PQ, Aa hj, h3]; rfl
  ·rw [if_neg hr, PQ, Aa hj]; rfl
theorem Nal {C x a R : Nat} (hx : x < 2 ^ C) (ha : a < R) : x <<< (a * C) < 2 ^ (R * C) := by
 rw [qk]
 have h1 : x * 2 ^ (a * C) < 2 ^ C * 2 ^ (a * C) := Nat.mul_lt_mul_of_pos_right hx (Nat.two_pow_pos _)
 rw [← Nat.pow_add] at h1
 have h2 : (a + 1) * C ≤ R * C := jm C ha
 rw [Nat.add_mul, Nat.one_mul] at h2
 exact qm h1 (qn (by omega) (by omega))
def Sz (C a b m : Nat) : Nat := cond (rowN C m a &&& rowN C m b != 0) (m ||| rowN C m b <<< (a * C)) m
theorem JaT {C a b m R : Nat} (hm : m < 2 ^ (R * C)) (ha : a < R) : Sz C a b m < 2 ^ (R * C) := by
 unfold Sz
 cases rowN C m a &&& rowN C m b != 0 with
 | false => exact hm
 | true => exact Nat.or_lt_two_pow hm (Nal (ES C m b) ha)
theorem XR {S : Type} {g : Nat → S → S} {p : S → Prop} {s0 : S} {n : Nat} (h0 : p s0) (hs : ∀ k s, k < n → p s → p (g k s)) : ∀ k, k ≤ n → p (Ze g k s0)
 | 0, _ => h0
 | k + 1, h => hs k _ (by omega) (XR h0 hs k (by omega))
def g3 (C a : Nat) : Nat → Nat → Nat := fun b m => Sz C a b m
def g2 (C R : Nat) : Nat → Nat → Nat := fun a m => Ze (g3 C a) R m
def g1 (C R : Nat) : Nat → Nat → Nat := fun _ m => Ze (g2 C R) R m
def Fq (C R m : Nat) : Nat := Ze (g1 C R) R m
theorem Pay {C R m a : Nat} (hm : m < 2 ^ (R * C)) (ha : a < R) (k : Nat) (hk : k ≤ R) : Ze (g3 C a) k m < 2 ^ (R * C) :=
 XR (p := fun m => m < 2 ^ (R * C)) (n := R) hm (fun b s _ hs => JaT hs ha) k hk
theorem Oay {C R m : Nat} (hm : m < 2 ^ (R * C)) (k : Nat) (hk : k ≤ R) : Ze (g2 C R) k m < 2 ^ (R * C) :=
 XR (p := fun m => m < 2 ^ (R * C)) (n := R) hm (fun a s ha hs => Pay hs ha R (jo _)) k hk
theorem Nay {C R m : Nat} (hm : m < 2 ^ (R * C)) (k : Nat) (hk : k ≤ R) : Ze (g1 C R) k m < 2 ^ (R * C) :=
 XR (p := fun m => m < 2 ^ (R * C)) (n := R) hm (fun _ s _ hs => Oay hs R (jo _)) k hk
structure UM (C R : Nat) : Prop where
 c1 : 1 ≤ C
 c2 : C ≤ 6
 r1 : 1 ≤ R
 r2 : R ≤ 4
theorem Q4 {C R r : Nat} (h : UM C R) (hr : r ≤ R) : r * C ≤ 24 := qc (Nat.mul_le_mul (qc hr h.r2) h.c2) (by decide)
theorem DU {C R m : Nat} (h : UM C R) (hm : m < 2 ^ (R * C)) : m < 2 ^ 63 := qm hm (qn (by omega) (by have := Q4 h (jo R); omega))
theorem AY {C R m : Nat} (h : UM C R) (r : Nat) : rowN C m r < 2 ^ 63 := qm (ES C m r) (qn (by omega) (by have := h.c2; omega))
theorem ST {C R r : Nat} (h : UM C R) (hr : r ≤ R) : j5 .i64 ((r : Int) * (C : Int)) = ((r * C : Nat) : Int) := by
 have := Q4 h hr
 rw [← Int.natCast_mul]
 generalize r * C = z at *
 exact Je (by omega) (by omega)
theorem Dat {C R m r : Nat} (h : UM C R) (hm : m < 2 ^ 63) (hr : r ≤ R) :
 Wa .i64 (Wb .i64 (m : Int) (j5 .i64 ((r : Int) * (C : Int)))) (j5 .i64 (Ra .i64 1 (C : Int) - 1)) = ((rowN C m r : Nat) : Int) := by
 have h1 := Q4 h hr
 have h2 := h.c2
 have hp := Hal (k := C) (by omega)
 have hsh : m >>> (r * C) ≤ m := by rw [Nat.shiftRight_eq_div_pow]; exact Nat.div_le_self _ _
 have e : j5 .i64 (((2 ^ C : Nat) : Int) - 1) = ((2 ^ C - 1 : Nat) : Int) := by
  generalize 2 ^ C = z at hp
  rw [Je (by omega) (by omega)]; omega
 rw [ST h hr, PU m (by omega), Ml (by omega), e, FQ (by omega) (by rw [Hx]; generalize 2 ^ C = z at hp; omega)]
 rfl
theorem U6 {C R m r : Nat} (h : UM C R) (d : Bool) (hm : m < 2 ^ 63) (hr : r ≤ R) : SH ((R : Int), (C : Int), d, ()) (m : Int) (r : Int) = some (((rowN C m r : Nat) : Int), ()) := by
 unfold SH
 rw [Dat h hm hr]
 rw [ST h hr, Ba (Int.natCast_nonneg _), Ba (Int.natCast_nonneg C)]
 rfl
theorem NaD {C R m a x : Nat} (h : UM C R) (hm : m < 2 ^ (R * C)) (ha : a < R) (hx : x < 2 ^ C) :
 Pc .i64 (m : Int) (Ra .i64 (x : Int) (j5 .i64 ((a : Int) * (C : Int)))) = ((m ||| x <<< (a * C) : Nat) : Int) := by
 have h1 := Q4 h (Nat.le_of_lt ha)
 have h2 := Nal hx ha
 have h3 : x <<< (a * C) < 2 ^ 63 := DU h h2
 rw [ST h (Nat.le_of_lt ha), L8 (by rw [← qk]; exact h3) (by omega), Ew (DU h hm) h3]
theorem RaA (x y : Nat) (hx : x < 2 ^ 63) (hy : y < 2 ^ 63) : (Wa .i64 (x : Int) (y : Int) != 0) = (x &&& y != 0) := by
 rw [FQ hx hy, qz]
 simp
theorem Oaz {C R m a : Nat} (h : UM C R) (d : Bool) (hm : m < 2 ^ (R * C)) (ha : a < R) (t : Int) :
 WB (((), (m : Int), t, (a : Int), (0 : Int), ()), (((R : Int), (C : Int), d, ()), ())) = some (.inl (((), ((g2 C R a m : Nat) : Int), t, (a : Int), ()), (((R : Int), (C : Int), d, ()), ()))) := by
 have hr2 := h.r2
 have := Hh (step := fun x => Pz x.1.1 x.1.2.1 x.1.2.2.1 x.1.2.2.2.1 x.1.2.2.2.2.1 x.2.1) R (by omega) (g3 C a) m (fun s i => (((), (s : Int), t, (a : Int), i, ()), (((R : Int), (C : Int), d, ()), ()))) (fun s => .inl (((), (s : Int), t, (a : Int), ()), (((R : Int), (C : Int), d, ()), ())))
  (by
   intro k hk
   have hs := Pay hm ha k (by omega)
   generalize Ze (g3 C a) k m = s at *
   have hs63 := DU h hs
   simp only [Pz]
   rw [Ba (show (k : Int) < (R : Int) by omega), U6 h d hs63 (by omega), U6 h d hs63 (by omega)]
   simp only [cond_true, jb]
   rw [RaA _ _ (AY h _) (AY h _), NaD h hs ha (ES C s k), ST h (by omega), Ba (Int.natCast_nonneg _)]
   unfold g3 Sz
   cases (rowN C s a &&& rowN C s k != 0) <;> rfl)
  (by
   simp only [Pz]
   rw [Aa (by omega)]; rfl)
 exact this
theorem Naz {C R m : Nat} (h : UM C R) (d : Bool) (hm : m < 2 ^ (R * C)) (t : Int) :
 AG (((), (m : Int), t, (0 : Int), ()), (((R : Int), (C : Int), d, ()), ())) = some (.inl (((), ((Ze (g2 C R) R m : Nat) : Int), t, ()), (((R : Int), (C : Int), d, ()), ()))) := by
 have hr2 := h.r2
 have := Hh (step := fun x => UD x.1.1 x.1.2.1 x.1.2.2.1 x.1.2.2.2.1 x.2.1) R (by omega) (g2 C R) m (fun s i => (((), (s : Int), t, i, ()), (((R : Int), (C : Int), d, ()), ()))) (fun s => .inl (((), (s : Int), t, ()), (((R : Int), (C : Int), d, ()), ())))
  (by
   intro k hk
   have hs := Oay hm k (by omega)
   generalize Ze (g2 C R) k m = s at *
   simp only [UD]
   rw [Ba (show (k : Int) < (R : Int) by omega), Oaz h d hs hk]; rfl)
  (by
   simp only [UD]
   rw [Aa (by omega)]; rfl)
 exact this
theorem Sal {C R m : Nat} (h : UM C R) (d : Bool) (hm : m < 2 ^ (R * C)) : Xt ((R : Int), (C : Int), d, ()) (m : Int) = some (((cond d m (Fq C R m) : Nat) : Int), ()) := by
 have hr2 := h.r2
 unfold Xt
 cases d with
 | true => rfl
 | false =>
  have := Hh (step := fun x => SD x.1.1 x.1.2.1 x.1.2.2.1 x.2.1) R (by omega) (g1 C R) m (fun s i => (((), (s : Int), i, ()), (((R : Int), (C : Int), false, ()), ()))) (fun s => .inl (((s : Int), ()), ()))
   (by
    intro k hk
    have hs := Nay hm k (by omega)
    generalize Ze (g1 C R) k m = s at *
    simp only [SD]
    rw [Ba (show (k : Int) < (R : Int) by omega), Naz h false hs]; rfl)
   (by
    simp only [SD]
    rw [Aa (by omega)]; rfl)
  unfold ZF
  simp only [cond_false]
  erw [this]
  rfl
def Mj (C m : Nat) : List Int := [((rowN C m 0 : Nat) : Int), ((rowN C m 1 : Nat) : Int), ((rowN C m 2 : Nat) : Int), ((rowN C m 3 : Nat) : Int)]
theorem lt4 {r : Nat} (h : r < 4) : r = 0 ∨ r = 1 ∨ r = 2 ∨ r = 3 := by omega
theorem J3 {C m r : Nat} (h : r < 4) : (Mj C m)[r]? = some ((rowN C m r : Nat) : Int) := by
 rcases lt4 h with rfl | rfl | rfl | rfl <;> rfl
theorem UaD {C m a x : Nat} (ha : a < 4) (hx : x < 2 ^ C) : (Mj C m).set a (((rowN C m a ||| x : Nat)) : Int) = Mj C (m ||| x <<< (a * C)) := by
 unfold Mj
 simp only [Lal C m a x _ hx]
 rcases lt4 ha with rfl | rfl | rfl | rfl <;> simp
theorem NaG {C m r : Nat} (h : r < 4) : Af (ja (Mj C m)) (r : Int) = true := by
 rw [Ag]; exact Ba h
theorem Vay {C R m a : Nat} (h : UM C R) (d : Bool) (hm : m < 2 ^ (R * C)) (ha : a < R) (t1 t2 t3 t4 : Int) :
 GI (((), Mj C m, (a : Int), t1, t2, t3, t4, (R : Int), (0 : Int), ()), (((R : Int), (C : Int), d, ()), ())) = some (.inl (((), Mj C (g2 C R a m), t1, t2, t3, t4, ()), (((R : Int), (C : Int), d, ()), ()))) := by
 have hr2 := h.r2
 have := Hh (step := fun x => QG x.1.1 x.1.2.1 x.1.2.2.1 x.1.2.2.2.1 x.1.2.2.2.2.1 x.1.2.2.2.2.2.1 x.1.2.2.2.2.2.2.1 x.1.2.2.2.2.2.2.2.1 x.1.2.2.2.2.2.2.2.2.1 x.2.1) R (by omega) (g3 C a) m
  (fun s i => (((), Mj C s, (a : Int), t1, t2, t3, t4, (R : Int), i, ()), (((R : Int), (C : Int), d, ()), ()))) (fun s => .inl (((), Mj C s, t1, t2, t3, t4, ()), (((R : Int), (C : Int), d, ()), ())))
  (by
   intro k hk
   have hs := Pay hm ha k (by omega)
   generalize Ze (g3 C a) k m = s at *
   simp only [QG]
   have hlen : Nat.beq 4 (ja (Mj C s)) = true := rfl
   rw [Ba (show (k : Int) < (R : Int) by omega), hlen, NaG (show a < 4 by omega), NaG (show k < 4 by omega)]
   simp only [jn, cond_true]
   rw [J3 (show a < 4 by omega), J3 (show k < 4 by omega)]
   simp only [jb]
   rw [RaA _ _ (AY h _) (AY h _), Ew (AY h _) (AY h _), UaD (show a < 4 by omega) (ES C s k)]
   unfold g3 Sz
   cases (rowN C s a &&& rowN C s k != 0) <;> rfl)
  (by
   simp only [QG]
   rw [Aa (by omega)]; rfl)
 exact this
theorem Uay {C R m : Nat} (h : UM C R) (d : Bool) (hm : m < 2 ^ (R * C)) (t1 t2 : Int) :
 FI (((), Mj C m, t1, t2, (R : Int), (0 : Int), ()), (((R : Int), (C : Int), d, ()), ())) = some (.inl (((), Mj C (Ze (g2 C R) R m), t1, t2, ()), (((R : Int), (C : Int), d, ()), ()))) := by
 have hr2 := h.r2
 have := Hh (step := fun x => PG x.1.1 x.1.2.1 x.1.2.2.1 x.1.2.2.2.1 x.1.2.2.2.2.1 x.1.2.2.2.2.2.1 x.2.1) R (by omega) (g2 C R) m
  (fun s i => (((), Mj C s, t1, t2, (R : Int), i, ()), (((R : Int), (C : Int), d, ()), ()))) (fun s => .inl (((), Mj C s, t1, t2, ()), (((R : Int), (C : Int), d, ()), ())))
  (by
   intro k hk
   have hs := Oay hm k (by omega)
   generalize Ze (g2 C R) k m = s at *
   simp only [PG]
   rw [Ba (show (k : Int) < (R : Int) by omega), Vay h d hs hk]; rfl)
  (by
   simp only [PG]
   rw [Aa (by omega)]; rfl)
 exact this
theorem Tay {C R m : Nat} (h : UM C R) (d : Bool) (hm : m < 2 ^ (R * C)) :
 EI (((), Mj C m, (R : Int), (0 : Int), ()), (((R : Int), (C : Int), d, ()), ())) = some (.inl (((), Mj C (Fq C R m), ()), (((R : Int), (C : Int), d, ()), ()))) := by
 have hr2 := h.r2
 have := Hh (step := fun x => OG x.1.1 x.1.2.1 x.1.2.2.1 x.1.2.2.2.1 x.2.1) R (by omega) (g1 C R) m
  (fun s i => (((), Mj C s, (R : Int), i, ()), (((R : Int), (C : Int), d, ()), ()))) (fun s => .inl (((), Mj C s, ()), (((R : Int), (C : Int), d, ()), ())))
  (by
   intro k hk
   have hs := Nay hm k (by omega)
   generalize Ze (g1 C R) k m = s at *
   simp only [OG]
   rw [Ba (show (k : Int) < (R : Int) by omega), Uay h d hs]; rfl)
  (by
   simp only [OG]
   rw [Aa (by omega)]; rfl)
 exact this
def VI (C m k : Nat) : List Int := [0, 1, 2, 3].map fun r => if r < k then ((rowN C m r : Nat) : Int) else 0
theorem UaH {C R m r : Nat} (hm : m < 2 ^ (R * C)) (hr : R ≤ r) : rowN C m r = 0 := by
 unfold rowN
 have : m >>> (r * C) = 0 := by
  rw [Nat.shiftRight_eq_div_pow]
  apply Nat.div_eq_of_lt
  exact qm hm (qn (by omega) (jm C hr))
 rw [this, Nat.zero_and]
theorem Kay {C R m : Nat} (hm : m < 2 ^ (R * C)) : VI C m R = Mj C m := by
 have key : ∀ r, (if r < R then ((rowN C m r : Nat) : Int) else 0) = ((rowN C m r : Nat) : Int) := by
  intro r
  by_cases h : r < R
  ·rw [if_pos h]
  ·rw [if_neg h, UaH hm (by omega)]; rfl
 unfold VI Mj
 simp only [List.map_cons, List.map_nil, key]
theorem Lay {C m k : Nat} (hk : k < 4) : (VI C m k).set k ((rowN C m k : Nat) : Int) = VI C m (k + 1) := by
 rcases lt4 hk with rfl | rfl | rfl | rfl <;> simp [VI]
theorem VaB {C R m : Nat} (h : UM C R) (d : Bool) (hm : m < 2 ^ (R * C)) :
 ML (((m : Int), (), List.replicate 4 (0 : Int), (R : Int), (0 : Int), ()), (((R : Int), (C : Int), d, ()), ())) = some (.inl (((), Mj C m, ()), (((R : Int), (C : Int), d, ()), ()))) := by
 have hr2 := h.r2
 have := Gx (step := fun x => BK x.1.1 x.1.2.1 x.1.2.2.1 x.1.2.2.2.1 x.1.2.2.2.2.1 x.2.1) (fun k => (((m : Int), (), VI C m k, (R : Int), (k : Int), ()), (((R : Int), (C : Int), d, ()), ()))) R (.inl (((), Mj C m, ()), (((R : Int), (C : Int), d, ()), ())))
  (by
   intro k hk
   simp only [BK]
   have hlen : Nat.beq 4 (ja (VI C m k)) = true := rfl
   have hin : Af (ja (VI C m k)) (k : Int) = true := by rw [Ag]; exact Ba (show k < 4 by omega)
   have hget : ∃ y, (VI C m k)[k]? = some y := ⟨(VI C m k)[k]'(show k < 4 by omega), je _⟩
   obtain ⟨y, hy⟩ := hget
   rw [Ba (show (k : Int) < (R : Int) by omega), Dat h (DU h hm) (by omega), ST h (by omega), Ba (Int.natCast_nonneg _), Ba (Int.natCast_nonneg C), hlen, hin]
   simp only [jn, cond_true]
   rw [hy]
   simp only [jb]
   rw [Lay (by omega), Kc (by omega)])
  (by
   simp only [BK]
   rw [Aa (by omega), Kay hm]; rfl)
 exact this
theorem Eak {C m : Nat} : ∀ k, ∀ j, (Ze (fun i s => s ||| rowN C m i <<< (i * C)) k 0).testBit j = (decide (j < k * C) && m.testBit j)
 | 0, j => by simp [Ze]
 | k + 1, j => by
  simp only [Ze]
  rw [Nat.testBit_or, Eak k j, Nat.testBit_shiftLeft, PQ, Nat.add_mul, Nat.one_mul]
  by_cases h1 : j < k * C
  ·rw [Ba h1, Aa (show ¬ j ≥ k * C by omega), Ba (show j < k * C + C by omega)]; simp
  ·rw [Aa h1, Ba (show j ≥ k * C by omega), show k * C + (j - k * C) = j by omega]
   by_cases h2 : j < k * C + C
   ·rw [Ba h2, Ba (show j - k * C < C by omega)]; simp
   ·rw [Aa h2, Aa (show ¬ j - k * C < C by omega)]; simp
theorem PaG {C R m : Nat} (hm : m < 2 ^ (R * C)) : Ze (fun i s => s ||| rowN C m i <<< (i * C)) R 0 = m := by
 apply Nat.eq_of_testBit_eq
 intro j
 rw [Eak]
 by_cases h : j < R * C
 ·rw [Ba h]; rfl
 ·rw [Aa h, Nat.testBit_lt_two_pow (qm hm (qn (by omega) (by omega)))]; rfl
theorem HaO {C R m : Nat} (k : Nat) (hk : k ≤ R) : Ze (fun i s => s ||| rowN C m i <<< (i * C)) k 0 < 2 ^ (R * C) :=
 XR (p := fun s => s < 2 ^ (R * C)) (n := R) (Nat.two_pow_pos _) (fun i s hi hs => Nat.or_lt_two_pow hs (Nal (ES C m i) hi)) k hk
theorem WaB {C R m : Nat} (h : UM C R) (d : Bool) (hm : m < 2 ^ (R * C)) :
 HI (((), Mj C m, (0 : Int), (R : Int), (0 : Int), ()), (((R : Int), (C : Int), d, ()), ())) = some (.inl (((m : Int), ()), ())) := by
 have hr2 := h.r2
 have := Hh (step := fun x => RG x.1.1 x.1.2.1 x.1.2.2.1 x.1.2.2.2.1 x.1.2.2.2.2.1 x.2.1) R (by omega) (fun i s => s ||| rowN C m i <<< (i * C)) 0
  (fun (s : Nat) i => (((), Mj C m, (s : Int), (R : Int), i, ()), (((R : Int), (C : Int), d, ()), ()))) (fun s => .inl (((s : Int), ()), ()))
  (by
   intro k hk
   have hs := HaO (C := C) (R := R) (m := m) k (by omega)
   generalize Ze (fun i s => s ||| rowN C m i <<< (i * C)) k 0 = s at *
   have hlen : Nat.beq 4 (ja (Mj C m)) = true := rfl
   simp only [RG]
   rw [Ba (show (k : Int) < (R : Int) by omega), hlen, NaG (show k < 4 by omega)]
   simp only [jn, cond_true]
   rw [J3 (show k < 4 by omega)]
   simp only [jb]
   rw [NaD h hs hk (ES C m k), ST h (by omega), Ba (Int.natCast_nonneg _)]; rfl)
  (by
   simp only [RG]
   rw [Aa (by omega)]; rfl)
 rw [PaG hm] at this
 exact this
theorem Ial {C R m : Nat} (hm : m < 2 ^ (R * C)) : Fq C R m < 2 ^ (R * C) := Nay hm R (jo _)
theorem Yaj {C R m : Nat} (h : UM C R) (d : Bool) (hm : m < 2 ^ (R * C)) : XE ((R : Int), (C : Int), d, ()) (m : Int) = some (((cond d m (Fq C R m) : Nat) : Int), ()) := by
 unfold XE
 cases d with
 | true => rfl
 | false =>
  simp only [cond_false]
  rw [VaB h false hm]
  simp only [jb, ql]
  rw [Tay h false hm]
  simp only [jb, ql]
  rw [WaB h false (Ial hm)]
  rfl
def Ip (M : Ce) (x : Int) : Int := ((cond M.2.2.1 x.toNat (Fq M.2.1.toNat M.1.toNat x.toNat) : Nat) : Int)
theorem TL {M : Ce} {x : Int} (h : Jd M x = true) : ∃ C R m : Nat, ∃ d : Bool, M = ((R : Int), (C : Int), d, ()) ∧ x = (m : Int) ∧ UM C R ∧ m < 2 ^ (R * C) := by
 obtain ⟨r, c, d, u⟩ := M
 simp only [Jd, jd, Oe, decide_eq_true_eq] at h
 have hm := h.1
 simp only [Ig, decide_eq_true_eq] at hm
 obtain ⟨R, rfl⟩ := jv (show 0 ≤ r by omega)
 obtain ⟨C, rfl⟩ := jv (show 0 ≤ c by omega)
 obtain ⟨m, rfl⟩ := jv h.2.1
 refine ⟨C, R, m, d, rfl, rfl, ⟨by omega, by omega, by omega, by omega⟩, ?_⟩
 have hk : Yc ((R : Int), (C : Int), d, u) = ((R * C : Nat) : Int) := by
  unfold Yc; rw [h.1]; simp
 rw [hk, jn] at h
 exact Int.ofNat_lt.1 h.2.2
theorem KZ {C R m : Nat} {d : Bool} (h : UM C R) (hm : m < 2 ^ (R * C)) : Jd ((R : Int), (C : Int), d, ()) (m : Int) = true := by
 have h1 := h.c1; have h2 := h.c2; have h3 := h.r1; have h4 := h.r2
 have hM : Ig ((R : Int), (C : Int), d, ()) = true := by simp only [Ig, decide_eq_true_eq]; omega
 have hk : Yc ((R : Int), (C : Int), d, ()) = ((R * C : Nat) : Int) := by
  unfold Yc; rw [hM]; simp
 simp only [Jd, hM, hk, Oe, jn, jk, decide_eq_true_eq]
 exact ⟨Int.natCast_nonneg _, Int.ofNat_lt.2 hm⟩
theorem DS {C R m : Nat} {d : Bool} : Ip ((R : Int), (C : Int), d, ()) (m : Int) = ((cond d m (Fq C R m) : Nat) : Int) := by
 unfold Ip
 simp only [jn]
theorem Lad {M : Ce} {x : Int} (h : Jd M x = true) : XE M x = some (Ip M x, ()) := by
 obtain ⟨C, R, m, d, rfl, rfl, hd, hm⟩ := TL h
 rw [Yaj hd d hm, DS]
theorem Iae {M : Ce} {x : Int} (h : Jd M x = true) : Xt M x = some (Ip M x, ()) := by
 obtain ⟨C, R, m, d, rfl, rfl, hd, hm⟩ := TL h
 rw [Sal hd d hm, DS]
theorem SaD {M : Ce} {x : Int} (h : Jd M x = true) : Jd M (Ip M x) = true := by
 obtain ⟨C, R, m, d, rfl, rfl, hd, hm⟩ := TL h
 rw [DS]
 cases d with
 | true => exact KZ hd hm
 | false => exact KZ hd (Ial hm)
def Tj (M : Ce) (x : Int) : Bool := Jd M x && (Ip M x == x)
theorem CI (M : Ce) (x : Int) : To M x = some (Tj M x, ()) := by
 unfold To Tj
 rw [Wv]
 cases h : Jd M x with
 | false => rfl
 | true => simp only [jb, cond_true, jk]; rw [Lad h]; rfl
theorem Cv (M : Ce) (x : Int) : Xo M x = some (Tj M x, ()) := by
 unfold Xo Tj
 rw [Sw]
 cases h : Jd M x with
 | false => rfl
 | true => simp only [jb, cond_true, jk]; rw [Iae h]; rfl
theorem Q3 (M : Ce) (x : Int) : MD M x = some (cond (Jd M x) (Ip M x) 0, Jd M x, ()) := by
 unfold MD
 rw [Sw]
 cases h : Jd M x with
 | false => rfl
 | true => simp only [jb, jg, cond_false, cond_true]; rw [Iae h]; rfl
theorem Rae {M : Ce} {x : Int} {k : Nat} (h : Jd M x = true) (hk : k ≤ 62) : Jd M (Mb .i64 x (Ra .i64 1 (k : Int))) = true := by
 obtain ⟨C, R, m, d, rfl, rfl, hd, hm⟩ := TL h
 rw [Ml hk, J2 (DU hd hm) (Gj hk)]
 exact KZ hd (qs hm (Nat.lt_of_le_of_lt Nat.and_le_left hm))
def K7 (M : Ce) (x : Int) (k : Nat) : Bool := (Kd x (k : Int) == 1) && (Ip M (Mb .i64 x (Ra .i64 1 (k : Int))) == x)
theorem VaA {x : Nat} {k : Nat} (hx : x < 2 ^ 63) (hk : k ≤ 64) : Kd (x : Int) (k : Int) = 0 ∨ Kd (x : Int) (k : Int) = 1 := by
 unfold Kd
 have h1 : x >>> k ≤ x := by rw [Nat.shiftRight_eq_div_pow]; exact Nat.div_le_self _ _
 rw [PU x hk]
 show Wa .i64 ((x >>> k : Nat) : Int) ((1 : Nat) : Int) = _ ∨ Wa .i64 ((x >>> k : Nat) : Int) ((1 : Nat) : Int) = _
 rw [FQ (by omega) (by decide), Nat.and_one_is_mod]
 omega
theorem Wai {M : Ce} {x : Int} {k : Nat} (h : Jd M x = true) (hk : k ≤ 64) : (Kd x (k : Int) == 0) = !(Kd x (k : Int) == 1) := by
 obtain ⟨C, R, m, d, rfl, rfl, hd, hm⟩ := TL h
 rcases VaA (DU hd hm) hk with h | h <;> rw [h] <;> rfl
theorem D5 {M : Ce} {x : Int} (h : Tj M x = true) : Jd M x = true ∧ 1 ≤ Yc M ∧ Yc M ≤ 24 := by
 simp only [Tj, jd] at h
 have h2 := h.1
 simp only [Jd, jd] at h2
 exact ⟨h.1, Dab h2.1⟩
theorem H1 {M : Ce} {x : Int} (h : Tj M x = true) {k : Nat} (hk : (k : Int) < Yc M) :
 ∃ y, Wx M x (k : Int) = some (y, K7 M x k, ()) := by
 have hm := D5 h
 unfold Wx K7
 rw [CI, h, Fp]
 simp only [jb, jg, cond_false]
 rw [Aa (show ¬ (k : Int) < 0 by omega), Aa (show ¬ (k : Int) ≥ Yc M by omega), Ba (show 0 ≤ (k : Int) by omega)]
 simp only [cond_false, cond_true]
 have hb := Wai (k := k) hm.1 (by omega)
 unfold Kd at hb ⊢
 rw [hb]
 cases Wa .i64 (Wb .i64 x (k : Int)) 1 == 1 with
 | false => exact ⟨_, rfl⟩
 | true =>
  simp only [jg, cond_false, jk]
  rw [Lad (Rae hm.1 (by omega))]
  simp only [jb, bne]
  cases Ip M (Mb .i64 x (Ra .i64 1 (k : Int))) == x <;> exact ⟨_, rfl⟩
theorem L1 {M : Ce} {x : Int} (h : Tj M x = true) {k : Nat} (hk : (k : Int) < Yc M) :
 ∃ y, Yy M x (k : Int) = some (y, K7 M x k, ()) := by
 have hm := D5 h
 unfold Yy K7
 rw [Cv, h, Qj]
 simp only [jb, jg, cond_false, Oc]
 rw [Je (by omega) (by omega), Ba (show 0 ≤ (k : Int) ∧ (k : Int) ≤ Yc M - 1 by omega), Ba (show 0 ≤ (k : Int) by omega)]
 simp only [cond_false, cond_true, jg]
 have hb := Wai (k := k) hm.1 (by omega)
 unfold Kd at hb ⊢
 rw [hb]
 cases Wa .i64 (Wb .i64 x (k : Int)) 1 == 1 with
 | false => exact ⟨_, rfl⟩
 | true =>
  simp only [jg, cond_false, jk]
  rw [Iae (Rae hm.1 (by omega))]
  simp only [jb, bne]
  cases Ip M (Mb .i64 x (Ra .i64 1 (k : Int))) == x <;> exact ⟨_, rfl⟩
def BU (M : Ce) (x : Int) (k : Nat) (s : Int) : Int := cond ((Kd x (k : Int) == 1) && !K7 M x k) (Pc .i64 s (Ra .i64 1 (k : Int))) s
def T1 (M : Ce) (x : Int) : Int := cond (Tj M x) (Ze (BU M x) (Yc M).toNat 0) 0
theorem J5 (M : Ce) (x : Int) : KG M x = some (T1 M x, ()) := by
 unfold KG T1
 rw [CI]
 cases h : Tj M x with
 | false => rfl
 | true =>
  have hm := D5 h
  obtain ⟨n, hn⟩ := jv (show 0 ≤ Yc M by omega)
  have hl := Hh (step := fun y => Jr y.1.1 y.1.2.1 y.1.2.2.1 y.1.2.2.2.1 y.1.2.2.2.2.1 y.2.1) n (by omega) (BU M x) 0 (fun s i => ((x, (), s, (n : Int), i, ()), (M, ()))) (fun s => .inl ((s, ()), ()))
   (by
    intro k hk
    generalize Ze (BU M x) k 0 = s
    obtain ⟨y, hy⟩ := H1 h (k := k) (by omega)
    simp only [Jr]
    rw [Ba (show (k : Int) < (n : Int) by omega), Ba (show 0 ≤ (k : Int) by omega), hy]
    simp only [cond_true, jb, BU, Kd]
    cases Wa .i64 (Wb .i64 x (k : Int)) 1 == 1 <;> cases K7 M x k <;> rfl)
   (by
    simp only [Jr]
    rw [Aa (by omega)]; rfl)
  rw [Fp, hn]
  simp only [jb, jg, cond_false, cond_true, jn]
  unfold Rv
  erw [hl]
  rfl
theorem Y5 (M : Ce) (x : Int) : LH M x = some (T1 M x, ()) := by
 unfold LH T1
 cases h : Tj M x with
 | false =>
  unfold Rm
  have hs : Yj x () 0 0 M = some (.inr (.inl ((0, ()), ()))) := by
   unfold Yj
   rw [Qj, Cv, h]
   simp only [jb, cond_false]
   cases decide (0 < Yc M) <;> rfl
  rw [Dd hs]
  rfl
 | true =>
  have hm := D5 h
  obtain ⟨n, hn⟩ := jv (show 0 ≤ Yc M by omega)
  have hl := Hh (step := fun y => Yj y.1.1 y.1.2.1 y.1.2.2.1 y.1.2.2.2.1 y.2.1) n (by omega) (BU M x) 0 (fun s i => ((x, (), s, i, ()), (M, ()))) (fun s => .inl ((s, ()), ()))
   (by
    intro k hk
    generalize Ze (BU M x) k 0 = s
    obtain ⟨y, hy⟩ := L1 h (k := k) (by omega)
    simp only [Yj]
    rw [Qj, Cv, h, hn]
    simp only [jb]
    rw [Ba (show (k : Int) < (n : Int) by omega), Ba (show 0 ≤ (k : Int) by omega), hy]
    simp only [cond_true, jb, BU, Kd]
    cases Wa .i64 (Wb .i64 x (k : Int)) 1 == 1 <;> cases K7 M x k <;> rfl)
   (by
    simp only [Yj]
    rw [Qj, hn]
    simp only [jb]
    rw [Aa (by omega)]; rfl)
  rw [hn, jn]
  unfold Rm
  erw [hl]
  rfl
def Pai (M : Ce) (old x : Int) : Int := Wa .i64 x (Pc .i64 old (T1 M x))
def XT (M : Ce) (old x : Int) : Bool := Jd M old && Tj M x
theorem Ead (M : Ce) (old x : Int) : Ir M old x = some (cond (XT M old x) (Pai M old x) 0, XT M old x, ()) := by
 unfold Ir XT
 rw [Wv, CI, J5]
 cases Jd M old <;> cases Tj M x <;> rfl
theorem Zad (M : Ce) (old x : Int) : Ns M old x = some (cond (XT M old x) (Pai M old x) 0, XT M old x, ()) := by
 unfold Ns XT
 rw [Sw, Cv, Y5]
 cases Jd M old <;> cases Tj M x <;> rfl
theorem SaF {M : Ce} {x : Int} (h : Jd M x = true) (y : Int) : Jd M (Wa .i64 x y) = true := by
 obtain ⟨C, R, m, d, rfl, rfl, hd, hm⟩ := TL h
 have hm63 := DU hd hm
 have e : Wa .i64 (m : Int) y = ((m &&& (BitVec.ofInt 64 y).toNat : Nat) : Int) := by
  have h2 : (BitVec.ofInt (IntKind.bits .i64) (m : Int) &&& BitVec.ofInt (IntKind.bits .i64) y).toNat = m &&& (BitVec.ofInt 64 y).toNat := by
   rw [BitVec.toNat_and]; erw [CN hm63]; rfl
  unfold Wa
  rw [h2]
  have h3 : m &&& (BitVec.ofInt 64 y).toNat ≤ m := Nat.and_le_left
  have h4 := Hx
  exact Je (by omega) (by omega)
 rw [e]
 exact KZ hd (Nat.lt_of_le_of_lt Nat.and_le_left hm)
theorem QaF {M : Ce} {old x : Int} (h : XT M old x = true) : Jd M (Pai M old x) = true := by
 simp only [XT, Tj, jd] at h
 exact SaF h.2.1 _
theorem Vai {a : Nat} {k : Nat} (ha : a < 2 ^ 63) (hk : k ≤ 64) : Kd (a : Int) (k : Int) = cond (a.testBit k) 1 0 := by
 have h := Ft ha hk
 rcases VaA ha hk with h1 | h1
 ·rw [h1] at h ⊢
  cases ht : a.testBit k with
  | true => rw [ht] at h; exact absurd h (by decide)
  | false => rfl
 ·rw [h1] at h ⊢
  cases ht : a.testBit k with
  | true => rfl
  | false => rw [ht] at h; exact absurd h (by decide)
theorem Gaa {a b k : Nat} (ha : a < 2 ^ 63) (hb : b < 2 ^ 63) (hk : k ≤ 64) : (Kd (a : Int) (k : Int) != Kd (b : Int) (k : Int)) = (a ^^^ b).testBit k := by
 rw [Vai ha hk, Vai hb hk, qo]
 cases a.testBit k <;> cases b.testBit k <;> rfl
theorem N7 {a b k : Nat} (ha : a < 2 ^ 63) (hb : b < 2 ^ 63) (hk : k ≤ 64) : (Wa .i64 (Wb .i64 (Za .i64 (a : Int) (b : Int)) (k : Int)) 1 == 1) = (Kd (a : Int) (k : Int) != Kd (b : Int) (k : Int)) := by
 rw [Gaa ha hb hk, OL ha hb]
 exact Ft (qs ha hb) hk
def Aay (d : Qb) (raw : Int) (k : Nat) (x : Int) : Int :=
 cond ((d.1 == 0) && (Kd raw (k : Int) != Kd d.2.2.2.2.1 (k : Int))) 1 (cond ((d.1 == 1) && (raw != d.2.2.2.2.1)) 1 (min (j5 .i64 (x + 1)) 99))
def Iaj (d : Qb) (raw : Int) (k : Nat) (x : Int) : Bool := decide (Aay d raw k x ≥ d.2.1) && (Kd raw (k : Int) != Kd d.2.2.2.1 (k : Int))
def HL (d : Qb) (raw : Int) (k : Nat) (s : Int × List Int) (x : Int) : Int × List Int :=
 (cond (Iaj d raw k x) (Za .i64 s.1 (Ra .i64 1 (k : Int))) s.1, jf s.2 [cond (Iaj d raw k x && (d.1 == 2)) 0 (Aay d raw k x)])
def Xac (d : Qb) (raw : Int) : Int × List Int := Qd (fun k s x => HL d raw k s x) 0 (d.2.2.2.1, []) d.2.2.2.2.2.1
def N0 : Qb := ((0 : Int), (0 : Int), (0 : Int), (0 : Int), (0 : Int), ([] : List Int), ())
def Z1 (d : Qb) (raw : Int) : Bool := Eh d && Oe d.2.2.1 raw
def W7 (d : Qb) (raw : Int) : Qb × (Bool × Unit) := cond (Z1 d raw) ((d.1, d.2.1, d.2.2.1, (Xac d raw).1, raw, (Xac d raw).2, ()), true, ()) (N0, false, ())
structure Oat (d : Qb) : Prop where
 k1 : 1 ≤ d.2.2.1
 k2 : d.2.2.1 ≤ 24
 len : ((ja d.2.2.2.2.2.1 : Nat) : Int) = d.2.2.1
 sh : Oe d.2.2.1 d.2.2.2.1 = true
 la : Oe d.2.2.1 d.2.2.2.2.1 = true
theorem Wah {d : Qb} (h : Eh d = true) : Oat d := by
 simp only [Eh, jd, decide_eq_true_eq, beq_iff_eq] at h
 exact ⟨h.2.2.1.1, h.2.2.1.2, h.2.2.2.1, h.2.2.2.2.1, h.2.2.2.2.2.1⟩
theorem NU {k x : Int} (h : Oe k x = true) : ∃ n : Nat, x = (n : Int) ∧ n < 2 ^ k.toNat := by
 simp only [Oe, decide_eq_true_eq] at h
 obtain ⟨n, rfl⟩ := jv h.1
 exact ⟨n, rfl, by exact_mod_cast h.2⟩
theorem Qab {k : Int} {n : Nat} (hk : k ≤ 24) (h : n < 2 ^ k.toNat) : n < 2 ^ 63 :=
 qm h (qn (by omega) (by omega))
theorem Waf (d : Qb) (raw : Int) (k : Nat) (hk : k < d.2.2.2.2.2.1.length) (s : Int × List Int) (hs : s.2.length = k) (hn : d.2.2.2.2.2.1.length ≤ 24) :
 Rj raw () () () d.2.2.2.2.2.1 ((ja d.2.2.2.2.2.1 : Nat) : Int) (k : Int) d N0 (d.1, d.2.1, d.2.2.1, s.1, d.2.2.2.2.1, s.2, ()) =
  some (.inl ((raw, (), (), (), d.2.2.2.2.2.1, ((ja d.2.2.2.2.2.1 : Nat) : Int), j5 .i64 ((k : Int) + 1), ()), (d, N0, (d.1, d.2.1, d.2.2.1, (HL d raw k s d.2.2.2.2.2.1[k]).1, d.2.2.2.2.1, (HL d raw k s d.2.2.2.2.2.1[k]).2, ()), ()))) := by
 have hb : ∀ x : Int, jx (ja s.2 + ja ([x] : List Int)) Qa = true := fun x => ji (by rw [Rd]; simp only [jw, j8]; omega)
 have hbit : ∀ m : Int, Ye m (k : Int) = some (Kd m (k : Int), ()) := fun m => Ul m (by omega)
 unfold Rj
 rw [Ba (show (k : Int) < ((ja d.2.2.2.2.2.1 : Nat) : Int) by omega), Cb hk, Ba (show (0 : Int) ≤ (k : Int) by omega)]
 simp only [cond_true, jb, hb, hbit]
 unfold HL Iaj Aay
 generalize d.2.2.2.2.2.1[k] = x
 cases d.1 == 0 <;> (try simp only [cond_true, cond_false, jk, qq]) <;>
  cases Kd raw (k : Int) != Kd d.2.2.2.2.1 (k : Int) <;> (try simp only [cond_true, cond_false]) <;>
  cases d.1 == 1 <;> (try simp only [cond_true, cond_false, jk, qq]) <;>
  cases raw != d.2.2.2.2.1 <;> (try simp only [cond_true, cond_false]) <;>
  cases decide ((1 : Int) ≥ d.2.1) <;> (try simp only [cond_true, cond_false, jk, qq]) <;>
  cases decide (min (j5 .i64 (x + 1)) 99 ≥ d.2.1) <;> (try simp only [cond_true, cond_false, jk, qq]) <;>
  cases Kd raw (k : Int) != Kd d.2.2.2.1 (k : Int) <;> (try simp only [cond_true, cond_false, jk, qq]) <;>
  cases d.1 == 2 <;> rfl
theorem Kag (d : Qb) (hd : Oat d) (raw : Int) (hraw : Oe d.2.2.1 raw = true) (k : Nat) (hk : k < d.2.2.2.2.2.1.length) (s : Int × List Int) (hs : s.2.length = k) :
 Zj raw () () () (k : Int) d N0 (d.1, d.2.1, d.2.2.1, s.1, d.2.2.2.2.1, s.2, ()) =
  some (.inl ((raw, (), (), (), j5 .i64 ((k : Int) + 1), ()), (d, N0, (d.1, d.2.1, d.2.2.1, (HL d raw k s d.2.2.2.2.2.1[k]).1, d.2.2.2.2.1, (HL d raw k s d.2.2.2.2.2.1[k]).2, ()), ()))) := by
 have h1 := hd.k2
 have h2 := hd.len
 obtain ⟨r, hr, hr2⟩ := NU hraw
 obtain ⟨a, ha, ha2⟩ := NU hd.sh
 obtain ⟨b, hb', hb2⟩ := NU hd.la
 have e1 : (Wa .i64 (Wb .i64 (Za .i64 raw d.2.2.2.2.1) (k : Int)) 1 == 1) = (Kd raw (k : Int) != Kd d.2.2.2.2.1 (k : Int)) := by
  rw [hr, hb']; exact N7 (Qab h1 hr2) (Qab h1 hb2) (by omega)
 have e2 : (Wa .i64 (Wb .i64 (Za .i64 raw d.2.2.2.1) (k : Int)) 1 == 1) = (Kd raw (k : Int) != Kd d.2.2.2.1 (k : Int)) := by
  rw [hr, ha]; exact N7 (Qab h1 hr2) (Qab h1 ha2) (by omega)
 have hb : ∀ x : Int, jx (ja s.2 + ja ([x] : List Int)) Qa = true := fun x => ji (by rw [Rd]; simp only [jw, j8]; omega)
 have hmin : ∀ x : Int, min (99 : Int) x = min x 99 := fun x => by omega
 unfold Zj
 rw [Ba (show (k : Int) < d.2.2.1 by omega), Cb hk, Ba (show (0 : Int) ≤ (k : Int) by omega)]
 simp only [cond_true, jb, hb, e1, e2, hmin]
 unfold HL Iaj Aay
 generalize d.2.2.2.2.2.1[k] = x
 cases d.1 == 0 <;> (try simp only [cond_true, cond_false, jk, qq]) <;>
  cases Kd raw (k : Int) != Kd d.2.2.2.2.1 (k : Int) <;> (try simp only [cond_true, cond_false]) <;>
  cases d.1 == 1 <;> (try simp only [cond_true, cond_false, jk, qq]) <;>
  cases raw != d.2.2.2.2.1 <;> (try simp only [cond_true, cond_false]) <;>
  cases decide ((1 : Int) ≥ d.2.1) <;> (try simp only [cond_true, cond_false, jk, qq]) <;>
  cases decide (min (j5 .i64 (x + 1)) 99 ≥ d.2.1) <;> (try simp only [cond_true, cond_false, jk, qq]) <;>
  cases Kd raw (k : Int) != Kd d.2.2.2.1 (k : Int) <;> (try simp only [cond_true, cond_false, jk, qq]) <;>
  cases d.1 == 2 <;> rfl
structure Hai (d : Qb) (k : Nat) (s : Int × List Int) : Prop where
 len : s.2.length = k
 sh : Oe d.2.2.1 s.1 = true
theorem EaG {d : Qb} (hd : Oat d) (raw : Int) {k : Nat} (hk : k < d.2.2.2.2.2.1.length) {s : Int × List Int} (hs : Hai d k s) (x : Int) : Hai d (k + 1) (HL d raw k s x) := by
 have h1 := hd.k2
 have h2 := hd.len
 refine ⟨by simp [HL, hs.len], ?_⟩
 obtain ⟨a, ha, ha2⟩ := NU hs.sh
 unfold HL
 cases Iaj d raw k x with
 | false => exact hs.sh
 | true =>
  show Oe d.2.2.1 (Za .i64 s.1 (Ra .i64 1 (k : Int))) = true
  rw [ha, Ml (by omega), OL (Qab h1 ha2) (Gj (by omega))]
  have hk2 : 2 ^ k < 2 ^ d.2.2.1.toNat := Nat.pow_lt_pow_right (by omega) (by omega)
  have := qs ha2 hk2
  simp only [Oe, decide_eq_true_eq]
  exact ⟨by omega, by exact_mod_cast this⟩
theorem Bao {d : Qb} (hd : Oat d) (raw : Int) : Hai d d.2.2.2.2.2.1.length (Xac d raw) := by
 have h : ∀ (l : List Int) (k : Nat) (s : Int × List Int), d.2.2.2.2.2.1.drop k = l → k ≤ d.2.2.2.2.2.1.length → Hai d k s → Hai d d.2.2.2.2.2.1.length (Qd (fun k s x => HL d raw k s x) k s l) := by
  intro l
  induction l with
  | nil =>
   intro k s hl hk hs
   have := LZ hl hk
   rw [← this]; exact hs
  | cons y l ih =>
   intro k s hl hk hs
   obtain ⟨hk', hy, hl'⟩ := TR hl
   exact ih (k + 1) _ hl' hk' (EaG hd raw hk' hs y)
 exact h _ 0 _ rfl (Nat.zero_le _) ⟨rfl, hd.sh⟩
theorem Ram (d : Qb) (raw : Int) (hn : d.2.2.2.2.2.1.length ≤ Ea) : Gn d raw = some (W7 d raw) := by
 unfold Gn W7 Z1
 rw [GP d hn]
 cases hv : Eh d with
 | false => rfl
 | true =>
  have hd := Wah hv
  have h1 := hd.k1
  have h2 := hd.k2
  have h3 := hd.len
  simp only [jb, jg, cond_false, jk]
  rw [Ba (show (0 : Int) ≤ d.2.2.1 by omega), DY (show 0 ≤ d.2.2.1 ∧ d.2.2.1 ≤ 62 by omega)]
  simp only [cond_true]
  by_cases h0 : raw < 0
  ·rw [Ba h0, show Oe d.2.2.1 raw = false by unfold Oe; exact Aa (by omega)]; rfl
  ·by_cases h9 : raw ≥ ((2 ^ d.2.2.1.toNat : Nat) : Int)
   ·rw [Aa h0, Ba h9, show Oe d.2.2.1 raw = false by unfold Oe; exact Aa (by omega)]; rfl
   ·rw [Aa h0, Aa h9, show Oe d.2.2.1 raw = true by unfold Oe; exact Ba (by omega)]
    simp only [cond_false, cond_true]
    have hl := (De (step := fun x => Rj x.1.1 x.1.2.1 x.1.2.2.1 x.1.2.2.2.1 x.1.2.2.2.2.1 x.1.2.2.2.2.2.1 x.1.2.2.2.2.2.2.1 x.2.1 x.2.2.1 x.2.2.2.1) d.2.2.2.2.2.1 (fun k s x => HL d raw k s x)
     (fun s i => ((raw, (), (), (), d.2.2.2.2.2.1, ((ja d.2.2.2.2.2.1 : Nat) : Int), i, ()), (d, N0, (d.1, d.2.1, d.2.2.1, s.1, d.2.2.2.2.1, s.2, ()), ())))
     (fun s => .inl ((raw, (), (), ()), (N0, (d.1, d.2.1, d.2.2.1, s.1, d.2.2.2.2.1, s.2, ()), ()))) (fun k s => s.2.length = k) (by
      intro k hk s hs
      exact ⟨Waf d raw k hk s hs (by omega), by simp [HL, hs]⟩) (by
      intro s hs
      simp only [Rj]
      rw [Aa (by omega)]; rfl) (by omega) (d.2.2.2.1, []) rfl).1
    unfold Bp
    erw [hl]
    rfl
theorem Xam (d : Qb) (raw : Int) (hn : d.2.2.2.2.2.1.length ≤ Ea) : Kn d raw = some (W7 d raw) := by
 unfold Kn W7 Z1
 rw [OP d hn]
 cases hv : Eh d with
 | false => rfl
 | true =>
  have hd := Wah hv
  have h1 := hd.k1
  have h2 := hd.k2
  have h3 := hd.len
  simp only [jb, jg, cond_false, jk]
  rw [Ba (show (0 : Int) ≤ d.2.2.1 by omega), Oc, RT _ _ (show 0 ≤ d.2.2.1 ∧ d.2.2.1 ≤ 62 by omega)]
  simp only [cond_true, jb]
  cases hraw : Oe d.2.2.1 raw with
  | false => rfl
  | true =>
   simp only [jg, cond_false, cond_true]
   have hl := (De (step := fun x => Zj x.1.1 x.1.2.1 x.1.2.2.1 x.1.2.2.2.1 x.1.2.2.2.2.1 x.2.1 x.2.2.1 x.2.2.2.1) d.2.2.2.2.2.1 (fun k s x => HL d raw k s x)
    (fun s i => ((raw, (), (), (), i, ()), (d, N0, (d.1, d.2.1, d.2.2.1, s.1, d.2.2.2.2.1, s.2, ()), ())))
    (fun s => .inl ((raw, (), (), ()), (N0, (d.1, d.2.1, d.2.2.1, s.1, d.2.2.2.2.1, s.2, ()), ()))) (fun k s => s.2.length = k) (by
     intro k hk s hs
     exact ⟨Kag d hd raw hraw k hk s hs, by simp [HL, hs]⟩) (by
     intro s hs
     simp only [Zj]
     rw [Aa (by omega)]; rfl) (by omega) (d.2.2.2.1, []) rfl).1
   unfold Lp
   erw [hl]
   rfl
def Dr (L : List Va) (set : Int) : Bool := !Le (fun _ (c : Va) => !(Mb .i64 set c.1 == 0)) 0 L
theorem TX (L : List Va) (set : Int) (hn : L.length ≤ Ea) : ZI L set = some (Dr L set, ()) := by
 have h20 : Ea = 1048576 := rfl
 have hl := Nf (step := fun x => OC x.1.1 x.1.2.1 x.1.2.2.1 x.1.2.2.2.1) L (fun _ (c : Va) => !(Mb .i64 set c.1 == 0)) (fun i => ((set, L, ((ja L : Nat) : Int), i, ()), ()))
  (.inl ((), ())) (.inr ((true, ()), ())) (by
   intro k hk
   simp only [OC]
   rw [Ba (by omega), Cb hk]
   simp only [cond_true, jb]
   cases Mb .i64 set L[k].1 == 0 <;> rfl) (by
   simp only [OC]
   rw [Aa (by omega)]; rfl) (by omega)
 unfold ZI ZE Dr
 erw [hl]
 cases Le (fun _ (c : Va) => !(Mb .i64 set c.1 == 0)) 0 L <;> rfl
theorem IY (L : List Va) (set : Int) (hn : L.length ≤ Ea) : UF L set = some (Dr L set, ()) := by
 have h20 : Ea = 1048576 := rfl
 have hl := Nf (step := fun x => Mz x.1.1 x.1.2.1 x.1.2.2.1) L (fun _ (c : Va) => !(Mb .i64 set c.1 == 0)) (fun i => ((L, set, i, ()), ()))
  (.inl ((), ())) (.inr ((true, ()), ())) (by
   intro k hk
   simp only [Mz]
   rw [Ba (by omega), Cb hk]
   simp only [cond_true, jb]
   cases Mb .i64 set L[k].1 == 0 <;> rfl) (by
   simp only [Mz]
   rw [Aa (by omega)]; rfl) (by omega)
 unfold UF TB Dr
 erw [hl]
 cases Le (fun _ (c : Va) => !(Mb .i64 set c.1 == 0)) 0 L <;> rfl
def B7 (set : Int) (s : Int × Bool) (c : Va) : Int × Bool := cond (c.1 == set) (c.2.1, s.2) (cond (Mb .i64 set c.1 == 0) (s.1, true) s)
def Yg (L : List Va) (set : Int) : Int × Bool := Qd (fun _ s c => B7 set s c) 0 (-1, false) L
theorem QS (L : List Va) (set : Int) (hn : L.length ≤ Ea) : Nm L set = some ((Yg L set).1, (Yg L set).2, ()) := by
 have h20 : Ea = 1048576 := rfl
 have hl := (De (step := fun x => Vp x.1.1 x.1.2.1 x.1.2.2.1 x.1.2.2.2.1 x.1.2.2.2.2.1 x.1.2.2.2.2.2.1) L (fun _ s c => B7 set s c) (fun s i => ((set, s.1, s.2, L, ((ja L : Nat) : Int), i, ()), ()))
  (fun s => .inl ((s.1, s.2, ()), ())) (fun _ _ => True) (by
   intro k hk s _
   refine ⟨?_, trivial⟩
   simp only [Vp]
   rw [Ba (by omega), Cb hk]
   simp only [cond_true, jb]
   unfold B7
   cases L[k].1 == set <;> cases Mb .i64 set L[k].1 == 0 <;> rfl) (by
   intro s _
   simp only [Vp]
   rw [Aa (by omega)]; rfl) (by omega) (-1, false) trivial).1
 unfold Nm Nt Yg
 erw [hl]
 rfl
theorem VS (L : List Va) (set : Int) (hn : L.length ≤ Ea) : RJ L set = some ((Yg L set).1, (Yg L set).2, ()) := by
 have h20 : Ea = 1048576 := rfl
 have hl := (De (step := fun x => QD x.1.1 x.1.2.1 x.1.2.2.1 x.1.2.2.2.1 x.1.2.2.2.2.1) L (fun _ s c => B7 set s c) (fun s i => ((L, set, s.1, s.2, i, ()), ()))
  (fun s => .inl ((s.1, s.2, ()), ())) (fun _ _ => True) (by
   intro k hk s _
   refine ⟨?_, trivial⟩
   simp only [QD]
   rw [Ba (by omega), Cb hk]
   simp only [cond_true, jb]
   unfold B7
   rw [show (set == L[k].1) = (L[k].1 == set) by rw [qz, beq_iff_eq, beq_iff_eq]; exact eq_comm]
   cases L[k].1 == set <;> cases Mb .i64 set L[k].1 == 0 <;> rfl) (by
   intro s _
   simp only [QD]
   rw [Aa (by omega)]; rfl) (by omega) (-1, false) trivial).1
 unfold RJ XF Yg
 erw [hl]
 rfl
theorem KaE {L : List Va} (hL : Mh L = true) (set : Int) : (Yg L set).1 = -1 ∨ 24 ≤ (Yg L set).1 ∧ (Yg L set).1 ≤ 31 := by
 have hx : ∀ c ∈ L, 24 ≤ c.2.1 ∧ c.2.1 ≤ 31 := by
  simp only [Mh, jd] at hL
  intro c hc
  obtain ⟨i, hi, rfl⟩ := qv hc
  have := (GE.1 hL.2) i hi
  simp only [Ux, jd, decide_eq_true_eq] at this
  omega
 have key : ∀ (l : List Va) (k : Nat) (s : Int × Bool), (∀ c ∈ l, 24 ≤ c.2.1 ∧ c.2.1 ≤ 31) → (s.1 = -1 ∨ 24 ≤ s.1 ∧ s.1 ≤ 31) → ((Qd (fun _ s c => B7 set s c) k s l).1 = -1 ∨ 24 ≤ (Qd (fun _ s c => B7 set s c) k s l).1 ∧ (Qd (fun _ s c => B7 set s c) k s l).1 ≤ 31) := by
  intro l
  induction l with
  | nil => intro k s _ hs; exact hs
  | cons c l ih =>
   intro k s hc hs
   refine ih (k + 1) (B7 set s c) (fun d hd => hc d (by simp [hd])) ?_
   unfold B7
   cases c.1 == set with
   | true => exact .inr (hc c (by simp))
   | false => cases Mb .i64 set c.1 == 0 <;> exact hs
 exact key L 0 _ hx (.inl rfl)
def ZD (x : Ca) : Bool := Vh x && decide (x.2.1 < 24)
theorem S2 (x : Ca) : Cm x = some (ZD x, ()) := by
 unfold Cm ZD
 rw [NN]
 cases Vh x <;> rfl
theorem U3 (x : Ca) : Zw x = some (ZD x, ()) := by
 unfold Zw ZD
 rw [YO]
 cases Vh x <;> rfl
def TU (L : List Va) (e : Int) (k : Nat) (set : Int) (x : Ca) : Int ⊕ ((Int × Nat × Int) ⊕ (Int × Int × Int)) :=
 cond (ZD x) (cond (decide (x.1 ≥ e)) (.inr (.inl (set, k + 1, e))) (cond x.2.2.1
  (cond (Dr L (Pc .i64 set (Ra .i64 1 x.2.1))) (cond (decide ((Yg L (Pc .i64 set (Ra .i64 1 x.2.1))).1 ≥ 0) && !(Yg L (Pc .i64 set (Ra .i64 1 x.2.1))).2)
   (.inr (.inr (((k + 2 : Nat) : Int), x.1, (Yg L (Pc .i64 set (Ra .i64 1 x.2.1))).1))) (.inl (Pc .i64 set (Ra .i64 1 x.2.1))))
   (.inr (.inl (set, k + 1, x.1))))
  (.inr (.inl (set, k + 1, x.1))))) (.inr (.inr (0, 0, -1)))
def SU (L : List Va) (set : Int) (n : Nat) (at_ : Int) : Int × Int × Int := cond (decide ((Yg L set).1 ≥ 0)) ((n : Int), at_, (Yg L set).1) (1, at_, -1)
def Zay (L : List Va) (e now : Int) (set : Int) (r : List Ca) : Int × Int × Int :=
 match Tc (fun k s x => TU L e k s x) 0 set r with
 | .inl s => cond (decide (now < e)) (0, 0, -1) (SU L s (r.length + 1) e)
 | .inr (.inl b) => SU L b.1 b.2.1 b.2.2
 | .inr (.inr b) => b
def Fj (L : List Va) (term : Int) (q : List Ca) (now : Int) : Int × Int × Int :=
 match q with
 | [] => (0, 0, -1)
 | f :: r => cond (Mh L && (decide (1 ≤ term ∧ term ≤ 200) && (ZD f && f.2.2.1)))
  (cond (Dr L (Ra .i64 1 f.2.1)) (Zay L (j5 .i64 (f.1 + term)) now (Ra .i64 1 f.2.1) r) (1, f.1, -1)) (0, 0, -1)
theorem Gac {x : Ca} (h : ZD x = true) : 0 ≤ x.1 ∧ x.1 ≤ 1000000 ∧ 0 ≤ x.2.1 ∧ x.2.1 < 24 := by
 simp only [ZD, jd, decide_eq_true_eq] at h
 have := Uk h.1
 omega
theorem Yaa (L : List Va) (term now : Int) (f : Ca) (e : Int) (he : j5 .i64 (f.1 + term) = e) (set : Int) (r : List Ca) (hn : L.length ≤ Ea) (hr : r.length ≤ Ea) :
 Cl ((L, term, now, (), set, e, (1 : Int), true, r, ((ja r : Nat) : Int), (0 : Int), ()), (f, ())) =
  some (match Tc (fun k s x => TU L e k s x) 0 set r with
   | .inl s => .inl ((L, now, s, e, ((r.length + 1 : Nat) : Int), true, ()), ())
   | .inr (.inl b) => .inl ((L, now, b.1, b.2.2, (b.2.1 : Int), false, ()), ())
   | .inr (.inr b) => .inr ((b.1, b.2.1, b.2.2, ()), ())) := by
 have h20 : Ea = 1048576 := rfl
 have hl := CX (step := fun x => Un x.1.1 x.1.2.1 x.1.2.2.1 x.1.2.2.2.1 x.1.2.2.2.2.1 x.1.2.2.2.2.2.1 x.1.2.2.2.2.2.2.1 x.1.2.2.2.2.2.2.2.1 x.1.2.2.2.2.2.2.2.2.1 x.1.2.2.2.2.2.2.2.2.2.1 x.1.2.2.2.2.2.2.2.2.2.2.1 x.2.1) r (fun k s x => TU L e k s x)
  (fun k s => ((L, term, now, (), s, e, ((k + 1 : Nat) : Int), true, r, ((ja r : Nat) : Int), (k : Int), ()), (f, ())))
  (fun s => .inl ((L, now, s, e, ((r.length + 1 : Nat) : Int), true, ()), ()))
  (fun b => match b with | .inl b => .inl ((L, now, b.1, b.2.2, (b.2.1 : Int), false, ()), ()) | .inr b => .inr ((b.1, b.2.1, b.2.2, ()), ())) (fun _ _ => True) (by
   intro k hk s _
   refine ⟨?_, fun _ _ => trivial⟩
   simp only [Un]
   rw [Ba (show (k : Int) < ((ja r : Nat) : Int) by omega), Cb hk, he]
   simp only [cond_true, jb]
   rw [S2]
   simp only [jb]
   unfold TU
   generalize r[k] = x
   cases hx : ZD x with
   | false => rfl
   | true =>
    have hk' := Gac hx
    rw [Ba hk'.2.2.1, TX _ _ hn, QS _ _ hn, Kc (show k + 1 < _ by omega), Kc (show k < _ by omega)]
    simp only [jg, cond_false, cond_true, jb]
    by_cases h1 : x.1 ≥ e
    ·rw [Ba h1, show min e x.1 = e by omega]; rfl
    ·rw [Aa h1, show min e x.1 = x.1 by omega]
     simp only [cond_false]
     cases x.2.2.1 with
     | false => rfl
     | true =>
      simp only [jg, cond_false, cond_true]
      cases Dr L (Pc .i64 s (Ra .i64 1 x.2.1)) with
      | false => rfl
      | true =>
       simp only [jg, cond_false, cond_true]
       cases decide ((Yg L (Pc .i64 s (Ra .i64 1 x.2.1))).1 ≥ 0) <;> cases (Yg L (Pc .i64 s (Ra .i64 1 x.2.1))).2 <;> rfl) (by
   intro s _
   simp only [Un]
   rw [Aa (by omega)]; rfl) set trivial
 unfold Cl
 refine hl.trans ?_
 cases Tc (fun k s x => TU L e k s x) 0 set r with
 | inl s => rfl
 | inr b => cases b <;> rfl
theorem Aac (L : List Va) (now : Int) (f : Ca) (e : Int) (set : Int) (r : List Ca) (hn : L.length ≤ Ea) (hr : r.length ≤ Ea) :
 Xl ((L, f :: r, now, set, e, (1 : Int), e, ()), ()) =
  some (match Tc (fun k s x => TU L e k s x) 0 set r with
   | .inl s => cond (decide (now < e)) (.inr (((0 : Int), (0 : Int), (-1 : Int), ()), ())) (.inl ((L, s, ((r.length + 1 : Nat) : Int), e, ()), ()))
   | .inr (.inl b) => .inl ((L, b.1, (b.2.1 : Int), b.2.2, ()), ())
   | .inr (.inr b) => .inr ((b.1, b.2.1, b.2.2, ()), ())) := by
 have h20 : Ea = 1048576 := rfl
 have hl := CX (step := fun x => Gq x.1.1 x.1.2.1 x.1.2.2.1 x.1.2.2.2.1 x.1.2.2.2.2.1 x.1.2.2.2.2.2.1 x.1.2.2.2.2.2.2.1) r (fun k s x => TU L e k s x)
  (fun k s => ((L, f :: r, now, s, e, ((k + 1 : Nat) : Int), e, ()), ()))
  (fun s => cond (decide (now < e)) (.inr (((0 : Int), (0 : Int), (-1 : Int), ()), ())) (.inl ((L, s, ((r.length + 1 : Nat) : Int), e, ()), ())))
  (fun b => match b with | .inl b => .inl ((L, b.1, (b.2.1 : Int), b.2.2, ()), ()) | .inr b => .inr ((b.1, b.2.1, b.2.2, ()), ())) (fun _ _ => True) (by
   intro k hk s _
   refine ⟨?_, fun _ _ => trivial⟩
   simp only [Gq]
   rw [show (((k + 1 : Nat) : Int) == ((ja (f :: r) : Nat) : Int)) = false by simp; omega]
   rw [Cb (show k + 1 < (f :: r).length by simp; omega)]
   simp only [cond_false, jb, List.getElem_cons_succ]
   rw [U3]
   simp only [jb]
   unfold TU
   generalize r[k] = x
   cases hx : ZD x with
   | false => rfl
   | true =>
    have hk' := Gac hx
    rw [Ba hk'.2.2.1, IY _ _ hn, VS _ _ hn, Kc (show k + 1 < _ by omega)]
    simp only [jg, cond_false, cond_true, jb]
    cases decide (x.1 ≥ e) with
    | true => rfl
    | false =>
     simp only [cond_false]
     cases x.2.2.1 with
     | false => rfl
     | true =>
      simp only [jg, cond_false, cond_true]
      cases Dr L (Pc .i64 s (Ra .i64 1 x.2.1)) with
      | false => rfl
      | true =>
       simp only [jg, cond_false, cond_true]
       cases decide ((Yg L (Pc .i64 s (Ra .i64 1 x.2.1))).1 ≥ 0) <;> cases (Yg L (Pc .i64 s (Ra .i64 1 x.2.1))).2 <;> rfl) (by
   intro s _
   simp only [Gq]
   rw [show (((r.length + 1 : Nat) : Int) == ((ja (f :: r) : Nat) : Int)) = true by simp]
   cases decide (now < e) <;> rfl) set trivial
 unfold Xl
 refine hl.trans ?_
 cases Tc (fun k s x => TU L e k s x) 0 set r with
 | inl s => rfl
 | inr b => cases b <;> rfl
theorem Xaf (L : List Va) (term : Int) (q : List Ca) (now : Int) (hn : L.length ≤ Ea) (hq : q.length ≤ Ea) :
 EC L term q now = some ((Fj L term q now).1, (Fj L term q now).2.1, (Fj L term q now).2.2, ()) := by
 have h20 : Ea = 1048576 := rfl
 unfold EC Fj
 rw [IU _ hn]
 cases q with
 | nil =>
  cases Mh L <;> simp only [jb, jg, qa, cond_true, cond_false]
  cases decide (term < 1) <;> cases decide (term > 200) <;> rfl
 | cons f r =>
  have hr : r.length ≤ Ea := by simp at hq; omega
  cases Mh L with
  | false => rfl
  | true =>
   simp only [jb, jg, jk, cond_false, Vx]
   cases decide (1 ≤ term ∧ term ≤ 200) with
   | false => rfl
   | true =>
    rw [show (((ja (f :: r) : Nat) : Int) == 0) = false by simp; omega]
    simp only [Vaj, jb, S2, cond_false, cond_true, jk]
    cases hf : ZD f with
    | false => rfl
    | true =>
     have hk := Gac hf
     cases f.2.2.1 with
     | false => rfl
     | true =>
      have hc : Ld (ja (f :: r)) (1 : Int) ((ja (f :: r) : Nat) : Int) = true := Bi (lo := 1) (by simp) (by simp)
      have hc2 : Gb (f :: r) (jy (1 : Int)) (jy ((ja (f :: r) : Nat) : Int)) = r := by
       show List.drop 1 (List.take _ (f :: r)) = r
       rw [jn, List.take_length]; rfl
      rw [Ba hk.2.2.1, TX _ _ hn, hc, hc2]
      simp only [jg, cond_false, cond_true, jb, qr, jk]
      cases Dr L (Ra .i64 1 f.2.1) with
      | false => rfl
      | true =>
       simp only [jg, cond_false, cond_true]
       rw [Yaa L term now f _ rfl _ _ hn hr]
       unfold Zay
       cases Tc (fun k s x => TU L (j5 .i64 (f.1 + term)) k s x) 0 (Ra .i64 1 f.2.1) r with
       | inl s =>
        simp only [jb, ql, cond_true]
        rw [QS _ _ hn]
        unfold SU
        simp only [jb]
        cases decide (now < j5 .i64 (f.1 + term)) <;> cases decide ((Yg L s).1 ≥ 0) <;> rfl
       | inr b =>
        cases b with
        | inl b =>
         simp only [jb, ql, cond_false]
         rw [QS _ _ hn]
         unfold SU
         simp only [jb]
         cases decide ((Yg L b.1).1 ≥ 0) <;> rfl
        | inr b => rfl
theorem Mag (L : List Va) (term : Int) (q : List Ca) (now : Int) (hn : L.length ≤ Ea) (hq : q.length ≤ Ea) :
 KD L term q now = some ((Fj L term q now).1, (Fj L term q now).2.1, (Fj L term q now).2.2, ()) := by
 have h20 : Ea = 1048576 := rfl
 unfold KD Fj
 rw [BV _ hn, Oc]
 cases q with
 | nil =>
  cases Mh L <;> simp only [jb, jg, qa, cond_true, cond_false]
  cases decide (1 ≤ term ∧ term ≤ 200) <;> rfl
 | cons f r =>
  have hr : r.length ≤ Ea := by simp at hq; omega
  cases hL : Mh L with
  | false => rfl
  | true =>
   simp only [jb, jg, jk, cond_false]
   cases decide (1 ≤ term ∧ term ≤ 200) with
   | false => rfl
   | true =>
    rw [show (((ja (f :: r) : Nat) : Int) == 0) = false by simp; omega]
    simp only [Vaj, jb, U3, cond_false, cond_true, jk, jg]
    cases hf : ZD f with
    | false => rfl
    | true =>
     have hk := Gac hf
     cases f.2.2.1 with
     | false => rfl
     | true =>
      rw [Ba hk.2.2.1, IY _ _ hn]
      simp only [jg, cond_false, cond_true, jb, qr, jk]
      have hfin : ∀ (s : Int) (n : Nat) (a : Int), (cond (decide ((Yg L s).1 < 0)) (some ((1 : Int), a, (Yg L s).1, ())) (some ((n : Int), a, (Yg L s).1, ()))) = some ((SU L s n a).1, (SU L s n a).2.1, (SU L s n a).2.2, ()) := by
       intro s n a
       unfold SU
       rcases KaE hL s with h | h
       ·rw [h]; rfl
       ·rw [Aa (by omega), Ba (show (Yg L s).1 ≥ 0 by omega)]; rfl
      cases Dr L (Ra .i64 1 f.2.1) with
      | false => rfl
      | true =>
       simp only [jg, cond_false, cond_true]
       rw [Aac L now f _ _ _ hn hr]
       unfold Zay
       cases Tc (fun k s x => TU L (j5 .i64 (f.1 + term)) k s x) 0 (Ra .i64 1 f.2.1) r with
       | inl s =>
        cases decide (now < j5 .i64 (f.1 + term)) with
        | true => rfl
        | false =>
         simp only [jb, ql, cond_false]
         rw [VS _ _ hn]
         exact hfin s (r.length + 1) _
       | inr b =>
        cases b with
        | inl b =>
         simp only [jb, ql]
         rw [VS _ _ hn]
         exact hfin b.1 b.2.1 _
        | inr b => rfl
theorem T8 (L : List Va) (term : Int) (f : Ca) (r : List Ca) (now : Int) : ∃ n : Nat, (Fj L term (f :: r) now).1 = (n : Int) ∧ n ≤ r.length + 1 := by
 have key : ∀ (e : Int) (l : List Ca) (k : Nat) (set : Int) (b : (Int × Nat × Int) ⊕ (Int × Int × Int)), Tc (fun k s x => TU L e k s x) k set l = .inr b →
  match b with | .inl b => b.2.1 ≤ k + l.length | .inr b => ∃ n : Nat, b.1 = (n : Int) ∧ n ≤ k + l.length + 1 := by
  intro e l
  induction l with
  | nil => intro k set b h; simp [Tc] at h
  | cons x l ih =>
   intro k set b h
   simp only [Tc] at h
   revert h
   cases hg : TU L e k set x with
   | inl s =>
    intro h
    have := ih (k + 1) s b h
    cases b with
    | inl b => simp only [jw] at this ⊢; omega
    | inr b => obtain ⟨n, h1, h2⟩ := this; exact ⟨n, h1, by simp only [jw]; omega⟩
   | inr r =>
    intro h
    simp only [Sum.inr.injEq] at h
    subst h
    unfold TU at hg
    revert hg
    cases ZD x <;> cases decide (x.1 ≥ e) <;> cases x.2.2.1 <;> cases Dr L (Pc .i64 set (Ra .i64 1 x.2.1)) <;> cases (decide ((Yg L (Pc .i64 set (Ra .i64 1 x.2.1))).1 ≥ 0) && !(Yg L (Pc .i64 set (Ra .i64 1 x.2.1))).2) <;>
     (intro hg; cases hg) <;>
     first
      | exact ⟨0, rfl, by omega⟩
      | exact ⟨_, rfl, by simp only [jw]; omega⟩
      | (simp only [jw]; omega)
 have Pi : ∀ s n a, n ≤ r.length + 1 → 1 ≤ n → ∃ m : Nat, (SU L s n a).1 = (m : Int) ∧ m ≤ r.length + 1 := by
  intro s n a hn _
  unfold SU
  cases decide ((Yg L s).1 ≥ 0)
  ·exact ⟨1, rfl, by omega⟩
  ·exact ⟨n, rfl, hn⟩
 simp only [Fj]
 cases Mh L && (decide (1 ≤ term ∧ term ≤ 200) && (ZD f && f.2.2.1)) with
 | false => exact ⟨0, rfl, by omega⟩
 | true =>
  cases Dr L (Ra .i64 1 f.2.1) with
  | false => exact ⟨1, rfl, by omega⟩
  | true =>
   simp only [cond_true, Zay]
   cases h : Tc (fun k s x => TU L (j5 .i64 (f.1 + term)) k s x) 0 (Ra .i64 1 f.2.1) r with
   | inl s =>
    cases decide (now < j5 .i64 (f.1 + term)) with
    | true => exact ⟨0, rfl, by omega⟩
    | false => exact Pi s _ _ (jo _) (by omega)
   | inr b =>
    have := key _ _ _ _ _ h
    cases b with
    | inl b =>
     unfold SU
     simp only at this ⊢
     cases decide ((Yg L b.1).1 ≥ 0)
     ·exact ⟨1, rfl, by omega⟩
     ·exact ⟨b.2.1, rfl, by omega⟩
    | inr b => obtain ⟨n, h1, h2⟩ := this; exact ⟨n, h1, by omega⟩
abbrev Nd (c : Pa) : List Ca := c.2.2.2.2.2.2.1
abbrev XaF (c : Pa) (l : List Ca) : Pa := (c.1, c.2.1, c.2.2.1, c.2.2.2.1, c.2.2.2.2.1, c.2.2.2.2.2.1, l, ())
def woE {α : Type} (l : List α) (i : Nat) : List α := jf (l.take i) (l.drop (i + 1))
def zEv : Ca := (0, 0, false, ())
def OT (l : List Ca) (key : Int) (j : Nat) : List Ca :=
 cond (Mb .i64 (l.getD j zEv).2.1 (Ra .i64 1 key) == 0) (woE l j) (l.set j ((l.getD j zEv).1, Mb .i64 (l.getD j zEv).2.1 (Ra .i64 1 key), false, ()))
def K0 (l : List Ca) (at_ : Int) (j : Nat) : List Ca := cond (l.getD j zEv).2.2.1 [(at_, (l.getD j zEv).1, false, ())] []
def HX (c : Pa) (key : Int) : Int := Td (fun (a : Ca) => !(Kd a.2.1 key == 0)) 0 (Nd c)
def SJ (c : Pa) (key at_ : Int) : Pa × List Ca :=
 if HX c key = -1 then ((c.1, c.2.1, c.2.2.1, c.2.2.2.1, c.2.2.2.2.1, Mb .i64 c.2.2.2.2.2.1 (Ra .i64 1 key), Nd c, ()), [(at_, key, false, ())])
 else (XaF c (OT (Nd c) key (HX c key).toNat), K0 (Nd c) at_ (HX c key).toNat)
theorem G5 {α : Type} (l : List α) (j : Nat) (hj : j < l.length) (v : α) :
 Gb (l.set j v) (jy (0 : Int)) (jy (j : Int)) = l.take j ∧ Gb (l.set j v) (jy ((j + 1 : Nat) : Int)) (jy ((ja (l.set j v) : Nat) : Int)) = l.drop (j + 1) := by
 constructor
 ·show List.drop 0 (List.take _ (l.set j v)) = _
  rw [jn, List.drop_zero, List.take_set_of_le (jo j)]
 ·show List.drop _ (List.take _ (l.set j v)) = _
  rw [jn, jn, List.take_length, List.drop_set_of_lt (by omega)]
theorem Way (c : Pa) (key at_ : Int) (hk : 0 ≤ key) (hn : (Nd c).length ≤ Ea) : Ap c key at_ = some ((SJ c key at_).1, ((SJ c key at_).2, ())) := by
 have h20 : Ea = 1048576 := rfl
 have hlim := Rd
 have hl := BB (step := fun x => On x.1.1 x.1.2.1 x.1.2.2.1 x.1.2.2.2.1 x.1.2.2.2.2.1 x.2.1) (Nd c) (fun (a : Ca) => !(Kd a.2.1 key == 0)) (fun i => (((), key, at_, ((ja (Nd c) : Nat) : Int), i, ()), (c, ())))
  (.inl (((), key, at_, ()), (c, ()))) (fun i => .inr (((), K0 (Nd c) at_ i.toNat, ()), (XaF c (OT (Nd c) key i.toNat), ()))) (by
   intro j hj
   simp only [On]
   rw [Ba (show (j : Int) < ((ja (Nd c) : Nat) : Int) by omega), Ag, Ba hj]
   have hg : (Nd c)[jy (j : Int)]? = some (Nd c)[j] := by rw [jn, je hj]
   have hgd : (Nd c).getD j zEv = (Nd c)[j] := by rw [qj, je hj]; rfl
   simp only [hg, cond_true, jb]
   rw [Ul _ hk, Ba hk]
   simp only [jb, cond_true]
   cases hb : Kd (Nd c)[j].2.1 key == 0 with
   | true => rfl
   | false =>
    simp only [cond_false, qa, cond_true]
    have hs2 : ∀ v w : Ca, (((Nd c).set j v).set j w) = (Nd c).set j w := fun v w => List.set_set ..
    have hs3 : ∀ v : Ca, ((Nd c).set j v)[jy (j : Int)]? = some v := fun v => by
     rw [jn, qx (by omega)]
    have ht : ∀ (l : List Ca) (v : Ca), l.set (jy (j : Int)) v = l.set j v := fun l v => by rw [jn]
    simp only [hs2, hs3, ht, jb, Kc (show j < 9223372036854775807 by omega), (G5 (Nd c) j hj _).1, (G5 (Nd c) j hj _).2]
    have hc1 : ∀ v : Ca, Ld (ja ((Nd c).set j v)) 0 (j : Int) = true := fun v => Bi (lo := 0) (by omega) (by rw [j9]; omega)
    have hc2 : ∀ v : Ca, Ld (ja ((Nd c).set j v)) ((j + 1 : Nat) : Int) ((ja ((Nd c).set j v) : Nat) : Int) = true := fun v => Bi (by rw [j9]; omega) (jo _)
    have hb1 : jx (ja ([] : List Ca) + ja ((Nd c).take j)) Qa = true := ji (by simp; omega)
    have hb2 : jx (ja (jf ([] : List Ca) ((Nd c).take j)) + ja ((Nd c).drop (j + 1))) Qa = true := ji (by simp; omega)
    simp only [hc1, hc2, hb1, hb2, cond_true, jn]
    unfold OT K0
    rw [hgd]
    generalize hx : (Nd c)[j] = x
    obtain ⟨xo, xl, xd, xu⟩ := x
    cases xd <;> cases Mb .i64 xl (Ra .i64 1 key) == 0 <;> rfl) (by
   simp only [On]
   rw [Aa (by omega)]; rfl) (by omega)
 unfold Ap Pq SJ HX
 erw [hl]
 simp only [jb]
 by_cases hc : Td (fun (a : Ca) => !(Kd a.2.1 key == 0)) 0 (Nd c) = -1
 ·rw [if_pos hc, if_pos hc]
  simp only [ql]
  rw [Ba hk]; rfl
 ·rw [if_neg hc, if_neg hc]; rfl
theorem Paz (c : Pa) (key at_ : Int) (hk : 0 ≤ key) (hn : (Nd c).length ≤ Ea) : CP c key at_ = some ((SJ c key at_).1, ((SJ c key at_).2, ())) := by
 have h20 : Ea = 1048576 := rfl
 have hlim := Rd
 have hl := BB (step := fun x => QH x.1.1 x.1.2.1 x.1.2.2.1 x.1.2.2.2.1 x.2.1) (Nd c) (fun (a : Ca) => !(Kd a.2.1 key == 0)) (fun i => (((), key, at_, i, ()), (c, ())))
  (.inl (((), key, at_, ()), (c, ()))) (fun i => .inr (((), K0 (Nd c) at_ i.toNat, ()), (XaF c (OT (Nd c) key i.toNat), ()))) (by
   intro j hj
   simp only [QH]
   rw [Ba (show (j : Int) < ((ja (Nd c) : Nat) : Int) by omega), Ag, Ba hj]
   have hg : (Nd c)[jy (j : Int)]? = some (Nd c)[j] := by rw [jn, je hj]
   have hgd : (Nd c).getD j zEv = (Nd c)[j] := by rw [qj, je hj]; rfl
   simp only [hg, cond_true, jb]
   rw [Ba hk]
   simp only [jb, cond_true]
   show cond (Kd (Nd c)[j].2.1 key == 0) _ _ = _
   cases hb : Kd (Nd c)[j].2.1 key == 0 with
   | true => rfl
   | false =>
    simp only [cond_false, qa, cond_true]
    have ht : ∀ v : Ca, (Nd c).set (jy (j : Int)) v = (Nd c).set j v := fun v => by rw [jn]
    simp only [ht, jb, Kc (show j < 9223372036854775807 by omega), (G5 (Nd c) j hj _).1, (G5 (Nd c) j hj _).2]
    have hc1 : ∀ v : Ca, Ld (ja ((Nd c).set j v)) 0 (j : Int) = true := fun v => Bi (lo := 0) (by omega) (by rw [j9]; omega)
    have hc2 : ∀ v : Ca, Ld (ja ((Nd c).set j v)) ((j + 1 : Nat) : Int) ((ja ((Nd c).set j v) : Nat) : Int) = true := fun v => Bi (by rw [j9]; omega) (jo _)
    have hb1 : jx (ja ([] : List Ca) + ja ((Nd c).take j)) Qa = true := ji (by simp; omega)
    have hb2 : jx (ja (jf ([] : List Ca) ((Nd c).take j)) + ja ((Nd c).drop (j + 1))) Qa = true := ji (by simp; omega)
    have hb3 : ∀ v : Ca, jx (ja ([] : List Ca) + ja [v]) Qa = true := fun v => ji (by rw [hlim]; simp)
    simp only [hc1, hc2, hb1, hb2, hb3, cond_true, jn]
    unfold OT K0
    rw [hgd]
    generalize hx : (Nd c)[j] = x
    obtain ⟨xo, xl, xd, xu⟩ := x
    cases xd <;> cases Mb .i64 xl (Ra .i64 1 key) == 0 <;> rfl) (by
   simp only [QH]
   rw [Aa (Int.lt_irrefl _)]; rfl) (by omega)
 unfold CP OI SJ HX
 erw [hl]
 simp only [jb]
 by_cases hc : Td (fun (a : Ca) => !(Kd a.2.1 key == 0)) 0 (Nd c) = -1
 ·rw [if_pos hc, if_pos hc]
  simp only [ql]
  rw [Ba hk]; rfl
 ·rw [if_neg hc, if_neg hc]; rfl
theorem PaT (n : Int) : j5 .i64 n ≤ 9223372036854775807 := by
 rw [IntKind.wrap_i64]; omega
theorem MaG (x y : Int) : Mb .i64 x y ≤ 9223372036854775807 := PaT _
theorem Oaf (l : List Ca) (at_ : Int) (j : Nat) : (K0 l at_ j).length ≤ 1 := by
 unfold K0
 cases (l.getD j zEv).2.2.1 <;> simp
theorem CaY (l : List Ca) (key : Int) (j : Nat) (hx : ∀ x ∈ l, x.2.1 ≤ 9223372036854775807) : (OT l key j).length ≤ l.length ∧ ∀ x ∈ OT l key j, x.2.1 ≤ 9223372036854775807 := by
 unfold OT
 cases Mb .i64 (l.getD j zEv).2.1 (Ra .i64 1 key) == 0 with
 | true =>
  simp only [cond_true, woE]
  refine ⟨by simp; omega, fun x h => ?_⟩
  rcases jl.1 (show x ∈ l.take j ++ l.drop (j + 1) from h) with h | h
  ·exact hx x (List.mem_of_mem_take h)
  ·exact hx x (qu h)
 | false =>
  simp only [cond_false]
  refine ⟨by simp, fun x h => ?_⟩
  rcases List.mem_or_eq_of_mem_set h with h | h
  ·exact hx x h
  ·rw [h]; exact MaG _ _
structure UW (c : Pa) : Prop where
 len : c.2.2.1.length ≤ 64
 ev : ∀ x ∈ c.2.2.1, 0 ≤ x.2.1
 L : c.1.length ≤ 8
 cb : Mh c.1 = true
 r : ∀ x ∈ Nd c, x.2.1 ≤ 9223372036854775807
def Xz (c : Pa) (x : Ca) (r : List Ca) : Option (Pa × List Ca) :=
 cond x.2.2.1
  (
   let m := Fj c.1 c.2.1 c.2.2.1 c.2.2.2.1
   cond (m.1 == 0) none
    (cond (decide (m.2.2 < 0))
     (some ((c.1, c.2.1, c.2.2.1.drop m.1.toNat, c.2.2.2.1, max (max c.2.2.2.2.1 x.1) m.2.1, Pc .i64 c.2.2.2.2.2.1 (Ra .i64 1 x.2.1), Nd c, ()), [(max (max c.2.2.2.2.1 x.1) m.2.1, x.2.1, true, ())]))
     (some ((c.1, c.2.1, c.2.2.1.drop m.1.toNat, c.2.2.2.1, max (max c.2.2.2.2.1 x.1) m.2.1, c.2.2.2.2.2.1, jf (Nd c) [(m.2.2, VZ c.1 m.2.2, true, ())], ()), [(max (max c.2.2.2.2.1 x.1) m.2.1, m.2.2, true, ())]))))
  (some (SJ (c.1, c.2.1, r, c.2.2.2.1, max c.2.2.2.2.1 x.1, c.2.2.2.2.2) x.2.1 (max c.2.2.2.2.1 x.1)))
def EaN (c : Pa) : Option (Pa × List Ca) → Pa × ((List Ca) × (Bool × Unit))
 | none => (c, ([], false, ()))
 | some (c', l) => (c', (l, true, ()))
theorem IZ {α : Type} (l : List α) (n : Nat) : Gb l (jy (n : Int)) (jy ((ja l : Nat) : Int)) = l.drop n := by
 show List.drop _ (List.take _ l) = _
 rw [jn, jn, List.take_length]
theorem Had {c : Pa} {x : Ca} {r : List Ca} (h : UW c) (hq : c.2.2.1 = x :: r) (ha : (Nd c).length ≤ 100000) : Wh c = some (EaN c (Xz c x r)) := by
 have h20 : Ea = 1048576 := rfl
 have hlim := Rd
 have h64 := h.len
 have hl8 := h.L
 have hkx : 0 ≤ x.2.1 := h.ev x (by rw [hq]; simp)
 have hlen : r.length ≤ 64 := by have := h.len; rw [hq] at this; simp at this; omega
 have hc := CU x r hlen
 have i0 : Af (ja (x :: r)) (0 : Int) = true := by rw [show (0 : Int) = ((0 : Nat) : Int) from rfl, Ag]; exact Ba (by simp)
 have g0 : (x :: r)[(jy (0 : Int))]? = some x := rfl
 have hb : jx (ja ([] : List Ca) + ja r) Qa = true := ji (by simp; omega)
 obtain ⟨cL, ct, q, now, clk, dn, act, u⟩ := c
 cases u
 simp only at hq ha h64 hl8
 have ha' : act.length ≤ 100000 := ha
 subst hq
 unfold Wh Xz
 simp only [i0, g0, hc.1, hc.2, hb, cond_true, jb]
 cases x.2.2.1 with
 | false =>
  simp only [qa, cond_true, cond_false]
  show jz (Ap (cL, ct, r, now, max clk x.1, dn, act, ()) x.2.1 (max clk x.1)) _ = _
  rw [Way _ _ _ hkx (by show act.length ≤ Ea; omega)]
  rfl
 | true =>
  simp only [jg, cond_false, cond_true]
  rw [Xaf _ _ _ _ (by omega) (by omega)]
  obtain ⟨n, hn, hn2⟩ := T8 cL ct x r now
  simp only [jb]
  cases hm : (Fj cL ct (x :: r) now).1 == 0 with
  | true => rfl
  | false =>
   simp only [cond_false]
   rw [hn, IZ, jn, Bi (show n ≤ (x :: r).length by simp; omega) (jo _)]
   have hb2 : jx (ja ([] : List Ca) + ja ((x :: r).drop n)) Qa = true := ji (by rw [qy]; simp only [jw, j8] at h64 ⊢; omega)
   rw [hb2, Ba hkx, YV _ _ (by omega)]
   simp only [cond_true, jb]
   have hb3 : ∀ v : Ca, jx (ja act + ja [v]) Qa = true := fun v => ji (by simp only [jw, j8]; omega)
   simp only [hb3, cond_true]
   cases decide ((Fj cL ct (x :: r) now).2.2 < 0) <;> rfl
theorem Vac {c c' : Pa} {x : Ca} {r : List Ca} {l : List Ca} (h : UW c) (hq : c.2.2.1 = x :: r) (hs : Xz c x r = some (c', l)) :
 UW c' ∧ c'.2.2.1.length < c.2.2.1.length ∧ (Nd c').length ≤ (Nd c).length + 1 ∧ l.length ≤ 1 ∧ c'.2.2.2.1 = c.2.2.2.1 := by
 have h64 := h.len
 have hlen : c.2.2.1.length = r.length + 1 := by rw [hq]; rfl
 unfold Xz at hs
 cases hd : x.2.2.1 with
 | false =>
  rw [hd] at hs
  simp only [cond_false, jc] at hs
  have e1 : c' = (SJ (c.1, c.2.1, r, c.2.2.2.1, max c.2.2.2.2.1 x.1, c.2.2.2.2.2) x.2.1 (max c.2.2.2.2.1 x.1)).1 := by rw [hs]
  have e2 : l = (SJ (c.1, c.2.1, r, c.2.2.2.1, max c.2.2.2.2.1 x.1, c.2.2.2.2.2) x.2.1 (max c.2.2.2.2.1 x.1)).2 := by rw [hs]
  have hr : ∀ y ∈ r, 0 ≤ y.2.1 := fun y hy => h.ev y (by rw [hq]; simp [hy])
  unfold SJ at e1 e2
  split at e1
  ·rename_i hc
   rw [if_pos hc] at e2
   subst e1 e2
   exact ⟨⟨by show r.length ≤ 64; omega, hr, h.L, h.cb, h.r⟩, by show r.length < _; omega, by show (Nd c).length ≤ _; omega, by simp, rfl⟩
  ·rename_i hc
   rw [if_neg hc] at e2
   have hu := CaY (Nd c) x.2.1 (HX (c.1, c.2.1, r, c.2.2.2.1, max c.2.2.2.2.1 x.1, c.2.2.2.2.2) x.2.1).toNat h.r
   subst e1 e2
   refine ⟨⟨by show r.length ≤ 64; omega, hr, h.L, h.cb, hu.2⟩, by show r.length < _; omega, ?_, ?_, rfl⟩
   ·have := hu.1
    show (OT (Nd c) _ _).length ≤ _
    omega
   ·exact Oaf _ _ _
 | true =>
  rw [hd] at hs
  simp only [cond_true] at hs
  obtain ⟨n, hn, hn2⟩ := T8 c.1 c.2.1 x r c.2.2.2.1
  rw [hq] at hs
  cases hm : (Fj c.1 c.2.1 (x :: r) c.2.2.2.1).1 == 0 with
  | true => rw [hm] at hs; simp at hs
  | false =>
   have hn0 : n ≠ 0 := by intro h0; rw [hn, h0] at hm; simp at hm
   rw [hm, hn, jn] at hs
   have hdl : ((x :: r).drop n).length < r.length + 1 := by rw [qy]; simp only [jw]; omega
   have hde : ∀ y ∈ (x :: r).drop n, 0 ≤ y.2.1 := fun y hy => h.ev y (by rw [hq]; exact qu hy)
   cases h2 : decide ((Fj c.1 c.2.1 (x :: r) c.2.2.2.1).2.2 < 0) with
   | true =>
    rw [h2] at hs
    simp only [cond_true, cond_false, jc, jh] at hs
    obtain ⟨rfl, rfl⟩ := hs
    exact ⟨⟨by show ((x :: r).drop n).length ≤ 64; omega, hde, h.L, h.cb, h.r⟩, by show ((x :: r).drop n).length < _; omega, by show (Nd c).length ≤ _; omega, by simp, rfl⟩
   | false =>
    rw [h2] at hs
    simp only [cond_false, jc, jh] at hs
    obtain ⟨rfl, rfl⟩ := hs
    refine ⟨⟨by show ((x :: r).drop n).length ≤ 64; omega, hde, h.L, h.cb, fun y hy => ?_⟩, by show ((x :: r).drop n).length < _; omega, by show (jf (Nd c) [_]).length ≤ _; simp, by simp, rfl⟩
    rcases jl.1 (show y ∈ Nd c ++ [_] from hy) with hy | hy
    ·exact h.r y hy
    ·rw [qe.1 hy]
     show VZ c.1 _ ≤ _
     unfold VZ
     cases hf : (Ik c.1 (Fj c.1 c.2.1 (x :: r) c.2.2.2.1).2.2).isSome with
     | true => have := HZ h.cb hf; omega
     | false =>
      have e : Ik c.1 (Fj c.1 c.2.1 (x :: r) c.2.2.2.1).2.2 = none := Option.not_isSome_iff_eq_none.1 (by rw [hf]; simp)
      rw [e]
      decide
def Dg : Nat → Pa → List Ca → Pa × List Ca
 | 0, c, o => (c, o)
 | n + 1, c, o => match c.2.2.1 with
  | [] => (c, o)
  | x :: r => match Xz c x r with
   | none => (c, o)
   | some (c', l) => Dg n c' (jf o l)
theorem Y0 (z : Pa) : ∀ (n : Nat) (c : Pa) (o : List Ca), UW c → c.2.2.1.length ≤ n → o.length + n ≤ 1000 → (Nd c).length + n ≤ 100000 →
 Vf (((), (), o, ()), (z, c, ())) = some (.inl (((), (), (Dg n c o).2, ()), (z, (Dg n c o).1, ())))
 | n, c, o, h, hl, ho, ha => by
  unfold Vf
  cases hq : c.2.2.1 with
  | nil =>
   have e1 : Dg n c o = (c, o) := by
    cases n with
    | zero => rfl
    | succ n => simp only [Dg, hq]
   have hstep : Og () () o z c = some (.inr (.inl (((), (), o, ()), (z, c, ())))) := by
    unfold Og
    rw [Aa (by rw [hq]; simp)]; rfl
   erw [Dd hstep]
   rw [e1]; rfl
  | cons x r =>
   have hlen : c.2.2.1.length = r.length + 1 := by rw [hq]; rfl
   cases n with
   | zero => omega
   | succ n =>
    have e1 : Dg (n + 1) c o = match Xz c x r with
     | none => (c, o)
     | some (c', l) => Dg n c' (jf o l) := by simp only [Dg, hq]
    rw [e1]
    have hp := Had h hq (by omega)
    cases hst : Xz c x r with
    | none =>
     have hstep : Og () () o z c = some (.inr (.inl (((), (), o, ()), (z, c, ())))) := by
      unfold Og
      rw [Ba (by rw [hlen]; omega)]
      show (jz (Wh c) _) = _
      rw [hp, hst]; rfl
     erw [Dd hstep]; rfl
    | some p =>
     obtain ⟨c', l⟩ := p
     have hn := Vac h hq hst
     have hstep : Og () () o z c = some (.inl (((), (), jf o l, ()), (z, c', ()))) := by
      unfold Og
      rw [Ba (by rw [hlen]; omega)]
      show (jz (Wh c) _) = _
      rw [hp, hst]
      have hb : jx (ja o + ja l) Qa = true := ji (by rw [Rd]; omega)
      simp only [EaN, jb, jg, cond_false, hb, cond_true]
     erw [Dd hstep]
     have ih := Y0 z n c' (jf o l) hn.1 (by omega) (by
      have : (jf o l).length = o.length + l.length := by simp
      omega) (by omega)
     unfold Vf at ih
     exact ih
theorem Xbh (c : Pa) (q : List Ca) (clk : Int) (key at_ : Int) :
 SJ (c.1, c.2.1, q, c.2.2.2.1, clk, c.2.2.2.2.2) key at_ = (((SJ c key at_).1.1, (SJ c key at_).1.2.1, q, (SJ c key at_).1.2.2.2.1, clk, (SJ c key at_).1.2.2.2.2.2), (SJ c key at_).2) := by
 have hi : HX (c.1, c.2.1, q, c.2.2.2.1, clk, c.2.2.2.2.2) key = HX c key := rfl
 unfold SJ
 rw [hi]
 by_cases h : HX c key = -1
 ·rw [if_pos h, if_pos h]
 ·rw [if_neg h, if_neg h]
theorem BaY (c : Pa) (key at_ : Int) : (SJ c key at_).1.2.2.1 = c.2.2.1 ∧ (SJ c key at_).2.length ≤ 1 := by
 unfold SJ
 by_cases h : HX c key = -1
 ·rw [if_pos h]; exact ⟨rfl, by simp⟩
 ·rw [if_neg h]; exact ⟨rfl, Oaf _ _ _⟩
theorem Bae {c : Pa} {x : Ca} {r : List Ca} (o : List Ca) (h : UW c) (hq : c.2.2.1 = x :: r) (ha : (Nd c).length ≤ 100000) (ho : o.length ≤ 1000) :
 Ys () o c = some (match Xz c x r with
  | none => .inr (.inr (((), o, ()), (c, ())))
  | some (c', l) => .inl (((), jf o l, ()), (c', ()))) := by
 have h20 : Ea = 1048576 := rfl
 have hlim := Rd
 have h64 := h.len
 have hl8 := h.L
 have hkx : 0 ≤ x.2.1 := h.ev x (by rw [hq]; simp)
 have hlen : r.length ≤ 64 := by have := h.len; rw [hq] at this; simp at this; omega
 have hc := CU x r hlen
 have i0 : Af (ja (x :: r)) (0 : Int) = true := by rw [show (0 : Int) = ((0 : Nat) : Int) from rfl, Ag]; exact Ba (by simp)
 have g0 : (x :: r)[(jy (0 : Int))]? = some x := rfl
 have hb : jx (ja ([] : List Ca) + ja r) Qa = true := ji (by simp; omega)
 have ho1 : ∀ v : Ca, jx (ja o + ja [v]) Qa = true := fun v => ji (by simp only [jw, j8]; omega)
 obtain ⟨cL, ct, q, now, clk, dn, act, u⟩ := c
 cases u
 simp only at hq ha h64 hl8
 have ha' : act.length ≤ 100000 := ha
 subst hq
 unfold Ys Xz
 have hgt : decide (((ja (x :: r) : Nat) : Int) > 0) = true := Ba (by simp only [jw]; omega)
 simp only [hgt, i0, g0, cond_true, jb]
 cases hd : x.2.2.1 with
 | false =>
  simp only [cond_false]
  show jz (CP (cL, ct, x :: r, now, clk, dn, act, ()) x.2.1 (max clk x.1)) _ = _
  rw [Paz _ _ _ hkx (by show act.length ≤ Ea; omega)]
  have hu := BaY (cL, ct, x :: r, now, clk, dn, act, ()) x.2.1 (max clk x.1)
  have hu2 := Xbh (cL, ct, x :: r, now, clk, dn, act, ()) r (max clk x.1) x.2.1 (max clk x.1)
  simp only at hu hu2
  have hb2 : jx (ja o + ja (SJ (cL, ct, x :: r, now, clk, dn, act, ()) x.2.1 (max clk x.1)).2) Qa = true := ji (by have := hu.2; omega)
  simp only [jb, hb2, hu.1, hc.1, hc.2, hb, cond_true, hu2]
  rfl
 | true =>
  simp only [cond_true]
  rw [Mag _ _ _ _ (by omega) (by omega)]
  obtain ⟨n, hn, hn2⟩ := T8 cL ct x r now
  simp only [jb]
  cases hm : (Fj cL ct (x :: r) now).1 == 0 with
  | true => rfl
  | false =>
   simp only [cond_false]
   rw [hn, IZ, jn, Bi (show n ≤ (x :: r).length by simp; omega) (jo _)]
   have hb2 : jx (ja ([] : List Ca) + ja ((x :: r).drop n)) Qa = true := ji (by rw [qy]; simp only [jw, j8] at h64 ⊢; omega)
   rw [hb2, Ba hkx, OW _ _ (by omega)]
   have hb3 : ∀ v : Ca, jx (ja (jf ([] : List Ca) act) + ja [v]) Qa = true := fun v => ji (by show act.length + _ ≤ Qa; simp only [jw, j8]; omega)
   have hb4 : jx (ja ([] : List Ca) + ja act) Qa = true := ji (by simp only [j8]; omega)
   simp only [hb3, hb4, ho1, cond_true, jb]
   have e1 : decide ((Fj cL ct (x :: r) now).2.2 ≥ 0) = !decide ((Fj cL ct (x :: r) now).2.2 < 0) := by
    rw [qz]; simp only [decide_eq_true_eq, Bool.not_eq_true', decide_eq_false_iff_not]; omega
   rw [e1]
   cases decide ((Fj cL ct (x :: r) now).2.2 < 0) <;> rfl
theorem D1 : ∀ (n : Nat) (c : Pa) (o : List Ca), UW c → c.2.2.1.length ≤ n → o.length + n ≤ 1000 → (Nd c).length + n ≤ 100000 →
 Bk (((), o, ()), (c, ())) = some (.inl (((), (Dg n c o).2, ()), ((Dg n c o).1, ()))) ∨ Bk (((), o, ()), (c, ())) = some (.inr (((), (Dg n c o).2, ()), ((Dg n c o).1, ())))
 | n, c, o, h, hl, ho, ha => by
  unfold Bk
  cases hq : c.2.2.1 with
  | nil =>
   have e1 : Dg n c o = (c, o) := by
    cases n with
    | zero => rfl
    | succ n => simp only [Dg, hq]
   have hstep : Ys () o c = some (.inr (.inl (((), o, ()), (c, ())))) := by
    unfold Ys
    rw [Aa (by rw [hq]; simp)]; rfl
   refine .inl ?_
   erw [Dd hstep]
   rw [e1]; rfl
  | cons x r =>
   have hlen : c.2.2.1.length = r.length + 1 := by rw [hq]; rfl
   cases n with
   | zero => omega
   | succ n =>
    have e1 : Dg (n + 1) c o = match Xz c x r with
     | none => (c, o)
     | some (c', l) => Dg n c' (jf o l) := by simp only [Dg, hq]
    rw [e1]
    have hp := Bae o h hq (by omega) (by omega)
    cases hst : Xz c x r with
    | none =>
     rw [hst] at hp
     refine .inr ?_
     erw [Dd hp]; rfl
    | some p =>
     obtain ⟨c', l⟩ := p
     have hn := Vac h hq hst
     rw [hst] at hp
     erw [Dd hp]
     have ih := D1 n c' (jf o l) hn.1 (by omega) (by
      have : (jf o l).length = o.length + l.length := by simp
      omega) (by omega)
     unfold Bk at ih
     exact ih
theorem Haa : ∀ (n : Nat) (c : Pa) (o : List Ca), UW c → UW (Dg n c o).1 ∧ (Nd (Dg n c o).1).length ≤ (Nd c).length + n ∧ (Dg n c o).2.length ≤ o.length + n
 | 0, c, o, h => ⟨h, by show (Nd c).length ≤ _; omega, by show o.length ≤ _; omega⟩
 | n + 1, c, o, h => by
  cases hq : c.2.2.1 with
  | nil =>
   have e : Dg (n + 1) c o = (c, o) := by simp only [Dg, hq]
   rw [e]; exact ⟨h, by show (Nd c).length ≤ _; omega, by show o.length ≤ _; omega⟩
  | cons x r =>
   cases hst : Xz c x r with
   | none =>
    have e : Dg (n + 1) c o = (c, o) := by simp only [Dg, hq, hst]
    rw [e]; exact ⟨h, by show (Nd c).length ≤ _; omega, by show o.length ≤ _; omega⟩
   | some p =>
    obtain ⟨c', l⟩ := p
    have e : Dg (n + 1) c o = Dg n c' (jf o l) := by simp only [Dg, hq, hst]
    have hn := Vac h hq hst
    have ih := Haa n c' (jf o l) hn.1
    have e2 : (jf o l).length = o.length + l.length := by simp
    rw [e]
    exact ⟨ih.1, by omega, by omega⟩
def zCb : Pa := (([] : List Va), (0 : Int), ([] : List Ca), (0 : Int), (0 : Int), (0 : Int), ([] : List Ca), ())
def YA (c : Pa) (l : List Ca) (til : Int) : Bool :=
 Ae c && (decide (c.2.2.2.1 ≤ til ∧ til ≤ 1000000) && (Pg l c.2.2.2.1 && (Sf l til && Ud (jf c.2.2.1 l) (Im c) 24)))
def QV (c : Pa) (l : List Ca) (til : Int) : Pa := (c.1, c.2.1, jf c.2.2.1 l, til, c.2.2.2.2)
def KN (c : Pa) (l : List Ca) (til : Int) : Pa × ((List Ca) × (Bool × Unit)) :=
 cond (YA c l til) ((Dg 64 (QV c l til) []).1, (Dg 64 (QV c l til) []).2, true, ()) (zCb, [], false, ())
theorem IaD {l : List Ca} (h : ∀ x ∈ l, 0 ≤ x.1 ∧ x.1 ≤ 31) (hp : (l.map fun x => x.1.toNat).Nodup) : l.length ≤ 32 := by
 have := V8 32 (l.map fun x => x.1.toNat) hp (by
  intro y hy
  obtain ⟨x, hx, rfl⟩ := qw.1 hy
  have := h x hx
  omega)
 rwa [List.length_map] at this
theorem Pae {L : List Va} : ∀ {l pre : List Ca}, SI L pre l = true → (∀ x ∈ l, 0 ≤ x.1) → (∀ x ∈ pre, 0 ≤ x.1) → (pre.map fun x => x.1.toNat).Nodup → ((pre ++ l).map fun x => x.1.toNat).Nodup
 | [], pre, _, _, _, hn => by simpa using hn
 | x :: l, pre, h, hx, hpre, hn => by
  simp only [SI, jd] at h
  have hne : LF pre x = true := h.1.2
  have := Pae (l := l) (pre := pre ++ [x]) h.2 (fun y hy => hx y (by simp [hy])) (fun y hy => by
   rcases jl.1 hy with hy | hy
   ·exact hpre y hy
   ·rw [qe.1 hy]; exact hx x (by simp)) (by
   rw [List.map_append, List.nodup_append]
   refine ⟨hn, by simp, ?_⟩
   intro a ha b hb hab
   obtain ⟨y, hy, rfl⟩ := qw.1 ha
   simp only [List.map_cons, List.map_nil, qe] at hb
   subst hb
   have h1 := (J7 (p := fun y : Ca => !(y.1 == x.1))).1 hne y hy
   simp only [Bool.not_eq_true', beq_eq_false_iff_ne] at h1
   have := hpre y hy
   have := hx x (by simp)
   omega)
  simpa using this
theorem Rac {c : Pa} (h : Ae c = true) : (Nd c).length ≤ 32 := by
 have ha := XJ h
 refine IaD (fun x hx => ⟨(ha x hx).lo, (ha x hx).hi⟩) ?_
 simp only [Ae, jd] at h
 have := Pae (pre := []) (l := Nd c) h.2.2.2.2.1.2.1 (fun x hx => (ha x hx).lo) (by simp) (by simp)
 simpa using this
theorem Daj {c : Pa} {l : List Ca} {til : Int} (hz : Hj c) (hc : Ae c = true) (hf : Ud (jf c.2.2.1 l) (Im c) 24 = true) : UW (QV c l til) := by
 have h1 : Mh c.1 = true := by simp only [Ae, jd] at hc; exact hc.1
 have h2 : c.1.length ≤ 8 := by simp only [Mh, jd, decide_eq_true_eq] at h1; exact h1.1
 refine ⟨BQ hf, fun x hx => ?_, h2, h1, hz.r⟩
 have := Uk (NZ (B8 hf) x hx)
 omega
theorem Vaa (c : Pa) (l : List Ca) (til : Int) (hz : Hj c) (hl : l.length ≤ 1000000) : Kr c l til = some (KN c l til) := by
 have h20 : Ea = 1048576 := rfl
 have hzq := hz.q
 have hze := hz.e
 have hlapp : (jf c.2.2.1 l).length = c.2.2.1.length + l.length := by simp
 have hlim : jx (ja c.2.2.1 + ja l) Qa = true := ji (by rw [Rd]; omega)
 unfold Kr KN
 rw [VR _ hz, Ku _ _ (by omega), PN _ hz, Ly _ hz.e]
 cases hd : Ae c with
 | false => rw [show YA c l til = false by unfold YA; rw [hd]; rfl]; rfl
 | true =>
  have hsw : swB c = true := by simp only [Ae, jd] at hd; exact hd.2.2.2.2.1.2.2
  have h64 : c.2.2.1.length ≤ 64 := by
   simp only [Ae, jd] at hd
   exact BQ hd.2.2.2.2.2.1
  simp only [jb, jg, cond_false, hlim, cond_true, hsw]
  rw [Lu _ _ _ (by rw [hlapp]; omega)]
  simp only [jb]
  have key : ∀ (K : Option (Pa × ((List Ca) × (Bool × Unit)))), (Ud (jf c.2.2.1 l) (Im c) 24 = true → K = some ((Dg 64 (QV c l til) []).1, (Dg 64 (QV c l til) []).2, true, ())) →
   (cond (decide (til < c.2.2.2.1)) (some (zCb, [], false, ())) (cond (decide (til > 1000000)) (some (zCb, [], false, ())) (cond (!Pg l c.2.2.2.1) (some (zCb, [], false, ())) (cond (!Sf l til) (some (zCb, [], false, ())) (cond (!Ud (jf c.2.2.1 l) (Im c) 24) (some (zCb, [], false, ())) K))))) =
   some (cond (YA c l til) ((Dg 64 (QV c l til) []).1, (Dg 64 (QV c l til) []).2, true, ()) (zCb, [], false, ())) := by
   intro K hK
   unfold YA
   rw [hd]
   by_cases h1 : til < c.2.2.2.1
   ·rw [Ba h1, Aa (show ¬ (c.2.2.2.1 ≤ til ∧ til ≤ 1000000) by omega)]; rfl
   ·by_cases h2 : til > 1000000
    ·rw [Aa h1, Ba h2, Aa (show ¬ (c.2.2.2.1 ≤ til ∧ til ≤ 1000000) by omega)]; rfl
    ·rw [Aa h1, Aa h2, Ba (show (c.2.2.2.1 ≤ til ∧ til ≤ 1000000) by omega)]
     cases Pg l c.2.2.2.1 with
     | false => rfl
     | true =>
      cases Sf l til with
      | false => rfl
      | true =>
       cases hq : Ud (jf c.2.2.1 l) (Im c) 24 with
       | false => rfl
       | true => exact hK hq
  have hrun : Ud (jf c.2.2.1 l) (Im c) 24 = true → ∀ z : Pa, Vf (((), (), ([] : List Ca), ()), (z, (c.1, c.2.1, jf c.2.2.1 l, til, c.2.2.2.2), ())) = some (.inl (((), (), (Dg 64 (QV c l til) []).2, ()), (z, (Dg 64 (QV c l til) []).1, ()))) := by
   intro hq z
   have h1 := Daj (til := til) hz hd hq
   have h2 := h1.len
   have h3 := Rac hd
   exact Y0 z 64 (QV c l til) [] h1 h2 (by simp) (by show (Nd c).length + 64 ≤ _; omega)
  by_cases h0 : l.length = 0
  ·have hna : Pg l c.2.2.2.1 = true := by unfold Pg; rw [h0]; rfl
   rw [Aa (show ¬ ((ja l : Nat) : Int) > 0 by omega)]
   simp only [cond_false]
   simp only [hna, jg, cond_false] at key
   exact key _ (fun hq => by rw [hrun hq]; rfl)
  ·obtain ⟨x, hx, hx1⟩ := RZ (l := l) (by omega)
   have hna : Pg l c.2.2.2.1 = !decide (x.1 < c.2.2.2.1) := by
    unfold Pg
    rw [show ((l.length : Int) == 0) = false by simp; intro h; rw [h] at h0; simp at h0, hx1]; rfl
   rw [Ba (show ((ja l : Nat) : Int) > 0 by omega), hx]
   simp only [cond_true, jb]
   simp only [hna, Bool.not_not] at key
   exact key _ (fun hq => by rw [hrun hq]; rfl)
theorem Dae (c : Pa) (h : UW c) (ha : (Nd c).length ≤ 32) : EB c = some ((Dg 64 c []).1, ((Dg 64 c []).2, ())) := by
 unfold EB
 rcases D1 64 c [] h h.len (by simp) (by omega) with h1 | h1 <;> (rw [h1]; rfl)
theorem Uab (c : Pa) (l : List Ca) (til : Int) (hz : Hj c) (hl : l.length ≤ 1000000) : Qs c l til = some (KN c l til) := by
 have h20 : Ea = 1048576 := rfl
 have hzq := hz.q
 have hze := hz.e
 have hlapp : (jf c.2.2.1 l).length = c.2.2.1.length + l.length := by simp
 have hn : jf ([] : List Ca) c.2.2.1 = c.2.2.1 := rfl
 have hlim : jx (ja c.2.2.1 + ja l) Qa = true := ji (by rw [Rd]; omega)
 have hlim2 : jx (ja ([] : List Ca) + ja c.2.2.1) Qa = true := ji (by rw [Rd]; simp; omega)
 unfold Qs KN
 rw [hn, hlim, hlim2, GS _ hz, Oc, NW _ hz, BP _ hz.e]
 simp only [cond_true]
 cases hd : Ae c with
 | false => rw [show YA c l til = false by unfold YA; rw [hd]; rfl]; rfl
 | true =>
  have h64 : c.2.2.1.length ≤ 64 := by
   simp only [Ae, jd] at hd
   exact BQ hd.2.2.2.2.2.1
  simp only [jb, jg, cond_false]
  rw [Ws _ _ _ (by rw [hlapp]; omega)]
  simp only [jb]
  unfold YA
  rw [hd]
  cases decide (c.2.2.2.1 ≤ til ∧ til ≤ 1000000) with
  | false => rfl
  | true =>
   cases hq : Ud (jf c.2.2.1 l) (Im c) 24 with
   | false => simp only [Bool.and_false]; rfl
   | true =>
    have hrun : EB (c.1, c.2.1, jf c.2.2.1 l, til, c.2.2.2.2) = _ := Dae (QV c l til) (Daj hz hd hq) (show (Nd c).length ≤ 32 from Rac hd)
    simp only [jg, cond_false, jk, Bool.and_true]
    rw [hrun]
    by_cases h0 : l.length = 0
    ·rw [Aa (show ¬ ((ja l : Nat) : Int) > 0 by omega)]
     rw [show Pg l c.2.2.2.1 = true by unfold Pg; rw [h0]; rfl, show Sf l til = true by unfold Sf; rw [h0]; rfl]
     rfl
    ·obtain ⟨x, hx, hx1⟩ := RZ (l := l) (by omega)
     obtain ⟨y, hy, hy1⟩ := GU (l := l) (by omega) (by omega)
     rw [Ba (show ((ja l : Nat) : Int) > 0 by omega), hx, hy]
     simp only [cond_true, jb]
     have e0 : ((l.length : Int) == 0) = false := by simp; intro h; rw [h] at h0; simp at h0
     rw [show Pg l c.2.2.2.1 = !decide (x.1 < c.2.2.2.1) by unfold Pg; rw [e0, hx1]; rfl]
     rw [show Sf l til = !decide (y.1 > til) by
      unfold Sf; rw [e0, hy1]
      rw [Bool.false_or, qz]; simp only [decide_eq_true_eq, Bool.not_eq_true', decide_eq_false_iff_not]; omega]
     cases decide (x.1 < c.2.2.2.1) <;> cases decide (y.1 > til) <;> rfl
def QW (w : Nat → Nat) (t : Nat) : Nat := ((cond (t.testBit 0) (w 0) 0) ||| (cond (t.testBit 1) (w 1) 0)) ||| ((cond (t.testBit 2) (w 2) 0) ||| (cond (t.testBit 3) (w 3) 0))
theorem HaE (w : Nat → Nat) (s t : Nat) : QW w (s ||| t) = QW w s ||| QW w t := by
 apply Nat.eq_of_testBit_eq
 intro i
 simp only [QW, Nat.testBit_or]
 cases s.testBit 0 <;> cases s.testBit 1 <;> cases s.testBit 2 <;> cases s.testBit 3 <;> cases t.testBit 0 <;> cases t.testBit 1 <;> cases t.testBit 2 <;> cases t.testBit 3 <;>
  simp only [Bool.or_true, Bool.true_or, Bool.or_false, Bool.false_or, cond_true, cond_false, Nat.zero_testBit] <;>
  cases (w 0).testBit i <;> cases (w 1).testBit i <;> cases (w 2).testBit i <;> cases (w 3).testBit i <;> rfl
def tri (i j : Nat) : Nat := if i ≤ j then j * (j + 1) / 2 + i else i * (i + 1) / 2 + j
def AM (e i j : Nat) : Bool := e.testBit (tri i j)
def B5 (e s t : Nat) : Bool :=
 (s.testBit 0 && (t.testBit 0 && AM e 0 0 || t.testBit 1 && AM e 0 1 || (t.testBit 2 && AM e 0 2 || t.testBit 3 && AM e 0 3)) || s.testBit 1 && (t.testBit 0 && AM e 1 0 || t.testBit 1 && AM e 1 1 || (t.testBit 2 && AM e 1 2 || t.testBit 3 && AM e 1 3))) ||
 (s.testBit 2 && (t.testBit 0 && AM e 2 0 || t.testBit 1 && AM e 2 1 || (t.testBit 2 && AM e 2 2 || t.testBit 3 && AM e 2 3)) || s.testBit 3 && (t.testBit 0 && AM e 3 0 || t.testBit 1 && AM e 3 1 || (t.testBit 2 && AM e 3 2 || t.testBit 3 && AM e 3 3)))
def Qaz (e a b s : Nat) : Nat := cond (B5 e (rowN 4 s a) (rowN 4 s b)) (s ||| rowN 4 s b <<< (a * 4)) s
def a3 (e a : Nat) : Nat → Nat → Nat := fun b s => Qaz e a b s
def a2 (e R : Nat) : Nat → Nat → Nat := fun a s => Ze (a3 e a) R s
def a1 (e R : Nat) : Nat → Nat → Nat := fun _ s => Ze (a2 e R) R s
def B0 (e R : Nat) : Nat := Ze (a1 e R) R 33825
def QT (e R s : Nat) : Bool := (List.range R).all fun a => (List.range R).all fun b => !B5 e (rowN 4 s a) (rowN 4 s b) || (rowN 4 s a ||| rowN 4 s b == rowN 4 s a)
theorem UaN : ∀ e : Fin 2, QT e.val 1 (B0 e.val 1) = true := by decide +kernel
theorem VaN : ∀ e : Fin 8, QT e.val 2 (B0 e.val 2) = true := by decide +kernel
theorem WaN : ∀ e : Fin 64, QT e.val 3 (B0 e.val 3) = true := by decide +kernel
theorem XaN : ∀ e : Fin 1024, QT e.val 4 (B0 e.val 4) = true := by decide +kernel
theorem Zax {e R : Nat} (he : e < 2 ^ (R * (R + 1) / 2)) (h1 : 1 ≤ R) (h4 : R ≤ 4) : QT e R (B0 e R) = true := by
 have : R = 1 ∨ R = 2 ∨ R = 3 ∨ R = 4 := by omega
 rcases this with rfl | rfl | rfl | rfl
 ·exact UaN ⟨e, he⟩
 ·exact VaN ⟨e, he⟩
 ·exact WaN ⟨e, he⟩
 ·exact XaN ⟨e, he⟩
theorem WY (x y : Nat) : (x &&& y != 0) = true ↔ ∃ k, x.testBit k = true ∧ y.testBit k = true := by
 rw [bne_iff_ne]
 constructor
 ·intro h
  obtain ⟨k, hk⟩ := Nat.exists_testBit_of_ne_zero h
  rw [Nat.testBit_and, jd] at hk
  exact ⟨k, hk⟩
 ·rintro ⟨k, h1, h2⟩ h0
  have : (x &&& y).testBit k = true := by rw [Nat.testBit_and, h1, h2]; rfl
  rw [h0, Nat.zero_testBit] at this
  exact absurd this (by decide)
theorem I5 (w : Nat → Nat) (t k : Nat) : (QW w t).testBit k = true ↔ ∃ i, i < 4 ∧ t.testBit i = true ∧ (w i).testBit k = true := by
 have e : (QW w t).testBit k = ((t.testBit 0 && (w 0).testBit k || t.testBit 1 && (w 1).testBit k) || (t.testBit 2 && (w 2).testBit k || t.testBit 3 && (w 3).testBit k)) := by
  simp only [QW, Nat.testBit_or]
  cases t.testBit 0 <;> cases t.testBit 1 <;> cases t.testBit 2 <;> cases t.testBit 3 <;> simp
 rw [e]
 simp only [Bool.or_eq_true, jd]
 constructor
 ·rintro ((h | h) | (h | h))
  ·exact ⟨0, by omega, h⟩
  ·exact ⟨1, by omega, h⟩
  ·exact ⟨2, by omega, h⟩
  ·exact ⟨3, by omega, h⟩
 ·rintro ⟨i, hi, h⟩
  have : i = 0 ∨ i = 1 ∨ i = 2 ∨ i = 3 := by omega
  rcases this with rfl | rfl | rfl | rfl
  ·exact .inl (.inl h)
  ·exact .inl (.inr h)
  ·exact .inr (.inl h)
  ·exact .inr (.inr h)
theorem HaD (e s t : Nat) : B5 e s t = true ↔ ∃ i j, i < 4 ∧ j < 4 ∧ s.testBit i = true ∧ t.testBit j = true ∧ AM e i j = true := by
 have h4 : ∀ p : Nat → Prop, (∃ i, i < 4 ∧ p i) ↔ ((p 0 ∨ p 1) ∨ (p 2 ∨ p 3)) := by
  intro p
  constructor
  ·rintro ⟨i, hi, h⟩
   have : i = 0 ∨ i = 1 ∨ i = 2 ∨ i = 3 := by omega
   rcases this with rfl | rfl | rfl | rfl
   ·exact .inl (.inl h)
   ·exact .inl (.inr h)
   ·exact .inr (.inl h)
   ·exact .inr (.inr h)
  ·rintro ((h | h) | (h | h))
   ·exact ⟨0, by omega, h⟩
   ·exact ⟨1, by omega, h⟩
   ·exact ⟨2, by omega, h⟩
   ·exact ⟨3, by omega, h⟩
 have h5 : (∃ i j, i < 4 ∧ j < 4 ∧ s.testBit i = true ∧ t.testBit j = true ∧ AM e i j = true) ↔ ∃ i, i < 4 ∧ (s.testBit i = true ∧ ∃ j, j < 4 ∧ (t.testBit j = true ∧ AM e i j = true)) := by
  constructor
  ·rintro ⟨i, j, a, b, c, d, f⟩; exact ⟨i, a, c, j, b, d, f⟩
  ·rintro ⟨i, a, c, j, b, d, f⟩; exact ⟨i, j, a, b, c, d, f⟩
 rw [h5, h4]
 simp only [h4]
 simp only [B5, Bool.or_eq_true, jd]
def Px (w : Nat → Nat) : Nat :=
 ((cond (w 0 &&& w 0 != 0) 1 0) ||| (cond (w 0 &&& w 1 != 0) 2 0) ||| (cond (w 1 &&& w 1 != 0) 4 0) ||| (cond (w 0 &&& w 2 != 0) 8 0) ||| (cond (w 1 &&& w 2 != 0) 16 0)) |||
 ((cond (w 2 &&& w 2 != 0) 32 0) ||| (cond (w 0 &&& w 3 != 0) 64 0) ||| (cond (w 1 &&& w 3 != 0) 128 0) ||| (cond (w 2 &&& w 3 != 0) 256 0) ||| (cond (w 3 &&& w 3 != 0) 512 0))
theorem Daa (w : Nat → Nat) : ∀ i j, i < 4 → j < 4 → AM (Px w) i j = (w i &&& w j != 0) := by
 have hc : ∀ i j, (w i &&& w j != 0) = (w j &&& w i != 0) := fun i j => by rw [Nat.and_comm]
 have key : ∀ b0 b1 b2 b3 b4 b5 b6 b7 b8 b9 : Bool,
  (let e := ((cond b0 1 0) ||| (cond b1 2 0) ||| (cond b2 4 0) ||| (cond b3 8 0) ||| (cond b4 16 0)) |||
 ((cond b5 32 0) ||| (cond b6 64 0) ||| (cond b7 128 0) ||| (cond b8 256 0) ||| (cond b9 512 0))
  e.testBit 0 = b0 ∧ e.testBit 1 = b1 ∧ e.testBit 2 = b2 ∧ e.testBit 3 = b3 ∧ e.testBit 4 = b4 ∧ e.testBit 5 = b5 ∧ e.testBit 6 = b6 ∧ e.testBit 7 = b7 ∧ e.testBit 8 = b8 ∧ e.testBit 9 = b9) := by decide +kernel
 have := key (w 0 &&& w 0 != 0) (w 0 &&& w 1 != 0) (w 1 &&& w 1 != 0) (w 0 &&& w 2 != 0) (w 1 &&& w 2 != 0) (w 2 &&& w 2 != 0) (w 0 &&& w 3 != 0) (w 1 &&& w 3 != 0) (w 2 &&& w 3 != 0) (w 3 &&& w 3 != 0)
 obtain ⟨h0, h1, h2, h3, h4, h5, h6, h7, h8, h9⟩ := this
 intro i j hi hj
 have i4 : i = 0 ∨ i = 1 ∨ i = 2 ∨ i = 3 := by omega
 have j4 : j = 0 ∨ j = 1 ∨ j = 2 ∨ j = 3 := by omega
 rcases i4 with rfl | rfl | rfl | rfl <;> rcases j4 with rfl | rfl | rfl | rfl
 ·exact h0
 ·exact h1
 ·exact h3
 ·exact h6
 ·rw [hc]; exact h1
 ·exact h2
 ·exact h4
 ·exact h7
 ·rw [hc]; exact h3
 ·rw [hc]; exact h4
 ·exact h5
 ·exact h8
 ·rw [hc]; exact h6
 ·rw [hc]; exact h7
 ·rw [hc]; exact h8
 ·exact h9
theorem RaF (w : Nat → Nat) {R : Nat} (h1 : 1 ≤ R) (h4 : R ≤ 4) (hw : ∀ i, R ≤ i → w i = 0) : Px w < 2 ^ (R * (R + 1) / 2) := by
 have k1 : ∀ b : Bool, cond b 1 0 < 2 := by decide
 have k2 : ∀ b0 b1 b2 : Bool, (cond b0 1 0 ||| cond b1 2 0 ||| cond b2 4 0) < 8 := by decide
 have k3 : ∀ b0 b1 b2 b3 b4 b5 : Bool, ((cond b0 1 0 ||| cond b1 2 0 ||| cond b2 4 0 ||| cond b3 8 0 ||| cond b4 16 0) ||| cond b5 32 0) < 64 := by decide +kernel
 have k4 : ∀ b0 b1 b2 b3 b4 b5 b6 b7 b8 b9 : Bool, ((((cond b0 1 0) ||| (cond b1 2 0) ||| (cond b2 4 0) ||| (cond b3 8 0) ||| (cond b4 16 0)) |||  ((cond b5 32 0) ||| (cond b6 64 0) ||| (cond b7 128 0) ||| (cond b8 256 0) ||| (cond b9 512 0))) < 1024) := by decide +kernel
 have : R = 1 ∨ R = 2 ∨ R = 3 ∨ R = 4 := by omega
 rcases this with rfl | rfl | rfl | rfl
 ·have := k1 (w 0 &&& w 0 != 0)
  simpa [Px, hw 1 (by omega), hw 2 (by omega), hw 3 (by omega)] using this
 ·have := k2 (w 0 &&& w 0 != 0) (w 0 &&& w 1 != 0) (w 1 &&& w 1 != 0)
  simpa [Px, hw 2 (by omega), hw 3 (by omega)] using this
 ·have := k3 (w 0 &&& w 0 != 0) (w 0 &&& w 1 != 0) (w 1 &&& w 1 != 0) (w 0 &&& w 2 != 0) (w 1 &&& w 2 != 0) (w 2 &&& w 2 != 0)
  simpa [Px, hw 3 (by omega)] using this
 ·exact k4 _ _ _ _ _ _ _ _ _ _
theorem Eaf (w : Nat → Nat) (s t : Nat) : (QW w s &&& QW w t != 0) = B5 (Px w) s t := by
 rw [qz, WY, HaD]
 constructor
 ·rintro ⟨k, h1, h2⟩
  obtain ⟨i, hi, a, b⟩ := (I5 w s k).1 h1
  obtain ⟨j, hj, c, d⟩ := (I5 w t k).1 h2
  refine ⟨i, j, hi, hj, a, c, ?_⟩
  rw [Daa w i j hi hj, WY]
  exact ⟨k, b, d⟩
 ·rintro ⟨i, j, hi, hj, a, c, h⟩
  rw [Daa w i j hi hj, WY] at h
  obtain ⟨k, b, d⟩ := h
  exact ⟨k, (I5 w s k).2 ⟨i, hi, a, b⟩, (I5 w t k).2 ⟨j, hj, c, d⟩⟩
def RP (w : Nat → Nat) (C R m s : Nat) : Prop := ∀ r, r < R → rowN C m r = QW w (rowN 4 s r)
theorem UZ {S T : Type} {g : Nat → S → S} {h : Nat → T → T} {p : S → T → Prop} {n : Nat} {s0 : S} {t0 : T} (h0 : p s0 t0) (hs : ∀ k s t, k < n → p s t → p (g k s) (h k t)) : ∀ k, k ≤ n → p (Ze g k s0) (Ze h k t0)
 | 0, _ => h0
 | k + 1, hk => hs k _ _ (by omega) (UZ h0 hs k (by omega))
theorem QaH {w : Nat → Nat} {C R m s a b : Nat} (ha : a < R) (hb : b < R) (h : RP w C R m s) : RP w C R (Sz C a b m) (Qaz (Px w) a b s) := by
 unfold Sz Qaz
 rw [h a ha, h b hb, Eaf]
 cases B5 (Px w) (rowN 4 s a) (rowN 4 s b) with
 | false => exact h
 | true =>
  simp only [cond_true]
  intro r hr
  rw [Lal C m a _ r (by rw [← h b hb]; exact ES C m b), Lal 4 s a _ r (ES 4 s b)]
  by_cases e : r = a
  ·rw [if_pos e, if_pos e, HaE, h a ha]
  ·rw [if_neg e, if_neg e, h r hr]
theorem Obm {w : Nat → Nat} {C R m s a : Nat} (ha : a < R) (h : RP w C R m s) : RP w C R (Ze (g3 C a) R m) (Ze (a3 (Px w) a) R s) :=
 UZ (p := RP w C R) (g := g3 C a) (h := a3 (Px w) a) (n := R) h (fun b s t hb h3 => QaH ha hb h3) R (jo R)
theorem Nbm {w : Nat → Nat} {C R m s : Nat} (h : RP w C R m s) : RP w C R (Ze (g2 C R) R m) (Ze (a2 (Px w) R) R s) :=
 UZ (p := RP w C R) (g := g2 C R) (h := a2 (Px w) R) (n := R) h (fun a s t ha h3 => Obm ha h3) R (jo R)
theorem Mbm {w : Nat → Nat} {C R m s : Nat} (h : RP w C R m s) : RP w C R (Ze (g1 C R) R m) (Ze (a1 (Px w) R) R s) :=
 UZ (p := RP w C R) (g := g1 C R) (h := a1 (Px w) R) (n := R) h (fun _ s t _ h3 => Nbm h3) R (jo R)
def wOf (C R m i : Nat) : Nat := if i < R then rowN C m i else 0
theorem PaH {C R m : Nat} (hR : R ≤ 4) : RP (wOf C R m) C R (Fq C R m) (B0 (Px (wOf C R m)) R) := by
 have h0 : RP (wOf C R m) C R m 33825 := by
  intro r hr
  have : r = 0 ∨ r = 1 ∨ r = 2 ∨ r = 3 := by omega
  have e0 : rowN 4 33825 0 = 1 := by decide
  have e1 : rowN 4 33825 1 = 2 := by decide
  have e2 : rowN 4 33825 2 = 4 := by decide
  have e3 : rowN 4 33825 3 = 8 := by decide
  rcases this with rfl | rfl | rfl | rfl
  ·rw [e0, show rowN C m 0 = wOf C R m 0 from (if_pos hr).symm]; simp [QW, show Nat.testBit 1 1 = false from by decide, show Nat.testBit 1 2 = false from by decide, show Nat.testBit 1 3 = false from by decide]
  ·rw [e1, show rowN C m 1 = wOf C R m 1 from (if_pos hr).symm]; simp [QW, show Nat.testBit 2 0 = false from by decide, show Nat.testBit 2 1 = true from by decide, show Nat.testBit 2 2 = false from by decide, show Nat.testBit 2 3 = false from by decide]
  ·rw [e2, show rowN C m 2 = wOf C R m 2 from (if_pos hr).symm]; simp [QW, show Nat.testBit 4 0 = false from by decide, show Nat.testBit 4 1 = false from by decide, show Nat.testBit 4 2 = true from by decide, show Nat.testBit 4 3 = false from by decide]
  ·rw [e3, show rowN C m 3 = wOf C R m 3 from (if_pos hr).symm]; simp [QW, show Nat.testBit 8 0 = false from by decide, show Nat.testBit 8 1 = false from by decide, show Nat.testBit 8 2 = false from by decide, show Nat.testBit 8 3 = true from by decide]
 unfold Fq B0
 exact Mbm h0
theorem Haz {C m a x : Nat} (h : rowN C m a ||| x = rowN C m a) : m ||| x <<< (a * C) = m := by
 apply Nat.eq_of_testBit_eq
 intro i
 rw [Nat.testBit_or, Nat.testBit_shiftLeft]
 cases hx : (decide (i ≥ a * C) && x.testBit (i - a * C)) with
 | false => simp
 | true =>
  simp only [jd, decide_eq_true_eq] at hx
  have h1 : (rowN C m a).testBit (i - a * C) = true := by rw [← h, Nat.testBit_or, hx.2]; simp
  rw [PQ, jd] at h1
  have h2 := h1.2
  rw [show a * C + (i - a * C) = i by omega] at h2
  rw [h2]; rfl
theorem TZ {S : Type} {g : Nat → S → S} {n : Nat} {s : S} (h : ∀ k, k < n → g k s = s) : ∀ k, k ≤ n → Ze g k s = s
 | 0, _ => rfl
 | k + 1, hk => by
  show g k (Ze g k s) = s
  rw [TZ h k (by omega)]
  exact h k (by omega)
theorem RaD {C R m : Nat} (h : UM C R) : Fq C R (Fq C R m) = Fq C R m := by
 have hrel := PaH (C := C) (m := m) h.r2
 have hcl := Zax (RaF (wOf C R m) h.r1 h.r2 fun i hi => if_neg (by omega)) h.r1 h.r2
 have hst : ∀ a b, a < R → b < R → Sz C a b (Fq C R m) = Fq C R m := by
  intro a b ha hb
  unfold Sz
  cases hc : (rowN C (Fq C R m) a &&& rowN C (Fq C R m) b != 0) with
  | false => rfl
  | true =>
   simp only [cond_true]
   apply Haz
   rw [hrel a ha, hrel b hb] at hc ⊢
   rw [Eaf] at hc
   simp only [QT, List.all_eq_true, List.mem_range, Bool.or_eq_true, Bool.not_eq_true', beq_iff_eq] at hcl
   rcases hcl a ha b hb with h1 | h1
   ·rw [hc] at h1; exact absurd h1 (by decide)
   ·rw [← HaE, h1]
 unfold Fq at hst ⊢
 exact TZ (n := R) (fun _ _ => TZ (n := R) (fun a ha => TZ (n := R) (fun b hb => hst a b ha hb) R (jo R)) R (jo R)) R (jo R)
theorem Vam {M : Ce} {x : Int} (h : Jd M x = true) : Tj M (Ip M x) = true := by
 unfold Tj
 rw [SaD h, jk, beq_iff_eq]
 obtain ⟨C, R, m, d, rfl, rfl, hd, hm⟩ := TL h
 rw [DS, DS]
 cases d with
 | true => rfl
 | false =>
  show ((Fq C R (Fq C R m) : Nat) : Int) = _
  rw [RaD hd]; rfl
def BM (a b t : Int) (k : Nat) (o : List Ca) : List Ca := cond (Kd a (k : Int) != Kd b (k : Int)) (jf o [(t, (k : Int), Kd b (k : Int) == 1, ())]) o
def B2 (a b t : Int) : List Ca := Ze (BM a b t) 32 []
theorem C2 (a b t : Int) : ∀ n, (Ze (BM a b t) n []).length ≤ n
 | 0 => jo _
 | n + 1 => by
  have ih := C2 a b t n
  show (BM a b t n (Ze (BM a b t) n [])).length ≤ n + 1
  unfold BM at ih ⊢
  cases Kd a (n : Int) != Kd b (n : Int)
  ·simp only [cond_false]; omega
  ·simp only [cond_true]; simp; omega
theorem Waa (a b t : Int) : Sr a b t = some (B2 a b t, ()) := by
 have hl := Hh (step := fun x => Vl x.1.1 x.1.2.1 x.1.2.2.1 x.1.2.2.2.1 x.1.2.2.2.2.1) 32 (by omega) (BM a b t) [] (fun o i => ((a, b, t, o, i, ()), ())) (fun o => .inl ((o, ()), ())) (by
  intro k hk
  have hlen := C2 a b t k
  simp only [Vl]
  rw [Ba (by omega), Ul a (by omega), Ul b (by omega)]
  simp only [cond_true, jb]
  show _ = some (Sum.inl ((a, b, t, BM a b t k (Ze (BM a b t) k []), _, ()), ()))
  generalize Ze (BM a b t) k [] = o at hlen ⊢
  unfold BM
  have hb : ∀ v : Ca, jx (ja o + ja [v]) Qa = true := fun v => ji (by rw [Rd]; simp only [jw, j8]; omega)
  cases Kd a (k : Int) != Kd b (k : Int)
  ·rfl
  ·simp only [cond_true, hb]) (by
  simp only [Vl]
  rw [Aa (by omega)]; rfl)
 unfold Sr Vn
 erw [hl]
 rfl
theorem Dao {a b : Nat} {t : Int} {n : Nat} (ha : a < 2 ^ n) (hb : b < 2 ^ n) (hn : n ≤ 32) : ∀ k, Ze (BM (a : Int) (b : Int) t) (n + k) [] = Ze (BM (a : Int) (b : Int) t) n [] ∨ 32 < n + k
 | 0 => .inl rfl
 | k + 1 => by
  rcases Nat.lt_or_ge 32 (n + (k + 1)) with h | h
  ·exact .inr h
  ·rcases Dao (t := t) ha hb hn k with ih | ih
   ·refine .inl ?_
    show BM (a : Int) (b : Int) t (n + k) (Ze (BM (a : Int) (b : Int) t) (n + k) []) = _
    rw [ih]
    unfold BM
    have Hx : n ≤ 62 := by omega
    have h63 : ∀ x : Nat, x < 2 ^ n → x < 2 ^ 63 := fun x hx => qm hx (qn (by omega) (by omega))
    rw [Gaa (h63 a ha) (h63 b hb) (by omega), qo]
    rw [Nat.testBit_lt_two_pow (qm ha (qn (by omega) (Nat.le_add_right n k))), Nat.testBit_lt_two_pow (qm hb (qn (by omega) (Nat.le_add_right n k)))]
    rfl
   ·omega
theorem Wab (z : Fd) (b : Fd) (acc : Int) (d : Qb) (n : Nat) (hk : d.2.2.1 = (n : Int)) (hn : n ≤ 24) (x y : Nat) (hx : b.2.1.2.2.2.1 = (x : Int)) (hx2 : x < 2 ^ n) (hy : d.2.2.2.1 = (y : Int)) (hy2 : y < 2 ^ n) :
 Xj (((), (), acc, (), ([] : List Ca), (0 : Int), ()), (b, z, d, ())) = some (.inl (((), (), acc, (), B2 b.2.1.2.2.2.1 d.2.2.2.1 b.2.2.2.2.2.1, ()), (b, z, d, ()))) := by
 have h63 : ∀ x : Nat, x < 2 ^ n → x < 2 ^ 63 := fun x hx => qm hx (qn (by omega) (by omega))
 have hl := Hh (step := fun x => Ps x.1.1 x.1.2.1 x.1.2.2.1 x.1.2.2.2.1 x.1.2.2.2.2.1 x.1.2.2.2.2.2.1 x.2.1 x.2.2.1 x.2.2.2.1) n (by omega) (BM b.2.1.2.2.2.1 d.2.2.2.1 b.2.2.2.2.2.1) []
  (fun o i => (((), (), acc, (), o, i, ()), (b, z, d, ()))) (fun o => .inl (((), (), acc, (), o, ()), (b, z, d, ()))) (by
  intro k hk'
  have hlen := C2 b.2.1.2.2.2.1 d.2.2.2.1 b.2.2.2.2.2.1 k
  simp only [Ps]
  have e1 : (Wa .i64 (Wb .i64 (Za .i64 d.2.2.2.1 b.2.1.2.2.2.1) (k : Int)) 1 == 1) = (Kd b.2.1.2.2.2.1 (k : Int) != Kd d.2.2.2.1 (k : Int)) := by
   rw [hx, hy, N7 (h63 y hy2) (h63 x hx2) (by omega), Gaa (h63 y hy2) (h63 x hx2) (by omega), Gaa (h63 x hx2) (h63 y hy2) (by omega), Nat.xor_comm]
  have e2 : Wa .i64 (Wb .i64 d.2.2.2.1 (k : Int)) 1 = Kd d.2.2.2.1 (k : Int) := rfl
  rw [Ba (show (k : Int) < d.2.2.1 by omega), Ba (show (0 : Int) ≤ (k : Int) by omega), e1, e2]
  simp only [cond_true]
  show _ = some (Sum.inl (((), (), acc, (), BM b.2.1.2.2.2.1 d.2.2.2.1 b.2.2.2.2.2.1 k (Ze (BM b.2.1.2.2.2.1 d.2.2.2.1 b.2.2.2.2.2.1) k []), _, ()), _))
  generalize Ze (BM b.2.1.2.2.2.1 d.2.2.2.1 b.2.2.2.2.2.1) k [] = o at hlen ⊢
  unfold BM
  have hb : ∀ v : Ca, jx (ja o + ja [v]) Qa = true := fun v => ji (by rw [Rd]; simp only [jw, j8]; omega)
  cases Kd b.2.1.2.2.2.1 (k : Int) != Kd d.2.2.2.1 (k : Int)
  ·rfl
  ·simp only [cond_true, hb]) (by
  simp only [Ps]
  rw [Aa (by omega)]; rfl)
 unfold Xj
 refine hl.trans ?_
 unfold B2
 rw [hx, hy]
 rcases Dao (t := b.2.2.2.2.2.1) hx2 hy2 (by omega) (32 - n) with h | h
 ·rw [show n + (32 - n) = 32 by omega] at h
  rw [h]
 ·omega
noncomputable def JY (b : Fd) (x : Int) : Bool := Zm b && (Jd b.1 x && !decide (b.2.2.2.2.2.1 ≥ 1000000))
def Ox (b : Fd) (x : Int) : Int := Pai b.1 b.2.2.2.2.1 (Ip b.1 x)
def Mn (b : Fd) (x : Int) : Qb := (W7 b.2.1 (Ox b x)).1
def Nv (b : Fd) (x : Int) : Pa × ((List Ca) × (Bool × Unit)) := KN b.2.2.1 (B2 b.2.1.2.2.2.1 (Mn b x).2.2.2.1 b.2.2.2.2.2.1) b.2.2.2.2.2.1
noncomputable def LA (b : Fd) (x : Int) : Ib × ((List Qe) × (Bool × Unit)) := UO b.2.2.2.1 (Nv b x).2.1 b.2.2.2.2.2.1
noncomputable def Mq (b : Fd) (x : Int) : Fd × ((List Qe) × (Bool × Unit)) :=
 cond (JY b x && ((Nv b x).2.2.1 && (LA b x).2.2.1))
  ((b.1, Mn b x, (Nv b x).1, (LA b x).1, Ox b x, j5 .i64 (b.2.2.2.2.2.1 + 1), ()), (LA b x).2.1, true, ()) (KY, [], false, ())
structure Bax (b : Fd) (x : Int) : Prop where
 bd : Zm b = true
 msk : Jd b.1 x = true
 old : Jd b.1 b.2.2.2.2.1 = true
 dk : b.2.1.2.2.1 = Yc b.1
 db : Eh b.2.1 = true
 cb : Ae b.2.2.1 = true
 dc : Pf b.2.2.2.1 = true
 t : 0 ≤ b.2.2.2.2.2.1 ∧ b.2.2.2.2.2.1 ≤ 1000000
theorem Yal {b : Fd} {x : Int} (h : Zm b = true) (hm : Jd b.1 x = true) : Bax b x := by
 have hb := h
 simp only [Zm, jd, decide_eq_true_eq, beq_iff_eq] at h
 exact ⟨hb, hm, h.2.2.2.2.2.2.1, h.2.2.2.2.1, h.2.1, h.2.2.1, h.2.2.2.1, h.2.2.2.2.2.2.2.2.1⟩
theorem N9 {b : Fd} {x : Int} (h : Bax b x) : XT b.1 b.2.2.2.2.1 (Ip b.1 x) = true ∧ Jd b.1 (Ox b x) = true ∧ Z1 b.2.1 (Ox b x) = true := by
 have h1 : XT b.1 b.2.2.2.2.1 (Ip b.1 x) = true := by
  unfold XT
  rw [h.old, Vam h.msk]; rfl
 have h2 := QaF h1
 refine ⟨h1, h2, ?_⟩
 unfold Z1
 rw [h.db, jk, h.dk]
 have h3 : Jd b.1 (Ox b x) = true := h2
 simp only [Jd, jd] at h3
 exact h3.2
theorem Jaj {b : Fd} {x : Int} (h : Bax b x) : W7 b.2.1 (Ox b x) = (Mn b x, true, ()) ∧ Mn b x = (b.2.1.1, b.2.1.2.1, b.2.1.2.2.1, (Xac b.2.1 (Ox b x)).1, Ox b x, (Xac b.2.1 (Ox b x)).2, ()) := by
 have := (N9 h).2.2
 unfold Mn W7
 rw [this]
 exact ⟨rfl, rfl⟩
theorem U7 (c : Pa) (l : List Ca) (til : Int) (hz : Hj c) : (KN c l til).2.1.length ≤ 64 ∧ Hj (KN c l til).1 ∧ Ha Pb (KN c l til).1 ≤ 200 := by
 unfold KN
 cases h : YA c l til with
 | false =>
  simp only [cond_false]
  exact ⟨by simp, ⟨by decide, by decide, by decide, fun x hx => by simp [zCb] at hx⟩, by decide⟩
 | true =>
  simp only [YA, jd] at h
  have h1 := Daj (til := til) hz h.1 h.2.2.2.2
  have h2 := Haa 64 (QV c l til) [] h1
  have h3 : (Nd (QV c l til)).length ≤ 32 := show (Nd c).length ≤ 32 from Rac h.1
  have h4 := h2.1.L
  have h5 := h2.1.len
  have h6 := h2.2.1
  have h7 := h2.2.2
  have h20 : Ea = 1048576 := rfl
  simp only [cond_true]
  refine ⟨by simp at h7; omega, ⟨by omega, by omega, by show (Nd _).length ≤ _; omega, h2.1.r⟩, ?_⟩
  rw [Zan]
  have : (Dg 64 (QV c l til) []).1.2.2.2.2.2.2.1.length ≤ 96 := by show (Nd _).length ≤ _; omega
  omega
theorem JaB {e : Jb} (h : Jx e) : Ha Gc e ≤ 1000 := by
 have hh := Uq h.hd
 have h2 : Ha (.sl (.sl Mc)) e.2.1 ≤ (16 + 1) * e.2.1.length := J0 (e := .sl Mc) (c := 16) fun x hx => by
  have := h.mac x hx
  simp only [Fg, jd, decide_eq_true_eq] at this
  have e2 : Ha (.sl Mc) x = x.length := Pk (e := Mc) rfl x
  omega
 have := h.m4
 have hm := Uj h.km
 have h3 : Ha Dc e.1 ≤ 200 := by
  have h1 : Ha Dc e.1 = 0 + (Ha (.sl (.sl Ub)) e.1.2.1 + 0) := rfl
  have h2 : Ha (.sl (.sl Ub)) e.1.2.1 ≤ (32 + 1) * ja e.1.2.1 := J0 (e := .sl Ub) (c := 32) fun x hx => by
   obtain ⟨i, hi, rfl⟩ := qv hx
   rw [Hac]
   have := hm.row i hi
   have := hm.k2
   omega
  have := hm.l2
  omega
 rw [Bm, Pl]
 omega
theorem Pab : ∀ (n : Nat) (d : Ib) (s : List Qe), VT d → (∀ y ∈ s, y.2.1.2.1.length ≤ 56) → VT (Hg n d s).1 ∧ (Hg n d s).2.length ≤ s.length + 17 * n ∧ (∀ y ∈ (Hg n d s).2, y.2.1.2.1.length ≤ 56)
 | 0, d, s, h, hs => ⟨h, by show s.length ≤ _; omega, hs⟩
 | n + 1, d, s, h, hs => by
  cases hq : d.2.2.1 with
  | nil =>
   have e : Hg (n + 1) d s = (d, s) := by simp only [Hg, hq]
   rw [e]; exact ⟨h, by show s.length ≤ _; omega, hs⟩
  | cons x r =>
   cases hst : Jn d x r with
   | none =>
    have e : Hg (n + 1) d s = (d, s) := by simp only [Hg, hq, hst]
    rw [e]; exact ⟨h, by show s.length ≤ _; omega, hs⟩
   | some p =>
    obtain ⟨d', l⟩ := p
    have e : Hg (n + 1) d s = Hg n d' (Ms s d'.2.2.2.2.1 l) := by simp only [Hg, hq, hst]
    have hn := Vad h hq hst
    have ih := Pab n d' (Ms s d'.2.2.2.2.1 l) hn.1 (fun y hy => by
     rcases jl.1 (show y ∈ s ++ _ from hy) with hy | hy
     ·exact hs y hy
     ·obtain ⟨r', hr', rfl⟩ := qw.1 hy
      exact hn.2.2.2 r' hr')
    have e2 := K3 s d'.2.2.2.2.1 l
    have h17 := hn.2.2.1
    rw [e]
    exact ⟨ih.1, by omega, ih.2.2⟩
theorem XaX (x : Qe) : Ha Oi x = x.2.1.2.1.length := by
 have h3 : Ha Oi x = Ha Hc x.2.1 := by
  show 0 + (Ha Hc x.2.1 + 0) = _
  omega
 rw [h3, GaI]
theorem MaH (d : Ib) (l : List Ca) (til : Int) : Ha Ic (UO d l til).1 ≤ 2000 ∧ (UO d l til).2.1.length ≤ 1088 ∧ (∀ y ∈ (UO d l til).2.1, y.2.1.2.1.length ≤ 56) := by
 unfold UO
 cases h : CB d l til with
 | false => simp only [cond_false]; exact ⟨by decide, by simp, by simp⟩
 | true =>
  simp only [CB, jd] at h
  have h1 := Yac (til := til) h.1 h.2.2.2.2
  have h2 := Pab (Gt d l til).2.2.1.length (Gt d l til) [] h1 (by simp)
  have h64 := h1.len
  simp only [cond_true]
  refine ⟨?_, by have := h2.2.1; simp at this; omega, h2.2.2⟩
  rw [LN, Uz]
  have h3 := JaB h2.1.eng
  have := h2.1.len
  omega
theorem M2 (b : Fd) (x : Int) (hb : Ro b) : Jl b x = some (Mq b x) := by
 have h20 : Ea = 1048576 := rfl
 unfold Jl Mq JY
 rw [VV b hb, Wv]
 cases h1 : Zm b with
 | false => rfl
 | true =>
  cases h2 : Jd b.1 x with
  | false => rfl
  | true =>
   have hp := Yal h1 h2
   have ha := N9 hp
   have hd := Jaj hp
   simp only [jb, jg, cond_false, jk]
   cases h3 : decide (b.2.2.2.2.2.1 ≥ 1000000) with
   | true => rfl
   | false =>
    rw [Lad h2]
    simp only [jb, cond_false]
    rw [Ead, ha.1]
    simp only [jb, cond_true, jg, cond_false]
    show jz (Gn b.2.1 (Ox b x)) _ = _
    rw [Ram _ _ hb.d, hd.1]
    simp only [jb, jg, cond_false]
    rw [Waa]
    simp only [jb]
    have hev := C2 b.2.1.2.2.2.1 (Mn b x).2.2.2.1 b.2.2.2.2.2.1 32
    rw [Vaa _ _ _ hb.c (by unfold B2; omega)]
    have hcl := U7 b.2.2.1 (B2 b.2.1.2.2.2.1 (Mn b x).2.2.2.1 b.2.2.2.2.2.1) b.2.2.2.2.2.1 hb.c
    have e1 : KN b.2.2.1 (B2 b.2.1.2.2.2.1 (Mn b x).2.2.2.1 b.2.2.2.2.2.1) b.2.2.2.2.2.1 = Nv b x := rfl
    rw [e1] at hcl ⊢
    simp only [jb]
    rw [L2 _ _ _ hb.x (by omega)]
    have e2 : UO b.2.2.2.1 (Nv b x).2.1 b.2.2.2.2.2.1 = LA b x := rfl
    rw [e2]
    simp only [jb, qa, jk]
    cases (Nv b x).2.2.1 with
    | false => rfl
    | true => cases (LA b x).2.2.1 <;> rfl
theorem S3 (b : Fd) (x : Int) (hb : Ro b) : Nl b x = some (Mq b x) := by
 have h20 : Ea = 1048576 := rfl
 unfold Nl Mq JY
 rw [LW b hb, Q3]
 cases h1 : Zm b with
 | false => rfl
 | true =>
  cases h2 : Jd b.1 x with
  | false => rfl
  | true =>
   have hp := Yal h1 h2
   have ha := N9 hp
   have hd := Jaj hp
   have ht := hp.t
   simp only [jb, jg, cond_false, cond_true, jk]
   rw [show (b.2.2.2.2.2.1 == 1000000) = decide (b.2.2.2.2.2.1 ≥ 1000000) by rw [qz]; simp; omega]
   cases h3 : decide (b.2.2.2.2.2.1 ≥ 1000000) with
   | true => rfl
   | false =>
    simp only [cond_false]
    rw [Zad, ha.1]
    simp only [jb, cond_true]
    show jz (Kn b.2.1 (Ox b x)) _ = _
    rw [Xam _ _ hb.d, hd.1]
    simp only [jb]
    have hdp := Wah hp.db
    have hk := hdp.k2
    have hk1 := hdp.k1
    obtain ⟨p, hp1, hp2⟩ := NU hdp.sh
    obtain ⟨q, hq1, hq2⟩ := NU (Bao hdp (Ox b x)).sh
    have hdo : (Mn b x).2.2.2.1 = (q : Int) := by rw [hd.2]; exact hq1
    have hdk : (Mn b x).2.2.1 = b.2.1.2.2.1 := by rw [hd.2]
    have hsp := Wab KY b (Ox b x) (Mn b x) b.2.1.2.2.1.toNat (by rw [hdk]; omega) (by omega) p q hp1 hp2 hdo hq2
    have hsp' : Xj (((), (), (Pai b.1 b.2.2.2.2.1 (Ip b.1 x)), (), ([] : List Ca), (0 : Int), ()), (b, KY, Mn b x, ())) = _ := hsp
    erw [hsp']
    simp only [jb, ql]
    have hev := C2 b.2.1.2.2.2.1 (Mn b x).2.2.2.1 b.2.2.2.2.2.1 32
    rw [Uab _ _ _ hb.c (by unfold B2; omega)]
    have hcl := U7 b.2.2.1 (B2 b.2.1.2.2.2.1 (Mn b x).2.2.2.1 b.2.2.2.2.2.1) b.2.2.2.2.2.1 hb.c
    have e1 : KN b.2.2.1 (B2 b.2.1.2.2.2.1 (Mn b x).2.2.2.1 b.2.2.2.2.2.1) b.2.2.2.2.2.1 = Nv b x := rfl
    rw [e1] at hcl ⊢
    simp only [jb]
    rw [P3 _ _ _ hb.x (by omega)]
    have e2 : UO b.2.2.2.1 (Nv b x).2.1 b.2.2.2.2.2.1 = LA b x := rfl
    rw [e2]
    simp only [jb, qa, jk]
    cases (Nv b x).2.2.1 with
    | false => rfl
    | true => cases (LA b x).2.2.1 <;> rfl
theorem MaT (b : Fd) (x : Int) (hb : Ro b) : Ro (Mq b x).1 ∧ Ha Md (Mq b x).1 ≤ 3000 ∧ (Mq b x).2.1.length ≤ 1088 ∧ (∀ y ∈ (Mq b x).2.1, y.2.1.2.1.length ≤ 56) := by
 have h20 : Ea = 1048576 := rfl
 unfold Mq
 cases h : JY b x && ((Nv b x).2.2.1 && (LA b x).2.2.1) with
 | false => simp only [cond_false]; exact ⟨⟨by decide, ⟨by decide, by decide, by decide, fun x hx => by simp [KY] at hx⟩, by decide⟩, by decide, by simp, by simp⟩
 | true =>
  simp only [jd, JY] at h
  have hp := Yal h.1.1 h.1.2.1
  have hd := Jaj hp
  have hdp := Wah hp.db
  have hcl := U7 b.2.2.1 (B2 b.2.1.2.2.2.1 (Mn b x).2.2.2.1 b.2.2.2.2.2.1) b.2.2.2.2.2.1 hb.c
  have hpl := MaH b.2.2.2.1 (Nv b x).2.1 b.2.2.2.2.2.1
  have hda : (Mn b x).2.2.2.2.2.1.length ≤ 24 := by
   rw [hd.2]
   have h1 := (Bao hdp (Ox b x)).len
   have h2 := hdp.len
   have h3 := hdp.k2
   show (Xac b.2.1 (Ox b x)).2.length ≤ 24
   omega
  simp only [cond_true]
  refine ⟨⟨by show (Mn b x).2.2.2.2.2.1.length ≤ _; omega, hcl.2.1, by show Ha Ic (LA b x).1 ≤ _; have := hpl.1; unfold LA; omega⟩, ?_, hpl.2.1, hpl.2.2⟩
  rw [Xai]
  show Ha Nb (Mn b x) + (Ha Pb (Nv b x).1 + Ha Ic (LA b x).1) ≤ 3000
  rw [IaB]
  have h1 : Ha Pb (Nv b x).1 ≤ 200 := hcl.2.2
  have h2 : Ha Ic (LA b x).1 ≤ 2000 := hpl.1
  omega
theorem IaT {l : List Qe} {n : Nat} (h : l.length ≤ n) (hx : ∀ y ∈ l, y.2.1.2.1.length ≤ 56) : Ha (.sl Oi) l ≤ 57 * n := by
 have := J0 (e := Oi) (c := 56) (w := l) fun y hy => by rw [XaX]; exact hx y hy
 exact qc this (Nat.mul_le_mul_left _ h)
structure Bbq (k : Nat) (s : Fd × List Qe) : Prop where
 sz : Ro s.1
 len : s.2.length ≤ 1088 * k
 rep : ∀ y ∈ s.2, y.2.1.2.1.length ≤ 56
def Od (x : Int) : Prop := 0 ≤ x ∧ x ≤ 255
def KX (c : Int) : Int := cond (decide (j5 .i64 (c * 2) > 255)) (Za .i64 (j5 .i64 (c * 2)) 263) (j5 .i64 (c * 2))
def ckG (c x : Int) : Int := Ze (fun _ c => KX c) 8 (Za .i64 c (j5 .i64 x))
def RR (l : List Int) : Int := Qd (fun _ c x => ckG c x) 0 0 l
theorem Ray (c : Int) (l : List Int) (n i : Int) : Nn ((c, l, n, i, (0 : Int), ()), ()) = some (.inl ((Ze (fun _ c => KX c) 8 c, l, n, i, ()), ())) := by
 have hl := Hh (step := fun x => Cu x.1.1 x.1.2.1 x.1.2.2.1 x.1.2.2.2.1 x.1.2.2.2.2.1) 8 (by omega) (fun _ c => KX c) c (fun c k => ((c, l, n, i, k, ()), ())) (fun c => .inl ((c, l, n, i, ()), ())) (by
  intro k hk
  simp only [Cu]
  rw [Ba (by omega)]
  generalize Ze (fun _ c => KX c) k c = d
  unfold KX
  cases decide (j5 .i64 (d * 2) > 255) <;> rfl) (by
  simp only [Cu]
  rw [Aa (by omega)]; rfl)
 unfold Nn
 exact hl
theorem Maz (c : Int) (l : List Int) (i : Int) : Bo ((l, c, i, (0 : Int), ()), ()) = some (.inl ((l, Ze (fun _ c => KX c) 8 c, i, ()), ())) := by
 have hl := Hh (step := fun x => Wu x.1.1 x.1.2.1 x.1.2.2.1 x.1.2.2.2.1) 8 (by omega) (fun _ c => KX c) c (fun c k => ((l, c, i, k, ()), ())) (fun c => .inl ((l, c, i, ()), ())) (by
  intro k hk
  simp only [Wu]
  rw [Ba (by omega)]
  generalize Ze (fun _ c => KX c) k c = d
  unfold KX
  rw [Int.mul_comm 2 d]
  cases decide (j5 .i64 (d * 2) > 255) <;> rfl) (by
  simp only [Wu]
  rw [Aa (by omega)]; rfl)
 unfold Bo
 exact hl
theorem Say (l : List Int) (hn : l.length ≤ Ea) : ZJ l = some (RR l, ()) := by
 have h20 : Ea = 1048576 := rfl
 have hl := (De (step := fun x => Bu x.1.1 x.1.2.1 x.1.2.2.1 x.1.2.2.2.1) l (fun _ c x => ckG c x) (fun c i => ((c, l, ((ja l : Nat) : Int), i, ()), ())) (fun c => .inl ((c, ()), ())) (fun _ _ => True) (by
  intro k hk c _
  refine ⟨?_, trivial⟩
  simp only [Bu]
  rw [Ba (by omega), Cb hk]
  simp only [cond_true, jb]
  rw [Ray]
  rfl) (by
  intro c _
  simp only [Bu]
  rw [Aa (by omega)]; rfl) (by omega) 0 trivial).1
 unfold ZJ Xx RR
 erw [hl]; rfl
theorem Xab (l : List Int) (hn : l.length ≤ Ea) : NA l = some (RR l, ()) := by
 have h20 : Ea = 1048576 := rfl
 have hl := (De (step := fun x => Vu x.1.1 x.1.2.1 x.1.2.2.1) l (fun _ c x => ckG c x) (fun c i => ((l, c, i, ()), ())) (fun c => .inl ((c, ()), ())) (fun _ _ => True) (by
  intro k hk c _
  refine ⟨?_, trivial⟩
  simp only [Vu]
  rw [Ba (by omega), Cb hk]
  simp only [cond_true, jb]
  rw [Maz]
  rfl) (by
  intro c _
  simp only [Vu]
  rw [Aa (by omega)]; rfl) (by omega) 0 trivial).1
 unfold NA Zy RR
 erw [hl]; rfl
theorem BaG {c : Int} (h : Od c) : Od (KX c) := by
 have key : ∀ n : Fin 256, 0 ≤ KX (n.val : Int) ∧ KX (n.val : Int) ≤ 255 := by decide +kernel
 obtain ⟨n, rfl⟩ := jv h.1
 exact key ⟨n, by have := h.2; omega⟩
theorem CaG {c x : Int} (hc : Od c) (hx : Od x) : Od (ckG c x) := by
 have h0 : Od (Za .i64 c (j5 .i64 x)) := by
  obtain ⟨a, rfl⟩ := jv hc.1
  obtain ⟨b, rfl⟩ := jv hx.1
  have ha := hc.2
  have hb := hx.2
  rw [Je (by omega) (by omega), OL (by rw [Hx]; omega) (by rw [Hx]; omega)]
  have := qs (n := 8) (x := a) (y := b) (by omega) (by omega)
  exact ⟨by omega, by omega⟩
 have : ∀ n c, Od c → Od (Ze (fun _ c => KX c) n c) := by
  intro n
  induction n with
  | zero => intro c h; exact h
  | succ n ih => intro c h; exact BaG (ih c h)
 exact this 8 _ h0
theorem T7 {l : List Int} (h : ∀ x ∈ l, Od x) : Od (RR l) := by
 have key : ∀ (l : List Int) (k : Nat) (c : Int), Od c → (∀ x ∈ l, Od x) → Od (Qd (fun _ c x => ckG c x) k c l) := by
  intro l
  induction l with
  | nil => intro k c hc _; exact hc
  | cons x l ih => intro k c hc hx; exact ih (k + 1) _ (CaG hc (hx x (by simp))) (fun y hy => hx y (by simp [hy]))
 exact key l 0 0 ⟨by decide, by decide⟩ h
def Au (n m : Int) : List Int := [85, n, m % 256, m / 256 % 256, m / 65536]
def Cj (n m : Int) : List Int := jf (Au n m) [RR (Au n m)]
theorem FG (m : Int) : j5 .u8 m = m % 256 := by rw [IntKind.wrap_u8]
theorem HT {n m : Int} (hn : Od n) (hm : 0 ≤ m ∧ m ≤ 16777215) : ∀ x ∈ Au n m, Od x := by
 intro x hx
 simp only [Au, jp, List.not_mem_nil, or_false] at hx
 unfold Od at hn ⊢
 rcases hx with rfl | rfl | rfl | rfl | rfl <;> omega
theorem Dak {m : Int} (hm : 0 ≤ m) {k : Nat} (hk : k ≤ 64) : Wb .i64 m (k : Int) = m / ((2 ^ k : Nat) : Int) := by
 obtain ⟨n, rfl⟩ := jv hm
 rw [PU n hk, Nat.shiftRight_eq_div_pow]
 norm_cast
theorem W0 {n m : Int} (hn : Od n) (hm : 0 ≤ m ∧ m ≤ 16777215) : Xv n m = some (Cj n m, ()) := by
 have hn1 := hn.1
 have hn2 := hn.2
 have e8 : Wb .i64 m 8 = m / 256 := Dak (k := 8) hm.1 (by omega)
 have e16 : Wb .i64 m 16 = m / 65536 := Dak (k := 16) hm.1 (by omega)
 have hh : ([(85 : Int), j5 .u8 n, j5 .u8 m, j5 .u8 (Wb .i64 m 8), j5 .u8 (Wb .i64 m 16)] : List Int) = Au n m := by
  unfold Au
  rw [e8, e16, FG, FG, FG, FG, show n % 256 = n by omega, show m / 65536 % 256 = m / 65536 by omega]
 unfold Xv
 rw [Aa (by omega), Aa (by omega), Aa (by omega), Aa (by omega), hh, Say _ (by show 5 ≤ 1048576; omega)]
 have hc := T7 (HT hn hm)
 simp only [cond_false, jb]
 rw [FG, show RR (Au n m) % 256 = RR (Au n m) by have := hc.1; have := hc.2; omega]
 rfl
theorem Lag {n m : Int} (hn : Od n) (hm : 0 ≤ m ∧ m ≤ 16777215) : NH n m = some (Cj n m, ()) := by
 have hn1 := hn.1
 have hn2 := hn.2
 have hh : ([(85 : Int), j5 .u8 n, j5 .u8 (Int.tmod m 256), j5 .u8 (Int.tmod (j5 .i64 (Int.tdiv m 256)) 256), j5 .u8 (j5 .i64 (Int.tdiv m 65536))] : List Int) = Au n m := by
  unfold Au
  rw [Int.tmod_eq_emod_of_nonneg hm.1, Int.tdiv_eq_ediv_of_nonneg hm.1, Int.tdiv_eq_ediv_of_nonneg hm.1, Je (by omega) (by omega), Je (by omega) (by omega), Int.tmod_eq_emod_of_nonneg (by omega), FG, FG, FG, FG,
   show n % 256 = n by omega, show m % 256 % 256 = m % 256 by omega, show m / 256 % 256 % 256 = m / 256 % 256 by omega, show m / 65536 % 256 = m / 65536 by omega]
 unfold NH
 rw [Oc, Oc, Ba (show 0 ≤ n ∧ n ≤ 255 from hn), Ba (show 0 ≤ m ∧ m ≤ 16777215 from hm), hh, Xab _ (by show 5 ≤ 1048576; omega)]
 have hc := T7 (HT hn hm)
 simp only [cond_false, jb, jg, show ((256 : Int) == 0) = false from rfl, show ((65536 : Int) == 0) = false from rfl]
 rw [FG, show RR (Au n m) % 256 = RR (Au n m) by have := hc.1; have := hc.2; omega]
 rfl
theorem FT {n m : Int} (hn : Od n) (hm : 0 ≤ m ∧ m ≤ 16777215) : ∀ x ∈ Cj n m, Od x := by
 intro x hx
 rcases jl.1 (show x ∈ Au n m ++ [RR (Au n m)] from hx) with hx | hx
 ·exact HT hn hm x hx
 ·rw [qe.1 hx]; exact T7 (HT hn hm)
theorem FaA {a b : Nat} (ha : a < 256) (hb : b < 256) (h : UInt8.ofNat a = UInt8.ofNat b) : a = b := by
 have h1 : (UInt8.ofNat a).toNat = (UInt8.ofNat b).toNat := by rw [h]
 rw [UInt8.toNat_ofNat', UInt8.toNat_ofNat'] at h1
 omega
theorem Kaf : ∀ {a b : List Int}, (∀ x ∈ a, Od x) → (∀ x ∈ b, Od x) → Wm a = Wm b → a = b
 | [], [], _, _, _ => rfl
 | [], _ :: _, _, _, h => by simp [Wm] at h
 | _ :: _, [], _, _, h => by simp [Wm] at h
 | x :: a, y :: b, hx, hy, h => by
  simp only [Wm, List.map_cons, List.cons.injEq] at h
  have h1 := hx x (by simp)
  have h2 := hy y (by simp)
  have h1a := h1.1
  have h1b := h1.2
  have h2a := h2.1
  have h2b := h2.2
  have e := FaA (by omega) (by omega) h.1
  rw [Kaf (fun z hz => hx z (by simp [hz])) (fun z hz => hy z (by simp [hz])) h.2, show x = y by omega]
def Saa (b : List Int) : Int := b.getD 2 0 + 256 * b.getD 3 0 + 65536 * b.getD 4 0
def V4 (b : List Int) : Bool := (b.getD 0 0 == 85) && (RR (b.take 5) == b.getD 5 0)
def WI (b : List Int) : Int × Int × Bool := cond (V4 b) (b.getD 1 0, Saa b, true) (0, 0, false)
theorem AaT {x y z : Int} (hx : Od x) (hy : Od y) (hz : Od z) :
 Pc .i64 (Pc .i64 (j5 .i64 x) (Ra .i64 (j5 .i64 y) 8)) (Ra .i64 (j5 .i64 z) 16) = x + 256 * y + 65536 * z := by
 obtain ⟨a, rfl⟩ := jv hx.1
 obtain ⟨b, rfl⟩ := jv hy.1
 obtain ⟨c, rfl⟩ := jv hz.1
 have ha := hx.2
 have hb := hy.2
 have hc := hz.2
 have e1 : Ra .i64 ((b : Nat) : Int) 8 = ((b <<< 8 : Nat) : Int) := L8 (k := 8) (by rw [Hx]; omega) (by omega)
 have e2 : Ra .i64 ((c : Nat) : Int) 16 = ((c <<< 16 : Nat) : Int) := L8 (k := 16) (by rw [Hx]; omega) (by omega)
 have e3 : a ||| b <<< 8 = b <<< 8 + a := by rw [Nat.or_comm, Nat.shiftLeft_add_eq_or_of_lt (by omega)]
 have e4 : b <<< 8 + a < 2 ^ 16 := by rw [qk]; omega
 have e5 : (b <<< 8 + a) ||| c <<< 16 = c <<< 16 + (b <<< 8 + a) := by rw [Nat.or_comm, Nat.shiftLeft_add_eq_or_of_lt e4]
 rw [Je (by omega) (by omega), Je (by omega) (by omega), Je (by omega) (by omega), e1, e2, Ew (by rw [Hx]; omega) (by rw [Hx, qk]; omega), e3, Ew (by rw [Hx]; omega) (by rw [Hx, qk]; omega), e5]
 rw [qk, qk]
 omega
theorem Mad {b : List Int} (h : b.length = 6) : ∃ x0 x1 x2 x3 x4 x5, b = [x0, x1, x2, x3, x4, x5] := by
 match b, h with
 | [x0, x1, x2, x3, x4, x5], _ => exact ⟨_, _, _, _, _, _, rfl⟩
theorem CaO (x1 x2 x3 x4 : Int) (h2 : Od x2) (h3 : Od x3) (h4 : Od x4) : Au x1 (x2 + 256 * x3 + 65536 * x4) = [85, x1, x2, x3, x4] := by
 unfold Au
 have a := h2.1
 have b := h2.2
 have c := h3.1
 have d := h3.2
 have e := h4.1
 have f := h4.2
 rw [show (x2 + 256 * x3 + 65536 * x4) % 256 = x2 by omega, show (x2 + 256 * x3 + 65536 * x4) / 256 % 256 = x3 by omega, show (x2 + 256 * x3 + 65536 * x4) / 65536 = x4 by omega]
theorem K5 {b : List Int} (h6 : b.length = 6) (hb : ∀ x ∈ b, Od x) : MG b = some ((WI b).1, (WI b).2.1, (WI b).2.2, ()) := by
 obtain ⟨x0, x1, x2, x3, x4, x5, rfl⟩ := Mad h6
 have h0 := hb x0 (by simp)
 have h1 := hb x1 (by simp)
 have h2 := hb x2 (by simp)
 have h3 := hb x3 (by simp)
 have h4 := hb x4 (by simp)
 have h5 := hb x5 (by simp)
 have a := h2.1
 have b := h2.2
 have c := h3.1
 have d := h3.2
 have e := h4.1
 have f := h4.2
 have g := h1.1
 have g' := h1.2
 have hm : 0 ≤ x2 + 256 * x3 + 65536 * x4 ∧ x2 + 256 * x3 + 65536 * x4 ≤ 16777215 := by omega
 have e1 : Xa [x0, x1, x2, x3, x4, x5] (1 : Int) = some x1 := rfl
 have e2 : Xa [x0, x1, x2, x3, x4, x5] (2 : Int) = some x2 := rfl
 have e3 : Xa [x0, x1, x2, x3, x4, x5] (3 : Int) = some x3 := rfl
 have e4 : Xa [x0, x1, x2, x3, x4, x5] (4 : Int) = some x4 := rfl
 unfold MG
 rw [show (((ja [x0, x1, x2, x3, x4, x5] : Nat) : Int) != 6) = false from rfl]
 simp only [cond_false, jb, e1, e2, e3, e4]
 rw [AaT h2 h3 h4, Je (n := x1) (by omega) (by omega), W0 h1 hm]
 simp only [jb]
 have key : (Wm (Cj x1 (x2 + 256 * x3 + 65536 * x4)) != Wm [x0, x1, x2, x3, x4, x5]) = !V4 [x0, x1, x2, x3, x4, x5] := by
  have hd := CaO x1 x2 x3 x4 h2 h3 h4
  rw [show (Wm (Cj x1 (x2 + 256 * x3 + 65536 * x4)) != Wm [x0, x1, x2, x3, x4, x5]) = !(Wm (Cj x1 (x2 + 256 * x3 + 65536 * x4)) == Wm [x0, x1, x2, x3, x4, x5]) from rfl]
  congr 1
  rw [qz, beq_iff_eq]
  show _ ↔ ((x0 == 85) && (RR [x0, x1, x2, x3, x4] == x5)) = true
  rw [jd, beq_iff_eq, beq_iff_eq]
  constructor
  ·intro h
   have := Kaf (FT h1 hm) hb h
   unfold Cj at this
   rw [hd] at this
   simp only [List.append_eq, List.cons_append, List.nil_append, List.cons.injEq, and_true, true_and] at this
   rw [← this.1]
   exact ⟨rfl, this.2⟩
  ·rintro ⟨rfl, h⟩
   unfold Cj
   rw [hd, h]; rfl
 rw [key]
 unfold WI
 cases V4 [x0, x1, x2, x3, x4, x5] <;> rfl
theorem Z5 {b : List Int} (h6 : b.length = 6) (hb : ∀ x ∈ b, Od x) : OH b = some ((WI b).1, (WI b).2.1, (WI b).2.2, ()) := by
 obtain ⟨x0, x1, x2, x3, x4, x5, rfl⟩ := Mad h6
 have h1 := hb x1 (by simp)
 have h2 := hb x2 (by simp)
 have h3 := hb x3 (by simp)
 have h4 := hb x4 (by simp)
 have h5 := hb x5 (by simp)
 have a := h2.1
 have b := h2.2
 have c := h3.1
 have d := h3.2
 have e := h4.1
 have f := h4.2
 have g := h1.1
 have g' := h1.2
 have k := h5.1
 have k' := h5.2
 have e0 : Xa [x0, x1, x2, x3, x4, x5] (0 : Int) = some x0 := rfl
 have e1 : Xa [x0, x1, x2, x3, x4, x5] (1 : Int) = some x1 := rfl
 have e2 : Xa [x0, x1, x2, x3, x4, x5] (2 : Int) = some x2 := rfl
 have e3 : Xa [x0, x1, x2, x3, x4, x5] (3 : Int) = some x3 := rfl
 have e4 : Xa [x0, x1, x2, x3, x4, x5] (4 : Int) = some x4 := rfl
 have e5 : Xa [x0, x1, x2, x3, x4, x5] (5 : Int) = some x5 := rfl
 unfold OH
 rw [show (((ja [x0, x1, x2, x3, x4, x5] : Nat) : Int) != 6) = false from rfl, show Ld (ja [x0, x1, x2, x3, x4, x5]) (0 : Int) (5 : Int) = true from rfl, show Gb [x0, x1, x2, x3, x4, x5] (jy (0 : Int)) (jy (5 : Int)) = [x0, x1, x2, x3, x4] from rfl, Xab _ (by show 5 ≤ 1048576; omega)]
 simp only [cond_false, cond_true, jb, e0, e1, e2, e3, e4, e5]
 rw [Je (n := x1) (by omega) (by omega), Je (n := x2) (by omega) (by omega), Je (n := x3) (by omega) (by omega), Je (n := x4) (by omega) (by omega), Je (n := x5) (by omega) (by omega), Je (n := 256 * x3) (by omega) (by omega), Je (n := 65536 * x4) (by omega) (by omega), Je (n := x2 + 256 * x3) (by omega) (by omega), Je (n := x2 + 256 * x3 + 65536 * x4) (by omega) (by omega)]
 have hf : V4 [x0, x1, x2, x3, x4, x5] = ((x0 == 85) && (RR [x0, x1, x2, x3, x4] == x5)) := rfl
 unfold WI
 rw [hf]
 rw [show (x0 != 85) = !(x0 == 85) from rfl, show (RR [x0, x1, x2, x3, x4] != x5) = !(RR [x0, x1, x2, x3, x4] == x5) from rfl]
 cases x0 == 85 <;> cases RR [x0, x1, x2, x3, x4] == x5 <;> rfl
structure Qp (r : Sb) : Prop where
 ok : Lg r = true
 by_ : ∀ x ∈ r.1, Od x
def NF (r : Sb) (x : Int) : Sb × Int :=
 cond (decide ((((r.1.length + 1 : Nat)) : Int) < 6)) ((jf r.1 [x], r.2), 1)
  (cond (WI (jf r.1 [x])).2.2 (cond ((WI (jf r.1 [x])).1 == r.2.1) (([], r.2.1, r.2.2.1, 0, ()), 3) (([], (WI (jf r.1 [x])).1, (WI (jf r.1 [x])).2.1, 0, ()), 2)) (((jf r.1 [x]).drop 1, r.2), 1))
theorem PJ {r : Sb} (h : Lg r = true) : r.1.length < 6 ∧ (-1 ≤ r.2.1 ∧ r.2.1 ≤ 255) ∧ (0 ≤ r.2.2.1 ∧ r.2.2.1 ≤ 16777215) ∧ (0 ≤ r.2.2.2.1 ∧ r.2.2.2.1 ≤ 20) := by
 simp only [Lg, jd, decide_eq_true_eq] at h
 exact h
theorem XX {b : List Int} {n m s : Int} (h1 : b.length < 6) (h2 : -1 ≤ n ∧ n ≤ 255) (h3 : 0 ≤ m ∧ m ≤ 16777215) (h4 : 0 ≤ s ∧ s ≤ 20) : Lg (b, n, m, s, ()) = true := by
 simp only [Lg, jd, decide_eq_true_eq]
 exact ⟨h1, h2, h3, h4⟩
theorem TV {b : List Int} (h : ∀ x ∈ b, Od x) (i : Nat) : Od (b.getD i 0) := by
 rw [qj]
 by_cases hi : i < b.length
 ·rw [je hi]; exact h _ (qt hi)
 ·rw [List.getElem?_eq_none (by omega)]; exact ⟨by decide, by decide⟩
theorem Cat {r : Sb} {x : Int} (h : Qp r) (hx : Od x) : Qp (NF r x).1 ∧ ((NF r x).2 = 1 ∨ (NF r x).2 = 2 ∨ (NF r x).2 = 3) := by
 have hb := PJ h.ok
 have happ : ∀ y ∈ jf r.1 [x], Od y := by
  intro y hy
  rcases jl.1 (show y ∈ r.1 ++ [x] from hy) with hy | hy
  ·exact h.by_ y hy
  ·rw [qe.1 hy]; exact hx
 have hlen : (jf r.1 [x]).length = r.1.length + 1 := by simp
 unfold NF
 by_cases h6 : (((r.1.length + 1 : Nat)) : Int) < 6
 ·rw [Ba h6]
  exact ⟨⟨XX (by omega) hb.2.1 hb.2.2.1 hb.2.2.2, happ⟩, .inl rfl⟩
 ·rw [Aa h6]
  simp only [cond_false]
  cases hf : (WI (jf r.1 [x])).2.2 with
  | false =>
   refine ⟨⟨XX (by rw [qy]; omega) hb.2.1 hb.2.2.1 hb.2.2.2, fun y hy => happ y (qu hy)⟩, .inl rfl⟩
  | true =>
   simp only [cond_true]
   cases hn : (WI (jf r.1 [x])).1 == r.2.1 with
   | true => exact ⟨⟨XX (by decide) hb.2.1 hb.2.2.1 ⟨by decide, by decide⟩, fun y hy => absurd hy (by simp)⟩, .inr (.inr rfl)⟩
   | false =>
    have e : V4 (jf r.1 [x]) = true := by
     cases hk : V4 (jf r.1 [x]) with
     | true => rfl
     | false => unfold WI at hf; rw [hk] at hf; simp at hf
    have g1 := TV happ 1
    have g2 := TV happ 2
    have g3 := TV happ 3
    have g4 := TV happ 4
    unfold Od at g1 g2 g3 g4
    refine ⟨⟨XX (by decide) ?_ ?_ ⟨by decide, by decide⟩, fun y hy => absurd hy (by simp)⟩, .inr (.inl rfl)⟩
    ·unfold WI; rw [e]
     show -1 ≤ (jf r.1 [x]).getD 1 0 ∧ (jf r.1 [x]).getD 1 0 ≤ 255
     omega
    ·unfold WI; rw [e]
     show 0 ≤ Saa (jf r.1 [x]) ∧ Saa (jf r.1 [x]) ≤ 16777215
     unfold Saa
     omega
theorem Waj {r : Sb} {x : Int} (h : Qp r) (hx : Od x) : Dy r x = some ((NF r x).1, (NF r x).2, ()) := by
 have hb := PJ h.ok
 have hlim := Rd
 have happ : ∀ y ∈ jf r.1 [x], Od y := by
  intro y hy
  rcases jl.1 (show y ∈ r.1 ++ [x] from hy) with hy | hy
  ·exact h.by_ y hy
  ·rw [qe.1 hy]; exact hx
 have hlen : (jf r.1 [x]).length = r.1.length + 1 := by simp
 have e0 : jf ([] : List Int) r.1 = r.1 := rfl
 unfold Dy NF
 rw [Qr, h.ok, e0, show jx (ja ([] : List Int) + ja r.1) Qa = true from ji (by simp; omega), show jx (ja r.1 + ja ([x] : List Int)) Qa = true from ji (by simp only [jw, j8]; omega), hlen]
 simp only [jb, jg, cond_false, cond_true]
 by_cases h6 : (((r.1.length + 1 : Nat)) : Int) < 6
 ·rw [Ba h6]; rfl
 ·rw [Aa h6, K5 (by rw [hlen]; omega) happ]
  simp only [jb, cond_false]
  have hc : Ld (r.1.length + 1) (1 : Int) ((r.1.length + 1 : Nat) : Int) = true := Bi (lo := 1) (by omega) (jo _)
  have hc2 : Gb (jf r.1 [x]) (jy (1 : Int)) (jy ((r.1.length + 1 : Nat) : Int)) = (jf r.1 [x]).drop 1 := by
   rw [← hlen]; exact IZ _ 1
  rw [hc, hc2]
  cases (WI (jf r.1 [x])).2.2 with
  | false => rfl
  | true => cases (WI (jf r.1 [x])).1 == r.2.1 <;> rfl
theorem Oal {r : Sb} {x : Int} (h : Qp r) (hx : Od x) : Gz r x = some ((NF r x).1, (NF r x).2, ()) := by
 have hb := PJ h.ok
 have hlim := Rd
 have happ : ∀ y ∈ jf r.1 [x], Od y := by
  intro y hy
  rcases jl.1 (show y ∈ r.1 ++ [x] from hy) with hy | hy
  ·exact h.by_ y hy
  ·rw [qe.1 hy]; exact hx
 have hlen : (jf r.1 [x]).length = r.1.length + 1 := by simp
 have e0 : jf ([] : List Int) r.1 = r.1 := rfl
 unfold Gz NF
 rw [Ts, h.ok, e0, show jx (ja ([] : List Int) + ja r.1) Qa = true from ji (by simp; omega), show jx (ja r.1 + ja ([x] : List Int)) Qa = true from ji (by simp only [jw, j8]; omega), hlen]
 simp only [jb, jg, cond_false, cond_true]
 by_cases h6 : (((r.1.length + 1 : Nat)) : Int) < 6
 ·rw [Ba h6]; rfl
 ·rw [Aa h6, Z5 (by rw [hlen]; omega) happ]
  simp only [jb, cond_false]
  have hc : Ld (r.1.length + 1) (1 : Int) ((r.1.length + 1 : Nat) : Int) = true := Bi (lo := 1) (by omega) (jo _)
  have hc2 : Gb (jf r.1 [x]) (jy (1 : Int)) (jy ((r.1.length + 1 : Nat) : Int)) = (jf r.1 [x]).drop 1 := by
   rw [← hlen]; exact IZ _ 1
  rw [hc, hc2]
  cases (WI (jf r.1 [x])).2.2 with
  | false => rfl
  | true => cases (WI (jf r.1 [x])).1 == r.2.1 <;> rfl
def raG (s : Sb × List Int) (x : Int) : Sb × List Int := ((NF s.1 x).1, cond ((NF s.1 x).2 == 2) (jf s.2 [(NF s.1 x).1.2.2.1]) s.2)
def NP (r : Sb) (l : List Int) : Sb × List Int := Qd (fun _ s x => raG s x) 0 (r, []) l
structure Kah (k : Nat) (s : Sb × List Int) : Prop where
 ok : Qp s.1
 len : s.2.length ≤ k
theorem Bat {k : Nat} {s : Sb × List Int} {x : Int} (h : Kah k s) (hx : Od x) : Kah (k + 1) (raG s x) := by
 refine ⟨(Cat h.ok hx).1, ?_⟩
 have := h.len
 show (cond ((NF s.1 x).2 == 2) (jf s.2 [(NF s.1 x).1.2.2.1]) s.2).length ≤ k + 1
 cases (NF s.1 x).2 == 2
 ·show s.2.length ≤ k + 1; omega
 ·show (jf s.2 [(NF s.1 x).1.2.2.1]).length ≤ k + 1
  simp; omega
theorem M6 {r : Sb} {l : List Int} (h : Qp r) (hl : ∀ x ∈ l, Od x) (hn : l.length ≤ 1000) : GC r l = some ((NP r l).1, (NP r l).2, ()) ∧ Qp (NP r l).1 := by
 have hlim := Rd
 have hb := PJ h.ok
 have hloop := De (step := fun x => Rp x.1.1 x.1.2.1 x.1.2.2.1 x.1.2.2.2.1 x.1.2.2.2.2.1 x.1.2.2.2.2.2.1 x.2.1 x.2.2.1) l (fun _ s x => raG s x)
  (fun s i => (((), (), s.2, l, ((ja l : Nat) : Int), i, ()), (s.1, (([] : List Int), (0 : Int), (0 : Int), (0 : Int), ()), ()))) (fun s => .inl (((), (), s.2, ()), (s.1, (([] : List Int), (0 : Int), (0 : Int), (0 : Int), ()), ()))) Kah (by
   intro k hk s hs
   have hx := hl l[k] (qt hk)
   refine ⟨?_, Bat hs hx⟩
   have hlen := hs.len
   simp only [Rp]
   rw [Ba (by omega), Cb hk]
   simp only [cond_true, jb]
   rw [Waj hs.ok hx]
   simp only [jb]
   rw [show jx (ja s.2 + ja ([(NF s.1 l[k]).1.2.2.1] : List Int)) Qa = true from ji (by simp only [jw, j8]; omega)]
   simp only [jb, cond_true]
   unfold raG
   cases (NF s.1 l[k]).2 == 2 <;> rfl) (by
   intro s hs
   simp only [Rp]
   rw [Aa (by omega)]; rfl) (by omega) (r, []) ⟨h, jo _⟩
 refine ⟨?_, hloop.2.ok⟩
 unfold GC
 rw [Qr, h.ok, show jx (ja ([] : List Int) + ja r.1) Qa = true from ji (by simp; omega)]
 simp only [jb, jg, cond_false, cond_true]
 unfold Ht
 erw [hloop.1]
 rfl
theorem Wam {r : Sb} {l : List Int} (h : Qp r) (hl : ∀ x ∈ l, Od x) (hn : l.length ≤ 1000) : ND r l = some ((NP r l).1, (NP r l).2, ()) := by
 have hlim := Rd
 have hb := PJ h.ok
 have hloop := De (step := fun x => Hq x.1.1 x.1.2.1 x.1.2.2.1 x.1.2.2.2.1 x.1.2.2.2.2.1 x.2.1 x.2.2.1) l (fun _ s x => raG s x)
  (fun s i => ((l, (), s.2, (), i, ()), ((([] : List Int), (0 : Int), (0 : Int), (0 : Int), ()), s.1, ()))) (fun s => .inl (((), s.2, (), ()), ((([] : List Int), (0 : Int), (0 : Int), (0 : Int), ()), s.1, ()))) Kah (by
   intro k hk s hs
   have hx := hl l[k] (qt hk)
   refine ⟨?_, Bat hs hx⟩
   have hlen := hs.len
   simp only [Hq]
   rw [Ba (by omega), Cb hk]
   simp only [cond_true, jb]
   rw [Oal hs.ok hx]
   simp only [jb]
   rw [show jx (ja s.2 + ja ([(NF s.1 l[k]).1.2.2.1] : List Int)) Qa = true from ji (by simp only [jw, j8]; omega)]
   simp only [jb, cond_true]
   have h0 : ((NF s.1 l[k]).2 == 0) = false := by
    rcases (Cat hs.ok hx).2 with e | e | e <;> rw [e] <;> rfl
   rw [h0]
   simp only [cond_false]
   unfold raG
   cases (NF s.1 l[k]).2 == 2 <;> rfl) (by
   intro s hs
   simp only [Hq]
   rw [Aa (by omega)]; rfl) (by omega) (r, []) ⟨h, jo _⟩
 unfold ND
 rw [show jx (ja ([] : List Int) + ja r.1) Qa = true from ji (by simp; omega)]
 simp only [cond_true]
 unfold Qt
 erw [hloop.1]
 simp only [jb, ql]
 rw [Ts]
 have e : Lg (NP r l).1 = true := hloop.2.ok.ok
 unfold NP at e ⊢
 rw [e]
 rfl
def E0 (r : Sb) : Sb := cond (min (j5 .i64 (r.2.2.2.1 + 1)) 20 == 20) (r.1, -1, 0, min (j5 .i64 (r.2.2.2.1 + 1)) 20, ()) (r.1, r.2.1, r.2.2.1, min (j5 .i64 (r.2.2.2.1 + 1)) 20, ())
theorem BaI {r : Sb} (h : Qp r) : Qp (E0 r) := by
 have hb := PJ h.ok
 have hw : j5 .i64 (r.2.2.2.1 + 1) = r.2.2.2.1 + 1 := Je (by omega) (by omega)
 unfold E0
 rw [hw]
 cases min (r.2.2.2.1 + 1) 20 == 20 with
 | true => exact ⟨XX hb.1 ⟨by decide, by decide⟩ ⟨by decide, by decide⟩ (by omega), h.by_⟩
 | false => exact ⟨XX hb.1 hb.2.1 hb.2.2.1 (by omega), h.by_⟩
theorem Tam {r : Sb} (h : Qp r) : HC r = some (E0 r, ()) := by
 have hb := PJ h.ok
 unfold HC E0
 rw [Qr, h.ok, show jx (ja ([] : List Int) + ja r.1) Qa = true from ji (by rw [Rd]; simp; omega)]
 simp only [jb, jg, cond_false, cond_true]
 cases min (j5 .i64 (r.2.2.2.1 + 1)) 20 == 20 <;> rfl
theorem Zam {r : Sb} (h : Qp r) : PD r = some (E0 r, ()) := by
 have hb := PJ h.ok
 unfold PD E0
 rw [Ts, h.ok, show jx (ja ([] : List Int) + ja r.1) Qa = true from ji (by rw [Rd]; simp; omega)]
 rw [Int.min_comm 20]
 simp only [jb, jg, cond_false, cond_true]
 cases min (j5 .i64 (r.2.2.2.1 + 1)) 20 == 20 <;> rfl
def HE (f l : List Int) : List Int := cond (((ja l : Nat) : Int) == 0) f (cond (((ja l : Nat) : Int) == 6) (List.zipWith (Za .u8) f l) [])
theorem Sam {f l : List Int} (hf : f.length = 6) : ON f l = some (HE f l, ()) := by
 unfold ON HE
 cases ((ja l : Nat) : Int) == 0 with
 | true => rfl
 | false =>
  cases h6 : ((ja l : Nat) : Int) == 6 with
  | false => rfl
  | true =>
   have h6' : l.length = 6 := by have := eq_of_beq h6; omega
   obtain ⟨a, b, c, d, e, g, rfl⟩ := Mad h6'
   obtain ⟨x0, x1, x2, x3, x4, x5, rfl⟩ := Mad hf
   simp only [cond_false, cond_true]
   unfold LB
   rw [Dd (show (fun x => Ci x.1.1 x.1.2.1 x.1.2.2.1 x.1.2.2.2.1 x.1.2.2.2.2.1) (([a, b, c, d, e, g], ([] : List Int), [x0, x1, x2, x3, x4, x5], ((ja [x0, x1, x2, x3, x4, x5] : Nat) : Int), (0 : Int), ()), ()) = some (.inl (([a, b, c, d, e, g], [Za .u8 x0 a], [x0, x1, x2, x3, x4, x5], 6, 1, ()), ())) from rfl)]
   simp only [jb, ql]
   rw [Dd (show (fun x => Ci x.1.1 x.1.2.1 x.1.2.2.1 x.1.2.2.2.1 x.1.2.2.2.2.1) (([a, b, c, d, e, g], [Za .u8 x0 a], [x0, x1, x2, x3, x4, x5], 6, 1, ()), ()) = some (.inl (([a, b, c, d, e, g], [Za .u8 x0 a, Za .u8 x1 b], [x0, x1, x2, x3, x4, x5], 6, 2, ()), ())) from rfl)]
   simp only [jb, ql]
   rw [Dd (show (fun x => Ci x.1.1 x.1.2.1 x.1.2.2.1 x.1.2.2.2.1 x.1.2.2.2.2.1) (([a, b, c, d, e, g], [Za .u8 x0 a, Za .u8 x1 b], [x0, x1, x2, x3, x4, x5], 6, 2, ()), ()) = some (.inl (([a, b, c, d, e, g], [Za .u8 x0 a, Za .u8 x1 b, Za .u8 x2 c], [x0, x1, x2, x3, x4, x5], 6, 3, ()), ())) from rfl)]
   simp only [jb, ql]
   rw [Dd (show (fun x => Ci x.1.1 x.1.2.1 x.1.2.2.1 x.1.2.2.2.1 x.1.2.2.2.2.1) (([a, b, c, d, e, g], [Za .u8 x0 a, Za .u8 x1 b, Za .u8 x2 c], [x0, x1, x2, x3, x4, x5], 6, 3, ()), ()) = some (.inl (([a, b, c, d, e, g], [Za .u8 x0 a, Za .u8 x1 b, Za .u8 x2 c, Za .u8 x3 d], [x0, x1, x2, x3, x4, x5], 6, 4, ()), ())) from rfl)]
   simp only [jb, ql]
   rw [Dd (show (fun x => Ci x.1.1 x.1.2.1 x.1.2.2.1 x.1.2.2.2.1 x.1.2.2.2.2.1) (([a, b, c, d, e, g], [Za .u8 x0 a, Za .u8 x1 b, Za .u8 x2 c, Za .u8 x3 d], [x0, x1, x2, x3, x4, x5], 6, 4, ()), ()) = some (.inl (([a, b, c, d, e, g], [Za .u8 x0 a, Za .u8 x1 b, Za .u8 x2 c, Za .u8 x3 d, Za .u8 x4 e], [x0, x1, x2, x3, x4, x5], 6, 5, ()), ())) from rfl)]
   simp only [jb, ql]
   rw [Dd (show (fun x => Ci x.1.1 x.1.2.1 x.1.2.2.1 x.1.2.2.2.1 x.1.2.2.2.2.1) (([a, b, c, d, e, g], [Za .u8 x0 a, Za .u8 x1 b, Za .u8 x2 c, Za .u8 x3 d, Za .u8 x4 e], [x0, x1, x2, x3, x4, x5], 6, 5, ()), ()) = some (.inl (([a, b, c, d, e, g], [Za .u8 x0 a, Za .u8 x1 b, Za .u8 x2 c, Za .u8 x3 d, Za .u8 x4 e, Za .u8 x5 g], [x0, x1, x2, x3, x4, x5], 6, 6, ()), ())) from rfl)]
   simp only [jb, ql]
   rw [Dd (show (fun x => Ci x.1.1 x.1.2.1 x.1.2.2.1 x.1.2.2.2.1 x.1.2.2.2.2.1) (([a, b, c, d, e, g], [Za .u8 x0 a, Za .u8 x1 b, Za .u8 x2 c, Za .u8 x3 d, Za .u8 x4 e, Za .u8 x5 g], [x0, x1, x2, x3, x4, x5], 6, 6, ()), ()) = some (.inr (.inl (([Za .u8 x0 a, Za .u8 x1 b, Za .u8 x2 c, Za .u8 x3 d, Za .u8 x4 e, Za .u8 x5 g], ()), ()))) from rfl)]
   rfl
theorem Oag (x0 x1 x2 x3 x4 x5 a b c d e g : Int) :
 Ko (([a, b, c, d, e, g], [x0, x1, x2, x3, x4, x5], (0 : Int), ()), ()) = some (.inl (([Za .u8 x0 a, Za .u8 x1 b, Za .u8 x2 c, Za .u8 x3 d, Za .u8 x4 e, Za .u8 x5 g], ()), ())) := by
 unfold Ko
 rw [Dd (show (fun x => Sh x.1.1 x.1.2.1 x.1.2.2.1) (([a, b, c, d, e, g], [x0, x1, x2, x3, x4, x5], (0 : Int), ()), ()) = some (.inl (([a, b, c, d, e, g], [Za .u8 x0 a, x1, x2, x3, x4, x5], (1 : Int), ()), ())) from rfl)]
 simp only [jb, ql]
 rw [Dd (show (fun x => Sh x.1.1 x.1.2.1 x.1.2.2.1) (([a, b, c, d, e, g], [Za .u8 x0 a, x1, x2, x3, x4, x5], (1 : Int), ()), ()) = some (.inl (([a, b, c, d, e, g], [Za .u8 x0 a, Za .u8 x1 b, x2, x3, x4, x5], (2 : Int), ()), ())) from rfl)]
 simp only [jb, ql]
 rw [Dd (show (fun x => Sh x.1.1 x.1.2.1 x.1.2.2.1) (([a, b, c, d, e, g], [Za .u8 x0 a, Za .u8 x1 b, x2, x3, x4, x5], (2 : Int), ()), ()) = some (.inl (([a, b, c, d, e, g], [Za .u8 x0 a, Za .u8 x1 b, Za .u8 x2 c, x3, x4, x5], (3 : Int), ()), ())) from rfl)]
 simp only [jb, ql]
 rw [Dd (show (fun x => Sh x.1.1 x.1.2.1 x.1.2.2.1) (([a, b, c, d, e, g], [Za .u8 x0 a, Za .u8 x1 b, Za .u8 x2 c, x3, x4, x5], (3 : Int), ()), ()) = some (.inl (([a, b, c, d, e, g], [Za .u8 x0 a, Za .u8 x1 b, Za .u8 x2 c, Za .u8 x3 d, x4, x5], (4 : Int), ()), ())) from rfl)]
 simp only [jb, ql]
 rw [Dd (show (fun x => Sh x.1.1 x.1.2.1 x.1.2.2.1) (([a, b, c, d, e, g], [Za .u8 x0 a, Za .u8 x1 b, Za .u8 x2 c, Za .u8 x3 d, x4, x5], (4 : Int), ()), ()) = some (.inl (([a, b, c, d, e, g], [Za .u8 x0 a, Za .u8 x1 b, Za .u8 x2 c, Za .u8 x3 d, Za .u8 x4 e, x5], (5 : Int), ()), ())) from rfl)]
 simp only [jb, ql]
 rw [Dd (show (fun x => Sh x.1.1 x.1.2.1 x.1.2.2.1) (([a, b, c, d, e, g], [Za .u8 x0 a, Za .u8 x1 b, Za .u8 x2 c, Za .u8 x3 d, Za .u8 x4 e, x5], (5 : Int), ()), ()) = some (.inl (([a, b, c, d, e, g], [Za .u8 x0 a, Za .u8 x1 b, Za .u8 x2 c, Za .u8 x3 d, Za .u8 x4 e, Za .u8 x5 g], (6 : Int), ()), ())) from rfl)]
 simp only [jb, ql]
 rw [Dd (show (fun x => Sh x.1.1 x.1.2.1 x.1.2.2.1) (([a, b, c, d, e, g], [Za .u8 x0 a, Za .u8 x1 b, Za .u8 x2 c, Za .u8 x3 d, Za .u8 x4 e, Za .u8 x5 g], (6 : Int), ()), ()) = some (.inr (.inl (([Za .u8 x0 a, Za .u8 x1 b, Za .u8 x2 c, Za .u8 x3 d, Za .u8 x4 e, Za .u8 x5 g], ()), ()))) from rfl)]
 rfl
theorem UR (n m : Int) : (Cj n m).length = 6 := rfl
theorem Yam {n m : Int} (l : List Int) (hn : Od n) (hm : 0 ≤ m ∧ m ≤ 16777215) : CL n m l = some (HE (Cj n m) l, ()) := by
 unfold CL HE
 rw [Lag hn hm]
 simp only [jb]
 cases ((ja l : Nat) : Int) == 0 with
 | true => rfl
 | false =>
  rw [show (((ja l : Nat) : Int) != ((ja (Cj n m) : Nat) : Int)) = !(((ja l : Nat) : Int) == 6) from rfl]
  cases h6 : ((ja l : Nat) : Int) == 6 with
  | false => rfl
  | true =>
   have h6' : l.length = 6 := by have := eq_of_beq h6; omega
   obtain ⟨a, b, c, d, e, g, rfl⟩ := Mad h6'
   obtain ⟨x0, x1, x2, x3, x4, x5, hf⟩ := Mad (UR n m)
   rw [hf]
   simp only [cond_false, cond_true, jg]
   rw [Oag]
   rfl
theorem M7 {f l : List Int} (hf : ∀ x ∈ f, Od x) (h6 : f.length = 6) : (∀ x ∈ HE f l, Od x) ∧ (HE f l).length ≤ 6 := by
 unfold HE
 cases ((ja l : Nat) : Int) == 0 with
 | true => exact ⟨hf, by show f.length ≤ 6; omega⟩
 | false =>
  cases ((ja l : Nat) : Int) == 6 with
  | false => exact ⟨by intro x hx; exact absurd hx (by simp), by simp⟩
  | true =>
   simp only [cond_false, cond_true]
   refine ⟨fun x hx => ?_, by rw [List.length_zipWith]; omega⟩
   have key : ∀ (f l : List Int), ∀ x ∈ List.zipWith (Za .u8) f l, Od x := by
    intro f
    induction f with
    | nil => intro l x hx; exact absurd hx (by simp)
    | cons a f ih =>
     intro l
     cases l with
     | nil => intro x hx; exact absurd hx (by simp)
     | cons b l =>
      intro x hx
      rw [List.zipWith_cons_cons, jp] at hx
      rcases hx with rfl | hx
      ·unfold Za Od
       rw [FG]
       omega
      ·exact ih l x hx
   exact key f l x hx
def GaY : Sb := (([] : List Int), (0 : Int), (0 : Int), (0 : Int), ())
def EL : Zb := (KY, GaY, (0 : Int), ())
structure BE (h : Zb) : Prop where
 b : Ro h.1
 by_ : ∀ x ∈ h.2.1.1, Od x
noncomputable def Uaa (h : Zb) (a b : Int) : Bool := Di h && (Oe (Jj h.1.1) a && Oe (Jj h.1.1) b)
def Cai (h : Zb) (far : Int) (noise : List Int) : Sb × List Int := NP h.2.1 (HE (Cj h.2.2.1 far) noise)
def Z8 (h : Zb) (far : Int) (noise : List Int) : Sb := cond (((ja (Cai h far noise).2 : Nat) : Int) == 0) (E0 (Cai h far noise).1) (Cai h far noise).1
def YB (h : Zb) (near far : Int) (noise : List Int) : Int := Pc .i64 near (Ra .i64 (Wa .i64 (Z8 h far noise).2.2.1 (j5 .i64 (Ra .i64 1 (Jj h.1.1) - 1))) (Jj h.1.1))
noncomputable def UH (h : Zb) (near far : Int) (noise : List Int) : Zb × ((List Qe) × (Bool × Unit)) :=
 cond (Uaa h near far && (Mq h.1 (YB h near far noise)).2.2.1)
  (((Mq h.1 (YB h near far noise)).1, Z8 h far noise, Int.tmod (j5 .i64 (h.2.2.1 + 1)) 256, ()), (Mq h.1 (YB h near far noise)).2.1, true, ()) (EL, [], false, ())
structure HtP (h : Zb) (near far : Int) : Prop where
 n : Od h.2.2.1
 far : 0 ≤ far ∧ far ≤ 16777215
 rc : Lg h.2.1 = true
theorem LaG {h : Zb} {near far : Int} (hv : Di h = true) (hf : Oe (Jj h.1.1) far = true) : HtP h near far := by
 have hb := W4 h.1.1
 obtain ⟨n, rfl, hn⟩ := NU hf
 have : 2 ^ (Jj h.1.1).toNat ≤ 2 ^ 12 := qn (by omega) (by omega)
 simp only [Di, jd, decide_eq_true_eq] at hv
 exact ⟨by unfold Od; omega, by omega, by simp_all⟩
theorem Tas {k x : Int} (hk : 0 ≤ k ∧ k ≤ 62) : ∀ {α : Type} (Y Z : α), cond (decide (x < 0)) Z (cond (decide (x ≥ Ra .i64 1 k)) Z Y) = cond (Oe k x) Y Z := by
 intro α Y Z
 rw [DY hk]
 unfold Oe
 by_cases h1 : x < 0
 ·rw [Ba h1, Aa (show ¬ (0 ≤ x ∧ x < ((2 ^ k.toNat : Nat) : Int)) by omega)]; rfl
 ·by_cases h2 : x ≥ ((2 ^ k.toNat : Nat) : Int)
  ·rw [Aa h1, Ba h2, Aa (show ¬ (0 ≤ x ∧ x < ((2 ^ k.toNat : Nat) : Int)) by omega)]; rfl
  ·rw [Aa h1, Aa h2, Ba (show (0 ≤ x ∧ x < ((2 ^ k.toNat : Nat) : Int)) by omega)]; rfl
theorem QaD {r : Sb} {l : List Int} (h : Qp r) (hl : ∀ x ∈ l, Od x) (hn : l.length ≤ 1000) : Qp (NP r l).1 := (M6 h hl hn).2
theorem DaT {h : Zb} {near far : Int} {noise : List Int} (hh : BE h) (hp : HtP h near far) : Qp (Z8 h far noise) := by
 have hr : Qp h.2.1 := ⟨hp.rc, hh.by_⟩
 have hb := FT hp.n hp.far
 have ha := M7 (l := noise) hb (UR _ _)
 have h1 := QaD hr ha.1 (by omega)
 unfold Z8 Cai
 cases ((ja (NP h.2.1 (HE (Cj h.2.2.1 far) noise)).2 : Nat) : Int) == 0
 ·exact h1
 ·exact BaI h1
theorem X0 (h : Zb) (near far : Int) (noise : List Int) (hh : BE h) : Jk h near far noise = some (UH h near far noise) := by
 have hb := W4 h.1.1
 unfold Jk UH Uaa
 rw [JU _ hh.b, HU]
 cases hv : Di h with
 | false => rfl
 | true =>
  simp only [jb, jg, cond_false, jk]
  rw [Ba (show 0 ≤ Jj h.1.1 by omega)]
  simp only [cond_true]
  rw [Tas (by omega), Tas (by omega)]
  cases h1 : Oe (Jj h.1.1) near with
  | false => rfl
  | true =>
   cases h2 : Oe (Jj h.1.1) far with
   | false => rfl
   | true =>
    have hp := LaG (near := near) hv h2
    have hr : Qp h.2.1 := ⟨hp.rc, hh.by_⟩
    have ha := M7 (l := noise) (FT hp.n hp.far) (UR _ _)
    have hall := M6 hr ha.1 (by omega)
    rw [W0 hp.n hp.far]
    simp only [jb, cond_true, jk]
    rw [Sam (UR _ _)]
    simp only [jb]
    rw [hall.1]
    simp only [jb]
    have e : cond (((ja (NP h.2.1 (HE (Cj h.2.2.1 far) noise)).2 : Nat) : Int) == 0) (E0 (NP h.2.1 (HE (Cj h.2.2.1 far) noise)).1) (NP h.2.1 (HE (Cj h.2.2.1 far) noise)).1 = Z8 h far noise := rfl
    cases h0 : (((ja (NP h.2.1 (HE (Cj h.2.2.1 far) noise)).2 : Nat) : Int) == 0) with
    | true =>
     rw [h0] at e
     simp only [cond_true] at e ⊢
     rw [Tam hall.2, e]
     simp only [jb]
     show jz (Jl h.1 (YB h near far noise)) _ = _
     rw [M2 _ _ hh.b]
     simp only [jb]
     cases (Mq h.1 (YB h near far noise)).2.2.1 <;> rfl
    | false =>
     rw [h0] at e
     simp only [cond_false] at e ⊢
     rw [e]
     show jz (Jl h.1 (YB h near far noise)) _ = _
     rw [M2 _ _ hh.b]
     simp only [jb]
     cases (Mq h.1 (YB h near far noise)).2.2.1 <;> rfl
theorem C1 (h : Zb) (near far : Int) (noise : List Int) (hh : BE h) : Mk h near far noise = some (UH h near far noise) := by
 have hb := W4 h.1.1
 unfold Mk UH Uaa
 rw [CV _ hh.b, AV]
 cases hv : Di h with
 | false => rfl
 | true =>
  simp only [jb, jg, cond_false, jk]
  rw [Ba (show 0 ≤ Jj h.1.1 by omega), Oc, Oc, RT _ _ (show 0 ≤ Jj h.1.1 ∧ Jj h.1.1 ≤ 62 by omega), RT _ _ (show 0 ≤ Jj h.1.1 ∧ Jj h.1.1 ≤ 62 by omega)]
  simp only [cond_true, jb]
  cases h1 : Oe (Jj h.1.1) near with
  | false => rfl
  | true =>
   cases h2 : Oe (Jj h.1.1) far with
   | false => rfl
   | true =>
    have hp := LaG (near := near) hv h2
    have hr : Qp h.2.1 := ⟨hp.rc, hh.by_⟩
    have ha := M7 (l := noise) (FT hp.n hp.far) (UR _ _)
    have hall := Wam hr ha.1 (by omega)
    have hall2 := QaD hr ha.1 (by omega)
    rw [Yam noise hp.n hp.far]
    simp only [jb, cond_true, jk, jg, cond_false]
    rw [hall]
    simp only [jb]
    have e : cond (((ja (NP h.2.1 (HE (Cj h.2.2.1 far) noise)).2 : Nat) : Int) == 0) (E0 (NP h.2.1 (HE (Cj h.2.2.1 far) noise)).1) (NP h.2.1 (HE (Cj h.2.2.1 far) noise)).1 = Z8 h far noise := rfl
    cases h0 : (((ja (NP h.2.1 (HE (Cj h.2.2.1 far) noise)).2 : Nat) : Int) == 0) with
    | true =>
     rw [h0] at e
     simp only [cond_true] at e ⊢
     rw [Zam hall2, e]
     simp only [jb]
     show jz (Nl h.1 (YB h near far noise)) _ = _
     rw [S3 _ _ hh.b]
     simp only [jb]
     cases (Mq h.1 (YB h near far noise)).2.2.1 <;> rfl
    | false =>
     rw [h0] at e
     simp only [cond_false] at e ⊢
     rw [e]
     show jz (Nl h.1 (YB h near far noise)) _ = _
     rw [S3 _ _ hh.b]
     simp only [jb]
     cases (Mq h.1 (YB h near far noise)).2.2.1 <;> rfl
theorem TaX (r : Sb) : Ha Wc r = r.1.length := by
 have h1 := Pk (e := Tf) rfl r.1
 simp only [Ha, Nat.add_zero, js] at h1 ⊢
 exact h1
theorem IaN (h : Zb) (near far : Int) (noise : List Int) (hh : BE h) : BE (UH h near far noise).1 ∧ Ha Bd (UH h near far noise).1 ≤ 4000 ∧ (UH h near far noise).2.1.length ≤ 1088 ∧ (∀ y ∈ (UH h near far noise).2.1, y.2.1.2.1.length ≤ 56) := by
 have h20 : Ea = 1048576 := rfl
 unfold UH
 cases hc : Uaa h near far && (Mq h.1 (YB h near far noise)).2.2.1 with
 | false =>
  simp only [cond_false]
  exact ⟨⟨⟨by decide, ⟨by decide, by decide, by decide, fun x hx => by simp [KY, EL] at hx⟩, by decide⟩, fun x hx => by simp [EL, GaY] at hx⟩, by decide, by simp, by simp⟩
 | true =>
  simp only [jd, Uaa] at hc
  have hp := LaG (near := near) hc.1.1 hc.1.2.2
  have hr := DaT (near := near) (noise := noise) hh hp
  have ht := MaT h.1 (YB h near far noise) hh.b
  have hrb := PJ hr.ok
  simp only [cond_true]
  refine ⟨⟨ht.1, hr.by_⟩, ?_, ht.2.2.1, ht.2.2.2⟩
  rw [Baf]
  show Ha Md (Mq h.1 (YB h near far noise)).1 + Ha Wc (Z8 h far noise) ≤ 4000
  rw [TaX]
  omega
theorem EaO {h : Zb} (hr : Oj Bd h) (hz : Ha Bd h ≤ Ea) : BE h := by
 rw [Baf] at hz
 refine ⟨VaF h.1 hr.1 (by omega), fun x hx => ?_⟩
 obtain ⟨i, hi, rfl⟩ := qv hx
 have h1 := hr.2.1.1.2 i hi
 have h2 : IntKind.u8.has h.2.1.1[i] := h1
 unfold Od
 have := h2
 simp only [IntKind.has] at this
 exact ⟨by have := this.1; rw [show IntKind.u8.min = 0 from rfl] at this; exact this, by have := this.2; rw [show IntKind.u8.max = 255 from rfl] at this; exact this⟩
noncomputable def V0 (far : List Int) (noise : List (List Int)) (k : Nat) (s : Zb × List Qe) (x : Int) : (Zb × List Qe) ⊕ Unit :=
 cond (UH s.1 x (far.getD k 0) (noise.getD k [])).2.2.1 (.inl ((UH s.1 x (far.getD k 0) (noise.getD k [])).1, jf s.2 (UH s.1 x (far.getD k 0) (noise.getD k [])).2.1)) (.inr ())
noncomputable def EX (h : Zb) (near far : List Int) (noise : List (List Int)) : Zb × ((List Qe) × (Bool × Unit)) :=
 cond (Di h && (!(((ja near : Nat) : Int) != ((ja far : Nat) : Int)) && !decide (((ja near : Nat) : Int) > 200)))
  (match Tc (fun k s x => V0 far noise k s x) 0 (h, []) near with | .inl s => (s.1, s.2, true, ()) | .inr _ => (EL, [], false, ())) (EL, [], false, ())
structure G7 (k : Nat) (s : Zb × List Qe) : Prop where
 ok : BE s.1
 len : s.2.length ≤ 1088 * k
 rep : ∀ y ∈ s.2, y.2.1.2.1.length ≤ 56
theorem C9 {far : List Int} {noise : List (List Int)} {k : Nat} {s s' : Zb × List Qe} {x : Int} (h : G7 k s) (hs : V0 far noise k s x = .inl s') : G7 (k + 1) s' ∧ Ha Bd s'.1 ≤ 4000 := by
 have ht := IaN s.1 x (far.getD k 0) (noise.getD k []) h.ok
 unfold V0 at hs
 cases h1 : (UH s.1 x (far.getD k 0) (noise.getD k [])).2.2.1 with
 | false => rw [h1] at hs; simp at hs
 | true =>
  rw [h1] at hs
  simp only [cond_true, Sum.inl.injEq] at hs
  subst hs
  refine ⟨⟨ht.1, ?_, fun y hy => ?_⟩, ht.2.1⟩
  ·have := h.len
   have e : (jf s.2 (UH s.1 x (far.getD k 0) (noise.getD k [])).2.1).length = s.2.length + (UH s.1 x (far.getD k 0) (noise.getD k [])).2.1.length := by simp
   show (jf s.2 (UH s.1 x (far.getD k 0) (noise.getD k [])).2.1).length ≤ _
   omega
  ·rcases jl.1 (show y ∈ s.2 ++ (UH s.1 x (far.getD k 0) (noise.getD k [])).2.1 from hy) with hy | hy
   ·exact h.rep y hy
   ·exact ht.2.2.2 y hy
theorem Zae {far : List Int} {noise : List (List Int)} : ∀ (l : List Int) (k : Nat) (s s' : Zb × List Qe), G7 k s → Ha Bd s.1 ≤ Ea → Tc (fun k s x => V0 far noise k s x) k s l = .inl s' → G7 (k + l.length) s' ∧ Ha Bd s'.1 ≤ Ea
 | [], k, s, s', h, hz, hs => by
  simp only [Tc, Sum.inl.injEq] at hs
  subst hs; exact ⟨h, hz⟩
 | x :: l, k, s, s', h, hz, hs => by
  have h20 : Ea = 1048576 := rfl
  simp only [Tc] at hs
  revert hs
  cases hg : V0 far noise k s x with
  | inr u => intro hs; simp at hs
  | inl s1 =>
   intro hs
   have h1 := C9 h hg
   have := Zae l (k + 1) s1 s' h1.1 (by omega) hs
   rw [jw, show k + (l.length + 1) = k + 1 + l.length by omega]
   exact this
theorem D0 {k : Nat} {s : Zb × List Qe} (h : G7 k s) (hk : k < 200) (a b : Int) (c : List Int) : jx (ja s.2 + ja (UH s.1 a b c).2.1) Qa = true := by
 have h1 := h.len
 have h2 := (IaN s.1 a b c h.ok).2.2.1
 exact ji (by rw [Rd]; omega)
theorem Z0 (h : Zb) (hh : BE h) (hr : Lg h.2.1 = true) : jx (ja ([] : List Int) + ja h.2.1.1) Qa = true := by
 have := PJ hr
 exact ji (by rw [Rd]; simp; omega)
theorem Xaj (h : Zb) (near far : List Int) (noise : List (List Int)) (hh : BE h) (hn : noise.length ≤ Ea) : So h near far noise = some (EX h near far noise) := by
 have h20 : Ea = 1048576 := rfl
 unfold So EX
 rw [JU h hh.b, L5 _ hh.b]
 cases hv : Di h with
 | false => rfl
 | true =>
  have hrc : Lg h.2.1 = true := by simp only [Di, jd] at hv; exact hv.2.2.1
  rw [Z0 h hh hrc]
  simp only [jb, jg, cond_false, jk, cond_true]
  cases h1 : (((ja near : Nat) : Int) != ((ja far : Nat) : Int)) with
  | true => rfl
  | false =>
   have hlen : far.length = near.length := by
    simp only [bne_eq_false_iff_eq] at h1
    omega
   by_cases h2 : ((ja near : Nat) : Int) > 200
   ·rw [Ba h2]; rfl
   ·rw [Aa h2]
    simp only [qa, qr, cond_true, cond_false]
    have hl := Mg (step := fun x => Lr x.1.1 x.1.2.1 x.1.2.2.1 x.1.2.2.2.1 x.1.2.2.2.2.1 x.1.2.2.2.2.2.1 x.1.2.2.2.2.2.2.1 x.1.2.2.2.2.2.2.2.1 x.2.1 x.2.2.1) near (fun k s x => V0 far noise k s x)
     (fun s i => ((near, far, noise, (), (), s.2, ((ja near : Nat) : Int), i, ()), (EL, s.1, ()))) (fun s => .inl (((), (), s.2, ()), (EL, s.1, ()))) (fun _ => .inr (((), ([] : List Qe), false, ()), (EL, ())))
     (fun k s => G7 k s) (by
      intro k hk s hs
      refine ⟨?_, fun s' hs' => (C9 hs hs').1⟩
      have hkf : k < far.length := by omega
      have hfar : far.getD k 0 = far[k] := by rw [qj, je hkf]; rfl
      simp only [Lr]
      rw [Ba (show (k : Int) < ((ja near : Nat) : Int) by omega), Cb hk, Cb hkf]
      unfold V0
      rw [hfar]
      by_cases hkn : k < noise.length
      ·have hno : noise.getD k [] = noise[k] := by rw [qj, je hkn]; rfl
       rw [Ba (show (k : Int) < ((ja noise : Nat) : Int) by omega), Cb hkn, hno]
       simp only [cond_true, jb]
       show jz (Jk s.1 near[k] far[k] noise[k]) _ = _
       rw [X0 _ _ _ _ hs.ok]
       simp only [jb]
       rw [D0 hs (by omega)]
       cases (UH s.1 near[k] far[k] noise[k]).2.2.1 <;> rfl
      ·have hno : noise.getD k [] = [] := by rw [qj, List.getElem?_eq_none (by omega)]; rfl
       rw [Aa (show ¬ (k : Int) < ((ja noise : Nat) : Int) by omega), hno]
       simp only [cond_true, cond_false, jb]
       show jz (Jk s.1 near[k] far[k] []) _ = _
       rw [X0 _ _ _ _ hs.ok]
       simp only [jb]
       rw [D0 hs (by omega)]
       cases (UH s.1 near[k] far[k] []).2.2.1 <;> rfl) (by
      intro s hs
      simp only [Lr]
      rw [Aa (by omega)]; rfl) (by omega) (h, []) ⟨hh, by simp, by simp⟩
    unfold Sv
    erw [hl]
    cases Tc (fun k s x => V0 far noise k s x) 0 (h, []) near <;> rfl
theorem Pal (h : Zb) (near far : List Int) (noise : List (List Int)) (hh : BE h) (hn : noise.length ≤ Ea) : Ow h near far noise = some (EX h near far noise) := by
 have h20 : Ea = 1048576 := rfl
 unfold Ow EX GV
 rw [CV h hh.b, Zab _ hh.b]
 cases hv : Di h with
 | false => rfl
 | true =>
  have hrc : Lg h.2.1 = true := by simp only [Di, jd] at hv; exact hv.2.2.1
  rw [Z0 h hh hrc]
  simp only [jb, jg, cond_false, jk, cond_true]
  cases h1 : (((ja near : Nat) : Int) != ((ja far : Nat) : Int)) with
  | true => rfl
  | false =>
   have hlen : far.length = near.length := by
    simp only [bne_eq_false_iff_eq] at h1
    omega
   by_cases h2 : ((ja near : Nat) : Int) > 200
   ·rw [Ba h2]; rfl
   ·rw [Aa h2]
    simp only [qa, qr, cond_true, cond_false]
    have hl := Mg (step := fun x => Rs x.1.1 x.1.2.1 x.1.2.2.1 x.1.2.2.2.1 x.1.2.2.2.2.1 x.1.2.2.2.2.2.1 x.1.2.2.2.2.2.2.1 x.2.1 x.2.2.1) near (fun k s x => V0 far noise k s x)
     (fun s i => ((near, far, noise, (), s.2, (), i, ()), (EL, s.1, ()))) (fun s => .inl (((), s.2, (), ()), (EL, s.1, ()))) (fun _ => .inr (((), ([] : List Qe), false, ()), (EL, ())))
     (fun k s => G7 k s) (by
      intro k hk s hs
      refine ⟨?_, fun s' hs' => (C9 hs hs').1⟩
      have hkf : k < far.length := by omega
      have hfar : far.getD k 0 = far[k] := by rw [qj, je hkf]; rfl
      simp only [Rs]
      rw [Ba (show (k : Int) < ((ja near : Nat) : Int) by omega), Cb hk, Cb hkf]
      unfold V0
      rw [hfar]
      by_cases hkn : k < noise.length
      ·have hno : noise.getD k [] = noise[k] := by rw [qj, je hkn]; rfl
       rw [Ba (show (k : Int) < ((ja noise : Nat) : Int) by omega), Cb hkn, hno]
       simp only [cond_true, jb]
       show jz (Mk s.1 near[k] far[k] noise[k]) _ = _
       rw [C1 _ _ _ _ hs.ok]
       simp only [jb]
       rw [D0 hs (by omega)]
       cases (UH s.1 near[k] far[k] noise[k]).2.2.1 <;> rfl
      ·have hno : noise.getD k [] = [] := by rw [qj, List.getElem?_eq_none (by omega)]; rfl
       rw [Aa (show ¬ (k : Int) < ((ja noise : Nat) : Int) by omega), hno]
       simp only [cond_true, cond_false, jb]
       show jz (Mk s.1 near[k] far[k] []) _ = _
       rw [C1 _ _ _ _ hs.ok]
       simp only [jb]
       rw [D0 hs (by omega)]
       cases (UH s.1 near[k] far[k] []).2.2.1 <;> rfl) (by
      intro s hs
      simp only [Rs]
      rw [Aa (by omega)]; rfl) (by omega) (h, []) ⟨hh, by simp, by simp⟩
    unfold Pw
    erw [hl]
    cases Tc (fun k s x => V0 far noise k s x) 0 (h, []) near <;> rfl
theorem FaT (h : Zb) (near far : List Int) (noise : List (List Int)) (hh : BE h) (hz : Ha Bd h ≤ Ea) : Ha Bd (EX h near far noise).1 ≤ Ea ∧ Ha (.sl Oi) (EX h near far noise).2.1 ≤ 16 * Ea := by
 have h20 : Ea = 1048576 := rfl
 unfold EX
 cases hc : Di h && (!(((ja near : Nat) : Int) != ((ja far : Nat) : Int)) && !decide (((ja near : Nat) : Int) > 200)) with
 | false => simp only [cond_false]; exact ⟨by decide, by decide⟩
 | true =>
  simp only [jd, Bool.not_eq_true', decide_eq_false_iff_not] at hc
  simp only [cond_true]
  cases hf : Tc (fun k s x => V0 far noise k s x) 0 (h, []) near with
  | inr u => exact ⟨(by decide : Ha Bd EL ≤ Ea), (by decide : Ha (.sl Oi) ([] : List Qe) ≤ 16 * Ea)⟩
  | inl s =>
   have h1 := Zae near 0 (h, []) s ⟨hh, by simp, by simp⟩ hz hf
   refine ⟨h1.2, ?_⟩
   have h2 := h1.1.len
   have := IaT (n := 1088 * 200) (by omega) h1.1.rep
   show Ha (.sl Oi) s.2 ≤ _
   omega
theorem Oac (h : Zb) (near far : List Int) (noise : List (List Int)) (hr : Oj Bd h) (_ : Oj (.sl int) near) (_ : Oj (.sl int) far) (_ : Oj (.sl (.sl Tf)) noise) (hz : Ha Bd h ≤ Ea) (_ : Ha (.sl int) near ≤ Ea) (_ : Ha (.sl int) far ≤ Ea) (hn : Ha (.sl (.sl Tf)) noise ≤ Ea) :
 ∃ w0 w1 w2, Ow h near far noise = some (w0, w1, w2, ()) ∧ So h near far noise = some (w0, w1, w2, ()) ∧ Ha Bd w0 ≤ Ea ∧ Ha (.sl Oi) w1 ≤ 16 * Ea := by
 have hh := EaO hr hz
 have hs := FaT h near far noise hh hz
 have hnl : ja noise ≤ Ea := qc (Lae (e := .sl Tf) noise) hn
 exact ⟨(EX h near far noise).1, (EX h near far noise).2.1, (EX h near far noise).2.2.1, Pal h near far noise hh hnl, Xaj h near far noise hh hnl, hs.1, hs.2⟩
theorem Cag (a0 : Zb) (a1 : (List Int)) (a2 : (List Int)) (a3 : (List (List Int))) (hr0 : Oj Bd a0) (hr1 : Oj (.sl int) a1) (hr2 : Oj (.sl int) a2) (hr3 : Oj (.sl (.sl Tf)) a3) : Om a0 a1 a2 a3 = some (true, ()) := by
 have h20 : Ea = 1048576 := rfl
 have h40 : Sc = 1099511627776 := rfl
 unfold Om
 by_cases l1 : ((ja a1 : Nat) : Int) > 1048576
 ·rw [Ba l1]; rfl
 rw [Aa l1]
 simp only [cond_false]
 by_cases l2 : ((ja a2 : Nat) : Int) > 1048576
 ·rw [Ba l2]; rfl
 rw [Aa l2]
 simp only [cond_false]
 have s0 := Fan a0 hr0 (1048576) (by omega)
 rw [show ((1048576 : Nat) : Int) = 1048576 from rfl] at s0
 rw [s0]
 simp only [jb]
 by_cases z0 : Ha Bd a0 ≤ 1048576
 case neg => rw [Df z0]; rfl
 rw [Sg z0, Aa (by omega)]
 simp only [cond_false]
 have s3 := Can a3 hr3 (1048576 - Ha Bd a0) (by omega)
 rw [s3]
 simp only [jb]
 by_cases z3 : Ha (.sl (.sl Tf)) a3 ≤ 1048576 - Ha Bd a0
 case neg => rw [Df z3]; rfl
 rw [Sg z3, Aa (by omega)]
 simp only [cond_false]
 have hz0 : Ha Bd a0 ≤ Ea := by omega
 have hz1 : Ha (.sl int) a1 ≤ Ea := by rw [Pk (e := int) rfl a1]; omega
 have hz2 : Ha (.sl int) a2 ≤ Ea := by rw [Pk (e := int) rfl a2]; omega
 have hz3 : Ha (.sl (.sl Tf)) a3 ≤ Ea := by omega
 obtain ⟨w0, w1, w2, e1, e2, b0, b1⟩ := Oac a0 a1 a2 a3 hr0 hr1 hr2 hr3 hz0 hz1 hz2 hz3
 obtain ⟨x0, k0, g0, i0, m0, n0, _⟩ := B1 a0 1 (by omega)
 rw [show ((1 : Nat) : Int) = 1 from rfl] at m0 n0
 have d0 : decide ((k0 : Int) < 0) = false := Aa (by omega)
 obtain ⟨x1, k1, g1, i1, m1, n1, _⟩ := IR a1 k0 (by omega)
 have d1 : decide ((k1 : Int) < 0) = false := Aa (by omega)
 obtain ⟨x2, k2, g2, i2, m2, n2, _⟩ := IR a2 k1 (by omega)
 have d2 : decide ((k2 : Int) < 0) = false := Aa (by omega)
 obtain ⟨x3, k3, g3, i3, m3, n3, _⟩ := Eag a3 k2 (by omega)
 have d3 : decide ((k3 : Int) < 0) = false := Aa (by omega)
 obtain ⟨x4, k4, g4, i4, m4, n4, f4⟩ := B1 w0 1 (by omega)
 simp only [kf, true_and, and_true] at f4
 have q4 : (((w0.1.1, (w0.1.2.1.1, w0.1.2.1.2.1, w0.1.2.1.2.2.1, w0.1.2.1.2.2.2.1, w0.1.2.1.2.2.2.2.1, x4.1.2.1.2.2.2.2.2.1, ()), (x4.1.2.2.1.1, w0.1.2.2.1.2.1, x4.1.2.2.1.2.2.1, w0.1.2.2.1.2.2.2.1, w0.1.2.2.1.2.2.2.2.1, w0.1.2.2.1.2.2.2.2.2.1, x4.1.2.2.1.2.2.2.2.2.2.1, ()), (((w0.1.2.2.2.1.1.1.1, x4.1.2.2.2.1.1.1.2.1, ()), x4.1.2.2.2.1.1.2.1, w0.1.2.2.2.1.1.2.2.1, x4.1.2.2.2.1.1.2.2.2.1, w0.1.2.2.2.1.1.2.2.2.2), w0.1.2.2.2.1.2.1, x4.1.2.2.2.1.2.2.1, w0.1.2.2.2.1.2.2.2), w0.1.2.2.2.2), (x4.2.1.1, w0.2.1.2), w0.2.2) : Zb) = x4 := by simp only [Prod.ext_iff, f4, and_self]
 rw [show ((1 : Nat) : Int) = 1 from rfl] at m4 n4
 have d4 : decide ((k4 : Int) < 0) = false := Aa (by omega)
 obtain ⟨x5, k5, g5, i5, m5, n5, _⟩ := Wak w1 k4 (by omega)
 have d5 : decide ((k5 : Int) < 0) = false := Aa (by omega)
 simp only [e1, e2, Man a0 hz0, E6 a0 (by omega), X3 a1 hz1, RV a1 (by omega), X3 a2 hz2, RV a2 (by omega), Jan a3 hz3, Iam a3 (by omega), E6 w0 (by omega), Gay w1 (by omega), m0, d0, m1, d1, m2, d2, m3, d3, q4, m4, d4, n4, m5, d5, n5, jb, bne_self_eq_false', jg, cond_false]
end KF
