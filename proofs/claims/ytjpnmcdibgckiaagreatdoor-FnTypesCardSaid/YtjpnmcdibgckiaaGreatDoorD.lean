/- An evaluator of Go functions on plain data, its soundness, and plain laws on what the functions compute, part 4 (conditions: as each lemma tells). -/
import Derived.Test.YtjpnmcdibgckiaaGreatDoorC
set_option linter.unusedSimpArgs false
set_option linter.unusedVariables false
namespace KF
open Go
open List renaming length → ja, getElem?_eq_getElem → je, append → jf, mem_append → jl, mem_cons → jp, mem_cons_of_mem → jr, length_cons → jw, set → j5, length_nil → j6, mem_singleton → qb, length_append → qc, getElem?_append_left → qe, getElem?_append_right → qf, getD_eq_getElem?_getD → qg, getElem_mem → qn, mem_of_mem_drop → qo, getElem_of_mem → qp, mem_map → qq, length_drop → qr, length_take → qs, mem_cons_self → qu
open Option renaming bind_some → jb, bind → jz, map_some → qa, bind_eq_some_iff → qd
open Option.some renaming injEq → jc
open Bool renaming and_eq_true → jd, not_true → jg, true_and → jk, false_eq_true → jq, not_false → j7, not_eq_true → j8, false_and → qk, and_self → ql, eq_iff_iff → qt
open Prod.mk renaming injEq → jh
open Nat renaming ble_eq_true_of_le → ji, mul_le_mul_right → jm, le_refl → jo, zero_add → js, add_assoc → jt, eq_of_beq_eq_true → ju, ble → jx, le_trans → j9, lt_of_lt_of_le → qi, testBit_two_pow → qj, xor_lt_two_pow → qm
open Int renaming toNat_natCast → jn, eq_ofNat_of_zero_le → jv, toNat → jy
open Go.IntKind renaming wrap → j4
open Sum renaming elim_inl → qh
open Result renaming andThen_ok → qv
open Sem renaming run_bind → qw
theorem IL {α β : Type} (p : β → Bool) (f : α → β) : ∀ (xs : List α) (k : Nat), Gc p k (xs.map f) = Gc (fun x => p (f x)) k xs
 | [], _ => rfl
 | x :: xs, k => by simp only [List.map_cons, Gc, IL p f xs]
theorem Mx {α : Type} (p : α → Bool) : ∀ (xs : List α) (k : Nat), Gc p k xs = -1 ∨ ∃ j : Nat, j < xs.length ∧ Gc p k xs = ((k + j : Nat) : Int)
 | [], _ => .inl rfl
 | x :: xs, k => by
  simp only [Gc]
  cases p x with
  | true => exact .inr ⟨0, by simp, by simp⟩
  | false =>
   rcases Mx p xs (k + 1) with h | ⟨j, h1, h2⟩
   ·exact .inl h
   ·exact .inr ⟨j + 1, by simp; omega, by simp only [cond_false]; rw [h2]; omega⟩
theorem EF {α : Type} (p : α → Bool) : ∀ (xs : List α) (k : Nat), (Bc (fun k (_ : Unit) x => cond (p x) (.inr (k : Int)) (.inl ())) k () xs : Unit ⊕ Int) = if Gc p k xs = -1 then .inl () else .inr (Gc p k xs)
 | [], _ => rfl
 | x :: xs, k => by
  rcases Bool.eq_false_or_eq_true (p x) with hp | hp
  ·simp only [Bc, Gc, hp, cond_true]; rw [if_neg (by omega)]
  ·simp only [Bc, Gc, hp, cond_false]; exact EF p xs (k + 1)
theorem LI {X R α : Type} {step : X → Option (X ⊕ R)} (xs : List α) (p : α → Bool) (I : Int → X) (no : R) (yes : Int → R)
 (h : ∀ k (hk : k < xs.length), step (I (k : Int)) = some (cond (p xs[k]) (.inr (yes (k : Int))) (.inl (I (j4 .i64 ((k : Int) + 1))))))
 (he : step (I (xs.length : Int)) = some (.inr no)) (hn : xs.length < 9223372036854775807) :
 Nb step (I 0) = some (if Gc p 0 xs = -1 then no else yes (Gc p 0 xs)) := by
 have := Vi (step := step) xs (fun k (_ : Unit) x => cond (p x) (.inr (k : Int)) (.inl ())) (fun _ i => I i) (fun _ => no) yes (fun _ _ => True) (fun k hk s _ => by
  refine ⟨?_, fun _ _ => trivial⟩
  rw [h k hk]
  cases p xs[k] <;> rfl) (fun _ _ => he) hn () trivial
 rw [this, EF]
 by_cases hc : Gc p 0 xs = -1
 ·rw [if_pos hc, if_pos hc]
 ·rw [if_neg hc, if_neg hc]
def Zc (h : Ma) : Ab := (h.2.1.2.1, h.2.1.2.2.1, ())
def Mt (c m : Int) (h : Ma) : Bool := (h.2.1.2.1 == c) && (h.2.1.2.2.1 == m)
theorem HC (l : List Ab) (c : Ab) (hn : l.length ≤ Ja) : Lt l c = some (Gc (fun x => An Be x c) 0 l, ()) := by
 have h20 : Ja = 1048576 := rfl
 have hl := LI (step := fun x => Qq x.1.1 x.1.2.1 x.1.2.2.1 x.1.2.2.2.1 x.2.1) l (fun x => An Be x c) (fun i => (((), l, ((ja l : Nat) : Int), i, ()), (c, ())))
  (.inl ((), ())) (fun i => .inr ((i, ()), ())) (by
   intro k hk
   simp only [Qq]
   rw [Ba (show (k : Int) < (ja l : Int) by omega), Dc hk]
   simp only [cond_true, jb]
   cases An Be l[k] c <;> rfl) (by
   simp only [Qq]
   rw [Aa (by omega)]; rfl) (by omega)
 unfold Lt Rr
 erw [hl]
 simp only [jb]
 by_cases hc : Gc (fun x => An Be x c) 0 l = -1
 ·rw [if_pos hc, hc]; rfl
 ·rw [if_neg hc]; rfl
theorem CM (L : List Ma) (c m : Int) : Gc (fun x => An Be x (c, m, ())) 0 (L.map Zc) = Gc (Mt c m) 0 L := by
 rw [IL]
 congr 1
 funext h
 simp only [Zc, An, Mt, Bool.and_true]
def Zh {α : Type} (l : List α) (r : Nat) : List α := jf (Xa l 0 r) (Xa l (r + 1) l.length)
theorem LT {α : Type} {l : List α} {r : Nat} (h : r < l.length) : (Zh l r).length = l.length - 1 := by
 simp [Zh, Xa]; omega
theorem SI {α β : Type} (f : α → β) (l : List α) (r : Nat) : Zh (l.map f) r = (Zh l r).map f := by
 simp [Zh, Xa, List.map_take, List.map_drop]
 rw [List.take_of_length_le (by simp)]
theorem ZN {α : Type} {l : List α} {r : Nat} (h : r < l.length) : Pd (ja l) 0 (r : Int) = true ∧ Pd (ja l) ((r + 1 : Nat) : Int) ((ja l : Nat) : Int) = true := by
 simp only [Pd, jd, decide_eq_true_eq]
 omega
noncomputable def Qs (x : Yb) (r : Int) : Bool := Ac (2, x.2.1, x.2.2.1, 0, ()) && (((x.1 == 0) && !decide (r ≥ 0)) || (((x.1 == 1) && !decide (r ≥ 0)) || ((x.1 == 2) && decide (r ≥ 0))))
def Jv (x : Yb) : Ma := (0, (2, x.2.1, x.2.2.1, 0, ()), ())
def NB (x : Yb) (L : List Ma) (r : Int) : List Ma := cond (x.1 == 1) (jf L [Jv x]) (cond (x.1 == 2) (Zh L r.toNat) L)
noncomputable def Pv (L : List Ma) (x : Yb) : List Ma ⊕ Unit := cond (Qs x (Gc (Mt x.2.1 x.2.2.1) 0 L)) (.inl (NB x L (Gc (Mt x.2.1 x.2.2.1) 0 L))) (.inr ())
theorem BV {L L' : List Ma} {x : Yb} (h : Pv L x = .inl L') : L'.length ≤ L.length + 1 := by
 unfold Pv at h
 cases hc : Qs x (Gc (Mt x.2.1 x.2.2.1) 0 L) with
 | false => rw [hc] at h; simp at h
 | true =>
  rw [hc] at h
  simp only [cond_true, Sum.inl.injEq] at h
  rw [← h]
  unfold NB
  cases x.1 == 1 with
  | true => simp
  | false =>
   cases x.1 == 2 with
   | true => simp [Zh, Xa]; omega
   | false => simp
theorem NP (l : List Yb) (k : Nat) (hk : k < l.length) (L : List Ma) (hL : L.length ≤ k) (hn : l.length ≤ Ja) :
 Uk (L.map Zc) l ((ja l : Nat) : Int) (k : Int) =
  some (match Pv L l[k] with | .inl L' => .inl ((L'.map Zc, l, ((ja l : Nat) : Int), j4 .i64 ((k : Int) + 1), ()), ()) | .inr _ => .inr (.inr ((false, ()), ()))) := by
 have h20 : Ja = 1048576 := rfl
 simp only [Uk]
 rw [Ba (show (k : Int) < (ja l : Int) by omega), Dc hk]
 simp only [cond_true, jb]
 rw [HC (L.map Zc) _ (by simp; omega), CM]
 simp only [jb, Mo, Pv, Qs, NB, Jv]
 generalize hx : l[k] = x
 generalize hr : Gc (Mt x.2.1 x.2.2.1) 0 L = r
 have hble : jx (ja (L.map Zc) + ja ([(x.2.1, x.2.2.1, ())] : List Ab)) Jb = true := ji (by simp [Uh]; omega)
 have happ : jf (L.map Zc) ([(x.2.1, x.2.2.1, ())] : List Ab) = (jf L [((0 : Int), ((2 : Int), x.2.1, x.2.2.1, (0 : Int), ()), ())]).map Zc := by
  show _ ++ _ = List.map Zc (_ ++ _)
  rw [List.map_append]; rfl
 by_cases k0 : x.1 = 0
 ·simp only [k0]
  cases Ac ((2 : Int), x.2.1, x.2.2.1, (0 : Int), ()) <;> cases decide (r ≥ 0) <;> rfl
 by_cases k1 : x.1 = 1
 ·simp only [k1]
  rw [hble, happ]
  cases Ac ((2 : Int), x.2.1, x.2.2.1, (0 : Int), ()) <;> cases decide (r ≥ 0) <;> rfl
 by_cases k2 : x.1 = 2
 ·simp only [k2]
  rcases Mx (Mt x.2.1 x.2.2.1) L 0 with h1 | ⟨j, h1, h2⟩
  ·rw [hr] at h1
   rw [h1]
   cases Ac ((2 : Int), x.2.1, x.2.2.1, (0 : Int), ()) <;> rfl
  ·rw [hr] at h2
   have hrj : r = (j : Int) := by omega
   rw [hrj]
   have hj : j < (L.map Zc).length := by simpa using h1
   have hc := ZN hj
   rw [Vd (k := j) (by omega), hc.1, hc.2, Aa (show ¬ (j : Int) < 0 by omega), Ba (show (j : Int) ≥ 0 by omega)]
   have e1 : jx (ja (Xa (L.map Zc) (jy 0) (jy (j : Int))) + ja (Xa (L.map Zc) (jy ((j + 1 : Nat) : Int)) (jy ((ja (L.map Zc) : Nat) : Int)))) Jb = true :=
    ji (by simp [Xa]; rw [Uh]; omega)
   have e2 : jf (Xa (L.map Zc) (jy 0) (jy (j : Int))) (Xa (L.map Zc) (jy ((j + 1 : Nat) : Int)) (jy ((ja (L.map Zc) : Nat) : Int))) = (Zh L (jy (j : Int))).map Zc := by
    rw [← SI]
    simp [Zh]
   rw [e1, e2]
   cases Ac ((2 : Int), x.2.1, x.2.2.1, (0 : Int), ()) <;> rfl
 ·have e0 : (x.1 == 0) = false := by simpa using k0
  have e1 : (x.1 == 1) = false := by simpa using k1
  have e2 : (x.1 == 2) = false := by simpa using k2
  rw [e0, e1, e2]
  cases Ac ((2 : Int), x.2.1, x.2.2.1, (0 : Int), ()) <;> rfl
noncomputable def X5 (l : List Yb) : List Ma ⊕ Unit := Bc (fun _ L x => Pv L x) 0 [] l
noncomputable def Eh (l : List Yb) : Bool := decide (l.length ≤ 8) && (match X5 l with | .inl L => ((L.length : Int) == 0) | .inr _ => false)
theorem TA (l : List Yb) (hn : l.length ≤ Ja) : Kr l = some (Eh l, ()) := by
 have h20 : Ja = 1048576 := rfl
 unfold Kr Eh
 by_cases h : l.length ≤ 8
 ·rw [Aa (show ¬ ((ja l : Nat) : Int) > 8 by omega), Ba h]
  have hl := Vi (step := fun x => Uk x.1.1 x.1.2.1 x.1.2.2.1 x.1.2.2.2.1) l (fun _ L x => Pv L x) (fun L i => ((L.map Zc, l, ((ja l : Nat) : Int), i, ()), ()))
   (fun L => .inl ((L.map Zc, ()), ())) (fun _ => .inr ((false, ()), ())) (fun k L => L.length ≤ k) (by
    intro k hk L hL
    refine ⟨?_, fun L' h => by have := BV h; omega⟩
    rw [NP l k hk L hL hn]
    cases Pv L l[k] <;> rfl) (by
    intro s _
    simp only [Uk]
    rw [Aa (by omega)]; rfl) (by omega) [] (by simp)
  unfold Bq
  erw [hl]
  simp only [X5]
  cases Bc (fun x L x => Pv L x) 0 [] l with
  | inl L =>
   show some _ = some _
   simp only [List.length_map]
   rfl
  | inr u => rfl
 ·rw [Ba (show ((ja l : Nat) : Int) > 8 by omega), Aa h]; rfl
noncomputable def Nn (keys : Int) (nl : Nat) (x : Ma) : Bool := !decide (x.1 ≥ keys) && !((x.2.1.1 != 9) && decide (x.2.1.2.2.2.1 ≥ (nl : Int)))
noncomputable def Ci (e : Lb) : Bool :=
 Eb e.1 && (decide (e.2.1.length ≤ 4) && (Qe e.2.2.2.1 && (Td (fun _ m => Eh m) 0 e.2.1 && (Td (fun _ x => Nn e.1.1 e.1.2.1.length x) 0 e.2.2.2.1 &&
  (decide (0 ≤ e.2.2.1 ∧ e.2.2.1 < ((2 ^ e.1.2.1.length : Nat) : Int)) && ((Int.tmod e.2.2.1 2 == 0) && decide (0 ≤ e.2.2.2.2.1 ∧ e.2.2.2.2.1 ≤ 15)))))))
theorem Gv (e : Lb) : Ib Sc e = Ib Pa e.1 + (Ib (.sl (.sl Tc)) e.2.1 + Ib (.sl Ck) e.2.2.2.1) := by
 simp only [Ib, Nat.add_zero, js]
theorem Av (l : List Ma) : Ib (.sl Ck) l = l.length := As (e := Ck) rfl l
theorem VV (l : List Yb) : Ib (.sl Tc) l = l.length := As (e := Tc) rfl l
theorem Tab {e : Ty} (l : List (T e)) : ja l ≤ Ib (.sl e) l := Nat.le_add_right _ _
theorem Bag {e : Ty} {l : List (T e)} {k : Nat} (hk : k < ja l) : Ib e (List.get l ⟨k, hk⟩) ≤ Ib (.sl e) l :=
 j9 (Rs (f := Ib e) hk) (Nat.le_add_left _ _)
theorem PL (e : Lb) (hz : Ib Sc e ≤ Ja) : Uj (((), e.2.1, ((ja e.2.1 : Nat) : Int), (0 : Int), ()), (e, ())) =
 some (cond (Td (fun _ m => Eh m) 0 e.2.1) (.inl (((), ()), (e, ()))) (.inr ((false, ()), ()))) := by
 have h20 : Ja = 1048576 := rfl
 rw [Gv] at hz
 have hl := Tab (e := .sl Tc) e.2.1
 unfold Uj
 refine Gh (step := fun x => Dn x.1.1 x.1.2.1 x.1.2.2.1 x.1.2.2.2.1 x.2.1) e.2.1 (fun _ m => Eh m) (fun i => (((), e.2.1, ((ja e.2.1 : Nat) : Int), i, ()), (e, ()))) _ _ ?_ ?_ (by omega)
 ·intro k hk
  simp only [Dn]
  have hk2 : (k : Int) < ((ja e.2.1 : Nat) : Int) := by omega
  rw [Ba hk2, Dc hk]
  simp only [cond_true, jb]
  have he := Bag (e := .sl Tc) hk
  rw [VV] at he
  rw [TA e.2.1[k] (by have : (List.get e.2.1 ⟨k, hk⟩) = e.2.1[k] := rfl; rw [this] at he; omega)]
  simp only [jb]
  cases Eh e.2.1[k] <;> rfl
 ·simp only [Dn]
  rw [Aa (by omega)]; rfl
theorem MP (e : Lb) (hz : Ib Sc e ≤ Ja) : Hj (((), ((ja e.1.2.1 : Nat) : Int), e.2.2.2.1, ((ja e.2.2.2.1 : Nat) : Int), (0 : Int), ()), (e, ())) =
 some (cond (Td (fun _ x => Nn e.1.1 e.1.2.1.length x) 0 e.2.2.2.1) (.inl (((), ((ja e.1.2.1 : Nat) : Int), ()), (e, ()))) (.inr ((false, ()), ()))) := by
 have h20 : Ja = 1048576 := rfl
 rw [Gv, Av] at hz
 unfold Hj
 refine Gh (step := fun x => Vl x.1.1 x.1.2.1 x.1.2.2.1 x.1.2.2.2.1 x.1.2.2.2.2.1 x.2.1) e.2.2.2.1 (fun _ x => Nn e.1.1 e.1.2.1.length x)
  (fun i => (((), ((ja e.1.2.1 : Nat) : Int), e.2.2.2.1, ((ja e.2.2.2.1 : Nat) : Int), i, ()), (e, ()))) _ _ ?_ ?_ (by omega)
 ·intro k hk
  simp only [Vl]
  have hk2 : (k : Int) < ((ja e.2.2.2.1 : Nat) : Int) := by omega
  rw [Ba hk2, Dc hk]
  simp only [cond_true, jb, Nn]
  cases decide (e.2.2.2.1[k].1 ≥ e.1.1) <;> cases (e.2.2.2.1[k].2.1.1 != 9) <;> cases decide (e.2.2.2.1[k].2.1.2.2.2.1 ≥ ((ja e.1.2.1 : Nat) : Int)) <;> rfl
 ·simp only [Vl]
  rw [Aa (by omega)]; rfl
theorem Ku (e : Lb) (hz : Ib Sc e ≤ Ja) : Lj e = some (Ci e, ()) := by
 have h20 : Ja = 1048576 := rfl
 have hz' := hz
 rw [Gv, Av] at hz'
 unfold Lj Ci
 rw [Tk e.1 (by omega)]
 cases hk : Eb e.1 with
 | false => rfl
 | true =>
  simp only [jb, jg, cond_false, jk]
  by_cases h4 : e.2.1.length ≤ 4
  ·rw [Aa (show ¬ ((ja e.2.1 : Nat) : Int) > 4 by omega), Ba h4, Ds _ (by omega)]
   simp only [jb, cond_false, jk]
   cases hh : Qe e.2.2.2.1 with
   | false => rfl
   | true =>
    simp only [jg, cond_false, jk]
    rw [PL e hz]
    have hl := (Bf hk).l2
    by_cases ho : 0 ≤ e.2.2.2.2.1 ∧ e.2.2.2.2.1 ≤ 15
    ·rw [Aa (show ¬ e.2.2.2.2.1 < 0 by omega), Aa (show ¬ e.2.2.2.2.1 > 15 by omega), Ba ho]
     simp only [cond_false, jb, Bool.and_true]
     cases Td (fun _ m => Eh m) 0 e.2.1 with
     | false => rfl
     | true =>
      simp only [cond_true, qh, jk]
      rw [MP e hz]
      cases Td (fun _ x => Nn e.1.1 e.1.2.1.length x) 0 e.2.2.2.1 with
      | false => rfl
      | true =>
       simp only [cond_true, jb, qh, jk]
       rw [VH (by omega), Ba (show (0 : Int) ≤ ((ja e.1.2.1 : Nat) : Int) by omega)]
       have e2 : ((2 : Int) == 0) = false := rfl
       rw [e2]
       simp only [cond_false, cond_true]
       by_cases hf : 0 ≤ e.2.2.1
       ·rw [Ba (show e.2.2.1 ≥ 0 from hf)]
        by_cases hf2 : e.2.2.1 < ((2 ^ e.1.2.1.length : Nat) : Int)
        ·rw [Ba hf2, Ba (show 0 ≤ e.2.2.1 ∧ e.2.2.1 < ((2 ^ e.1.2.1.length : Nat) : Int) from ⟨hf, hf2⟩)]
         cases Int.tmod e.2.2.1 2 == 0 <;> rfl
        ·rw [Aa hf2, Aa (show ¬ (0 ≤ e.2.2.1 ∧ e.2.2.1 < ((2 ^ e.1.2.1.length : Nat) : Int)) from fun h => hf2 h.2)]
         cases Int.tmod e.2.2.1 2 == 0 <;> rfl
       ·rw [Aa (show ¬ e.2.2.1 ≥ 0 from hf), Aa (show ¬ (0 ≤ e.2.2.1 ∧ e.2.2.1 < ((2 ^ e.1.2.1.length : Nat) : Int)) from fun h => hf h.1)]
        rfl
    ·have hr : (Td (fun _ m => Eh m) 0 e.2.1 && (Td (fun _ x => Nn e.1.1 e.1.2.1.length x) 0 e.2.2.2.1 && (decide (0 ≤ e.2.2.1 ∧ e.2.2.1 < ((2 ^ e.1.2.1.length : Nat) : Int)) && ((Int.tmod e.2.2.1 2 == 0) && decide (0 ≤ e.2.2.2.2.1 ∧ e.2.2.2.2.1 ≤ 15))))) = false := by
      rw [Aa ho]; simp
     rw [hr]
     by_cases h1 : e.2.2.2.2.1 < 0
     ·rw [Ba h1]; rfl
     ·rw [Aa h1, Ba (show e.2.2.2.2.1 > 15 by omega)]; rfl
  ·rw [Ba (show ((ja e.2.1 : Nat) : Int) > 4 by omega), Aa h4]; rfl
def Mj (x : Na) : Bool := decide (0 ≤ x.1 ∧ x.1 ≤ 1000000) && decide (0 ≤ x.2.1 ∧ x.2.1 ≤ 31)
theorem SA (x : Na) : Ir x = some (Mj x, ()) := by
 unfold Ir Mj
 simp only [Dk, Ek]
 apply Hc
 simp only [Uc, decide_eq_true_eq, jq, and_false, or_false, jd]
 omega
def Tz (s : Int × Int) (x : Na) : Bool := Mj x && (!decide (s.1 > x.1) && !(x.2.2.1 == (Kl s.2 x.2.1 == 1)))
def Er (s : Int × Int) (x : Na) : (Int × Int) ⊕ Unit := cond (Tz s x) (.inl (x.1, Cj .i64 s.2 (Ce .i64 1 x.2.1))) (.inr ())
def WX (l : List Na) (d : Int) : (Int × Int) ⊕ Unit := Bc (fun _ s x => Er s x) 0 (0, d) l
def Up (l : List Na) (d : Int) : Int × Bool := cond (decide (l.length ≤ 64)) (match WX l d with | .inl s => (s.2, true) | .inr _ => (0, false)) (0, false)
theorem Kx {x : Na} (h : Mj x = true) : 0 ≤ x.1 ∧ x.1 ≤ 1000000 ∧ 0 ≤ x.2.1 ∧ x.2.1 ≤ 31 := by
 simp only [Mj, jd, decide_eq_true_eq] at h
 omega
theorem Gw (l : List Na) (d : Int) (hn : l.length ≤ Ja) : Vp l d = some ((Up l d).1, (Up l d).2, ()) := by
 have h20 : Ja = 1048576 := rfl
 unfold Vp Up
 by_cases h64 : l.length ≤ 64
 ·rw [Aa (show ¬ ((ja l : Nat) : Int) > 64 by omega), Ba h64]
  have hl := Vi (step := fun x => Nq x.1.1 x.1.2.1 x.1.2.2.1 x.1.2.2.2.1 x.1.2.2.2.2.1) l (fun _ s x => Er s x) (fun s i => ((l, s.2, l, ((ja l : Nat) : Int), i, ()), ()))
   (fun s => .inl ((s.2, ()), ())) (fun _ => .inr (((0 : Int), false, ()), ())) (fun k s => (k = 0 → s.1 = 0) ∧ ∀ hk : k - 1 < l.length, 0 < k → s.1 = l[k - 1].1) (by
    intro k hk s ⟨hs0, hs1⟩
    refine ⟨?_, ?_⟩
    ·simp only [Nq]
     rw [Ba (show (k : Int) < ((ja l : Nat) : Int) by omega), Dc hk]
     simp only [cond_true, jb, SA, Er, Tz]
     generalize hx : l[k] = x
     cases hev : Mj x with
     | false => rfl
     | true =>
      have hkey := Kx hev
      simp only [jg, cond_false, jk]
      rw [Bx s.2 hkey.2.2.1, Ba hkey.2.2.1]
      simp only [jb, cond_true]
      by_cases h0 : k = 0
      ·subst h0
       rw [Aa (show ¬ ((0 : Nat) : Int) > 0 by omega), Aa (show ¬ s.1 > x.1 by rw [hs0 rfl]; omega)]
       cases (x.2.2.1 == (Kl s.2 x.2.1 == 1)) <;> rfl
      ·rw [Ba (show (k : Int) > 0 by omega), Qd (by omega) (by omega), show (k : Int) - 1 = ((k - 1 : Nat) : Int) by omega, Dc (show k - 1 < l.length by omega)]
       rw [hs1 (by omega) (by omega)]
       simp only [jb, cond_true]
       cases decide (l[k - 1].1 > x.1) <;> cases (x.2.2.1 == (Kl s.2 x.2.1 == 1)) <;> rfl
    ·intro s' h
     unfold Er at h
     cases hc : Tz s l[k] with
     | false => rw [hc] at h; simp at h
     | true =>
      rw [hc] at h
      simp only [cond_true, Sum.inl.injEq] at h
      refine ⟨by omega, fun _ _ => ?_⟩
      rw [← h]
      simp only [Nat.add_sub_cancel])
   (by
    intro s _
    simp only [Nq]
    rw [Aa (by omega)]; rfl) (by omega) (0, d) ⟨fun _ => rfl, fun _ h => absurd h (by omega)⟩
  unfold Nr
  erw [hl]
  simp only [cond_false, jb, WX, cond_true]
  cases Bc (fun x s x => Er s x) 0 (0, d) l <;> rfl
 ·rw [Ba (show ((ja l : Nat) : Int) > 64 by omega), Aa h64]; rfl
def UL (keys : Int) (l : List Na) : Bool := Td (fun _ (x : Na) => !decide (x.2.1 ≥ keys)) 0 l
def Yd (q : List Na) (d keys : Int) : Bool := UL keys q && (Up q d).2
theorem Qy (q : List Na) (d keys : Int) (hn : q.length ≤ Ja) : Nk q d keys = some (Yd q d keys, ()) := by
 have h20 : Ja = 1048576 := rfl
 have hl := Gh (step := fun x => Em x.1.1 x.1.2.1 x.1.2.2.1 x.1.2.2.2.1 x.1.2.2.2.2.1 x.1.2.2.2.2.2.1) q (fun _ (x : Na) => !decide (x.2.1 ≥ keys)) (fun i => ((q, d, keys, q, ((ja q : Nat) : Int), i, ()), ()))
  (.inl ((q, d, ()), ())) (.inr ((false, ()), ())) (by
   intro k hk
   simp only [Em]
   rw [Ba (show (k : Int) < ((ja q : Nat) : Int) by omega), Dc hk]
   simp only [cond_true, jb]
   cases decide (q[k].2.1 ≥ keys) <;> rfl) (by
   simp only [Em]
   rw [Aa (by omega)]; rfl) (by omega)
 unfold Nk Xn Yd UL
 erw [hl]
 simp only [jb]
 cases Td (fun _ (x : Na) => !decide (x.2.1 ≥ keys)) 0 q with
 | false => rfl
 | true => simp only [cond_true, qh, Gw q d hn, jb]; rfl
def Af (t : TB) : Bool := decide (1 ≤ t.1 ∧ t.1 ≤ 1000) && (decide (0 ≤ t.2.1 ∧ t.2.1 ≤ 1000) && decide (0 ≤ t.2.2.1 ∧ t.2.2.1 ≤ 2))
theorem Ny (t : TB) : Jp t = some (Af t, ()) := by
 unfold Jp Af
 simp only [Dk, Ek]
 apply Hc
 simp only [Uc, decide_eq_true_eq, jq, and_false, or_false, jd]
 omega
def JQ (l : List Na) : Int := (l.getD (l.length - 1) (0, 0, false, ())).1
def Wi (l : List Na) (t : Int) : Bool := ((l.length : Int) == 0) || decide (JQ l ≤ t)
theorem I5 {l : List Na} (h : 0 < l.length) (hn : l.length ≤ Ja) : ∃ x, Wc l (j4 .i64 (((ja l : Nat) : Int) - 1)) = some x ∧ x.1 = JQ l := by
 have h20 : Ja = 1048576 := rfl
 refine ⟨l[l.length - 1], ?_, ?_⟩
 ·rw [Qd (by omega) (by omega), show ((ja l : Nat) : Int) - 1 = ((l.length - 1 : Nat) : Int) by omega, Dc (by omega)]
 ·simp [JQ, List.getD, je (show l.length - 1 < l.length by omega)]
theorem Py (l : List Na) (t : Int) (hn : l.length ≤ Ja) : Mk l t = some (Wi l t, ()) := by
 unfold Mk Wi
 by_cases h0 : l.length = 0
 ·simp [h0]
 ·obtain ⟨x, h1, h2⟩ := I5 (l := l) (by omega) hn
  rw [h1, show (((l.length : Nat) : Int) == 0) = false by simp; intro h; rw [h] at h0; simp at h0]
  simp only [cond_false, jb, h2, Bool.false_or]
noncomputable def Se (d : Ub) : Bool :=
 Ci d.1 && (Af d.2.1 && (decide (0 ≤ d.2.2.2.1 ∧ d.2.2.2.1 ≤ 1000000) && (decide (0 ≤ d.2.2.2.2.1 ∧ d.2.2.2.2.1 ≤ d.2.2.2.1) && (Yd d.2.2.1 (Bu d.1.2.2.2.1) d.1.1.1 && (Wi d.2.2.1 d.2.2.2.1 &&
  (decide (0 ≤ d.2.2.2.2.2.1 ∧ d.2.2.2.2.2.1 ≤ d.1.1.1) && decide (0 ≤ d.2.2.2.2.2.2.1 ∧ d.2.2.2.2.2.2.1 ≤ d.2.2.2.1)))))))
theorem AF (d : Ub) : Ib We d = Ib Sc d.1 + Ib (.sl Co) d.2.2.1 := by
 simp only [Ib, Nat.add_zero, js]
theorem KA (l : List Na) : Ib (.sl Co) l = l.length := As (e := Co) rfl l
theorem CI {e : Lb} (h : Ci e = true) : Qe e.2.2.2.1 = true := by
 simp only [Ci, jd] at h
 exact h.2.2.1
theorem My (d : Ub) (hz : Ib We d ≤ Ja) : Qn d = some (Se d, ()) := by
 have hz' := hz
 rw [AF, KA] at hz'
 have hz2 := hz'
 rw [Gv, Av] at hz2
 unfold Qn Se
 rw [Ku _ (by omega)]
 cases he : Ci d.1 with
 | false => rfl
 | true =>
  have hh := Wu (CI he)
  simp only [jb, jg, cond_false, jk, Ny]
  cases Af d.2.1 with
  | false => rfl
  | true =>
   rw [Yz _ (by omega) hh]
   simp only [jb, jg, cond_false, jk]
   rw [Qy _ _ _ (by omega), Py _ _ (by omega)]
   simp only [jb]
   have key : ∀ a b c e f g h i j k : Bool, cond a (some (false, ())) (cond b (some (false, ())) (cond c (some (false, ())) (cond e (some (false, ())) (cond (!f) (some (false, ())) (cond (!g) (some (false, ())) (cond h (cond i (cond j (some (k, ())) (some (false, ()))) (some (false, ()))) (some (false, ())))))))) =
    some ((((!a && !b) && ((!c && !e) && (f && (g && ((h && i) && (j && k)))))), ()) : Bool × Unit) := by
    intro a b c e f g h i j k
    cases a <;> cases b <;> cases c <;> cases e <;> cases f <;> cases g <;> cases h <;> cases i <;> cases j <;> cases k <;> rfl
   erw [key]
   apply Hc
   simp only [jd, Bool.not_eq_true', decide_eq_true_eq, decide_eq_false_iff_not]
   constructor
   ·rintro ⟨⟨h1, h2⟩, ⟨h3, h4⟩, h5, h6, ⟨h7, h8⟩, h9, h10⟩
    exact ⟨⟨by omega, by omega⟩, ⟨by omega, by omega⟩, h5, h6, ⟨h7, h8⟩, h9, h10⟩
   ·rintro ⟨⟨h1, h2⟩, ⟨h3, h4⟩, h5, h6, ⟨h7, h8⟩, h9, h10⟩
    exact ⟨⟨by omega, by omega⟩, ⟨by omega, by omega⟩, h5, h6, ⟨h7, h8⟩, h9, h10⟩

def OF {S : Type} (g : Nat → S → S) : Nat → S → S
 | 0, s => s
 | n + 1, s => g n (OF g n s)
theorem XD {e : Ty} {c : Nat} : ∀ {w : List (T e)}, (∀ x ∈ w, Ib e x ≤ c) → Ib (.sl e) w ≤ (c + 1) * w.length
 | [], _ => by simp [Ib]
 | x :: r, h => by
  have h1 := h x (by simp)
  have h2 : Ib (.sl e) r ≤ (c + 1) * r.length := XD fun y hy => h y (by simp [hy])
  have h3 : Ib (.sl e) r = ja r + (List.map (Ib e) r).sum := rfl
  have h4 : Ib (.sl e) (x :: r) = (ja r + 1) + (Ib e x + (List.map (Ib e) r).sum) := by simp [Ib]
  rw [h4, jw, Nat.mul_add]
  omega
theorem Nd {n : Nat} (h : n ≤ 1073741824) : jx n Jb = true := ji h
theorem KL {α β : Type} (f : α → β) : ∀ (xs : List α) (k : Nat) (o : List β), Ic (fun _ o x => jf o [f x]) k o xs = o ++ xs.map f
 | [], _, o => by simp [Ic]
 | x :: r, k, o => by
  simp only [Ic]
  rw [KL f r]
  simp
theorem SF {X R α β : Type} {step : X → Option (X ⊕ R)} (xs : List α) (f : α → β) (I : List β → Int → X) (out : List β → R) (hn : xs.length ≤ 1073741824)
 (h : ∀ k (hk : k < xs.length) (o : List β), ja o = k → step (I o (k : Int)) = some (.inl (I (jf o [f xs[k]]) (j4 .i64 ((k : Int) + 1)))))
 (he : ∀ o : List β, step (I o (xs.length : Int)) = some (.inr (out o))) : Nb step (I [] 0) = some (out (xs.map f)) := by
 have := (Ui (step := step) xs (fun _ o x => jf o [f x]) I out (fun k o => ja o = k) (fun k hk o ho => ⟨h k hk o ho, by simp [ho]⟩) (fun o _ => he o) (by omega) [] rfl).1
 rw [this, KL]
 rfl
theorem Aag (a : List Int) : Ib (.sl int) a = a.length := As (e := int) rfl a
theorem QM (a : List Ka) : Ib (.sl Xb) a = a.length := As (e := Xb) rfl a
theorem QS (r : Ca) : Ib Tb r = r.2.1.length := by
 show 0 + (Ib (.sl int) r.2.1 + 0) = _
 rw [Aag]; omega
theorem Lu (l : List Int) (h : l.length ≤ Ja) : Ol l = some (l, ()) := by
 have h20 : Ja = 1048576 := rfl
 unfold Ol
 rw [Nd (by simp; omega)]
 rfl
theorem JF (r : Ca) (h : r.2.1.length ≤ Ja) : Mq r = some (r, ()) := by
 unfold Mq
 rw [Lu _ h]
 rfl
theorem A7 {a : List Mf} (hz : Ib (.sl Wh) a ≤ Ja) {k : Nat} (hk : k < a.length) : a[k].2.1.2.1.length ≤ Ja := by
 have h1 : Ib (.sl Wh) a = ja a + (List.map (Ib Wh) a).sum := rfl
 have h2 := Rs (f := Ib Wh) hk
 have h3 : Ib Wh a[k] = Ib Tb a[k].2.1 := by
  show 0 + (Ib Tb a[k].2.1 + 0) = _
  omega
 rw [QS] at h3
 omega
theorem YH (a : List Mf) (hz : Ib (.sl Wh) a ≤ Ja) : Es a = some (a.map (fun x => x.2.1), ()) := by
 have h20 : Ja = 1048576 := rfl
 have h1 : Ib (.sl Wh) a = ja a + (List.map (Ib Wh) a).sum := rfl
 have hl := SF (step := fun x : (List Ca × List Mf × Int × Int × Unit) × Unit => Wl x.1.1 x.1.2.1 x.1.2.2.1 x.1.2.2.2.1) a (fun x => x.2.1)
  (fun o k => ((o, a, (a.length : Int), k, ()), ())) (fun o => .inl ((o, ()), ())) (by omega) (fun k hk o ho => by
   simp only [Wl]
   rw [Ba (by omega), Dc hk]
   simp only [cond_true, jb]
   rw [JF _ (A7 hz hk)]
   simp only [jb]
   rw [Nd (by simp only [jw, j6]; omega)]
   rfl) (fun o => by
   simp only [Wl]
   rw [Aa (by omega)]
   rfl)
 unfold Es Rn
 erw [hl]
 rfl
def KC (l : List Int) (k : Nat) (x : Int) : Bool := decide (1 ≤ x ∧ x ≤ 56) && (decide (k = 0) || !decide (l.getD (k - 1) 0 ≥ x))
def Gk (r : Ca) : Bool := decide (0 ≤ r.1 ∧ r.1 ≤ 15) && Td (fun k x => KC r.2.1 k x) 0 r.2.1
theorem Q6 {l : List Int} {k : Nat} (h0 : 0 < k) (hk : k ≤ l.length) (hn : l.length ≤ Ja) : Wc l (j4 .i64 ((k : Int) - 1)) = some (l.getD (k - 1) 0) := by
 have h20 : Ja = 1048576 := rfl
 rw [Qd (by omega) (by omega), show (k : Int) - 1 = ((k - 1 : Nat) : Int) by omega, Dc (by omega)]
 simp [List.getD, je (show k - 1 < l.length by omega)]
theorem Wz (r : Ca) (hn : r.2.1.length ≤ Ja) : Ip r = some (Gk r, ()) := by
 have h20 : Ja = 1048576 := rfl
 have hl := Gh (step := fun x => En x.1.1 x.1.2.1 x.1.2.2.1 x.1.2.2.2.1 x.2.1) r.2.1 (fun k x => KC r.2.1 k x) (fun i => (((), r.2.1, ((ja r.2.1 : Nat) : Int), i, ()), (r, ())))
  (.inl ((), ())) (.inr ((false, ()), ())) (by
   intro k hk
   simp only [En]
   rw [Ba (show (k : Int) < ((ja r.2.1 : Nat) : Int) by omega), Dc hk]
   simp only [cond_true, jb, Pi, KC]
   by_cases h0 : k = 0
   ·subst h0
    rw [Aa (show ¬ ((0 : Nat) : Int) > 0 by omega)]
    simp only [cond_false]
    cases decide (1 ≤ r.2.1[0] ∧ r.2.1[0] ≤ 56) <;> rfl
   ·rw [Ba (show (k : Int) > 0 by omega), Q6 (by omega) (by omega) hn, Aa h0]
    simp only [cond_true, jb, Bool.false_or]
    cases decide (1 ≤ r.2.1[k] ∧ r.2.1[k] ≤ 56) <;> cases decide (r.2.1.getD (k - 1) 0 ≥ r.2.1[k]) <;> rfl) (by
   simp only [En]
   rw [Aa (by omega)]; rfl) (by omega)
 unfold Ip No Gk
 by_cases h1 : 0 ≤ r.1 ∧ r.1 ≤ 15
 ·rw [Aa (show ¬ r.1 < 0 by omega), Aa (show ¬ r.1 > 15 by omega), Ba h1]
  simp only [cond_false, jk]
  erw [hl]
  cases Td (fun k x => KC r.2.1 k x) 0 r.2.1 <;> rfl
 ·rw [Aa h1]
  by_cases h2 : r.1 < 0
  ·rw [Ba h2]; rfl
  ·rw [Aa h2, Ba (show r.1 > 15 by omega)]; rfl
theorem V2 : (2 : Nat) ^ 63 = 9223372036854775808 := rfl
theorem WB {a : Nat} (ha : a < 2 ^ 63) : (BitVec.ofInt 64 (a : Int)).toNat = a := by
 rw [BitVec.ofInt_natCast, BitVec.toNat_ofNat, Nat.mod_eq_of_lt (by omega)]
theorem G5 {a b : Nat} (ha : a < 2 ^ 63) (hb : b < 2 ^ 63) : Rg .i64 (a : Int) (b : Int) = ((a &&& b : Nat) : Int) := by
 have h : (BitVec.ofInt (IntKind.bits .i64) (a : Int) &&& BitVec.ofInt (IntKind.bits .i64) (b : Int)).toNat = a &&& b := by
  rw [BitVec.toNat_and]; erw [WB ha, WB hb]
 unfold Rg
 rw [h]
 have h2 : a &&& b ≤ a := Nat.and_le_left
 have h3 := V2
 exact Qd (by omega) (by omega)
theorem KH {a b : Nat} (ha : a < 2 ^ 63) (hb : b < 2 ^ 63) : Xe .i64 (a : Int) (b : Int) = ((a ||| b : Nat) : Int) := by
 have h : (BitVec.ofInt (IntKind.bits .i64) (a : Int) ||| BitVec.ofInt (IntKind.bits .i64) (b : Int)).toNat = a ||| b := by
  rw [BitVec.toNat_or]; erw [WB ha, WB hb]
 unfold Xe
 rw [h]
 have h2 : a ||| b < 2 ^ 63 := Nat.or_lt_two_pow ha hb
 have h3 := V2
 exact Qd (by omega) (by omega)
theorem U5 {a b : Nat} (ha : a < 2 ^ 63) (hb : b < 2 ^ 63) : Cj .i64 (a : Int) (b : Int) = ((a ^^^ b : Nat) : Int) := by
 have h : (BitVec.ofInt (IntKind.bits .i64) (a : Int) ^^^ BitVec.ofInt (IntKind.bits .i64) (b : Int)).toNat = a ^^^ b := by
  rw [BitVec.toNat_xor]; erw [WB ha, WB hb]
 unfold Cj
 rw [h]
 have h2 : a ^^^ b < 2 ^ 63 := qm ha hb
 have h3 := V2
 exact Qd (by omega) (by omega)
theorem S5 (a : Nat) {k : Nat} (hk : k ≤ 64) : BA .i64 (a : Int) (k : Int) = ((a >>> k : Nat) : Int) := by
 unfold BA
 have h1 : min (jy (k : Int)) (IntKind.bits .i64) = k := by
  show min (jy (k : Int)) 64 = k
  rw [jn]; omega
 rw [h1, Nat.shiftRight_eq_div_pow]
 have h2 : (2 : Int) ^ k = ((2 ^ k : Nat) : Int) := by simp
 rw [h2]
 exact (Int.fdiv_eq_ediv_of_nonneg _ (Int.natCast_nonneg _)).trans (by simp)
theorem R5 {a k : Nat} (h : a * 2 ^ k < 2 ^ 63) (hk : k ≤ 64) : Ce .i64 (a : Int) (k : Int) = ((a <<< k : Nat) : Int) := by
 unfold Ce
 have h1 : min (jy (k : Int)) (IntKind.bits .i64) = k := by
  show min (jy (k : Int)) 64 = k
  rw [jn]; omega
 have h2 : (2 : Int) ^ k = ((2 ^ k : Nat) : Int) := by simp
 have h4 : (a : Int) * ((2 ^ k : Nat) : Int) = ((a * 2 ^ k : Nat) : Int) := by simp
 rw [h1, Nat.shiftLeft_eq, h2, h4]
 have h3 := V2
 generalize a * 2 ^ k = z at *
 exact Qd (by omega) (by omega)
theorem AJ {a k : Nat} (ha : a < 2 ^ 63) (hk : k ≤ 64) : (Kl (a : Int) (k : Int) == 1) = a.testBit k := by
 unfold Kl
 have h1 : a >>> k ≤ a := by rw [Nat.shiftRight_eq_div_pow]; exact Nat.div_le_self _ _
 have h3 := V2
 rw [S5 a hk]
 show (Rg .i64 ((a >>> k : Nat) : Int) ((1 : Nat) : Int) == 1) = _
 rw [G5 (by omega) (by omega), Nat.and_one_is_mod, Nat.testBit_eq_decide_div_mod_eq, Nat.shiftRight_eq_div_pow]
 have : a / 2 ^ k % 2 = 0 ∨ a / 2 ^ k % 2 = 1 := by omega
 rcases this with h | h <;> rw [h] <;> rfl
theorem Px {k : Nat} (hk : k ≤ 62) : (2 : Nat) ^ k < 2 ^ 63 := Nat.pow_lt_pow_right (by omega) (by omega)
def cnt : Nat → Nat → Nat
 | 0, _ => 0
 | k + 1, n => n % 2 + cnt k (n / 2)
def u1 (a : Nat) : Nat := ((a / 2) &&& 85) + (a &&& 85)
def u2 (a : Nat) : Nat := ((a / 4) &&& 51) + (a &&& 51)
theorem m3 : ∀ a : Fin 64, ∀ c : Fin 4, (a.val &&& 51) = (a.val + 64 * c.val) &&& 51 := by decide +kernel
def M5 : Nat := 6148914691236517205
def M3 : Nat := 3689348814741910323
def MF : Nat := 1085102592571150095
def s1 (n : Nat) : Nat := (n / 2 &&& M5) + (n &&& M5)
def s2 (n : Nat) : Nat := (n / 4 &&& M3) + (n &&& M3)
def s3 (n : Nat) : Nat := (n / 16 + n) &&& MF
def NF (m : RG) : Bool := decide (1 ≤ m.1 ∧ m.1 ≤ 4 ∧ 1 ≤ m.2.1 ∧ m.2.1 ≤ 6)
def YA (m : RG) : Int := cond (NF m) (m.1 * m.2.1) 0
def Hz (k x : Int) : Bool := decide (0 ≤ x ∧ x < ((2 ^ k.toNat : Nat) : Int))
def MH (m : RG) (x : Int) : Bool := NF m && Hz (YA m) x
def Yai (l : List Int) : Bool := Td (fun _ x => decide ((0 : Int) ≤ x ∧ x ≤ 99)) 0 l
def LF (d : Ry) : Bool :=
 decide (0 ≤ d.1 ∧ d.1 ≤ 2) && (decide (1 ≤ d.2.1 ∧ d.2.1 ≤ 20) && (decide (1 ≤ d.2.2.1 ∧ d.2.2.1 ≤ 24) && ((((ja d.2.2.2.2.2.1 : Nat) : Int) == d.2.2.1) && (Hz d.2.2.1 d.2.2.2.1 && (Hz d.2.2.1 d.2.2.2.2.1 && Yai d.2.2.2.2.2.1)))))
def X4 (L : List Ab) (i : Nat) (x : Ab) : Bool :=
 decide (0 ≤ x.1 ∧ x.1 ≤ 16777215) && (decide (24 ≤ x.2.1 ∧ x.2.1 ≤ 31) && (decide (2 ≤ ((cnt 32 x.1.toNat : Nat) : Int) ∧ ((cnt 32 x.1.toNat : Nat) : Int) ≤ 4) && Td (fun _ (y : Ab) => !(y.1 == x.1) && !(y.2.1 == x.2.1)) 0 (L.take i)))
def TT (L : List Ab) : Bool := decide (L.length ≤ 8) && Td (fun i x => X4 L i x) 0 L
def Iag : Ab := (0, 0, ())
def E0 (L : List Ab) (o : Int) : Option Ab := L.find? (fun c => c.2.1 == o)
def okA (K : Int) (x : Na) : Bool := !decide (x.2.1 ≤ 0) && (!(Gj .i64 x.2.1 K != 0) && !(x.2.2.1 != (x.2.1 == K)))
def Nao (L : List Ab) (o : Int) : Int := ((E0 L o).getD Iag).1
def okF (L : List Ab) (x : Na) : Bool := (E0 L x.1).isSome && okA (Nao L x.1) x
def Paf (pre : List Na) (x : Na) : Bool := Td (fun _ (y : Na) => !(y.1 == x.1)) 0 pre
def SZ (L : List Ab) : List Na → List Na → Bool
 | _, [] => true
 | pre, x :: r => (okF L x && Paf pre x) && SZ L (pre ++ [x]) r
def P9 (c : Rl) : Bool := SZ c.1 [] c.2.2.2.2.2.2.1
def swG (s : Int) (x : Na) : Int ⊕ Unit := cond (Rg .i64 s x.2.1 != 0) (.inr ()) (.inl (Xe .i64 s x.2.1))
def swB (c : Rl) : Bool := FE (Bc (fun _ s x => swG s x) 0 c.2.2.2.2.2.1 c.2.2.2.2.2.2.1)
def orK (k : Nat) (s : Int) (l : List Na) : Int := Ic (fun _ s (x : Na) => Xe .i64 s x.2.1) k s l
def X8 (c : Rl) : Int := orK 0 c.2.2.2.2.2.1 c.2.2.2.2.2.2.1
def JI (c : Rl) : Bool :=
 TT c.1 && (decide (1 ≤ c.2.1 ∧ c.2.1 ≤ 200) && (decide (0 ≤ c.2.2.2.1 ∧ c.2.2.2.1 ≤ 1000000) && (decide (0 ≤ c.2.2.2.2.1 ∧ c.2.2.2.2.1 ≤ c.2.2.2.1) && ((decide (0 ≤ c.2.2.2.2.2.1 ∧ c.2.2.2.2.2.1 ≤ 16777215) && (P9 c && swB c)) &&
  (Yd c.2.2.1 (X8 c) 24 && Wi c.2.2.1 c.2.2.2.1)))))
structure ZV (c : Rl) : Prop where
 a : c.1.length ≤ Ja
 q : c.2.2.1.length ≤ Ja
 e : c.2.2.2.2.2.2.1.length ≤ Ja
 r : ∀ x ∈ c.2.2.2.2.2.2.1, x.2.1 ≤ 9223372036854775807
def tgG (s : Int) (x : Na) : Int := Cj .i64 s (Ce .i64 1 x.2.1)
def tgI (d : Int) (q : List Na) : Int := Ic (fun _ s x => tgG s x) 0 d q
theorem E5 {q : List Na} {d keys : Int} (h : Yd q d keys = true) : FE (Bc (fun _ s x => Er s x) 0 (0, d) q) = true := by
 simp only [Yd, Up, WX, jd] at h
 have h2 := h.2
 cases hf : Bc (fun _ s x => Er s x) 0 (0, d) q with
 | inl s => rfl
 | inr u => rw [hf] at h2; cases hd : decide (q.length ≤ 64) <;> rw [hd] at h2 <;> simp at h2
structure Zar (x : Na) : Prop where
 lo : 0 ≤ x.1
 hi : x.1 ≤ 31
 left : 0 ≤ x.2.1
def gvG (s : Int) (x : Na) : Int := cond x.2.2.1 (Xe .i64 s (Ce .i64 1 x.1)) s
def gvI (c : Rl) : Int := Ic (fun _ s x => gvG s x) 0 c.2.2.2.2.2.1 c.2.2.2.2.2.2.1
def K5 (m : RG) (keys : Int) (L : List Ab) : Bool := Td (fun _ (x : Ab) => MH m x.1 && !decide (x.2.1 ≥ keys)) 0 L
noncomputable def P5 (b : SK) : Bool :=
 NF b.1 && (LF b.2.1 && (JI b.2.2.1 && (Se b.2.2.2.1 && ((b.2.1.2.2.1 == YA b.1) && (!decide (b.2.2.2.1.1.1.1 < YA b.1) && (MH b.1 b.2.2.2.2.1 &&
  (K5 b.1 b.2.2.2.1.1.1.1 b.2.2.1.1 && (decide (0 ≤ b.2.2.2.2.2.1 ∧ b.2.2.2.2.2.1 ≤ 1000000) && (!decide (b.2.2.1.2.2.2.1 > b.2.2.2.2.2.1) && (!decide (b.2.2.2.1.2.2.2.1 > b.2.2.2.2.2.1) &&
  ((tgI (X8 b.2.2.1) b.2.2.1.2.2.1 == b.2.1.2.2.2.1) && (tgI (Bu b.2.2.2.1.1.2.2.2.1) b.2.2.2.1.2.2.1 == gvI b.2.2.1))))))))))))
structure K9 (b : SK) : Prop where
 d : b.2.1.2.2.2.2.2.1.length ≤ Ja
 c : ZV b.2.2.1
 x : Ib We b.2.2.2.1 ≤ Ja
theorem W5 {m : Ha} (hz : Ib Pa m ≤ Ja) : ja m.2.1 ≤ Ja ∧ ∀ k (hk : k < m.2.1.length), m.2.1[k].length ≤ Ja := by
 have h0 : Ib Pa m = 0 + (Ib (.sl (.sl Xb)) m.2.1 + 0) := rfl
 have h1 : Ib (.sl (.sl Xb)) m.2.1 = ja m.2.1 + (List.map (Ib (.sl Xb)) m.2.1).sum := rfl
 refine ⟨by omega, fun k hk => ?_⟩
 have h2 := Rs (f := Ib (.sl Xb)) hk
 rw [QM] at h2
 omega
theorem Lr (m : Ha) (hz : Ib Pa m ≤ Ja) : Bm m = some (m, ()) := by
 have h20 : Ja = 1048576 := rfl
 obtain ⟨h1, h2⟩ := W5 hz
 have hl := SF (step := fun x : (Unit × Unit × List (List Ka) × Int × Int × Unit) × Ha × Ha × Unit => Dl x.1.1 x.1.2.1 x.1.2.2.1 x.1.2.2.2.1 x.1.2.2.2.2.1 x.2.1 x.2.2.1) m.2.1 (fun x => x)
  (fun o k => (((), (), m.2.1, (m.2.1.length : Int), k, ()), ((0, [], ()), (m.1, o, ()), ()))) (fun o => .inl (((), (), ()), ((0, [], ()), (m.1, o, ()), ()))) (by omega) (fun k hk o ho => by
   have := h2 k hk
   simp only [Dl]
   rw [Ba (by omega), Dc hk]
   simp only [cond_true, jb]
   rw [Nd (by simp; omega), Nd (by simp only [jw, j6]; omega)]
   rfl) (fun o => by
   simp only [Dl]
   rw [Aa (by omega)]
   rfl)
 unfold Bm Pm
 erw [hl]
 rw [List.map_id']
 rfl
theorem H3 {L : List (List Yb)} (hz : Ib (.sl (.sl Tc)) L ≤ Ja) : ja L ≤ Ja ∧ ∀ k (hk : k < L.length), L[k].length ≤ Ja := by
 have h1 : Ib (.sl (.sl Tc)) L = ja L + (List.map (Ib (.sl Tc)) L).sum := rfl
 refine ⟨by omega, fun k hk => ?_⟩
 have h2 := Rs (f := Ib (.sl Tc)) hk
 rw [VV] at h2
 omega
theorem Mr (L : List (List Yb)) (hz : Ib (.sl (.sl Tc)) L ≤ Ja) : Cm L = some (L, ()) := by
 have h20 : Ja = 1048576 := rfl
 obtain ⟨h1, h2⟩ := H3 hz
 have hl := SF (step := fun x => Fl x.1.1 x.1.2.1 x.1.2.2.1 x.1.2.2.2.1) L (fun x => x)
  (fun o k => ((o, L, ((ja L : Nat) : Int), k, ()), ())) (fun o => .inl ((o, ()), ())) (by omega) (fun k hk o ho => by
   have := h2 k hk
   simp only [Fl]
   rw [Ba (by omega), Dc hk]
   simp only [cond_true, jb]
   rw [Nd (by simp; omega), Nd (by simp only [jw, j6]; omega)]
   rfl) (fun o => by
   simp only [Fl]
   rw [Aa (by omega)]
   rfl)
 unfold Cm Qm
 erw [hl]
 rw [List.map_id']
 rfl
theorem Am (e : Lb) (hz : Ib Sc e ≤ Ja) : Sh e = some (e, ()) := by
 have h20 : Ja = 1048576 := rfl
 rw [Gv, Av] at hz
 unfold Sh
 rw [Lr _ (by omega), Mr _ (by omega), Nd (by simp; omega)]
 rfl
theorem NE (d : Ub) (hz : Ib We d ≤ Ja) : Wk d = some (d, ()) := by
 have h20 : Ja = 1048576 := rfl
 rw [AF, KA] at hz
 unfold Wk
 rw [Am _ (by omega), Nd (by simp; omega)]
 rfl
theorem L5 : ∀ (a b : List Int), a.length = b.length → Td (fun k x => b.getD k 0 == x) 0 a = (b == a)
 | a, b, h => by
  rw [qt, Br, beq_iff_eq]
  constructor
  ·intro hj
   apply List.ext_getElem h.symm
   intro i h1 h2
   have := hj i h2
   rw [js, beq_iff_eq, qg, je h1] at this
   exact this
  ·rintro rfl i hi
   rw [js, beq_iff_eq, qg, je hi]; rfl
theorem VJ (a b : List Int) (hn : a.length ≤ Jb) : Zt a b = some (a == b, ()) := by
 have hlim := Uh
 unfold Zt
 by_cases h : a.length = b.length
 ·have hl := Gh (step := fun x => Jn x.1.1 x.1.2.1 x.1.2.2.1 x.1.2.2.2.1) a (fun k x => b.getD k 0 == x) (fun i => ((a, b, ((ja a : Nat) : Int), i, ()), ()))
   (.inl ((), ())) (.inr ((false, ()), ())) (by
    intro k hk
    simp only [Jn]
    rw [Ba (show (k : Int) < ((ja a : Nat) : Int) by omega), Dc hk, Dc (show k < b.length by omega), qg, je (show k < b.length by omega)]
    simp only [cond_true, jb, Option.getD_some, bne]
    rw [show (a[k] == b[k]) = (b[k] == a[k]) by rw [qt, beq_iff_eq, beq_iff_eq]; exact eq_comm]
    cases b[k] == a[k] <;> rfl) (by
    simp only [Jn]
    rw [Aa (by omega)]; rfl) (by omega)
  have e : (((ja a : Nat) : Int) != ((ja b : Nat) : Int)) = false := by simp [h]
  rw [e]
  simp only [cond_false]
  unfold Vo
  erw [hl]
  rw [L5 a b h, show (b == a) = (a == b) by rw [qt, beq_iff_eq, beq_iff_eq]; exact eq_comm]
  cases a == b <;> rfl
 ·have e : (((ja a : Nat) : Int) != ((ja b : Nat) : Int)) = true := by simp; omega
  have e2 : (a == b) = false := by rw [beq_eq_false_iff_ne]; intro hh; exact h (by rw [hh])
  rw [e, e2]; rfl
theorem X6 (a b : T Ye) (h1 : ja a.2.1 ≤ Jb) (_ : ja b.2.1 ≤ Jb) : (fun x : T (.p Ye (.p Ye .u)) => Xl x.1 x.2.1) (a, b, ()) = some (Ji a b, ()) := by
 show Xl a b = _
 unfold Xl
 rw [VJ _ _ h1]
 simp only [jb, Ji]
 cases (show Int from a.1) == (show Int from b.1) <;> rfl
theorem C0 (c : T Jd → T Jd → Option Bool) (l : List (T Jd)) (hl : ja l ≤ Jb) : ∀ (ys : List (T Jd)) (k : Nat) (out q : List (T Jd)) (a : T Jd), l.drop k = ys → k ≤ ja l → ja out + ja ys ≤ Jb →
 ED c a ys = some q → Tp c (((), out, l, ((ja l : Nat) : Int), (k : Int), ()), (a, ())) = some (.inl ((jf out q, ()), ())) := by
 have hlim := Uh
 intro ys
 induction ys with
 | nil =>
  intro k out q a hd hk _ hq
  have := FJ hd hk
  subst this
  simp only [ED, jc] at hq
  subst hq
  have hs : Cw c () out l ((ja l : Nat) : Int) ((ja l : Nat) : Int) a = some (.inr (.inl ((out, ()), ()))) := by
   unfold Cw
   rw [Aa (by omega)]; rfl
  unfold Tp
  rw [Pb hs]
  simp
 | cons y ys ih =>
  intro k out q a hd hk hlen hq
  obtain ⟨hk', hy, hd'⟩ := BF hd
  simp only [ED] at hq
  cases hc : c a y with
  | none => rw [hc] at hq; simp at hq
  | some b =>
   rw [hc] at hq
   simp only [jb] at hq
   cases hq2 : ED c y ys with
   | none => rw [hq2] at hq; simp at hq
   | some q2 =>
    rw [hq2] at hq
    simp only [jb, jc] at hq
    have hlc : ja (y :: ys) = ja ys + 1 := rfl
    have hs : Cw c () out l ((ja l : Nat) : Int) (k : Int) a = some (.inl (((), cond b out (jf out [y]), l, ((ja l : Nat) : Int), ((k + 1 : Nat) : Int), ()), (y, ()))) := by
     unfold Cw K8
     rw [Ba (show (k : Int) < ((ja l : Nat) : Int) by omega), Dc hk', hy]
     simp only [cond_true, jb, hc]
     rw [Vd (by omega)]
     cases b with
     | true => rfl
     | false =>
      rw [show jx (ja out + ja ([y] : List (Int × ((T .o) × Unit)))) Jb = true from ji (by simp only [jw, j6]; omega)]
      rfl
    unfold Tp
    rw [Pb hs]
    simp only [jb, qh]
    have := ih (k + 1) (cond b out (jf out [y])) q2 y hd' hk' (by cases b with
     | true => simp only [cond_true]; omega
     | false => simp only [cond_false, List.append_eq, qc, jw, j6]; omega) hq2
    unfold Tp at this
    rw [this, ← hq]
    cases b with
    | true => rfl
    | false => simp
theorem S9 (c : T Jd → T Jd → Option Bool) : ∀ (a : T Jd) (l r : List (T Jd)), ja l ≤ Jb → ED c a l = some r → (fun x : T (.p Jd (.p (.sl Jd) .u)) => NX c x.1 x.2.1) (a, l, ()) = some (r, ()) := by
 intro a l r hl hq
 show NX c a l = _
 unfold NX
 have := C0 c l hl l 0 [] r a rfl (Nat.zero_le _) (by simpa using hl) hq
 erw [this]
 rfl
theorem CP : ∀ {a b : List Int}, a.Pairwise (· < ·) → b.Pairwise (· < ·) → (∀ x, x ∈ a ↔ x ∈ b) → a = b
 | [], [], _, _, _ => rfl
 | [], y :: b, _, _, h => by have := (h y).2 (by simp); simp at this
 | x :: a, [], _, _, h => by have := (h x).1 (by simp); simp at this
 | x :: a, y :: b, ha, hb, h => by
  rw [List.pairwise_cons] at ha hb
  have hxy : x = y := by
   rcases jp.1 ((h x).1 (by simp)) with h1 | h1
   ·exact h1
   ·rcases jp.1 ((h y).2 (by simp)) with h2 | h2
    ·exact h2.symm
    ·have := hb.1 x h1; have := ha.1 y h2; omega
  subst hxy
  congr 1
  refine CP ha.2 hb.2 fun z => ⟨fun hz => ?_, fun hz => ?_⟩
  ·rcases jp.1 ((h z).1 (by simp [hz])) with h1 | h1
   ·have := ha.1 z hz; omega
   ·exact h1
  ·rcases jp.1 ((h z).2 (by simp [hz])) with h1 | h1
   ·have := hb.1 z hz; omega
   ·exact h1
def DE (o : List Int) (x : Int) : List Int := cond ((x != 0) && !o.any (fun y => y == x)) (jf o [x]) o
def XQ (k : Nat) (o l : List Int) : List Int := Ic (fun _ o x => DE o x) k o l
theorem H0 : ∀ (l : List Int) (k : Nat) (o : List Int) (y : Int), y ∈ XQ k o l ↔ y ∈ o ∨ (y ∈ l ∧ y ≠ 0)
 | [], _, o, y => by simp [XQ, Ic]
 | x :: l, k, o, y => by
  have := H0 l (k + 1) (DE o x) y
  simp only [XQ, Ic] at this ⊢
  rw [this]
  unfold DE
  by_cases h0 : x = 0
  ·subst h0
   simp only [bne_self_eq_false, qk, cond_false, jp]
   constructor
   ·rintro (h | ⟨h1, h2⟩)
    ·exact .inl h
    ·exact .inr ⟨.inr h1, h2⟩
   ·rintro (h | ⟨h1 | h1, h2⟩)
    ·exact .inl h
    ·exact absurd h1 h2
    ·exact .inr ⟨h1, h2⟩
  ·by_cases h1 : o.any (fun y => y == x) = true
   ·rw [h1]
    simp only [jg, Bool.and_false, cond_false, jp]
    have hx : x ∈ o := by
     obtain ⟨z, hz, e⟩ := List.any_eq_true.1 h1
     rw [beq_iff_eq] at e; rw [← e]; exact hz
    constructor
    ·rintro (h | ⟨h1, h2⟩)
     ·exact .inl h
     ·exact .inr ⟨.inr h1, h2⟩
    ·rintro (h | ⟨h1 | h1, h2⟩)
     ·exact .inl h
     ·exact .inl (h1 ▸ hx)
     ·exact .inr ⟨h1, h2⟩
   ·have e : ((x != 0) && !o.any (fun y => y == x)) = true := by
     simp only [j8] at h1
     rw [h1]; simp [h0]
    rw [e]
    simp only [cond_true, List.append_eq, jl, jp, List.not_mem_nil, or_false]
    constructor
    ·rintro ((h | h) | ⟨h1, h2⟩)
     ·exact .inl h
     ·exact .inr ⟨.inl h, by rw [h]; exact h0⟩
     ·exact .inr ⟨.inr h1, h2⟩
    ·rintro (h | ⟨h1 | h1, h2⟩)
     ·exact .inl (.inl h)
     ·exact .inl (.inr h1)
     ·exact .inr ⟨h1, h2⟩
theorem BO : ∀ (l : List Int) (k : Nat) (o : List Int), o.Pairwise (· < ·) → l.Pairwise (· ≤ ·) → (∀ y ∈ o, ∀ x ∈ l, y ≤ x) → (XQ k o l).Pairwise (· < ·)
 | [], _, o, ho, _, _ => by simpa [XQ, Ic] using ho
 | x :: l, k, o, ho, hl, h => by
  rw [List.pairwise_cons] at hl
  have key : (DE o x).Pairwise (· < ·) ∧ ∀ y ∈ DE o x, ∀ z ∈ l, y ≤ z := by
   unfold DE
   cases hc : (x != 0) && !o.any (fun y => y == x) with
   | false => exact ⟨ho, fun y hy z hz => h y hy z (by simp [hz])⟩
   | true =>
    simp only [jd, Bool.not_eq_true', List.any_eq_false, beq_iff_eq] at hc
    simp only [cond_true, List.append_eq]
    refine ⟨?_, ?_⟩
    ·rw [List.pairwise_append]
     refine ⟨ho, by simp, fun y hy z hz => ?_⟩
     simp only [jp, List.not_mem_nil, or_false] at hz
     subst hz
     have h1 := h y hy z (by simp)
     have h2 := hc.2 y hy
     omega
    ·intro y hy z hz
     rcases jl.1 hy with hy | hy
     ·exact h y hy z (by simp [hz])
     ·simp only [jp, List.not_mem_nil, or_false] at hy
      subst hy
      exact hl.1 z hz
  have := BO l (k + 1) (DE o x) key.1 hl.2 key.2
  simpa [XQ, Ic] using this
def Ph (l : List Ma) : Nat → List Int
 | 0 => []
 | n + 1 => cond (l.any fun h => h.2.1.2.1 == ((n + 1 : Nat) : Int)) (Ph l n ++ [((n + 1 : Nat) : Int)]) (Ph l n)
theorem Fv (l : List Ma) : ∀ (n : Nat) (x : Int), x ∈ Ph l n ↔ (1 ≤ x ∧ x ≤ (n : Int)) ∧ ∃ h ∈ l, h.2.1.2.1 = x
 | 0, x => by simp [Ph]; intro h1 h2; omega
 | n + 1, x => by
  simp only [Ph]
  cases hc : (l.any fun h => h.2.1.2.1 == ((n + 1 : Nat) : Int)) with
  | true =>
   simp only [cond_true, jl, Fv l n x, jp, List.not_mem_nil, or_false]
   obtain ⟨h, hh, e⟩ := List.any_eq_true.1 hc
   rw [beq_iff_eq] at e
   constructor
   ·rintro (⟨h1, h2⟩ | rfl)
    ·exact ⟨by omega, h2⟩
    ·exact ⟨by omega, h, hh, e⟩
   ·rintro ⟨h1, h2⟩
    by_cases hx : x = ((n + 1 : Nat) : Int)
    ·exact .inr hx
    ·exact .inl ⟨by omega, h2⟩
  | false =>
   simp only [cond_false, Fv l n x]
   rw [List.any_eq_false] at hc
   constructor
   ·rintro ⟨h1, h2⟩; exact ⟨by omega, h2⟩
   ·rintro ⟨h1, h, hh, e⟩
    refine ⟨?_, h, hh, e⟩
    have := hc h hh
    rw [beq_iff_eq] at this
    omega
theorem Yx (l : List Ma) : ∀ n, (Ph l n).Pairwise (· < ·)
 | 0 => by simp [Ph]
 | n + 1 => by
  simp only [Ph]
  cases (l.any fun h => h.2.1.2.1 == ((n + 1 : Nat) : Int)) with
  | true =>
   simp only [cond_true]
   rw [List.pairwise_append]
   refine ⟨Yx l n, by simp, fun y hy z hz => ?_⟩
   simp only [jp, List.not_mem_nil, or_false] at hz
   have := (Fv l n y).1 hy
   omega
  | false => exact Yx l n
theorem EL (l : List Ma) : ∀ n, (Ph l n).length ≤ n
 | 0 => by simp [Ph]
 | n + 1 => by
  have := EL l n
  simp only [Ph]
  cases (l.any fun h => h.2.1.2.1 == ((n + 1 : Nat) : Int)) <;> simp <;> omega
def Caj (l : List Ma) : Int := Ic (fun _ s (h : Ma) => cond (h.2.1.1 == 2 || h.2.1.1 == 8) (Xe .i64 s h.2.1.2.2.1) s) 0 0 l
def Hb (l : List Ma) : Ca := (Caj l, Ph l 56, ())
theorem IB {a : Ka} (h : Ac a = true) : 0 ≤ a.2.1 ∧ a.2.1 ≤ 56 := by
 rw [Db] at h
 unfold Zb at h
 omega
theorem EC (l : List Int) (x : Int) (hn : l.length ≤ Jb) : Kt l x = some (l.any (fun y => y == x), ()) := by
 have hlim := Uh
 have hl := Gh (step := fun y => Oq y.1.1 y.1.2.1 y.1.2.2.1 y.1.2.2.2.1) l (fun _ y => !(y == x)) (fun i => ((x, l, ((ja l : Nat) : Int), i, ()), ()))
  (.inl ((), ())) (.inr ((true, ()), ())) (by
   intro k hk
   simp only [Oq]
   rw [Ba (show (k : Int) < ((ja l : Nat) : Int) by omega), Dc hk]
   simp only [cond_true, jb]
   cases l[k] == x <;> rfl) (by
   simp only [Oq]
   rw [Aa (by omega)]; rfl) (by omega)
 unfold Kt Pr
 erw [hl]
 have : ∀ (l : List Int) (k : Nat), Td (fun _ y => !(y == x)) k l = !l.any (fun y => y == x) := by
  intro l
  induction l with
  | nil => intro k; rfl
  | cons y l ih => intro k; simp only [Td, List.any_cons, ih, Bool.not_or]
 rw [this]
 cases l.any (fun y => y == x) <;> rfl
theorem UA (l : List Ma) (hn : l.length ≤ Ja) (hx : ∀ h ∈ l, 0 ≤ h.2.1.2.1 ∧ h.2.1.2.1 ≤ 56) : Un (l.map fun h => h.2.1.2.1) = some (Ph l 56, ()) := by
 have h20 : Ja = 1048576 := rfl
 have hlim := Uh
 generalize hcs : (l.map fun h => h.2.1.2.1) = cs
 have hcl : cs.length = l.length := by rw [← hcs]; simp
 unfold Un
 rw [Lu _ (by omega)]
 simp only [jb, sort_Ints, G9]
 rw [show jx (ja cs) Jb = true from ji (by omega)]
 simp only [cond_true, jb]
 generalize hss : (List.mergeSort cs fun x y => decide (x ≤ y)) = ss
 have hsl : ss.length = cs.length := by rw [← hss]; exact List.length_mergeSort _
 have hsm : ∀ x, x ∈ ss ↔ x ∈ cs := fun x => by rw [← hss]; exact List.mem_mergeSort
 have hsp : ss.Pairwise (· ≤ ·) := by
  rw [← hss]
  have := List.pairwise_mergeSort (le := fun x y : Int => decide (x ≤ y)) (by intro a b c; simp; omega) (by intro a b; simp; omega) cs
  exact this.imp (by intro a b h; simpa using h)
 have hl := (Ui (step := fun x => To x.1.1 x.1.2.1 x.1.2.2.1 x.1.2.2.2.1) ss (fun _ o x => DE o x) (fun o i => ((o, ss, ((ja ss : Nat) : Int), i, ()), ())) (fun o => .inl ((o, ()), ())) (fun k o => o.length ≤ k) (by
  intro k hk o ho
  have hd : (DE o ss[k]).length ≤ k + 1 := by
   unfold DE
   cases (ss[k] != 0) && !o.any (fun y => y == ss[k]) <;> simp <;> omega
  refine ⟨?_, hd⟩
  simp only [To]
  rw [Ba (show (k : Int) < ((ja ss : Nat) : Int) by omega), show Bj (ja ss) (k : Int) = true by rw [Vu]; exact Ba hk, jn, je hk]
  simp only [cond_true, jb]
  rw [EC _ _ (by omega), show jx (ja o + ja ([ss[k]] : List Int)) Jb = true from ji (by simp only [jw, j6]; omega)]
  simp only [jb, DE]
  cases ss[k] != 0 <;> cases o.any (fun y => y == ss[k]) <;> rfl)
  (by
   intro o _
   simp only [To]
   rw [Aa (by omega)]; rfl) (by omega) [] (jo _)).1
 unfold Dq
 erw [hl]
 simp only [jb, qh]
 congr 2
 refine CP (BO ss 0 [] (by simp) hsp (by simp)) (Yx l 56) fun x => ?_
 rw [show Ic (fun _ o x => DE o x) 0 [] ss = XQ 0 [] ss from rfl, H0, Fv, hsm, ← hcs]
 simp only [List.not_mem_nil, false_or, qq]
 constructor
 ·rintro ⟨⟨h, hh, rfl⟩, h0⟩
  have := hx h hh
  exact ⟨by omega, h, hh, rfl⟩
 ·rintro ⟨h1, h, hh, rfl⟩
  exact ⟨⟨h, hh, rfl⟩, by omega⟩
theorem Qo (l : List Ma) (hn : l.length ≤ Ja) (hv : Qe l = true) : Pc l = some (Hb l, ()) := by
 have h20 : Ja = 1048576 := rfl
 have hlim := Uh
 have hh := Wu hv
 have hl := (Ui (step := fun x => Gn x.1.1 x.1.2.1 x.1.2.2.1 x.1.2.2.2.1 x.1.2.2.2.2.1 x.1.2.2.2.2.2.1 x.2.1 x.2.2.1) l
  (fun _ (s : Int × List Int) (h : Ma) => (cond (h.2.1.1 == 2 || h.2.1.1 == 8) (Xe .i64 s.1 h.2.1.2.2.1) s.1, jf s.2 [h.2.1.2.1])) (fun s i => (((), (), s.2, l, ((ja l : Nat) : Int), i, ()), (((0 : Int), ([] : List Int), ()), (s.1, ([] : List Int), ()), ())))
  (fun s => .inl (((), (), s.2, ()), (((0 : Int), ([] : List Int), ()), (s.1, ([] : List Int), ()), ()))) (fun k s => s.2.length = k) (by
   intro k hk s hs
   refine ⟨?_, by simp [hs]⟩
   simp only [Gn]
   rw [Ba (show (k : Int) < ((ja l : Nat) : Int) by omega), Dc hk]
   simp only [cond_true, jb]
   rw [show jx (ja s.2 + ja ([l[k].2.1.2.1] : List Int)) Jb = true from ji (by simp only [jw, j6]; omega)]
   cases l[k].2.1.1 == 2 <;> cases l[k].2.1.1 == 8 <;> rfl)
  (by
   intro s _
   simp only [Gn]
   rw [Aa (by omega)]; rfl) (by omega) (0, []) rfl).1
 have key : ∀ (l : List Ma) (k : Nat) (s : Int × List Int), Ic (fun _ (s : Int × List Int) (h : Ma) => (cond (h.2.1.1 == 2 || h.2.1.1 == 8) (Xe .i64 s.1 h.2.1.2.2.1) s.1, jf s.2 [h.2.1.2.1])) k s l =
  (Ic (fun _ s (h : Ma) => cond (h.2.1.1 == 2 || h.2.1.1 == 8) (Xe .i64 s h.2.1.2.2.1) s) k s.1 l, s.2 ++ l.map fun h => h.2.1.2.1) := by
  intro l
  induction l with
  | nil => intro k s; simp [Ic]
  | cons x l ih => intro k s; simp only [Ic]; rw [ih]; simp
 unfold Pc Po
 rw [Ds _ hn, hv]
 simp only [jb, jg, cond_false]
 erw [hl]
 rw [key]
 simp only [jb, qh, List.nil_append]
 rw [UA l hn (fun h hm => IB (hh h hm).act)]
 rfl
def Iz (c : Int) : Bool := decide (1 ≤ c ∧ c ≤ 36) || ((c == 39) || (c == 42))
theorem GF (c : Int) : Jq c = some (Iz c, ()) := by
 unfold Jq Iz
 by_cases h1 : c ≥ 1
 ·by_cases h2 : c ≤ 36
  ·rw [Ba h1, Ba h2, Ba (show 1 ≤ c ∧ c ≤ 36 by omega)]; rfl
  ·rw [Ba h1, Aa h2, Aa (show ¬ (1 ≤ c ∧ c ≤ 36) by omega)]
   cases c == 39 <;> rfl
 ·rw [Aa h1, Aa (show ¬ (1 ≤ c ∧ c ≤ 36) by omega)]
  cases c == 39 <;> rfl
def Nw (f o : Int) (c : Bool) (a : Ka) : Int × Int × Bool × Ka :=
 cond (a.1 == 2) (cond (a.2.1 == 0) (f, o, c, a) (f, 0, c && Iz a.2.1, a.1, a.2.1, cond ((c && Iz a.2.1) && (decide (a.2.1 ≤ 26) && (Gj .i64 (Xe .i64 a.2.2.1 o) 2 == 0))) 2 (Xe .i64 a.2.2.1 o), a.2.2.2))
  (cond (a.1 == 4) (Cj .i64 f (Ce .i64 1 a.2.2.2.1), o, c, a) (cond (a.1 == 5) (Gj .i64 (Ce .i64 1 a.2.2.2.1) 1, o, c, a)
   (cond (a.1 == 8) (f, cond (Rg .i64 o a.2.2.1 == a.2.2.1) (Gj .i64 o a.2.2.1) (Xe .i64 o a.2.2.1), c, a) (cond (a.1 == 10) (f, o, !c, a) (f, o, c, a)))))
theorem VC {a : Ka} (h : Ac a = true) : 0 ≤ a.2.2.2.1 := by
 rw [Db] at h
 unfold Zb at h
 omega
theorem IC (m : Ha) (M : List (List Yb)) (f o : Int) (h : List Ma) (c : Bool) (a : Ka) (ha : Ac a = true) :
 Tm (m, M, f, h, o, c, ()) a = some ((m, M, (Nw f o c a).1, h, (Nw f o c a).2.1, (Nw f o c a).2.2.1, ()), (Nw f o c a).2.2.2, ()) := by
 have hn := VC ha
 unfold Tm Nw
 rw [Ba hn]
 cases a.1 == 2 with
 | true =>
  cases a.2.1 == 0 with
  | true => rfl
  | false =>
   simp only [cond_true, cond_false, GF, jb]
   cases c with
   | false => rfl
   | true =>
    cases Iz a.2.1 with
    | false => rfl
    | true => cases decide (a.2.1 ≤ 26) <;> cases Gj .i64 (Xe .i64 a.2.2.1 o) 2 == 0 <;> rfl
 | false =>
  cases a.1 == 4 with
  | true => rfl
  | false =>
   cases a.1 == 5 with
   | true => rfl
   | false =>
    cases a.1 == 8 with
    | true => cases Rg .i64 o a.2.2.1 == a.2.2.1 <;> rfl
    | false => cases a.1 == 10 <;> rfl
theorem X9 : ∀ f : Fin 16, ∀ n : Fin 4, ∀ l : Fin 5, 1 ≤ n.val → n.val < l.val → f.val < 2 ^ l.val → f.val % 2 = 0 →
 0 ≤ Cj .i64 (f.val : Int) (Ce .i64 1 (n.val : Int)) ∧ Cj .i64 (f.val : Int) (Ce .i64 1 (n.val : Int)) < ((2 ^ l.val : Nat) : Int) ∧ (Cj .i64 (f.val : Int) (Ce .i64 1 (n.val : Int))).tmod 2 = 0 := by decide +kernel
theorem Vab : ∀ n : Fin 4, ∀ l : Fin 5, n.val < l.val →
 0 ≤ Gj .i64 (Ce .i64 1 (n.val : Int)) 1 ∧ Gj .i64 (Ce .i64 1 (n.val : Int)) 1 < ((2 ^ l.val : Nat) : Int) ∧ (Gj .i64 (Ce .i64 1 (n.val : Int)) 1).tmod 2 = 0 := by decide +kernel
theorem HV : ∀ o m : Fin 16, (0 ≤ Gj .i64 (o.val : Int) (m.val : Int) ∧ Gj .i64 (o.val : Int) (m.val : Int) ≤ 15) ∧ (0 ≤ Xe .i64 (o.val : Int) (m.val : Int) ∧ Xe .i64 (o.val : Int) (m.val : Int) ≤ 15) := by decide +kernel
structure VI (nl : Nat) (f o : Int) : Prop where
 f0 : 0 ≤ f
 f1 : f < ((2 ^ nl : Nat) : Int)
 f2 : f.tmod 2 = 0
 o0 : 0 ≤ o
 o1 : o ≤ 15
structure UI (nl : Nat) (a : Ka) : Prop where
 act : Ac a = true
 n1 : a.1 ≠ 1
 n6 : a.1 ≠ 6
 n7 : a.1 ≠ 7
 n : a.1 ≠ 9 → a.2.2.2.1 < (nl : Int)
theorem Vaf {a b : Int} (ha : 0 ≤ a ∧ a ≤ 15) (hb : 0 ≤ b ∧ b ≤ 15) : 0 ≤ Xe .i64 a b ∧ Xe .i64 a b ≤ 15 := by
 obtain ⟨n, rfl⟩ := jv ha.1
 obtain ⟨m, rfl⟩ := jv hb.1
 exact (HV ⟨n, by omega⟩ ⟨m, by omega⟩).2
theorem Sad {a b : Int} (ha : 0 ≤ a ∧ a ≤ 15) (hb : 0 ≤ b ∧ b ≤ 15) : 0 ≤ Gj .i64 a b ∧ Gj .i64 a b ≤ 15 := by
 obtain ⟨n, rfl⟩ := jv ha.1
 obtain ⟨m, rfl⟩ := jv hb.1
 exact (HV ⟨n, by omega⟩ ⟨m, by omega⟩).1
theorem Waf {nl : Nat} (h : nl ≤ 4) : 2 ^ nl ≤ 16 := Nat.pow_le_pow_right (n := 2) (by omega) h
theorem Zaf {nl : Nat} (hnl : nl ≤ 4) {f o : Int} {c : Bool} {a : Ka} (hs : VI nl f o) (ha : UI nl a) :
 VI nl (Nw f o c a).1 (Nw f o c a).2.1 ∧ UI nl (Nw f o c a).2.2.2 := by
 have hP := ha.act
 rw [Db] at hP
 unfold Zb at hP
 have h16 := Waf hnl
 obtain ⟨k, code, mods, n, u⟩ := a
 have hn1 := ha.n1; have hn6 := ha.n6; have hn7 := ha.n7; have hnn := ha.n
 simp only at hP hn1 hn6 hn7 hnn
 have hf1 := hs.f1
 unfold Nw
 simp only
 by_cases h2 : k = 2
 ·subst h2
  by_cases h0 : code = 0
  ·subst h0; exact ⟨hs, ha⟩
  ·rw [show ((2 : Int) == 2) = true from rfl, show (code == 0) = false by simp [h0]]
   simp only [cond_true, cond_false]
   refine ⟨⟨hs.f0, hs.f1, hs.f2, by decide, by decide⟩, ?_⟩
   have hm := Vaf (a := mods) (b := o) (by omega) ⟨hs.o0, hs.o1⟩
   refine ⟨?_, hn1, hn6, hn7, hnn⟩
   have hn0 : n = 0 := by omega
   have hcd : 1 ≤ code ∧ code ≤ 56 := by omega
   rw [Db]
   cases ((c && Iz code) && (decide (code ≤ 26) && (Gj .i64 (Xe .i64 mods o) 2 == 0))) with
   | true => exact .inr (.inl ⟨rfl, hn0, .inr hcd, .inr ⟨by show (1 : Int) ≤ 2; decide, by show (2 : Int) ≤ 15; decide⟩, .inl (by show code ≠ 0; omega)⟩)
   | false =>
    refine .inr (.inl ⟨rfl, hn0, .inr hcd, ?_, .inl (by show code ≠ 0; omega)⟩)
    show Xe .i64 mods o = 0 ∨ 1 ≤ Xe .i64 mods o ∧ Xe .i64 mods o ≤ 15
    omega
 ·rw [show (k == 2) = false by simp [h2]]
  simp only [cond_false]
  by_cases h4 : k = 4
  ·subst h4
   have hr : 1 ≤ n ∧ n ≤ 3 := by omega
   have hlt := hnn (by omega)
   obtain ⟨fn, hfn⟩ := jv hs.f0
   obtain ⟨nn, hnn'⟩ := jv (show 0 ≤ n by omega)
   have hf2 := hs.f2
   rw [hfn] at hf1 hf2
   have hfl : fn < 2 ^ nl := Int.ofNat_lt.1 hf1
   have := X9 ⟨fn, by omega⟩ ⟨nn, by omega⟩ ⟨nl, by omega⟩ (by show 1 ≤ nn; omega) (by show nn < nl; omega) hfl (by
    rw [Int.tmod_eq_emod_of_nonneg (by omega)] at hf2; show fn % 2 = 0; omega)
   simp only [show ((4 : Int) == 4) = true from rfl, cond_true]
   rw [hfn, hnn']
   exact ⟨⟨this.1, this.2.1, this.2.2, hs.o0, hs.o1⟩, by rw [← hnn']; exact ha⟩
  ·rw [show (k == 4) = false by simp [h4]]
   simp only [cond_false]
   by_cases h5 : k = 5
   ·subst h5
    have hr : 0 ≤ n ∧ n ≤ 3 := by omega
    have hlt := hnn (by omega)
    obtain ⟨nn, hnn'⟩ := jv (show 0 ≤ n by omega)
    have := Vab ⟨nn, by omega⟩ ⟨nl, by omega⟩ (by show nn < nl; omega)
    simp only [show ((5 : Int) == 5) = true from rfl, cond_true]
    rw [hnn']
    exact ⟨⟨this.1, this.2.1, this.2.2, hs.o0, hs.o1⟩, by rw [← hnn']; exact ha⟩
   ·rw [show (k == 5) = false by simp [h5]]
    simp only [cond_false]
    by_cases h8 : k = 8
    ·subst h8
     have hm : 0 ≤ mods ∧ mods ≤ 15 := by omega
     simp only [show ((8 : Int) == 8) = true from rfl, cond_true]
     cases Rg .i64 o mods == mods with
     | true => have := Sad ⟨hs.o0, hs.o1⟩ hm; exact ⟨⟨hs.f0, hs.f1, hs.f2, this.1, this.2⟩, ha⟩
     | false => have := Vaf ⟨hs.o0, hs.o1⟩ hm; exact ⟨⟨hs.f0, hs.f1, hs.f2, this.1, this.2⟩, ha⟩
    ·rw [show (k == 8) = false by simp [h8]]
     simp only [cond_false]
     cases k == 10 <;> exact ⟨hs, ha⟩
theorem K2 {m : Ha} (hm : Qk m) (on : Int) {k : Nat} (hk : (k : Int) < m.1) : Li m.2.1.length (Uf m on k) (Wf m.2.1 (Uf m on k) k) = true ∧ (Wf m.2.1 (Uf m on k) k).1 ≠ 1 := by
 have hl := QF hm on k
 have hrow := hm.row _ hl
 have hk' : k < m.2.1[Uf m on k].length := by omega
 have hact := hm.act _ hl k hk'
 rw [Mz hl hk']
 refine ⟨hact, ?_⟩
 have key : ∀ n, Xf m.2.1 on k n = 0 ∨ (Wf m.2.1 (Xf m.2.1 on k n) k).1 ≠ 1 := by
  intro n
  induction n with
  | zero => exact .inl rfl
  | succ n ih =>
   simp only [Xf]
   cases hc : ((Kl on ((n + 1 : Nat) : Int) == 1) && ((Wf m.2.1 (n + 1) k).1 != 1)) with
   | true =>
    simp only [jd, bne_iff_ne] at hc
    exact .inr hc.2
   | false => exact ih
 rcases key (m.2.1.length - 1) with h0 | h1
 ·have h0' : Uf m on k = 0 := h0
  intro h1
  simp only [Li, jd, Bool.not_eq_true', Bool.and_eq_false_iff, beq_eq_false_iff_ne] at hact
  rcases hact.1.2 with h2 | h2
  ·exact h2 (by rw [h0']; rfl)
  ·exact h2 h1
 ·have e : Wf m.2.1 (Xf m.2.1 on k (m.2.1.length - 1)) k = m.2.1[Uf m on k][k] := Mz hl hk'
  rw [e] at h1
  exact h1
theorem Uab {nl i : Nat} {a : Ka} (h : Li nl i a = true) (h1 : a.1 ≠ 1) : UI nl (Rf a) := by
 have ha := DA h
 have hP := ha
 rw [Db] at hP
 unfold Zb at hP
 unfold Rf Fd
 rw [ha]
 by_cases h67 : a.1 = 6 ∨ a.1 = 7
 ·have e : (true && ((a.1 == 6) || (a.1 == 7))) = true := by rcases h67 with h | h <;> rw [h] <;> rfl
  rw [e]
  simp only [cond_true]
  refine ⟨?_, by show (2 : Int) ≠ 1; decide, by show (2 : Int) ≠ 6; decide, by show (2 : Int) ≠ 7; decide, fun _ => ?_⟩
  ·rw [Db]
   exact .inr (.inl ⟨rfl, rfl, .inr (by show 1 ≤ a.2.1 ∧ a.2.1 ≤ 56; omega), .inl rfl, .inl (by show a.2.1 ≠ 0; omega)⟩)
  ·show (0 : Int) < (nl : Int)
   have := OH h (by omega)
   omega
 ·have e : (true && ((a.1 == 6) || (a.1 == 7))) = false := by
   rw [jk, Bool.or_eq_false_iff, beq_eq_false_iff_ne, beq_eq_false_iff_ne]; omega
  rw [e]
  exact ⟨ha, h1, fun h => h67 (.inl h), fun h => h67 (.inr h), fun hk => OH h hk⟩
def Dd (m : Ha) (f o : Int) (c : Bool) (h : List Ma) : Lb := (m, [], f, h, o, c, ())
theorem TX {m : Ha} (hv : Eb m = true) {f o : Int} (hs : VI m.2.1.length f o) (c : Bool) {h : List Ma} (hh : Qe h = true) (hi : ∀ x ∈ h, Nn m.1 m.2.1.length x = true) : Ci (Dd m f o c h) = true := by
 have hk := Bf hv
 have e1 : Td (fun _ x => Nn m.1 m.2.1.length x) 0 h = true := Br.2 fun j hj => hi _ (qn hj)
 show (Eb m && (decide (([] : List (List Yb)).length ≤ 4) && (Qe h && (true && (Td (fun _ x => Nn m.1 m.2.1.length x) 0 h &&
  (decide (0 ≤ f ∧ f < ((2 ^ m.2.1.length : Nat) : Int)) && ((Int.tmod f 2 == 0) && decide (0 ≤ o ∧ o ≤ 15)))))))) = true
 rw [hv, hh, e1, Ba (⟨hs.f0, hs.f1⟩ : 0 ≤ f ∧ f < ((2 ^ m.2.1.length : Nat) : Int)), Ba (⟨hs.o0, hs.o1⟩ : 0 ≤ o ∧ o ≤ 15), hs.f2]
 rfl
theorem WM (m : Ha) (f o : Int) (c : Bool) (h : List Ma) : Ib Sc (Dd m f o c h) = Ib Pa m + h.length := by
 rw [Gv, Av]
 have : Ib (.sl (.sl Tc)) (Dd m f o c h).2.1 = 0 := rfl
 rw [this, js]; rfl
theorem Aae {nl : Nat} (h4 : nl ≤ 4) {f o : Int} (hs : VI nl f o) : 0 ≤ f ∧ f ≤ 15 := by
 have := Waf h4
 have h1 := hs.f1
 have h0 := hs.f0
 omega
theorem BN (e : Lb) (k : Int) (hn : e.2.2.2.1.length ≤ Ja) : Zw e k = some (Gc (fun h => h.1 == k) 0 e.2.2.2.1, ()) := by
 have h20 : Ja = 1048576 := rfl
 have hl := LI (step := fun x => Hq x.1.1 x.1.2.1 x.1.2.2.1 x.1.2.2.2.1) e.2.2.2.1 (fun h => h.1 == k) (fun i => ((k, e.2.2.2.1, ((ja e.2.2.2.1 : Nat) : Int), i, ()), ())) (.inl ((), ())) (fun i => .inr ((i, ()), ()))
  (by
   intro j hj
   simp only [Hq]
   rw [Ba (show (j : Int) < ((ja e.2.2.2.1 : Nat) : Int) by omega), Dc hj]
   simp only [cond_true, jb]
   cases e.2.2.2.1[j].1 == k <;> rfl) (by
   simp only [Hq]
   rw [Aa (by omega)]; rfl) (by omega)
 unfold Zw Hr
 erw [hl]
 simp only [jb]
 by_cases hc : Gc (fun h : Ma => h.1 == k) 0 e.2.2.2.1 = -1
 ·rw [if_pos hc, hc]; rfl
 ·rw [if_neg hc]; rfl
theorem RA (a : Ca) (l : List Ca) (hn : l.length ≤ Ja) (ha : a.2.1.length ≤ Ja) (hx : ∀ x ∈ l, x.2.1.length ≤ Ja) : Md a l = some (Kj Ji a l, ()) := by
 have h20 : Ja = 1048576 := rfl
 have hlim := Uh
 unfold Md MX
 have e : (jx (ja l) Jb && (IA a && l.all IA)) = true := by
  rw [jd, jd, List.all_eq_true]
  refine ⟨ji (by omega), ji (by show ja a.2.1 ≤ _; omega), fun x hm => ji ?_⟩
  have := hx x hm
  show ja x.2.1 ≤ _
  omega
 rw [e]; rfl
theorem BJ : ∀ (l : List Ca) (a : Ca), (Kj Ji a l).length ≤ l.length
 | [], _ => by simp [Kj]
 | x :: l, a => by
  have := BJ l x
  simp only [Kj]
  cases Ji a x <;> simp <;> omega
theorem Az (l : List Ma) : (Hb l).2.1.length ≤ 56 := EL l 56
theorem DD : ∀ (l : List Ca) (a x : Ca), x ∈ Kj Ji a l → x ∈ l
 | [], _, x, h => by simp [Kj] at h
 | y :: l, a, x, h => by
  simp only [Kj] at h
  cases hs : Ji a y with
  | true => rw [hs] at h; exact jr _ (DD l y x h)
  | false =>
   rw [hs] at h
   rcases jp.1 h with h | h
   ·exact h ▸ qu ..
   ·exact jr _ (DD l y x h)
noncomputable def Iao (m : Ha) (f : Int) (k : Nat) : Ka := Rf (Wf m.2.1 (Uf m (Xe .i64 1 f) k) k)
noncomputable def stK (m : Ha) (f o : Int) (c : Bool) (k : Nat) : Int × Int × Bool × Ka := Nw f o c (Iao m f k)
noncomputable def hK (m : Ha) (f o : Int) (c : Bool) (k : Nat) : List Ma := [((k : Int), (stK m f o c k).2.2.2, ())]
structure I8 (m : Ha) : Prop where
 v : Eb m = true
 z : Ib Pa m ≤ Ja - 10
theorem z20 {m : Ha} (hM : I8 m) (f o : Int) (c : Bool) (h : List Ma) (hh : h.length ≤ 1) : Ib Sc (Dd m f o c h) ≤ Ja := by
 have h20 : Ja = 1048576 := rfl
 have := hM.z
 rw [WM]; omega
theorem SH (l : List Ma) : (Hb l).2.1.length ≤ Ja := by
 have h20 : Ja = 1048576 := rfl
 have := Az l
 omega
theorem Aaj : Qe [] = true := rfl
theorem XL {m : Ha} (hv : Eb m = true) : I8 m := by
 have hm := Bf hv
 refine ⟨hv, ?_⟩
 have h20 : Ja = 1048576 := rfl
 have h1 : Ib Pa m = 0 + (Ib (.sl (.sl Xb)) m.2.1 + 0) := rfl
 have h2 : Ib (.sl (.sl Xb)) m.2.1 ≤ (32 + 1) * ja m.2.1 := XD (e := .sl Xb) (c := 32) fun x hx => by
  obtain ⟨i, hi, rfl⟩ := qp hx
  rw [QM]
  have := hm.row i hi
  have := hm.k2
  omega
 have := hm.l2
 omega
abbrev St := (Int × Int × Bool) × List Ca
structure Has (m : Ha) (k : Nat) (s : St) : Prop where
 st : VI m.2.1.length s.1.1 s.1.2.1
 len : s.2.length ≤ 2 * k
 rep : ∀ x ∈ s.2, x.2.1.length ≤ 56
def Ov (p : Int → Bool) : Nat → List Int
 | 0 => []
 | n + 1 => cond (p ((n + 1 : Nat) : Int)) (Ov p n ++ [((n + 1 : Nat) : Int)]) (Ov p n)
theorem QO (p : Int → Bool) : ∀ n, (Ov p n).length ≤ n
 | 0 => by simp [Ov]
 | n + 1 => by
  have := QO p n
  simp only [Ov]
  cases p ((n + 1 : Nat) : Int) <;> simp <;> omega
theorem XE (l : List Ma) : ∀ n, Ph l n = Ov (fun c => l.any fun h => h.2.1.2.1 == c) n
 | 0 => rfl
 | n + 1 => by simp only [Ph, Ov, XE l n]
theorem SJ (cs : List Int) (hn : cs.length ≤ Ja) (hx : ∀ c ∈ cs, 0 ≤ c ∧ c ≤ 56) : Un cs = some (Ov (fun c => cs.any (fun y => y == c)) 56, ()) := by
 have := UA (cs.map fun c => ((0, (0, c, 0, 0, ()), ()) : Ma)) (by simpa using hn) (fun h hh => by
  obtain ⟨c, hc, rfl⟩ := qq.1 hh
  exact hx c hc)
 rw [List.map_map] at this
 have e : List.map ((fun h : Ma => h.2.1.2.1) ∘ fun c => ((0, (0, c, 0, 0, ()), ()) : Ma)) cs = cs := by
  rw [show ((fun h : Ma => h.2.1.2.1) ∘ fun c => ((0, (0, c, 0, 0, ()), ()) : Ma)) = id from rfl, List.map_id]
 rw [e] at this
 rw [this, XE]
 congr 3
 funext c
 rw [List.any_map]
 rfl
def C9 (s : Int) (D : List Ab) : Int := Ic (fun _ s (p : Ab) => Xe .i64 s p.2.1) 0 s D
def YD (b : Ca) (D : List Ab) : Ca := (C9 b.1 D, Ov (fun c => b.2.1.any (fun y => y == c) || D.any (fun p => p.1 == c)) 56, ())
theorem ZH (b : Ca) (D : List Ab) (hb : b.2.1.length ≤ 56) (hD : D.length ≤ 1000) (hbx : ∀ c ∈ b.2.1, 0 ≤ c ∧ c ≤ 56) (hDx : ∀ p ∈ D, 0 ≤ p.1 ∧ p.1 ≤ 56) :
 Ge b D = some (YD b D, ()) := by
 have h20 : Ja = 1048576 := rfl
 have hl := (Ui (step := fun x => Fm x.1.1 x.1.2.1 x.1.2.2.1 x.1.2.2.2.1 x.1.2.2.2.2.1 x.1.2.2.2.2.2.1 x.2.1 x.2.2.1) D
  (fun _ (s : Int × List Int) (p : Ab) => (Xe .i64 s.1 p.2.1, jf s.2 [p.1])) (fun s i => (((), (), s.2, D, ((ja D : Nat) : Int), i, ()), (((0 : Int), ([] : List Int), ()), (s.1, ([] : List Int), ()), ())))
  (fun s => .inl (((), (), s.2, ()), (((0 : Int), ([] : List Int), ()), (s.1, ([] : List Int), ()), ()))) (fun k s => s.2.length = b.2.1.length + k) (by
   intro k hk s hs
   refine ⟨?_, by simp [hs]; omega⟩
   simp only [Fm]
   rw [Ba (show (k : Int) < ((ja D : Nat) : Int) by omega), Dc hk]
   simp only [cond_true, jb]
   rw [show jx (ja s.2 + ja ([D[k].1] : List Int)) Jb = true from ji (by simp only [jw, j6, Uh]; omega)]
   rfl)
  (by
   intro s _
   simp only [Fm]
   rw [Aa (by omega)]; rfl) (by omega) (b.1, b.2.1) (by simp)).1
 have key : ∀ (D : List Ab) (k : Nat) (s : Int × List Int), Ic (fun _ (s : Int × List Int) (p : Ab) => (Xe .i64 s.1 p.2.1, jf s.2 [p.1])) k s D =
  (Ic (fun _ s (p : Ab) => Xe .i64 s p.2.1) k s.1 D, s.2 ++ D.map fun p => p.1) := by
  intro D
  induction D with
  | nil => intro k s; simp [Ic]
  | cons x D ih => intro k s; simp only [Ic]; rw [ih]; simp
 unfold Ge Yn
 rw [Lu _ (by omega)]
 simp only [jb]
 erw [hl]
 rw [key]
 simp only [jb, qh]
 rw [SJ _ (by simp; omega) (fun c hc => by
  rcases jl.1 hc with h | h
  ·exact hbx c h
  ·obtain ⟨p, hp, rfl⟩ := qq.1 h
   exact hDx p hp)]
 simp only [jb, YD, C9]
 congr 4
 apply congrArg (fun p => Ov p 56)
 funext c
 rw [List.any_append, List.any_map]
 rfl

noncomputable def rM (L : List Ma) (x : Yb) : Int := Gc (Mt x.2.1 x.2.2.1) 0 L
noncomputable def FM (b : Ca) (L : List Ma) (x : Yb) : List Ca :=
 cond (x.1 == 0) [YD b ((jf L [Jv x]).map Zc), YD b (L.map Zc)] [YD b ((NB x L (rM L x)).map Zc)]
noncomputable def mG (b : Ca) (s : List Ca × List Ma) (x : Yb) : List Ca × List Ma := (jf s.1 (FM b s.2 x), NB x s.2 (rM s.2 x))
noncomputable def TF (b : Ca) (l : List Yb) : List Ca := (Ic (fun _ s x => mG b s x) 0 ([], []) l).1
structure XW (l : List Yb) (k : Nat) (s : List Ca × List Ma) : Prop where
 ok : ∃ L', Bc (fun _ L x => Pv L x) k s.2 (l.drop k) = .inl L'
 len : s.2.length ≤ k
 out : s.1.length ≤ 2 * k
 cod : ∀ h ∈ s.2, 0 ≤ h.2.1.2.1 ∧ h.2.1.2.1 ≤ 56
theorem O5 {l : List Yb} {k : Nat} (hk : k < l.length) {b : Ca} {s : List Ca × List Ma} (hi : XW l k s) : Qs l[k] (rM s.2 l[k]) = true ∧ XW l (k + 1) (mG b s l[k]) := by
 obtain ⟨L', hL⟩ := hi.ok
 rw [List.drop_eq_getElem_cons hk] at hL
 simp only [Bc] at hL
 unfold rM
 cases hc : Qs l[k] (Gc (Mt l[k].2.1 l[k].2.2.1) 0 s.2) with
 | false =>
  have : Pv s.2 l[k] = .inr () := by unfold Pv; rw [hc]; rfl
  rw [this] at hL; simp at hL
 | true =>
  have hm : Pv s.2 l[k] = .inl (NB l[k] s.2 (rM s.2 l[k])) := by unfold Pv rM; rw [hc]; rfl
  rw [hm] at hL
  refine ⟨rfl, ⟨L', hL⟩, ?_, ?_, ?_⟩
  ·have := BV hm
   have := hi.len
   show (NB l[k] s.2 (rM s.2 l[k])).length ≤ k + 1
   omega
  ·have := hi.out
   show (jf s.1 (FM b s.2 l[k])).length ≤ _
   unfold FM
   cases l[k].1 == 0 <;> simp <;> omega
  ·have hcode : 0 ≤ l[k].2.1 ∧ l[k].2.1 ≤ 56 := by
    simp only [Qs, jd] at hc
    exact IB hc.1
   intro h hh
   have hh' : h ∈ NB l[k] s.2 (rM s.2 l[k]) := hh
   unfold NB at hh'
   cases h1 : l[k].1 == 1 with
   | true =>
    rw [h1] at hh'
    rcases jl.1 (show h ∈ s.2 ++ [Jv l[k]] from hh') with hh' | hh'
    ·exact hi.cod h hh'
    ·simp only [jp, List.not_mem_nil, or_false] at hh'
     rw [hh']; exact hcode
   | false =>
    rw [h1] at hh'
    cases h2 : l[k].1 == 2 with
    | true =>
     rw [h2] at hh'
     have hsub : h ∈ s.2 := by
      have hw : h ∈ Zh s.2 (rM s.2 l[k]).toNat := hh'
      unfold Zh Xa at hw
      rcases jl.1 (show h ∈ _ ++ _ from hw) with hw | hw
      ·exact List.mem_of_mem_take (qo hw)
      ·exact List.mem_of_mem_take (qo hw)
     exact hi.cod h hsub
    | false => rw [h2] at hh'; exact hi.cod h hh'
theorem C6 {x : Yb} {r : Int} (h : Qs x r = true) : (x.1 = 0 ∧ r < 0) ∨ (x.1 = 1 ∧ r < 0) ∨ (x.1 = 2 ∧ r ≥ 0) := by
 simp only [Qs, jd, Bool.or_eq_true, beq_iff_eq, Bool.not_eq_true', decide_eq_false_iff_not, decide_eq_true_eq] at h
 omega
theorem Ga {n m : Nat} (h : n ≤ 1000) (hm : m ≤ 10) : jx (n + m) Jb = true := ji (by rw [Uh]; omega)
theorem T6 (a : List Ma) : ∀ c ∈ (Hb a).2.1, 0 ≤ c ∧ c ≤ 56 := by
 intro c hc
 have := (Fv a 56 c).1 hc
 omega
theorem KD (a : List Ma) (l : List Yb) (hn : a.length ≤ Ja) (ha : Qe a = true) (hm : Eh l = true) : Yh a l = some (TF (Hb a) l, ()) := by
 have h20 : Ja = 1048576 := rfl
 have hm' := hm
 simp only [Eh, jd, decide_eq_true_eq, X5] at hm'
 have h0 : XW l 0 ([], []) := ⟨by
  rw [List.drop_zero]
  cases hf : Bc (fun _ L x => Pv L x) 0 [] l with
  | inl L => exact ⟨L, rfl⟩
  | inr u => rw [hf] at hm'; simp at hm', jo _, jo _, by simp⟩
 have hl := (Ui (step := fun x => Ij x.1.1 x.1.2.1 x.1.2.2.1 x.1.2.2.2.1 x.1.2.2.2.2.1 x.1.2.2.2.2.2.1 x.2.1) l (fun _ s x => mG (Hb a) s x) (fun s i => (((), s.1, s.2.map Zc, l, ((ja l : Nat) : Int), i, ()), (Hb a, ()))) (fun s => .inl ((s.1, ()), ())) (XW l) (by
  intro k hk s hi
  obtain ⟨hok, hi'⟩ := O5 (b := Hb a) hk hi
  refine ⟨?_, hi'⟩
  have hlen := hi.len
  have hout := hi.out
  have hl8 := hm'.1
  have hcode : 0 ≤ l[k].2.1 ∧ l[k].2.1 ≤ 56 := by
   simp only [Qs, jd] at hok
   exact IB hok.1
  simp only [Ij]
  rw [Ba (show (k : Int) < ((ja l : Nat) : Int) by omega), Dc hk]
  simp only [cond_true, jb]
  generalize hx : l[k] = x at *
  have hW : ∀ L : List Ma, L.length ≤ 1000 → (∀ h ∈ L, 0 ≤ h.2.1.2.1 ∧ h.2.1.2.1 ≤ 56) → Ge (Hb a) (L.map Zc) = some (YD (Hb a) (L.map Zc), ()) := fun L h1 h2 =>
   ZH _ _ (Az a) (by simpa using h1) (T6 a) (fun p hp => by
    obtain ⟨h, hh, rfl⟩ := qq.1 hp
    exact h2 h hh)
  have hcs : ∀ h ∈ jf s.2 [Jv x], 0 ≤ h.2.1.2.1 ∧ h.2.1.2.1 ≤ 56 := by
   intro h hh
   rcases jl.1 (show h ∈ s.2 ++ [Jv x] from hh) with hh | hh
   ·exact hi.cod h hh
   ·simp only [jp, List.not_mem_nil, or_false] at hh
    rw [hh]; exact hcode
  have happ : jf (s.2.map Zc) ([(x.2.1, x.2.2.1, ())] : List Ab) = (jf s.2 [Jv x]).map Zc := by
   show _ ++ _ = List.map Zc (_ ++ _)
   rw [List.map_append]; rfl
  have happ2 : jf (jf ([] : List Ab) (s.2.map Zc)) ([(x.2.1, x.2.2.1, ())] : List Ab) = (jf s.2 [Jv x]).map Zc := happ
  have hR1 := hW (jf s.2 [Jv x]) (by simp; omega) hcs
  have hR0 := hW s.2 (by omega) hi.cod
  have b1 : jx (ja (s.2.map Zc) + ja ([(x.2.1, x.2.2.1, ())] : List Ab)) Jb = true := Ga (by simp; omega) (by simp)
  have b0 : jx (ja ([] : List Ab) + ja (s.2.map Zc)) Jb = true := ji (by simp [Uh]; omega)
  unfold mG FM NB
  rcases C6 hok with ⟨h0, hr⟩ | ⟨h1, hr⟩ | ⟨h2, hr⟩
  ·rw [h0, b0]
   simp only [show ((0 : Int) == 0) = true from rfl, show ((0 : Int) == 1) = false from rfl, show ((0 : Int) == 2) = false from rfl, cond_true, cond_false]
   show cond (jx (ja (s.2.map Zc) + ja ([(x.2.1, x.2.2.1, ())] : List Ab)) Jb) _ _ = _
   rw [b1, happ2]
   simp only [cond_true]
   show jz (Ge (Hb a) _) _ = _
   rw [hR1]
   simp only [jb]
   rw [show ∀ r : Ca, jx (ja s.1 + ja ([r] : List Ca)) Jb = true from fun r => Ga (by omega) (by simp)]
   simp only [cond_true]
   show jz (Ge (Hb a) _) _ = _
   rw [hR0]
   simp only [jb]
   rw [show ∀ r r' : Ca, jx (ja (jf s.1 [r]) + ja ([r'] : List Ca)) Jb = true from fun r r' => Ga (by simp; omega) (by simp)]
   simp
  ·rw [h1, b1, happ]
   simp only [show ((1 : Int) == 0) = false from rfl, show ((1 : Int) == 1) = true from rfl, cond_true, cond_false]
   show jz (Ge (Hb a) _) _ = _
   rw [hR1]
   simp only [jb]
   rw [show ∀ r : Ca, jx (ja s.1 + ja ([r] : List Ca)) Jb = true from fun r => Ga (by omega) (by simp)]
   rfl
  ·rw [h2]
   simp only [show ((2 : Int) == 0) = false from rfl, show ((2 : Int) == 1) = false from rfl, show ((2 : Int) == 2) = true from rfl, cond_true, cond_false]
   rcases Mx (Mt x.2.1 x.2.2.1) s.2 0 with h | ⟨j, hj, h⟩
   ·unfold rM at hr; omega
   ·rw [js] at h
    rw [HC (s.2.map Zc) _ (by simp; omega), CM, h]
    simp only [jb]
    have hj' : j < (s.2.map Zc).length := by simpa using hj
    have hc := ZN hj'
    have e1 : jx (ja (Xa (s.2.map Zc) (jy 0) (jy (j : Int))) + ja (Xa (s.2.map Zc) (jy ((j + 1 : Nat) : Int)) (jy ((ja (s.2.map Zc) : Nat) : Int)))) Jb = true :=
     ji (by simp [Xa]; rw [Uh]; omega)
    have e2 : jf (Xa (s.2.map Zc) (jy 0) (jy (j : Int))) (Xa (s.2.map Zc) (jy ((j + 1 : Nat) : Int)) (jy ((ja (s.2.map Zc) : Nat) : Int))) = (Zh s.2 j).map Zc := by
     rw [← SI]
     simp [Zh]
    have hsub : ∀ h ∈ Zh s.2 j, 0 ≤ h.2.1.2.1 ∧ h.2.1.2.1 ≤ 56 := by
     intro h hw
     unfold Zh Xa at hw
     rcases jl.1 (show h ∈ _ ++ _ from hw) with hw | hw
     ·exact hi.cod h (List.mem_of_mem_take (qo hw))
     ·exact hi.cod h (List.mem_of_mem_take (qo hw))
    rw [Vd (k := j) (by omega), hc.1, hc.2, e1, e2]
    simp only [cond_true]
    show jz (Ge (Hb a) _) _ = _
    rw [hW (Zh s.2 j) (by rw [LT hj]; omega) hsub]
    simp only [jb]
    rw [show ∀ r : Ca, jx (ja s.1 + ja ([r] : List Ca)) Jb = true from fun r => Ga (by omega) (by simp)]
    unfold rM
    rw [h, jn]
    rfl)
  (by
   intro s _
   simp only [Ij]
   rw [Aa (by omega)]; rfl) (by omega) ([], []) h0).1
 unfold Yh Vk
 rw [Ds _ hn, ha, TA _ (by omega), hm, Qo _ hn ha]
 simp only [jb, jg, cond_false]
 erw [hl]
 rfl
theorem EP (b : Ca) (D : List Ab) : (YD b D).2.1.length ≤ 56 := by
 show (Ov (fun c => b.2.1.any (fun y => y == c) || D.any (fun p => p.1 == c)) 56).length ≤ 56
 exact QO _ 56
theorem TR (b : Ca) : ∀ (l : List Yb) (k : Nat) (s : List Ca × List Ma), (∀ x ∈ s.1, x.2.1.length ≤ 56) →
 (Ic (fun _ s x => mG b s x) k s l).1.length ≤ s.1.length + 2 * l.length ∧ ∀ x ∈ (Ic (fun _ s x => mG b s x) k s l).1, x.2.1.length ≤ 56
 | [], _, s, h => by simp only [Ic]; exact ⟨by omega, h⟩
 | x :: l, k, s, h => by
  have h1 : (mG b s x).1.length ≤ s.1.length + 2 ∧ ∀ y ∈ (mG b s x).1, y.2.1.length ≤ 56 := by
   unfold mG FM
   cases x.1 == 0 with
   | true =>
    refine ⟨by simp, fun y hy => ?_⟩
    rcases jl.1 (show y ∈ s.1 ++ _ from hy) with hy | hy
    ·exact h y hy
    ·simp only [cond_true, jp, List.not_mem_nil, or_false] at hy
     rcases hy with rfl | rfl <;> exact EP _ _
   | false =>
    refine ⟨by simp, fun y hy => ?_⟩
    rcases jl.1 (show y ∈ s.1 ++ _ from hy) with hy | hy
    ·exact h y hy
    ·simp only [cond_false, jp, List.not_mem_nil, or_false] at hy
     rw [hy]; exact EP _ _
  have := TR b l (k + 1) (mG b s x) h1.2
  simp only [Ic, jw]
  exact ⟨by omega, this.2⟩
def Re (f : Int) (l : List Ma) : Int := Ic (fun _ s (h : Ma) => cond (h.2.1.1 == 3) (Xe .i64 s (Ce .i64 1 h.2.1.2.2.2.1)) s) 0 (Xe .i64 1 f) l
theorem DC {f : Int} (hf : 0 ≤ f ∧ f ≤ 15) (l : List Ma) (hn : l.length ≤ Ja) (hv : Qe l = true) : Kp f l = some (Re f l, ()) := by
 have h20 : Ja = 1048576 := rfl
 have hh := Wu hv
 have hl := (Ui (step := fun x => Fn x.1.1 x.1.2.1 x.1.2.2.1 x.1.2.2.2.1) l
  (fun _ s (h : Ma) => cond (h.2.1.1 == 3) (Xe .i64 s (Ce .i64 1 h.2.1.2.2.2.1)) s) (fun s i => ((s, l, ((ja l : Nat) : Int), i, ()), ()))
  (fun s => .inl ((s, ()), ())) (fun _ _ => True) (by
   intro k hk s _
   refine ⟨?_, trivial⟩
   simp only [Fn]
   rw [Ba (show (k : Int) < (ja l : Int) by omega), Dc hk]
   simp only [cond_true, jb]
   rw [Ba (VC (hh _ (qn hk)).act)]
   cases l[k].2.1.1 == 3 <;> rfl)
  (by
   intro s _
   simp only [Fn]
   rw [Aa (by omega)]; rfl) (by omega) (Xe .i64 1 f) trivial).1
 unfold Kp Rh
 rw [Ba (show f ≥ 0 by omega), Ba hf.2, Ds _ hn, hv]
 simp only [cond_true, jb, jg, cond_false]
 erw [hl]
 rfl
theorem CN (a : Ka) : Ax a = some (CC a, ()) := by
 unfold Ax CC
 rw [Vs]
 cases Fd a <;> cases a.1 == 6 <;> rfl
theorem BM {a : Nat} (ha : a < 2 ^ 63) (x : Ma) : Yu (a : Int) x = true ↔ Et x ∧ a.testBit x.1.toNat = false := by
 constructor
 ·intro h
  obtain ⟨h1, h2⟩ := P2 h
  refine ⟨h1, ?_⟩
  have hx : x.1 = ((x.1.toNat : Nat) : Int) := (Int.toNat_of_nonneg h1.lo).symm
  have := AJ (a := a) (k := x.1.toNat) ha (by have := h1.hi; omega)
  rw [← hx] at this
  rw [← this]
  simp [h2]
 ·rintro ⟨h1, h2⟩
  have hx : x.1 = ((x.1.toNat : Nat) : Int) := (Int.toNat_of_nonneg h1.lo).symm
  have := AJ (a := a) (k := x.1.toNat) ha (by have := h1.hi; omega)
  rw [← hx, h2] at this
  simp only [Yu, jd, decide_eq_true_eq, Bool.not_eq_true', beq_eq_false_iff_ne]
  exact ⟨⟨h1.lo, h1.hi⟩, by rw [beq_eq_false_iff_ne] at this; exact this, h1.act, h1.n1, h1.n6, h1.n7⟩
theorem GI : ∀ (l : List Ma) (k a : Nat), a < 2 ^ 63 → (FE (Bc (fun _ s x => Iv s x) k (a : Int) l) = true ↔
 (∀ x ∈ l, Et x ∧ a.testBit x.1.toNat = false) ∧ l.Pairwise (fun x y => x.1 ≠ y.1))
 | [], k, a, ha => by simp [Bc, FE]
 | y :: l, k, a, ha => by
  simp only [Bc]
  cases hc : Yu (a : Int) y with
  | false =>
   rw [show Iv (a : Int) y = .inr () by unfold Iv; rw [hc]; rfl]
   simp only [FE, jq, false_iff]
   rintro ⟨h, _⟩
   have := (BM ha y).2 (h y (qu ..))
   rw [hc] at this; cases this
  | true =>
   rw [show Iv (a : Int) y = .inl (Xe .i64 (a : Int) (Ce .i64 1 y.1)) by unfold Iv; rw [hc]; rfl]
   simp only []
   obtain ⟨hy, hb⟩ := (BM ha y).1 hc
   have h1 := hy.lo; have h2 := hy.hi
   have hyx : y.1 = ((y.1.toNat : Nat) : Int) := (Int.toNat_of_nonneg h1).symm
   have e : Xe .i64 (a : Int) (Ce .i64 1 y.1) = ((a ||| 2 ^ y.1.toNat : Nat) : Int) := by
    conv => lhs; rw [hyx]
    rw [VH (by omega), KH ha (Px (by omega))]
   rw [e, GI l (k + 1) _ (Nat.or_lt_two_pow ha (Px (by omega)))]
   have tb : ∀ n, (a ||| 2 ^ y.1.toNat).testBit n = false ↔ a.testBit n = false ∧ y.1.toNat ≠ n := by
    intro n
    rw [Nat.testBit_or, qj, Bool.or_eq_false_iff, decide_eq_false_iff_not]
   simp only [jp, List.pairwise_cons, forall_eq_or_imp]
   constructor
   ·rintro ⟨h, hp⟩
    refine ⟨⟨⟨hy, hb⟩, fun x hx => ⟨(h x hx).1, ((tb _).1 (h x hx).2).1⟩⟩, fun x hx hxy => ?_, hp⟩
    exact ((tb _).1 (h x hx).2).2 (by rw [hxy])
   ·rintro ⟨⟨_, h⟩, hq, hp⟩
    refine ⟨fun x hx => ⟨(h x hx).1, (tb _).2 ⟨(h x hx).2, fun hn => hq x hx ?_⟩⟩, hp⟩
    have := (h x hx).1.lo
    omega
theorem JD (l : List Ma) : Qe l = true ↔ (∀ x ∈ l, Et x) ∧ l.Pairwise (fun x y => x.1 ≠ y.1) := by
 have := GI l 0 0 (by decide)
 unfold Qe ZX
 erw [this]
 simp
theorem S0 {l : List Ma} (h : Qe l = true) {x : Ma} (hx : Et x) (hn : ∀ y ∈ l, y.1 ≠ x.1) : Qe (jf l [x]) = true := by
 rw [JD] at h ⊢
 obtain ⟨h1, h2⟩ := h
 refine ⟨fun y hy => ?_, ?_⟩
 ·rcases jl.1 (show y ∈ l ++ [x] from hy) with hy | hy
  ·exact h1 y hy
  ·rw [qb.1 hy]; exact hx
 ·show (l ++ [x]).Pairwise _
  rw [List.pairwise_append]
  exact ⟨h2, List.pairwise_singleton _ _, fun y hy z hz => by rw [qb.1 hz]; exact hn y hy⟩
theorem IR {l r : List Ma} (h : Qe l = true) (hs : r.Sublist l) : Qe r = true := by
 rw [JD] at h ⊢
 exact ⟨fun y hy => h.1 y (hs.subset hy), h.2.sublist hs⟩
theorem BS : ∀ (n : Nat) (l : List Nat), l.Nodup → (∀ x ∈ l, x < n) → l.length ≤ n
 | 0, l, _, h => by
  cases l with
  | nil => exact jo _
  | cons x l => exact absurd (h x (qu ..)) (Nat.not_lt_zero _)
 | n + 1, l, hn, h => by
  have := BS n (l.erase n) (hn.erase n) (fun x hx => by
   have h1 := (hn.mem_erase_iff).1 hx
   have := h x h1.2
   have := h1.1
   omega)
  have h2 := List.length_erase (a := n) (l := l)
  split at h2 <;> omega
theorem Uu {l : List Ma} (h : Qe l = true) : l.length ≤ 32 := by
 rw [JD] at h
 have hn : (l.map fun x => x.1.toNat).Nodup := by
  rw [List.Nodup, List.pairwise_map]
  refine (List.Pairwise.and_mem.1 h.2).imp ?_
  rintro x y ⟨hx, hy, hxy⟩ he
  have h1 := (h.1 x hx).lo; have h2 := (h.1 y hy).lo
  omega
 have hs : ∀ y ∈ (l.map fun x => x.1.toNat), y < 32 := by
  intro y hy
  obtain ⟨x, hx, rfl⟩ := qq.1 hy
  have := (h.1 x hx).hi; have := (h.1 x hx).lo
  omega
 have := BS 32 _ hn hs
 simpa using this
structure Bn (e : Lb) : Prop where
 km : Eb e.1 = true
 m4 : e.2.1.length ≤ 4
 hd : Qe e.2.2.2.1 = true
 mac : ∀ x ∈ e.2.1, Eh x = true
 hin : ∀ x ∈ e.2.2.2.1, Nn e.1.1 e.1.2.1.length x = true
 st : VI e.1.2.1.length e.2.2.1 e.2.2.2.2.1
theorem YI {α : Type} {p : α → Bool} {l : List α} : Td (fun _ x => p x) 0 l = true ↔ ∀ x ∈ l, p x = true := by
 rw [Br]
 constructor
 ·intro h x hx
  obtain ⟨i, hi, rfl⟩ := qp hx
  exact h i hi
 ·intro h j hj
  exact h _ (qn hj)
theorem YB (e : Lb) : Ci e = true ↔ Bn e := by
 unfold Ci
 simp only [jd, decide_eq_true_eq, beq_iff_eq, YI]
 constructor
 ·rintro ⟨h1, h2, h3, h4, h5, h6, h7, h8⟩
  exact ⟨h1, h2, h3, h4, h5, ⟨h6.1, h6.2, h7, h8.1, h8.2⟩⟩
 ·rintro ⟨h1, h2, h3, h4, h5, h6⟩
  exact ⟨h1, h2, h3, h4, h5, ⟨h6.f0, h6.f1⟩, h6.f2, h6.o0, h6.o1⟩
theorem FQ {e : Lb} (h : Bn e) : Ib Sc e ≤ Ja - 5 := by
 have h20 : Ja = 1048576 := rfl
 have h1 := (XL h.km).z
 have hh := Uu h.hd
 have h2 : Ib (.sl (.sl Tc)) e.2.1 ≤ (8 + 1) * e.2.1.length := XD (e := .sl Tc) (c := 8) fun x hx => by
  have := h.mac x hx
  simp only [Eh, jd, decide_eq_true_eq] at this
  have e2 : Ib (.sl Tc) x = x.length := As (e := Tc) rfl x
  omega
 have := h.m4
 have hm := Bf h.km
 have h3 : Ib Pa e.1 ≤ 200 := by
  have h1 : Ib Pa e.1 = 0 + (Ib (.sl (.sl Xb)) e.1.2.1 + 0) := rfl
  have h2 : Ib (.sl (.sl Xb)) e.1.2.1 ≤ (32 + 1) * ja e.1.2.1 := XD (e := .sl Xb) (c := 32) fun x hx => by
   obtain ⟨i, hi, rfl⟩ := qp hx
   rw [QM]
   have := hm.row i hi
   have := hm.k2
   omega
  have := hm.l2
  omega
 rw [Gv, Av]
 omega
noncomputable def AK (e : Lb) (k : Nat) (b : Bool) : Ka :=
 cond b (CC (Wf e.1.2.1 (Uf e.1 (Re e.2.2.1 e.2.2.2.1) k) k)) (Rf (Wf e.1.2.1 (Uf e.1 (Re e.2.2.1 e.2.2.2.1) k) k))
noncomputable def Hk (e : Lb) (k : Nat) (b : Bool) : Int × Int × Bool × Ka := Nw e.2.2.1 e.2.2.2.2.1 e.2.2.2.2.2.1 (AK e k b)
noncomputable def pH (e : Lb) (k : Nat) (b : Bool) : List Ma := jf e.2.2.2.1 [((k : Int), (Hk e k b).2.2.2, ())]
noncomputable def pE (e : Lb) (k : Nat) (b : Bool) : Lb := (e.1, e.2.1, (Hk e k b).1, pH e k b, (Hk e k b).2.1, (Hk e k b).2.2.1, ())
noncomputable def pM (e : Lb) (k : Nat) (b : Bool) : List Ca :=
 cond ((Hk e k b).2.2.2.1 == 9) (cond (decide ((Hk e k b).2.2.2.2.2.2.1 < ((ja e.2.1 : Nat) : Int))) (TF (Hb (pH e k b)) (e.2.1.getD (Hk e k b).2.2.2.2.2.2.1.toNat [])) []) []
noncomputable def pR (e : Lb) (k : Nat) (b : Bool) : List Ca := Kj Ji (Hb e.2.2.2.1) (jf (pM e k b) [Hb (pH e k b)])
theorem F5 {nl i : Nat} {a : Ka} (h : Li nl i a = true) (h1 : a.1 ≠ 1) : UI nl (CC a) := by
 have ha := DA h
 have hP := ha
 rw [Db] at hP
 unfold Zb at hP
 unfold CC Fd
 rw [ha]
 by_cases h67 : a.1 = 6 ∨ a.1 = 7
 ·have e : (true && ((a.1 == 6) || (a.1 == 7))) = true := by rcases h67 with h | h <;> rw [h] <;> rfl
  rw [e]
  have hn := OH h (by omega)
  rcases h67 with h6 | h7
  ·rw [h6]
   refine ⟨?_, by show (2 : Int) ≠ 1; decide, by show (2 : Int) ≠ 6; decide, by show (2 : Int) ≠ 7; decide, fun _ => ?_⟩
   ·rw [Db]
    exact .inr (.inl ⟨rfl, rfl, .inl rfl, .inr (by show 1 ≤ a.2.2.1 ∧ a.2.2.1 ≤ 15; omega), .inr (by show a.2.2.1 ≠ 0; omega)⟩)
   ·show (0 : Int) < (nl : Int)
    omega
  ·rw [h7]
   refine ⟨?_, by show (3 : Int) ≠ 1; decide, by show (3 : Int) ≠ 6; decide, by show (3 : Int) ≠ 7; decide, fun _ => hn⟩
   rw [Db]
   exact .inr (.inr (.inl ⟨.inl rfl, rfl, rfl, by show 1 ≤ a.2.2.2.1; omega, by show a.2.2.2.1 ≤ 3; omega⟩))
 ·have e : (true && ((a.1 == 6) || (a.1 == 7))) = false := by
   rw [jk, Bool.or_eq_false_iff, beq_eq_false_iff_ne, beq_eq_false_iff_ne]; omega
  rw [e]
  exact ⟨ha, h1, fun h => h67 (.inl h), fun h => h67 (.inr h), fun hk => OH h hk⟩
structure JZ (e : Lb) (k : Nat) (b : Bool) : Prop where
 act : UI e.1.2.1.length (AK e k b)
 ah : UI e.1.2.1.length (Hk e k b).2.2.2
 hd : Qe (pH e k b) = true
 ok : Bn (pE e k b)
 ml : (pM e k b).length ≤ 16
 mx : ∀ x ∈ pM e k b, x.2.1.length ≤ 56
theorem KV {e : Lb} (h : Bn e) {k : Nat} (hk : (k : Int) < e.1.1) (hn : ∀ y ∈ e.2.2.2.1, y.1 ≠ (k : Int)) (b : Bool) : JZ e k b := by
 have hm := Bf h.km
 have h1 := K2 hm (Re e.2.2.1 e.2.2.2.1) hk
 have h2 : UI e.1.2.1.length (AK e k b) := by
  cases b
  ·exact Uab h1.1 h1.2
  ·exact F5 h1.1 h1.2
 have h3 := Zaf (c := e.2.2.2.2.2.1) hm.l2 h.st h2
 have h4 : Qe (pH e k b) = true := S0 h.hd (x := ((k : Int), (Hk e k b).2.2.2, ())) ⟨by show (0 : Int) ≤ (k : Int); omega, by have := hm.k2; show (k : Int) ≤ 31; omega, h3.2.act, h3.2.n1, h3.2.n6, h3.2.n7⟩ hn
 refine ⟨h2, h3.2, h4, ⟨h.km, h.m4, h4, h.mac, fun x hx => ?_, h3.1⟩, ?_, ?_⟩
 ·rcases jl.1 (show x ∈ e.2.2.2.1 ++ [((k : Int), (Hk e k b).2.2.2, ())] from hx) with hx | hx
  ·exact h.hin x hx
  ·simp only [jp, List.not_mem_nil, or_false] at hx
   subst hx
   simp only [Nn, jd, Bool.not_eq_true', Bool.and_eq_false_iff, decide_eq_false_iff_not]
   refine ⟨by show ¬ (k : Int) ≥ e.1.1; omega, ?_⟩
   by_cases h9 : (Hk e k b).2.2.2.1 = 9
   ·exact .inl (by show ((Hk e k b).2.2.2.1 != 9) = false; simp [h9])
   ·exact .inr (Int.not_le.2 (h3.2.n h9))
 all_goals
  unfold pM
  cases (Hk e k b).2.2.2.1 == 9 with
  | false => simp
  | true =>
   simp only [cond_true]
   by_cases hl : (Hk e k b).2.2.2.2.2.2.1 < ((ja e.2.1 : Nat) : Int)
   ·rw [Ba hl]
    have h0 := VC h3.2.act
    have hmem : (e.2.1.getD (Hk e k b).2.2.2.2.2.2.1.toNat []) ∈ e.2.1 := by
     have hlt : (Hk e k b).2.2.2.2.2.2.1.toNat < e.2.1.length := by
      have : (0 : Int) ≤ (Hk e k b).2.2.2.2.2.2.1 := h0
      omega
     rw [qg, je hlt, Option.getD_some]
     exact qn hlt
    have hmc := h.mac _ hmem
    simp only [Eh, jd, decide_eq_true_eq] at hmc
    have := TR (Hb (pH e k b)) (e.2.1.getD (Hk e k b).2.2.2.2.2.2.1.toNat []) 0 ([], []) (by simp)
    simp only [cond_true]
    unfold TF
    first
     | exact this.2
     | (have h5 := this.1; simp only [j6] at h5; omega)
   ·rw [Aa hl]; simp
theorem PY {β : Type} (MR : List Ma → List Yb → Option ((List Ca) × Unit)) (RO : List Ma → Option (Ca × Unit)) (CH : Ca → List Ca → Option ((List Ca) × Unit)) (K : List Ca → Option β)
 (hMR : ∀ a l, a.length ≤ Ja → Qe a = true → Eh l = true → MR a l = some (TF (Hb a) l, ()))
 (hRO : ∀ l, l.length ≤ Ja → Qe l = true → RO l = some (Hb l, ()))
 (hCH : ∀ (a : Ca) (l : List Ca), l.length ≤ Ja → a.2.1.length ≤ Ja → (∀ x ∈ l, x.2.1.length ≤ Ja) → CH a l = some (Kj Ji a l, ()))
 {e : Lb} (h : Bn e) {k : Nat} {b : Bool} (F : JZ e k b) :
 (cond (jx (ja e.2.2.2.1 + ja ([((k : Int), (Hk e k b).2.2.2, ())] : List Ma)) Jb)
  (cond ((Hk e k b).2.2.2.1 == (9 : Int))
   (cond (decide ((Hk e k b).2.2.2.2.2.2.1 < ((ja e.2.1 : Nat) : Int)))
    (jz (Wc e.2.1 (Hk e k b).2.2.2.2.2.2.1) fun x8 => jz (MR (pH e k b) x8) fun r9 => jz (RO (pH e k b)) fun r10 =>
     cond (jx (ja r9.1 + ja ([r10.1] : List Ca)) Jb) (jz (RO e.2.2.2.1) fun r11 => jz (CH r11.1 (jf r9.1 ([r10.1] : List Ca))) fun r12 => K r12.1) none)
    (jz (RO (pH e k b)) fun r13 => cond (jx (ja ([] : List Ca) + ja ([r13.1] : List Ca)) Jb)
     (jz (RO e.2.2.2.1) fun r14 => jz (CH r14.1 (jf ([] : List Ca) ([r13.1] : List Ca))) fun r15 => K r15.1) none))
   (jz (RO (pH e k b)) fun r16 => cond (jx (ja ([] : List Ca) + ja ([r16.1] : List Ca)) Jb)
    (jz (RO e.2.2.2.1) fun r17 => jz (CH r17.1 (jf ([] : List Ca) ([r16.1] : List Ca))) fun r18 => K r18.1) none))
  none) = K (pR e k b) := by
 have h20 : Ja = 1048576 := rfl
 have hlim := Uh
 have hl1 := Uu h.hd
 have hl2 := Uu F.hd
 have R1 := hRO (pH e k b) (by omega) F.hd
 have R0 := hRO e.2.2.2.1 (by omega) h.hd
 have hr : ∀ r : Ca, jx (ja ([] : List Ca) + ja ([r] : List Ca)) Jb = true := fun r => ji (by simp only [jw, j6]; omega)
 rw [show jx (ja e.2.2.2.1 + ja ([((k : Int), (Hk e k b).2.2.2, ())] : List Ma)) Jb = true from ji (by simp only [jw, j6]; omega)]
 have plain : pM e k b = [] → (jz (RO (pH e k b)) fun r13 => cond (jx (ja ([] : List Ca) + ja ([r13.1] : List Ca)) Jb)
  (jz (RO e.2.2.2.1) fun r14 => jz (CH r14.1 (jf ([] : List Ca) ([r13.1] : List Ca))) fun r15 => K r15.1) none) = K (pR e k b) := by
  intro hm
  rw [R1, R0]
  simp only [jb]
  rw [hr, hCH _ _ (by simp; omega) (SH _) (fun x hx => by rw [qb.1 (show x ∈ [Hb (pH e k b)] from hx)]; exact SH _)]
  simp only [cond_true, jb]
  unfold pR
  rw [hm]
 simp only [cond_true]
 cases h9 : (Hk e k b).2.2.2.1 == (9 : Int) with
 | false => exact plain (by unfold pM; rw [h9]; rfl)
 | true =>
  simp only [cond_true]
  by_cases hl : (Hk e k b).2.2.2.2.2.2.1 < ((ja e.2.1 : Nat) : Int)
  ·rw [Ba hl]
   simp only [cond_true]
   have h0 : (0 : Int) ≤ (Hk e k b).2.2.2.2.2.2.1 := VC F.ah.act
   have hlt : (Hk e k b).2.2.2.2.2.2.1.toNat < e.2.1.length := by omega
   have hi : Wc e.2.1 (Hk e k b).2.2.2.2.2.2.1 = some e.2.1[(Hk e k b).2.2.2.2.2.2.1.toNat] := by
    have := Dc (xs := e.2.1) hlt
    rw [Int.toNat_of_nonneg h0] at this
    exact this
   have hM : pM e k b = TF (Hb (pH e k b)) e.2.1[(Hk e k b).2.2.2.2.2.2.1.toNat] := by
    unfold pM
    rw [h9, Ba hl, qg, je hlt, Option.getD_some]
    rfl
   have ml := F.ml
   have mx := F.mx
   rw [hi]
   simp only [jb]
   rw [hMR _ _ (by omega) F.hd (h.mac _ (qn hlt)), R1, R0, ← hM]
   simp only [jb]
   rw [show jx (ja (pM e k b) + ja ([Hb (pH e k b)] : List Ca)) Jb = true from ji (by simp only [jw, j6]; omega)]
   simp only [cond_true]
   rw [hCH _ _ (by show (pM e k b ++ [Hb (pH e k b)]).length ≤ _; simp; omega) (SH _) (fun x hx => by
    rcases jl.1 (show x ∈ pM e k b ++ [Hb (pH e k b)] from hx) with hx | hx
    ·have := mx x hx; omega
    ·rw [qb.1 hx]; exact SH _)]
   rfl
  ·rw [Aa hl]
   exact plain (by unfold pM; rw [h9, Aa hl]; rfl)
theorem EN {e : Lb} (h : Bn e) {k : Nat} (hk : (k : Int) < e.1.1) (hn : ∀ y ∈ e.2.2.2.1, y.1 ≠ (k : Int)) (b : Bool) :
 Tg e (k : Int) b = some (pE e k b, pR e k b, ()) := by
 have h20 : Ja = 1048576 := rfl
 have hm := Bf h.km
 have F := KV h hk hn b
 have hz := FQ h
 have hle := Uu h.hd
 have hl := QF hm (Re e.2.2.1 e.2.2.2.1) k
 have hrow := hm.row _ hl
 have tail := PY Yh Pc Md (fun r => some (pE e k b, r, ())) KD Qo RA h F
 unfold Tg
 rw [Am _ (by omega), DC (Aae hm.l2 h.st) _ (by omega) h.hd]
 simp only [jb]
 rw [WA hm _ hk]
 simp only [jb]
 show jz (Wc e.1.2.1 ((Uf e.1 (Re e.2.2.1 e.2.2.2.1) k : Nat) : Int)) _ = _
 rw [AY hl (by omega)]
 cases b with
 | true =>
  simp only [cond_true]
  rw [CN]
  simp only [jb]
  show jz (Tm (e.1, e.2.1, e.2.2.1, e.2.2.2.1, e.2.2.2.2.1, e.2.2.2.2.2.1, ()) (AK e k true)) _ = _
  rw [IC _ _ _ _ _ _ _ F.act.act]
  simp only [jb]
  exact tail
 | false =>
  simp only [cond_false]
  rw [Zx]
  simp only [jb]
  show jz (Tm (e.1, e.2.1, e.2.2.1, e.2.2.2.1, e.2.2.2.2.1, e.2.2.2.2.2.1, ()) (AK e k false)) _ = _
  rw [IC _ _ _ _ _ _ _ F.act.act]
  simp only [jb]
  exact tail
theorem VX {l : List Ma} {k : Int} : Gc (fun h : Ma => h.1 == k) 0 l = -1 ↔ ∀ y ∈ l, y.1 ≠ k := by
 have key : ∀ (l : List Ma) (n : Nat), Gc (fun h : Ma => h.1 == k) n l = -1 ↔ ∀ y ∈ l, y.1 ≠ k := by
  intro l
  induction l with
  | nil => intro n; simp [Gc]
  | cons x l ih =>
   intro n
   simp only [Gc]
   cases hx : x.1 == k with
   | true =>
    simp only [cond_true, jp, forall_eq_or_imp]
    have hx := eq_of_beq hx
    constructor
    ·intro h; omega
    ·intro h; exact absurd hx h.1
   | false =>
    simp only [cond_false, jp, forall_eq_or_imp]
    rw [ih]
    exact ⟨fun h => ⟨beq_eq_false_iff_ne.1 hx, h⟩, fun h => h.2⟩
 exact key l 0
def wo (l : List Ma) (i : Nat) : List Ma := jf (l.take i) (l.drop (i + 1))
theorem TS (l : List Ma) (i : Nat) : (wo l i).Sublist l := by
 have h : (l.drop (i + 1)).Sublist (l.drop i) := List.drop_sublist_drop_left l (Nat.le_succ i)
 have h2 := List.Sublist.append (List.Sublist.refl (l.take i)) h
 rw [List.take_append_drop] at h2
 exact h2
def rE (e : Lb) (i : Nat) : Lb := (e.1, e.2.1, e.2.2.1, wo e.2.2.2.1 i, e.2.2.2.2)
def rR (e : Lb) (i : Nat) : List Ca := Kj Ji (Hb e.2.2.2.1) [Hb (wo e.2.2.2.1 i)]
theorem Daj {e : Lb} (h : Bn e) (i : Nat) : Bn (rE e i) :=
 ⟨h.km, h.m4, IR h.hd (TS _ i), h.mac, fun x hx => h.hin x ((TS _ i).subset hx), h.st⟩
theorem Vad {α : Type} (l : List α) (i : Nat) : Xa l (jy (0 : Int)) (jy (i : Int)) = l.take i := by
 simp [Xa]
theorem Uad {α : Type} (l : List α) (i : Nat) : Xa l (jy ((i + 1 : Nat) : Int)) (jy ((ja l : Nat) : Int)) = l.drop (i + 1) := by
 simp [Xa]
theorem UJ {e : Lb} (h : Bn e) {k : Int} {i : Nat} (hi : i < e.2.2.2.1.length) (hf : Gc (fun h : Ma => h.1 == k) 0 e.2.2.2.1 = (i : Int)) :
 Sr e k = some (rE e i, rR e i, ()) := by
 have h20 : Ja = 1048576 := rfl
 have hlim := Uh
 have hz := FQ h
 have hle := Uu h.hd
 have hw := IR h.hd (TS e.2.2.2.1 i)
 have hwl := Uu hw
 unfold Sr
 rw [Am _ (by omega), BN _ _ (by omega), hf]
 simp only [jb]
 rw [Vd (by omega)]
 rw [Vad, Uad]
 rw [show Pd (ja e.2.2.2.1) (0 : Int) ((i : Nat) : Int) = true from Dr (lo := 0) (by omega) (by omega), Dr (by omega) (by omega)]
 rw [show jx (ja (e.2.2.2.1.take i) + ja (e.2.2.2.1.drop (i + 1))) Jb = true from ji (by simp; omega)]
 simp only [cond_true]
 rw [Qo _ (by omega) h.hd]
 simp only [jb]
 show jz (Pc (wo e.2.2.2.1 i)) _ = _
 rw [Qo _ (by omega) hw]
 simp only [jb]
 rw [RA _ _ (by simp; omega) (SH _) (fun x hx => by rw [qb.1 hx]; exact SH _)]
 rfl
def DL (md key e : Int) (s : Int) (x : Na) : Int ⊕ (Int × Int) :=
 cond (Mj x) (cond (decide (x.1 ≥ e)) (.inr (2, e)) (cond (x.2.1 == key) (cond x.2.2.1 (.inl s) (.inr (1, x.1)))
  (cond x.2.2.1 (cond (md == 1) (.inr (2, x.1)) (.inl (Xe .i64 s (Ce .i64 1 x.2.1))))
   (cond (md == 2) (cond (Kl s x.2.1 == 1) (.inr (2, x.1)) (.inl s)) (.inl s))))) (.inr (0, 0))
def W8 (md key e : Int) (l : List Na) : Int ⊕ (Int × Int) := Bc (fun _ s x => DL md key e s x) 0 0 l
def Nl (t : TB) (key at_ : Int) (l : List Na) (til : Int) : Ab :=
 cond (Af t && decide (0 ≤ at_ ∧ at_ ≤ 1000000)) (match W8 t.2.2.1 key (j4 .i64 (at_ + t.1)) l with
  | .inl _ => cond (decide (til ≥ j4 .i64 (at_ + t.1))) (2, j4 .i64 (at_ + t.1), ()) (0, 0, ())
  | .inr r => (r.1, r.2, ())) (0, 0, ())
theorem PJ (t : TB) (key at_ : Int) (l : List Na) (til : Int) (hn : l.length ≤ Ja) : Hp t key at_ l til = some (Nl t key at_ l til) := by
 have h20 : Ja = 1048576 := rfl
 have hl := Vi (step := fun x => Cn x.1.1 x.1.2.1 x.1.2.2.1 x.1.2.2.2.1 x.1.2.2.2.2.1 x.1.2.2.2.2.2.1 x.1.2.2.2.2.2.2.1 x.1.2.2.2.2.2.2.2.1 x.2.1) l
  (fun _ s x => DL t.2.2.1 key (j4 .i64 (at_ + t.1)) s x) (fun s i => ((key, at_, til, (), s, l, ((ja l : Nat) : Int), i, ()), (t, ())))
  (fun s => .inl ((at_, til, (), ()), (t, ()))) (fun r => .inr ((r.1, r.2, ()), ())) (fun _ _ => True) (by
   intro k hk s _
   refine ⟨?_, fun _ _ => trivial⟩
   simp only [Cn]
   rw [Ba (show (k : Int) < ((ja l : Nat) : Int) by omega), Dc hk]
   simp only [cond_true, jb]
   rw [SA]
   unfold DL
   cases he : Mj l[k] with
   | false => rfl
   | true =>
    have hk' := Kx he
    rw [Ba hk'.2.2.1, Bx s hk'.2.2.1]
    simp only [cond_true, jb, jg, cond_false]
    cases decide (l[k].1 ≥ j4 .i64 (at_ + t.1)) <;> cases l[k].2.1 == key <;> cases l[k].2.2.1 <;> cases t.2.2.1 == 1 <;> cases t.2.2.1 == 2 <;> cases Kl s l[k].2.1 == 1 <;> rfl) (by
   intro s _
   simp only [Cn]
   rw [Aa (by omega)]; rfl) (by omega) 0 trivial
 unfold Hp Lo Nl
 rw [Ny]
 simp only [jb]
 cases Af t with
 | false => rfl
 | true =>
  by_cases h1 : at_ < 0
  ·rw [Ba h1, Aa (show ¬ (0 ≤ at_ ∧ at_ ≤ 1000000) by omega)]; rfl
  ·by_cases h2 : at_ > 1000000
   ·rw [Aa h1, Ba h2, Aa (show ¬ (0 ≤ at_ ∧ at_ ≤ 1000000) by omega)]; rfl
   ·rw [Aa h1, Aa h2, Ba (show (0 ≤ at_ ∧ at_ ≤ 1000000) by omega)]
    simp only [jg, cond_false]
    erw [hl]
    unfold W8
    cases Bc (fun _ s x => DL t.2.2.1 key (j4 .i64 (at_ + t.1)) s x) 0 0 l with
    | inl s =>
     simp only [jb, qh]
     cases decide (til ≥ j4 .i64 (at_ + t.1)) <;> rfl
    | inr r => rfl
def Ju (l : List Ma) (j : Nat) : Bool := l.any (fun h => h.1 == (j : Int))
structure Kz (l : List Ma) (m : Nat) : Prop where
 lt : m < 2 ^ 63
 bit : ∀ j, m.testBit j = Ju l j
theorem CV : ∀ (l : List Ma) (k : Nat) (s : Nat), s < 2 ^ 63 → (∀ x ∈ l, Et x) →
 ∃ m : Nat, Ic (fun _ s (x : Ma) => Xe .i64 s (Ce .i64 1 x.1)) k (s : Int) l = (m : Int) ∧ m < 2 ^ 63 ∧ ∀ j, m.testBit j = (s.testBit j || Ju l j)
 | [], _, s, hs, _ => ⟨s, rfl, hs, fun j => by simp [Ju]⟩
 | x :: l, k, s, hs, h => by
  have hx := h x (by simp)
  obtain ⟨n, hn⟩ := jv hx.lo
  have := hx.hi
  simp only [Ic]
  rw [hn, VH (by omega), KH hs (Px (by omega))]
  obtain ⟨m, h1, h2, h3⟩ := CV l (k + 1) _ (Nat.or_lt_two_pow hs (Px (show n ≤ 62 by omega))) (fun y hy => h y (by simp [hy]))
  refine ⟨m, h1, h2, fun j => ?_⟩
  rw [h3, Nat.testBit_or, qj]
  simp only [Ju, List.any_cons, hn]
  rw [show (((n : Nat) : Int) == ((j : Nat) : Int)) = decide (n = j) by rw [qt]; simp [Int.ofNat_inj]]
  rw [Bool.or_assoc]
theorem Aab {l : List Ma} (h : Qe l = true) : ∃ m : Nat, Bu l = (m : Int) ∧ Kz l m := by
 obtain ⟨m, h1, h2, h3⟩ := CV l 0 0 (by decide) (Wu h)
 exact ⟨m, h1, h2, fun j => by rw [h3]; simp⟩
theorem KY {l : List Ma} {m k : Nat} (h : Kz l m) (hk : k ≤ 62) (hb : Ju l k = false) (a : Ka) : Kz (jf l [((k : Int), a, ())]) (m ^^^ 2 ^ k) := by
 refine ⟨qm h.lt (Px hk), fun j => ?_⟩
 rw [Nat.testBit_xor, qj, h.bit]
 show _ = Ju (l ++ [((k : Int), a, ())]) j
 simp only [Ju, List.any_append, List.any_cons, List.any_nil, Bool.or_false]
 rw [show (((k : Nat) : Int) == ((j : Nat) : Int)) = decide (k = j) by rw [qt]; simp [Int.ofNat_inj]]
 by_cases hj : k = j
 ·subst hj
  simp only [Ju] at hb
  rw [hb, Ba rfl]; rfl
 ·rw [Aa hj]; simp
theorem Hag {l : List Ma} (hp : l.Pairwise (fun x y => x.1 ≠ y.1)) {i : Nat} (hi : i < l.length) (j : Int) : (wo l i).any (fun h => h.1 == j) = (l.any (fun h => h.1 == j) && !(l[i].1 == j)) := by
 rw [qt]
 simp only [List.any_eq_true, jd, Bool.not_eq_true', beq_iff_eq, beq_eq_false_iff_ne, wo]
 rw [List.pairwise_iff_getElem] at hp
 constructor
 ·rintro ⟨x, hx, hj⟩
  rcases jl.1 (show x ∈ l.take i ++ l.drop (i + 1) from hx) with hx | hx
  ·obtain ⟨n, hn, rfl⟩ := qp hx
   rw [List.getElem_take] at hj
   have hn2 : n < i ∧ n < l.length := by rw [qs] at hn; omega
   exact ⟨⟨_, qn hn2.2, hj⟩, fun h => hp n i hn2.2 hi hn2.1 (hj.trans h.symm)⟩
  ·obtain ⟨n, hn, rfl⟩ := qp hx
   rw [List.getElem_drop] at hj
   have hn2 : i + 1 + n < l.length := by rw [qr] at hn; omega
   exact ⟨⟨_, qn hn2, hj⟩, fun h => hp i (i + 1 + n) hi hn2 (by omega) (h.trans hj.symm)⟩
 ·rintro ⟨⟨x, hx, hj⟩, hne⟩
  obtain ⟨n, hn, rfl⟩ := qp hx
  refine ⟨l[n], jl.2 ?_, hj⟩
  rcases Nat.lt_trichotomy n i with h | h | h
  ·exact .inl (List.mem_take_iff_getElem.2 ⟨n, by omega, rfl⟩)
  ·subst h; exact absurd hj hne
  ·exact .inr (List.mem_drop_iff_getElem.2 ⟨n - (i + 1), by omega, by congr 1; omega⟩)
theorem VR {l : List Ma} (hp : l.Pairwise (fun x y => x.1 ≠ y.1)) {m k i : Nat} (h : Kz l m) (hk : k ≤ 62) (hi : i < l.length) (hb : l[i].1 = (k : Int)) : Kz (wo l i) (m ^^^ 2 ^ k) := by
 refine ⟨qm h.lt (Px hk), fun j => ?_⟩
 rw [Nat.testBit_xor, qj, h.bit]
 simp only [Ju]
 rw [Hag hp hi, hb]
 rw [show (((k : Nat) : Int) == ((j : Nat) : Int)) = decide (k = j) by rw [qt]; simp [Int.ofNat_inj]]
 by_cases hj : k = j
 ·subst hj
  rw [Ba rfl]
  have : l.any (fun h => h.1 == (k : Int)) = true := List.any_eq_true.2 ⟨l[i], qn hi, by rw [hb]; simp⟩
  rw [this]; rfl
 ·rw [Aa hj]; simp
theorem FI {α S R : Type} (g : S → α → S ⊕ R) : ∀ (l : List α) (k j : Nat) (s : S), Bc (fun _ s x => g s x) k s l = Bc (fun _ s x => g s x) j s l
 | [], _, _, _ => rfl
 | x :: l, k, j, s => by
  simp only [Bc]
  cases g s x with
  | inl s' => exact FI g l (k + 1) (j + 1) s'
  | inr r => rfl
structure RE (d : Ub) : Prop where
 eng : Bn d.1
 len : d.2.2.1.length ≤ 64
 key : ∀ x ∈ d.2.2.1, x.2.1 < d.1.1.1
 fol : ∃ (m : Nat) (t : Int), Kz d.1.2.2.2.1 m ∧ FE (Bc (fun _ s x => Er s x) 0 (t, (m : Int)) d.2.2.1) = true
def BC (e : Lb) (k : Int) : Nat := (Gc (fun h : Ma => h.1 == k) 0 e.2.2.2.1).toNat
noncomputable def Yk (d : Ub) (x : Na) (r : List Na) : Option (Ub × List Ca) :=
 cond (!x.2.2.1)
  (some ((rE d.1 (BC d.1 x.2.1), d.2.1, r, d.2.2.2.1, max d.2.2.2.2.1 x.1, d.2.2.2.2.2.1, cond (d.2.2.2.2.2.1 == j4 .i64 (x.2.1 + 1)) x.1 d.2.2.2.2.2.2.1, ()), rR d.1 (BC d.1 x.2.1)))
  (cond (Fd (Wf d.1.1.2.1 (Uf d.1.1 (Re d.1.2.2.1 d.1.2.2.2.1) x.2.1.toNat) x.2.1.toNat))
   (
    let ch : Int × Int := cond ((d.2.2.2.2.2.1 == j4 .i64 (x.2.1 + 1)) && !decide (j4 .i64 (x.1 - d.2.2.2.2.2.2.1) ≥ d.2.1.2.1)) (1, x.1) ((Nl d.2.1 x.2.1 x.1 r d.2.2.2.1).1, (Nl d.2.1 x.2.1 x.1 r d.2.2.2.1).2.1)
    cond (ch.1 == 0) none
     (some ((pE d.1 x.2.1.toNat (ch.1 == 2), d.2.1, r, d.2.2.2.1, max (max d.2.2.2.2.1 x.1) ch.2, cond (ch.1 == 2) 0 (j4 .i64 (x.2.1 + 1)), cond (ch.1 == 2) d.2.2.2.2.2.2.1 x.1, ()), pR d.1 x.2.1.toNat (ch.1 == 2))))
   (some ((pE d.1 x.2.1.toNat false, d.2.1, r, d.2.2.2.1, max d.2.2.2.2.1 x.1, d.2.2.2.2.2.1, d.2.2.2.2.2.2.1, ()), pR d.1 x.2.1.toNat false)))
structure M9 (d : Ub) (x : Na) (r : List Na) : Prop where
 ev : Mj x = true
 key : x.2.1 < d.1.1.1
 up : x.2.2.1 = false → ∃ hi : BC d.1 x.2.1 < d.1.2.2.2.1.length, Gc (fun h : Ma => h.1 == x.2.1) 0 d.1.2.2.2.1 = ((BC d.1 x.2.1 : Nat) : Int) ∧ (d.1.2.2.2.1[BC d.1 x.2.1]'hi).1 = x.2.1
 down : x.2.2.1 = true → ∀ y ∈ d.1.2.2.2.1, y.1 ≠ x.2.1
theorem DF {α : Type} (p : α → Bool) : ∀ (xs : List α) (k j : Nat), j < xs.length → Gc p k xs = ((k + j : Nat) : Int) → ∃ h : j < xs.length, p xs[j] = true
 | [], _, _, hj, _ => absurd hj (by simp)
 | x :: xs, k, j, hj, h => by
  simp only [Gc] at h
  cases hx : p x with
  | true =>
   rw [hx] at h
   simp only [cond_true] at h
   have : j = 0 := by omega
   subst this
   exact ⟨hj, hx⟩
  | false =>
   rw [hx] at h
   simp only [cond_false] at h
   cases j with
   | zero =>
    rcases Mx p xs (k + 1) with h1 | ⟨i, _, h1⟩ <;> (rw [h1] at h; omega)
   | succ j =>
    have hj' : j < xs.length := by simp at hj; omega
    obtain ⟨_, h2⟩ := DF p xs (k + 1) j hj' (by rw [h]; omega)
    exact ⟨hj, h2⟩
theorem AR {d : Ub} {x : Na} {r : List Na} (h : RE d) (hq : d.2.2.1 = x :: r) : M9 d x r := by
 obtain ⟨m, t, hm, hf⟩ := h.fol
 rw [hq] at hf
 simp only [Bc, Er] at hf
 cases ho : Tz (t, (m : Int)) x with
 | false => rw [ho] at hf; exact absurd hf (by simp [FE])
 | true =>
  simp only [Tz, jd] at ho
  obtain ⟨h1, h2, h3⟩ := ho
  have hk := Kx h1
  obtain ⟨n, hn⟩ := jv hk.2.2.1
  have hn' : x.2.1 = (n : Int) := hn
  rw [hn', AJ hm.lt (by omega), hm.bit] at h3
  refine ⟨h1, h.key x (by rw [hq]; simp), fun hu => ?_, fun hd => ?_⟩
  ·rw [hu] at h3
   have h4 : Ju d.1.2.2.2.1 n = true := by
    cases hh : Ju d.1.2.2.2.1 n with
    | true => rfl
    | false => rw [hh] at h3; exact absurd h3 (by decide)
   rcases Mx (fun h : Ma => h.1 == x.2.1) d.1.2.2.2.1 0 with h5 | ⟨j, hj, h5⟩
   ·rw [VX] at h5
    simp only [Ju, List.any_eq_true, beq_iff_eq] at h4
    obtain ⟨y, hy, hyk⟩ := h4
    exact absurd (hyk.trans hn'.symm) (h5 y hy)
   ·have e : BC d.1 x.2.1 = j := by unfold BC; rw [h5]; omega
    obtain ⟨h6, h7⟩ := DF _ _ _ _ hj h5
    have h7' := eq_of_beq h7
    refine ⟨by omega, by rw [h5, e]; omega, ?_⟩
    simp only [e]
    exact h7'
  ·rw [hd] at h3
   intro y hy he
   have : Ju d.1.2.2.2.1 n = true := List.any_eq_true.2 ⟨y, hy, by rw [he, hn']; simp⟩
   rw [this] at h3
   exact absurd h3 (by decide)
theorem PV {d d' : Ub} {x : Na} {r : List Na} {l : List Ca} (h : RE d) (hq : d.2.2.1 = x :: r) (hs : Yk d x r = some (d', l)) :
 RE d' ∧ d'.2.2.1 = r ∧ l.length ≤ 17 ∧ (∀ y ∈ l, y.2.1.length ≤ 56) := by
 have hF := AR h hq
 have hk := Kx hF.ev
 obtain ⟨n, hn⟩ := jv hk.2.2.1
 have hn' : x.2.1 = (n : Int) := hn
 obtain ⟨m, t, hm, hf⟩ := h.fol
 have hfol : FE (Bc (fun _ s x => Er s x) 0 (x.1, ((m ^^^ 2 ^ n : Nat) : Int)) r) = true := by
  rw [hq] at hf
  simp only [Bc, Er] at hf
  cases ho : Tz (t, (m : Int)) x with
  | false => rw [ho] at hf; exact absurd hf (by simp [FE])
  | true =>
   rw [ho] at hf
   simp only [cond_true, hn', VH (show n ≤ 62 by omega)] at hf
   rw [U5 hm.lt (Px (by omega))] at hf
   rw [FI Er r 0 1]
   exact hf
 have hlen : r.length ≤ 64 := by have := h.len; rw [hq] at this; simp at this; omega
 have hkey : ∀ y ∈ r, y.2.1 < d.1.1.1 := fun y hy => h.key y (by rw [hq]; simp [hy])
 have hp := ((JD d.1.2.2.2.1).1 h.eng.hd).2
 have press : ∀ b : Bool, x.2.2.1 = true → Bn (pE d.1 n b) ∧ Kz (pE d.1 n b).2.2.2.1 (m ^^^ 2 ^ n) ∧ (pR d.1 n b).length ≤ 17 ∧ (∀ y ∈ pR d.1 n b, y.2.1.length ≤ 56) := by
  intro b hd
  have hn2 := hF.down hd
  rw [hn'] at hn2
  have F := KV h.eng (k := n) (by have := hF.key; omega) hn2 b
  refine ⟨F.ok, KY hm (by omega) ?_ _, ?_, fun y hy => ?_⟩
  ·cases hh : Ju d.1.2.2.2.1 n with
   | false => rfl
   | true =>
    simp only [Ju, List.any_eq_true, beq_iff_eq] at hh
    obtain ⟨y, hy, hyk⟩ := hh
    exact absurd hyk (hn2 y hy)
  ·have := BJ (jf (pM d.1 n b) [Hb (pH d.1 n b)]) (Hb d.1.2.2.2.1)
   have h9 := F.ml
   unfold pR
   have : (jf (pM d.1 n b) [Hb (pH d.1 n b)]).length = (pM d.1 n b).length + 1 := by simp
   omega
  ·have := DD _ _ _ hy
   rcases jl.1 (show y ∈ pM d.1 n b ++ [Hb (pH d.1 n b)] from this) with h1 | h1
   ·exact F.mx y h1
   ·rw [qb.1 h1]; exact Az _
 unfold Yk at hs
 cases hd : x.2.2.1 with
 | false =>
  rw [hd] at hs
  simp only [j7, cond_true, jc, jh] at hs
  obtain ⟨rfl, rfl⟩ := hs
  obtain ⟨hi, hi1, hi2⟩ := hF.up hd
  refine ⟨⟨Daj h.eng _, hlen, hkey, _, _, VR hp hm (by omega) hi (by rw [hi2, hn']), hfol⟩, rfl, ?_, fun y hy => ?_⟩
  ·have := BJ [Hb (wo d.1.2.2.2.1 (BC d.1 x.2.1))] (Hb d.1.2.2.2.1)
   unfold rR
   simp only [jw, j6] at this
   omega
  ·have := DD _ _ _ hy
   rw [qb.1 this]; exact Az _
 | true =>
  rw [hd] at hs
  simp only [jg, cond_false, hn', jn] at hs
  cases ht : Fd (Wf d.1.1.2.1 (Uf d.1.1 (Re d.1.2.2.1 d.1.2.2.2.1) n) n) with
  | false =>
   rw [ht] at hs
   simp only [cond_false, jc, jh] at hs
   obtain ⟨rfl, rfl⟩ := hs
   have P := press false hd
   exact ⟨⟨P.1, hlen, hkey, _, _, P.2.1, hfol⟩, rfl, P.2.2⟩
  | true =>
   rw [ht] at hs
   simp only [cond_true] at hs
   revert hs
   generalize (cond ((d.2.2.2.2.2.1 == j4 .i64 ((n : Int) + 1)) && !decide (j4 .i64 (x.1 - d.2.2.2.2.2.2.1) ≥ d.2.1.2.1)) ((1 : Int), x.1) ((Nl d.2.1 (n : Int) x.1 r d.2.2.2.1).1, (Nl d.2.1 (n : Int) x.1 r d.2.2.2.1).2.1)) = ch
   intro hs
   cases h0 : ch.1 == 0 with
   | true => rw [h0] at hs; simp at hs
   | false =>
    rw [h0] at hs
    simp only [cond_false, jc, jh] at hs
    obtain ⟨rfl, rfl⟩ := hs
    have P := press (ch.1 == 2) hd
    exact ⟨⟨P.1, hlen, hkey, _, _, P.2.1, hfol⟩, rfl, P.2.2⟩
theorem OJ {m : Ha} (hz : Ib Pa m ≤ Ja) (hv : Eb m = true) (on : Int) {k : Nat} (hk : (k : Int) < m.1) :
 Wt m on (k : Int) = some (Wf m.2.1 (Uf m on k) k, ()) := by
 have hm := Bf hv
 have hl := QF hm on k
 have hrow := hm.row _ hl
 unfold Wt Xz
 rw [Tk _ hz, hv, Aa (show ¬ (k : Int) < 0 by omega), Aa (show ¬ (k : Int) ≥ m.1 by omega), WA hm _ hk]
 simp only [jb, jg, cond_false]
 rw [Aa (by omega)]
 simp only [cond_false]
 show (jz (Wc m.2.1 ((Uf m on k : Nat) : Int)) _) = _
 rw [AY hl (by omega)]
theorem QX (t : TB) (key at_ : Int) (l : List Na) (til : Int) : (Nl t key at_ l til).1 = 0 ∨ (Nl t key at_ l til).1 = 1 ∨ (Nl t key at_ l til).1 = 2 := by
 have key2 : ∀ (md k' e : Int) (l : List Na) (k : Nat) (s : Int) (r : Int × Int), Bc (fun _ s x => DL md k' e s x) k s l = .inr r → r.1 = 0 ∨ r.1 = 1 ∨ r.1 = 2 := by
  intro md k' e l
  induction l with
  | nil => intro k s r h; simp [Bc] at h
  | cons x l ih =>
   intro k s r h
   simp only [Bc] at h
   revert h
   cases hg : DL md k' e s x with
   | inl s' => intro h; exact ih _ _ _ h
   | inr r' =>
    intro h
    simp only [Sum.inr.injEq] at h
    subst h
    unfold DL at hg
    revert hg
    cases Mj x <;> cases decide (x.1 ≥ e) <;> cases x.2.1 == k' <;> cases x.2.2.1 <;> cases md == 1 <;> cases md == 2 <;> cases Kl s x.2.1 == 1 <;> (intro hg; cases hg) <;> simp
 unfold Nl
 cases Af t && decide (0 ≤ at_ ∧ at_ ≤ 1000000) with
 | false => exact .inl rfl
 | true =>
  simp only [cond_true]
  cases h : W8 t.2.2.1 key (j4 .i64 (at_ + t.1)) l with
  | inl s => cases decide (til ≥ j4 .i64 (at_ + t.1)) <;> simp
  | inr r => exact key2 _ _ _ _ _ _ _ h
theorem Z4 {α : Type} (x : α) (r : List α) (hr : r.length ≤ 64) : Pd (ja (x :: r)) (1 : Int) ((ja (x :: r) : Nat) : Int) = true ∧ Xa (x :: r) (jy (1 : Int)) (jy ((ja (x :: r) : Nat) : Int)) = r := by
 refine ⟨Dr (lo := 1) (by simp) (by simp), ?_⟩
 show List.drop 1 (List.take _ (x :: r)) = r
 rw [jn, List.take_length]; rfl
def Nab (d : Ub) : Option (Ub × List Ca) → Ub × ((List Ca) × (Bool × Unit))
 | none => (d, ([], false, ()))
 | some (d', l) => (d', (l, true, ()))
theorem QL {d : Ub} {x : Na} {r : List Na} (h : RE d) (hq : d.2.2.1 = x :: r) : Sg d = some (Nab d (Yk d x r)) := by
 have h20 : Ja = 1048576 := rfl
 have hF := AR h hq
 have hk := Kx hF.ev
 have hlen : r.length ≤ 64 := by have := h.len; rw [hq] at this; simp at this; omega
 have hz := FQ h.eng
 have hzm := (XL h.eng.km).z
 have hle := Uu h.eng.hd
 obtain ⟨n, hn⟩ := jv hk.2.2.1
 have hn' : x.2.1 = (n : Int) := hn
 obtain ⟨e, t, q, now, clk, tp, ta, u⟩ := d
 obtain ⟨xt, xk, xd, xu⟩ := x
 cases u
 simp only at hq hn' hF hz hzm hle hk
 subst hq
 subst hn'
 have hc := Z4 ((xt, (n : Int), xd, xu) : Na) r hlen
 have hb : jx (ja ([] : List Na) + ja r) Jb = true := ji (by simp; rw [Uh]; omega)
 have i0 : Bj (ja (((xt, (n : Int), xd, xu) : Na) :: r)) (0 : Int) = true := by rw [show (0 : Int) = ((0 : Nat) : Int) from rfl, Vu]; exact Ba (by simp)
 have g0 : (((xt, (n : Int), xd, xu) : Na) :: r)[(jy (0 : Int))]? = some (xt, (n : Int), xd, xu) := rfl
 unfold Sg
 simp only [i0, g0, hc.1, hc.2, hb, cond_true, jb]
 unfold Yk
 cases xd with
 | false =>
  obtain ⟨hi, hi1, hi2⟩ := hF.up rfl
  rw [UJ h.eng hi hi1]
  simp only [j7, cond_true, jb]
  cases tp == j4 .i64 ((n : Int) + 1) <;> rfl
 | true =>
  have hd := hF.down rfl
  have hkey := hF.key
  have hp := fun b => EN h.eng (k := n) hkey hd b
  simp only at hp hkey hd
  have hly := DC (Aae (Bf h.eng.km).l2 h.eng.st) _ (show e.2.2.2.1.length ≤ Ja by omega) h.eng.hd
  simp only at hly
  rw [hly]
  have hch := PJ t (n : Int) xt r now (by omega)
  have hac := OJ (m := e.1) (by omega) h.eng.km (Re e.2.2.1 e.2.2.2.1) hkey
  simp only [jb, jg, cond_false, jn, hac, Vs, hch, hp]
  cases Fd (Wf e.1.2.1 (Uf e.1 (Re e.2.2.1 e.2.2.2.1) n) n) with
  | false => rfl
  | true =>
   simp only [cond_true]
   have hv := QX t (n : Int) xt r now
   have hne : (tp != j4 .i64 ((n : Int) + 1)) = !(tp == j4 .i64 ((n : Int) + 1)) := rfl
   rw [hne]
   cases tp == j4 .i64 ((n : Int) + 1) with
   | false =>
    simp only [j7, cond_true, qk, cond_false]
    rcases hv with hv | hv | hv <;> (rw [hv]; rfl)
   | true =>
    simp only [jg, cond_false, jk]
    cases decide (j4 .i64 (xt - ta) ≥ t.2.1) with
    | true =>
     simp only [jg, cond_true, cond_false]
     rcases hv with hv | hv | hv <;> (rw [hv]; rfl)
    | false => rfl
theorem CT {X R : Type} {step : X → Option (X ⊕ R)} {α S : Type} (xs : List α) (g : S → α → S) (I : S → Nat → X) (out : S → R) (Cg : Nat → S → Prop)
 (h : ∀ k (hk : k < xs.length) s, Cg k s → step (I s k) = some (.inl (I (g s xs[k]) (k + 1))) ∧ Cg (k + 1) (g s xs[k]))
 (he : ∀ s, Cg xs.length s → step (I s xs.length) = some (.inr (out s))) (s0 : S) (h0 : Cg 0 s0) :
 Nb step (I s0 0) = some (out (xs.foldl g s0)) ∧ Cg xs.length (xs.foldl g s0) := by
 have key : ∀ (ys : List α) (k : Nat) (s : S), xs.drop k = ys → k ≤ xs.length → Cg k s → Nb step (I s k) = some (out (ys.foldl g s)) ∧ Cg xs.length (ys.foldl g s) := by
  intro ys
  induction ys with
  | nil =>
   intro k s hd hle hi
   have := FJ hd hle
   subst this
   rw [Pb (he s hi)]
   exact ⟨rfl, hi⟩
  | cons y ys ih =>
   intro k s hd hle hi
   obtain ⟨hk, hy, hd'⟩ := BF hd
   obtain ⟨h1, h2⟩ := h k hk s hi
   rw [Pb h1, hy]
   rw [hy] at h2
   exact ih (k + 1) _ hd' hk h2
 exact key xs 0 s0 rfl (Nat.zero_le _) h0
def Yo (s : List Mf) (w : Int) (l : List Ca) : List Mf := jf s (l.map fun r => ((w, r, ()) : Mf))
theorem NO (w : Int) : ∀ (l : List Ca) (s : List Mf), l.foldl (fun s r => jf s [((w, r, ()) : Mf)]) s = Yo s w l
 | [], s => by simp [Yo]
 | x :: l, s => by
  rw [List.foldl_cons, NO w l]
  simp [Yo]
theorem AP (s : List Mf) (w : Int) (l : List Ca) : (Yo s w l).length = s.length + l.length := by simp [Yo]
theorem KR (s : List Mf) (w : Int) (l : List Ca) (hl : l.length ≤ 1000) (hs : s.length ≤ 1000000) : Nx s w l = some (Yo s w l, ()) := by
 have h := (CT (step := fun x => Au x.1.1 x.1.2.1 x.1.2.2.1 x.1.2.2.2.1 x.1.2.2.2.2.1) l (fun s r => jf s [((w, r, ()) : Mf)])
  (fun o k => ((o, w, (l, (k : Int)), ((ja l : Nat) : Int), (k : Int), ()), ())) (fun o => .inl ((o, ()), ())) (fun k o => o.length = s.length + k) (by
   intro k hk o ho
   refine ⟨?_, by simp [ho]; omega⟩
   simp only [Au]
   rw [Ba (by omega), Vu, Ba hk, jn, je hk]
   simp only [cond_true, jb, Nat.beq_refl]
   rw [show jx (ja o + ja ([(w, l[k], ())] : List Mf)) Jb = true from ji (by simp only [jw, j6]; rw [Uh]; omega)]
   rw [Vd (by omega)]
   rfl) (by
   intro o ho
   simp only [Au]
   rw [Aa (by omega)]; rfl) s rfl).1
 unfold Nx Mu
 erw [h]
 rw [NO]
 rfl
noncomputable def Ff : Nat → Ub → List Mf → Ub × List Mf
 | 0, d, s => (d, s)
 | n + 1, d, s => match d.2.2.1 with
  | [] => (d, s)
  | x :: r => match Yk d x r with
   | none => (d, s)
   | some (d', l) => Ff n d' (Yo s d'.2.2.2.2.1 l)
theorem HI (z : Ub) : ∀ (n : Nat) (d : Ub) (s : List Mf), RE d → d.2.2.1.length ≤ n → s.length + 17 * n ≤ 100000 →
 Ve (((), (), s, ()), (z, d, ())) = some (.inl (((), (), (Ff n d s).2, ()), (z, (Ff n d s).1, ())))
 | n, d, s, h, hl, hs => by
  unfold Ve
  cases hq : d.2.2.1 with
  | nil =>
   have e1 : Ff n d s = (d, s) := by
    cases n with
    | zero => rfl
    | succ n => simp only [Ff, hq]
   have hstep : Yf () () s z d = some (.inr (.inl (((), (), s, ()), (z, d, ())))) := by
    unfold Yf
    rw [hq, Aa (by simp)]; rfl
   erw [Pb hstep]
   rw [e1]; rfl
  | cons x r =>
   have hlen : d.2.2.1.length = r.length + 1 := by rw [hq]; rfl
   cases n with
   | zero => omega
   | succ n =>
    have e1 : Ff (n + 1) d s = match Yk d x r with
     | none => (d, s)
     | some (d', l) => Ff n d' (Yo s d'.2.2.2.2.1 l) := by simp only [Ff, hq]
    rw [e1]
    have hp := QL h hq
    cases hst : Yk d x r with
    | none =>
     have hstep : Yf () () s z d = some (.inr (.inl (((), (), s, ()), (z, d, ())))) := by
      unfold Yf
      rw [Ba (by rw [hlen]; omega)]
      show (jz (Sg d) _) = _
      rw [hp, hst]; rfl
     erw [Pb hstep]; rfl
    | some p =>
     obtain ⟨d', l⟩ := p
     have hn := PV h hq hst
     have hstep : Yf () () s z d = some (.inl (((), (), Yo s d'.2.2.2.2.1 l, ()), (z, d', ()))) := by
      unfold Yf
      rw [Ba (by rw [hlen]; omega)]
      show (jz (Sg d) _) = _
      rw [hp, hst]
      show jz (Nx s d'.2.2.2.2.1 l) _ = _
      rw [KR _ _ _ (by have := hn.2.2.1; omega) (by omega)]
      rfl
     erw [Pb hstep]
     have ih := HI z n d' (Yo s d'.2.2.2.2.1 l) hn.1 (by rw [hn.2.1]; omega) (by rw [AP]; have := hn.2.2.1; omega)
     unfold Ve at ih
     exact ih
def PG : Ub := ((((0 : Int), ([] : List (List Ka)), ()), ([] : List (List Yb)), (0 : Int), ([] : List Ma), (0 : Int), false, ()), ((0 : Int), (0 : Int), (0 : Int), ()), ([] : List Na), (0 : Int), (0 : Int), (0 : Int), (0 : Int), ())
def YX (l : List Na) : Int := (l.headD (0, 0, false, ())).1
def Um (l : List Na) (t : Int) : Bool := ((l.length : Int) == 0) || !decide (YX l < t)
noncomputable def Ks (d : Ub) (l : List Na) (til : Int) : Bool :=
 Se d && (decide (d.2.2.2.1 ≤ til ∧ til ≤ 1000000) && (Um l d.2.2.2.1 && (Wi l til && Yd (jf d.2.2.1 l) (Bu d.1.2.2.2.1) d.1.1.1)))
def Ll (d : Ub) (l : List Na) (til : Int) : Ub := (d.1, d.2.1, jf d.2.2.1 l, til, d.2.2.2.2)
noncomputable def Cu (d : Ub) (l : List Na) (til : Int) : Ub × ((List Mf) × (Bool × Unit)) :=
 cond (Ks d l til) ((Ff (Ll d l til).2.2.1.length (Ll d l til) []).1, (Ff (Ll d l til).2.2.1.length (Ll d l til) []).2, true, ()) (PG, [], false, ())
theorem BR {q : List Na} {d k : Int} (h : Yd q d k = true) : q.length ≤ 64 := by
 simp only [Yd, jd, Up] at h
 by_cases h1 : q.length ≤ 64
 ·exact h1
 ·rw [Aa h1] at h; simp at h
theorem XT {d : Ub} {l : List Na} {til : Int} (hd : Se d = true) (hf : Yd (jf d.2.2.1 l) (Bu d.1.2.2.2.1) d.1.1.1 = true) : RE (Ll d l til) := by
 have he : Bn d.1 := by
  rw [← YB]
  simp only [Se, jd] at hd
  exact hd.1
 obtain ⟨m, hm, hm2⟩ := Aab he.hd
 refine ⟨he, BR hf, ?_, m, 0, hm2, ?_⟩
 ·have h1 := hf
  simp only [Yd, jd, UL] at h1
  have h2 := h1.1
  intro x hx
  have h3 := (YI (p := fun x : Na => !decide (x.2.1 ≥ d.1.1.1))).1 h2 x hx
  simp only [Bool.not_eq_true', decide_eq_false_iff_not] at h3
  show x.2.1 < d.1.1.1
  omega
 ·have := E5 hf
  rw [hm] at this
  exact this
theorem H5 {l : List Na} (h : 0 < l.length) : ∃ x, Wc l (0 : Int) = some x ∧ x.1 = YX l := by
 cases l with
 | nil => simp at h
 | cons x l => exact ⟨x, rfl, rfl⟩
theorem IF (d : Ub) (l : List Na) (til : Int) (hz : Ib We d ≤ Ja) (hl : l.length ≤ 1000000) : Lq d l til = some (Cu d l til) := by
 have h20 : Ja = 1048576 := rfl
 have hz' := hz
 rw [AF, KA] at hz'
 have hz2 := hz'
 rw [Gv, Av] at hz2
 have hlapp : (jf d.2.2.1 l).length = d.2.2.1.length + l.length := by simp
 have hlim : jx (ja d.2.2.1 + ja l) Jb = true := ji (by rw [Uh]; omega)
 unfold Lq Cu
 rw [My _ hz, Py _ _ (by omega), NE _ hz]
 cases hd : Se d with
 | false => rw [show Ks d l til = false by unfold Ks; rw [hd]; rfl]; rfl
 | true =>
  have hh : ∀ x ∈ d.1.2.2.2.1, Et x := by
   have : Ci d.1 = true := by simp only [Se, jd] at hd; exact hd.1
   exact Wu (CI this)
  have h64 : d.2.2.1.length ≤ 64 := by
   simp only [Se, jd] at hd
   exact BR hd.2.2.2.2.1
  rw [Yz _ (by omega) hh]
  simp only [jb, jg, cond_false, hlim, cond_true]
  rw [Qy _ _ _ (by rw [hlapp]; omega)]
  simp only [jb]
  have key : ∀ (K : Option (Ub × ((List Mf) × (Bool × Unit)))), (Yd (jf d.2.2.1 l) (Bu d.1.2.2.2.1) d.1.1.1 = true → K = some ((Ff (Ll d l til).2.2.1.length (Ll d l til) []).1, (Ff (Ll d l til).2.2.1.length (Ll d l til) []).2, true, ())) →
   (cond (decide (til < d.2.2.2.1)) (some (PG, [], false, ())) (cond (decide (til > 1000000)) (some (PG, [], false, ())) (cond (!Um l d.2.2.2.1) (some (PG, [], false, ())) (cond (!Wi l til) (some (PG, [], false, ())) (cond (!Yd (jf d.2.2.1 l) (Bu d.1.2.2.2.1) d.1.1.1) (some (PG, [], false, ())) K))))) =
   some (cond (Ks d l til) ((Ff (Ll d l til).2.2.1.length (Ll d l til) []).1, (Ff (Ll d l til).2.2.1.length (Ll d l til) []).2, true, ()) (PG, [], false, ())) := by
   intro K hK
   unfold Ks
   rw [hd]
   by_cases h1 : til < d.2.2.2.1
   ·rw [Ba h1, Aa (show ¬ (d.2.2.2.1 ≤ til ∧ til ≤ 1000000) by omega)]; rfl
   ·by_cases h2 : til > 1000000
    ·rw [Aa h1, Ba h2, Aa (show ¬ (d.2.2.2.1 ≤ til ∧ til ≤ 1000000) by omega)]; rfl
    ·rw [Aa h1, Aa h2, Ba (show (d.2.2.2.1 ≤ til ∧ til ≤ 1000000) by omega)]
     cases Um l d.2.2.2.1 with
     | false => rfl
     | true =>
      cases Wi l til with
      | false => rfl
      | true =>
       cases hq : Yd (jf d.2.2.1 l) (Bu d.1.2.2.2.1) d.1.1.1 with
       | false => rfl
       | true => exact hK hq
  have hrun : Yd (jf d.2.2.1 l) (Bu d.1.2.2.2.1) d.1.1.1 = true → ∀ z : Ub, Ve (((), (), ([] : List Mf), ()), (z, (d.1, d.2.1, jf d.2.2.1 l, til, d.2.2.2.2), ())) = some (.inl (((), (), (Ff (Ll d l til).2.2.1.length (Ll d l til) []).2, ()), (z, (Ff (Ll d l til).2.2.1.length (Ll d l til) []).1, ()))) := by
   intro hq z
   have h1 := XT (til := til) hd hq
   have := h1.len
   exact HI z _ (Ll d l til) [] h1 (jo _) (by simp; omega)
  by_cases h0 : l.length = 0
  ·have hna : Um l d.2.2.2.1 = true := by unfold Um; rw [h0]; rfl
   rw [Aa (show ¬ ((ja l : Nat) : Int) > 0 by omega)]
   simp only [cond_false]
   simp only [hna, jg, cond_false] at key
   exact key _ (fun hq => by rw [hrun hq]; rfl)
  ·obtain ⟨x, hx, hx1⟩ := H5 (l := l) (by omega)
   have hna : Um l d.2.2.2.1 = !decide (x.1 < d.2.2.2.1) := by
    unfold Um
    rw [show ((l.length : Int) == 0) = false by simp; intro h; rw [h] at h0; simp at h0, hx1]; rfl
   rw [Ba (show ((ja l : Nat) : Int) > 0 by omega), hx]
   simp only [cond_true, jb]
   simp only [hna, Bool.not_not] at key
   exact key _ (fun hq => by rw [hrun hq]; rfl)
def rowN (C m r : Nat) : Nat := (m >>> (r * C)) &&& (2 ^ C - 1)
def Vak (C a b m : Nat) : Nat := cond (rowN C m a &&& rowN C m b != 0) (m ||| rowN C m b <<< (a * C)) m
def g3 (C a : Nat) : Nat → Nat → Nat := fun b m => Vak C a b m
def g2 (C R : Nat) : Nat → Nat → Nat := fun a m => OF (g3 C a) R m
def g1 (C R : Nat) : Nat → Nat → Nat := fun _ m => OF (g2 C R) R m
structure Dim (C R : Nat) : Prop where
 c1 : 1 ≤ C
 c2 : C ≤ 6
 r1 : 1 ≤ R
 r2 : R ≤ 4

structure Xq (c : Cc) : Prop where
 lo : 0 ≤ c.2.1
 hi : c.2.1 ≤ (c.1.length : Int)
 len : c.1.length ≤ Ja
theorem TZ (z : Int) : 0 ≤ Rg .i64 z 255 ∧ Rg .i64 z 255 ≤ 255 := by
 have h : (BitVec.ofInt 64 z &&& BitVec.ofInt 64 255).toNat ≤ 255 := by
  rw [BitVec.toNat_and]
  exact Nat.and_le_right
 show 0 ≤ j4 .i64 ((BitVec.ofInt 64 z &&& BitVec.ofInt 64 255).toNat : Int) ∧ j4 .i64 ((BitVec.ofInt 64 z &&& BitVec.ofInt 64 255).toNat : Int) ≤ 255
 rw [Qd (by omega) (by omega)]
 omega
theorem GH {c : Cc} (h : Xq c) : ∃ (c' : Cc) (x : Int), Jk c = some (c', (x, ())) ∧ Xq c' ∧ 0 ≤ x ∧ x ≤ 255 := by
 have h20 : Ja = 1048576 := rfl
 have h1 := h.lo
 have h2 := h.len
 unfold Jk
 by_cases hi : c.2.1 < ((ja c.1 : Nat) : Int)
 ·obtain ⟨k, hk⟩ := jv h1
  rw [Ba hi, hk, Dc (show k < c.1.length by omega)]
  refine ⟨_, _, rfl, ⟨?_, ?_, h2⟩, TZ _⟩
  ·show 0 ≤ j4 .i64 ((k : Int) + 1)
   rw [Vd (by omega)]; omega
  ·show j4 .i64 ((k : Int) + 1) ≤ _
   rw [Vd (by omega)]; show _ ≤ ((ja c.1 : Nat) : Int); omega
 ·rw [Aa hi]
  exact ⟨_, _, rfl, ⟨h1, h.hi, h2⟩, TZ _⟩
theorem Hu {c : Cc} (h : Xq c) (n : Int) (hn : 0 < n) : ∃ (c' : Cc) (x : Int), Zg c n = some (c', (x, ())) ∧ Xq c' ∧ 0 ≤ x ∧ x < n := by
 obtain ⟨c1, x1, e1, h1, b1⟩ := GH h
 unfold Zg
 rw [Aa (show ¬ n ≤ 0 by omega), e1, show (n == 0) = false by simp; omega]
 simp only [cond_false, jb]
 by_cases h256 : n ≤ 256
 ·rw [Ba h256]
  exact ⟨_, _, rfl, h1, Int.tmod_nonneg _ (by omega), Int.tmod_lt_of_pos _ hn⟩
 ·obtain ⟨c2, x2, e2, h2, b2⟩ := GH h1
  obtain ⟨c3, x3, e3, h3, b3⟩ := GH h2
  obtain ⟨c4, x4, e4, h4, b4⟩ := GH h3
  rw [Aa h256, e2]
  simp only [cond_false, jb]
  rw [e3]
  simp only [jb]
  rw [e4]
  simp only [jb]
  rw [Qd (n := x1 * 16777216) (by omega) (by omega), Qd (n := x2 * 65536) (by omega) (by omega), Qd (n := x3 * 256) (by omega) (by omega), Qd (n := x1 * 16777216 + x2 * 65536) (by omega) (by omega), Qd (n := x1 * 16777216 + x2 * 65536 + x3 * 256) (by omega) (by omega), Qd (n := x1 * 16777216 + x2 * 65536 + x3 * 256 + x4) (by omega) (by omega)]
  exact ⟨_, _, rfl, h4, Int.tmod_nonneg _ (by omega), Int.tmod_lt_of_pos _ hn⟩
theorem Dab {c : Cc} (h : Xq c) (n : Int) (hn : 0 < n) : ∃ (c' : Cc) (b : Bool), Dx c n = some (c', (b, ())) ∧ Xq c' := by
 obtain ⟨c1, x1, e1, h1, b1⟩ := Hu h n hn
 unfold Dx
 rw [e1]
 exact ⟨_, _, rfl, h1⟩
theorem Oab {c : Cc} (h : Xq c) (l : List Int) (hl : 0 < l.length) (h2 : l.length ≤ 1000) : ∃ (c' : Cc) (x : Int), Ps c l = some (c', (x, ())) ∧ Xq c' ∧ x ∈ l := by
 obtain ⟨c1, x1, e1, h1, b1⟩ := Hu h ((ja l : Nat) : Int) (by omega)
 unfold Ps
 rw [e1]
 obtain ⟨k, rfl⟩ := jv b1.1
 have hk : k < l.length := by omega
 simp only [jb]
 rw [Vu, Ba hk, jn, je hk]
 exact ⟨_, _, rfl, h1, qn hk⟩
theorem Oaf (a : List Int) (hn : a.length ≤ Ja) : ∃ h : Int, Dz a = some (a, (0, (h, ()))) := by
 have h20 : Ja = 1048576 := rfl
 have := BB (s := fun x : (List Int × (Int × (Int × Unit))) × Unit => Qw x.1.1 x.1.2.1 x.1.2.2.1) (fun n x => ∃ (h : Int) (k : Nat), x = ((a, h, (k : Int), ()), ()) ∧ n + k = a.length) (fun r => ∃ h : Int, r = .inl ((a, h, ()), ())) (by
  rintro n x ⟨h, k, rfl, hk⟩
  simp only [Qw]
  by_cases h1 : (k : Int) < ((ja a : Nat) : Int)
  ·rw [Ba h1]
   by_cases h2 : (k : Int) < 4000
   ·rw [Ba h2, Dc (show k < a.length by omega), Vd (by omega)]
    exact .inr ⟨_, n - 1, by omega, rfl, _, k + 1, rfl, by omega⟩
   ·rw [Aa h2]; exact .inl ⟨_, rfl, _, rfl⟩
  ·rw [Aa h1]; exact .inl ⟨_, rfl, _, rfl⟩) a.length ((a, j4 .i64 (10729 + ((ja a : Nat) : Int)), ((0 : Nat) : Int), ()), ()) ⟨_, 0, rfl, rfl⟩
 obtain ⟨r, h1, h, rfl⟩ := this
 refine ⟨h, ?_⟩
 unfold Dz Dt
 erw [h1]
 rfl
theorem XR (a : List Int) (n : Int) (hn : a.length ≤ Ja) : ∃ c : Cc, Pt a n = some c ∧ Xq c := by
 obtain ⟨h, e⟩ := Oaf a hn
 unfold Pt
 rw [e]
 exact ⟨_, rfl, ⟨Int.le_refl _, by show (0 : Int) ≤ _; omega, hn⟩⟩



def P3 (p : List Int) : Bool := Td (fun _ w => decide (0 ≤ w ∧ w ≤ 65535)) 0 p
def E9 (p : List Int) (e : Int) : Bool := ((p.length : Int) == 19) && decide (0 ≤ e ∧ e ≤ 1000) && P3 p
def NR (f : Je) : Bool := match f.1, f.2.1 with
 | [p, q], [d, e] => E9 p d && E9 q e
 | _, _ => false
def Z8 (h : Int) : Bool := decide (1 ≤ h ∧ h ≤ 60000)
def Q9 (h0 h1 : Int) : Int := cond (Z8 h1) (cond (Z8 h0) (cond (decide (h1 > h0)) 1 0) 1) (cond (Z8 h0) 0 (-1))
def Ln (f : Je) : Int := cond (NR f) (match f.1 with
 | [h0 :: _, h1 :: _] => Q9 h0 h1
 | _ => -1) (-1)
def LD (s v : Int) : Bool := decide (0 ≤ s ∧ s ≤ 3 ∧ 0 ≤ v ∧ v ≤ 9999)
def ZZ (s v h : Int) : Int := cond (LD s v && Z8 h) ((7 * s + 13 * v + 31 * h + 5).tmod 60000) 65535
def wd (w : List Int) (n : Nat) : Int := w.getD n 0
def Naf (s : Int) (w : List Int) (i : Nat) : Bool :=
 LD (wd w (1 + 3 * i)) (wd w (2 + 3 * i)) && (wd w (1 + 3 * i) == s) && (wd w (3 + 3 * i) == ZZ (wd w (1 + 3 * i)) (wd w (2 + 3 * i)) (wd w 0))
def IS (s : Int) (w : List Int) : Nat → Option Int
 | 0 => none
 | n + 1 => cond (Naf s w n) (some (wd w (2 + 3 * n))) (IS s w n)
def SD (f : Je) (s : Int) : Option Int := cond (decide (Ln f < 0)) none (IS s ((f.1.getD (Ln f).toNat [])) 6)
def Uaf (o : Option Int) : Int × Bool := match o with
 | some v => (v, true)
 | none => (0, false)
structure N9 (f : Je) : Prop where
 l1 : f.1.length = 2
 l2 : f.2.1.length = 2
 pg : ∀ i (h1 : i < f.1.length) (h2 : i < f.2.1.length), f.1[i].length = 19 ∧ 0 ≤ f.2.1[i] ∧ f.2.1[i] ≤ 1000 ∧ P3 f.1[i] = true
def zF : Je := ([], [], ())
def CK (o : Mi) : Nat := o.2.1.toNat
def doB (f : Je) (o : Mi) : Bool :=
 NR f && (decide (0 ≤ o.2.1 ∧ o.2.1 ≤ 1) && cond o.1 (decide (o.2.2.1 = 0 ∧ o.2.2.2.1 = 0 ∧ f.2.1.getD (CK o) 0 < 1000))
  (decide (0 ≤ o.2.2.1 ∧ o.2.2.1 ≤ 18 ∧ 0 ≤ o.2.2.2.1 ∧ o.2.2.2.1 ≤ 65534 ∧ (f.1.getD (CK o) []).getD o.2.2.1.toNat 0 = 65535)))
def doF (f : Je) (o : Mi) : Je :=
 cond o.1 (f.1.set (CK o) (List.replicate 19 65535), f.2.1.set (CK o) (f.2.1.getD (CK o) 0 + 1), ())
  (f.1.set (CK o) ((f.1.getD (CK o) []).set o.2.2.1.toNat o.2.2.2.1), f.2.1, ())

def FS (f : Je) (ops : List Mi) : Je ⊕ Unit := Bc (fun _ s o => cond (doB s o) (.inl (doF s o)) (.inr ())) 0 f ops
def Oao (r : Je ⊕ Unit) : Je × Bool × Unit := r.elim (fun g => (g, true, ())) (fun _ => (zF, false, ()))
def Xaf (page : Int) (at' : Nat) (s v h : Int) : List Mi :=
 [(false, page, ((1 + 3 * at' : Nat) : Int), s, ()), (false, page, ((2 + 3 * at' : Nat) : Int), v, ()), (false, page, ((3 + 3 * at' : Nat) : Int), ZZ s v h, ())]
def V9 (w : List Int) (n : Nat) : Bool := (wd w (3 * n + 1) == 65535) && ((wd w (3 * n + 2) == 65535) && (wd w (3 * n + 3) == 65535))
def NJ (w : List Int) : Nat → Nat
 | 0 => 0
 | n + 1 => cond (V9 w n) (NJ w n) (n + 1)
def Bar (f : Je) (s v : Int) (k : Nat) : Option Int := cond ((k : Int) == s) (some v) (SD f (k : Int))
def Rao (f : Je) (s v page h : Int) (k : Nat) (st : List Mi × Nat) : List Mi × Nat := match Bar f s v k with
 | some x => (jf st.1 (Xaf page st.2 (k : Int) x h), st.2 + 1)
 | none => st
def Yad (page : Int) : Mi := (true, page, 0, 0, ())
def Cab (f : Je) (s v page h : Int) : List Mi × Nat := OF (Rao f s v page h) 4 ([Yad page], 0)
def Zai (page h : Int) : Mi := (false, page, 0, h, ())
def MV (f : Je) : List Int := f.1.getD (Ln f).toNat []
def NS (f : Je) (s v : Int) : List Mi × Bool :=
 cond (decide (Ln f < 0)) ([], false) (cond (!LD s v) ([], false)
  (cond (decide (NJ (MV f) 6 < 6)) (Xaf (Ln f) (NJ (MV f) 6) s v (wd (MV f) 0), true)
   (cond (decide (wd (MV f) 0 ≥ 60000)) ([], false) (cond (decide (f.2.1.getD (1 - Ln f).toNat 0 ≥ 1000)) ([], false)
    (jf (Cab f s v (1 - Ln f) (wd (MV f) 0 + 1)).1 [Zai (1 - Ln f) (wd (MV f) 0 + 1)], true)))))
def Qao (f : Je) (P : Int) : List Int := f.1.getD P.toNat []
def Aar (t : Yb) : Bool := decide (1 ≤ t.1 ∧ t.1 ≤ 1000 ∧ 0 ≤ t.2.1 ∧ t.2.1 ≤ 1000 ∧ 0 ≤ t.2.2.1 ∧ t.2.2.1 ≤ 2)
abbrev J8 : Type := List Mi × Je
def Wak (k : Nat) (st : J8) (x : Int) : J8 ⊕ Unit :=
 cond ((Uaf (SD st.2 (k : Int))).2 && ((Uaf (SD st.2 (k : Int))).1 == x)) (.inl st)
  (cond (NS st.2 (k : Int) x).2 (.inl (jf st.1 (NS st.2 (k : Int) x).1, (Oao (FS st.2 (NS st.2 (k : Int) x).1)).1)) (.inr ()))
def Fag (t : Yb) : List Int := [t.1, t.2.1, t.2.2.1]
def WY (f : Je) (t : Yb) : List Mi × Bool := cond (!Aar t) ([], false) (cond (decide (Ln f < 0)) ([], false) ((Bc Wak 0 (([], f) : J8) (Fag t)).elim (fun st => (st.1, true)) (fun _ => ([], false))))
def Lao (f : Je) (P : Int) : Int := f.2.1.getD P.toNat 0
def Mao (f : Je) (P : Int) : Int := wd (Qao f P) 0
def isP (P : Int) : Prop := P = 0 ∨ P = 1
structure QK (f : Je) (c : Int) : Prop where
 ok : N9 f
 pg : isP (Ln f)
 hd : Mao f (Ln f) ≤ c + 1
 er : ∀ P, isP P → Lao f P ≤ c
structure Ias (f g : Je) (s v c : Int) (whole : Bool) : Prop where
 good : QK g (c + 1)
 rd : ∀ σ : Int, 0 ≤ σ ∧ σ ≤ 3 → SD g σ = cond (whole && (σ == s)) (some v) (SD f σ)
def YW (f : Je) (t : Yb) (j : Nat) (g : Je) : Prop := ∀ σ : Nat, σ ≤ 3 → SD g (σ : Int) = if σ < j then some ((Fag t).getD σ 0) else SD f (σ : Int)
structure Aas (f : Je) (t : Yb) (c : Int) (k : Nat) (st : J8) : Prop where
 run : FS f st.1 = .inl st.2
 good : QK st.2 (c + k)
 prog : YW f t k st.2
 cut : ∀ n, ∃ (x : Je) (j : Nat), FS f (st.1.take n) = .inl x ∧ QK x (c + k) ∧ j ≤ k ∧ YW f t j x
structure Bas (f : Je) (t : Yb) (c : Int) (g : Je) : Prop where
 ok : (WY f t).2 = true
 run : FS f (WY f t).1 = .inl g
 good : QK g (c + 3)
 prog : YW f t 3 g
 cut : ∀ n, ∃ (x : Je) (j : Nat), FS f ((WY f t).1.take n) = .inl x ∧ QK x (c + 3) ∧ j ≤ 3 ∧ YW f t j x

theorem WZ {a : List Int} (h : a.length ≤ Ja) : Jw a = some (false, ()) := by
 have h20 : Ja = 1048576 := rfl
 unfold Jw
 rw [Aa (by omega)]
theorem P4 {a : List Int} (h : ¬ a.length ≤ Ja) : Jw a = some (true, ()) := by
 have h20 : Ja = 1048576 := rfl
 unfold Jw
 rw [Ba (by omega)]

theorem Zaq (n : Nat) : VI n 0 0 := ⟨by omega, by have := Nat.two_pow_pos n; omega, by decide, by omega, by omega⟩
theorem HH {m : Ha} (hm : Eb m = true) : Bn (Dd m 0 0 false []) :=
 (YB _).1 (TX hm (Zaq _) false Aaj (by simp))
theorem IP {m : Ha} (hm : Eb m = true) : Lk m [] = some (Dd m 0 0 false [], true, ()) := by
 have h20 : Ja = 1048576 := rfl
 have hz := (XL hm).z
 have he := HH hm
 have hz2 := FQ he
 unfold Lk
 rw [Lr _ (by omega), Mr [] (by show (0 : Nat) ≤ _; omega)]
 simp only [jb]
 have : Lj (m, ([] : List (List Yb)), (0 : Int), ([] : List Ma), (0 : Int), false, ()) = some (true, ()) := by
  rw [← (YB _).2 he]
  exact Ku (Dd m 0 0 false []) (by omega)
 rw [this]
 rfl
theorem GP (a : List Int) (hn : a.length ≤ Ja) : ∃ t : Yb, Uq a = some (t, ()) ∧ Af t = true ∧ t.1 ≤ 9 := by
 obtain ⟨c, e, hc⟩ := XR a 9 hn
 obtain ⟨c1, x1, e1, h1, b1⟩ := Hu hc 9 (by omega)
 obtain ⟨c2, x2, e2, h2, b2⟩ := Oab h1 [(0 : Int), (0 : Int), (3 : Int), (6 : Int)] (by simp) (by simp)
 obtain ⟨c3, x3, e3, h3, b3⟩ := Hu h2 3 (by omega)
 unfold Uq
 rw [e]
 simp only [jb]
 unfold Pw
 rw [e1]
 simp only [jb]
 rw [e2]
 simp only [jb]
 rw [e3]
 simp only [jb]
 rw [Qd (by omega) (by omega)]
 have hx2 : x2 = 0 ∨ x2 = 3 ∨ x2 = 6 := by simpa using b2
 refine ⟨_, rfl, ?_, by show 1 + x1 ≤ 9; omega⟩
 simp only [Af, jd, decide_eq_true_eq]
 exact ⟨by omega, by omega, by omega⟩
def Om (e : Lb) (t : Yb) : Ub := (e, t, ([] : List Na), (0 : Int), (0 : Int), (0 : Int), (0 : Int), ())
theorem CR (d k : Int) : Yd [] d k = true := rfl
theorem CO {e : Lb} (he : Bn e) {t : Yb} (ht : Af t = true) {q : List Na} {now clock tp ta : Int} (hn : 0 ≤ now ∧ now ≤ 1000000) (hc : 0 ≤ clock ∧ clock ≤ now)
 (hq : Yd q (Bu e.2.2.2.1) e.1.1 = true) (hb : Wi q now = true) (htp : 0 ≤ tp ∧ tp ≤ e.1.1) (hta : 0 ≤ ta ∧ ta ≤ now) : Se (e, t, q, now, clock, tp, ta, ()) = true := by
 unfold Se
 simp only [jd, decide_eq_true_eq]
 exact ⟨(YB e).2 he, ht, hn, hc, hq, hb, htp, hta⟩
theorem JO {α : Type} (p : α → Bool) : ∀ (l : List α) (k : Nat), (∀ x ∈ l, p x = false) → Gc p k l = -1
 | [], _, _ => rfl
 | x :: l, k, h => by
  simp only [Gc, h x (by simp), cond_false]
  exact JO p l (k + 1) fun y hy => h y (jr _ hy)


theorem PX {t : Yb} (ht : Af t = true) {k : Nat} (hk : k ≤ 31) {a u til : Int} (ha : 0 ≤ a) (hau : a ≤ u) (hu : u < a + t.1) (h6 : u ≤ 1000000) (P : List Na) :
 Nl t (k : Int) a ((u, (k : Int), false, ()) :: P) til = (1, u, ()) := by
 have h := ht
 simp only [Af, jd, decide_eq_true_eq] at h
 unfold Nl
 rw [ht, Ba (show 0 ≤ a ∧ a ≤ 1000000 by omega), Qd (n := a + t.1) (by omega) (by omega)]
 have : DL t.2.2.1 (k : Int) (a + t.1) 0 (u, (k : Int), false, ()) = .inr (1, u) := by
  unfold DL Mj
  simp only
  rw [Ba (show 0 ≤ u ∧ u ≤ 1000000 by omega), Ba (show (0 : Int) ≤ (k : Int) ∧ (k : Int) ≤ 31 by omega), Aa (show ¬ u ≥ a + t.1 by omega), show ((k : Int) == (k : Int)) = true by simp]
  rfl
 unfold W8
 simp only [Bc, this]
 rfl
theorem Mw (S : List Mf) (w : Int) (R : List Ca) : (Yo S w R).map (fun x => x.2.1) = jf (S.map (fun x => x.2.1)) R := by simp [Yo, Function.comp_def]
def MS {X R : Type} (step : X → Option (X ⊕ R)) : Nat → X → Option R
 | 0, _ => none
 | n + 1, x => match step x with
  | some (.inl y) => MS step n y
  | some (.inr r) => some r
  | none => none
theorem LN {X R : Type} {step : X → Option (X ⊕ R)} : ∀ (n : Nat) {x : X} {r : R}, MS step n x = some r → Nb step x = some r
 | 0, _, _, h => by simp [MS] at h
 | n + 1, x, r, h => by
  unfold MS at h
  cases hs : step x with
  | none => rw [hs] at h; simp at h
  | some z =>
   rw [hs] at h
   rw [Pb hs]
   cases z with
   | inl y => exact LN n h
   | inr r' => exact h
def Ww : List (List UInt8) := [[97], [98], [99], [100], [101], [102], [103], [104], [105], [106], [107], [108], [109], [110], [111], [112], [113], [114], [115], [116], [117], [118], [119], [120], [121], [122], [49], [50], [51], [52], [53], [54], [55], [56], [57], [48], [101, 110, 116, 101, 114], [101, 115, 99], [98, 97, 99, 107], [116, 97, 98], [115, 112, 97, 99, 101], [109, 105, 110, 117, 115], [101, 113, 117, 97, 108], [108, 101, 102, 116], [114, 105, 103, 104, 116], [117, 112], [100, 111, 119, 110], [102, 49], [102, 50], [102, 51], [102, 52], [102, 53], [102, 54], [102, 55], [102, 56], [102, 57]]
def EZ : List (List UInt8) := [[], [97], [98], [99], [100], [101], [102], [103], [104], [105], [106], [107], [108], [109], [110], [111], [112], [113], [114], [115], [116], [117], [118], [119], [120], [121], [122], [49], [50], [51], [52], [53], [54], [55], [56], [57], [48], [10], [], [], [9], [32], [45], [61], [], [], [], [], [], [], [], [], [], [], [], [], []]
def FZ : List (List UInt8) := [[], [65], [66], [67], [68], [69], [70], [71], [72], [73], [74], [75], [76], [77], [78], [79], [80], [81], [82], [83], [84], [85], [86], [87], [88], [89], [90], [33], [64], [35], [36], [37], [94], [38], [42], [40], [41], [10], [], [], [9], [32], [95], [43], [], [], [], [], [], [], [], [], [], [], [], [], []]
theorem BZ : Yv = some (Ww, ()) := by
 unfold Yv Ug Eg
 erw [LN 400 (r := .inl ((Ww, ()), ())) (by kernel_rfl)]
 rfl
theorem DY : strings_Split Hy [32] = some (Ww, ()) := by kernel_rfl
def Jj (c : Int) : List UInt8 := cond (decide (1 ≤ c ∧ c ≤ 56)) (Ww.getD (c - 1).toNat []) []
theorem D0 : Ww.length = 56 := by decide +kernel
theorem EV {c : Int} (h : 1 ≤ c ∧ c ≤ 56) : Ww[(c - 1).toNat]? = some (Jj c) ∧ Bj Ww.length (c - 1) = true := by
 have hl : (c - 1).toNat < Ww.length := by rw [D0]; omega
 constructor
 ·unfold Jj
  rw [Ba h, cond_true, qg, je hl]; rfl
 ·have : c - 1 = (((c - 1).toNat : Nat) : Int) := by omega
  rw [this, Vu]; exact Ba hl
theorem Vz (c : Int) : Ec c = some (Jj c, ()) := by
 unfold Ec
 by_cases h1 : c < 1
 ·rw [Ba h1]; unfold Jj; rw [Aa (show ¬ (1 ≤ c ∧ c ≤ 56) by omega)]; rfl
 rw [Aa h1]
 by_cases h2 : c > 56
 ·rw [Ba h2]; unfold Jj; rw [Aa (show ¬ (1 ≤ c ∧ c ≤ 56) by omega)]; rfl
 rw [Aa h2, DY]
 obtain ⟨e1, e2⟩ := EV (c := c) (by omega)
 simp only [cond_false, jb]
 rw [Qd (by omega) (by omega), e1, e2]
 rfl
theorem Zk (c : Int) : Gf c = some (Jj c, ()) := by
 unfold Gf
 rw [Lf]
 by_cases h : 1 ≤ c ∧ c ≤ 56
 ·rw [Ba h, BZ]
  obtain ⟨e1, e2⟩ := EV h
  simp only [jg, cond_false, jb]
  rw [Qd (by omega) (by omega), e1, e2]
  rfl
 ·rw [Aa h]; unfold Jj; rw [Aa h]; rfl
def Tj (c m : Int) : List UInt8 := cond (m == 0) (EZ.getD c.toNat []) (cond (m == 2) (FZ.getD c.toNat []) [])
theorem VQ {c : Int} (h : ¬ (1 ≤ c ∧ c ≤ 56)) (m : Int) : Tj c m = [] := by
 have h0 : EZ.getD c.toNat [] = [] ∧ FZ.getD c.toNat [] = [] := by
  by_cases hc : c < 1
  ·rw [show c.toNat = 0 by omega]; exact ⟨rfl, rfl⟩
  ·have l0 : EZ.length = 57 := by decide +kernel
   have l2 : FZ.length = 57 := by decide +kernel
   rw [qg, qg, List.getElem?_eq_none (by omega), List.getElem?_eq_none (by omega)]
   exact ⟨rfl, rfl⟩
 unfold Tj
 rw [h0.1, h0.2]
 cases m == 0 <;> cases m == 2 <;> rfl
theorem BY : ∀ c : Fin 57, Lh (c.val : Int) 0 = some (Tj c.val 0, ()) := by
 intro c
 simp only [Lh, Pi, Vz, jb]
 revert c
 decide +kernel
theorem CY : ∀ c : Fin 57, Lh (c.val : Int) 2 = some (Tj c.val 2, ()) := by
 intro c
 simp only [Lh, Pi, Vz, jb]
 revert c
 decide +kernel
theorem ZY : ∀ c : Fin 57, Yi (c.val : Int) 0 = some (Tj c.val 0, ()) := by
 intro c
 simp only [Yi, Lf, Zk, jb]
 revert c
 decide +kernel
theorem AZ : ∀ c : Fin 57, Yi (c.val : Int) 2 = some (Tj c.val 2, ()) := by
 intro c
 simp only [Yi, Lf, Zk, jb]
 revert c
 decide +kernel
theorem Fw (c m : Int) : Lh c m = some (Tj c m, ()) := by
 by_cases hc : 1 ≤ c ∧ c ≤ 56
 ·by_cases h0 : m = 0
  ·subst h0
   have := BY ⟨c.toNat, by omega⟩
   rwa [show ((⟨c.toNat, by omega⟩ : Fin 57).val : Int) = c by show ((c.toNat : Nat) : Int) = c; omega] at this
  ·by_cases h2 : m = 2
   ·subst h2
    have := CY ⟨c.toNat, by omega⟩
    rwa [show ((⟨c.toNat, by omega⟩ : Fin 57).val : Int) = c by show ((c.toNat : Nat) : Int) = c; omega] at this
   ·have e : Tj c m = [] := by
     unfold Tj
     rw [show (m == 0) = false by simpa using h0, show (m == 2) = false by simpa using h2]; rfl
    rw [e]
    unfold Lh
    rw [Pi, Ba hc, show (m != 0) = true by simpa using h0, show (m != 2) = true by simpa using h2]
    rfl
 ·rw [VQ hc]
  unfold Lh
  rw [Pi, Aa hc]
  rfl
theorem A6 : ∀ m : Fin 16, m.val ≠ 0 → m.val ≠ 2 → (Gj .i64 (m.val : Int) 2 != 0) = true := by decide +kernel
theorem OC (c m : Int) : Yi c m = some (Tj c m, ()) := by
 by_cases hc : 1 ≤ c ∧ c ≤ 56
 ·by_cases h0 : m = 0
  ·subst h0
   have := ZY ⟨c.toNat, by omega⟩
   rwa [show ((⟨c.toNat, by omega⟩ : Fin 57).val : Int) = c by show ((c.toNat : Nat) : Int) = c; omega] at this
  ·by_cases h2 : m = 2
   ·subst h2
    have := AZ ⟨c.toNat, by omega⟩
    rwa [show ((⟨c.toNat, by omega⟩ : Fin 57).val : Int) = c by show ((c.toNat : Nat) : Int) = c; omega] at this
   ·have e : Tj c m = [] := by
     unfold Tj
     rw [show (m == 0) = false by simpa using h0, show (m == 2) = false by simpa using h2]; rfl
    rw [e]
    unfold Yi
    rw [Lf, Ba hc, Lf]
    by_cases hm : 0 ≤ m ∧ m ≤ 15
    ·have := A6 ⟨m.toNat, by omega⟩ (by show m.toNat ≠ 0; omega) (by show m.toNat ≠ 2; omega)
     rw [show ((⟨m.toNat, by omega⟩ : Fin 16).val : Int) = m by show ((m.toNat : Nat) : Int) = m; omega] at this
     rw [Ba hm, this]
     rfl
    ·rw [Aa hm]; rfl
 ·rw [VQ hc]
  unfold Yi
  rw [Lf, Aa hc]
  rfl
def Cl (s : List UInt8) (m : Int) : Nat → Nat → Option Nat
 | 0, _ => none
 | n + 1, c => cond (Tj (c : Int) m == s) (some c) (Cl s m n (c + 1))
def Sb (ch : Int) : Ab :=
 match Cl (Pf [ch]) 0 56 1 with
 | some k => ((k : Int), 0, ())
 | none => match Cl (Pf [ch]) 2 56 1 with
  | some k => ((k : Int), 2, ())
  | none => (0, 0, ())
theorem Dy (ch m : Int) : ∀ (n c : Nat), c + n = 57 → Me ((ch, m, (c : Int), ()), ()) = some (match Cl (Pf [ch]) m n c with | some k => .inr (((k : Int), m, ()), ()) | none => .inl ((ch, m, ()), ()))
 | 0, c, h => by
  have hs : Ri ch m (c : Int) = some (.inr (.inl ((ch, m, ()), ()))) := by
   unfold Ri
   rw [Aa (by omega)]; rfl
  unfold Me
  rw [Pb hs]
  rfl
 | n + 1, c, h => by
  cases hb : (Tj (c : Int) m == Pf [ch]) with
  | true =>
   have hs : Ri ch m (c : Int) = some (.inr (.inr (((c : Int), m, ()), ()))) := by
    unfold Ri
    rw [Ba (by omega), OC]
    simp only [cond_true, jb, hb]
   unfold Me
   rw [Pb hs]
   simp only [Cl, hb, cond_true]
   rfl
  | false =>
   have hs : Ri ch m (c : Int) = some (.inl ((ch, m, ((c + 1 : Nat) : Int), ()), ())) := by
    unfold Ri
    rw [Ba (by omega), OC, Vd (by omega)]
    simp only [cond_true, jb, hb]
    rfl
   have ih := Dy ch m n (c + 1) (by omega)
   unfold Me at ih ⊢
   rw [Pb hs]
   simp only [Cl, hb, cond_false]
   exact ih
theorem Ay (ch m : Int) (l : List Int) (u v : Int) : ∀ (n c : Nat), c + n = 57 → Le ((ch, m, (c : Int), l, u, v, ()), ()) = some (match Cl (Pf [ch]) m n c with | some k => .inr (((k : Int), m, ()), ()) | none => .inl ((ch, l, u, v, ()), ()))
 | 0, c, h => by
  have hs : Oi ch m (c : Int) l u v = some (.inr (.inl ((ch, l, u, v, ()), ()))) := by
   unfold Oi
   rw [Aa (by omega)]; rfl
  unfold Le
  rw [Pb hs]
  rfl
 | n + 1, c, h => by
  cases hb : (Tj (c : Int) m == Pf [ch]) with
  | true =>
   have hs : Oi ch m (c : Int) l u v = some (.inr (.inr (((c : Int), m, ()), ()))) := by
    unfold Oi
    rw [Ba (by omega), Fw]
    simp only [cond_true, jb, hb]
   unfold Le
   rw [Pb hs]
   simp only [Cl, hb, cond_true]
   rfl
  | false =>
   have hs : Oi ch m (c : Int) l u v = some (.inl ((ch, m, ((c + 1 : Nat) : Int), l, u, v, ()), ())) := by
    unfold Oi
    rw [Ba (by omega), Fw, Vd (by omega)]
    simp only [cond_true, jb, hb]
    rfl
   have ih := Ay ch m l u v n (c + 1) (by omega)
   unfold Le at ih ⊢
   rw [Pb hs]
   simp only [Cl, hb, cond_false]
   exact ih
theorem HE (ch : Int) : Bz ch = some (Sb ch) := by
 have i0 := Dy ch 0 56 1 rfl
 have i2 := Dy ch 2 56 1 rfl
 unfold Bz Sb
 unfold Bt
 cases h0 : Cl (Pf [ch]) 0 56 1 with
 | some k =>
  rw [h0] at i0
  have hs : Kf ch 0 = some (.inr (.inr (((k : Int), 0, ()), ()))) := by
   unfold Kf
   rw [Ba (by omega), show Me ((ch, 0, (1 : Int), ()), ()) = _ from i0]; rfl
  rw [Pb hs]; rfl
 | none =>
  rw [h0] at i0
  have hs : Kf ch 0 = some (.inl ((ch, 2, ()), ())) := by
   unfold Kf
   rw [Ba (by omega), show Me ((ch, 0, (1 : Int), ()), ()) = _ from i0]; rfl
  rw [Pb hs]
  cases h2 : Cl (Pf [ch]) 2 56 1 with
  | some k =>
   rw [h2] at i2
   have hs2 : Kf ch 2 = some (.inr (.inr (((k : Int), 2, ()), ()))) := by
    unfold Kf
    rw [Ba (by omega), show Me ((ch, 2, (1 : Int), ()), ()) = _ from i2]; rfl
   show jz (Nb _ ((ch, 2, ()), ())) _ = _
   rw [Pb hs2]; rfl
  | none =>
   rw [h2] at i2
   have hs2 : Kf ch 2 = some (.inl ((ch, 4, ()), ())) := by
    unfold Kf
    rw [Ba (by omega), show Me ((ch, 2, (1 : Int), ()), ()) = _ from i2]; rfl
   have hs4 : Kf ch 4 = some (.inr (.inl ((), ()))) := by
    unfold Kf
    rw [Aa (by omega)]; rfl
   show jz (Nb _ ((ch, 2, ()), ())) _ = _
   rw [Pb hs2]
   show jz (Nb _ ((ch, 4, ()), ())) _ = _
   rw [Pb hs4]; rfl
theorem EE (ch : Int) : Lv ch = some (Sb ch) := by
 have i0 := Ay ch 0 [0, 2] 2 0 56 1 rfl
 have i2 := Ay ch 2 [0, 2] 2 1 56 1 rfl
 unfold Lv Sb
 unfold Ws
 cases h0 : Cl (Pf [ch]) 0 56 1 with
 | some k =>
  rw [h0] at i0
  have hs : Jf ch [0, 2] 2 0 = some (.inr (.inr (((k : Int), 0, ()), ()))) := by
   unfold Jf
   show jz (Le ((ch, 0, ((1 : Nat) : Int), [0, 2], 2, 0, ()), ())) _ = _
   rw [i0]; rfl
  show jz (Nb _ ((ch, [0, 2], 2, 0, ()), ())) _ = _
  rw [Pb hs]; rfl
 | none =>
  rw [h0] at i0
  have hs : Jf ch [0, 2] 2 0 = some (.inl ((ch, [0, 2], 2, 1, ()), ())) := by
   unfold Jf
   show jz (Le ((ch, 0, ((1 : Nat) : Int), [0, 2], 2, 0, ()), ())) _ = _
   rw [i0]; rfl
  show jz (Nb _ ((ch, [0, 2], 2, 0, ()), ())) _ = _
  rw [Pb hs]
  cases h2 : Cl (Pf [ch]) 2 56 1 with
  | some k =>
   rw [h2] at i2
   have hs2 : Jf ch [0, 2] 2 1 = some (.inr (.inr (((k : Int), 2, ()), ()))) := by
    unfold Jf
    show jz (Le ((ch, 2, ((1 : Nat) : Int), [0, 2], 2, 1, ()), ())) _ = _
    rw [i2]; rfl
   show jz (Nb _ ((ch, [0, 2], 2, 1, ()), ())) _ = _
   rw [Pb hs2]; rfl
  | none =>
   rw [h2] at i2
   have hs2 : Jf ch [0, 2] 2 1 = some (.inl ((ch, [0, 2], 2, 2, ()), ())) := by
    unfold Jf
    show jz (Le ((ch, 2, ((1 : Nat) : Int), [0, 2], 2, 1, ()), ())) _ = _
    rw [i2]; rfl
   have hs4 : Jf ch [0, 2] 2 2 = some (.inr (.inl ((), ()))) := by
    unfold Jf
    rfl
   show jz (Nb _ ((ch, [0, 2], 2, 1, ()), ())) _ = _
   rw [Pb hs2]
   show jz (Nb _ ((ch, [0, 2], 2, 2, ()), ())) _ = _
   rw [Pb hs4]; rfl
theorem LJ {s : List UInt8} {m : Int} : ∀ {n c k : Nat}, Cl s m n c = some k → c ≤ k ∧ k < c + n
 | 0, _, _, h => by simp [Cl] at h
 | n + 1, c, k, h => by
  simp only [Cl] at h
  cases hb : (Tj (c : Int) m == s) with
  | true => rw [hb] at h; simp at h; omega
  | false =>
   rw [hb] at h
   have := LJ (n := n) (c := c + 1) h
   omega
theorem WJ (ch : Int) : 0 ≤ (Sb ch).1 ∧ (Sb ch).1 ≤ 56 := by
 unfold Sb
 cases h0 : Cl (Pf [ch]) 0 56 1 with
 | some k => have := LJ h0; exact ⟨by show (0 : Int) ≤ (k : Int); omega, by show (k : Int) ≤ 56; omega⟩
 | none =>
  cases h2 : Cl (Pf [ch]) 2 56 1 with
  | some k => have := LJ h2; exact ⟨by show (0 : Int) ≤ (k : Int); omega, by show (k : Int) ≤ 56; omega⟩
  | none => exact ⟨by decide, by decide⟩
theorem JT (l : List UInt8) : Pf (Xd l) = l := by
 unfold Pf Xd
 rw [List.map_map]
 conv => rhs; rw [← List.map_id l]
 apply List.map_congr_left
 intro x _
 simp
theorem XS (a b : List UInt8) : Xd (a ++ b) = Xd a ++ Xd b := by simp [Xd]
theorem KB (a : List UInt8) : (Xd a).length = a.length := by simp [Xd]
theorem T9 (u : Nat) (h : ¬ u < 10) : Lib.decDigits u = Lib.decDigits (u / 10) ++ [UInt8.ofNat (48 + u % 10)] := by rw [Lib.decDigits, dif_neg h]
theorem J0 (u : Nat) (h : u < 10) : Lib.decDigits u = [UInt8.ofNat (48 + u)] := by rw [Lib.decDigits, dif_pos h]
theorem DV (u : Nat) (h : u < 10 ^ 20) : Lib.nDigits u ≤ 20 := by
 apply Classical.byContradiction
 intro hn
 have h2 : ∀ k u, 10 ^ k ≤ u ∨ Lib.nDigits u ≤ k ∨ k = 0 := by
  intro k
  induction k with
  | zero => intro u; right; right; rfl
  | succ k ih =>
   intro u
   by_cases hu : u < 10
   ·right; left; rw [Lib.nDigits_small hu]; omega
   ·rcases ih (u / 10) with h | h | h
    ·left; rw [Nat.pow_succ]; omega
    ·right; left; rw [Lib.nDigits_big hu]; omega
    ·subst h; left; simpa using Nat.le_of_not_lt hu
 rcases h2 20 u with h3 | h3 | h3 <;> omega
theorem VM {d : Int} (h : 0 ≤ d ∧ d ≤ 9) : Pf [j4 .u8 (j4 .i64 (48 + d))] = [UInt8.ofNat (48 + d.toNat)] := by
 rw [Qd (by omega) (by omega), Yak (by omega) (by omega)]
 show [UInt8.ofNat (48 + d).toNat] = _
 rw [show (48 + d).toNat = 48 + d.toNat by omega]
theorem FT (n : Int) : ∀ (v : Nat) (x : Int) (acc : List UInt8), 1 ≤ v → (x = (v : Int) ∨ x = -(v : Int)) → v ≤ 9223372036854775808 → acc.length + Lib.nDigits v ≤ 100 →
 Dg ((n, acc, x, ()), ()) = some (.inl ((n, Lib.decDigits v ++ acc, ()), ())) := by
 intro v
 induction v using Nat.strongRecOn with
 | _ v ih =>
 intro x acc hv hx hb hl
 unfold Dg
 have hd := Lib.nDigits_pos v
 obtain ⟨d, hdd⟩ : ∃ d, v % 10 = d := ⟨_, rfl⟩
 have hs : Im n acc x = some (.inl ((n, UInt8.ofNat (48 + d) :: acc, Int.tdiv x 10, ()), ())) := by
  unfold Im
  rw [show (x != 0) = true by rw [bne_iff_ne]; omega]
  simp only [cond_true, show ((10 : Int) == 0) = false from rfl, cond_false]
  rcases hx with rfl | rfl
  ·have e : Int.tmod (v : Int) 10 = (d : Int) := by rw [Int.tmod_eq_emod_of_nonneg (by omega)]; omega
   have e2 : Int.tdiv (v : Int) 10 = ((v / 10 : Nat) : Int) := by rw [Int.tdiv_eq_ediv_of_nonneg (by omega)]; omega
   rw [e, e2, Aa (show ¬ (d : Int) < 0 by omega), cond_false, VM (d := (d : Int)) (by omega), Qd (n := ((v / 10 : Nat) : Int)) (by omega) (by omega)]
   simp only [jw, j6]
   rw [Nd (by omega)]
   rfl
  ·have e : Int.tmod (-(v : Int)) 10 = -(d : Int) := by rw [Int.neg_tmod, Int.tmod_eq_emod_of_nonneg (by omega)]; omega
   have e2 : Int.tdiv (-(v : Int)) 10 = -((v / 10 : Nat) : Int) := by rw [Int.neg_tdiv, Int.tdiv_eq_ediv_of_nonneg (by omega)]; omega
   rw [e, e2]
   by_cases h0 : d = 0
   ·subst h0
    rw [show (-((0 : Nat) : Int)) = 0 by omega, Aa (show ¬ (0 : Int) < 0 by omega), cond_false, VM (d := 0) (by omega), Qd (n := -((v / 10 : Nat) : Int)) (by omega) (by omega)]
    simp only [jw, j6]
    rw [Nd (by omega)]
    rfl
   ·rw [Ba (show -(d : Int) < 0 by omega), cond_true, Qd (n := 0 - -(d : Int)) (by omega) (by omega), show (0 : Int) - -(d : Int) = (d : Int) by omega, VM (d := (d : Int)) (by omega), Qd (n := -((v / 10 : Nat) : Int)) (by omega) (by omega)]
    simp only [jw, j6]
    rw [Nd (by omega)]
    rfl
 rw [Pb hs]
 show Dg ((n, UInt8.ofNat (48 + d) :: acc, Int.tdiv x 10, ()), ()) = _
 have hx2 : Int.tdiv x 10 = ((v / 10 : Nat) : Int) ∨ Int.tdiv x 10 = -((v / 10 : Nat) : Int) := by
  rcases hx with rfl | rfl
  ·left; rw [Int.tdiv_eq_ediv_of_nonneg (by omega)]; omega
  ·right; rw [Int.neg_tdiv, Int.tdiv_eq_ediv_of_nonneg (by omega)]; omega
 by_cases hten : v < 10
 ·have hz : Int.tdiv x 10 = 0 := by
   rw [show v / 10 = 0 by omega] at hx2
   omega
  rw [hz, J0 v hten]
  unfold Dg
  rw [Pb (z := some (.inr (.inl ((n, UInt8.ofNat (48 + d) :: acc, ()), ())))) (by simp [Im])]
  rw [show d = v by omega]
  rfl
 ·rw [ih (v / 10) (by omega) _ _ (by omega) hx2 (by omega) (by
   have := Lib.nDigits_big hten
   simp only [jw]; omega), T9 v hten, hdd]
  simp
theorem Ys {n : Int} (h : -9223372036854775808 ≤ n ∧ n ≤ 9223372036854775807) : Hd n = some (Lib.itoa n, ()) := by
 unfold Hd
 by_cases h0 : n = 0
 ·subst h0
  have : Lib.itoa 0 = [48] := by
   unfold Lib.itoa
   rw [if_neg (by omega)]
   show Lib.decDigits 0 = _
   rw [J0 0 (by omega)]
   rfl
  rw [this]
  rfl
 ·have hN := DV n.natAbs (by omega)
  have hl := Lib.decDigits_length n.natAbs
  rw [show (n == 0) = false by simpa using h0, FT n n.natAbs n [] (by omega) (by omega) (by omega) (by simp; omega)]
  simp only [cond_false, jb, qh, List.append_nil]
  unfold Lib.itoa
  by_cases hneg : n < 0
  ·rw [Ba hneg, if_pos hneg, Nd (by simp only [jw, j6]; omega)]
   rfl
  ·rw [Aa hneg, if_neg hneg, show n.toNat = n.natAbs by omega]
   rfl
theorem T5 {n : Int} (h : -9223372036854775808 ≤ n ∧ n ≤ 9223372036854775807) : (Lib.itoa n).length ≤ 21 := by
 have hN := DV n.natAbs (by omega)
 have hl := Lib.decDigits_length n.natAbs
 unfold Lib.itoa
 by_cases hneg : n < 0
 ·rw [if_pos hneg]; simp only [jw]; omega
 ·rw [if_neg hneg, show n.toNat = n.natAbs by omega]; omega
theorem JK {l : List (List UInt8)} {by_ : List UInt8} (h1 : l.length ≤ 1073741824) (h2 : (Lib.join l by_).length ≤ 1073741824) : Mp l by_ = some (Lib.join l by_, ()) := by
 cases l with
 | nil =>
  unfold Mp Ak
  rw [Pb (z := some (.inr (.inl (([], ()), ())))) (by simp [Rj])]
  rfl
 | cons x r =>
  rw [Lib.join_cons] at h2 ⊢
  have hlen : ∀ k, (Lib.joinTail by_ (r.take k)).length ≤ (Lib.joinTail by_ r).length := fun k => Lib.joinTail_take_le by_ r k
  simp only [qc] at h2
  have hl := TO (step := fun y : (List (List UInt8) × List UInt8 × List Int × Int × Unit) × Unit => Rj y.1.1 y.1.2.1 y.1.2.2.1 y.1.2.2.2.1)
   (fun k => ((x :: r, by_, cond (k == 0) [] (Xd (x ++ Lib.joinTail by_ (r.take (k - 1)))), (k : Int), ()), ())) (x :: r).length (.inl ((Xd (x ++ Lib.joinTail by_ r), ()), ())) (by
    intro k hk
    simp only [Rj]
    rw [Ba (show (k : Int) < (((x :: r).length : Nat) : Int) by omega)]
    cases k with
    | zero =>
     rw [Aa (by omega)]
     simp only [cond_true, cond_false]
     rw [show ((0 : Nat) : Int) = 0 from rfl, J5]
     simp only [jb]
     rw [Nd (by simp [KB]; omega)]
     simp [Lib.joinTail, Qd]
    | succ k =>
     have hk' : k < r.length := by simpa using hk
     rw [Ba (by omega), Dc hk]
     have e : (k + 1 == 0) = false := by simp
     have e2 : (k + 1 + 1 == 0) = false := by simp
     simp only [e, e2, cond_true, cond_false, jb, Nat.add_sub_cancel]
     have hr : Lib.joinTail by_ (r.take (k + 1)) = Lib.joinTail by_ (r.take k) ++ (by_ ++ r[k]) := by rw [Lib.joinTail_take_succ by_ r k r[k] (je hk'), List.append_assoc]
     have h3 := hlen (k + 1)
     rw [hr] at h3
     simp only [qc] at h3
     rw [Nd (by simp only [KB, qc]; omega)]
     simp only [cond_true]
     rw [Nd (by simp only [List.append_eq, KB, qc, List.getElem_cons_succ]; omega)]
     simp only [cond_true, List.getElem_cons_succ, List.append_eq]
     rw [hr, Vd (by omega)]
     simp [XS]) (by
    simp only [Rj]
    rw [Aa (by omega)]
    simp)
  unfold Mp Ak
  erw [hl]
  simp [JT]
theorem V5 (l : List (List UInt8)) (s : List UInt8) (c : Nat) (h : ∀ x ∈ l, x.length ≤ c) : (Lib.join l s).length ≤ (c + s.length) * l.length := by
 cases l with
 | nil => simp [Lib.join_nil]
 | cons x r =>
  rw [Lib.join_cons, qc, Lib.joinTail_length]
  have h1 := h x (by simp)
  have h2 : Lib.lens r ≤ c * r.length := by
   clear h1
   induction r with
   | nil => simp [Lib.lens]
   | cons y r ih =>
    have := ih (fun z hz => h z (by simp at hz ⊢; rcases hz with hz | hz <;> simp [hz]))
    have h3 := h y (by simp)
    simp only [Lib.lens, List.map_cons, List.sum_cons, jw] at this ⊢
    rw [Nat.mul_succ]
    omega
  simp only [jw]
  rw [Nat.mul_succ, Nat.add_mul]
  omega
def Gl (m : Int) : List UInt8 := [[], [67], [83], [67, 83], [65], [67, 65], [83, 65], [67, 83, 65], [71], [67, 71], [83, 71], [67, 83, 71], [65, 71], [67, 65, 71], [83, 65, 71], [67, 83, 65, 71]].getD m.toNat []
theorem SP : ∀ m : Fin 16, MS (fun x : (Int × List UInt8 × Int × Unit) × Unit => Il x.1.1 x.1.2.1 x.1.2.2.1) 10 (((m.val : Int), [], 0, ()), ()) = some (.inl ((Gl m.val, ()), ())) := by
 intro m
 simp only [Il, Lf]
 revert m
 decide +kernel
theorem WR {m : Int} (h : ¬ (1 ≤ m ∧ m ≤ 15)) : Gl m = [] := by
 unfold Gl
 by_cases hm : m < 1
 ·rw [show m.toNat = 0 by omega]; rfl
 ·rw [qg, List.getElem?_eq_none (by simp; omega)]; rfl
theorem Wr (m : Int) : Vh m = some (Gl m, ()) := by
 unfold Vh Ym
 by_cases h : 1 ≤ m ∧ m ≤ 15
 ·have := LN 10 (SP ⟨m.toNat, by omega⟩)
  rw [show (((⟨m.toNat, by omega⟩ : Fin 16).val : Nat) : Int) = m by show ((m.toNat : Nat) : Int) = m; omega] at this
  erw [this]
  rfl
 ·rw [Pb (z := some (.inr (.inl (([], ()), ())))) (by
   simp only [Il]
   rw [Lf, Aa h]
   rfl), WR h]
  rfl
theorem B6 (m : Int) : (Gl m).length ≤ 4 := by
 by_cases h : 1 ≤ m ∧ m ≤ 15
 ·have : ∀ m : Fin 16, (Gl m.val).length ≤ 4 := by decide +kernel
  have := this ⟨m.toNat, by omega⟩
  rwa [show (((⟨m.toNat, by omega⟩ : Fin 16).val : Nat) : Int) = m by show ((m.toNat : Nat) : Int) = m; omega] at this
 ·rw [WR h]; simp
theorem M0 (c : Int) : (Jj c).length ≤ 5 := by
 unfold Jj
 cases decide (1 ≤ c ∧ c ≤ 56) with
 | false => simp
 | true =>
  have h : ∀ x ∈ Ww, x.length ≤ 5 := by decide +kernel
  rw [cond_true, qg]
  cases hc : Ww[(c - 1).toNat]? with
  | none => simp
  | some y => exact h y (List.mem_of_getElem? hc)
theorem P0 {r : Ca} (h : Gk r = true) : r.2.1.length ≤ 56 := by
 unfold Gk at h
 simp only [jd] at h
 have h2 := Br.1 h.2
 have key : ∀ j (hj : j < r.2.1.length), (j : Int) + 1 ≤ r.2.1[j] ∧ r.2.1[j] ≤ 56 := by
  intro j
  induction j with
  | zero =>
   intro hj
   have := h2 0 hj
   simp only [KC, jd, decide_eq_true_eq] at this
   omega
  | succ j ih =>
   intro hj
   have h3 := ih (by omega)
   have := h2 (j + 1) hj
   simp only [KC, jd, Bool.or_eq_true, Bool.not_eq_true', decide_eq_true_eq, decide_eq_false_iff_not] at this
   have e : r.2.1.getD (0 + (j + 1) - 1) 0 = r.2.1[j] := by
    rw [show 0 + (j + 1) - 1 = j by omega, qg, je (by omega)]; rfl
   rw [e] at this
   omega
 apply Classical.byContradiction
 intro hn
 have := key 56 (by omega)
 omega
def OB (a : Ca) (o : List Int) (x : Int) : List Int := cond (!a.2.1.any (fun y => y == x)) (jf o [x]) o
def CA (a b : Ca) : List Int := cond (Gk a && Gk b) (Ic (fun _ o x => OB a o x) 0 [] b.2.1) []
theorem YR (a : Ca) : ∀ (l : List Int) (k : Nat) (o : List Int), (Ic (fun _ o x => OB a o x) k o l).length ≤ o.length + l.length
 | [], _, o => by simp [Ic]
 | x :: r, k, o => by
  simp only [Ic]
  have := YR a r (k + 1) (OB a o x)
  have h2 : (OB a o x).length ≤ o.length + 1 := by unfold OB; cases !a.2.1.any (fun y => y == x) <;> simp
  simp only [jw]
  omega
theorem ZR (a b : Ca) : (CA a b).length ≤ 56 := by
 unfold CA
 cases ha : Gk a with
 | false => simp
 | true =>
  cases hb : Gk b with
  | false => simp
  | true =>
   have := YR a b.2.1 0 []
   have := P0 hb
   simp only [ql, cond_true]
   simp at *
   omega
theorem OL (a b : Ca) (ha : a.2.1.length ≤ Ja) (hb : b.2.1.length ≤ Ja) : Mv a b = some (CA a b, ()) := by
 have h20 : Ja = 1048576 := rfl
 have hlim := Uh
 unfold Mv CA
 rw [Wz a ha]
 cases Gk a with
 | false => rfl
 | true =>
  simp only [jb, jg, cond_false, jk]
  rw [Wz b hb]
  cases Gk b with
  | false => rfl
  | true =>
   simp only [jb, jg, cond_false, cond_true]
   have hl := (Ui (step := fun x : (Unit × List Int × List Int × Int × Int × Unit) × Ca × Unit => Oo x.1.1 x.1.2.1 x.1.2.2.1 x.1.2.2.2.1 x.1.2.2.2.2.1 x.2.1) b.2.1 (fun _ o x => OB a o x)
    (fun o k => (((), o, b.2.1, (b.2.1.length : Int), k, ()), (a, ()))) (fun o => .inl ((o, ()), ())) (fun k o => o.length ≤ k) (fun k hk o ho => by
     have hg : (OB a o b.2.1[k]).length ≤ k + 1 := by
      have : (OB a o b.2.1[k]).length ≤ o.length + 1 := by unfold OB; cases !a.2.1.any (fun y => y == b.2.1[k]) <;> simp
      omega
     refine ⟨?_, hg⟩
     simp only [Oo]
     rw [Ba (by omega), Dc hk]
     simp only [cond_true, jb]
     rw [EC _ _ (by omega)]
     simp only [jb, OB]
     cases !a.2.1.any (fun y => y == b.2.1[k]) with
     | false => rfl
     | true =>
      simp only [cond_true]
      rw [Nd (by simp only [jw, j6]; omega)]
      rfl) (fun o ho => by
     simp only [Oo]
     rw [Aa (by omega)]
     rfl) (by omega) [] (by simp)).1
   unfold Cq
   erw [hl]
   rfl
theorem GO (c m : Int) : (Tj c m).length ≤ 1 := by
 have h0 : ∀ x ∈ EZ, x.length ≤ 1 := by decide +kernel
 have h2 : ∀ x ∈ FZ, x.length ≤ 1 := by decide +kernel
 have hg : ∀ (l : List (List UInt8)) (i : Nat), (∀ x ∈ l, x.length ≤ 1) → (l.getD i []).length ≤ 1 := by
  intro l i h
  rw [qg]
  cases hc : l[i]? with
  | none => simp
  | some y => exact h y (List.mem_of_getElem? hc)
 unfold Tj
 cases m == 0 with
 | true => exact hg _ _ h0
 | false =>
  cases m == 2 with
  | true => exact hg _ _ h2
  | false => simp
def MG (m : Int) (o : List UInt8) (k : Int) : List UInt8 := jf o (Tj k m)
def DP (m : Int) (o : List UInt8) (l : List Int) : List UInt8 := Ic (fun _ o k => MG m o k) 0 o l
theorem RT (m : Int) : ∀ (l : List Int) (k : Nat) (o : List UInt8), (Ic (fun _ o k => MG m o k) k o l).length ≤ o.length + l.length
 | [], _, o => by simp [Ic]
 | x :: r, k, o => by
  simp only [Ic]
  have := RT m r (k + 1) (MG m o x)
  have h2 : (MG m o x).length ≤ o.length + 1 := by
   have := GO x m
   simp [MG]; omega
  simp only [jw]
  omega
def Zv (s : Ca × List UInt8) (r : Ca) : Ca × List UInt8 := (r, DP r.1 s.2 (CA s.1 r))
def RN (a : Ca) (l : List Ca) : List UInt8 := (Ic (fun _ s r => Zv s r) 0 (a, []) l).2
structure N4 (k : Nat) (s : Ca × List UInt8) : Prop where
 r : s.1.2.1.length ≤ Ja
 t : s.2.length ≤ 56 * k
theorem I7 {k : Nat} {s : Ca × List UInt8} (h : N4 k s) {r : Ca} (hr : r.2.1.length ≤ Ja) : N4 (k + 1) (Zv s r) := by
 refine ⟨hr, ?_⟩
 have h1 := RT r.1 (CA s.1 r) 0 s.2
 have h2 := ZR s.1 r
 have h3 := h.t
 show (DP r.1 s.2 (CA s.1 r)).length ≤ _
 unfold DP
 omega
theorem KP (a r : Ca) (L : List Ca) (n i : Int) (l : List Int) (hl : l.length ≤ 56) (o : List UInt8) (ho : o.length ≤ 100000000) :
 Tn (((), o, (), L, n, i, l, ((ja l : Nat) : Int), (0 : Int), ()), (a, r, ())) = some (.inl (((), DP r.1 o l, (), L, n, i, ()), (a, r, ()))) := by
 have h := (Ui (step := fun x : (Unit × List UInt8 × Unit × List Ca × Int × Int × List Int × Int × Int × Unit) × Ca × Ca × Unit => Zl x.1.1 x.1.2.1 x.1.2.2.1 x.1.2.2.2.1 x.1.2.2.2.2.1 x.1.2.2.2.2.2.1 x.1.2.2.2.2.2.2.1 x.1.2.2.2.2.2.2.2.1 x.1.2.2.2.2.2.2.2.2.1 x.2.1 x.2.2.1) l (fun _ o k => MG r.1 o k)
  (fun o k => (((), o, (), L, n, i, l, (l.length : Int), k, ()), (a, r, ()))) (fun o => .inl (((), o, (), L, n, i, ()), (a, r, ()))) (fun k o' => o'.length ≤ o.length + k) (fun k hk o' ho' => by
   have hc := GO l[k] r.1
   refine ⟨?_, by simp only [MG, List.append_eq, qc]; omega⟩
   simp only [Zl]
   rw [Ba (by omega), Vu, Ba hk]
   simp only [cond_true, jn]
   rw [je hk]
   simp only [jb]
   rw [Fw]
   simp only [jb]
   rw [Nd (by omega)]
   rfl) (fun o' ho' => by
   simp only [Zl]
   rw [Aa (by omega)]
   rfl) (by omega) o (by omega)).1
 exact h
noncomputable def Gg (m : Ha) (ch t : Int) : List Na :=
 cond ((Sb ch).1 == 0) []
  (cond (decide (Qc m (Sb ch).1 (Sb ch).2.1 ≥ 0)) [(t, Qc m (Sb ch).1 (Sb ch).2.1, true, ()), (t, Qc m (Sb ch).1 (Sb ch).2.1, false, ())]
   (cond ((Sb ch).2.1 == 0 || decide (Qc m (Sb ch).1 0 < 0) || decide (Qc m 0 (Sb ch).2.1 < 0)) []
    [(t, Qc m 0 (Sb ch).2.1, true, ()), (t, Qc m (Sb ch).1 0, true, ()), (t, Qc m (Sb ch).1 0, false, ()), (t, Qc m 0 (Sb ch).2.1, false, ())]))
noncomputable def Hg (m : Ha) (ch : Int) : Bool :=
 cond ((Sb ch).1 == 0) false
  (cond (decide (Qc m (Sb ch).1 (Sb ch).2.1 ≥ 0)) true
   (cond ((Sb ch).2.1 == 0 || decide (Qc m (Sb ch).1 0 < 0) || decide (Qc m 0 (Sb ch).2.1 < 0)) false true))
theorem Uy (m : Ha) (ch t : Int) : (Gg m ch t).length ≤ 4 ∧ (((ja (Gg m ch t) : Nat) : Int) == 0) = !Hg m ch := by
 unfold Gg Hg
 cases (Sb ch).1 == 0 with
 | true => exact ⟨by simp, by simp⟩
 | false =>
  cases decide (Qc m (Sb ch).1 (Sb ch).2.1 ≥ 0) with
  | true => exact ⟨by simp, by simp⟩
  | false =>
   cases ((Sb ch).2.1 == 0 || decide (Qc m (Sb ch).1 0 < 0) || decide (Qc m 0 (Sb ch).2.1 < 0)) with
   | true => exact ⟨by simp, by simp⟩
   | false => exact ⟨by simp, by simp⟩
theorem Oy {m : Ha} (hm : Qk m) (ch t : Int) : Vn m ch t = some (Gg m ch t, Hg m ch, ()) := by
 unfold Vn Gg Hg
 rw [EE]
 simp only [jb, GC hm]
 cases (Sb ch).1 == 0 with
 | true => rfl
 | false =>
  cases decide (Qc m (Sb ch).1 (Sb ch).2.1 ≥ 0) with
  | true => rfl
  | false => cases (Sb ch).2.1 == 0 <;> cases decide (Qc m (Sb ch).1 0 < 0) <;> cases decide (Qc m 0 (Sb ch).2.1 < 0) <;> rfl
theorem LM {m : Ha} (hz : Ib Pa m ≤ Ja) (hv : Eb m = true) (ch t : Int) : Bo m ch t = some (Gg m ch t, ()) := by
 have hb := WJ ch
 unfold Bo Gg
 rw [HE]
 simp only [jb, PC _ _ _ hz, hv, Ba hb, Ba (show (0 : Int) ≤ 0 ∧ (0 : Int) ≤ 56 by omega), ql, cond_true]
 cases (Sb ch).1 == 0 with
 | true => rfl
 | false =>
  cases decide (Qc m (Sb ch).1 (Sb ch).2.1 ≥ 0) with
  | true => rfl
  | false => cases (Sb ch).2.1 == 0 <;> cases decide (Qc m (Sb ch).1 0 < 0) <;> cases decide (Qc m 0 (Sb ch).2.1 < 0) <;> rfl
theorem KM {m : Ha} (hz : Ib Pa m ≤ Ja) (hv : Eb m = false) (ch t : Int) : Bo m ch t = some ([], ()) := by
 unfold Bo
 rw [HE]
 simp only [jb, PC _ _ _ hz, hv, qk, cond_false]
 cases (Sb ch).1 == 0 <;> rfl
noncomputable def Ev (m : Ha) (s : List UInt8) : Bool := Td (fun _ (c : UInt8) => Hg m ((c.toNat : Nat) : Int)) 0 s
theorem NL (m : Ha) (s : List UInt8) (hz : Ib Pa m ≤ Ja) (hn : s.length ≤ Ja) : Kv m s = some (Eb m && Ev m s, ()) := by
 have h20 : Ja = 1048576 := rfl
 unfold Kv
 rw [Tk m hz]
 cases hv : Eb m with
 | false => rfl
 | true =>
  have hm := Bf hv
  have hl := Gh (step := fun x : (((List UInt8) × (Unit × (Int × Unit))) × (Ha × Unit)) => Ko x.1.1 x.1.2.1 x.1.2.2.1 x.2.1) s (fun _ (c : UInt8) => Hg m ((c.toNat : Nat) : Int))
   (fun i => ((s, (), i, ()), (m, ()))) (.inl ((), ())) (.inr ((false, ()), ())) (by
   intro k hk
   simp only [Ko]
   rw [Ba (show (k : Int) < ((ja s : Nat) : Int) by omega), Dc hk]
   simp only [cond_true, jb, Oy hm]
   cases Hg m ((s[k].toNat : Nat) : Int) <;> rfl) (by
   simp only [Ko]
   rw [Aa (by omega)]; rfl) (by omega)
  unfold Aq
  simp only [jb, jg, cond_false]
  erw [hl]
  show jz (some (cond (Ev m s) _ _)) _ = _
  cases Ev m s <;> rfl
theorem IM (m : Ha) (s : List UInt8) (hz : Ib Pa m ≤ Ja) (hn : s.length ≤ Ja) : Uv m s = some (Eb m && Ev m s, ()) := by
 have h20 : Ja = 1048576 := rfl
 unfold Uv
 cases hv : Eb m with
 | false =>
  have hl := Gh (step := fun x : (((List UInt8) × (Unit × (Int × Unit))) × (Ha × Unit)) => Fh x.1.1 x.1.2.1 x.1.2.2.1 x.2.1) s (fun _ (c : UInt8) => false)
   (fun i => ((s, (), i, ()), (m, ()))) (.inl (((), ()), (m, ()))) (.inr ((false, ()), ())) (by
   intro k hk
   simp only [Fh]
   rw [Ba (show (k : Int) < ((ja s : Nat) : Int) by omega), Dc hk]
   simp only [cond_true, jb, KM hz hv]
   rfl) (by
   simp only [Fh]
   rw [Aa (by omega)]; rfl) (by omega)
  unfold Hl
  erw [hl]
  cases Td (fun _ (c : UInt8) => false) 0 s with
  | false => rfl
  | true =>
   show jz (Ei m) _ = _
   rw [Al m hz, hv]; rfl
 | true =>
  have hl := Gh (step := fun x : (((List UInt8) × (Unit × (Int × Unit))) × (Ha × Unit)) => Fh x.1.1 x.1.2.1 x.1.2.2.1 x.2.1) s (fun _ (c : UInt8) => Hg m ((c.toNat : Nat) : Int))
   (fun i => ((s, (), i, ()), (m, ()))) (.inl (((), ()), (m, ()))) (.inr ((false, ()), ())) (by
   intro k hk
   simp only [Fh]
   rw [Ba (show (k : Int) < ((ja s : Nat) : Int) by omega), Dc hk]
   simp only [cond_true, jb, LM hz hv, (Uy m _ _).2]
   cases Hg m ((s[k].toNat : Nat) : Int) <;> rfl) (by
   simp only [Fh]
   rw [Aa (by omega)]; rfl) (by omega)
  unfold Hl
  erw [hl]
  show jz (some (cond (Ev m s) _ _)) _ = _
  cases Ev m s with
  | false => rfl
  | true =>
   show jz (Ei m) _ = _
   rw [Al m hz, hv]; rfl
noncomputable def CD (m : Ha) (k : Nat) (l : List Na) (c : UInt8) : List Na ⊕ Unit :=
 cond (Hg m ((c.toNat : Nat) : Int)) (.inl (jf l (Gg m ((c.toNat : Nat) : Int) (k : Int)))) (.inr ())
noncomputable def Iu (m : Ha) (s : List UInt8) : List Na × (Bool × Unit) :=
 cond (!Eb m || decide (((ja s : Nat) : Int) > 60)) ([], false, ())
  (match Bc (CD m) 0 [] s with
   | .inl l => cond (decide (((ja l : Nat) : Int) > 64)) ([], false, ()) (l, true, ())
   | .inr _ => ([], false, ()))
theorem Q4 {m : Ha} {k : Nat} {l l' : List Na} {c : UInt8} (h : CD m k l c = .inl l') (hl : l.length ≤ 4 * k) : l'.length ≤ 4 * (k + 1) := by
 unfold CD at h
 cases hc : Hg m ((c.toNat : Nat) : Int) with
 | false => rw [hc] at h; simp at h
 | true =>
  rw [hc] at h
  simp only [cond_true, Sum.inl.injEq] at h
  subst h
  have := (Uy m ((c.toNat : Nat) : Int) (k : Int)).1
  have e : (jf l (Gg m ((c.toNat : Nat) : Int) (k : Int))).length = l.length + (Gg m ((c.toNat : Nat) : Int) (k : Int)).length := by simp
  omega
theorem Ly (m : Ha) (s : List UInt8) (hz : Ib Pa m ≤ Ja) : On m s = some (Iu m s) := by
 unfold On Iu
 rw [Tk m hz]
 cases hv : Eb m with
 | false => rfl
 | true =>
  have hm := Bf hv
  by_cases h60 : ((ja s : Nat) : Int) > 60
  ·rw [Ba h60]; rfl
  have hl := Vi (step := fun x : (((List UInt8) × (Unit × ((List Na) × (Int × Unit)))) × (Ha × Unit)) => Ul x.1.1 x.1.2.1 x.1.2.2.1 x.1.2.2.2.1 x.2.1)
   s (CD m) (fun l k => ((s, (), l, k, ()), (m, ()))) (fun l => .inl ((l, ()), ())) (fun _ => .inr (([], false, ()), ())) (fun k l => l.length ≤ 4 * k) (by
    intro k hk l hi
    refine ⟨?_, fun l' h => Q4 h hi⟩
    simp only [Ul]
    rw [Ba (show (k : Int) < ((ja s : Nat) : Int) by omega), Dc hk]
    simp only [cond_true, jb, Oy hm, CD]
    cases Hg m ((s[k].toNat : Nat) : Int) with
    | false => rfl
    | true =>
     have := (Uy m ((s[k].toNat : Nat) : Int) (k : Int)).1
     simp only [jg, cond_false, cond_true]
     rw [show jx (ja l + ja (Gg m ((s[k].toNat : Nat) : Int) (k : Int))) Jb = true from ji (by rw [Uh]; omega)]
     rfl) (by
    intro l _
    simp only [Ul]
    rw [Aa (by omega)]; rfl) (by omega) [] (by simp)
  rw [Aa h60]
  unfold Pn
  simp only [jb, jg, cond_false]
  erw [hl]
  cases Bc (CD m) 0 [] s with
  | inr _ => rfl
  | inl l =>
   simp only [jb, qh]
   show (cond (decide (((ja l : Nat) : Int) > 64)) _ _) = some (cond (decide (((ja l : Nat) : Int) > 64)) _ _)
   cases decide (((ja l : Nat) : Int) > 64) <;> rfl
theorem R4 (m : Ha) (s : List UInt8) : (Iu m s).1.length ≤ 64 := by
 unfold Iu
 cases (!Eb m || decide (((ja s : Nat) : Int) > 60)) with
 | true => simp
 | false =>
  simp only [cond_false]
  cases Bc (CD m) 0 [] s with
  | inr _ => simp
  | inl l =>
   by_cases h : ((ja l : Nat) : Int) > 64
   ·simp only [Ba h, cond_true]; simp
   ·simp only [Aa h, cond_false]; omega
structure Fas (d : Ry) : Prop where
 k1 : 1 ≤ d.2.2.1
 k2 : d.2.2.1 ≤ 24
 len : ((ja d.2.2.2.2.2.1 : Nat) : Int) = d.2.2.1
 sh : Hz d.2.2.1 d.2.2.2.1 = true
 la : Hz d.2.2.1 d.2.2.2.2.1 = true
structure Eas (d : Ry) (k : Nat) (s : Int × List Int) : Prop where
 len : s.2.length = k
 sh : Hz d.2.2.1 s.1 = true

abbrev Kao (c : Rl) : List Na := c.2.2.2.2.2.2.1
structure Das (c : Rl) : Prop where
 len : c.2.2.1.length ≤ 64
 ev : ∀ x ∈ c.2.2.1, 0 ≤ x.2.1
 L : c.1.length ≤ 8
 cb : TT c.1 = true
 r : ∀ x ∈ Kao c, x.2.1 ≤ 9223372036854775807

def tri (i j : Nat) : Nat := if i ≤ j then j * (j + 1) / 2 + i else i * (i + 1) / 2 + j
def Ky (e i j : Nat) : Bool := e.testBit (tri i j)
def Baj (e s t : Nat) : Bool :=
 (s.testBit 0 && (t.testBit 0 && Ky e 0 0 || t.testBit 1 && Ky e 0 1 || (t.testBit 2 && Ky e 0 2 || t.testBit 3 && Ky e 0 3)) || s.testBit 1 && (t.testBit 0 && Ky e 1 0 || t.testBit 1 && Ky e 1 1 || (t.testBit 2 && Ky e 1 2 || t.testBit 3 && Ky e 1 3))) ||
 (s.testBit 2 && (t.testBit 0 && Ky e 2 0 || t.testBit 1 && Ky e 2 1 || (t.testBit 2 && Ky e 2 2 || t.testBit 3 && Ky e 2 3)) || s.testBit 3 && (t.testBit 0 && Ky e 3 0 || t.testBit 1 && Ky e 3 1 || (t.testBit 2 && Ky e 3 2 || t.testBit 3 && Ky e 3 3)))
def Uak (e a b s : Nat) : Nat := cond (Baj e (rowN 4 s a) (rowN 4 s b)) (s ||| rowN 4 s b <<< (a * 4)) s
def a3 (e a : Nat) : Nat → Nat → Nat := fun b s => Uak e a b s
def a2 (e R : Nat) : Nat → Nat → Nat := fun a s => OF (a3 e a) R s
def a1 (e R : Nat) : Nat → Nat → Nat := fun _ s => OF (a2 e R) R s
structure Cas (b : SK) (x : Int) : Prop where
 bd : P5 b = true
 msk : MH b.1 x = true
 old : MH b.1 b.2.2.2.2.1 = true
 dk : b.2.1.2.2.1 = YA b.1
 db : LF b.2.1 = true
 cb : JI b.2.2.1 = true
 dc : Se b.2.2.2.1 = true
 t : 0 ≤ b.2.2.2.2.2.1 ∧ b.2.2.2.2.2.1 ≤ 1000000
theorem K0 {e : Lb} (h : Bn e) : Ib Sc e ≤ 1000 := by
 have hh := Uu h.hd
 have h2 : Ib (.sl (.sl Tc)) e.2.1 ≤ (16 + 1) * e.2.1.length := XD (e := .sl Tc) (c := 16) fun x hx => by
  have := h.mac x hx
  simp only [Eh, jd, decide_eq_true_eq] at this
  have e2 : Ib (.sl Tc) x = x.length := As (e := Tc) rfl x
  omega
 have := h.m4
 have hm := Bf h.km
 have h3 : Ib Pa e.1 ≤ 200 := by
  have h1 : Ib Pa e.1 = 0 + (Ib (.sl (.sl Xb)) e.1.2.1 + 0) := rfl
  have h2 : Ib (.sl (.sl Xb)) e.1.2.1 ≤ (32 + 1) * ja e.1.2.1 := XD (e := .sl Xb) (c := 32) fun x hx => by
   obtain ⟨i, hi, rfl⟩ := qp hx
   rw [QM]
   have := hm.row i hi
   have := hm.k2
   omega
  have := hm.l2
  omega
 rw [Gv, Av]
 omega
theorem DM : ∀ (n : Nat) (d : Ub) (s : List Mf), RE d → (∀ y ∈ s, y.2.1.2.1.length ≤ 56) → RE (Ff n d s).1 ∧ (Ff n d s).2.length ≤ s.length + 17 * n ∧ (∀ y ∈ (Ff n d s).2, y.2.1.2.1.length ≤ 56)
 | 0, d, s, h, hs => ⟨h, by show s.length ≤ _; omega, hs⟩
 | n + 1, d, s, h, hs => by
  cases hq : d.2.2.1 with
  | nil =>
   have e : Ff (n + 1) d s = (d, s) := by simp only [Ff, hq]
   rw [e]; exact ⟨h, by show s.length ≤ _; omega, hs⟩
  | cons x r =>
   cases hst : Yk d x r with
   | none =>
    have e : Ff (n + 1) d s = (d, s) := by simp only [Ff, hq, hst]
    rw [e]; exact ⟨h, by show s.length ≤ _; omega, hs⟩
   | some p =>
    obtain ⟨d', l⟩ := p
    have e : Ff (n + 1) d s = Ff n d' (Yo s d'.2.2.2.2.1 l) := by simp only [Ff, hq, hst]
    have hn := PV h hq hst
    have ih := DM n d' (Yo s d'.2.2.2.2.1 l) hn.1 (fun y hy => by
     rcases jl.1 (show y ∈ s ++ _ from hy) with hy | hy
     ·exact hs y hy
     ·obtain ⟨r', hr', rfl⟩ := qq.1 hy
      exact hn.2.2.2 r' hr')
    have e2 := AP s d'.2.2.2.2.1 l
    have h17 := hn.2.2.1
    rw [e]
    exact ⟨ih.1, by omega, ih.2.2⟩
theorem Cag (x : Mf) : Ib Wh x = x.2.1.2.1.length := by
 have h3 : Ib Wh x = Ib Tb x.2.1 := by
  show 0 + (Ib Tb x.2.1 + 0) = _
  omega
 rw [h3, QS]
theorem O6 (d : Ub) (l : List Na) (til : Int) : Ib We (Cu d l til).1 ≤ 2000 ∧ (Cu d l til).2.1.length ≤ 1088 ∧ (∀ y ∈ (Cu d l til).2.1, y.2.1.2.1.length ≤ 56) := by
 unfold Cu
 cases h : Ks d l til with
 | false => simp only [cond_false]; exact ⟨by decide, by simp, by simp⟩
 | true =>
  simp only [Ks, jd] at h
  have h1 := XT (til := til) h.1 h.2.2.2.2
  have h2 := DM (Ll d l til).2.2.1.length (Ll d l til) [] h1 (by simp)
  have h64 := h1.len
  simp only [cond_true]
  refine ⟨?_, by have := h2.2.1; simp at this; omega, h2.2.2⟩
  rw [AF, KA]
  have h3 := K0 h2.1.eng
  have := h2.1.len
  omega
theorem Sab {l : List Mf} {n : Nat} (h : l.length ≤ n) (hx : ∀ y ∈ l, y.2.1.2.1.length ≤ 56) : Ib (.sl Wh) l ≤ 57 * n := by
 have := XD (e := Wh) (c := 56) (w := l) fun y hy => by rw [Cag]; exact hx y hy
 exact j9 this (Nat.mul_le_mul_left _ h)
theorem LP {a : Ca} {l : List Ca} (ha : a.2.1.length ≤ Ja) (hl : ∀ r ∈ l, r.2.1.length ≤ Ja) (hn : l.length ≤ Ja) : Hs a l = some (RN a l, ()) := by
 have h20 : Ja = 1048576 := rfl
 have h := (Ui (step := fun x : (Unit × List UInt8 × List Ca × Int × Int × Unit) × Ca × Unit => Yl x.1.1 x.1.2.1 x.1.2.2.1 x.1.2.2.2.1 x.1.2.2.2.2.1 x.2.1) l (fun _ s r => Zv s r)
  (fun s k => (((), s.2, l, (l.length : Int), k, ()), (s.1, ()))) (fun s => .inl ((s.2, ()), ())) N4 (fun k hk s hs => by
   have hm : l[k] ∈ l := qn hk
   refine ⟨?_, I7 hs (hl _ hm)⟩
   have ht := hs.t
   simp only [Yl]
   rw [Ba (by omega), Dc hk]
   simp only [cond_true, jb]
   rw [OL _ _ hs.r (hl _ hm)]
   simp only [jb]
   rw [KP s.1 l[k] l (l.length : Int) (k : Int) (CA s.1 l[k]) (ZR _ _) s.2 (by omega)]
   rfl) (fun s hs => by
   simp only [Yl]
   rw [Aa (by omega)]
   rfl) (by omega) (a, []) ⟨ha, by simp⟩).1
 unfold Hs Sn
 erw [h]
 rfl
theorem Wad {m : Ha} : Ci (Dd m 0 0 false []) = Eb m := by
 cases hm : Eb m with
 | true => exact (YB _).2 (HH hm)
 | false => unfold Ci; simp [Dd, hm]
def Ear : Lb := (((0 : Int), ([] : List (List Ka)), ()), ([] : List (List Yb)), (0 : Int), ([] : List Ma), (0 : Int), false, ())
noncomputable def Gm (m : Ha) : Lb × (Bool × Unit) := cond (Eb m) (Dd m 0 0 false [], true, ()) (Ear, false, ())
theorem HF (m : Ha) (hz : Ib Pa m ≤ Ja) : Lk m [] = some (Gm m) := by
 have h20 : Ja = 1048576 := rfl
 unfold Gm
 cases hm : Eb m with
 | true => exact IP hm
 | false =>
  unfold Lk
  rw [Lr _ hz, Mr [] (by show (0 : Nat) ≤ _; omega)]
  simp only [jb]
  have : Lj (m, ([] : List (List Yb)), (0 : Int), ([] : List Ma), (0 : Int), false, ()) = some (false, ()) := by
   have h := Ku (Dd m 0 0 false []) (by rw [WM]; simpa using hz)
   rw [Wad, hm] at h
   exact h
  rw [this]
  rfl
noncomputable def Lp (e : Lb) (t : Yb) : Ub × (Bool × Unit) := cond (Se (Om e t)) (Om e t, true, ()) (PG, false, ())
theorem VT (e : Lb) (t : Yb) : Ib We (Om e t) = Ib Sc e := by
 rw [AF]
 show Ib Sc e + Ib (.sl Co) [] = _
 rw [KA]; rfl
theorem ME (e : Lb) (t : Yb) (hz : Ib Sc e ≤ Ja) : Kq e t = some (Lp e t) := by
 unfold Kq Lp
 rw [Am _ hz]
 simp only [jb]
 have := My (Om e t) (by rw [VT]; exact hz)
 unfold Om at this
 rw [this]
 unfold Om
 cases Se (e, t, ([] : List Na), (0 : Int), (0 : Int), (0 : Int), (0 : Int), ()) <;> rfl
noncomputable def RM (m : Ha) (t : Yb) (s : List UInt8) : List UInt8 × (Bool × Unit) :=
 cond ((Iu m s).2.1 && (Gm m).2.1 && (Lp (Gm m).1 t).2.1 && (Cu (Lp (Gm m).1 t).1 (Iu m s).1 ((ja s : Nat) : Int)).2.2.1)
  (RN ((0 : Int), ([] : List Int), ()) ((Cu (Lp (Gm m).1 t).1 (Iu m s).1 ((ja s : Nat) : Int)).2.1.map fun x => x.2.1), true, ()) ([], false, ())
theorem N2 {m : Ha} (hz : Ib Pa m ≤ Ja) : Ib Sc (Gm m).1 ≤ Ja := by
 unfold Gm
 cases Eb m with
 | true => show Ib Sc (Dd m 0 0 false []) ≤ _; rw [WM]; simpa using hz
 | false => show (0 : Nat) ≤ _; omega
theorem M2 {e : Lb} {t : Yb} (hz : Ib Sc e ≤ Ja) : Ib We (Lp e t).1 ≤ Ja := by
 unfold Lp
 cases Se (Om e t) with
 | true => show Ib We (Om e t) ≤ _; rw [VT]; exact hz
 | false => show (0 : Nat) ≤ _; omega
theorem RJ (m : Ha) (t : Yb) (s : List UInt8) (hz : Ib Pa m ≤ Ja) : Yt m t s = some (RM m t s) := by
 have h20 : Ja = 1048576 := rfl
 have he := N2 hz
 have hd := M2 (t := t) he
 have hl := R4 m s
 obtain ⟨_, hp1, hp2⟩ := O6 (Lp (Gm m).1 t).1 (Iu m s).1 ((ja s : Nat) : Int)
 unfold Yt RM
 rw [Ly m s hz, HF m hz]
 simp only [jb]
 cases (Iu m s).2.1 with
 | false => rfl
 | true =>
  cases (Gm m).2.1 with
  | false => rfl
  | true =>
   simp only [jg, cond_false, ql, jk]
   rw [ME _ _ he]
   simp only [jb]
   cases (Lp (Gm m).1 t).2.1 with
   | false => rfl
   | true =>
    simp only [jg, cond_false, ql, jk]
    rw [IF _ _ _ hd (by omega)]
    simp only [jb]
    cases (Cu (Lp (Gm m).1 t).1 (Iu m s).1 ((ja s : Nat) : Int)).2.2.1 with
    | false => rfl
    | true =>
     simp only [jg, cond_false, cond_true]
     rw [YH _ (j9 (Sab hp1 hp2) (by omega))]
     simp only [jb]
     rw [LP (by simp) (fun r hr => by
      obtain ⟨x, hx, rfl⟩ := qq.1 hr
      have := hp2 x hx
      omega) (by rw [List.length_map]; omega)]
     rfl

def GV (a : Ka) : Nat := a.2.2.2.1.toNat
def D9 (u : Nat) (a : Ka) : Nat := cond (K3 a) (u ||| 2 ^ GV a) u
def KQ (u i : Nat) (row : List Ka) : Nat := cond (u.testBit i) (row.foldl D9 u) u
def Z5 (u : Nat) (L : List (List Ka)) : Nat := Ic (fun i u row => KQ u i row) 0 u L
def Kn (u v : Nat) : Prop := ∀ i, u.testBit i = true → v.testBit i = true
theorem Kn.refl (u : Nat) : Kn u u := fun _ h => h
theorem Kn.trans {u v w : Nat} (h : Kn u v) (h' : Kn v w) : Kn u w := fun i hi => h' i (h i hi)
theorem Jab (u : Nat) (a : Ka) : Kn u (D9 u a) := fun i hi => by
 unfold D9
 cases K3 a with
 | false => exact hi
 | true => simp only [cond_true, Nat.testBit_or, hi, Bool.true_or]
theorem MO : ∀ (row : List Ka) (u : Nat), Kn u (row.foldl D9 u)
 | [], u => Kn.refl u
 | a :: row, u => (Jab u a).trans (MO row _)
theorem Z2 (u i : Nat) (row : List Ka) : Kn u (KQ u i row) := by
 unfold KQ
 cases u.testBit i with
 | false => exact Kn.refl u
 | true => exact MO row u
theorem LO : ∀ (L : List (List Ka)) (k u : Nat), Kn u (Ic (fun i u row => KQ u i row) k u L)
 | [], _, u => Kn.refl u
 | row :: L, k, u => (Z2 u k row).trans (LO L (k + 1) _)
def Xak (L : List (List Ka)) (n : Nat) : Nat := OF (fun _ u => Z5 u L) n 1
def I9 (m : Ha) : Nat := Xak m.2.1 m.2.1.length
theorem Bab (L : List (List Ka)) (u : Nat) : Kn u (Z5 u L) := LO L 0 u
theorem OR {f : Nat → Nat} (hs : ∀ u, Kn u (f u)) (u : Nat) : ∀ n, Kn u (OF (fun _ u => f u) n u)
 | 0 => Kn.refl u
 | n + 1 => (OR hs u n).trans (hs _)
theorem Eag (m : Ha) : (I9 m).testBit 0 = true := OR (f := fun u => Z5 u m.2.1) (fun u => Bab _ u) 1 _ 0 rfl

def PS (x : Int) (U : Nat) : Prop := ∃ n : Nat, x = (n : Int) ∧ n < 16 ∧ Kn n U
structure Oad (U : Nat) (f : Int) (l : List Ma) : Prop where
 fx : PS f U
 hd : ∀ x ∈ l, x.2.1.1 = 3 → U.testBit (GV x.2.1) = true
theorem Laf {a : Ka} (h : Ac a = true) (hk : a.1 = 3 ∨ a.1 = 4 ∨ a.1 = 5) : a.2.2.2.1 = ((GV a : Nat) : Int) ∧ GV a < 4 := by
 rw [Db] at h
 unfold Zb at h
 unfold GV
 omega
theorem Kab {s n : Nat} (hs : s < 16) (hn : n < 4) : Xe .i64 (s : Int) (Ce .i64 1 (n : Int)) = ((s ||| 2 ^ n : Nat) : Int) ∧ s ||| 2 ^ n < 16 := by
 have h5 : 2 ^ n < 2 ^ 4 := Nat.pow_lt_pow_right (by omega) hn
 refine ⟨?_, Nat.or_lt_two_pow (n := 4) hs h5⟩
 rw [show (1 : Int) = ((1 : Nat) : Int) from rfl, R5 (by rw [Nat.one_mul]; exact Px (by omega)) (by omega), Nat.one_shiftLeft, KH (by omega) (by omega)]
theorem Lab {s n U : Nat} (hs : Kn s U) (hn : U.testBit n = true) : Kn (s ||| 2 ^ n) U := fun i hi => by
 rw [Nat.testBit_or, qj, Bool.or_eq_true, decide_eq_true_eq] at hi
 rcases hi with hi | hi
 ·exact hs i hi
 ·rw [← hi]; exact hn
theorem YU {U : Nat} : ∀ (l : List Ma) (k : Nat) {s : Int}, PS s U → (∀ x ∈ l, Ac x.2.1 = true) → (∀ x ∈ l, x.2.1.1 = 3 → U.testBit (GV x.2.1) = true) →
 PS (Ic (fun _ s (h : Ma) => cond (h.2.1.1 == 3) (Xe .i64 s (Ce .i64 1 h.2.1.2.2.2.1)) s) k s l) U
 | [], _, s, h, _, _ => h
 | x :: l, k, s, h, ha, hb => by
  simp only [Ic]
  refine YU l (k + 1) ?_ (fun y hy => ha y (jr _ hy)) (fun y hy => hb y (jr _ hy))
  cases h3 : x.2.1.1 == 3 with
  | false => exact h
  | true =>
   have h3' : x.2.1.1 = 3 := by simpa using h3
   obtain ⟨n, rfl, hn, hs⟩ := h
   obtain ⟨e1, e2⟩ := Laf (ha x (by simp)) (.inl h3')
   have := Kab hn e2
   rw [e1]
   exact ⟨_, this.1, this.2, Lab hs (hb x (by simp) h3')⟩
theorem IY {U : Nat} (h0 : U.testBit 0 = true) {f : Int} {l : List Ma} (h : Oad U f l) (ha : ∀ x ∈ l, Ac x.2.1 = true) : PS (Re f l) U := by
 unfold Re
 refine YU l 0 ?_ ha h.hd
 obtain ⟨n, rfl, hn, hs⟩ := h.fx
 refine ⟨1 ||| n, KH (a := 1) (by decide) (by omega), Nat.or_lt_two_pow (n := 4) (by decide) hn, fun i hi => ?_⟩
 rw [Nat.testBit_or, Bool.or_eq_true] at hi
 rcases hi with hi | hi
 ·rw [Nat.testBit_one_eq_true_iff_self_eq_zero] at hi
  rw [hi]; exact h0
 ·exact hs i hi
structure ZP (U : Nat) (e : Lb) : Prop where
 ok : Bn e
 us : U = I9 e.1
 ti : Oad U e.2.2.1 e.2.2.2.1
theorem ZP.b0 {U : Nat} {e : Lb} (h : ZP U e) : U.testBit 0 = true := by rw [h.us]; exact Eag _
theorem ZP.sub {U : Nat} {e : Lb} (h : ZP U e) : PS (Re e.2.2.1 e.2.2.2.1) U :=
 IY h.b0 h.ti fun x hx => (Wu h.ok.hd x hx).act
theorem KO {α : Type} (p : α → Bool) : ∀ (l : List α) (k : Nat), (∀ x ∈ l, p x = false) ∨ ∃ i, i < l.length ∧ Gc p k l = ((k + i : Nat) : Int)
 | [], _ => .inl (by simp)
 | x :: l, k => by
  cases hx : p x with
  | true => exact .inr ⟨0, by simp, by simp only [Gc, hx, cond_true, Nat.add_zero]⟩
  | false =>
   rcases KO p l (k + 1) with h | ⟨i, hi, he⟩
   ·left
    intro y hy
    rcases jp.1 hy with rfl | hy
    ·exact hx
    ·exact h y hy
   ·right
    refine ⟨i + 1, by simpa using hi, ?_⟩
    simp only [Gc, hx, cond_false]
    rw [he, show k + 1 + i = k + (i + 1) by omega]
theorem SO (m : Ha) (hm : Qk m) (k : Nat) : Uf m 1 k = 0 := by
 have hl := hm.l2
 unfold Uf
 have key : ∀ n, n ≤ 3 → Xf m.2.1 1 k n = 0 := by
  intro n
  induction n with
  | zero => intro _; rfl
  | succ n ih =>
   intro h
   rw [Xf]
   have : (Kl 1 ((n + 1 : Nat) : Int) == 1) = false := by
    have : n = 0 ∨ n = 1 ∨ n = 2 := by omega
    rcases this with rfl | rfl | rfl <;> decide
   rw [this, qk, cond_false]
   exact ih (by omega)
 exact key _ (by omega)
theorem Iw {m : Ha} (hm : Qk m) {c d : Int} (h : Qc m c d ≥ 0) : ∃ k : Nat, Qc m c d = (k : Int) ∧ (k : Int) < m.1 ∧ Nv c d (Wf m.2.1 0 k) = true ∧ Ac (Wf m.2.1 0 k) = true := by
 have h1 := hm.l1
 have hr := hm.row 0 (by omega)
 have ha := hm.act 0 (by omega)
 have e0 : m.2.1.getD 0 [] = m.2.1[0] := by simp [qg, je (show 0 < m.2.1.length by omega)]
 unfold Qc at h ⊢
 rw [e0] at h ⊢
 rcases KO (Nv c d) m.2.1[0] 0 with hn | ⟨i, hi, hf⟩
 ·rw [JO _ _ _ hn] at h; omega
 ·obtain ⟨hj, hp⟩ := DF _ _ 0 i hi hf
  refine ⟨i, by rw [hf]; simp, by omega, ?_, ?_⟩
  ·rw [Mz (by omega) hi]; exact hp
  ·rw [Mz (by omega) hi]; exact DA (ha i hi)
theorem NH {c d : Int} (hc : c ≠ 0) {a : Ka} (ha : Ac a = true) (h : Nv c d a = true) : Rf a = ((2 : Int), c, d, (0 : Int), ()) := by
 unfold Nv at h
 rw [show (c != 0) = true by simpa using hc] at h
 simp only [cond_true, jd, beq_iff_eq] at h
 have hP := ha
 rw [Db] at hP
 unfold Zb at hP
 obtain ⟨h0, h2⟩ := h
 obtain ⟨h0, h1⟩ := h0
 unfold Rf at h0 h1 h2 ⊢
 cases ht : Fd a with
 | true =>
  rw [ht] at h0 h1 h2
  simp only [cond_true] at h0 h1 h2 ⊢
  rw [h1, ← h2]
 | false =>
  rw [ht] at h0 h1 h2
  simp only [cond_false] at h0 h1 h2 ⊢
  obtain ⟨k, c', d', n, u⟩ := a
  simp only at h0 h1 h2 hP
  subst h0; subst h1; subst h2
  have : n = 0 := by omega
  subst this
  rfl
theorem FN {d : Int} {a : Ka} (ha : Ac a = true) (h : Nv 0 d a = true) : a = ((2 : Int), (0 : Int), d, (0 : Int), ()) ∧ Fd a = false := by
 unfold Nv at h
 rw [show ((0 : Int) != 0) = false from rfl] at h
 simp only [cond_false, jd, beq_iff_eq] at h
 have hP := ha
 rw [Db] at hP
 unfold Zb at hP
 obtain ⟨⟨h0, h1⟩, h2⟩ := h
 obtain ⟨k, c', d', n, u⟩ := a
 simp only at h0 h1 h2 hP
 subst h0; subst h1; subst h2
 have : n = 0 := by omega
 subst this
 refine ⟨rfl, ?_⟩
 unfold Fd
 simp
theorem OV {e : Lb} {t : Yb} (ht : Af t = true) {k : Nat} (hk : k ≤ 31) (q P : List Na) (a til clock tp ta : Int) (ha : 0 ≤ a) (h6 : a ≤ 1000000) :
 ∃ cl tp1 ta1 : Int, Yk (e, t, q, til, clock, tp, ta, ()) (a, (k : Int), true, ()) ((a, (k : Int), false, ()) :: P) =
  some ((pE e k false, t, (a, (k : Int), false, ()) :: P, til, cl, tp1, ta1, ()), pR e k false) := by
 have h := ht
 simp only [Af, jd, decide_eq_true_eq] at h
 unfold Yk
 simp only [jg, cond_false, jn, PX ht hk ha (Int.le_refl a) (by omega) h6]
 cases Fd (Wf e.1.2.1 (Uf e.1 (Re e.2.2.1 e.2.2.2.1) k) k) with
 | false =>
  simp only [cond_false]
  exact ⟨_, _, _, rfl⟩
 | true =>
  simp only [cond_true]
  cases ((tp == j4 .i64 ((k : Int) + 1)) && !decide (j4 .i64 (a - ta) ≥ t.2.1)) with
  | true =>
   simp only [cond_true, show ((1 : Int) == 0) = false from rfl, show ((1 : Int) == 2) = false from rfl, cond_false]
   exact ⟨_, _, _, rfl⟩
  | false =>
   simp only [cond_false, show ((1 : Int) == 0) = false from rfl, show ((1 : Int) == 2) = false from rfl]
   exact ⟨_, _, _, rfl⟩
theorem N6 {e : Lb} {t : Yb} {k : Nat} (h : Fd (Wf e.1.2.1 (Uf e.1 (Re e.2.2.1 e.2.2.2.1) k) k) = false) (q P : List Na) (a til clock tp ta : Int) :
 ∃ cl tp1 ta1 : Int, Yk (e, t, q, til, clock, tp, ta, ()) (a, (k : Int), true, ()) P = some ((pE e k false, t, P, til, cl, tp1, ta1, ()), pR e k false) := by
 unfold Yk
 simp only [jg, cond_false, jn, h]
 exact ⟨_, _, _, rfl⟩
theorem OY {e : Lb} {t : Yb} {k : Nat} (q P : List Na) (a til clock tp ta : Int) :
 ∃ cl tp1 ta1 : Int, Yk (e, t, q, til, clock, tp, ta, ()) (a, (k : Int), false, ()) P = some ((rE e (BC e (k : Int)), t, P, til, cl, tp1, ta1, ()), rR e (BC e (k : Int))) := by
 unfold Yk
 simp only [j7, cond_true]
 exact ⟨_, _, _, rfl⟩
theorem FD {l l' : List Ma} (h : l.map (fun x => x.2.1) = l'.map (fun x => x.2.1)) : ∀ n, Ph l n = Ph l' n
 | 0 => rfl
 | n + 1 => by
  have e : ∀ x : List Ma, (x.any fun h => h.2.1.2.1 == ((n + 1 : Nat) : Int)) = ((x.map fun x => x.2.1).any fun a => a.2.1 == ((n + 1 : Nat) : Int)) := fun x => by rw [List.any_map]; rfl
  rw [Ph, Ph, FD h n, e l, e l', h]
theorem Y2 (k : Int) (a : Ka) : Hb [(k, a, ())] = Hb [((0 : Int), a, ())] := by
 unfold Hb
 rw [FD (l := [(k, a, ())]) (l' := [((0 : Int), a, ())]) rfl]
 rfl
theorem Yaf (k j : Int) (a b : Ka) : Hb [(k, a, ()), (j, b, ())] = Hb [((0 : Int), a, ()), ((1 : Int), b, ())] := by
 unfold Hb
 rw [FD (l := [(k, a, ()), (j, b, ())]) (l' := [((0 : Int), a, ()), ((1 : Int), b, ())]) rfl]
 rfl
def SB : Ca := ((0 : Int), ([] : List Int), ())
def hA (c d : Int) : Ma := ((0 : Int), ((2 : Int), c, d, (0 : Int), ()), ())
def hB (c : Int) : Ma := ((1 : Int), ((2 : Int), c, (0 : Int), (0 : Int), ()), ())
def SY (c d : Int) : List Ca := Kj Ji (Hb []) [Hb [hA c d]] ++ Kj Ji (Hb [hA c d]) [Hb []]
def TY (c d : Int) : List Ca := Kj Ji (Hb []) [Hb [hA 0 d]] ++ (Kj Ji (Hb [hA 0 d]) [Hb [hA 0 d, hB c]] ++ (Kj Ji (Hb [hA 0 d, hB c]) [Hb [hA 0 d]] ++ Kj Ji (Hb [hA 0 d]) [Hb []]))
theorem H7 : ∀ ch : Fin 256, ((Sb (ch.val : Int)).1 == 0) = false →
 Ic (fun _ s r => Zv s r) 0 (SB, []) (SY (Sb (ch.val : Int)).1 (Sb (ch.val : Int)).2.1) = (SB, [UInt8.ofNat ch.val]) ∧
 (((Sb (ch.val : Int)).2.1 == 0) = false → Ic (fun _ s r => Zv s r) 0 (SB, []) (TY (Sb (ch.val : Int)).1 (Sb (ch.val : Int)).2.1) = (SB, [UInt8.ofNat ch.val])) ∧
 ((Sb (ch.val : Int)).2.1 = 0 ∨ (Sb (ch.val : Int)).2.1 = 2) := by decide +kernel
theorem B7 (c d : Int) (hd : d = 0 ∨ d = 2) : Nw 0 0 false ((2 : Int), c, d, (0 : Int), ()) = ((0 : Int), (0 : Int), false, ((2 : Int), c, d, (0 : Int), ())) := by
 unfold Nw
 simp only [qk, cond_false]
 rw [show ((2 : Int) == 2) = true from rfl, cond_true]
 cases c == 0 with
 | true => rfl
 | false => rcases hd with rfl | rfl <;> rfl
theorem AG {m : Ha} (hm : Qk m) {h : List Ma} (hl : Re 0 h = 1) {k : Nat} {c d : Int} (hd : d = 0 ∨ d = 2) (ha : Rf (Wf m.2.1 0 k) = ((2 : Int), c, d, (0 : Int), ())) :
 pE (Dd m 0 0 false h) k false = Dd m 0 0 false (jf h [((k : Int), ((2 : Int), c, d, (0 : Int), ()), ())]) ∧
 pR (Dd m 0 0 false h) k false = Kj Ji (Hb h) [Hb (jf h [((k : Int), ((2 : Int), c, d, (0 : Int), ()), ())])] := by
 have e1 : AK (Dd m 0 0 false h) k false = ((2 : Int), c, d, (0 : Int), ()) := by
  unfold AK
  rw [cond_false]
  show Rf (Wf m.2.1 (Uf m (Re 0 h) k) k) = _
  rw [hl, SO m hm, ha]
 have e2 : Hk (Dd m 0 0 false h) k false = ((0 : Int), (0 : Int), false, ((2 : Int), c, d, (0 : Int), ())) := by
  unfold Hk
  rw [e1]
  exact B7 c d hd
 have e3 : pH (Dd m 0 0 false h) k false = jf h [((k : Int), ((2 : Int), c, d, (0 : Int), ()), ())] := by
  unfold pH
  rw [e2]; rfl
 have e4 : pM (Dd m 0 0 false h) k false = [] := by
  unfold pM
  rw [e2]; rfl
 refine ⟨?_, ?_⟩
 ·unfold pE
  rw [e2, e3]; rfl
 ·unfold pR
  rw [e3, e4]; rfl
theorem Q5 {m : Ha} (hm : Qk m) {h : List Ma} (hl : Re 0 h = 1) (k : Nat) :
 Fd (Wf (Dd m 0 0 false h).1.2.1 (Uf (Dd m 0 0 false h).1 (Re (Dd m 0 0 false h).2.2.1 (Dd m 0 0 false h).2.2.2.1) k) k) = Fd (Wf m.2.1 0 k) := by
 show Fd (Wf m.2.1 (Uf m (Re 0 h) k) k) = _
 rw [hl, SO m hm]
theorem GN : Re 0 [] = 1 := by decide
theorem Yaa (k : Int) (c d : Int) : Re 0 [(k, ((2 : Int), c, d, (0 : Int), ()), ())] = 1 := by
 unfold Re
 simp only [Ic]
 rw [show ((2 : Int) == 3) = false from rfl, cond_false]
 decide
structure L9 (m : Ha) (t : Yb) (til : Int) (ch : Nat) (a : Int) (P : List Na) (n : Nat) (S : List Mf) (clock tp ta : Int) : Prop where
 run : ∃ (cl tp1 ta1 : Int) (R : List Ca) (S' : List Mf),
  Ff (n + (Gg m (ch : Int) a).length) (Dd m 0 0 false [], t, jf (Gg m (ch : Int) a) P, til, clock, tp, ta, ()) S = Ff n (Dd m 0 0 false [], t, P, til, cl, tp1, ta1, ()) S' ∧
  S'.map (fun x => x.2.1) = S.map (fun x => x.2.1) ++ R ∧ Ic (fun _ s r => Zv s r) 0 (SB, []) R = (SB, [UInt8.ofNat ch])
theorem Js {n : Nat} {e : Lb} {t : Yb} {x : Na} {r : List Na} {til cl tp ta : Int} {S : List Mf} {d' : Ub} {l : List Ca}
 (h : Yk (e, t, x :: r, til, cl, tp, ta, ()) x r = some (d', l)) : Ff (n + 1) (e, t, x :: r, til, cl, tp, ta, ()) S = Ff n d' (Yo S d'.2.2.2.2.1 l) := by
 rw [Ff]
 simp only [h]
theorem T4 {m : Ha} (hv : Eb m = true) {t : Yb} (ht : Af t = true) (til : Int) {ch : Nat} (hch : ch < 256) (hok : Hg m (ch : Int) = true) {a : Int} (ha : 0 ≤ a) (h6 : a ≤ 1000000) (P : List Na) (n : Nat) (S : List Mf) (clock tp ta : Int) :
 L9 m t til ch a P n S clock tp ta := by
 have hm := Bf hv
 have hk2 := hm.k2
 obtain ⟨q1, q2⟩ := WJ (ch : Int)
 have htc := H7 ⟨ch, hch⟩
 simp only at htc
 refine ⟨?_⟩
 unfold Gg
 unfold Hg at hok
 revert hok
 cases hc0 : (Sb (ch : Int)).1 == 0 with
 | true => intro h; simp at h
 | false =>
  obtain ⟨tA, tB, hd⟩ := htc hc0
  have hc : (Sb (ch : Int)).1 ≠ 0 := by simpa using hc0
  simp only [cond_false]
  generalize (Sb (ch : Int)).1 = c at tA tB hc q1 q2 ⊢
  generalize (Sb (ch : Int)).2.1 = d at tA tB hd ⊢
  by_cases hA1 : Qc m c d ≥ 0
  ·rw [Ba hA1]
   intro _
   simp only [cond_true]
   obtain ⟨k, ek, hk, hkb, hact⟩ := Iw hm hA1
   have htap := NH hc hact hkb
   obtain ⟨p1, p2⟩ := AG hm GN hd htap
   rw [ek]
   obtain ⟨cl, tp1, ta1, s1⟩ := OV (e := Dd m 0 0 false []) ht (k := k) (by omega) ((a, (k : Int), true, ()) :: (a, (k : Int), false, ()) :: P) P a til clock tp ta ha h6
   rw [p1, p2] at s1
   obtain ⟨cl2, tp2, ta2, s2⟩ := OY (e := Dd m 0 0 false (jf [] [((k : Int), ((2 : Int), c, d, (0 : Int), ()), ())])) (t := t) (k := k) ((a, (k : Int), false, ()) :: P) P a til cl tp1 ta1
   have hx : BC (Dd m 0 0 false (jf [] [((k : Int), ((2 : Int), c, d, (0 : Int), ()), ())])) (k : Int) = 0 := by
    show (Gc (fun h : Ma => h.1 == (k : Int)) 0 [((k : Int), ((2 : Int), c, d, (0 : Int), ()), ())]).toNat = 0
    simp [Gc]
   rw [hx] at s2
   refine ⟨cl2, tp2, ta2, SY c d, _, (Js s1).trans (Js s2), ?_, tA⟩
   rw [Mw, Mw]
   have r1 : Hb (jf [] [((k : Int), ((2 : Int), c, d, (0 : Int), ()), ())]) = Hb [hA c d] := Y2 _ _
   have r2 : rR (Dd m 0 0 false (jf [] [((k : Int), ((2 : Int), c, d, (0 : Int), ()), ())])) 0 = Kj Ji (Hb [hA c d]) [Hb []] := by
    rw [← r1]; rfl
   rw [r2, r1]
   unfold SY
   simp only [List.append_eq, List.append_assoc]
  ·have hA2 : decide (Qc m c d ≥ 0) = false := Aa hA1
   rw [hA2]
   simp only [cond_false]
   cases hcase : (d == 0 || decide (Qc m c 0 < 0) || decide (Qc m 0 d < 0)) with
   | true => intro h; simp at h
   | false =>
    intro _
    simp only [cond_false]
    simp only [Bool.or_eq_false_iff, decide_eq_false_iff_not, Int.not_lt] at hcase
    obtain ⟨⟨hd0, hk0⟩, hs0⟩ := hcase
    have hd2 : d = 2 := by
     rcases hd with h | h
     ·rw [h] at hd0; simp at hd0
     ·exact h
    obtain ⟨k, ek, hk, hkb, hact⟩ := Iw hm hk0
    obtain ⟨s, es, hs, hsb, hsact⟩ := Iw hm hs0
    have htap := NH hc hact hkb
    obtain ⟨hmod, hnt⟩ := FN hsact hsb
    have hmt : Rf (Wf m.2.1 0 s) = ((2 : Int), (0 : Int), d, (0 : Int), ()) := by
     unfold Rf
     rw [hnt, cond_false, hmod]
    have hks : (s : Int) ≠ (k : Int) := by
     intro h
     have : s = k := by omega
     subst this
     rw [hmt] at htap
     simp only [jh] at htap
     exact hc htap.2.1.symm
    rw [ek, es]
    obtain ⟨p1, p2⟩ := AG hm GN hd hmt
    have hl1 : Re 0 (jf [] [((s : Int), ((2 : Int), (0 : Int), d, (0 : Int), ()), ())]) = 1 := Yaa _ _ _
    obtain ⟨p3, p4⟩ := AG hm hl1 (.inl rfl) htap
    have hnt' : Fd (Wf (Dd m 0 0 false []).1.2.1 (Uf (Dd m 0 0 false []).1 (Re (Dd m 0 0 false []).2.2.1 (Dd m 0 0 false []).2.2.2.1) s) s) = false := by
     rw [Q5 hm GN]; exact hnt
    obtain ⟨cl, tp1, ta1, s1⟩ := N6 (t := t) hnt' ((a, (s : Int), true, ()) :: (a, (k : Int), true, ()) :: (a, (k : Int), false, ()) :: (a, (s : Int), false, ()) :: P) ((a, (k : Int), true, ()) :: (a, (k : Int), false, ()) :: (a, (s : Int), false, ()) :: P) a til clock tp ta
    rw [p1, p2] at s1
    obtain ⟨cl2, tp2, ta2, s2⟩ := OV (e := Dd m 0 0 false (jf [] [((s : Int), ((2 : Int), (0 : Int), d, (0 : Int), ()), ())])) ht (k := k) (by omega) ((a, (k : Int), true, ()) :: (a, (k : Int), false, ()) :: (a, (s : Int), false, ()) :: P) ((a, (s : Int), false, ()) :: P) a til cl tp1 ta1 ha h6
    rw [p3, p4] at s2
    obtain ⟨cl3, tp3, ta3, s3⟩ := OY (e := Dd m 0 0 false (jf (jf [] [((s : Int), ((2 : Int), (0 : Int), d, (0 : Int), ()), ())]) [((k : Int), ((2 : Int), c, (0 : Int), (0 : Int), ()), ())])) (t := t) (k := k) ((a, (k : Int), false, ()) :: (a, (s : Int), false, ()) :: P) ((a, (s : Int), false, ()) :: P) a til cl2 tp2 ta2
    have hx1 : BC (Dd m 0 0 false (jf (jf [] [((s : Int), ((2 : Int), (0 : Int), d, (0 : Int), ()), ())]) [((k : Int), ((2 : Int), c, (0 : Int), (0 : Int), ()), ())])) (k : Int) = 1 := by
     show (Gc (fun h : Ma => h.1 == (k : Int)) 0 [((s : Int), ((2 : Int), (0 : Int), d, (0 : Int), ()), ()), ((k : Int), ((2 : Int), c, (0 : Int), (0 : Int), ()), ())]).toNat = 1
     simp [Gc, show ((s : Int) == (k : Int)) = false by simpa using hks]
    rw [hx1] at s3
    have e3 : rE (Dd m 0 0 false (jf (jf [] [((s : Int), ((2 : Int), (0 : Int), d, (0 : Int), ()), ())]) [((k : Int), ((2 : Int), c, (0 : Int), (0 : Int), ()), ())])) 1 = Dd m 0 0 false [((s : Int), ((2 : Int), (0 : Int), d, (0 : Int), ()), ())] := rfl
    rw [e3] at s3
    obtain ⟨cl4, tp4, ta4, s4⟩ := OY (e := Dd m 0 0 false [((s : Int), ((2 : Int), (0 : Int), d, (0 : Int), ()), ())]) (t := t) (k := s) ((a, (s : Int), false, ()) :: P) P a til cl3 tp3 ta3
    have hx2 : BC (Dd m 0 0 false [((s : Int), ((2 : Int), (0 : Int), d, (0 : Int), ()), ())]) (s : Int) = 0 := by
     show (Gc (fun h : Ma => h.1 == (s : Int)) 0 [((s : Int), ((2 : Int), (0 : Int), d, (0 : Int), ()), ())]).toNat = 0
     simp [Gc]
    rw [hx2] at s4
    refine ⟨cl4, tp4, ta4, TY c d, _, (Js s1).trans ((Js s2).trans ((Js s3).trans (Js s4))), ?_, tB hd0⟩
    rw [Mw, Mw, Mw, Mw]
    have r1 : Hb (jf [] [((s : Int), ((2 : Int), (0 : Int), d, (0 : Int), ()), ())]) = Hb [hA 0 d] := Y2 _ _
    have r2 : Hb (jf (jf [] [((s : Int), ((2 : Int), (0 : Int), d, (0 : Int), ()), ())]) [((k : Int), ((2 : Int), c, (0 : Int), (0 : Int), ()), ())]) = Hb [hA 0 d, hB c] := Yaf _ _ _ _
    have r3 : rR (Dd m 0 0 false (jf (jf [] [((s : Int), ((2 : Int), (0 : Int), d, (0 : Int), ()), ())]) [((k : Int), ((2 : Int), c, (0 : Int), (0 : Int), ()), ())])) 1 = Kj Ji (Hb [hA 0 d, hB c]) [Hb [hA 0 d]] := by
     rw [← r1, ← r2]; rfl
    have r4 : rR (Dd m 0 0 false [((s : Int), ((2 : Int), (0 : Int), d, (0 : Int), ()), ())]) 0 = Kj Ji (Hb [hA 0 d]) [Hb []] := by
     rw [← r1]; rfl
    rw [r4, r3, r2, r1]
    unfold TY
    simp only [List.append_eq, List.append_assoc]
def Bd (b : Int) : List UInt8 → List UInt8 → List (List UInt8)
 | cur, [] => [cur]
 | cur, c :: l => cond (((UInt8.toNat c : Nat) : Int) == b) (cur :: Bd b [] l) (Bd b (cur ++ [c]) l)
theorem GG (b : Int) : ∀ (l cur : List UInt8), (Bd b cur l).length ≤ l.length + 1
 | [], _ => by simp [Bd]
 | c :: l, cur => by
  have h1 := GG b l []
  have h2 := GG b l (cur ++ [c])
  simp only [Bd]
  cases ((UInt8.toNat c : Nat) : Int) == b
  ·simp only [cond_false, jw]; omega
  ·simp only [cond_true, jw]; omega
theorem Ez (b : Int) : ∀ (l cur : List UInt8), ∀ x ∈ Bd b cur l, x.length ≤ cur.length + l.length
 | [], cur => by simp [Bd]
 | c :: l, cur => by
  have h1 := Ez b l []
  have h2 := Ez b l (cur ++ [c])
  simp only [Bd]
  cases ((UInt8.toNat c : Nat) : Int) == b
  ·simp only [cond_false]
   intro x hx
   have := h2 x hx
   simp at this ⊢; omega
  ·simp only [cond_true]
   intro x hx
   rcases jp.1 hx with rfl | hx
   ·omega
   ·have := h1 x hx
    simp at this ⊢; omega
theorem G0 {l : List UInt8} {i j : Nat} (h : i ≤ j) (hj : j < l.length) : Xa l i (j + 1) = Xa l i j ++ [l[j]] := by
 unfold Xa
 rw [List.take_add_one, List.drop_append, je hj]
 simp only [Option.toList_some, qs]
 rw [show i - min j l.length = 0 by omega]; rfl
theorem AO {l : List UInt8} {i : Nat} : Xa l i i = [] := by simp [Xa]
theorem Ey (s : List UInt8) (b : Int) (hs : s.length ≤ 100000000) : ∀ (n i fr : Nat) (o : List (List UInt8)), i + n = s.length → fr ≤ i → o.length ≤ i →
 Eg ((s, b, o, (fr : Int), (i : Int), ()), ()) = some (.inl ((o ++ Bd b (Xa s fr i) (s.drop i), ()), ()))
 | 0, i, fr, o, hn, hf, ho => by
  have : i = s.length := by omega
  subst this
  unfold Eg
  refine (Pb (z := some (Sum.inl ((s, b, o ++ [Xa s fr s.length], ((s.length + 1 : Nat) : Int), ((s.length + 1 : Nat) : Int), ()), ()))) ?_).trans ?_
  ·simp only [Fj]
   rw [Ba (by omega), show (((s.length : Nat) : Int) == ((ja s : Nat) : Int)) = true by simp, Dr (by omega) (by omega), Nd (by simp; omega), Vd (by omega)]
   rfl
  ·refine (Pb (z := some (Sum.inr (.inl ((o ++ [Xa s fr s.length], ()), ())))) ?_).trans ?_
   ·simp only [Fj]
    rw [Aa (by omega)]; rfl
   ·simp [Bd]
 | n + 1, i, fr, o, hn, hf, ho => by
  have hi : i < s.length := by omega
  have hd : s.drop i = s[i] :: s.drop (i + 1) := List.drop_eq_getElem_cons hi
  unfold Eg
  rw [hd, Bd]
  by_cases hc : (((UInt8.toNat s[i] : Nat) : Int) == b) = true
  ·refine (Pb (z := some (Sum.inl ((s, b, o ++ [Xa s fr i], ((i + 1 : Nat) : Int), ((i + 1 : Nat) : Int), ()), ()))) ?_).trans ?_
   ·simp only [Fj]
    rw [Ba (by omega), show ((i : Int) == ((ja s : Nat) : Int)) = false by simp; omega, Dc hi]
    simp only [cond_true, cond_false, jb]
    rw [hc, Dr (by omega) (by omega), Nd (by simp; omega), Vd (by omega)]
    rfl
   ·rw [hc, cond_true]
    have := Ey s b hs n (i + 1) (i + 1) (o ++ [Xa s fr i]) (by omega) (by omega) (by simp; omega)
    rw [AO] at this
    refine this.trans ?_
    simp
  ·have hc' : (((UInt8.toNat s[i] : Nat) : Int) == b) = false := by simpa using hc
   refine (Pb (z := some (Sum.inl ((s, b, o, (fr : Int), ((i + 1 : Nat) : Int), ()), ()))) ?_).trans ?_
   ·simp only [Fj]
    rw [Ba (by omega), show ((i : Int) == ((ja s : Nat) : Int)) = false by simp; omega, Dc hi]
    simp only [cond_true, cond_false, jb]
    rw [hc', Vd (by omega)]
    rfl
   ·rw [hc', cond_false]
    have := Ey s b hs n (i + 1) fr o (by omega) (by omega) (by omega)
    rw [G0 hf hi] at this
    exact this
theorem Fu {s : List UInt8} (b : Int) (hs : s.length ≤ 100000000) : Ug s b = some (Bd b [] s, ()) := by
 have := Ey s b hs s.length 0 0 [] (by omega) (by omega) (by simp)
 unfold Ug
 rw [show (0 : Int) = ((0 : Nat) : Int) from rfl, this]
 simp [AO]
def Vy (f : Int → List UInt8) (s : List UInt8) : Nat → Nat → Option Nat
 | 0, _ => none
 | n + 1, c => cond (f (c : Int) == s) (some c) (Vy f s n (c + 1))
def Y8 : Option Nat → Int
 | some k => (k : Int)
 | none => 0
def QH (s : List UInt8) : Int := Y8 (Vy Jj s 56 1)
def EM (s : List UInt8) : Int := Y8 (Vy Gl s 15 1)
theorem FG (s : List UInt8) : ∀ (n c : Nat), c + n = 57 → Dj ((s, (c : Int), ()), ()) = some (match Vy Jj s n c with | some k => .inr (((k : Int), ()), ()) | none => .inl ((), ()))
 | 0, c, h => by
  unfold Dj
  refine (Pb (z := some (Sum.inr (.inl ((), ())))) ?_).trans rfl
  simp only [Tq]
  rw [Aa (by omega)]; rfl
 | n + 1, c, h => by
  have ih := FG s n (c + 1) (by omega)
  unfold Dj at ih ⊢
  rw [Vy]
  cases hc : Jj (c : Int) == s with
  | true =>
   refine (Pb (z := some (Sum.inr (.inr (((c : Int), ()), ())))) ?_).trans rfl
   simp only [Tq]
   rw [Ba (by omega), Zk]
   simp only [cond_true, jb]
   rw [hc]; rfl
  | false =>
   refine (Pb (z := some (Sum.inl ((s, ((c + 1 : Nat) : Int), ()), ()))) ?_).trans ih
   simp only [Tq]
   rw [Ba (by omega), Zk]
   simp only [cond_true, jb]
   rw [hc, Vd (by omega)]; rfl
theorem Ow (s : List UInt8) : Xm s = some (QH s, ()) := by
 have := FG s 56 1 rfl
 unfold Xm QH
 rw [show (1 : Int) = ((1 : Nat) : Int) from rfl, this]
 cases Vy Jj s 56 1 <;> rfl
theorem IE (s : List UInt8) : ∀ (n c : Nat), c + n = 16 → Jh ((s, (c : Int), ()), ()) = some (match Vy Gl s n c with | some k => .inr (((k : Int), ()), ()) | none => .inl ((), ()))
 | 0, c, h => by
  unfold Jh
  refine (Pb (z := some (Sum.inr (.inl ((), ())))) ?_).trans rfl
  simp only [Km]
  rw [Aa (by omega)]; rfl
 | n + 1, c, h => by
  have ih := IE s n (c + 1) (by omega)
  unfold Jh at ih ⊢
  rw [Vy]
  cases hc : Gl (c : Int) == s with
  | true =>
   refine (Pb (z := some (Sum.inr (.inr (((c : Int), ()), ())))) ?_).trans rfl
   simp only [Km]
   rw [Ba (by omega), Wr]
   simp only [cond_true, jb]
   rw [hc]; rfl
  | false =>
   refine (Pb (z := some (Sum.inl ((s, ((c + 1 : Nat) : Int), ()), ()))) ?_).trans ih
   simp only [Km]
   rw [Ba (by omega), Wr]
   simp only [cond_true, jb]
   rw [hc, Vd (by omega)]; rfl
theorem Ct (s : List UInt8) : Ok s = some (EM s, ()) := by
 have := IE s 15 1 rfl
 unfold Ok EM
 rw [show (1 : Int) = ((1 : Nat) : Int) from rfl, this]
 cases Vy Gl s 15 1 <;> rfl
theorem p10 {i : Nat} (h : i ≤ 9) : (10 : Int) ^ i ≤ 1000000000 := by
 have : i = 0 ∨ i = 1 ∨ i = 2 ∨ i = 3 ∨ i = 4 ∨ i = 5 ∨ i = 6 ∨ i = 7 ∨ i = 8 ∨ i = 9 := by omega
 rcases this with rfl | rfl | rfl | rfl | rfl | rfl | rfl | rfl | rfl | rfl <;> decide
theorem Pao {i : Nat} (h : i ≤ 8) : (10 : Int) ^ i ≤ 100000000 := by
 have : i = 0 ∨ i = 1 ∨ i = 2 ∨ i = 3 ∨ i = 4 ∨ i = 5 ∨ i = 6 ∨ i = 7 ∨ i = 8 := by omega
 rcases this with rfl | rfl | rfl | rfl | rfl | rfl | rfl | rfl | rfl <;> decide
def GD : List UInt8 → Int → Option Int
 | [], v => some v
 | c :: l, v => cond (decide (((UInt8.toNat c : Nat) : Int) < 48) || decide (((UInt8.toNat c : Nat) : Int) > 57)) none (GD l (10 * v + ((UInt8.toNat c : Nat) : Int) - 48))
theorem WT : ∀ (l : List UInt8) (v w : Int) (k : Nat), 0 ≤ v → v < (10 : Int) ^ k → GD l v = some w → 0 ≤ w ∧ w < (10 : Int) ^ (k + l.length)
 | [], v, w, k, h0, h1, h => by simp only [GD, jc] at h; subst h; exact ⟨h0, h1⟩
 | c :: l, v, w, k, h0, h1, h => by
  simp only [GD] at h
  revert h
  by_cases hc : ((UInt8.toNat c : Nat) : Int) < 48 ∨ ((UInt8.toNat c : Nat) : Int) > 57
  ·have : (decide (((UInt8.toNat c : Nat) : Int) < 48) || decide (((UInt8.toNat c : Nat) : Int) > 57)) = true := by simpa using hc
   rw [this]; intro h; simp at h
  ·have : (decide (((UInt8.toNat c : Nat) : Int) < 48) || decide (((UInt8.toNat c : Nat) : Int) > 57)) = false := by simpa using hc
   rw [this]
   intro h
   have hp : (10 : Int) ^ (k + 1) = 10 ^ k * 10 := Int.pow_succ 10 k
   have := WT l (10 * v + ((UInt8.toNat c : Nat) : Int) - 48) w (k + 1) (by omega) (by rw [hp]; omega) h
   rw [jw, show k + (l.length + 1) = k + 1 + l.length by omega]
   exact this
theorem QI (s t : List UInt8) (ht : t.length ≤ 9) : ∀ (n i : Nat) (v : Int), i + n = t.length → 0 ≤ v → v < (10 : Int) ^ i →
 Te ((s, t, v, (i : Int), ()), ()) = some (match GD (t.drop i) v with | some w => .inl ((s, t, w, ()), ()) | none => .inr (((0 : Int), false, ()), ()))
 | 0, i, v, hn, h0, h1 => by
  have : i = t.length := by omega
  subst this
  unfold Te
  refine (Pb (z := some (Sum.inr (.inl ((s, t, v, ()), ())))) ?_).trans ?_
  ·simp only [Sj]
   rw [Aa (by omega)]; rfl
  ·simp [GD]
 | n + 1, i, v, hn, h0, h1 => by
  have hi : i < t.length := by omega
  have hd : t.drop i = t[i] :: t.drop (i + 1) := List.drop_eq_getElem_cons hi
  have hp : (10 : Int) ^ i ≤ 100000000 := Pao (by omega)
  have hp1 : (10 : Int) ^ (i + 1) = 10 ^ i * 10 := Int.pow_succ 10 i
  have hc := UInt8.toNat_lt t[i]
  unfold Te
  rw [hd, GD]
  by_cases c1 : ((UInt8.toNat t[i] : Nat) : Int) < 48
  ·refine (Pb (z := some (Sum.inr (.inr (((0 : Int), false, ()), ())))) ?_).trans ?_
   ·simp only [Sj]
    rw [Ba (by omega), Dc hi]
    simp only [cond_true, jb]
    rw [Ba c1]; rfl
   ·rw [Ba c1]; rfl
  ·by_cases c2 : ((UInt8.toNat t[i] : Nat) : Int) > 57
   ·refine (Pb (z := some (Sum.inr (.inr (((0 : Int), false, ()), ())))) ?_).trans ?_
    ·simp only [Sj]
     rw [Ba (by omega), Dc hi]
     simp only [cond_true, jb]
     rw [Aa c1, Ba c2]; rfl
    ·rw [Ba c2, Aa c1]; rfl
   ·refine (Pb (z := some (Sum.inl ((s, t, 10 * v + ((UInt8.toNat t[i] : Nat) : Int) - 48, ((i + 1 : Nat) : Int), ()), ()))) ?_).trans ?_
    ·simp only [Sj]
     rw [Ba (by omega), Dc hi]
     simp only [cond_true, jb]
     rw [Aa c1, Aa c2, Vd (by omega), Qd (n := 10 * v) (by omega) (by omega), Qd (n := ((UInt8.toNat t[i] : Nat) : Int)) (by omega) (by omega),
      Qd (n := 10 * v + ((UInt8.toNat t[i] : Nat) : Int)) (by omega) (by omega), Qd (by omega) (by omega)]
     rfl
    ·rw [Aa c1, Aa c2]
     exact QI s t ht n (i + 1) _ (by omega) (by omega) (by omega)
def ZF (t s : List UInt8) : Int × (Bool × Unit) :=
 cond (decide (((ja t : Nat) : Int) < 1)) ((0 : Int), false, ()) (cond (decide (((ja t : Nat) : Int) > 9)) ((0 : Int), false, ())
  (match GD t 0 with
  | none => ((0 : Int), false, ())
  | some v => cond (Lib.itoa (cond (decide (((ja t : Nat) : Int) < ((ja s : Nat) : Int))) (-v) v) != s) ((0 : Int), false, ()) (cond (decide (((ja t : Nat) : Int) < ((ja s : Nat) : Int))) (-v) v, true, ())))
def Sv : List UInt8 → Int × (Bool × Unit)
 | [] => ((0 : Int), false, ())
 | c :: l => cond (((UInt8.toNat c : Nat) : Int) == 45) (ZF l (c :: l)) (ZF (c :: l) (c :: l))
theorem JM (s t : List UInt8) (h2 : ¬ ((ja t : Nat) : Int) > 9) (h1 : ¬ ((ja t : Nat) : Int) < 1) :
 (jz (Te ((s, t, (0 : Int), (0 : Int), ()), ())) (Sum.elim (fun y11 => (cond (decide (((ja y11.1.2.1 : Nat) : Int) < ((ja y11.1.1 : Nat) : Int)))
 (jz (Hd (Go.IntKind.wrap .i64 ((0 : Int) - y11.1.2.2.1))) fun r13 =>
 (cond (r13.1 != y11.1.1)
 (some ((0 : Int), false, ()))
 (some ((Go.IntKind.wrap .i64 ((0 : Int) - y11.1.2.2.1)), true, ()))))
 (jz (Hd y11.1.2.2.1) fun r14 =>
 (cond (r14.1 != y11.1.1)
 (some ((0 : Int), false, ()))
 (
  some (y11.1.2.2.1, true, ())))))) (fun z12 => (some (z12.1.1, z12.1.2.1, ()))))) = some (ZF t s) := by
  have := QI s t (by omega) t.length 0 0 (by omega) (by omega) (by decide)
  rw [show ((0 : Nat) : Int) = 0 from rfl] at this
  rw [this, List.drop_zero]
  unfold ZF
  rw [Aa h1, Aa h2]
  cases hg : GD t 0 with
  | none => rfl
  | some v =>
   have hb := WT t 0 v 0 (by omega) (by decide) hg
   have hp := p10 (show 0 + t.length ≤ 9 by omega)
   simp only [jb, qh, cond_false]
   cases decide (((ja t : Nat) : Int) < ((ja s : Nat) : Int)) with
   | true =>
    simp only [cond_true]
    rw [Qd (n := 0 - v) (by omega) (by omega), Ys (by omega), show (0 : Int) - v = -v by omega]
    simp only [jb]
    cases Lib.itoa (-v) != s <;> rfl
   | false =>
    simp only [cond_false]
    rw [Ys (by omega)]
    simp only [jb]
    cases Lib.itoa v != s <;> rfl
theorem JA {s : List UInt8} (hs : s.length ≤ 100000000) : Np s = some (Sv s) := by
 unfold Np
 cases s with
 | nil => rfl
 | cons c l =>
  rw [Ba (by rw [jw]; omega)]
  rw [show Wc (c :: l) 0 = some c from rfl]
  simp only [cond_true, jb, Sv]
  have hcut : Xa (c :: l) (jy 1) (jy ((ja (c :: l) : Nat) : Int)) = l := by
   rw [show jy 1 = 1 from rfl, jn]
   unfold Xa
   rw [List.take_length]; rfl
  have hok : Pd (ja (c :: l)) 1 ((ja (c :: l) : Nat) : Int) = true := Dr (lo := 1) (by rw [jw]; omega) (jo _)
  cases ((UInt8.toNat c : Nat) : Int) == 45 with
  | true =>
   simp only [cond_true]
   rw [hok, hcut]
   simp only [cond_true]
   by_cases h1 : ((ja l : Nat) : Int) < 1
   ·unfold ZF; rw [Ba h1]; rfl
   ·by_cases h2 : ((ja l : Nat) : Int) > 9
    ·unfold ZF; rw [Ba h2, Aa h1]; rfl
    ·rw [Aa h1, Aa h2]
     simp only [cond_false]
     exact JM (c :: l) l h2 h1
  | false =>
   simp only [cond_false]
   by_cases h1 : ((ja (c :: l) : Nat) : Int) < 1
   ·unfold ZF; rw [Ba h1]; rfl
   ·by_cases h2 : ((ja (c :: l) : Nat) : Int) > 9
    ·unfold ZF; rw [Ba h2, Aa h1]; rfl
    ·rw [Aa h1, Aa h2]
     simp only [cond_false]
     exact JM (c :: l) (c :: l) h2 h1
def Qad (a : Ka) : List UInt8 :=
 cond (a.1 == 0) Bl (cond (a.1 == 1) Zr (cond (a.1 == 3) ([109, 111, 58] ++ Lib.itoa a.2.2.2.1) (cond (a.1 == 4) ([116, 103, 58] ++ Lib.itoa a.2.2.2.1) (cond (a.1 == 5) ([116, 111, 58] ++ Lib.itoa a.2.2.2.1)
  (cond (a.1 == 6) (Gl a.2.2.1 ++ [47] ++ Jj a.2.1) (cond (a.1 == 7) (Lib.itoa a.2.2.2.1 ++ [47] ++ Jj a.2.1) (cond (a.1 == 8) (Qp ++ Gl a.2.2.1) (cond (a.1 == 9) (Rp ++ Lib.itoa a.2.2.2.1)
  (cond (a.1 == 10) Pp (cond (a.2.2.1 == 0) (Jj a.2.1) (Gl a.2.2.1 ++ [45] ++ Jj a.2.1)))))))))))
noncomputable def IX (a : Ka) : List UInt8 := cond (Ac a) (Qad a) []
theorem OT {a : Ka} (h : Ac a = true) : 0 ≤ a.2.2.2.1 ∧ a.2.2.2.1 ≤ 3 := by
 rw [Db] at h
 unfold Zb at h
 omega
theorem Eae {n : Int} (h : 0 ≤ n ∧ n ≤ 3) : (Lib.itoa n).length ≤ 21 := T5 (by omega)
theorem csp {b : Bool} {x y : List UInt8} {z : Option (List UInt8 × Unit)} (h : z = some (y, ())) : cond b (some (x, ())) z = some (cond b x y, ()) := by cases b <;> simp [h]
theorem VD (a : Ka) : Rd a = some (IX a, ()) := by
 unfold Rd IX
 rw [Ou]
 cases h : Ac a with
 | false => rfl
 | true =>
  have h1 := Eae (OT h)
  have h2 := B6 a.2.2.1
  have h3 := M0 a.2.1
  have h4 := OT h
  simp only [jb, jg, cond_false, cond_true, Qad]
  rw [Ys (by omega), Wr, Zk]
  simp only [jb]
  rw [Nd (n := ja ([109, 111, 58] : List UInt8) + ja (Lib.itoa a.2.2.2.1)) (by simp; omega), Nd (n := ja ([116, 103, 58] : List UInt8) + ja (Lib.itoa a.2.2.2.1)) (by simp; omega),
   Nd (n := ja ([116, 111, 58] : List UInt8) + ja (Lib.itoa a.2.2.2.1)) (by simp; omega), Nd (n := ja (Gl a.2.2.1) + ja ([47] : List UInt8)) (by simp; omega),
   Nd (n := ja (jf (Gl a.2.2.1) [47]) + ja (Jj a.2.1)) (by simp; omega), Nd (n := ja (Lib.itoa a.2.2.2.1) + ja ([47] : List UInt8)) (by simp; omega),
   Nd (n := ja (jf (Lib.itoa a.2.2.2.1) [47]) + ja (Jj a.2.1)) (by simp; omega), Nd (n := ja Qp + ja (Gl a.2.2.1)) (by simp [Qp]; omega),
   Nd (n := ja Rp + ja (Lib.itoa a.2.2.2.1)) (by simp [Rp]; omega), Nd (n := ja (Gl a.2.2.1) + ja ([45] : List UInt8)) (by simp; omega),
   Nd (n := ja (jf (Gl a.2.2.1) [45]) + ja (Jj a.2.1)) (by simp; omega)]
  simp only [cond_true]
  iterate 11 refine csp ?_
  rfl
structure Gas (k : Nat) (s : SK × List Mf) : Prop where
 sz : K9 s.1
 len : s.2.length ≤ 1088 * k
 rep : ∀ y ∈ s.2, y.2.1.2.1.length ≤ 56
def J9 : Ka := ((0 : Int), (0 : Int), (0 : Int), (0 : Int), ())
def JY (k : Int) (l r : List UInt8) : Ka :=
 cond (l == [109, 111]) ((3 : Int), (0 : Int), (0 : Int), (Sv r).1, ()) (cond (l == [116, 103]) ((4 : Int), (0 : Int), (0 : Int), (Sv r).1, ()) (cond (l == [116, 111]) ((5 : Int), (0 : Int), (0 : Int), (Sv r).1, ())
  (cond (l == Iy) ((9 : Int), (0 : Int), (0 : Int), (Sv r).1, ()) (k, (0 : Int), EM r, (0 : Int), ()))))
theorem ON (k : Int) (l : List UInt8) {r : List UInt8} (hr : r.length ≤ 100000000) : Hx k l r = some (JY k l r, ()) := by
 unfold Hx JY
 rw [JA hr, Ct]
 simp only [jb]
 cases l == [109, 111] with
 | true => rfl
 | false =>
  cases l == [116, 103] with
  | true => rfl
  | false =>
   cases l == [116, 111] with
   | true => rfl
   | false => cases l == Iy <;> rfl
noncomputable def D5 (s : List UInt8) (g : Ka) : Ka × (Bool × Unit) := cond (s == ([] : List UInt8) || IX g != s) (J9, false, ()) (g, true, ())
theorem Lx (s : List UInt8) (g : Ka) : (cond (s == ([] : List UInt8)) (some (((0 : Int), (0 : Int), (0 : Int), (0 : Int), ()), false, ())) (jz (Rd g) fun r =>
 (cond (r.1 != s) (some (((0 : Int), (0 : Int), (0 : Int), (0 : Int), ()), false, ())) (some (g, true, ())))) : Option (Ka × (Bool × Unit))) = some (D5 s g) := by
 unfold D5
 cases s == ([] : List UInt8) with
 | true => rfl
 | false =>
  rw [VD]
  simp only [cond_false, jb, Bool.false_or]
  cases IX g != s <;> rfl
def LG (l : List (List UInt8)) : Bool := ((ja l : Nat) : Int) == 2
def Q0 (s : List UInt8) : Ka :=
 cond (s == Bl) J9 (cond (s == Zr) ((1 : Int), (0 : Int), (0 : Int), (0 : Int), ()) (cond (s == Pp) ((10 : Int), (0 : Int), (0 : Int), (0 : Int), ())
  (cond (LG (Bd 58 [] s)) (JY 8 ((Bd 58 [] s).getD 0 []) ((Bd 58 [] s).getD 1 []))
  (cond (LG (Bd 47 [] s)) (cond (Sv ((Bd 47 [] s).getD 0 [])).2.1 ((7 : Int), QH ((Bd 47 [] s).getD 1 []), (0 : Int), (Sv ((Bd 47 [] s).getD 0 [])).1, ())
   ((6 : Int), QH ((Bd 47 [] s).getD 1 []), EM ((Bd 47 [] s).getD 0 []), (0 : Int), ()))
  (cond (LG (Bd 45 [] s)) ((2 : Int), QH ((Bd 45 [] s).getD 1 []), EM ((Bd 45 [] s).getD 0 []), (0 : Int), ()) ((2 : Int), QH s, (0 : Int), (0 : Int), ()))))))
noncomputable def PH (s : List UInt8) : Ka × (Bool × Unit) := D5 s (Q0 s)
theorem QN {l : List (List UInt8)} (h : LG l = true) : Bj l.length 0 = true ∧ Bj l.length 1 = true ∧ l[jy 0]? = some (l.getD 0 []) ∧ l[jy 1]? = some (l.getD 1 []) := by
 unfold LG at h
 have h2 : l.length = 2 := by simp at h; omega
 match l, h2 with
 | [x, y], _ => exact ⟨rfl, rfl, rfl, rfl⟩
theorem OE {s : List UInt8} (hs : s.length ≤ 100000000) : Zo s = some (PH s) := by
 unfold Zo PH Q0
 rw [Ow, Fu 58 hs, Fu 47 hs, Fu 45 hs]
 simp only [jb]
 cases s == Bl with
 | true => exact Lx s _
 | false =>
 cases s == Zr with
 | true => exact Lx s _
 | false =>
 cases s == Pp with
 | true => exact Lx s _
 | false =>
 simp only [cond_false]
 rw [show (((ja (Bd 58 [] s) : Nat) : Int) == 2) = LG (Bd 58 [] s) from rfl, show (((ja (Bd 47 [] s) : Nat) : Int) == 2) = LG (Bd 47 [] s) from rfl, show (((ja (Bd 45 [] s) : Nat) : Int) == 2) = LG (Bd 45 [] s) from rfl]
 have hp : ∀ (b : Int) (n : Nat), ((Bd b [] s).getD n []).length ≤ 100000000 := fun b n => by
  rw [qg]
  cases h : (Bd b [] s)[n]? with
  | none => simp
  | some x =>
   have := Ez b s [] x (List.mem_of_getElem? h)
   simp only [Option.getD_some]
   simp at this; omega
 cases h1 : LG (Bd 58 [] s) with
 | true =>
  obtain ⟨a1, a2, a3, a4⟩ := QN h1
  rw [a1, a2, a3, a4]
  simp only [cond_true, jb]
  rw [ON _ _ (hp 58 1)]
  simp only [jb]
  exact Lx s _
 | false =>
 cases h2 : LG (Bd 47 [] s) with
 | true =>
  obtain ⟨a1, a2, a3, a4⟩ := QN h2
  rw [a1, a2, a3, a4]
  simp only [cond_true, cond_false, jb]
  rw [JA (hp 47 0), Ow, Ct]
  simp only [jb]
  cases (Sv ((Bd 47 [] s).getD 0 [])).2.1
  ·exact Lx s _
  ·exact Lx s _
 | false =>
 cases h3 : LG (Bd 45 [] s) with
 | true =>
  obtain ⟨a1, a2, a3, a4⟩ := QN h3
  rw [a1, a2, a3, a4]
  simp only [cond_true, cond_false, jb]
  rw [Ow, Ct]
  simp only [jb]
  exact Lx s _
 | false => exact Lx s _
noncomputable def OI (s : Ha × List Ka) (w : List UInt8) : (Ha × List Ka) ⊕ Unit :=
 cond (w == [124]) (.inl ((((ja s.2 : Nat) : Int), jf s.1.2.1 [s.2], ()), [])) (cond (PH w).2.1 (.inl (s.1, jf s.2 [(PH w).1])) (.inr ()))
def Su : Ha := ((0 : Int), ([] : List (List Ka)), ())
noncomputable def RH (s : List UInt8) : Ha × (Bool × Unit) :=
 match Bc (fun _ s w => OI s w) 0 (Su, []) (jf (Bd 32 [] s) [[124]]) with
 | .inl r => cond (Eb r.1) (r.1, true, ()) (Su, false, ())
 | .inr _ => (Su, false, ())
structure KZ (k : Nat) (s : Ha × List Ka) : Prop where
 z : Ib Pa s.1 + s.2.length ≤ k
theorem H9 (m : Ha) : Ib Pa m = Ib (.sl (.sl Xb)) m.2.1 := by
 show 0 + (Ib (.sl (.sl Xb)) m.2.1 + 0) = _
 omega
theorem DZ (l : List (List Ka)) (r : List Ka) : Ib (.sl (.sl Xb)) (l ++ [r]) = Ib (.sl (.sl Xb)) l + 1 + r.length := by
 have hr : Ib (.sl Xb) r = r.length := As (e := Xb) rfl r
 show (l ++ [r]).length + (List.map (Ib (.sl Xb)) (l ++ [r])).sum = (l.length + (List.map (Ib (.sl Xb)) l).sum) + 1 + r.length
 rw [List.map_append, List.sum_append, qc]
 simp only [List.map_cons, List.map_nil, List.sum_cons, List.sum_nil, jw, j6]
 omega
theorem NV {k : Nat} {s s' : Ha × List Ka} {w : List UInt8} (h : KZ k s) (hs : OI s w = .inl s') : KZ (k + 1) s' := by
 have hz := h.z
 unfold OI at hs
 revert hs
 cases w == [124] with
 | true =>
  intro hs
  simp only [cond_true, Sum.inl.injEq] at hs
  subst hs
  refine ⟨?_⟩
  have := DZ s.1.2.1 s.2
  rw [H9] at hz ⊢
  show Ib (.sl (.sl Xb)) (s.1.2.1 ++ [s.2]) + 0 ≤ _
  omega
 | false =>
  cases (PH w).2.1 with
  | false => intro hs; simp at hs
  | true =>
   intro hs
   simp only [cond_true, cond_false, Sum.inl.injEq] at hs
   subst hs
   refine ⟨?_⟩
   show Ib Pa s.1 + (s.2 ++ [_]).length ≤ _
   rw [qc]; simp; omega
theorem PE {s : List UInt8} (hs : s.length ≤ 1000000) : Ap s = some (RH s) := by
 have h20 : Ja = 1048576 := rfl
 have hl := GG 32 s []
 have hp := Ez 32 s []
 unfold Ap RH
 rw [Fu 32 (by omega)]
 simp only [jb]
 rw [Nd (by simp; omega)]
 simp only [cond_true]
 have hw : ∀ x ∈ jf (Bd 32 [] s) [[124]], x.length ≤ 100000000 := by
  intro x hx
  rcases jl.1 hx with h | h
  ·have := hp x h; simp at this; omega
  ·simp at h; subst h; simp
 have hn : (jf (Bd 32 [] s) [[124]]).length ≤ 1000002 := by
  rw [List.append_eq, qc]; simp; omega
 generalize jf (Bd 32 [] s) [[124]] = W at hw hn
 have hi : ∀ s' : Ha × List Ka, Bc (fun _ s w => OI s w) 0 (Su, []) W = .inl s' → Ib Pa s'.1 ≤ Ja := by
  have key : ∀ (l : List (List UInt8)) (k : Nat) (s0 s' : Ha × List Ka), KZ k s0 → Bc (fun _ s w => OI s w) k s0 l = .inl s' → KZ (k + l.length) s' := by
   intro l
   induction l with
   | nil => intro k s0 s' h hf; simp only [Bc, Sum.inl.injEq] at hf; subst hf; exact h
   | cons w l ih =>
    intro k s0 s' h hf
    simp only [Bc] at hf
    revert hf
    cases hg : OI s0 w with
    | inr u => intro hf; simp at hf
    | inl s1 =>
     intro hf
     have := ih (k + 1) s1 s' (NV h hg) hf
     rw [jw, show k + (l.length + 1) = k + 1 + l.length by omega]
     exact this
  intro s' hf
  have := (key W 0 (Su, []) s' ⟨by decide⟩ hf).z
  omega
 have h := Vi (step := fun x : (Unit × Unit × List Ka × List (List UInt8) × Int × Unit) × Ha × Ha × Unit => Bk x.1.1 x.1.2.1 x.1.2.2.1 x.1.2.2.2.1 x.1.2.2.2.2.1 x.2.1 x.2.2.1) W (fun _ s w => OI s w)
  (fun s i => (((), (), s.2, W, i, ()), (Su, s.1, ()))) (fun s => .inl (((), (), ()), (Su, s.1, ()))) (fun _ => .inr (((), false, ()), (Su, ()))) (fun k s => KZ k s) (by
   intro k hk s hs
   have hz := hs.z
   refine ⟨?_, fun s' h' => NV hs h'⟩
   have hx := hw W[k] (qn hk)
   simp only [Bk]
   rw [Ba (by omega), Vu, Ba hk]
   simp only [cond_true, jn]
   rw [je hk]
   simp only [jb]
   unfold OI
   cases W[k] == ([124] : List UInt8) with
   | true =>
    simp only [cond_true]
    have : s.1.2.1.length ≤ Ib Pa s.1 := by rw [H9]; exact Nat.le_add_right _ _
    rw [Nd (by simp; omega)]
    rfl
   | false =>
    simp only [cond_false]
    rw [OE hx]
    simp only [jb]
    cases (PH W[k]).2.1 with
    | false => rfl
    | true =>
     simp only [jg, cond_false, cond_true]
     rw [Nd (by simp; omega)]
     rfl) (by
   intro s hs
   simp only [Bk]
   rw [Aa (by omega)]; rfl) (by omega) (Su, []) ⟨by decide⟩
 unfold Ml
 erw [h]
 revert hi
 cases Bc (fun _ s w => OI s w) 0 (Su, []) W with
 | inr u => intro hi; rfl
 | inl r =>
  intro hi
  simp only [jb, qh]
  have := Al r.1 (hi r rfl)
  erw [this]
  simp only [jb]
  cases Eb r.1 <;> rfl
theorem HS {c : Cc} (h : Xq c) (l : List (List UInt8)) (hl : 0 < l.length) (h2 : l.length ≤ 1000) : ∃ (c' : Cc) (x : List UInt8), Ot c l = some (c', (x, ())) ∧ Xq c' ∧ x ∈ l := by
 obtain ⟨c1, x1, e1, h1, b1⟩ := Hu h ((ja l : Nat) : Int) (by omega)
 unfold Ot
 rw [e1]
 obtain ⟨k, rfl⟩ := jv b1.1
 have hk : k < l.length := by omega
 simp only [jb]
 rw [Vu, Ba hk, jn, je hk]
 exact ⟨_, _, rfl, h1, qn hk⟩
theorem ET (s : List UInt8) : Eb (RH s).1 = true ∨ (RH s).1 = Su := by
 unfold RH
 cases Bc (fun _ s w => OI s w) 0 (Su, []) (jf (Bd 32 [] s) [[124]]) with
 | inr u => exact .inr rfl
 | inl r =>
  cases h : Eb r.1 with
  | true => exact .inl (by simp [h])
  | false => exact .inr (by simp [h])
theorem P6 (s : List UInt8) : Ib Pa (RH s).1 ≤ Ja := by
 rcases ET s with h | h
 ·have := (XL h).z; omega
 ·rw [h]; decide
def YJ : List (List UInt8) := [([97] : List UInt8), ([98] : List UInt8), ([122] : List UInt8), ([83, 45] : List UInt8), ([83, 47, 97] : List UInt8), ([67, 47, 113] : List UInt8), ([83, 45, 113] : List UInt8), ([49] : List UInt8), ([50] : List UInt8), Og, Mg, Lg, Ng, KE, ([83, 45, 49] : List UInt8), JE, Bl]
theorem UR : ∀ w ∈ YJ, w.length ≤ 6 := by decide
theorem X0 {c : Cc} (h : Xq c) : ∃ (c' : Cc) (m : Ha), Gx c = some (c', (m, ())) ∧ Xq c' ∧ Ib Pa m ≤ Ja := by
 obtain ⟨c1, n1, e1, h1, b1⟩ := Hu h 7 (by omega)
 obtain ⟨n, rfl⟩ := jv b1.1
 unfold Gx
 rw [e1]
 simp only [jb]
 rw [Qd (by omega) (by omega)]
 obtain ⟨r, hr, W, c2, rfl, h2, hW, hl⟩ := BB (s := fun x : (Unit × Unit × List (List UInt8) × Int × Unit) × Cc × Ha × Unit => Wv x.1.1 x.1.2.1 x.1.2.2.1 x.1.2.2.2.1 x.2.1 x.2.2.1)
  (fun n x => ∃ (W : List (List UInt8)) (c : Cc), x = (((), (), W, (n : Int), ()), (c, Su, ())) ∧ Xq c ∧ (∀ w ∈ W, w.length ≤ 6) ∧ W.length + n ≤ 8)
  (fun r => ∃ (W : List (List UInt8)) (c : Cc), r = .inl (((), (), W, ()), (c, Su, ())) ∧ Xq c ∧ (∀ w ∈ W, w.length ≤ 6) ∧ W.length ≤ 8) (by
  rintro n x ⟨W, c, rfl, hc, hW, hl⟩
  simp only [Wv]
  by_cases h0 : (n : Int) > 0
  ·rw [Ba h0]
   obtain ⟨c2, w, e2, h2, hw⟩ := HS hc YJ (by decide) (by decide)
   have hw6 := UR w hw
   unfold YJ at e2
   rw [e2]
   simp only [cond_true, jb]
   rw [Nd (by simp; omega), show j4 .i64 ((n : Int) - 1) = ((n - 1 : Nat) : Int) by rw [Qd (by omega) (by omega)]; omega]
   refine .inr ⟨_, n - 1, by omega, rfl, W ++ [w], c2, rfl, h2, fun x hx => ?_, by simp; omega⟩
   rcases jl.1 hx with hx | hx
   ·exact hW x hx
   ·simp at hx; subst hx; exact hw6
  ·rw [Aa h0]
   exact .inl ⟨_, rfl, W, c, rfl, hc, hW, by omega⟩) (2 + n) (((), (), ([] : List (List UInt8)), 2 + (n : Int), ()), (c1, Su, ())) ⟨[], c1, by simp, h1, by simp, by simp; omega⟩
 have hj := V5 W [32] 6 hW
 have hj' : (6 + ([32] : List UInt8).length) * W.length ≤ 7 * 8 := Nat.mul_le_mul (by simp) hl
 unfold Xr
 erw [hr]
 simp only [jb, qh]
 rw [JK (by omega) (by omega)]
 simp only [jb]
 rw [PE (by omega)]
 exact ⟨c2, _, rfl, h2, P6 _⟩
def IG : List (List UInt8) := [([97] : List UInt8), ([98] : List UInt8), ([90] : List UInt8), ([122] : List UInt8), ([49] : List UInt8), ([48] : List UInt8), ([33] : List UInt8), ([41] : List UInt8), ([32] : List UInt8), ([45] : List UInt8), ([95] : List UInt8), ([61] : List UInt8), ([43] : List UInt8), ([10] : List UInt8), ([9] : List UInt8), ([113] : List UInt8), ([81] : List UInt8)]
theorem UP : ∀ w ∈ IG, w.length = 1 := by decide
theorem GY {c : Cc} (h : Xq c) (k : Nat) (hk : k ≤ 100) : ∃ (c' : Cc) (s : List UInt8), Vv c (k : Int) = some (c', (s, ())) ∧ Xq c' ∧ s.length ≤ k := by
 unfold Vv
 rw [Vd (by omega)]
 obtain ⟨c1, n1, e1, h1, b1⟩ := Hu h ((k + 1 : Nat) : Int) (by omega)
 obtain ⟨n, rfl⟩ := jv b1.1
 rw [e1]
 simp only [jb]
 obtain ⟨r, hr, s, c2, rfl, h2, hl⟩ := BB (s := fun x : (Unit × List UInt8 × Int × Unit) × Cc × Unit => Pu x.1.1 x.1.2.1 x.1.2.2.1 x.2.1)
  (fun n x => ∃ (s : List UInt8) (c : Cc), x = (((), s, (n : Int), ()), (c, ())) ∧ Xq c ∧ s.length + n ≤ k)
  (fun r => ∃ (s : List UInt8) (c : Cc), r = .inl (((), s, ()), (c, ())) ∧ Xq c ∧ s.length ≤ k) (by
  rintro n x ⟨s, c, rfl, hc, hl⟩
  simp only [Pu]
  by_cases h0 : (n : Int) > 0
  ·rw [Ba h0]
   obtain ⟨c2, w, e2, h2, hw⟩ := HS hc IG (by decide) (by decide)
   have hw1 := UP w hw
   unfold IG at e2
   rw [e2]
   simp only [cond_true, jb]
   rw [Nd (by omega), show j4 .i64 ((n : Int) - 1) = ((n - 1 : Nat) : Int) by rw [Qd (by omega) (by omega)]; omega]
   exact .inr ⟨_, n - 1, by omega, rfl, s ++ w, c2, rfl, h2, by rw [qc]; omega⟩
  ·rw [Aa h0]
   exact .inl ⟨_, rfl, s, c, rfl, hc, by omega⟩) n (((), ([] : List UInt8), (n : Int), ()), (c1, ())) ⟨[], c1, rfl, h1, by simp; omega⟩
 unfold Fq
 erw [hr]
 exact ⟨c2, s, rfl, h2, hl⟩
theorem HY {c : Cc} (h : Xq c) {m : Ha} (hz : Ib Pa m ≤ Ja) : ∃ (c' : Cc) (s : List UInt8), Xv c m = some (c', (s, ())) ∧ Xq c' ∧ s.length ≤ 6 := by
 have h20 : Ja = 1048576 := rfl
 obtain ⟨c1, w, e1, h1, b1⟩ := GY h 6 (by omega)
 unfold Xv
 rw [show (6 : Int) = ((6 : Nat) : Int) from rfl, e1]
 simp only [jb]
 obtain ⟨r, hr, s, c2, rfl, h2, hl⟩ := BB (s := fun x : (Unit × Unit × List UInt8 × List UInt8 × Int × Unit) × Cc × Ha × Unit => Qu x.1.1 x.1.2.1 x.1.2.2.1 x.1.2.2.2.1 x.1.2.2.2.2.1 x.2.1 x.2.2.1)
  (fun n x => ∃ (s : List UInt8) (c : Cc) (k : Nat), x = (((), (), w, s, (k : Int), ()), (c, m, ())) ∧ Xq c ∧ s.length ≤ k ∧ k + n = w.length)
  (fun r => ∃ (s : List UInt8) (c : Cc), r = .inl (((), s, ()), (c, ())) ∧ Xq c ∧ s.length ≤ w.length) (by
  rintro n x ⟨s, c, k, rfl, hc, hl, hk⟩
  simp only [Qu]
  by_cases h0 : (k : Int) < ((ja w : Nat) : Int)
  ·have hk1 : k < w.length := by omega
   rw [Ba h0, Vd (by omega), Dr (by omega) (by omega)]
   simp only [cond_true, jn]
   have hcut : (Xa w k (k + 1)).length = 1 := by simp [Xa]; omega
   rw [IM m _ hz (by omega)]
   simp only [jb]
   cases Eb m && Ev m (Xa w k (k + 1)) with
   | true =>
    simp only [cond_true]
    rw [Nd (by omega)]
    exact .inr ⟨_, n - 1, by omega, rfl, s ++ Xa w k (k + 1), c, k + 1, rfl, hc, by rw [qc]; omega, by omega⟩
   | false =>
    simp only [cond_false]
    obtain ⟨c3, b, e3, h3⟩ := Dab hc 12 (by omega)
    rw [e3]
    simp only [jb]
    cases b with
    | true =>
     simp only [cond_true]
     rw [Nd (by omega)]
     exact .inr ⟨_, n - 1, by omega, rfl, s ++ Xa w k (k + 1), c3, k + 1, rfl, h3, by rw [qc]; omega, by omega⟩
    | false =>
     simp only [cond_false]
     exact .inr ⟨_, n - 1, by omega, rfl, s, c3, k + 1, rfl, h3, by omega, by omega⟩
  ·rw [Aa h0]
   exact .inl ⟨_, rfl, s, c, rfl, hc, by omega⟩) w.length (((), (), w, ([] : List UInt8), (0 : Int), ()), (c1, m, ())) ⟨[], c1, 0, rfl, h1, by simp, by omega⟩
 unfold Gq
 erw [hr]
 exact ⟨c2, s, rfl, h2, by omega⟩
theorem HP (a : List Int) (hn : a.length ≤ Ja) : ∃ (m : Ha) (s : List UInt8), Vq a = some (m, s, ()) ∧ Ib Pa m ≤ Ja ∧ s.length ≤ 6 := by
 obtain ⟨c, e, hc⟩ := XR a 15 hn
 obtain ⟨c1, m, e1, h1, hz⟩ := X0 hc
 obtain ⟨c2, s, e2, h2, hl⟩ := HY h1 hz
 unfold Vq
 rw [e]
 simp only [jb]
 rw [e1]
 simp only [jb]
 rw [e2]
 exact ⟨m, s, rfl, hz, hl⟩
noncomputable def Ld (m : Ha) : Nat → List UInt8 → List Na
 | _, [] => []
 | k, c :: s => jf (Gg m ((c.toNat : Nat) : Int) (k : Int)) (Ld m (k + 1) s)
theorem QT (m : Ha) : ∀ (s : List UInt8) (k : Nat) (l : List Na), Bc (CD m) k l s = cond (Td (fun _ (c : UInt8) => Hg m ((c.toNat : Nat) : Int)) k s) (.inl (jf l (Ld m k s))) (.inr ())
 | [], k, l => by simp [Bc, Td, Ld]
 | c :: s, k, l => by
  have ih := QT m s (k + 1)
  simp only [Bc, Td, CD, Ld]
  cases Hg m ((c.toNat : Nat) : Int) with
  | false => rfl
  | true =>
   simp only [cond_true, jk]
   rw [ih]
   simp
theorem IJ (m : Ha) : ∀ (s : List UInt8) (k : Nat), (Ld m k s).length ≤ 4 * s.length
 | [], k => by simp [Ld]
 | c :: s, k => by
  have h1 := (Uy m ((c.toNat : Nat) : Int) (k : Int)).1
  have h2 := IJ m s (k + 1)
  simp only [Ld, List.append_eq, qc, jw]
  omega
theorem SS (l : List Ca) (k : Nat) (s : Ca × List UInt8) : Ic (fun _ s r => Zv s r) k s l = l.foldl Zv s := by
 induction l generalizing k s with
 | nil => rfl
 | cons x l ih => rw [Ic, ih]; rfl
theorem PK (m : Int) : ∀ (l : List Int) (k : Nat) (o : List UInt8), Ic (fun _ o x => MG m o x) k o l = o ++ Ic (fun _ o x => MG m o x) k [] l
 | [], k, o => by simp [Ic]
 | x :: l, k, o => by
  rw [Ic, Ic, PK m l, PK m l (k + 1) (MG m [] x)]
  simp [MG]
theorem SN : ∀ (l : List Ca) (r : Ca) (o : List UInt8), l.foldl Zv (r, o) = ((l.foldl Zv (r, [])).1, o ++ (l.foldl Zv (r, [])).2)
 | [], r, o => by simp
 | x :: l, r, o => by
  rw [List.foldl_cons, List.foldl_cons, show Zv (r, o) x = (x, DP x.1 o (CA r x)) from rfl, show Zv (r, []) x = (x, DP x.1 [] (CA r x)) from rfl]
  rw [SN l, SN l x (DP x.1 [] (CA r x))]
  simp only [jh, true_and]
  unfold DP
  rw [PK x.1 _ 0 o]
  simp
theorem RS {m : Ha} (hv : Eb m = true) {t : Yb} (ht : Af t = true) (til : Int) : ∀ (s : List UInt8) (k : Nat) (S : List Mf) (clock tp ta : Int), Td (fun _ (c : UInt8) => Hg m ((c.toNat : Nat) : Int)) k s = true → k + s.length ≤ 1000000 →
 ∃ (cl tp1 ta1 : Int) (R : List Ca) (S' : List Mf), Ff (Ld m k s).length (Dd m 0 0 false [], t, Ld m k s, til, clock, tp, ta, ()) S = ((Dd m 0 0 false [], t, [], til, cl, tp1, ta1, ()), S') ∧
  S'.map (fun x => x.2.1) = S.map (fun x => x.2.1) ++ R ∧ R.foldl Zv (SB, []) = (SB, s)
 | [], k, S, clock, tp, ta, _, _ => ⟨clock, tp, ta, [], S, rfl, by simp, rfl⟩
 | c :: s, k, S, clock, tp, ta, h, hn => by
  simp only [Td, jd] at h
  have hc : c.toNat < 256 := UInt8.toNat_lt c
  simp only [jw] at hn
  obtain ⟨cl, tp1, ta1, R, S1, e1, e2, e3⟩ := (T4 hv ht til hc h.1 (a := (k : Int)) (by omega) (by omega) (Ld m (k + 1) s) (Ld m (k + 1) s).length S clock tp ta).run
  obtain ⟨cl2, tp2, ta2, R2, S2, f1, f2, f3⟩ := RS hv ht til s (k + 1) S1 cl tp1 ta1 h.2 (by omega)
  refine ⟨cl2, tp2, ta2, R ++ R2, S2, ?_, by rw [f2, e2, List.append_assoc], ?_⟩
  ·simp only [Ld]
   rw [show (jf (Gg m ((c.toNat : Nat) : Int) (k : Int)) (Ld m (k + 1) s)).length = (Ld m (k + 1) s).length + (Gg m ((c.toNat : Nat) : Int) (k : Int)).length by simp; omega]
   exact e1.trans f1
  ·rw [SS] at e3
   rw [List.foldl_append, e3, SN, f3]
   simp
theorem MJ : ∀ s k : Fin 32, Kl 0 ((k.val : Nat) : Int) = 0 ∧ Kl (Cj .i64 0 (Ce .i64 1 ((k.val : Nat) : Int))) ((k.val : Nat) : Int) = 1 ∧ Cj .i64 (Cj .i64 0 (Ce .i64 1 ((k.val : Nat) : Int))) (Ce .i64 1 ((k.val : Nat) : Int)) = 0 ∧
 (s ≠ k → Kl (Cj .i64 0 (Ce .i64 1 ((s.val : Nat) : Int))) ((k.val : Nat) : Int) = 0 ∧ Kl (Cj .i64 (Cj .i64 0 (Ce .i64 1 ((s.val : Nat) : Int))) (Ce .i64 1 ((k.val : Nat) : Int))) ((k.val : Nat) : Int) = 1 ∧
  Cj .i64 (Cj .i64 (Cj .i64 0 (Ce .i64 1 ((s.val : Nat) : Int))) (Ce .i64 1 ((k.val : Nat) : Int))) (Ce .i64 1 ((k.val : Nat) : Int)) = Cj .i64 0 (Ce .i64 1 ((s.val : Nat) : Int))) := by decide +kernel
theorem Dw {t0 h a : Int} {k : Nat} (hk : k < 32) {b : Bool} (hb : (b == (Kl h (k : Int) == 1)) = false) (ht : t0 ≤ a) (ha : 0 ≤ a) (h6 : a ≤ 1000000) : Er (t0, h) (a, (k : Int), b, ()) = .inl (a, Cj .i64 h (Ce .i64 1 (k : Int))) := by
 unfold Er Tz Mj
 simp only
 rw [Ba (show 0 ≤ a ∧ a ≤ 1000000 by omega), Ba (show (0 : Int) ≤ (k : Int) ∧ (k : Int) ≤ 31 by omega), Aa (show ¬ t0 > a by omega), hb]
 rfl
theorem S4 {m : Ha} (hv : Eb m = true) {ch : Int} (hok : Hg m ch = true) {t0 a : Int} (ht : t0 ≤ a) (ha : 0 ≤ a) (h6 : a ≤ 1000000) (P : List Na) (i : Nat) :
 Bc (fun _ s x => Er s x) i (t0, (0 : Int)) (jf (Gg m ch a) P) = Bc (fun _ s x => Er s x) (i + (Gg m ch a).length) (a, (0 : Int)) P ∧
 (∀ x ∈ Gg m ch a, x.1 = a ∧ 0 ≤ x.2.1 ∧ x.2.1 < m.1) ∧ Gg m ch a ≠ [] := by
 have hm := Bf hv
 have hk2 := hm.k2
 obtain ⟨q1, q2⟩ := WJ ch
 unfold Gg
 unfold Hg at hok
 revert hok
 cases hc0 : (Sb ch).1 == 0 with
 | true => intro h; simp at h
 | false =>
  have hc : (Sb ch).1 ≠ 0 := by simpa using hc0
  simp only [cond_false]
  generalize (Sb ch).1 = c at hc q1 q2 ⊢
  generalize (Sb ch).2.1 = d
  by_cases hA1 : Qc m c d ≥ 0
  ·rw [Ba hA1]
   intro _
   simp only [cond_true]
   obtain ⟨k, ek, hk, hkb, hact⟩ := Iw hm hA1
   rw [ek]
   obtain ⟨b1, b2, b3, _⟩ := MJ ⟨k, by omega⟩ ⟨k, by omega⟩
   simp only at b1 b2 b3
   refine ⟨?_, ?_, by simp⟩
   ·simp only [List.append_eq, List.cons_append, List.nil_append, Bc]
    rw [Dw (by omega) (by rw [b1]; rfl) ht ha h6]
    simp only
    rw [Dw (by omega) (by rw [b2]; rfl) (Int.le_refl a) ha h6, b3]
    rfl
   ·intro x hx
    simp only [jp, List.not_mem_nil, or_false] at hx
    rcases hx with rfl | rfl <;> exact ⟨rfl, by simp only; omega, hk⟩
  ·have hA2 : decide (Qc m c d ≥ 0) = false := Aa hA1
   rw [hA2]
   simp only [cond_false]
   cases hcase : (d == 0 || decide (Qc m c 0 < 0) || decide (Qc m 0 d < 0)) with
   | true => intro h; simp at h
   | false =>
    intro _
    simp only [cond_false]
    simp only [Bool.or_eq_false_iff, decide_eq_false_iff_not, Int.not_lt] at hcase
    obtain ⟨⟨hd0, hk0⟩, hs0⟩ := hcase
    obtain ⟨k, ek, hk, hkb, hact⟩ := Iw hm hk0
    obtain ⟨s, es, hs, hsb, hsact⟩ := Iw hm hs0
    have htap := NH hc hact hkb
    obtain ⟨hmod, hnt⟩ := FN hsact hsb
    have hks : s ≠ k := by
     intro h
     subst h
     unfold Rf at htap
     rw [hnt, cond_false, hmod] at htap
     simp only [jh] at htap
     exact hc htap.2.1.symm
    rw [ek, es]
    obtain ⟨b1, b2, b3, _⟩ := MJ ⟨s, by omega⟩ ⟨s, by omega⟩
    obtain ⟨_, _, _, b4⟩ := MJ ⟨s, by omega⟩ ⟨k, by omega⟩
    obtain ⟨b5, b6, b7⟩ := b4 (by intro h; exact hks (by simpa using h))
    simp only at b1 b2 b3 b5 b6 b7
    refine ⟨?_, ?_, by simp⟩
    ·simp only [List.append_eq, List.cons_append, List.nil_append, Bc]
     rw [Dw (by omega) (by rw [b1]; rfl) ht ha h6]
     simp only
     rw [Dw (by omega) (by rw [b5]; rfl) (Int.le_refl a) ha h6]
     simp only
     rw [Dw (by omega) (by rw [b6]; rfl) (Int.le_refl a) ha h6, b7]
     simp only
     rw [Dw (by omega) (by rw [b2]; rfl) (Int.le_refl a) ha h6, b3]
     rfl
    ·intro x hx
     simp only [jp, List.not_mem_nil, or_false] at hx
     rcases hx with rfl | rfl | rfl | rfl
     ·exact ⟨rfl, by simp only; omega, hs⟩
     ·exact ⟨rfl, by simp only; omega, hk⟩
     ·exact ⟨rfl, by simp only; omega, hk⟩
     ·exact ⟨rfl, by simp only; omega, hs⟩
theorem OK {m : Ha} (hv : Eb m = true) : ∀ (s : List UInt8) (k i : Nat) (t0 : Int), Td (fun _ (c : UInt8) => Hg m ((c.toNat : Nat) : Int)) k s = true → k + s.length ≤ 1000000 → t0 ≤ (k : Int) →
 (∃ t : Int, Bc (fun _ s x => Er s x) i (t0, (0 : Int)) (Ld m k s) = .inl (t, (0 : Int))) ∧ (∀ x ∈ Ld m k s, (k : Int) ≤ x.1 ∧ x.1 < ((k + s.length : Nat) : Int) ∧ 0 ≤ x.2.1 ∧ x.2.1 < m.1)
 | [], k, i, t0, _, _, _ => ⟨⟨t0, rfl⟩, by simp [Ld]⟩
 | c :: s, k, i, t0, h, hn, ht => by
  simp only [Td, jd] at h
  simp only [jw] at hn ⊢
  obtain ⟨e1, e2, _⟩ := S4 hv h.1 (a := (k : Int)) ht (by omega) (by omega) (Ld m (k + 1) s) i
  obtain ⟨⟨t, f1⟩, f2⟩ := OK hv s (k + 1) (i + (Gg m ((c.toNat : Nat) : Int) (k : Int)).length) (k : Int) h.2 (by omega) (by omega)
  refine ⟨⟨t, by rw [Ld, e1, f1]⟩, fun x hx => ?_⟩
  rw [Ld] at hx
  rcases jl.1 hx with hx | hx
  ·have := e2 x hx; omega
  ·have := f2 x hx; omega
theorem BU {m : Ha} (hv : Eb m = true) {s : List UInt8} (h : Td (fun _ (c : UInt8) => Hg m ((c.toNat : Nat) : Int)) 0 s = true) (hn : s.length ≤ 60) (hl : (Ld m 0 s).length ≤ 64) :
 Yd (Ld m 0 s) 0 m.1 = true ∧ Up (Ld m 0 s) 0 = (0, true) := by
 obtain ⟨⟨t, h1⟩, h2⟩ := OK hv s 0 0 0 h (by omega) (by omega)
 have hf : Up (Ld m 0 s) 0 = (0, true) := by
  unfold Up WX
  rw [Ba hl, h1]; rfl
 refine ⟨?_, hf⟩
 unfold Yd
 rw [hf]
 simp only [Bool.and_true]
 unfold UL
 rw [YI (p := fun x : Na => !decide (x.2.1 ≥ m.1))]
 intro x hx
 have := h2 x hx
 rw [Aa (by omega)]; rfl
theorem W2 {m : Ha} (hv : Eb m = true) {t : Yb} (ht : Af t = true) {s : List UInt8} (h : Td (fun _ (c : UInt8) => Hg m ((c.toNat : Nat) : Int)) 0 s = true) (hn : s.length ≤ 60) (hl : (Ld m 0 s).length ≤ 64) :
 (Cu (Om (Dd m 0 0 false []) t) (Ld m 0 s) ((ja s : Nat) : Int)).2.2.1 = true ∧ RN SB ((Cu (Om (Dd m 0 0 false []) t) (Ld m 0 s) ((ja s : Nat) : Int)).2.1.map fun x => x.2.1) = s := by
 have he := HH hv
 obtain ⟨hq, _⟩ := BU hv h hn hl
 obtain ⟨_, h2⟩ := OK hv s 0 0 0 h (by omega) (by omega)
 obtain ⟨cl, tp, ta, R, S', e1, e2, e3⟩ := RS hv ht ((ja s : Nat) : Int) s 0 [] 0 0 0 h (by omega)
 have hk1 := (Bf hv).k1
 have hok : Ks (Om (Dd m 0 0 false []) t) (Ld m 0 s) ((ja s : Nat) : Int) = true := by
  unfold Ks
  rw [show Se (Om (Dd m 0 0 false []) t) = true from CO he ht (by omega) (by omega) (CR _ _) rfl (by show (0 : Int) ≤ 0 ∧ (0 : Int) ≤ m.1; omega) (by omega)]
  have h1 : Yd (jf (Om (Dd m 0 0 false []) t).2.2.1 (Ld m 0 s)) (Bu (Om (Dd m 0 0 false []) t).1.2.2.2.1) (Om (Dd m 0 0 false []) t).1.1.1 = true := hq
  rw [h1]
  have h3 : Um (Ld m 0 s) (Om (Dd m 0 0 false []) t).2.2.2.1 = true := by
   show Um (Ld m 0 s) 0 = true
   unfold Um YX
   cases hE : Ld m 0 s with
   | nil => rfl
   | cons x l =>
    have := h2 x (by rw [hE]; simp)
    rw [List.headD_cons, Aa (by omega)]
    simp
  have h4 : Wi (Ld m 0 s) ((ja s : Nat) : Int) = true := by
   unfold Wi JQ
   cases hE : Ld m 0 s with
   | nil => rfl
   | cons x l =>
    have hlt : (x :: l).length - 1 < (x :: l).length := by simp
    rw [qg, je hlt, Option.getD_some]
    have := h2 (x :: l)[(x :: l).length - 1] (by rw [hE]; exact qn hlt)
    rw [Ba (by omega)]
    simp
  rw [h3, h4, Ba (show (Om (Dd m 0 0 false []) t).2.2.2.1 ≤ ((ja s : Nat) : Int) ∧ ((ja s : Nat) : Int) ≤ 1000000 from ⟨by show (0 : Int) ≤ _; omega, by omega⟩)]
  rfl
 unfold Cu
 rw [hok]
 simp only [cond_true]
 have hL : (Ll (Om (Dd m 0 0 false []) t) (Ld m 0 s) ((ja s : Nat) : Int)).2.2.1.length = (Ld m 0 s).length := rfl
 have e1' : Ff (Ld m 0 s).length (Ll (Om (Dd m 0 0 false []) t) (Ld m 0 s) ((ja s : Nat) : Int)) [] = _ := e1
 rw [hL, e1']
 refine ⟨trivial, ?_⟩
 rw [e2, List.map_nil, List.nil_append]
 unfold RN
 rw [SS, e3]
theorem J7 {m : Ha} (hz : Ib Pa m ≤ Ja) {t : Yb} (ht : Af t = true) (s : List UInt8) (hn : s.length ≤ 6) :
 Iu m s = cond (Eb m && Ev m s) (Ld m 0 s, true, ()) ([], false, ()) ∧ RM m t s = cond (Eb m && Ev m s) (s, true, ()) ([], false, ()) ∧
 ((Eb m && Ev m s) = true → Up (Ld m 0 s) 0 = (0, true)) := by
 have h20 : Ja = 1048576 := rfl
 cases hv : Eb m with
 | false =>
  have e1 : Iu m s = ([], false, ()) := by
   unfold Iu
   rw [hv]; rfl
  refine ⟨e1, ?_, by simp⟩
  unfold RM
  rw [e1]; rfl
 | true =>
  have hl := IJ m s 0
  have e1 : Iu m s = cond (Ev m s) (Ld m 0 s, true, ()) ([], false, ()) := by
   unfold Iu
   rw [hv, Aa (by omega)]
   simp only [jg, Bool.false_or, cond_false]
   rw [QT m s 0 []]
   unfold Ev
   cases Td (fun _ (c : UInt8) => Hg m ((c.toNat : Nat) : Int)) 0 s with
   | false => rfl
   | true =>
    simp only [cond_true]
    rw [show jf [] (Ld m 0 s) = Ld m 0 s from rfl, Aa (by omega)]
    rfl
  rw [jk]
  refine ⟨e1, ?_, fun h => (BU hv h (by omega) (by omega)).2⟩
  unfold RM
  rw [e1]
  have he := HH hv
  have en : Gm m = (Dd m 0 0 false [], true, ()) := by
   unfold Gm; rw [hv]; rfl
  have ed : Lp (Dd m 0 0 false []) t = (Om (Dd m 0 0 false []) t, true, ()) := by
   have hk1 := (Bf hv).k1
   unfold Lp
   rw [show Se (Om (Dd m 0 0 false []) t) = true from CO he ht (by omega) (by omega) (CR _ _) rfl (by show (0 : Int) ≤ 0 ∧ (0 : Int) ≤ m.1; omega) (by omega)]
   rfl
  rw [en]
  simp only
  rw [ed]
  simp only
  cases hc : Ev m s with
  | false => rfl
  | true =>
   obtain ⟨p1, p2⟩ := W2 hv ht (s := s) hc (by omega) (by omega)
   simp only [cond_true, ql, jk]
   rw [p1]
   simp only [cond_true]
   rw [show RN ((0 : Int), ([] : List Int), ()) = RN SB from rfl, p2]
theorem L3 (m : Ha) (hz : Ib Pa m ≤ Ja) (c d : Int) {X : Type} (u v : Option X) :
 (jz (Jt m c d) fun r43 => (cond (decide (r43.1 ≥ (0 : Int)))
 (
  jz (Wc m.2.1 (0 : Int)) fun x44 => (jz (Wc x44 r43.1) fun x45 => (jz (Ro x45) fun r46 => (cond (!(An Xb r46.1 ((2 : Int), c, d, (0 : Int), ()))) u v)))) v)) = v := by
  rw [DN m c d hz]
  simp only [jb]
  cases hv : Eb m && decide (0 ≤ c ∧ c ≤ 56) with
  | false =>
   simp only [cond_false]
   rw [Aa (by omega)]; rfl
  | true =>
   simp only [cond_true]
   simp only [jd, decide_eq_true_eq] at hv
   by_cases h : Qc m c d ≥ 0
   ·have hm := Bf hv.1
    have h1 := hm.l1
    have hr := hm.row 0 (by omega)
    obtain ⟨k, ek, hk, hkb, hact⟩ := Iw hm h
    rw [Ba h, ek]
    simp only [cond_true]
    rw [show (0 : Int) = ((0 : Nat) : Int) from rfl, AY (by omega) (by omega), Zx]
    simp only [jb]
    have : Rf (Wf m.2.1 0 k) = ((2 : Int), c, d, ((0 : Nat) : Int), ()) := by
     by_cases hc : c = 0
     ·subst hc
      obtain ⟨hmod, hnt⟩ := FN hact hkb
      unfold Rf
      rw [hnt, cond_false, hmod]; rfl
     ·exact NH hc hact hkb
    rw [this]
    have he : ∀ x : Ka, An Xb x x = true := fun x => by simp [An]
    rw [he]; rfl
   ·rw [Aa h]; rfl
theorem SM (m : Ha) (hz : Ib Pa m ≤ Ja) (s : List UInt8) (hs : s.length ≤ 100) (ok can : Bool) : Th (((), s, ok, can, (0 : Int), ()), (m, ())) = some (.inl ((ok, can, ()), ())) := by
 unfold Th
 refine TO (fun k => (((), s, ok, can, (k : Int), ()), (m, ()))) s.length _ (fun k hk => ?_) ?_
 ·simp only [Xs]
  rw [Ba (by omega), Dc hk, Vd (by omega)]
  simp only [cond_true, jb]
  rw [EE]
  simp only [jb]
  exact L3 m hz _ _ _ _
 ·simp only [Xs]
  rw [Aa (by omega)]; rfl
theorem AT (a : List Int) : Tr a = some (true, ()) := by
 have h20 : Ja = 1048576 := rfl
 by_cases hn : a.length ≤ Ja
 case neg => unfold Tr; rw [P4 hn]; rfl
 obtain ⟨m, s, em, hz, hs⟩ := HP a hn
 obtain ⟨t, et, ht, ht9⟩ := GP a hn
 obtain ⟨e1, e2, e3⟩ := J7 hz ht s hs
 have hl := IJ m s 0
 unfold Tr
 rw [WZ hn]
 simp only [jb, cond_false]
 rw [em]
 simp only [jb]
 rw [et]
 simp only [jb]
 rw [Ly m s hz]
 simp only [jb]
 rw [RJ m t s hz]
 simp only [jb]
 rw [NL m s hz (by omega), e1, e2]
 simp only [jb]
 revert e3
 cases Eb m && Ev m s with
 | false =>
  intro _
  simp only [cond_false, bne_self_eq_false]
  rw [SM m hz s (by omega)]
  rfl
 | true =>
  intro e3
  have e3 := e3 rfl
  simp only [cond_true, bne_self_eq_false, cond_false, jg]
  have h1 : Xt (Ld m 0 s) = some (true, ()) := by
   unfold Xt
   rw [Gw _ _ (by omega), e3]; rfl
  have h2 : Cs (Ld m 0 s) = some ((0 : Int), ()) := by
   unfold Cs
   rw [Gw _ _ (by omega), e3]; rfl
  rw [h1]
  simp only [jb, jg, cond_false]
  rw [h2]
  simp only [jb, bne_self_eq_false, cond_false]
  rw [SM m hz s (by omega)]
  rfl
end KF
