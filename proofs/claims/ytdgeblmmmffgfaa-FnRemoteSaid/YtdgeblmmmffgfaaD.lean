/- An evaluator of Go functions on plain data, its soundness, and plain laws on what the functions compute, part 4 (conditions: as each lemma tells). -/
import Derived.Test.YtdgeblmmmffgfaaC
set_option linter.unusedSimpArgs false
set_option linter.unusedVariables false
namespace KF
open Go
open List renaming length → ja, getElem?_eq_getElem → je, append → jf, mem_append → jm, mem_cons → jq, mem_cons_of_mem → js, length_cons → jx, set → j7, length_nil → j8, length_set → j9, mem_singleton → qe, length_append → qf, getElem?_append_left → qh, getElem?_append_right → qi, getD_eq_getElem?_getD → qj, getElem_mem → qm, getElem_of_mem → qn, mem_map → qo, length_drop → qp, length_take → qq, mem_cons_self → qr
open Option renaming bind_some → jb, bind → j4, map_some → qd, bind_eq_some_iff → qg
open Option.some renaming injEq → jc
open Bool renaming and_eq_true → jd, not_true → jg, true_and → jl, false_eq_true → jr, not_false → qa, not_eq_true → qb
open Prod.mk renaming injEq → jh
open Nat renaming ble_eq_true_of_le → jk, mul_le_mul_right → jn, le_refl → jp, zero_add → jt, add_assoc → ju, eq_of_beq_eq_true → jv, ble → jy, le_trans → qc, lt_of_lt_of_le → ql
open Int renaming toNat_natCast → jo, eq_ofNat_of_zero_le → jw, toNat → jz
open Go.IntKind renaming wrap → j5, wrap → j6
open Sum renaming elim_inl → qk
open Result renaming andThen_ok → qs
open Sem renaming run_bind → qt
theorem Er {n i : Nat} {a : Aa} (h : Bp (n : Int) a) : Xd n i a = true := by
 obtain ⟨h1, h2, h3⟩ := h
 unfold Xd
 rw [h1]
 have e1 : (a.1 == 1) = false := by simp; exact h2
 rw [e1]
 rcases h3 with h | h
 ·simp [h]
 ·simp; exact .inr h
theorem DH {n i : Nat} (hi : 0 < i) (hn : 1 ≤ n) : Xd n i ((1 : Int), (0 : Int), (0 : Int), (0 : Int), ()) = true := by
 unfold Xd
 have : Ib ((1 : Int), (0 : Int), (0 : Int), (0 : Int), ()) = true := (Cb _).2 (by simp [Za])
 rw [this]
 have hi' : ((i : Int) == 0) = false := by simp; omega
 rw [hi']
 simp; omega
theorem BA {α : Type} {p : Nat → α → Bool} {xs : List α} {x : α} (h : Kf p 0 xs = true) (hx : p xs.length x = true) : Kf p 0 (xs ++ [x]) = true := by
 rw [Ve] at h ⊢
 intro j hj
 rw [qf, List.length_singleton] at hj
 rw [List.getElem_append]
 split
 ·rename_i h1; exact h j h1
 ·have : j = xs.length := by omega
  subst this
  simpa using hx
theorem WK {c : Qa} (hc : Df c) {keys n i : Nat} (hk : keys ≤ 32) (hn : 1 ≤ n) (hn4 : n ≤ 4) (b4 b6 : Ca) :
 ∃ (c' : Qa) (row : List Aa), Dl (((), (keys : Int), (), (n : Int), (), (i : Int), ([] : List Aa), (0 : Int), ()), (c, b4, b6, ())) = some (.inl (((), (keys : Int), (), (n : Int), (), (i : Int), row, ()), (c', b4, b6, ()))) ∧
  Df c' ∧ row.length = keys ∧ Kf (fun _ a => Xd n i a) 0 row = true := by
 have hlim : Ge = 1073741824 := rfl
 have := Hp (s := fun x : ((Unit × (Int × (Unit × (Int × (Unit × (Int × ((List Aa) × (Int × Unit)))))))) × (Qa × (Ca × (Ca × Unit)))) => Wn x.1.1 x.1.2.1 x.1.2.2.1 x.1.2.2.2.1 x.1.2.2.2.2.1 x.1.2.2.2.2.2.1 x.1.2.2.2.2.2.2.1 x.1.2.2.2.2.2.2.2.1 x.2.1 x.2.2.1 x.2.2.2.1)
  (fun m x => ∃ (c' : Qa) (row : List Aa) (k : Nat), x = (((), (keys : Int), (), (n : Int), (), (i : Int), row, (k : Int), ()), (c', b4, b6, ())) ∧ m + k = keys ∧ row.length = k ∧ Df c' ∧ Kf (fun _ a => Xd n i a) 0 row = true)
  (fun r => ∃ (c' : Qa) (row : List Aa), r = .inl (((), (keys : Int), (), (n : Int), (), (i : Int), row, ()), (c', b4, b6, ())) ∧ Df c' ∧ row.length = keys ∧ Kf (fun _ a => Xd n i a) 0 row = true) (by
  rintro m x ⟨c', row, k, rfl, hm, hl, hc', hr⟩
  simp only [Wn]
  by_cases h1 : (k : Int) < (keys : Int)
  ·rw [Ja h1]
   obtain ⟨c1, a, e1, hc1, ha⟩ := OA hc' (n : Int) (by omega) (by omega)
   rw [e1]
   simp only [cond_true, jb]
   have room : ∀ z : Aa, jy (ja row + ja [z]) Ge = true := fun z => jk (by simp; omega)
   rw [Ei (by omega)]
   have Re : ∀ (z : Aa) (c2 : Qa), Xd n i z = true → Df c2 → ∃ c' row' k', (((), (keys : Int), (), (n : Int), (), (i : Int), jf row [z], ((k + 1 : Nat) : Int), ()), (c2, b4, b6, ())) = (((), (keys : Int), (), (n : Int), (), (i : Int), row', ((k' : Nat) : Int), ()), (c', b4, b6, ())) ∧ (m - 1) + k' = keys ∧ ja row' = k' ∧ Df c' ∧ Kf (fun _ a => Xd n i a) 0 row' = true :=
    fun z c2 hz h2 => ⟨c2, _, k + 1, rfl, by omega, by simp [hl], h2, BA hr hz⟩
   by_cases h2 : (i : Int) > 0
   ·rw [Ja h2]
    obtain ⟨c2, b, e2, hc2⟩ := Nz hc1 3 (by omega)
    rw [e2]
    simp only [cond_true, jb, room]
    cases b with
    | true => exact .inr ⟨_, m - 1, by omega, rfl, Re _ _ (DH (by omega) hn) hc2⟩
    | false => exact .inr ⟨_, m - 1, by omega, rfl, Re _ _ (Er ha) hc2⟩
   ·rw [Ka h2]
    simp only [cond_true, cond_false, room]
    exact .inr ⟨_, m - 1, by omega, rfl, Re _ _ (Er ha) hc1⟩
  ·rw [Ka h1]; exact .inl ⟨_, rfl, c', row, rfl, hc', by omega, hr⟩) keys (((), (keys : Int), (), (n : Int), (), (i : Int), ([] : List Aa), ((0 : Nat) : Int), ()), (c, b4, b6, ())) ⟨c, [], 0, rfl, rfl, rfl, hc, rfl⟩
 obtain ⟨r, e, c', row, rfl, h⟩ := this
 exact ⟨c', row, e, h⟩
theorem PA {c : Qa} (hc : Df c) {keys : Nat} (hk1 : 1 ≤ keys) (hk : keys ≤ 32) : ∃ (c' : Qa) (m : Ca), Gm c (keys : Int) = some (c', (m, ())) ∧ Df c' ∧ Ua m = true ∧ m.1 = (keys : Int) := by
 have hlim : Ge = 1073741824 := rfl
 obtain ⟨c1, x1, e1, hc1, b1⟩ := Ee hc 4 (by omega)
 obtain ⟨n0, rfl⟩ := jw b1.1
 obtain ⟨n, hn⟩ : ∃ n : Nat, n = n0 + 1 := ⟨_, rfl⟩
 have hw : j6 .i64 ((1 : Int) + (n0 : Int)) = (n : Int) := by rw [Mb (by omega) (by omega)]; omega
 unfold Gm
 rw [e1]
 simp only [jb, hw]
 have := Hp (s := fun x : ((Unit × (Int × (Unit × (Int × (Unit × (Int × Unit)))))) × (Qa × (Ca × (Ca × Unit)))) => Vn x.1.1 x.1.2.1 x.1.2.2.1 x.1.2.2.2.1 x.1.2.2.2.2.1 x.1.2.2.2.2.2.1 x.2.1 x.2.2.1 x.2.2.2.1)
  (fun m x => ∃ (c' : Qa) (L : List (List Aa)) (k : Nat), x = (((), (keys : Int), (), (n : Int), (), (k : Int), ()), (c', ((0 : Int), ([] : List (List Aa)), ()), ((keys : Int), L, ()), ())) ∧ m + k = n ∧ L.length = k ∧ Df c' ∧ Kf (fun i l => Fd (keys : Int) n i l) 0 L = true)
  (fun r => ∃ (c' : Qa) (L : List (List Aa)), r = .inl (((), (), (), ()), (c', ((0 : Int), ([] : List (List Aa)), ()), ((keys : Int), L, ()), ())) ∧ Df c' ∧ L.length = n ∧ Kf (fun i l => Fd (keys : Int) n i l) 0 L = true) (by
  rintro m x ⟨c', L, k, rfl, hm, hl, hc', hr⟩
  simp only [Vn]
  by_cases h1 : (k : Int) < (n : Int)
  ·rw [Ja h1]
   obtain ⟨c2, row, e2, hc2, hrow, hall⟩ := WK hc' (i := k) hk (show 1 ≤ n by omega) (show n ≤ 4 by omega) ((0 : Int), ([] : List (List Aa)), ()) ((keys : Int), L, ())
   erw [e2]
   simp only [cond_true, jb, qk]
   rw [show jy (ja L + ja [row]) Ge = true from jk (by simp; omega), Ei (by omega)]
   refine .inr ⟨_, m - 1, by omega, rfl, c2, _, k + 1, rfl, by omega, by simp [hl], hc2, ?_⟩
   refine BA hr ?_
   unfold Fd
   rw [hl, hall, hrow]
   simp
  ·rw [Ka h1]; exact .inl ⟨_, rfl, c', L, rfl, hc', by omega, hr⟩) n (((), (keys : Int), (), (n : Int), (), ((0 : Nat) : Int), ()), (c1, ((0 : Int), ([] : List (List Aa)), ()), ((keys : Int), ([] : List (List Aa)), ()), ())) ⟨c1, [], 0, rfl, rfl, rfl, hc1, rfl⟩
 obtain ⟨r, e, c', L, rfl, hc', hL, hall⟩ := this
 unfold Cl
 erw [e]
 refine ⟨c', ((keys : Int), L, ()), rfl, hc', ?_, rfl⟩
 unfold Ua
 simp only [jd, decide_eq_true_eq]
 refine ⟨⟨by omega, by omega⟩, ?_⟩
 show Kf (fun i l => Fd (keys : Int) L.length i l) 0 L = true
 rw [hL]; exact hall
theorem Fw {α : Type} {p : Nat → α → Bool} {xs : List α} {i : Nat} {x : α} (h : Kf p 0 xs = true) (hx : p i x = true) : Kf p 0 (j7 xs i x) = true := by
 rw [Ve] at h ⊢
 intro j hj
 rw [j9] at hj
 rw [List.getElem_set]
 split
 ·rename_i e; subst e; simpa using hx
 ·exact h j hj
theorem Vv {keys : Int} {n i : Nat} {l : List Aa} {k : Nat} {a : Aa} (h : Fd keys n i l = true) (ha : Xd n i a = true) : Fd keys n i (j7 l k a) = true := by
 unfold Fd at h ⊢
 rw [jd] at h ⊢
 exact ⟨by rw [j9]; exact h.1, Fw h.2 ha⟩
theorem OE {keys : Int} {n i : Nat} {l : List Aa} (h : Fd keys n i l = true) : (l.length : Int) = keys := by
 unfold Fd at h
 rw [jd] at h
 simpa using h.1
theorem XG {c : Qa} (hc : Df c) {keys : Nat} (hk1 : 1 ≤ keys) (hk : keys ≤ 32) : ∃ (c' : Qa) (m : Ca), Qn c (keys : Int) = some (c', (m, ())) ∧ Df c' ∧ Ua m = true ∧ m.1 = (keys : Int) := by
 obtain ⟨c1, m1, e1, hc1, hm1, hmk⟩ := PA hc hk1 hk
 obtain ⟨c2, x2, e2, hc2, b2⟩ := Ee hc1 6 (by omega)
 obtain ⟨x, rfl⟩ := jw b2.1
 unfold Qn
 rw [e1]
 simp only [jb, e2]
 have step := Hp (s := fun x : ((Unit × (Int × (Unit × (Unit × (Int × Unit))))) × (Qa × (Ca × (Ca × Unit)))) => Ym x.1.1 x.1.2.1 x.1.2.2.1 x.1.2.2.2.1 x.1.2.2.2.2.1 x.2.1 x.2.2.1 x.2.2.2.1)
  (fun z y => ∃ (c' : Qa) (m : Ca), y = (((), (keys : Int), (), (), (z : Int), ()), (c', ((0 : Int), ([] : List (List Aa)), ()), m, ())) ∧ z ≤ 6 ∧ Df c' ∧ Ua m = true ∧ m.1 = (keys : Int))
  (fun r => ∃ (c' : Qa) (m : Ca), r = .inl (((), (), (), ()), (c', ((0 : Int), ([] : List (List Aa)), ()), m, ())) ∧ Df c' ∧ Ua m = true ∧ m.1 = (keys : Int)) (by
  rintro z y ⟨c', m, rfl, hz, hc', hm, hmk⟩
  simp only [Ym]
  by_cases h1 : (z : Int) > 0
  ·rw [Ja h1]
   have hm0 := hm
   unfold Ua at hm0
   simp only [jd, decide_eq_true_eq] at hm0
   obtain ⟨⟨hk', hL⟩, hall⟩ := hm0
   obtain ⟨c3, i, e3, hc3, bi⟩ := Ee hc' ((ja m.2.1 : Nat) : Int) (by omega)
   obtain ⟨i, rfl⟩ := jw bi.1
   obtain ⟨c4, k, e4, hc4, bk⟩ := Ee hc3 (keys : Int) (by omega)
   obtain ⟨k, rfl⟩ := jw bk.1
   rw [e3]
   simp only [cond_true, jb, e4]
   have hw : j6 .i64 ((z : Int) - 1) = ((z - 1 : Nat) : Int) := by rw [Mb (by omega) (by omega)]; omega
   rw [hw]
   have hi : i < m.2.1.length := by omega
   by_cases h2 : ((ja m.2.1 : Nat) : Int) > 1
   ·rw [Ja h2, Lg, Ja hi, jo, je hi]
    have hrow := Ve.1 hall i hi
    rw [jt] at hrow
    have hlen := OE hrow
    have hkk : k < (m.2.1[i]).length := by omega
    obtain ⟨c5, kd, e5, hc5, hkd⟩ := Ur hc4 [(4 : Int), (5 : Int), (3 : Int)] (by simp) (by simp)
    obtain ⟨c6, q, e6, hc6, bq⟩ := Ee hc5 (((ja m.2.1 : Nat) : Int) - 1) (by omega)
    simp only [cond_true, jb, e5]
    rw [Mb (n := ((ja m.2.1 : Nat) : Int) - 1) (by omega) (by omega), e6]
    simp only [jb]
    rw [Lg, Ja hkk, jo, je hkk, Mb (n := 1 + q) (by omega) (by omega)]
    simp only [cond_true, jb]
    refine .inr ⟨_, z - 1, by omega, rfl, c6, _, rfl, by omega, hc6, ?_, hmk⟩
    have hd : Bp ((ja m.2.1 : Nat) : Int) (kd, (0 : Int), (0 : Int), 1 + q, ()) := by
     have : kd = 4 ∨ kd = 5 ∨ kd = 3 := by simpa using hkd
     exact Wi (by unfold Za; omega) (by omega) (by omega)
    show Ua (m.1, j7 m.2.1 i (j7 m.2.1[i] k (kd, (0 : Int), (0 : Int), 1 + q, ())), ()) = true
    unfold Ua
    simp only [jd, decide_eq_true_eq, j9]
    exact ⟨⟨hk', hL⟩, Fw hall (Vv hrow (Er hd))⟩
   ·rw [Ka h2]
    simp only [cond_false]
    exact .inr ⟨_, z - 1, by omega, rfl, c4, m, rfl, by omega, hc4, hm, hmk⟩
  ·rw [Ka h1]
   have : z = 0 := by omega
   exact .inl ⟨_, rfl, c', m, rfl, hc', hm, hmk⟩) x (((), (keys : Int), (), (), (x : Int), ()), (c2, ((0 : Int), ([] : List (List Aa)), ()), m1, ())) ⟨c2, m1, rfl, by omega, hc2, hm1, hmk⟩
 obtain ⟨r, e, c', m, rfl, hc', hm, hmk'⟩ := step
 unfold Jk
 erw [e]
 exact ⟨c', m, rfl, hc', hm, hmk'⟩
theorem JB (a : List Int) (p : Int) {keys : Nat} (hn : a.length ≤ Db) (hk1 : 1 ≤ keys) (hk : keys ≤ 32) : ∃ m : Ca, Zh a p (keys : Int) = some (m, ()) ∧ Ua m = true ∧ m.1 = (keys : Int) := by
 obtain ⟨c, e, hc⟩ := ZK a p hn
 obtain ⟨c', m, e1, _, hm, hmk⟩ := XG hc hk1 hk
 unfold Zh
 rw [e]
 simp only [jb, e1]
 exact ⟨m, rfl, hm, hmk⟩
def Id (a : List Int) : Prop := ∀ x ∈ a, 0 ≤ x ∧ x ≤ 255
theorem Bx : ∀ (a : List Int) (k : Nat) (s : Int), Id a → k + a.length ≤ 8 → 0 ≤ s → s ≤ 2040 * (k : Int) + 90 → 0 ≤ Kc Nk k s a ∧ Kc Nk k s a ≤ 2040 * ((k + a.length : Nat) : Int) + 90
 | [], k, s, _, _, h1, h2 => by simp only [Kc]; exact ⟨h1, by simpa using h2⟩
 | x :: a, k, s, hb, hk, h1, h2 => by
  have hx := hb x (by simp)
  simp only [jx] at hk
  have hm : x * ((k : Int) + 1) ≤ 255 * 8 := Int.mul_le_mul hx.2 (by omega) (by omega) (by omega)
  have hm0 : 0 ≤ x * ((k : Int) + 1) := Int.mul_nonneg hx.1 (by omega)
  have e : Nk k s x = s + x * ((k : Int) + 1) := by
   unfold Nk
   rw [Mb (n := x) (by omega) (by omega), Mb (n := (k : Int) + 1) (by omega) (by omega), Mb (n := x * ((k : Int) + 1)) (by omega) (by omega), Mb (by omega) (by omega)]
  have := Bx a (k + 1) (Nk k s x) (fun y hy => hb y (by simp [hy])) (by omega) (by rw [e]; omega) (by rw [e]; omega)
  simp only [Kc, jx]
  rw [show k + (a.length + 1) = k + 1 + a.length by omega]
  exact this
theorem Sy : ∀ (n k : Nat) (s : Int), k + n ≤ 8 → 0 ≤ s → s ≤ 100000 → Kc Nk k s (List.replicate n 0) = s
 | 0, _, _, _, _, _ => rfl
 | n + 1, k, s, hk, h1, h2 => by
  have e : Nk k s 0 = s := by
   unfold Nk
   rw [Mb (n := (0 : Int)) (by omega) (by omega), Mb (n := (k : Int) + 1) (by omega) (by omega), Int.zero_mul, Mb (n := (0 : Int)) (by omega) (by omega), Mb (by omega) (by omega)]; omega
  rw [List.replicate_succ]
  simp only [Kc]
  rw [e]
  exact Sy n (k + 1) s (by omega) h1 h2
theorem JA {α S : Type} (g : Nat → S → α → S) : ∀ (a b : List α) (k : Nat) (s : S), Kc g k s (a ++ b) = Kc g (k + a.length) (Kc g k s a) b
 | [], b, k, s => by simp [Kc]
 | x :: a, b, k, s => by
  simp only [List.cons_append, Kc, jx]
  rw [JA g a b (k + 1), show k + 1 + a.length = k + (a.length + 1) by omega]
def Nm (a : List Int) : Int := j6 .u8 (Int.tmod (Kc Nk 0 90 a) 256)
theorem PL {a : List Int} (hb : Id a) (h7 : a.length ≤ 7) : 0 ≤ Nm a ∧ Nm a ≤ 255 := by
 have h := Bx a 0 90 hb (by omega) (by omega) (by omega)
 have h1 := Int.tmod_nonneg 256 h.1
 have h2 := Int.tmod_lt_of_pos (Kc Nk 0 90 a) (show (0 : Int) < 256 by omega)
 unfold Nm
 rw [Yn h1 (by omega)]
 omega
theorem Oo {a : List Int} (h7 : a.length ≤ 7) : Bd a = a ++ List.replicate (7 - a.length) 0 ++ [Nm a] := by
 unfold Bd
 rw [if_neg (by omega), show 8 - a.length = (7 - a.length) + 1 by omega, List.replicate_succ', ← List.append_assoc]
 rw [List.set_append_right _ _ (by simp; omega)]
 have : 7 - (a ++ List.replicate (7 - a.length) (0 : Int)).length = 0 := by simp; omega
 rw [this]
 rfl
theorem Ch {a : List Int} (hb : Id a) (h7 : a.length ≤ 7) : Wd (Bd a) = true ∧ (Bd a).length = 8 ∧ Id (Bd a) := by
 have h1 := Oo h7
 have hl : (Bd a).length = 8 := by rw [h1]; simp; omega
 have h2 : Tb (Bd a) 0 7 = a ++ List.replicate (7 - a.length) 0 := by
  rw [h1]
  unfold Tb
  rw [List.drop_zero, List.take_append_of_le_length (by simp; omega), List.take_of_length_le (by simp; omega)]
 have h3 : Bd (a ++ List.replicate (7 - a.length) 0) = Bd a := by
  rw [Oo (by simp; omega), h1]
  have e : (a ++ List.replicate (7 - a.length) (0 : Int)).length = 7 := by simp; omega
  have hs := Bx a 0 90 hb (by omega) (by omega) (by omega)
  have hc : Nm (a ++ List.replicate (7 - a.length) 0) = Nm a := by
   unfold Nm
   rw [JA, Sy _ _ _ (by omega) hs.1 (by omega)]
  rw [e, hc]
  simp
 refine ⟨?_, hl, ?_⟩
 ·unfold Wd
  rw [h2, h3, hl]
  simp
 ·intro x hx
  rw [h1] at hx
  rcases jm.1 hx with hx | hx
  ·rcases jm.1 hx with hx | hx
   ·exact hb x hx
   ·have := List.eq_of_mem_replicate hx; omega
  ·simp only [qe] at hx
   subst hx
   exact PL hb h7
theorem Pz {a : Aa} (h : Ib a = true) : Yd a = [16 * a.1 + a.2.2.2.1, a.2.1, a.2.2.1] ∧ Id (Yd a) ∧ Gl (Yd a) = (a, true) := by
 obtain ⟨k, c, m, n, u⟩ := a
 have hA := h
 rw [Cb] at hA
 unfold Za at hA
 simp only at hA
 have hb : 0 ≤ k ∧ k ≤ 10 ∧ 0 ≤ c ∧ c ≤ 56 ∧ 0 ≤ m ∧ m ≤ 15 ∧ 0 ≤ n ∧ n ≤ 3 := by omega
 have e : Yd (k, c, m, n, u) = [16 * k + n, c, m] := by
  unfold Yd
  rw [h]
  simp only [cond_true]
  rw [Mb (n := 16 * k) (by omega) (by omega), Mb (n := 16 * k + n) (by omega) (by omega), Yn (n := 16 * k + n) (by omega) (by omega), Yn (n := c) (by omega) (by omega), Yn (n := m) (by omega) (by omega)]
 rw [e]
 refine ⟨rfl, ?_, ?_⟩
 ·intro x hx
  simp only [jq, List.not_mem_nil, or_false] at hx
  omega
 ·have d1 : Int.tdiv (16 * k + n) 16 = k := by rw [Int.tdiv_eq_ediv_of_nonneg (by omega)]; omega
  have d2 : Int.tmod (16 * k + n) 16 = n := by rw [Int.tmod_eq_emod_of_nonneg (by omega)]; omega
  have hu : Sd [16 * k + n, c, m] = some ((k, c, m, n, ()), true, ()) := by
   unfold Sd
   have i0 : Pb [16 * k + n, c, m] (0 : Int) = some (16 * k + n) := rfl
   have i1 : Pb [16 * k + n, c, m] (1 : Int) = some c := rfl
   have i2 : Pb [16 * k + n, c, m] (2 : Int) = some m := rfl
   rw [i0, i1, i2, show (((ja [16 * k + n, c, m] : Nat) : Int) != 3) = false from rfl, show ((16 : Int) == 0) = false from rfl]
   simp only [cond_false, jb]
   rw [Mb (n := 16 * k + n) (by omega) (by omega), d1, d2, Mb (n := k) (by omega) (by omega), Mb (n := c) (by omega) (by omega), Mb (n := m) (by omega) (by omega), Uj]
   rw [show Ib (k, c, m, n, ()) = true from h]
   rfl
  unfold Gl
  rw [hu]
theorem Tp (a : Aa) : Id (Yd a) := by
 cases h : Ib a with
 | true => exact (Pz h).2.1
 | false => unfold Yd; rw [h]; intro x hx; simp at hx
theorem Rc {x : Int} {l : List Int} (hx : 0 ≤ x ∧ x ≤ 255) (h : Id l) : Id (x :: l) := by
 intro y hy
 rcases jq.1 hy with rfl | hy
 ·exact hx
 ·exact h y hy
theorem Ut : Id [] := fun x hx => by simp at hx
theorem WM {m : Ca} {b : List Int} (hv : Ua m = true) (hz : Ac Oa m ≤ Db) (hb : Yl (.sl Zf) b) :
 ∃ m' X, Yc m b = some (m', Bd X, ()) ∧ Id X ∧ X.length ≤ 7 ∧ Ua m' = true ∧ ((∃ r, X = 3 :: r) ∨ m' = m) := by
 have e255 : ∀ y : Int, 0 ≤ y → y ≤ 255 → Id [255, y] := fun y h1 h2 => Rc (by omega) (Rc (by omega) Ut)
 have hm := We hv
 have hk1 := hm.k1
 have hk2 := hm.k2
 have hl2 := hm.l2
 have e1b : Id [1, j6 .u8 m.1, j6 .u8 ((ja m.2.1 : Nat) : Int)] := by
  rw [Yn (by omega) (by omega), Yn (by omega) (by omega)]
  exact Rc (by omega) (Rc (by omega) (Rc (by omega) Ut))
 unfold Yc
 rw [Dj m hz, Le m hz, Ih, hv]
 cases hp : Wd b with
 | false =>
  simp only [jb, qa, jg, cond_true, cond_false, Nd]
  exact ⟨_, _, rfl, e255 1 (by omega) (by omega), by simp, hv, .inr rfl⟩
 | true =>
  have hlen : b.length = 8 := Up hp
  obtain ⟨p0, r, rfl, h1⟩ := Lj hlen
  obtain ⟨p1, r, rfl, h2⟩ := Lj h1
  obtain ⟨p2, r, rfl, h3⟩ := Lj h2
  have hp0 := No hb (show 0 < _ by simp)
  have hp1 := No hb (show 1 < _ by simp)
  have hp2 := No hb (show 2 < _ by simp)
  simp only [List.getElem_cons_succ, List.getElem_cons_zero] at hp0 hp1 hp2
  have i0 : Pb (p0 :: p1 :: p2 :: r) (0 : Int) = some p0 := rfl
  have i1 : Pb (p0 :: p1 :: p2 :: r) (1 : Int) = some p1 := rfl
  have i2 : Pb (p0 :: p1 :: p2 :: r) (2 : Int) = some p2 := rfl
  have c1 : Jc (ja (p0 :: p1 :: p2 :: r)) 3 6 = true := Hj (lo := 3) (hi := 6) (by omega) (by omega)
  have c2 : Jc (ja (p0 :: p1 :: p2 :: r)) 0 6 = true := Hj (lo := 0) (hi := 6) (by omega) (by omega)
  have hcut6 : ∃ q, Tb (p0 :: p1 :: p2 :: r) (jz 0) (jz 6) = p0 :: q ∧ Id (p0 :: q) ∧ (p0 :: q).length ≤ 7 := by
   refine ⟨(p1 :: p2 :: r).take 5, rfl, fun x hx => ?_, by simp; omega⟩
   have hx' : x ∈ p0 :: p1 :: p2 :: r := by
    rcases jq.1 hx with rfl | hx
    ·simp
    ·exact js _ (List.mem_of_mem_take hx)
   obtain ⟨j, hj, rfl⟩ := qn hx'
   exact No hb hj
  obtain ⟨q6, hq6, hq6b, hq6l⟩ := hcut6
  rw [hq6]
  generalize hcut : Tb (p0 :: p1 :: p2 :: r) (jz 3) (jz 6) = q
  obtain ⟨ua, ub, u1, u2⟩ := Br q
  simp only [jb, jg, cond_false, i0, i1, i2, c1, c2, cond_true, u1, Mb (show -9223372036854775808 ≤ p1 by omega) (show p1 ≤ 9223372036854775807 by omega),
   Mb (show -9223372036854775808 ≤ p2 by omega) (show p2 ≤ 9223372036854775807 by omega), Nd, Wl m p1 p2 ua hz]
  have hset : ∀ sb, Bl m p1 p2 ua = sb → p0 = 3 → ∃ m' X, (cond ub (cond sb (some (cond sb (Ni m p1 p2 ua) (0, [], ()), Bd (p0 :: q6), ())) (some (m, Bd [255, 3], ()))) (some (m, Bd [255, 3], ()))) = some (m', Bd X, ()) ∧ Id X ∧ X.length ≤ 7 ∧ Ua m' = true ∧ ((∃ r, X = 3 :: r) ∨ m' = m) := by
   intro sb hsb h0
   cases ub with
   | false => exact ⟨_, _, rfl, e255 3 (by omega) (by omega), by simp, hv, .inr rfl⟩
   | true =>
    cases sb with
    | false => exact ⟨_, _, rfl, e255 3 (by omega) (by omega), by simp, hv, .inr rfl⟩
    | true =>
     refine ⟨_, _, rfl, hq6b, hq6l, ?_, .inl ⟨q6, by rw [h0]⟩⟩
     unfold Bl at hsb
     rw [jd] at hsb
     exact hsb.2
  have hset' := hset _ rfl
  have hlast : ∃ m' X, (cond (p0 == 3) (cond ub (cond (Bl m p1 p2 ua) (some (cond (Bl m p1 p2 ua) (Ni m p1 p2 ua) (0, [], ()), Bd (p0 :: q6), ())) (some (m, Bd [255, 3], ()))) (some (m, Bd [255, 3], ()))) (some (m, Bd [255, 2], ()))) = some (m', Bd X, ()) ∧ Id X ∧ X.length ≤ 7 ∧ Ua m' = true ∧ ((∃ r, X = 3 :: r) ∨ m' = m) := by
   cases h3 : p0 == 3 with
   | true => exact hset' (by simpa using h3)
   | false => exact ⟨_, _, rfl, e255 2 (by omega) (by omega), by simp, hv, .inr rfl⟩
  by_cases hl : p1 < (m.2.1.length : Int)
  ·rw [Ja hl]
   cases p0 == 1 with
   | true => exact ⟨_, _, rfl, e1b, by simp, hv, .inr rfl⟩
   | false =>
    simp only [cond_false, cond_true]
    cases h02 : (p0 == 2) with
    | false => exact hlast
    | true =>
     simp only [cond_true]
     by_cases hk : p2 < m.1
     case neg =>
      rw [Ka hk]
      exact ⟨_, _, rfl, e255 3 (by omega) (by omega), by simp, hv, .inr rfl⟩
     rw [Ja hk]
     simp only [cond_true]
     have hi' : p1.toNat < m.2.1.length := by omega
     have hrow := hm.row p1.toNat hi'
     have hk' : p2.toNat < m.2.1[p1.toNat].length := by omega
     have e1 : Pb m.2.1 p1 = some m.2.1[p1.toNat] := Gy (by omega) hi'
     have e2 : Pb m.2.1[p1.toNat] p2 = some m.2.1[p1.toNat][p2.toNat] := Gy (by omega) hk'
     have hpl := Yk m.2.1[p1.toNat][p2.toNat]
     rw [e1]
     simp only [jb, e2, Bi]
     rw [Bf (by simp only [jx, j8]; omega)]
     refine ⟨_, _, rfl, Rc (by omega) (Rc hp1 (Rc hp2 (Tp _))), ?_, hv, .inr rfl⟩
     show (2 :: p1 :: p2 :: Yd _).length ≤ 7
     simp only [jx]
     omega
  ·rw [Ka hl]
   cases p0 == 1 with
   | true => exact ⟨_, _, rfl, e1b, by simp, hv, .inr rfl⟩
   | false =>
    simp only [cond_false]
    cases p0 == 2 with
    | true => exact ⟨_, _, rfl, e255 3 (by omega) (by omega), by simp, hv, .inr rfl⟩
    | false => exact hlast
theorem Ct {n : Nat} (h : n ≤ 255) : j6 .u8 (n : Int) = (n : Int) := Yn (by omega) (by omega)
theorem XM {m : Ca} (hv : Ua m = true) (hz : Ac Oa m ≤ Db) {i k : Nat} (hi : i < m.2.1.length) (hk : k < m.2.1[i].length) :
 Yc m (Si i k) = some (m, Bd (2 :: (i : Int) :: (k : Int) :: Yd m.2.1[i][k]), ()) := by
 have hm := We hv
 have hk2 := hm.k2
 have hl2 := hm.l2
 have hrow := hm.row i hi
 have hb : Id [2, (i : Int), (k : Int)] := Rc (by omega) (Rc (by omega) (Rc (by omega) Ut))
 have hS := Ch hb (by simp)
 have hp : Si i k = Bd [2, (i : Int), (k : Int)] := by unfold Si; rw [Ct (by omega), Ct (by omega)]
 rw [hp]
 have hE := Oo (a := [2, (i : Int), (k : Int)]) (by simp)
 unfold Yc
 rw [Dj m hz, Le m hz, Ih, hv, hS.1, hE]
 have i0 : Pb ([2, (i : Int), (k : Int)] ++ List.replicate (7 - ja [2, (i : Int), (k : Int)]) 0 ++ [Nm [2, (i : Int), (k : Int)]]) (0 : Int) = some 2 := rfl
 have i1 : Pb ([2, (i : Int), (k : Int)] ++ List.replicate (7 - ja [2, (i : Int), (k : Int)]) 0 ++ [Nm [2, (i : Int), (k : Int)]]) (1 : Int) = some (i : Int) := rfl
 have i2 : Pb ([2, (i : Int), (k : Int)] ++ List.replicate (7 - ja [2, (i : Int), (k : Int)]) 0 ++ [Nm [2, (i : Int), (k : Int)]]) (2 : Int) = some (k : Int) := rfl
 have hpl := Yk m.2.1[i][k]
 rw [i0, i1, i2]
 simp only [jb, jg, cond_false]
 rw [Mb (n := (i : Int)) (by omega) (by omega), Mb (n := (k : Int)) (by omega) (by omega), Ja (show (i : Int) < ((ja m.2.1 : Nat) : Int) by omega), Ja (show (k : Int) < m.1 by omega), Ae hi]
 simp only [cond_true, jb]
 rw [Ae hk]
 simp only [jb, Bi]
 rw [Bf (by simp only [jx, j8]; omega)]
 simp only [show ((2 : Int) == 1) = false from rfl, show ((2 : Int) == 2) = true from rfl, cond_true, cond_false, Nd, jb]
 rfl
theorem YM {m : Ca} (hv : Ua m = true) (hz : Ac Oa m ≤ Db) {i k : Nat} (hi : i < m.2.1.length) (hk : (k : Int) < m.1) {a : Aa} (ha : Ib a = true) (hs : Ua (Ni m i k a) = true) :
 ∃ w, Yc m (Tg i k a) = some (Ni m i k a, w, ()) := by
 have hm := We hv
 have hk2 := hm.k2
 have hl2 := hm.l2
 obtain ⟨hpk, hpb, hun⟩ := Pz ha
 generalize hx : 16 * a.1 + a.2.2.2.1 = x0 at hpk
 generalize hy : a.2.1 = x1 at hpk
 generalize hw : a.2.2.1 = x2 at hpk
 have hb : Id (3 :: (i : Int) :: (k : Int) :: Yd a) := Rc (by omega) (Rc (by omega) (Rc (by omega) hpb))
 have hl7 : (3 :: (i : Int) :: (k : Int) :: Yd a).length ≤ 7 := by rw [hpk]; simp
 have hS := Ch hb hl7
 have hp : Tg i k a = Bd (3 :: (i : Int) :: (k : Int) :: Yd a) := by
  unfold Tg
  rw [Ct (by omega), Ct (by omega)]
  rfl
 have hE := Oo hl7
 generalize hc : Nm (3 :: (i : Int) :: (k : Int) :: Yd a) = c at hE
 have hE' : Tg i k a = [3, (i : Int), (k : Int), x0, x1, x2, 0, c] := by
  rw [hp, hE, hpk]
  rfl
 have hP : Wd [3, (i : Int), (k : Int), x0, x1, x2, 0, c] = true := by rw [← hE', hp]; exact hS.1
 rw [hE']
 unfold Yc
 rw [Dj m hz, Le m hz, Ih, hv, hP]
 have i0 : Pb [3, (i : Int), (k : Int), x0, x1, x2, 0, c] (0 : Int) = some 3 := rfl
 have i1 : Pb [3, (i : Int), (k : Int), x0, x1, x2, 0, c] (1 : Int) = some (i : Int) := rfl
 have i2 : Pb [3, (i : Int), (k : Int), x0, x1, x2, 0, c] (2 : Int) = some (k : Int) := rfl
 have c1 : Jc (ja [3, (i : Int), (k : Int), x0, x1, x2, 0, c]) 3 6 = true := rfl
 have c2 : Jc (ja [3, (i : Int), (k : Int), x0, x1, x2, 0, c]) 0 6 = true := rfl
 have hq : Tb [3, (i : Int), (k : Int), x0, x1, x2, 0, c] (jz 3) (jz 6) = Yd a := by rw [hpk]; rfl
 have hU := (Xz (Yd a)).1
 rw [hun] at hU
 rw [i0, i1, i2, c1, c2, hq]
 simp only [jb, jg, cond_false]
 rw [Mb (n := (i : Int)) (by omega) (by omega), Mb (n := (k : Int)) (by omega) (by omega), Ja (show (i : Int) < ((ja m.2.1 : Nat) : Int) by omega)]
 simp only [show ((3 : Int) == 1) = false from rfl, show ((3 : Int) == 2) = false from rfl, show ((3 : Int) == 3) = true from rfl, cond_true, cond_false, hU, jb, Wl m i k a hz]
 have hsb : Bl m i k a = true := by
  unfold Bl
  rw [hv, hs, Ja (show 0 ≤ (i : Int) ∧ (i : Int) < (m.2.1.length : Int) by omega), Ja (show 0 ≤ (k : Int) ∧ (k : Int) < m.1 by omega)]
  rfl
 rw [hsb]
 simp only [cond_true, cond_false, jb, Nd]
 exact ⟨_, rfl⟩
abbrev DC : Type := Ca × List (List Int)
noncomputable def Ww (s : DC) (b : List Int) : DC := ((Fk s.1 b).1, jf s.2 [(Fk s.1 b).2])
noncomputable def Bj (s : DC) (l : List (List Int)) : DC := l.foldl Ww s
theorem RD : ∀ (l : List (List Int)) (k : Nat) (s : DC), Kc (fun _ (s : DC) b => ((Fk s.1 b).1, jf s.2 [(Fk s.1 b).2])) k s l = Bj s l
 | [], _, _ => rfl
 | b :: l, k, s => by
  simp only [Kc]
  exact RD l (k + 1) _
theorem En (m : Ca) (l : List (List Int)) (hb : Yl (.sl (.sl Zf)) l) (hz : Ac Oa m ≤ Db) (hl : Ac (.sl (.sl Zf)) l ≤ Db) :
 Hh m l = some ((Bj (m, []) l).1, (Bj (m, []) l).2, ()) := by
 have h20 : Db = 1048576 := rfl
 have hlen : ja l ≤ Db := qc (Nat.le_add_right _ _) hl
 have h0 : Xu 0 (m, []) := ⟨hz, rfl, by simp⟩
 have s2 := Rj (step := fun x : (Unit × Unit × List (List Int) × List (List Int) × Int × Int × Unit) × Ca × Ca × Unit => Xg x.1.1 x.1.2.1 x.1.2.2.1 x.1.2.2.2.1 x.1.2.2.2.2.1 x.1.2.2.2.2.2.1 x.2.1 x.2.2.1) l
  (fun _ s b => ((Fk s.1 b).1, jf s.2 [(Fk s.1 b).2])) (fun s k => (((), (), s.2, l, (l.length : Int), k, ()), ((0, [], ()), s.1, ()))) (fun s => .inl (((), (), s.2, ()), ((0, [], ()), s.1, ()))) Xu (fun k hk s hs => by
   refine ⟨?_, KL (hb.2 k hk) hs⟩
   have hs1 := hs.2.1
   simp only [Xg]
   rw [Ja (by omega), Ae hk]
   simp only [cond_true, jb]
   have e : Te (s.1.1, s.1.2.1, ()) l[k] = _ := (Bz (hb.2 k hk) hs.1).2.1
   rw [e]
   simp only [jb]
   rw [Bf (by simp only [jx, j8]; omega)]
   rfl) (fun s _ => by
   simp only [Xg]
   rw [Ka (by omega)]
   rfl) (by omega) (m, []) h0
 rw [RD] at s2
 unfold Hh Ph
 rw [Wk m hz]
 simp only [jb]
 erw [s2.1]
 rfl
theorem PF (s : DC) (a b : List (List Int)) : Bj s (a ++ b) = Bj (Bj s a) b := List.foldl_append
theorem Az {m m' : Ca} {b w : List Int} (h : Yc m b = some (m', w, ())) : Fk m b = (m', w) := by unfold Fk; rw [h]
theorem Lo {m : Ca} (h : Ua m = true) : Ac Oa m ≤ 200 := by
 have hm := We h
 have h1 : Ac Oa m = 0 + (Ac (.sl (.sl Hb)) m.2.1 + 0) := rfl
 have h2 : Ac (.sl (.sl Hb)) m.2.1 ≤ (32 + 1) * ja m.2.1 := QH (e := .sl Hb) (c := 32) fun x hx => by
  obtain ⟨i, hi, rfl⟩ := qn hx
  rw [Pu]
  have := hm.row i hi
  have := hm.k2
  omega
 have := hm.l2
 omega
noncomputable def Xm (i : Nat) : Nat → List Aa → List (List Int)
 | _, [] => []
 | k, a :: r => Tg i k a :: Xm i (k + 1) r
noncomputable def Qm : Nat → List (List Aa) → List (List Int)
 | _, [] => []
 | i, row :: rs => Xm i 0 row ++ Qm (i + 1) rs
def Tl (i : Nat) : Nat → List Aa → List (List Int)
 | _, [] => []
 | k, _ :: r => Si i k :: Tl i (k + 1) r
def Fi : Nat → List (List Aa) → List (List Int)
 | _, [] => []
 | i, row :: rs => Tl i 0 row ++ Fi (i + 1) rs
noncomputable def Gw (i k : Nat) (a : Aa) : List Int := Bd (2 :: (i : Int) :: (k : Int) :: Yd a)
noncomputable def Wm (i : Nat) : Nat → List Aa → List (List Int)
 | _, [] => []
 | k, a :: r => Gw i k a :: Wm i (k + 1) r
noncomputable def Ek : Nat → List (List Aa) → List (List Int)
 | _, [] => []
 | i, row :: rs => Wm i 0 row ++ Ek (i + 1) rs
theorem HB (i : Nat) : ∀ (row : List Aa) (k : Nat) (o : List (List Int)), Kc (fun k o a => jf o [Tg i k a]) k o row = o ++ Xm i k row
 | [], _, o => by simp [Kc, Xm]
 | a :: r, k, o => by
  simp only [Kc, Xm]
  rw [HB i r]
  simp
theorem GB : ∀ (rows : List (List Aa)) (i : Nat) (o : List (List Int)), Kc (fun i o row => Uu i o row) i o rows = o ++ Qm i rows
 | [], _, o => by simp [Kc, Qm]
 | row :: rs, i, o => by
  simp only [Kc, Qm]
  rw [GB rs]
  unfold Uu
  rw [HB]
  simp
theorem Ms {m : Ca} (hv : Ua m = true) : Mj m = some (Qm 0 m.2.1, ()) := by
 have h20 : Db = 1048576 := rfl
 have hz : Ac Oa m ≤ Db := by have := Lo hv; omega
 unfold Mj
 rw [Ag m hz, hv]
 have hm := We hv
 have hl2 := hm.l2
 have hk1 := hm.k1
 have hk2 := hm.k2
 obtain ⟨n, hn⟩ := jw (show 0 ≤ m.1 by omega)
 have hrl : ∀ k (hk : k < m.2.1.length), m.2.1[k].length = n := fun k hk => by have := hm.row k hk; omega
 have hnk : ∀ k, k ≤ 4 → k * n ≤ 128 := fun k hk => TA hk (by omega)
 have s2 := Rj (step := fun x : (List (List Int) × List (List Aa) × Int × Int × Unit) × Unit => Yg x.1.1 x.1.2.1 x.1.2.2.1 x.1.2.2.2.1) m.2.1 (fun i o row => Uu i o row)
  (fun o k => ((o, m.2.1, (m.2.1.length : Int), k, ()), ())) (fun o => .inl ((o, ()), ())) (fun k o => Yh (k * n) o) (fun k hk o hs => by
   have h2 := MB m.2.1 m.2.1.length k m.2.1[k] (by rw [hrl k hk]; omega) hs (by have := hnk k (by omega); omega)
   have h3 := h2.2
   rw [hrl k hk] at h3
   refine ⟨?_, by rw [Nat.succ_mul]; exact h3⟩
   simp only [Yg]
   rw [Ja (by omega), Ae hk]
   simp only [cond_true, jb]
   rw [h2.1]
   rfl) (fun o _ => by
   simp only [Yg]
   rw [Ka (by omega)]
   rfl) (by omega) [] ⟨by simp, by simp⟩
 rw [GB] at s2
 unfold Qh
 simp only [jb, jg, cond_false]
 erw [s2.1]
 simp
theorem ZA {i : Nat} : ∀ (rest : List Aa) (k : Nat) (done zs : List Aa) (A B : List (List Aa)) (s : Ca) (o : List (List Int)), s.2.1 = A ++ (done ++ zs) :: B → A.length = i → done.length = k → zs.length = rest.length → Ua s = true →
 (∀ a ∈ rest, Xd s.2.1.length i a = true) → ∃ (s' : Ca) (o' : List (List Int)), Bj (s, o) (Xm i k rest) = (s', o') ∧ s'.2.1 = A ++ (done ++ rest) :: B ∧ s'.1 = s.1 ∧ Ua s' = true ∧ o'.length = o.length + rest.length
 | [], k, done, zs, A, B, s, o, hs, hA, hd, hz, hv, _ => by
  have : zs = [] := List.eq_nil_of_length_eq_zero hz
  subst this
  exact ⟨s, o, rfl, hs, rfl, hv, rfl⟩
 | a :: rest, k, done, zs, A, B, s, o, hs, hA, hd, hz, hv, hok => by
  cases zs with
  | nil => simp at hz
  | cons z zs =>
   have h20 : Db = 1048576 := rfl
   have hzz : Ac Oa s ≤ Db := by have := Lo hv; omega
   have hi : i < s.2.1.length := by rw [hs]; simp; omega
   have hrowi : s.2.1[i] = done ++ z :: zs := by simp only [hs]; rw [List.getElem_append_right (by omega)]; simp [hA]
   have hm := We hv
   have hlen := hm.row i hi
   have hk : (k : Int) < s.1 := by rw [← hlen, hrowi, qf, hd]; simp; omega
   have hoka := hok a (by simp)
   have haa : Ib a = true := Hu hoka
   have hset : Ni s i k a = (s.1, A ++ (done ++ a :: zs) :: B, ()) := by
    unfold Ni
    rw [jo, jo, qj, je hi]
    simp only [Option.getD_some]
    rw [hrowi, hs]
    rw [List.set_append_right _ _ (by omega), List.set_append_right _ _ (by omega)]
    simp [hA, hd]
   have hvs : Ua (Ni s i k a) = true := by
    have hv0 := hv
    unfold Ua at hv0
    simp only [jd, decide_eq_true_eq] at hv0
    obtain ⟨⟨hk', hL⟩, hall⟩ := hv0
    have hrow := Ve.1 hall i hi
    rw [jt] at hrow
    unfold Ni Ua
    rw [jo, jo, qj, je hi]
    simp only [Option.getD_some, jd, decide_eq_true_eq, j9]
    exact ⟨⟨hk', hL⟩, Fw hall (Vv hrow hoka)⟩
   obtain ⟨w, hw⟩ := YM hv hzz hi hk haa hvs
   have e : Bj (s, o) (Xm i k (a :: rest)) = Bj (Ni s i k a, jf o [w]) (Xm i (k + 1) rest) := by
    show List.foldl Ww (Ww (s, o) (Tg i k a)) _ = _
    unfold Ww
    rw [Az hw]
    rfl
   have hL : (Ni s i k a).2.1.length = s.2.1.length := by rw [hset, hs]; simp
   obtain ⟨s', o', h1, h2, h3, h4, h5⟩ := ZA rest (k + 1) (done ++ [a]) zs A B (Ni s i k a) (jf o [w]) (by rw [hset]; simp) hA (by simp [hd]) (by simpa using hz) hvs (fun x hx => by rw [hL]; exact hok x (by simp [hx]))
   refine ⟨s', o', e.trans h1, by rw [h2]; simp, h3, h4, ?_⟩
   rw [h5]
   simp
   omega
theorem CA : ∀ (rows zrows A : List (List Aa)) (s : Ca) (o : List (List Int)), s.2.1 = A ++ zrows → zrows.length = rows.length → (∀ j (h1 : j < rows.length) (h2 : j < zrows.length), zrows[j].length = rows[j].length) → Ua s = true →
 (∀ j (h : j < rows.length), ∀ a ∈ rows[j], Xd s.2.1.length (A.length + j) a = true) → ∃ (s' : Ca) (o' : List (List Int)), Bj (s, o) (Qm A.length rows) = (s', o') ∧ s'.2.1 = A ++ rows ∧ s'.1 = s.1 ∧ Ua s' = true ∧ o'.length = o.length + (rows.map ja).sum
 | [], zrows, A, s, o, hs, hl, _, hv, _ => by
  have : zrows = [] := List.eq_nil_of_length_eq_zero hl
  subst this
  exact ⟨s, o, rfl, hs, rfl, hv, rfl⟩
 | row :: rows, [], A, s, o, hs, hl, _, hv, _ => by simp at hl
 | row :: rows, z :: zrows, A, s, o, hs, hl, hz, hv, hok => by
  have hz0 := hz 0 (by simp) (by simp)
  simp only [List.getElem_cons_zero] at hz0
  obtain ⟨s1, o1, h1, h2, h3, h4, h5⟩ := ZA (i := A.length) row 0 [] z A zrows s o (by simpa using hs) rfl rfl hz0 hv (fun a ha => by simpa using hok 0 (by simp) a ha)
  have hL : s1.2.1.length = s.2.1.length := by rw [h2, hs]; simp
  obtain ⟨s2, o2, g1, g2, g3, g4, g5⟩ := CA rows zrows (A ++ [row]) s1 o1 (by rw [h2]; simp) (by simpa using hl) (fun j a b => hz (j + 1) (by simp; omega) (by simp; omega)) h4 (fun j hj a ha => by
   rw [hL]
   have := hok (j + 1) (by simp; omega) a (by simpa using ha)
   rw [qf]
   simp only [jx, j8]
   rw [show A.length + (0 + 1) + j = A.length + (j + 1) by omega]
   exact this)
  refine ⟨s2, o2, ?_, by rw [g2]; simp, g3.trans h3, g4, ?_⟩
  ·show Bj (s, o) (Xm A.length 0 row ++ Qm (A.length + 1) rows) = _
   rw [PF, h1]
   have : (A ++ [row]).length = A.length + 1 := by simp
   rw [← this]
   exact g1
  ·rw [g5, h5]
   simp
   omega
theorem ZD {m : Ca} (hv : Ua m = true) {i : Nat} (hi : i < m.2.1.length) : ∀ (rest : List Aa) (k : Nat) (done : List Aa) (o : List (List Int)), m.2.1[i] = done ++ rest → done.length = k → Bj (m, o) (Tl i k rest) = (m, o ++ Wm i k rest)
 | [], k, done, o, _, _ => by simp [Tl, Wm, Bj]
 | a :: rest, k, done, o, hr, hd => by
  have h20 : Db = 1048576 := rfl
  have hz : Ac Oa m ≤ Db := by have := Lo hv; omega
  have hk : k < m.2.1[i].length := by rw [hr]; simp; omega
  have ha : m.2.1[i][k] = a := by simp only [hr]; rw [List.getElem_append_right (by omega)]; simp [hd]
  have hg := XM hv hz hi hk
  rw [ha] at hg
  have e : Bj (m, o) (Tl i k (a :: rest)) = Bj (m, jf o [Gw i k a]) (Tl i (k + 1) rest) := by
   show List.foldl Ww (Ww (m, o) (Si i k)) _ = _
   unfold Ww
   rw [Az hg]
   rfl
  rw [e, ZD hv hi rest (k + 1) (done ++ [a]) _ (by rw [hr]; simp) (by simp [hd])]
  simp [Wm]
theorem LC {m : Ca} (hv : Ua m = true) : ∀ (rows A : List (List Aa)) (o : List (List Int)), m.2.1 = A ++ rows → Bj (m, o) (Fi A.length rows) = (m, o ++ Ek A.length rows)
 | [], A, o, _ => by simp [Fi, Ek, Bj]
 | row :: rows, A, o, hA => by
  have hi : A.length < m.2.1.length := by rw [hA]; simp
  have hr : m.2.1[A.length] = [] ++ row := by simp [hA]
  show Bj (m, o) (Tl A.length 0 row ++ Fi (A.length + 1) rows) = _
  rw [PF, ZD hv hi row 0 [] o hr rfl]
  have := LC hv rows (A ++ [row]) (o ++ Wm A.length 0 row) (by rw [hA]; simp)
  rw [show (A ++ [row]).length = A.length + 1 by simp] at this
  rw [this]
  simp [Ek]
theorem Py (i : Nat) : ∀ (row : List Aa) (k : Nat), Tl i k row = (List.range' k row.length).map (Si i)
 | [], _ => rfl
 | a :: r, k => by simp only [Tl, jx, List.range'_succ, List.map_cons]; rw [Py i r]
theorem Xv (i : Nat) (o : List (List Int)) : ∀ n, Yo n i o = o ++ (List.range n).map (Si i)
 | 0 => by simp [Yo, Hk]
 | n + 1 => by
  have ih := Xv i o n
  unfold Yo at ih ⊢
  simp only [Hk]
  rw [ih, List.range_succ]
  simp
theorem LJ (i : Nat) (o : List (List Int)) (row : List Aa) : Yo row.length i o = o ++ Tl i 0 row := by
 rw [Xv, Py, List.range_eq_range']
theorem JC : ∀ (a b : List (List Aa)) (i : Nat), Fi i (a ++ b) = Fi i a ++ Fi (i + a.length) b
 | [], b, i => by simp [Fi]
 | x :: a, b, i => by
  simp only [List.cons_append, Fi, jx]
  rw [JC a b (i + 1), show i + 1 + a.length = i + (a.length + 1) by omega]
  simp
theorem YA {n : Nat} {rows : List (List Aa)} (h : ∀ j (hj : j < rows.length), rows[j].length = n) : ∀ l, l ≤ rows.length → At n l = Fi 0 (rows.take l)
 | 0, _ => by simp [At, Hk, Fi]
 | l + 1, hl => by
  have ih := YA h l (by omega)
  unfold At at ih ⊢
  simp only [Hk]
  rw [ih, List.take_succ_eq_append_getElem (by omega), JC, ← h l (by omega), LJ]
  simp only [qq, jt, Nat.min_eq_left (show l ≤ rows.length by omega), Fi, List.append_nil]
theorem VL {n : Nat} {L : List (List Aa)} {done : List Aa} {i k : Nat} {a : Aa} (hi : L.length = i) (hk : done.length = k) (hi4 : i ≤ 255) (hk32 : k ≤ 255) (ha : Ib a = true) :
 Ye (n : Int) (L, done) (Gw i k a) = .inl (cond (((jf done [a]).length : Int) == (n : Int)) (jf L [jf done [a]], []) (L, jf done [a])) := by
 obtain ⟨hpk, hpb, hun⟩ := Pz ha
 have hb : Id (2 :: (i : Int) :: (k : Int) :: Yd a) := Rc (by omega) (Rc (by omega) (Rc (by omega) hpb))
 have hl7 : (2 :: (i : Int) :: (k : Int) :: Yd a).length ≤ 7 := by rw [hpk]; simp
 have hS := Ch hb hl7
 have hE := Oo hl7
 generalize hx : 16 * a.1 + a.2.2.2.1 = x0 at hpk
 generalize hy : a.2.1 = x1 at hpk
 generalize hw : a.2.2.1 = x2 at hpk
 generalize hc : Nm (2 :: (i : Int) :: (k : Int) :: Yd a) = c at hE
 have hE' : Gw i k a = [2, (i : Int), (k : Int), x0, x1, x2, 0, c] := by
  unfold Gw
  rw [hE, hpk]
  rfl
 have hP : Wd [2, (i : Int), (k : Int), x0, x1, x2, 0, c] = true := by rw [← hE']; exact hS.1
 have hq : Tb [2, (i : Int), (k : Int), x0, x1, x2, 0, c] 3 6 = Yd a := by rw [hpk]; rfl
 have hbad : Pt (L, done) [2, (i : Int), (k : Int), x0, x1, x2, 0, c] = false := by
  unfold Pt
  rw [hP]
  show cond (!true) true (cond ((2 : Int) != 2) true (cond (j6 .i64 (i : Int) != (L.length : Int)) true (cond (j6 .i64 (k : Int) != (done.length : Int)) true false))) = false
  rw [Mb (by omega) (by omega), Mb (by omega) (by omega), hi, hk]
  simp
 rw [hE']
 unfold Ye
 rw [hbad, hq, hun]
 rfl
theorem XD {n : Nat} {i : Nat} (hi4 : i ≤ 255) (hn : n ≤ 255) {L : List (List Aa)} (hL : L.length = i) : ∀ (rest : List Aa) (k : Nat) (done : List Aa) (j : Nat), rest ≠ [] → done.length = k → (done ++ rest).length = n → (∀ a ∈ rest, Ib a = true) →
 Kd (fun _ s x => Ye (n : Int) s x) j ((L, done) : Pl) (Wm i k rest) = .inl (L ++ [done ++ rest], [])
 | [], _, _, _, h, _, _, _ => absurd rfl h
 | a :: rest, k, done, j, _, hd, hl, ha => by
  have hl' : done.length + (rest.length + 1) = n := by simpa using hl
  simp only [Wm, Kd]
  rw [VL hL hd hi4 (by omega) (ha a (by simp))]
  cases hr : rest with
  | nil =>
   have : ((jf done [a]).length : Int) == (n : Int) := by
    subst hr
    simp only [List.append_eq, qf, jx, j8] at hl' ⊢
    simp; omega
   rw [this]
   simp [Wm, Kd]
  | cons b rest' =>
   have : (((jf done [a]).length : Int) == (n : Int)) = false := by
    rw [hr] at hl'
    simp only [List.append_eq, qf, jx, j8] at hl' ⊢
    simp; omega
   rw [this]
   simp only [cond_false]
   rw [← hr]
   have := XD hi4 hn hL rest (k + 1) (done ++ [a]) (j + 1) (by rw [hr]; simp) (by simp [hd]) (by simp; omega) (fun x hx => ha x (by simp [hx]))
   refine this.trans ?_
   simp
theorem IA {α S R : Type} (g : S → α → S ⊕ R) : ∀ (l : List α) (k j : Nat) (s : S), Kd (fun _ s x => g s x) k s l = Kd (fun _ s x => g s x) j s l
 | [], _, _, _ => rfl
 | x :: l, k, j, s => by
  simp only [Kd]
  cases g s x with
  | inl s' => exact IA g l (k + 1) (j + 1) s'
  | inr r => rfl
theorem Yx {α S R : Type} (g : S → α → S ⊕ R) : ∀ (l l2 : List α) (k j : Nat) (s s' : S), Kd (fun _ s x => g s x) k s l = .inl s' → Kd (fun _ s x => g s x) k s (l ++ l2) = Kd (fun _ s x => g s x) j s' l2
 | [], l2, k, j, s, s', h => by
  simp only [Kd, Sum.inl.injEq] at h
  subst h
  exact IA g l2 k j s
 | x :: l, l2, k, j, s, s', h => by
  simp only [Kd, List.cons_append] at h ⊢
  cases hx : g s x with
  | inl s1 => rw [hx] at h; exact Yx g l l2 (k + 1) j s1 s' h
  | inr r => rw [hx] at h; simp at h
theorem KC {n : Nat} (hn1 : 1 ≤ n) (hn : n ≤ 255) : ∀ (rows L : List (List Aa)) (j : Nat), L.length + rows.length ≤ 255 → (∀ r ∈ rows, r.length = n ∧ ∀ a ∈ r, Ib a = true) →
 Kd (fun _ s x => Ye (n : Int) s x) j ((L, []) : Pl) (Ek L.length rows) = .inl (L ++ rows, [])
 | [], L, j, _, _ => by simp [Ek, Kd]
 | row :: rows, L, j, hl, h => by
  simp only [jx] at hl
  have hr := h row (by simp)
  have hne : row ≠ [] := by intro e; rw [e] at hr; simp at hr; omega
  have h1 := XD (n := n) (i := L.length) (by omega) hn rfl row 0 [] j hne rfl (by simpa using hr.1) hr.2
  simp only [Ek]
  rw [Yx (fun s x => Ye (n : Int) s x) _ _ j (j + 1) _ _ h1]
  have := KC hn1 hn rows (L ++ [row]) (j + 1) (by simp; omega) (fun r hr => h r (by simp [hr]))
  rw [show (L ++ [row]).length = L.length + 1 by simp] at this
  simp only [List.nil_append]
  rw [this]
  simp
theorem Gr {l : List (List Int)} (hn : l.length ≤ 1000) (h : ∀ x ∈ l, Id x ∧ x.length ≤ 8) : Yl (.sl (.sl Zf)) l ∧ Ac (.sl (.sl Zf)) l ≤ Db := by
 have hmx : Qf = 9223372036854775807 := rfl
 have h20 : Db = 1048576 := rfl
 refine ⟨⟨by omega, fun i hi => ?_⟩, ?_⟩
 ·have hx := h _ (qm hi)
  refine ⟨by have := hx.2; show (l[i]).length ≤ _; omega, fun j hj => ?_⟩
  exact hx.1 _ (qm hj)
 ·have := QH (e := .sl Zf) (c := 8) (w := l) fun x hx => by rw [XF]; exact (h x hx).2
  omega
theorem Lv {x y z : Int} (hx : 0 ≤ x ∧ x ≤ 255) (hy : 0 ≤ y ∧ y ≤ 255) (hz : 0 ≤ z ∧ z ≤ 255) : Id [x, y, z] := fun q hq => by simp only [jq, List.not_mem_nil, or_false] at hq; rcases hq with rfl | rfl | rfl <;> assumption
theorem FD {c : Qa} (h : Df c) : ∃ (c' : Qa) (a : Aa), Un c = some (c', (a, ())) ∧ Df c' := by
 obtain ⟨c1, a, e1, h1, _⟩ := OA h 4 (by omega) (by omega)
 obtain ⟨c2, x, e2, h2, b2⟩ := Ee h1 12 (by omega)
 unfold Un
 rw [e1]
 simp only [jb, e2]
 cases x == 0 with
 | true =>
  obtain ⟨c3, y, e3, h3, b3⟩ := Ee h2 13 (by omega)
  simp only [cond_true, e3, jb]
  exact ⟨_, _, rfl, h3⟩
 | false =>
  simp only [cond_false]
  cases x == 1 with
  | true =>
   obtain ⟨c3, y, e3, h3, _⟩ := Ur h2 [(-1 : Int), (0 : Int), (56 : Int), (57 : Int)] (by simp) (by simp)
   simp only [cond_true, e3, jb]
   exact ⟨_, _, rfl, h3⟩
  | false =>
   simp only [cond_false]
   cases x == 2 with
   | true =>
    obtain ⟨c3, y, e3, h3, _⟩ := Ur h2 [(-1 : Int), (0 : Int), (15 : Int), (16 : Int)] (by simp) (by simp)
    simp only [cond_true, e3, jb]
    exact ⟨_, _, rfl, h3⟩
   | false =>
    simp only [cond_false]
    cases x == 3 with
    | true =>
     obtain ⟨c3, y, e3, h3, _⟩ := Ur h2 [(-1 : Int), (0 : Int), (3 : Int), (4 : Int)] (by simp) (by simp)
     simp only [cond_true, e3, jb]
     exact ⟨_, _, rfl, h3⟩
    | false => exact ⟨_, _, rfl, h2⟩
theorem VK {c : Qa} (h : Df c) : ∃ (c' : Qa) (m : Ca), Wp c = some (c', (m, ())) ∧ Df c' ∧ m.2.1.length ≤ 6 ∧ -1 ≤ m.1 ∧ m.1 ≤ 33 := by
 obtain ⟨c1, k, e1, h1, b1⟩ := Ee h 4 (by omega)
 obtain ⟨k, rfl⟩ := jw b1.1
 have hw : j6 .i64 ((1 : Int) + (k : Int)) = ((k + 1 : Nat) : Int) := by rw [Mb (by omega) (by omega)]; omega
 obtain ⟨c2, m, e2, h2, hm, hmk⟩ := PA h1 (keys := k + 1) (by omega) (by omega)
 have hm' := hm
 unfold Ua at hm'
 simp only [jd, decide_eq_true_eq] at hm'
 obtain ⟨⟨hk', hL⟩, hall⟩ := hm'
 have hM := We hm
 obtain ⟨c3, i, e3, h3, b3⟩ := Ee h2 ((ja m.2.1 : Nat) : Int) (by omega)
 obtain ⟨i, rfl⟩ := jw b3.1
 obtain ⟨c4, y, e4, h4, b4⟩ := Ee h3 16 (by omega)
 have hi : i < m.2.1.length := by omega
 have h0 : 0 < m.2.1.length := by omega
 have hri := hM.row i hi
 have hr0 := hM.row 0 h0
 unfold Wp
 rw [e1]
 simp only [jb, hw, e2, e3, e4]
 have i1 : Ed (ja m.2.1) (i : Int) = true := by rw [Lg, Ja hi]
 have i2 : m.2.1[jz (i : Int)]? = some m.2.1[i] := by rw [jo]; exact je hi
 have i3 : Ed (ja m.2.1) (0 : Int) = true := by
  show Ed (ja m.2.1) ((0 : Nat) : Int) = true
  rw [Lg, Ja h0]
 have i4 : m.2.1[jz (0 : Int)]? = some m.2.1[0] := je h0
 have j1 : ∀ j (hj : j < m.2.1.length), Ed (ja m.2.1[j]) (0 : Int) = true ∧ ∃ x, m.2.1[j][jz (0 : Int)]? = some x := fun j hj => by
  have := hM.row j hj
  have hp : 0 < m.2.1[j].length := by omega
  refine ⟨?_, _, je hp⟩
  show Ed (ja m.2.1[j]) ((0 : Nat) : Int) = true
  rw [Lg, Ja hp]
 obtain ⟨ji, xi, jxi⟩ := j1 i hi
 obtain ⟨j0, x0, jx0⟩ := j1 0 h0
 cases y == 0 with
 | true =>
  obtain ⟨c5, p, e5, h5, hp⟩ := Ur h4 [(0 : Int), (-1 : Int), (3 : Int), (33 : Int)] (by simp) (by simp)
  have hp' : p = 0 ∨ p = -1 ∨ p = 3 ∨ p = 33 := by simpa using hp
  simp only [cond_true, e5, jb]
  exact ⟨_, _, rfl, h5, by show m.2.1.length ≤ 6; omega, by show -1 ≤ p; omega, by show p ≤ 33; omega⟩
 | false =>
 simp only [cond_false]
 cases y == 1 with
 | true =>
  obtain ⟨c5, a, e5, h5⟩ := FD h4
  rw [i1, i2]
  simp only [cond_true, e5, jb]
  rw [ji, jxi]
  exact ⟨_, _, rfl, h5, by show (j7 m.2.1 _ _).length ≤ 6; rw [j9]; omega, by show -1 ≤ m.1; omega, by show m.1 ≤ 33; omega⟩
 | false =>
 simp only [cond_false]
 cases y == 2 with
 | true =>
  rw [i1, i2]
  simp only [cond_true, jb]
  rw [show Jc (ja m.2.1[i]) (1 : Int) ((ja m.2.1[i] : Nat) : Int) = true from Hj (lo := 1) (by omega) (jp _)]
  simp only [cond_true]
  exact ⟨_, _, rfl, h4, by show (j7 m.2.1 _ _).length ≤ 6; rw [j9]; omega, by show -1 ≤ m.1; omega, by show m.1 ≤ 33; omega⟩
 | false =>
 simp only [cond_false]
 cases y == 3 with
 | true =>
  rw [i3, i4]
  simp only [cond_true, jb]
  rw [j0, jx0]
  exact ⟨_, _, rfl, h4, by show (j7 m.2.1 _ _).length ≤ 6; rw [j9]; omega, by show -1 ≤ m.1; omega, by show m.1 ≤ 33; omega⟩
 | false =>
 simp only [cond_false]
 cases y == 4 with
 | true =>
  rw [i3, i4]
  simp only [cond_true, jb]
  rw [Bf (by simp; omega)]
  exact ⟨_, _, rfl, h4, by show (jf m.2.1 _).length ≤ 6; rw [List.append_eq, qf]; simp; omega, by show -1 ≤ m.1; omega, by show m.1 ≤ 33; omega⟩
 | false =>
 simp only [cond_false]
 cases y == 5 with
 | true =>
  rw [show Jc (ja m.2.1) (0 : Int) (i : Int) = true from Hj (lo := 0) (by omega) (by omega)]
  exact ⟨_, _, rfl, h4, by show (Tb m.2.1 _ _).length ≤ 6; unfold Tb; rw [qp, qq]; omega, by show -1 ≤ m.1; omega, by show m.1 ≤ 33; omega⟩
 | false => exact ⟨_, _, rfl, h4, by omega, by omega, by omega⟩
def ZL (x : Option (Qa × ((List Int) × Unit))) : Prop := ∃ (c' : Qa) (b : List Int), x = some (c', (b, ())) ∧ Yl (.sl Zf) b
theorem NJ {b : List Int} (h : Id b) (hl : b.length ≤ 8) : Yl (.sl Zf) b := by
 have hmx : Qf = 9223372036854775807 := rfl
 exact ⟨by omega, fun j hj => h _ (qm hj)⟩
theorem Np {c : Qa} (hc : Df c) {X : List Int} (hb : Id X) (h7 : X.length ≤ 7) :
 ZL (j4 (Ab X) fun r4 => (cond (decide (((ja r4.1 : Nat) : Int) > (0 : Int)))
  (j4 (Pe c (12 : Int)) fun r5 =>
  (cond r5.2.1
  (j4 (Na r5.1 ((ja r4.1 : Nat) : Int)) fun r6 =>
  (j4 (Qd r6.1) fun r7 =>
  (cond (Ed (ja r4.1) r6.2.1)
  (j4 r4.1[(jz r6.2.1)]? fun x8 =>
  (some (r7.1, ((j7 r4.1 (jz r6.2.1) (j5 .u8 r7.2.1)), ()))))
  none)))
  (some (r5.1, (r4.1, ())))))
  (some (c, (r4.1, ()))))) := by
 obtain ⟨_, hl, hS⟩ := Ch hb h7
 rw [Nd]
 simp only [jb]
 generalize Bd X = p at hl hS
 rw [Ja (show ((ja p : Nat) : Int) > 0 by omega)]
 obtain ⟨c1, b, e1, h1⟩ := Nz hc 12 (by omega)
 rw [e1]
 simp only [jb, cond_true]
 cases b with
 | false => exact ⟨_, _, rfl, NJ hS (by omega)⟩
 | true =>
  obtain ⟨c2, i, e2, h2, b2⟩ := Ee h1 ((ja p : Nat) : Int) (by omega)
  obtain ⟨i, rfl⟩ := jw b2.1
  obtain ⟨c3, y, e3, h3, b3⟩ := Yp h2
  rw [e2]
  simp only [jb, cond_true, e3]
  rw [Lg, Ja (show i < p.length by omega), jo, je (show i < p.length by omega)]
  refine ⟨_, _, rfl, NJ (fun x hx => ?_) (by rw [j9]; omega)⟩
  rcases List.mem_or_eq_of_mem_set hx with hx | hx
  ·exact hS x hx
  ·rw [hx, Yn b3.1 b3.2]; exact b3
theorem YG {c : Qa} (h : Df c) : ∃ (c' : Qa) (l : List Int), Rn c 7 = some (c', (l, ())) ∧ Df c' ∧ Id l ∧ l.length ≤ 7 := by
 obtain ⟨c1, x1, e1, hc1, b1⟩ := Ee h 8 (by omega)
 obtain ⟨x, rfl⟩ := jw b1.1
 unfold Rn
 rw [show j6 .i64 ((7 : Int) + 1) = 8 from Mb (by omega) (by omega), e1]
 simp only [jb]
 have step := Hp (s := fun x : ((Unit × (List Int × (Int × Unit))) × (Qa × Unit)) => Zm x.1.1 x.1.2.1 x.1.2.2.1 x.2.1)
  (fun z y => ∃ (c' : Qa) (l : List Int), y = (((), l, (z : Int), ()), (c', ())) ∧ Df c' ∧ Id l ∧ l.length + z ≤ 7)
  (fun r => ∃ (c' : Qa) (l : List Int), r = .inl (((), l, ()), (c', ())) ∧ Df c' ∧ Id l ∧ l.length ≤ 7) (by
  rintro z y ⟨c', l, rfl, hc', hb, hl⟩
  simp only [Zm]
  by_cases h1 : (z : Int) > 0
  ·rw [Ja h1]
   obtain ⟨c3, y, e3, hc3, by3⟩ := Yp hc'
   have hw : j6 .i64 ((z : Int) - 1) = ((z - 1 : Nat) : Int) := by rw [Mb (by omega) (by omega)]; omega
   rw [e3]
   simp only [cond_true, jb]
   rw [hw, Yn by3.1 by3.2, Bf (by simp; omega)]
   refine .inr ⟨_, z - 1, by omega, rfl, c3, _, rfl, hc3, fun q hq => ?_, ?_⟩
   ·rcases jm.1 (show q ∈ l ++ [y] from hq) with h | h
    ·exact hb q h
    ·simp at h; subst h; exact by3
   ·rw [List.append_eq, qf]; simp; omega
  ·rw [Ka h1]
   exact .inl ⟨_, rfl, c', l, rfl, hc', hb, by omega⟩) x (((), ([] : List Int), (x : Int), ()), (c1, ())) ⟨c1, [], rfl, hc1, fun q hq => by simp at hq, by simp; omega⟩
 obtain ⟨r, e, c', l, rfl, hc', hb, hl⟩ := step
 unfold Kk
 erw [e]
 exact ⟨c', l, rfl, hc', hb, hl⟩
def UG (p : Int → Bool) : Nat → List Int
 | 0 => []
 | n + 1 => cond (p ((n + 1 : Nat) : Int)) (UG p n ++ [((n + 1 : Nat) : Int)]) (UG p n)
def KR (s : Int) (D : List Ti) : Int := Kc (fun _ s (p : Ti) => Du .i64 s p.2.1) 0 s D
def SH (b : Jg) (D : List Ti) : Jg := (KR b.1 D, UG (fun c => b.2.1.any (fun y => y == c) || D.any (fun p => p.1 == c)) 56, ())

noncomputable def rM (L : List Td) (x : Cg) : Int := Pr (CD x.2.1 x.2.2.1) 0 L
noncomputable def LR (b : Jg) (L : List Td) (x : Cg) : List Jg :=
 cond (x.1 == 0) [SH b ((jf L [HI x]).map PD), SH b (L.map PD)] [SH b ((XK x L (rM L x)).map PD)]
noncomputable def mG (b : Jg) (s : List Jg × List Td) (x : Cg) : List Jg × List Td := (jf s.1 (LR b s.2 x), XK x s.2 (rM s.2 x))
noncomputable def PQ (b : Jg) (l : List Cg) : List Jg := (Kc (fun _ s x => mG b s x) 0 ([], []) l).1
structure EW (l : List Cg) (k : Nat) (s : List Jg × List Td) : Prop where
 ok : ∃ L', Kd (fun _ L x => OQ L x) k s.2 (l.drop k) = .inl L'
 len : s.2.length ≤ k
 out : s.1.length ≤ 2 * k
 cod : ∀ h ∈ s.2, 0 ≤ h.2.1.2.1 ∧ h.2.1.2.1 ≤ 56
theorem Ea {n m : Nat} (h : n ≤ 1000) (hm : m ≤ 10) : jy (n + m) Ge = true := jk (by rw [MQ]; omega)

def FF (f : Int) (l : List Td) : Int := Kc (fun _ s (h : Td) => cond (h.2.1.1 == 3) (Du .i64 s (Pw .i64 1 h.2.1.2.2.2.1)) s) 0 (Du .i64 1 f) l

structure YL (e : Bk) : Prop where
 km : Ua e.1 = true
 m4 : e.2.1.length ≤ 4
 hd : DF e.2.2.2.1 = true
 mac : ∀ x ∈ e.2.1, UK x = true
 hin : ∀ x ∈ e.2.2.2.1, FN e.1.1 e.1.2.1.length x = true
 st : IP e.1.2.1.length e.2.2.1 e.2.2.2.2.1
noncomputable def WQ (e : Bk) (k : Nat) (b : Bool) : Aa :=
 cond b (GN (WB e.1.2.1 (HD e.1 (FF e.2.2.1 e.2.2.2.1) k) k)) (TJ (WB e.1.2.1 (HD e.1 (FF e.2.2.1 e.2.2.2.1) k) k))
noncomputable def XA (e : Bk) (k : Nat) (b : Bool) : Int × Int × Bool × Aa := YQ e.2.2.1 e.2.2.2.2.1 e.2.2.2.2.2.1 (WQ e k b)
noncomputable def pH (e : Bk) (k : Nat) (b : Bool) : List Td := jf e.2.2.2.1 [((k : Int), (XA e k b).2.2.2, ())]
noncomputable def pE (e : Bk) (k : Nat) (b : Bool) : Bk := (e.1, e.2.1, (XA e k b).1, pH e k b, (XA e k b).2.1, (XA e k b).2.2.1, ())
noncomputable def pM (e : Bk) (k : Nat) (b : Bool) : List Jg :=
 cond ((XA e k b).2.2.2.1 == 9) (cond (decide ((XA e k b).2.2.2.2.2.2.1 < ((ja e.2.1 : Nat) : Int))) (PQ (TN (pH e k b)) (e.2.1.getD (XA e k b).2.2.2.2.2.2.1.toNat [])) []) []
structure WV (e : Bk) (k : Nat) (b : Bool) : Prop where
 act : AO e.1.2.1.length (WQ e k b)
 ah : AO e.1.2.1.length (XA e k b).2.2.2
 hd : DF (pH e k b) = true
 ok : YL (pE e k b)
 ml : (pM e k b).length ≤ 16
 mx : ∀ x ∈ pM e k b, x.2.1.length ≤ 56



def UT (l : List Td) (j : Nat) : Bool := l.any (fun h => h.1 == (j : Int))
structure HP (l : List Td) (m : Nat) : Prop where
 lt : m < 2 ^ 63
 bit : ∀ j, m.testBit j = UT l j
structure GW (d : Cw) : Prop where
 eng : YL d.1
 len : d.2.2.1.length ≤ 64
 key : ∀ x ∈ d.2.2.1, x.2.1 < d.1.1.1
 fol : ∃ (m : Nat) (t : Int), HP d.1.2.2.2.1 m ∧ PR (Kd (fun _ s x => TT s x) 0 (t, (m : Int)) d.2.2.1) = true
def RP (e : Bk) (k : Int) : Nat := (Pr (fun h : Td => h.1 == k) 0 e.2.2.2.1).toNat
structure RV (d : Cw) (x : Zl) (r : List Zl) : Prop where
 ev : ZC x = true
 key : x.2.1 < d.1.1.1
 up : x.2.2.1 = false → ∃ hi : RP d.1 x.2.1 < d.1.2.2.2.1.length, Pr (fun h : Td => h.1 == x.2.1) 0 d.1.2.2.2.1 = ((RP d.1 x.2.1 : Nat) : Int) ∧ (d.1.2.2.2.1[RP d.1 x.2.1]'hi).1 = x.2.1
 down : x.2.2.1 = true → ∀ y ∈ d.1.2.2.2.1, y.1 ≠ x.2.1



def XJ (p : List Int) : Bool := Kf (fun _ w => decide (0 ≤ w ∧ w ≤ 65535)) 0 p
def RM (p : List Int) (e : Int) : Bool := ((p.length : Int) == 19) && decide (0 ≤ e ∧ e ≤ 1000) && XJ p
def AD (f : Cd) : Bool := match f.1, f.2.1 with
 | [p, q], [d, e] => RM p d && RM q e
 | _, _ => false
def NM (h : Int) : Bool := decide (1 ≤ h ∧ h ≤ 60000)
def VM (h0 h1 : Int) : Int := cond (NM h1) (cond (NM h0) (cond (decide (h1 > h0)) 1 0) 1) (cond (NM h0) 0 (-1))
def Vi (f : Cd) : Int := cond (AD f) (match f.1 with
 | [h0 :: _, h1 :: _] => VM h0 h1
 | _ => -1) (-1)
def Ns (s v : Int) : Bool := decide (0 ≤ s ∧ s ≤ 3 ∧ 0 ≤ v ∧ v ≤ 9999)
def CI (s v h : Int) : Int := cond (Ns s v && NM h) ((7 * s + 13 * v + 31 * h + 5).tmod 60000) 65535
def wd (w : List Int) (n : Nat) : Int := w.getD n 0
def QQ (s : Int) (w : List Int) (i : Nat) : Bool :=
 Ns (wd w (1 + 3 * i)) (wd w (2 + 3 * i)) && (wd w (1 + 3 * i) == s) && (wd w (3 + 3 * i) == CI (wd w (1 + 3 * i)) (wd w (2 + 3 * i)) (wd w 0))
def SD (s : Int) (w : List Int) : Nat → Option Int
 | 0 => none
 | n + 1 => cond (QQ s w n) (some (wd w (2 + 3 * n))) (SD s w n)
def Zs (f : Cd) (s : Int) : Option Int := cond (decide (Vi f < 0)) none (SD s ((f.1.getD (Vi f).toNat [])) 6)
def VQ (o : Option Int) : Int × Bool := match o with
 | some v => (v, true)
 | none => (0, false)
structure TM (f : Cd) : Prop where
 l1 : f.1.length = 2
 l2 : f.2.1.length = 2
 pg : ∀ i (h1 : i < f.1.length) (h2 : i < f.2.1.length), f.1[i].length = 19 ∧ 0 ≤ f.2.1[i] ∧ f.2.1[i] ≤ 1000 ∧ XJ f.1[i] = true
def zF : Cd := ([], [], ())
def Vw (o : Yf) : Nat := o.2.1.toNat
def XV (f : Cd) (o : Yf) : Bool :=
 AD f && (decide (0 ≤ o.2.1 ∧ o.2.1 ≤ 1) && cond o.1 (decide (o.2.2.1 = 0 ∧ o.2.2.2.1 = 0 ∧ f.2.1.getD (Vw o) 0 < 1000))
  (decide (0 ≤ o.2.2.1 ∧ o.2.2.1 ≤ 18 ∧ 0 ≤ o.2.2.2.1 ∧ o.2.2.2.1 ≤ 65534 ∧ (f.1.getD (Vw o) []).getD o.2.2.1.toNat 0 = 65535)))
def YV (f : Cd) (o : Yf) : Cd :=
 cond o.1 (f.1.set (Vw o) (List.replicate 19 65535), f.2.1.set (Vw o) (f.2.1.getD (Vw o) 0 + 1), ())
  (f.1.set (Vw o) ((f.1.getD (Vw o) []).set o.2.2.1.toNat o.2.2.2.1), f.2.1, ())

def ND (f : Cd) (ops : List Yf) : Cd ⊕ Unit := Kd (fun _ s o => cond (XV s o) (.inl (YV s o)) (.inr ())) 0 f ops
def XT (r : Cd ⊕ Unit) : Cd × Bool × Unit := r.elim (fun g => (g, true, ())) (fun _ => (zF, false, ()))
def XQ (page : Int) (at' : Nat) (s v h : Int) : List Yf :=
 [(false, page, ((1 + 3 * at' : Nat) : Int), s, ()), (false, page, ((2 + 3 * at' : Nat) : Int), v, ()), (false, page, ((3 + 3 * at' : Nat) : Int), CI s v h, ())]
def CN (w : List Int) (n : Nat) : Bool := (wd w (3 * n + 1) == 65535) && ((wd w (3 * n + 2) == 65535) && (wd w (3 * n + 3) == 65535))
def Mw (w : List Int) : Nat → Nat
 | 0 => 0
 | n + 1 => cond (CN w n) (Mw w n) (n + 1)
def NV (f : Cd) (s v : Int) (k : Nat) : Option Int := cond ((k : Int) == s) (some v) (Zs f (k : Int))
def ZT (f : Cd) (s v page h : Int) (k : Nat) (st : List Yf × Nat) : List Yf × Nat := match NV f s v k with
 | some x => (jf st.1 (XQ page st.2 (k : Int) x h), st.2 + 1)
 | none => st
def OP (page : Int) : Yf := (true, page, 0, 0, ())
def KN (f : Cd) (s v page h : Int) : List Yf × Nat := Hk (ZT f s v page h) 4 ([OP page], 0)
def ER (page h : Int) : Yf := (false, page, 0, h, ())
def OF (f : Cd) : List Int := f.1.getD (Vi f).toNat []
def CE (f : Cd) (s v : Int) : List Yf × Bool :=
 cond (decide (Vi f < 0)) ([], false) (cond (!Ns s v) ([], false)
  (cond (decide (Mw (OF f) 6 < 6)) (XQ (Vi f) (Mw (OF f) 6) s v (wd (OF f) 0), true)
   (cond (decide (wd (OF f) 0 ≥ 60000)) ([], false) (cond (decide (f.2.1.getD (1 - Vi f).toNat 0 ≥ 1000)) ([], false)
    (jf (KN f s v (1 - Vi f) (wd (OF f) 0 + 1)).1 [ER (1 - Vi f) (wd (OF f) 0 + 1)], true)))))
def YT (f : Cd) (P : Int) : List Int := f.1.getD P.toNat []
def MV (t : Cg) : Bool := decide (1 ≤ t.1 ∧ t.1 ≤ 1000 ∧ 0 ≤ t.2.1 ∧ t.2.1 ≤ 1000 ∧ 0 ≤ t.2.2.1 ∧ t.2.2.1 ≤ 2)
abbrev CM : Type := List Yf × Cd
def NR (k : Nat) (st : CM) (x : Int) : CM ⊕ Unit :=
 cond ((VQ (Zs st.2 (k : Int))).2 && ((VQ (Zs st.2 (k : Int))).1 == x)) (.inl st)
  (cond (CE st.2 (k : Int) x).2 (.inl (jf st.1 (CE st.2 (k : Int) x).1, (XT (ND st.2 (CE st.2 (k : Int) x).1)).1)) (.inr ()))
def BR (t : Cg) : List Int := [t.1, t.2.1, t.2.2.1]
def MH (f : Cd) (t : Cg) : List Yf × Bool := cond (!MV t) ([], false) (cond (decide (Vi f < 0)) ([], false) ((Kd NR 0 (([], f) : CM) (BR t)).elim (fun st => (st.1, true)) (fun _ => ([], false))))
def ST (f : Cd) (P : Int) : Int := f.2.1.getD P.toNat 0
def VT (f : Cd) (P : Int) : Int := wd (YT f P) 0
def QR (P : Int) : Prop := P = 0 ∨ P = 1
structure Mx (f : Cd) (c : Int) : Prop where
 ok : TM f
 pg : QR (Vi f)
 hd : VT f (Vi f) ≤ c + 1
 er : ∀ P, QR P → ST f P ≤ c
structure HW (f g : Cd) (s v c : Int) (whole : Bool) : Prop where
 good : Mx g (c + 1)
 rd : ∀ σ : Int, 0 ≤ σ ∧ σ ≤ 3 → Zs g σ = cond (whole && (σ == s)) (some v) (Zs f σ)
def GG (f : Cd) (t : Cg) (j : Nat) (g : Cd) : Prop := ∀ σ : Nat, σ ≤ 3 → Zs g (σ : Int) = if σ < j then some ((BR t).getD σ 0) else Zs f (σ : Int)
structure CW (f : Cd) (t : Cg) (c : Int) (k : Nat) (st : CM) : Prop where
 run : ND f st.1 = .inl st.2
 good : Mx st.2 (c + k)
 prog : GG f t k st.2
 cut : ∀ n, ∃ (x : Cd) (j : Nat), ND f (st.1.take n) = .inl x ∧ Mx x (c + k) ∧ j ≤ k ∧ GG f t j x
structure DW (f : Cd) (t : Cg) (c : Int) (g : Cd) : Prop where
 ok : (MH f t).2 = true
 run : ND f (MH f t).1 = .inl g
 good : Mx g (c + 3)
 prog : GG f t 3 g
 cut : ∀ n, ∃ (x : Cd) (j : Nat), ND f ((MH f t).1.take n) = .inl x ∧ Mx x (c + 3) ∧ j ≤ 3 ∧ GG f t j x

theorem AI {a : List Int} (h : a.length ≤ Db) : Mo a = some (false, ()) := by
 have h20 : Db = 1048576 := rfl
 unfold Mo
 rw [Ka (by omega)]
theorem KK {a : List Int} (h : ¬ a.length ≤ Db) : Mo a = some (true, ()) := by
 have h20 : Db = 1048576 := rfl
 unfold Mo
 rw [Ja (by omega)]
theorem IC {α : Type} (l : List α) (k : Nat) : Kf (fun _ (_ : α) => true) k l = true := Ve.2 fun _ _ => rfl
theorem KB (x : Aa) : Cn Hb x x = true := by simp [Cn]
theorem RE (m : Ca) (i : Nat) (hi : i < m.2.1.length) (hl : m.2.1[i].length ≤ Db) :
 Nh (((), (), (i : Int), (0 : Int), ()), (m, m, ())) = some (.inl (((), (), (i : Int), ()), (m, m, ()))) := by
 have h20 : Db = 1048576 := rfl
 have hl := Hn (step := fun x : ((Unit × (Unit × Ti)) × (Ca × (Ca × Unit))) => Qj x.1.1 x.1.2.1 x.1.2.2.1 x.1.2.2.2.1 x.2.1 x.2.2.1) m.2.1[i] (fun _ _ => true) (fun j => (((), (), (i : Int), j, ()), (m, m, ()))) (.inl (((), (), (i : Int), ()), (m, m, ()))) (.inr ((false, ()), ())) (by
  intro k hk
  simp only [Qj]
  rw [Ae hi]
  simp only [jb]
  rw [Ja (show (k : Int) < ((ja m.2.1[i] : Nat) : Int) by omega), Ae hk]
  simp only [cond_true, jb, KB]; rfl) (by
  simp only [Qj]
  rw [Ae hi]
  simp only [jb]
  rw [Ka (by omega)]; rfl) (by omega)
 unfold Nh
 erw [hl]
 rw [IC]; rfl
theorem BE (m : Ca) (hn : m.2.1.length ≤ Db) (hr : ∀ x ∈ m.2.1, x.length ≤ Db) : Ig m m = some (true, ()) := by
 have h20 : Db = 1048576 := rfl
 have hl := Hn (step := fun x : ((Unit × (Unit × (Int × Unit))) × (Ca × (Ca × Unit))) => Pj x.1.1 x.1.2.1 x.1.2.2.1 x.2.1 x.2.2.1) m.2.1 (fun _ _ => true) (fun j => (((), (), j, ()), (m, m, ()))) (.inl ((), ())) (.inr ((false, ()), ())) (by
  intro k hk
  simp only [Pj]
  rw [Ja (show (k : Int) < ((ja m.2.1 : Nat) : Int) by omega), Ae hk, RE m k hk (hr _ (qm hk))]
  simp) (by
  simp only [Pj]
  rw [Ka (by omega)]; rfl) (by omega)
 unfold Ig Ik
 erw [hl]
 rw [IC]
 simp
theorem ED {c : Qa} (hc : Df c) {m : Ca} (hl : m.2.1.length ≤ 6) (hk : -1 ≤ m.1 ∧ m.1 ≤ 33) : ZL (Nl c m) := by
 obtain ⟨c1, i, e1, h1, b1⟩ := Ee hc (((ja m.2.1 : Nat) : Int) + 1) (by omega)
 obtain ⟨c2, k, e2, h2, b2⟩ := Ee h1 (max 1 (m.1 + 1)) (by omega)
 obtain ⟨c3, y, e3, h3, b3⟩ := Ee h2 7 (by omega)
 unfold Nl
 rw [Mb (n := ((ja m.2.1 : Nat) : Int) + 1) (by omega) (by omega), Mb (n := m.1 + 1) (by omega) (by omega), e1]
 simp only [jb, e2, e3]
 rw [Yn (n := i) (by omega) (by omega), Yn (n := k) (by omega) (by omega)]
 have hb2 : Id [2, i, k] := Lv (by omega) (by omega) (by omega)
 cases y == 0 with
 | true => exact Np h3 (fun x hx => by simp at hx; omega) (by simp)
 | false =>
 cases y == 1 with
 | true => exact Np h3 hb2 (by simp)
 | false =>
 cases y == 2 with
 | true => exact Np h3 hb2 (by simp)
 | false =>
 cases y == 3 with
 | true =>
  obtain ⟨c4, l, e4, h4, hb, hl7⟩ := YG h3
  simp only [cond_true, cond_false, e4, jb]
  exact Np h4 hb hl7
 | false =>
  obtain ⟨c4, a, e4, h4⟩ := FD h3
  have hpl := Yk a
  simp only [cond_true, cond_false, e4, jb, Bi]
  rw [Bf (by simp only [jx, j8]; omega)]
  exact Np h4 (fun x hx => by
   rcases jm.1 (show x ∈ [3, i, k] ++ Yd a from hx) with hx | hx
   ·simp at hx; omega
   ·exact Tp a x hx) (by rw [List.append_eq, qf]; simp; omega)
theorem IB {a : List Int} (hn : a.length ≤ Db) : ∃ (m : Ca) (b : List Int), Mg a = some (m, b, ()) ∧ Yl (.sl Zf) b := by
 obtain ⟨h, e⟩ := HJ a hn
 have hc : Df (a, 0, h, ()) := ⟨Int.le_refl _, by show (0 : Int) ≤ _; omega, hn⟩
 obtain ⟨c1, m, e1, h1, hl, hk⟩ := VK hc
 obtain ⟨c2, b, e2, hb⟩ := ED h1 hl hk
 unfold Mg
 rw [e]
 simp only [jb, e1, e2]
 exact ⟨m, b, rfl, hb⟩
theorem KH {m : Ca} (hv : Ua m = true) : Ig m m = some (true, ()) := by
 have h20 : Db = 1048576 := rfl
 have hm := We hv
 have := hm.l2
 have := hm.k2
 refine BE m (by omega) fun x hx => ?_
 obtain ⟨i, hi, rfl⟩ := qn hx
 have := hm.row i hi
 omega
theorem GD (a : List Int) : Ak a = some (true, ()) := by
 have h20 : Db = 1048576 := rfl
 by_cases hn : a.length ≤ Db
 case neg =>
  unfold Ak
  rw [KK hn]
  rfl
 obtain ⟨m, em, hv, hmk⟩ := JB a 140 (keys := 3) hn (by omega) (by omega)
 have hm := We hv
 have hl2 := hm.l2
 have hmk : m.1 = 3 := hmk
 have hrow : ∀ j (hj : j < m.2.1.length), m.2.1[j].length = 3 := fun j hj => by have := hm.row j hj; omega
 have hz : Ac Oa m ≤ Db := by have := Lo hv; omega
 unfold Ak
 rw [AI hn]
 simp only [jb, cond_false]
 rw [show Zh a 140 3 = some (m, ()) from em]
 simp only [jb]
 have hL := (Rj (step := fun x : (((List Int) × (Unit × (Unit × (Int × Unit)))) × (Ca × (Ca × Unit))) => Ri x.1.1 x.1.2.1 x.1.2.2.1 x.1.2.2.2.1 x.2.1 x.2.2.1) m.2.1 (fun _ (o : List (List Aa)) _ => jf o [List.replicate 3 ((0 : Int), (0 : Int), (0 : Int), (0 : Int), ())])
  (fun o i => ((a, (), (), i, ()), (m, (m.1, o, ()), ()))) (fun o => .inl ((a, (), (), ()), (m, (m.1, o, ()), ()))) (fun k o => o.length = k) (by
   intro k hk o ho
   refine ⟨?_, by simp [ho]⟩
   simp only [Ri]
   rw [Ja (by omega), show (m.1 == m.1) = true from by simp, Ja (show (0 : Int) ≤ m.1 by omega), Ja (show m.1 ≤ ((Ge : Nat) : Int) by have : Ge = 1073741824 := rfl; omega), show jz m.1 = 3 by omega, Bf (by simp; omega)]
   rfl) (by
   intro o ho
   simp only [Ri]
   rw [Ka (by omega)]; rfl) (by omega) [] rfl).1
 have hf : ∀ (ys : List (List Aa)) (j : Nat) (o : List (List Aa)), Kc (fun _ (o : List (List Aa)) _ => jf o [List.replicate 3 ((0 : Int), (0 : Int), (0 : Int), (0 : Int), ())]) j o ys = o ++ ys.map (fun _ => List.replicate 3 ((0 : Int), (0 : Int), (0 : Int), (0 : Int), ())) := by
  intro ys
  induction ys with
  | nil => intro j o; simp [Kc]
  | cons y ys ih => intro j o; rw [Kc, ih]; simp
 rw [hf] at hL
 unfold Oj
 erw [hL]
 simp only [jb, qk, List.nil_append]
 generalize hzr : m.2.1.map (fun _ => List.replicate 3 ((0 : Int), (0 : Int), (0 : Int), (0 : Int), ())) = zr
 have hzl : zr.length = m.2.1.length := by rw [← hzr]; simp
 have hzrow : ∀ j (h : j < zr.length), zr[j] = List.replicate 3 ((0 : Int), (0 : Int), (0 : Int), (0 : Int), ()) := by
  intro j h
  simp only [← hzr, List.getElem_map]
 have hv0 := hv
 unfold Ua at hv0
 simp only [jd, decide_eq_true_eq] at hv0
 obtain ⟨⟨hk', hLn⟩, hall⟩ := hv0
 have hza : Ib ((0 : Int), (0 : Int), (0 : Int), (0 : Int), ()) = true := by
  rw [Cb]; show Za 0 0 0 0; unfold Za; omega
 have hk0 : Ua ((m.1, zr, ()) : Ca) = true := by
  unfold Ua
  simp only [jd, decide_eq_true_eq]
  refine ⟨⟨hk', by omega⟩, ?_⟩
  rw [Ve]
  intro j hj
  rw [hzrow j hj]
  unfold Fd
  rw [jd]
  refine ⟨by rw [hmk]; rfl, ?_⟩
  rw [Ve]
  intro q hq
  rw [List.getElem_replicate]
  unfold Xd
  rw [hza]
  show (true && !((((0 + j : Nat) : Int) == 0) && ((0 : Int) == 1)) && !(((0 : Int) != 9) && decide ((0 : Int) ≥ ((zr.length : Nat) : Int)))) = true
  rw [Ka (show ¬ (0 : Int) ≥ ((zr.length : Nat) : Int) by omega)]
  simp
 have hz0 : Ac Oa ((m.1, zr, ()) : Ca) ≤ Db := by have := Lo hk0; omega
 have hsum : (m.2.1.map ja).sum = 3 * m.2.1.length := by
  have : m.2.1.map ja = List.replicate m.2.1.length 3 := by
   refine List.ext_getElem (by simp) fun j h1 h2 => ?_
   rw [List.getElem_map, List.getElem_replicate]
   exact hrow j (by simpa using h1)
  rw [this]; simp; omega
 obtain ⟨s', o', w1, w2, w3, w4, w5⟩ := CA m.2.1 zr [] ((m.1, zr, ()) : Ca) [] rfl hzl (fun j h1 h2 => by rw [hzrow j h2, hrow j h1]; simp) hk0 (fun j hj x hx => by
  have h1 := Ve.1 hall j hj
  rw [jt] at h1
  unfold Fd at h1
  rw [jd] at h1
  obtain ⟨q, hq, rfl⟩ := qn hx
  have h2 := Ve.1 h1.2 q hq
  show Xd zr.length (0 + j) _ = true
  rw [hzl, jt]
  exact h2)
 have hs' : s' = m := by
  obtain ⟨k, r, u⟩ := s'
  obtain ⟨k', r', u'⟩ := m
  simp only [List.nil_append] at w2 w3
  subst w2; subst w3
  rfl
 subst hs'
 have hWl : ∀ (rows : List (List Aa)) (i : Nat), (Qm i rows).length = (rows.map ja).sum := by
  have hr : ∀ (row : List Aa) (i k : Nat), (Xm i k row).length = row.length := by
   intro row
   induction row with
   | nil => intro i k; rfl
   | cons x row ih => intro i k; simp [Xm, ih]
  intro rows
  induction rows with
  | nil => intro i; rfl
  | cons row rows ih => intro i; simp only [Qm, qf, List.map_cons, List.sum_cons]; rw [hr, ih]
 have hWb : ∀ (rows : List (List Aa)) (i : Nat), ∀ x ∈ Qm i rows, ∃ j k q, x = Tg j k q := by
  have hr : ∀ (row : List Aa) (i k : Nat), ∀ x ∈ Xm i k row, ∃ j k q, x = Tg j k q := by
   intro row
   induction row with
   | nil => intro i k x hx; simp [Xm] at hx
   | cons y row ih =>
    intro i k x hx
    rcases jq.1 (show x ∈ Tg i k y :: Xm i (k + 1) row from hx) with rfl | hx
    ·exact ⟨_, _, _, rfl⟩
    ·exact ih i (k + 1) x hx
  intro rows
  induction rows with
  | nil => intro i x hx; simp [Qm] at hx
  | cons row rows ih =>
   intro i x hx
   rcases jm.1 (show x ∈ Xm i 0 row ++ Qm (i + 1) rows from hx) with hx | hx
   ·exact hr row i 0 x hx
   ·exact ih (i + 1) x hx
 have u8 : ∀ z : Int, 0 ≤ j6 .u8 z ∧ j6 .u8 z ≤ 255 := fun z => by
  show 0 ≤ z % 256 ∧ z % 256 ≤ 255
  omega
 have hwp : ∀ j k q, Id (Tg j k q) ∧ (Tg j k q).length ≤ 8 := fun j k q => by
  have hpl := Yk q
  have h := Ch (a := jf [3, j6 .u8 (j : Int), j6 .u8 (k : Int)] (Yd q)) (fun x hx => by
   rcases jm.1 (show x ∈ [3, j6 .u8 (j : Int), j6 .u8 (k : Int)] ++ Yd q from hx) with hx | hx
   ·simp only [jq, List.not_mem_nil, or_false] at hx
    rcases hx with rfl | rfl | rfl
    ·omega
    ·exact u8 _
    ·exact u8 _
   ·exact Tp q x hx) (by rw [List.append_eq, qf]; simp; omega)
  exact ⟨h.2.2, by unfold Tg; rw [h.2.1]; omega⟩
 have hrp : ∀ j k, Id (Si j k) ∧ (Si j k).length ≤ 8 := fun j k => by
  have h := Ch (a := [2, j6 .u8 (j : Int), j6 .u8 (k : Int)]) (Lv (by omega) (u8 _) (u8 _)) (by simp)
  exact ⟨h.2.2, by unfold Si; rw [h.2.1]; omega⟩
 obtain ⟨rw1, rw2⟩ := Gr (l := Qm 0 s'.2.1) (by rw [hWl, hsum]; omega) (fun x hx => by obtain ⟨j, k, q, rfl⟩ := hWb _ _ x hx; exact hwp j k q)
 have eW := Ms hv
 erw [eW]
 simp only [jb]
 have eP := En ((s'.1, zr, ()) : Ca) (Qm 0 s'.2.1) rw1 hz0 rw2
 have hply : Bj (((s'.1, zr, ()) : Ca), []) (Qm 0 s'.2.1) = (s', o') := w1
 rw [hply] at eP
 erw [eP]
 simp only [jb]
 have eR : Wh s'.1 ((ja s'.2.1 : Nat) : Int) = some (Fi 0 s'.2.1, ()) := by
  rw [Cu]
  unfold UD
  rw [Ja (show 1 ≤ s'.1 ∧ s'.1 ≤ 32 ∧ (1 : Int) ≤ ((ja s'.2.1 : Nat) : Int) ∧ ((ja s'.2.1 : Nat) : Int) ≤ 4 by omega), show s'.1.toNat = 3 by omega, jo]
  simp only [cond_true]
  rw [YA hrow _ (jp _), List.take_length]
 rw [eR]
 simp only [jb]
 have hRl : ∀ (rows : List (List Aa)) (i : Nat), (Fi i rows).length = (rows.map ja).sum ∧ ∀ x ∈ Fi i rows, ∃ j k, x = Si j k := by
  have hr : ∀ (row : List Aa) (i k : Nat), (Tl i k row).length = row.length ∧ ∀ x ∈ Tl i k row, ∃ j k, x = Si j k := by
   intro row
   induction row with
   | nil => intro i k; exact ⟨rfl, fun x hx => by simp [Tl] at hx⟩
   | cons y row ih =>
    intro i k
    refine ⟨by simp [Tl, (ih i (k + 1)).1], fun x hx => ?_⟩
    rcases jq.1 (show x ∈ Si i k :: Tl i (k + 1) row from hx) with rfl | hx
    ·exact ⟨_, _, rfl⟩
    ·exact (ih i (k + 1)).2 x hx
  intro rows
  induction rows with
  | nil => intro i; exact ⟨rfl, fun x hx => by simp [Fi] at hx⟩
  | cons row rows ih =>
   intro i
   refine ⟨?_, fun x hx => ?_⟩
   ·simp only [Fi, qf, List.map_cons, List.sum_cons]; rw [(hr row i 0).1, (ih (i + 1)).1]
   ·rcases jm.1 (show x ∈ Tl i 0 row ++ Fi (i + 1) rows from hx) with hx | hx
    ·exact (hr row i 0).2 x hx
    ·exact (ih (i + 1)).2 x hx
 obtain ⟨rr1, rr2⟩ := Gr (l := Fi 0 s'.2.1) (by rw [(hRl _ _).1, hsum]; omega) (fun x hx => by obtain ⟨j, k, rfl⟩ := (hRl _ _).2 x hx; exact hrp j k)
 have eP2 := En s' (Fi 0 s'.2.1) rr1 hz rr2
 have hply2 : Bj (s', []) (Fi 0 s'.2.1) = (s', [] ++ Ek 0 s'.2.1) := LC hv s'.2.1 [] [] rfl
 rw [hply2] at eP2
 rw [eP2]
 simp only [jb, List.nil_append]
 have hact : ∀ r ∈ s'.2.1, r.length = 3 ∧ ∀ x ∈ r, Ib x = true := by
  intro r hr
  obtain ⟨j, hj, rfl⟩ := qn hr
  refine ⟨hrow j hj, fun x hx => ?_⟩
  have h1 := Ve.1 hall j hj
  unfold Fd at h1
  rw [jd] at h1
  obtain ⟨q, hq, rfl⟩ := qn hx
  exact Hu (Ve.1 h1.2 q hq)
 have hAl : ∀ (rows : List (List Aa)) (i : Nat), (∀ r ∈ rows, r.length = 3 ∧ ∀ x ∈ r, Ib x = true) → i + rows.length ≤ 100 → (Ek i rows).length = (rows.map ja).sum ∧ ∀ x ∈ Ek i rows, Id x ∧ x.length ≤ 8 := by
  have hr : ∀ (row : List Aa) (i k : Nat), i ≤ 100 → k + row.length ≤ 100 → (∀ x ∈ row, Ib x = true) → (Wm i k row).length = row.length ∧ ∀ x ∈ Wm i k row, Id x ∧ x.length ≤ 8 := by
   intro row
   induction row with
   | nil => intro i k _ _ _; exact ⟨rfl, fun x hx => by simp [Wm] at hx⟩
   | cons y row ih =>
    intro i k hi hk hx
    simp only [jx] at hk
    have ih' := ih i (k + 1) hi (by omega) (fun x h => hx x (by simp [h]))
    refine ⟨by simp [Wm, ih'.1], fun x h => ?_⟩
    rcases jq.1 (show x ∈ Gw i k y :: Wm i (k + 1) row from h) with rfl | h
    ·have hpl := Yk y
     have hs := Ch (a := 2 :: (i : Int) :: (k : Int) :: Yd y) (Rc (by omega) (Rc (by omega) (Rc (by omega) (Tp y)))) (by simp only [jx]; omega)
     exact ⟨hs.2.2, by unfold Gw; rw [hs.2.1]; omega⟩
    ·exact ih'.2 x h
  intro rows
  induction rows with
  | nil => intro i _ _; exact ⟨rfl, fun x hx => by simp [Ek] at hx⟩
  | cons row rows ih =>
   intro i hx hi
   simp only [jx] at hi
   have h3 := hx row (by simp)
   have a1 := hr row i 0 (by omega) (by omega) h3.2
   have a2 := ih (i + 1) (fun r h => hx r (by simp [h])) (by omega)
   refine ⟨?_, fun x h => ?_⟩
   ·simp only [Ek, qf, List.map_cons, List.sum_cons]; rw [a1.1, a2.1]
   ·rcases jm.1 (show x ∈ Wm i 0 row ++ Ek (i + 1) rows from h) with h | h
    ·exact a1.2 x h
    ·exact a2.2 x h
 have hA := hAl s'.2.1 0 hact (by omega)
 obtain ⟨ra1, ra2⟩ := Gr (l := Ek 0 s'.2.1) (by rw [hA.1, hsum]; omega) hA.2
 have hfrom := KC (n := 3) (by omega) (by omega) s'.2.1 [] 0 (by simp; omega) hact
 obtain ⟨m2, b2, f1, f2, _⟩ := Nx s'.1 (Ek 0 s'.2.1) (by
  show IntKind.has .i64 s'.1
  rw [hmk]
  show (-9223372036854775808 : Int) ≤ 3 ∧ (3 : Int) < 9223372036854775808
  omega) ra1 ra2
 have hloop := Pn s'.1 (Ek 0 s'.2.1) (by rw [hA.1, hsum]; omega)
 have hmk' : s'.1 = ((3 : Nat) : Int) := hmk
 have hfrom' : Kd (fun _ s x => Ye s'.1 s x) 0 (([], []) : Pl) (Ek 0 s'.2.1) = .inl (s'.2.1, []) := by
  rw [hmk']; exact hfrom
 rw [hfrom'] at hloop
 have f3 : Ok s'.1 (Ek 0 s'.2.1) = some (s', true, ()) := by
  unfold Ok
  erw [hloop]
  have hI := Le s' hz
  rw [hv] at hI
  simp only [qk, jb]
  rw [Ka (show ¬ ((ja ([] : List Aa) : Nat) : Int) > 0 by simp)]
  simp only [cond_false]
  erw [hI]
  rfl
 rw [f3] at f1
 simp only [jc, jh] at f1
 obtain ⟨rfl, rfl, _⟩ := f1
 erw [f2]
 have hsame := KH hv
 simp only [jb]
 erw [hsame]
 simp only [jb, jg, cond_false]
 rw [show (((ja o' : Nat) : Int) != j6 .i64 (s'.1 * ((ja s'.2.1 : Nat) : Int))) = false from by
  rw [w5, hsum, hmk, Mb (by omega) (by omega)]
  simp]
 simp only [cond_false]
 obtain ⟨md, b, ed, hb⟩ := IB hn
 rw [ed]
 simp only [jb]
 obtain ⟨m', X, ea, hXb, hX7, hv', hor⟩ := WM hv hz hb
 have hans := (Bz hb hz).2.1
 rw [Az ea] at hans
 erw [hans]
 obtain ⟨hp1, hp2, _⟩ := Ch hXb hX7
 have hz' : Ac Oa m' ≤ Db := by have := Lo hv'; omega
 simp only [jb]
 rw [Sm, hp1]
 simp only [jb, cond_true]
 rw [Ag _ hz', hv']
 simp only [jb, cond_true]
 rw [show Ed (ja (Bd X)) (0 : Int) = true from by rw [hp2]; rfl]
 have hget : (Bd X)[jz (0 : Int)]? = some (Bd X)[0] := je (by omega)
 rw [hget]
 simp only [jb, cond_true]
 rcases hor with ⟨r, hX⟩ | rfl
 ·have : (Bd X)[0] = 3 := by
   have h := Oo hX7
   subst hX
   simp only [h]
   rfl
  rw [this]
  rfl
 ·cases (Bd X)[0] == 3 with
  | true => rfl
  | false =>
   simp only [cond_false]
   erw [hsame]
   rfl
end KF
