/- An evaluator of Go functions on plain data, its soundness, and plain laws on what the functions compute, part 4 (conditions: as each lemma tells). -/
import Derived.Test.YtkddlfhcedaggaaC
set_option linter.unusedSimpArgs false
set_option linter.unusedVariables false
namespace KF
open Go
open List renaming length → ja, getElem?_eq_getElem → je, append → jf, mem_append → jl, mem_cons → jp, mem_cons_of_mem → jr, length_cons → jw, set → j6, length_nil → j7, length_set → j8, mem_singleton → qc, length_append → qd, getElem?_append_left → qf, getElem?_append_right → qg, getD_eq_getElem?_getD → qh, getElem_mem → qn, mem_of_mem_drop → qo, getElem_of_mem → qp, mem_map → qq, length_drop → qr, mem_cons_self → qt
open Option renaming bind_some → jb, bind → jz, map_some → qb, bind_eq_some_iff → qe
open Option.some renaming injEq → jc
open Bool renaming and_eq_true → jd, not_true → jg, true_and → jk, false_eq_true → jq, not_eq_true → j9, eq_iff_iff → qs
open Prod.mk renaming injEq → jh
open Nat renaming ble_eq_true_of_le → ji, mul_le_mul_right → jm, le_refl → jo, zero_add → js, add_assoc → jt, eq_of_beq_eq_true → ju, ble → jx, le_trans → qa, lt_of_lt_of_le → qj, pow_le_pow_right → qk, testBit_two_pow → ql, xor_lt_two_pow → qm
open Int renaming toNat_natCast → jn, eq_ofNat_of_zero_le → jv, toNat → jy
open Go.IntKind renaming wrap → j4, wrap → j5
open Sum renaming elim_inl → qi
open Result renaming andThen_ok → qu
open Sem renaming run_bind → qv
theorem Fu {n i : Nat} {a : Aa} (h : Vq (n : Int) a) : Kc n i a = true := by
 obtain ⟨h1, h2, h3⟩ := h
 unfold Kc
 rw [h1]
 have e1 : (a.1 == 1) = false := by simp; exact h2
 rw [e1]
 rcases h3 with h | h
 ·simp [h]
 ·simp; exact .inr h
theorem MM {n i : Nat} (hi : 0 < i) (hn : 1 ≤ n) : Kc n i ((1 : Int), (0 : Int), (0 : Int), (0 : Int), ()) = true := by
 unfold Kc
 have : Yb ((1 : Int), (0 : Int), (0 : Int), (0 : Int), ()) = true := (Jb _).2 (by simp [Lb])
 rw [this]
 have hi' : ((i : Int) == 0) = false := by simp; omega
 rw [hi']
 simp; omega
theorem ZD {α : Type} {p : Nat → α → Bool} {xs : List α} {x : α} (h : Xd p 0 xs = true) (hx : p xs.length x = true) : Xd p 0 (xs ++ [x]) = true := by
 rw [Hf] at h ⊢
 intro j hj
 rw [qd, List.length_singleton] at hj
 rw [List.getElem_append]
 split
 ·rename_i h1; exact h j h1
 ·have : j = xs.length := by omega
  subst this
  simpa using hx
theorem RR {c : Db} (hc : Wh c) {keys n i : Nat} (hk : keys ≤ 32) (hn : 1 ≤ n) (hn4 : n ≤ 4) (b4 b6 : Ha) :
 ∃ (c' : Db) (row : List Aa), Ym (((), (keys : Int), (), (n : Int), (), (i : Int), ([] : List Aa), (0 : Int), ()), (c, b4, b6, ())) = some (.inl (((), (keys : Int), (), (n : Int), (), (i : Int), row, ()), (c', b4, b6, ()))) ∧
  Wh c' ∧ row.length = keys ∧ Xd (fun _ a => Kc n i a) 0 row = true := by
 have hlim : Ob = 1073741824 := rfl
 have := Cr (s := fun x : ((Unit × (Int × (Unit × (Int × (Unit × (Int × ((List Aa) × (Int × Unit)))))))) × (Db × (Ha × (Ha × Unit)))) => Rp x.1.1 x.1.2.1 x.1.2.2.1 x.1.2.2.2.1 x.1.2.2.2.2.1 x.1.2.2.2.2.2.1 x.1.2.2.2.2.2.2.1 x.1.2.2.2.2.2.2.2.1 x.2.1 x.2.2.1 x.2.2.2.1)
  (fun m x => ∃ (c' : Db) (row : List Aa) (k : Nat), x = (((), (keys : Int), (), (n : Int), (), (i : Int), row, (k : Int), ()), (c', b4, b6, ())) ∧ m + k = keys ∧ row.length = k ∧ Wh c' ∧ Xd (fun _ a => Kc n i a) 0 row = true)
  (fun r => ∃ (c' : Db) (row : List Aa), r = .inl (((), (keys : Int), (), (n : Int), (), (i : Int), row, ()), (c', b4, b6, ())) ∧ Wh c' ∧ row.length = keys ∧ Xd (fun _ a => Kc n i a) 0 row = true) (by
  rintro m x ⟨c', row, k, rfl, hm, hl, hc', hr⟩
  simp only [Rp]
  by_cases h1 : (k : Int) < (keys : Int)
  ·rw [Ja h1]
   obtain ⟨c1, a, e1, hc1, ha⟩ := AO hc' (n : Int) (by omega) (by omega)
   rw [e1]
   simp only [cond_true, jb]
   have room : ∀ z : Aa, jx (ja row + ja [z]) Ob = true := fun z => ji (by simp; omega)
   rw [Af (by omega)]
   have Mf : ∀ (z : Aa) (c2 : Db), Kc n i z = true → Wh c2 → ∃ c' row' k', (((), (keys : Int), (), (n : Int), (), (i : Int), jf row [z], ((k + 1 : Nat) : Int), ()), (c2, b4, b6, ())) = (((), (keys : Int), (), (n : Int), (), (i : Int), row', ((k' : Nat) : Int), ()), (c', b4, b6, ())) ∧ (m - 1) + k' = keys ∧ ja row' = k' ∧ Wh c' ∧ Xd (fun _ a => Kc n i a) 0 row' = true :=
    fun z c2 hz h2 => ⟨c2, _, k + 1, rfl, by omega, by simp [hl], h2, ZD hr hz⟩
   by_cases h2 : (i : Int) > 0
   ·rw [Ja h2]
    obtain ⟨c2, b, e2, hc2⟩ := GK hc1 3 (by omega)
    rw [e2]
    simp only [cond_true, jb, room]
    cases b with
    | true => exact .inr ⟨_, m - 1, by omega, rfl, Mf _ _ (MM (by omega) hn) hc2⟩
    | false => exact .inr ⟨_, m - 1, by omega, rfl, Mf _ _ (Fu ha) hc2⟩
   ·rw [La h2]
    simp only [cond_true, cond_false, room]
    exact .inr ⟨_, m - 1, by omega, rfl, Mf _ _ (Fu ha) hc1⟩
  ·rw [La h1]; exact .inl ⟨_, rfl, c', row, rfl, hc', by omega, hr⟩) keys (((), (keys : Int), (), (n : Int), (), (i : Int), ([] : List Aa), ((0 : Nat) : Int), ()), (c, b4, b6, ())) ⟨c, [], 0, rfl, rfl, rfl, hc, rfl⟩
 obtain ⟨r, e, c', row, rfl, h⟩ := this
 exact ⟨c', row, e, h⟩
theorem BO {c : Db} (hc : Wh c) {keys : Nat} (hk1 : 1 ≤ keys) (hk : keys ≤ 32) : ∃ (c' : Db) (m : Ha), Uq c (keys : Int) = some (c', (m, ())) ∧ Wh c' ∧ Zb m = true ∧ m.1 = (keys : Int) := by
 have hlim : Ob = 1073741824 := rfl
 obtain ⟨c1, x1, e1, hc1, b1⟩ := Pk hc 4 (by omega)
 obtain ⟨n0, rfl⟩ := jv b1.1
 obtain ⟨n, hn⟩ : ∃ n : Nat, n = n0 + 1 := ⟨_, rfl⟩
 have hw : j5 .i64 ((1 : Int) + (n0 : Int)) = (n : Int) := by rw [Ae (by omega) (by omega)]; omega
 unfold Uq
 rw [e1]
 simp only [jb, hw]
 have := Cr (s := fun x : ((Unit × (Int × (Unit × (Int × (Unit × (Int × Unit)))))) × (Db × (Ha × (Ha × Unit)))) => Qp x.1.1 x.1.2.1 x.1.2.2.1 x.1.2.2.2.1 x.1.2.2.2.2.1 x.1.2.2.2.2.2.1 x.2.1 x.2.2.1 x.2.2.2.1)
  (fun m x => ∃ (c' : Db) (L : List (List Aa)) (k : Nat), x = (((), (keys : Int), (), (n : Int), (), (k : Int), ()), (c', ((0 : Int), ([] : List (List Aa)), ()), ((keys : Int), L, ()), ())) ∧ m + k = n ∧ L.length = k ∧ Wh c' ∧ Xd (fun i l => Qe (keys : Int) n i l) 0 L = true)
  (fun r => ∃ (c' : Db) (L : List (List Aa)), r = .inl (((), (), (), ()), (c', ((0 : Int), ([] : List (List Aa)), ()), ((keys : Int), L, ()), ())) ∧ Wh c' ∧ L.length = n ∧ Xd (fun i l => Qe (keys : Int) n i l) 0 L = true) (by
  rintro m x ⟨c', L, k, rfl, hm, hl, hc', hr⟩
  simp only [Qp]
  by_cases h1 : (k : Int) < (n : Int)
  ·rw [Ja h1]
   obtain ⟨c2, row, e2, hc2, hrow, hall⟩ := RR hc' (i := k) hk (show 1 ≤ n by omega) (show n ≤ 4 by omega) ((0 : Int), ([] : List (List Aa)), ()) ((keys : Int), L, ())
   erw [e2]
   simp only [cond_true, jb, qi]
   rw [show jx (ja L + ja [row]) Ob = true from ji (by simp; omega), Af (by omega)]
   refine .inr ⟨_, m - 1, by omega, rfl, c2, _, k + 1, rfl, by omega, by simp [hl], hc2, ?_⟩
   refine ZD hr ?_
   unfold Qe
   rw [hl, hall, hrow]
   simp
  ·rw [La h1]; exact .inl ⟨_, rfl, c', L, rfl, hc', by omega, hr⟩) n (((), (keys : Int), (), (n : Int), (), ((0 : Nat) : Int), ()), (c1, ((0 : Int), ([] : List (List Aa)), ()), ((keys : Int), ([] : List (List Aa)), ()), ())) ⟨c1, [], 0, rfl, rfl, rfl, hc1, rfl⟩
 obtain ⟨r, e, c', L, rfl, hc', hL, hall⟩ := this
 unfold Xm
 erw [e]
 refine ⟨c', ((keys : Int), L, ()), rfl, hc', ?_, rfl⟩
 unfold Zb
 simp only [jd, decide_eq_true_eq]
 refine ⟨⟨by omega, by omega⟩, ?_⟩
 show Xd (fun i l => Qe (keys : Int) L.length i l) 0 L = true
 rw [hL]; exact hall
theorem VG {α : Type} {p : Nat → α → Bool} {xs : List α} {i : Nat} {x : α} (h : Xd p 0 xs = true) (hx : p i x = true) : Xd p 0 (j6 xs i x) = true := by
 rw [Hf] at h ⊢
 intro j hj
 rw [j8] at hj
 rw [List.getElem_set]
 split
 ·rename_i e; subst e; simpa using hx
 ·exact h j hj
theorem FJ {keys : Int} {n i : Nat} {l : List Aa} {k : Nat} {a : Aa} (h : Qe keys n i l = true) (ha : Kc n i a = true) : Qe keys n i (j6 l k a) = true := by
 unfold Qe at h ⊢
 rw [jd] at h ⊢
 exact ⟨by rw [j8]; exact h.1, VG h.2 ha⟩
theorem EJ {keys : Int} {n i : Nat} {l : List Aa} (h : Qe keys n i l = true) : (l.length : Int) = keys := by
 unfold Qe at h
 rw [jd] at h
 simpa using h.1
theorem IM {c : Db} (hc : Wh c) {keys : Nat} (hk1 : 1 ≤ keys) (hk : keys ≤ 32) : ∃ (c' : Db) (m : Ha), Pp c (keys : Int) = some (c', (m, ())) ∧ Wh c' ∧ Zb m = true ∧ m.1 = (keys : Int) := by
 obtain ⟨c1, m1, e1, hc1, hm1, hmk⟩ := BO hc hk1 hk
 obtain ⟨c2, x2, e2, hc2, b2⟩ := Pk hc1 6 (by omega)
 obtain ⟨x, rfl⟩ := jv b2.1
 unfold Pp
 rw [e1]
 simp only [jb, e2]
 have step := Cr (s := fun x : ((Unit × (Int × (Unit × (Unit × (Int × Unit))))) × (Db × (Ha × (Ha × Unit)))) => Mo x.1.1 x.1.2.1 x.1.2.2.1 x.1.2.2.2.1 x.1.2.2.2.2.1 x.2.1 x.2.2.1 x.2.2.2.1)
  (fun z y => ∃ (c' : Db) (m : Ha), y = (((), (keys : Int), (), (), (z : Int), ()), (c', ((0 : Int), ([] : List (List Aa)), ()), m, ())) ∧ z ≤ 6 ∧ Wh c' ∧ Zb m = true ∧ m.1 = (keys : Int))
  (fun r => ∃ (c' : Db) (m : Ha), r = .inl (((), (), (), ()), (c', ((0 : Int), ([] : List (List Aa)), ()), m, ())) ∧ Wh c' ∧ Zb m = true ∧ m.1 = (keys : Int)) (by
  rintro z y ⟨c', m, rfl, hz, hc', hm, hmk⟩
  simp only [Mo]
  by_cases h1 : (z : Int) > 0
  ·rw [Ja h1]
   have hm0 := hm
   unfold Zb at hm0
   simp only [jd, decide_eq_true_eq] at hm0
   obtain ⟨⟨hk', hL⟩, hall⟩ := hm0
   obtain ⟨c3, i, e3, hc3, bi⟩ := Pk hc' ((ja m.2.1 : Nat) : Int) (by omega)
   obtain ⟨i, rfl⟩ := jv bi.1
   obtain ⟨c4, k, e4, hc4, bk⟩ := Pk hc3 (keys : Int) (by omega)
   obtain ⟨k, rfl⟩ := jv bk.1
   rw [e3]
   simp only [cond_true, jb, e4]
   have hw : j5 .i64 ((z : Int) - 1) = ((z - 1 : Nat) : Int) := by rw [Ae (by omega) (by omega)]; omega
   rw [hw]
   have hi : i < m.2.1.length := by omega
   by_cases h2 : ((ja m.2.1 : Nat) : Int) > 1
   ·rw [Ja h2, Es, Ja hi, jn, je hi]
    have hrow := Hf.1 hall i hi
    rw [js] at hrow
    have hlen := EJ hrow
    have hkk : k < (m.2.1[i]).length := by omega
    obtain ⟨c5, kd, e5, hc5, hkd⟩ := HV hc4 [(4 : Int), (5 : Int), (3 : Int)] (by simp) (by simp)
    obtain ⟨c6, q, e6, hc6, bq⟩ := Pk hc5 (((ja m.2.1 : Nat) : Int) - 1) (by omega)
    simp only [cond_true, jb, e5]
    rw [Ae (n := ((ja m.2.1 : Nat) : Int) - 1) (by omega) (by omega), e6]
    simp only [jb]
    rw [Es, Ja hkk, jn, je hkk, Ae (n := 1 + q) (by omega) (by omega)]
    simp only [cond_true, jb]
    refine .inr ⟨_, z - 1, by omega, rfl, c6, _, rfl, by omega, hc6, ?_, hmk⟩
    have hd : Vq ((ja m.2.1 : Nat) : Int) (kd, (0 : Int), (0 : Int), 1 + q, ()) := by
     have : kd = 4 ∨ kd = 5 ∨ kd = 3 := by simpa using hkd
     exact Xj (by unfold Lb; omega) (by omega) (by omega)
    show Zb (m.1, j6 m.2.1 i (j6 m.2.1[i] k (kd, (0 : Int), (0 : Int), 1 + q, ())), ()) = true
    unfold Zb
    simp only [jd, decide_eq_true_eq, j8]
    exact ⟨⟨hk', hL⟩, VG hall (FJ hrow (Fu hd))⟩
   ·rw [La h2]
    simp only [cond_false]
    exact .inr ⟨_, z - 1, by omega, rfl, c4, m, rfl, by omega, hc4, hm, hmk⟩
  ·rw [La h1]
   have : z = 0 := by omega
   exact .inl ⟨_, rfl, c', m, rfl, hc', hm, hmk⟩) x (((), (keys : Int), (), (), (x : Int), ()), (c2, ((0 : Int), ([] : List (List Aa)), ()), m1, ())) ⟨c2, m1, rfl, by omega, hc2, hm1, hmk⟩
 obtain ⟨r, e, c', m, rfl, hc', hm, hmk'⟩ := step
 unfold Vl
 erw [e]
 exact ⟨c', m, rfl, hc', hm, hmk'⟩
theorem NF (a : List Int) (p : Int) {keys : Nat} (hn : a.length ≤ Qa) (hk1 : 1 ≤ keys) (hk : keys ≤ 32) : ∃ m : Ha, Bj a p (keys : Int) = some (m, ()) ∧ Zb m = true ∧ m.1 = (keys : Int) := by
 obtain ⟨c, e, hc⟩ := CI a p hn
 obtain ⟨c', m, e1, _, hm, hmk⟩ := IM hc hk1 hk
 unfold Bj
 rw [e]
 simp only [jb, e1]
 exact ⟨m, rfl, hm, hmk⟩
theorem GM {m : Ha} (hm : Eg m) {row : List Aa} (hr : row ∈ m.2.1) : ∃ j, ∀ a ∈ row, Kc m.2.1.length j a = true := by
 obtain ⟨j, hj, rfl⟩ := List.mem_iff_getElem.1 hr
 refine ⟨j, fun a ha => ?_⟩
 obtain ⟨k, hk, rfl⟩ := List.mem_iff_getElem.1 ha
 exact hm.act j hj k hk
def Em : Aa := (1, 0, 0, 0, ())
def RD (u : Int) (i : Nat) (row : List Aa) : List Aa := Ad (fun k r => cond (Yd u (i : Int) == 0) (j6 r k Em) r) row.length row
def UM (u : Int) (i : Nat) (row : List Aa) (k : Nat) : List Aa := Ad (fun k r => cond (Yd u (i : Int) == 0) (j6 r k Em) r) k row
theorem AF (u : Int) (i : Nat) (row : List Aa) : ∀ k, (UM u i row k).length = row.length :=
 Rv (p := fun _ (r : List Aa) => r.length = row.length) rfl (fun k s hs => by cases (Yd u (i : Int) == 0) <;> simpa using hs)
theorem LS (u : Int) (i : Nat) (row : List Aa) : (RD u i row).length = row.length := AF u i row row.length
theorem KV {u : Int} {i : Nat} {row : List Aa} (h : (Yd u (i : Int) == 0) = false) : ∀ k, UM u i row k = row :=
 Rv (p := fun _ r => r = row) rfl (fun k s hs => by rw [h]; exact hs)
def LF : Ha := (0, [], ())
theorem TF (u keys n : Int) (i : Nat) (L : List (List Aa)) (row : List Aa) (hr : row.length ≤ 1048576) :
 Ve (((), (), u, (i : Int), row, (L, (i : Int), row, row), n, (i : Int), (row.length : Int), 0, ()), (LF, (keys, (L, (i : Int), row, row), ()), ())) =
  some (.inl (((), (), u, (L, (i : Int), row, RD u i row), n, (i : Int), ()), (LF, (keys, (L, (i : Int), row, RD u i row), ()), ()))) := by
 unfold Ve
 have := Kz (step := fun x : (Unit × Unit × Int × Int × List Aa × (List (List Aa) × Int × List Aa × List Aa) × Int × Int × Int × Int × Unit) × Ha × (Int × (List (List Aa) × Int × List Aa × List Aa) × Unit) × Unit =>
  Nh x.1.1 x.1.2.1 x.1.2.2.1 x.1.2.2.2.1 x.1.2.2.2.2.1 x.1.2.2.2.2.2.1 x.1.2.2.2.2.2.2.1 x.1.2.2.2.2.2.2.2.1 x.1.2.2.2.2.2.2.2.2.1 x.1.2.2.2.2.2.2.2.2.2.1 x.2.1 x.2.2.1) row.length (by omega)
  (fun k r => cond (Yd u (i : Int) == 0) (j6 r k Em) r) row
  (fun r k => (((), (), u, (i : Int), r, (L, (i : Int), row, r), n, (i : Int), (row.length : Int), k, ()), (LF, (keys, (L, (i : Int), row, r), ()), ())))
  (fun r => .inl (((), (), u, (L, (i : Int), row, r), n, (i : Int), ()), (LF, (keys, (L, (i : Int), row, r), ()), ())))
  (fun k hk => by
   have hl := AF u i row k
   unfold UM at hl
   generalize Ad (fun k r => cond (Yd u (i : Int) == 0) (j6 r k Em) r) k row = r at *
   simp only [Nh]
   rw [Ja (by omega), Rq u (by omega)]
   simp only [cond_true, jb]
   cases (Yd u (i : Int) == 0) with
   | false => rfl
   | true =>
    simp only [cond_true]
    rw [Es, Ja (by omega)]
    simp only [cond_true, jn, je (show k < r.length by omega), jb]
    rfl) (by
   simp only [Nh]
   rw [La (by omega)]
   rfl)
 exact this
def Um (u : Int) (i : Nat) (L : List (List Aa)) : List (List Aa) := j6 L i (RD u i (L.getD i []))
def GB (m : Ha) (L : List (List Aa)) : Prop := L.length = m.2.1.length ∧ ∀ i (hi : i < L.length), (L[i].length : Int) = m.1
theorem Oy {α : Type} {L : List α} {i : Nat} {z : α} (h : i < L.length) : L.getD i z = L[i] := by
 rw [qh, je h]; rfl
theorem UP {m : Ha} {u : Int} {i : Nat} {L : List (List Aa)} (h : GB m L) : GB m (Um u i L) := by
 unfold Um
 refine ⟨by rw [j8]; exact h.1, fun j hj => ?_⟩
 have hj' : j < L.length := by rwa [j8] at hj
 rw [List.getElem_set]
 split
 ·rename_i e
  subst e
  rw [LS, Oy hj']
  exact h.2 _ hj'
 ·exact h.2 j hj'
def Tp (a : Aa) : Nat := a.2.2.2.1.toNat
def Wu (u : Nat) (a : Aa) : Nat := cond (Ug a) (u ||| 2 ^ Tp a) u
def Rh (u i : Nat) (row : List Aa) : Nat := cond (u.testBit i) (row.foldl Wu u) u
def Qr (u : Nat) (L : List (List Aa)) : Nat := Bc (fun i u row => Rh u i row) 0 u L
def Cf (u v : Nat) : Prop := ∀ i, u.testBit i = true → v.testBit i = true
theorem Cf.refl (u : Nat) : Cf u u := fun _ h => h
theorem Cf.trans {u v w : Nat} (h : Cf u v) (h' : Cf v w) : Cf u w := fun i hi => h' i (h i hi)
theorem Cf.anti {u v : Nat} (h : Cf u v) (h' : Cf v u) : u = v := Nat.eq_of_testBit_eq fun i => by
 cases h1 : u.testBit i <;> cases h2 : v.testBit i <;> try rfl
 ·rw [h' i h2] at h1; exact h1.symm
 ·rw [h i h1] at h2; exact h2
theorem IK (u : Nat) (a : Aa) : Cf u (Wu u a) := fun i hi => by
 unfold Wu
 cases Ug a with
 | false => exact hi
 | true => simp only [cond_true, Nat.testBit_or, hi, Bool.true_or]
theorem Dx : ∀ (row : List Aa) (u : Nat), Cf u (row.foldl Wu u)
 | [], u => Cf.refl u
 | a :: row, u => (IK u a).trans (Dx row _)
theorem ZE (u i : Nat) (row : List Aa) : Cf u (Rh u i row) := by
 unfold Rh
 cases u.testBit i with
 | false => exact Cf.refl u
 | true => exact Dx row u
theorem Nt : ∀ (L : List (List Aa)) (k u : Nat), Cf u (Bc (fun i u row => Rh u i row) k u L)
 | [], _, u => Cf.refl u
 | row :: L, k, u => (ZE u k row).trans (Nt L (k + 1) _)
theorem LH : ∀ (row : List Aa) (u : Nat), row.foldl Wu u = u → ∀ a ∈ row, Ug a = true → u.testBit (Tp a) = true
 | [], _, _, a, ha, _ => by simp at ha
 | b :: row, u, h, a, ha, ht => by
  have h1 : Wu u b = u := Cf.anti (by have := Dx row (Wu u b); rw [List.foldl_cons] at h; rw [h] at this; exact this) (IK u b)
  rcases jp.1 ha with rfl | ha
  ·unfold Wu at h1
   rw [ht] at h1
   simp only [cond_true] at h1
   rw [← h1, Nat.testBit_or, ql]
   simp
  ·refine LH row u ?_ a ha ht
   rw [List.foldl_cons, h1] at h
   exact h
theorem DK : ∀ (L : List (List Aa)) (k u : Nat), Bc (fun i u row => Rh u i row) k u L = u → ∀ i (hi : i < L.length), u.testBit (k + i) = true → ∀ a ∈ L[i], Ug a = true → u.testBit (Tp a) = true
 | [], _, _, _, i, hi, _, _, _, _ => by simp at hi
 | row :: L, k, u, h, i, hi, hb, a, ha, ht => by
  have h1 : Rh u k row = u := Cf.anti (by have := Nt L (k + 1) (Rh u k row); rw [Bc] at h; rw [h] at this; exact this) (ZE u k row)
  cases i with
  | zero =>
   rw [Nat.add_zero] at hb
   unfold Rh at h1
   rw [hb] at h1
   exact LH row u h1 a ha ht
  | succ i =>
   refine DK L (k + 1) u ?_ i (by simpa using hi) (by rw [jt, Nat.add_comm 1 i]; exact hb) a ha ht
   rw [Bc, h1] at h
   exact h
def OD (u : Nat) : Nat := (List.range 4).countP fun i => u.testBit i
theorem D0 : ∀ u v : Fin 16, (∀ i : Fin 4, u.val.testBit i.val = true → v.val.testBit i.val = true) → u ≠ v → OD u.val < OD v.val := by decide +kernel
theorem C0 : ∀ n : Fin 5, ∀ u : Fin 16, u.val < 2 ^ n.val → OD u.val ≤ n.val := by decide +kernel
theorem MK {f : Nat → Nat} {n : Nat} (hn : n ≤ 4) (hs : ∀ u, Cf u (f u)) (hb : ∀ u, u < 2 ^ n → f u < 2 ^ n) (h1 : 1 ≤ n) : ∀ j, (Ad (fun _ u => f u) j 1 < 2 ^ n) ∧ (f (Ad (fun _ u => f u) j 1) = Ad (fun _ u => f u) j 1 ∨ j + 1 ≤ OD (Ad (fun _ u => f u) j 1))
 | 0 => ⟨Nat.one_lt_two_pow (by omega), .inr (by show 1 ≤ OD 1; decide)⟩
 | j + 1 => by
  obtain ⟨h2, h3⟩ := MK hn hs hb h1 j
  have e : Ad (fun _ u => f u) (j + 1) 1 = f (Ad (fun _ u => f u) j 1) := rfl
  rw [e]
  refine ⟨hb _ h2, ?_⟩
  by_cases hf : f (Ad (fun _ u => f u) j 1) = Ad (fun _ u => f u) j 1
  ·exact .inl (by rw [hf]; exact hf)
  ·right
   have h4 : j + 1 ≤ OD (Ad (fun _ u => f u) j 1) := h3.resolve_left hf
   have h16 : 2 ^ n ≤ 2 ^ 4 := qk (by omega) hn
   have hb2 := hb _ h2
   have := D0 ⟨Ad (fun _ u => f u) j 1, by omega⟩ ⟨f (Ad (fun _ u => f u) j 1), by omega⟩ (fun i hi => hs _ _ hi) (by intro he; exact hf (congrArg Fin.val he).symm)
   simp only at this
   omega
theorem TM {f : Nat → Nat} {n : Nat} (hn : n ≤ 4) (hs : ∀ u, Cf u (f u)) (hb : ∀ u, u < 2 ^ n → f u < 2 ^ n) (h1 : 1 ≤ n) : f (Ad (fun _ u => f u) n 1) = Ad (fun _ u => f u) n 1 := by
 obtain ⟨h2, h3⟩ := MK hn hs hb h1 n
 rcases h3 with h3 | h3
 ·exact h3
 ·have h16 : 2 ^ n ≤ 2 ^ 4 := qk (by omega) hn
  have := C0 ⟨n, by omega⟩ ⟨Ad (fun _ u => f u) n 1, by omega⟩ h2
  simp only at this
  omega
theorem RV {nl j : Nat} {a : Aa} (h : Kc nl j a = true) (ht : Ug a = true) : a.2.2.2.1 = ((Tp a : Nat) : Int) ∧ Tp a < nl ∧ Tp a < 4 := by
 have := Jy h (by simp only [Ug, Bool.or_eq_true, beq_iff_eq] at ht; omega)
 unfold Tp
 omega
theorem BV {nl j : Nat} (hl : nl ≤ 4) {a : Aa} (h : Kc nl j a = true) {u : Nat} (hu : u < 2 ^ nl) : Tr (u : Int) a = ((Wu u a : Nat) : Int) ∧ Wu u a < 2 ^ nl := by
 unfold Tr Wu
 cases ht : Ug a with
 | false => exact ⟨rfl, hu⟩
 | true =>
  obtain ⟨h1, h2, h3⟩ := RV h ht
  have h16 := SA hl
  have h5 : 2 ^ Tp a < 2 ^ nl := Nat.pow_lt_pow_right (by omega) h2
  simp only [cond_true]
  rw [h1, show (1 : Int) = ((1 : Nat) : Int) from rfl, Qv (by rw [Nat.one_mul]; exact Vu (by omega)) (by omega), Nat.one_shiftLeft, Qy (by omega) (by omega)]
  exact ⟨rfl, Nat.or_lt_two_pow hu h5⟩
theorem ME {nl : Nat} (hl : nl ≤ 4) : ∀ (row : List Aa) {u : Nat}, u < 2 ^ nl → (∀ a ∈ row, ∃ j, Kc nl j a = true) →
 row.foldl Tr (u : Int) = ((row.foldl Wu u : Nat) : Int) ∧ row.foldl Wu u < 2 ^ nl
 | [], u, hu, _ => ⟨rfl, hu⟩
 | a :: row, u, hu, h => by
  obtain ⟨j, hj⟩ := h a (by simp)
  obtain ⟨h1, h2⟩ := BV hl hj hu
  rw [List.foldl_cons, List.foldl_cons, h1]
  exact ME hl row h2 fun x hx => h x (by simp [hx])
theorem MS {nl : Nat} (hl : nl ≤ 4) {row : List Aa} {u i : Nat} (hi : i ≤ 64) (hu : u < 2 ^ nl) (h : ∀ a ∈ row, ∃ j, Kc nl j a = true) :
 Wm (u : Int) i row = ((Rh u i row : Nat) : Int) ∧ Rh u i row < 2 ^ nl := by
 have h16 := SA hl
 unfold Wm Rh
 rw [Yp (by omega) hi]
 cases u.testBit i with
 | false => exact ⟨rfl, hu⟩
 | true => exact ME hl row hu h
theorem TE {nl : Nat} (hl : nl ≤ 4) : ∀ (L : List (List Aa)) (k : Nat) {u : Nat}, k + L.length ≤ 64 → u < 2 ^ nl → (∀ row ∈ L, ∀ a ∈ row, ∃ j, Kc nl j a = true) →
 Bc (fun i u row => Wm u i row) k (u : Int) L = ((Bc (fun i u row => Rh u i row) k u L : Nat) : Int) ∧ Bc (fun i u row => Rh u i row) k u L < 2 ^ nl
 | [], _, u, _, hu, _ => ⟨rfl, hu⟩
 | row :: L, k, u, hk, hu, h => by
  simp only [jw] at hk
  obtain ⟨h1, h2⟩ := MS hl (i := k) (by omega) hu (h row (by simp))
  simp only [Bc]
  rw [h1]
  exact TE hl L (k + 1) (by omega) h2 fun r hr => h r (by simp [hr])
theorem ZY {m : Ha} (hm : Eg m) : ∀ row ∈ m.2.1, ∀ a ∈ row, ∃ j, Kc m.2.1.length j a = true := fun row hr a ha => by
 obtain ⟨j, hj⟩ := GM hm hr
 exact ⟨j, hj a ha⟩
theorem BI {m : Ha} (hm : Eg m) {u : Nat} (hu : u < 2 ^ m.2.1.length) : PA (u : Int) m.2.1 = ((Qr u m.2.1 : Nat) : Int) ∧ Qr u m.2.1 < 2 ^ m.2.1.length :=
 TE hm.l2 m.2.1 0 (by have := hm.l2; omega) hu (ZY hm)
def Yy (L : List (List Aa)) (n : Nat) : Nat := Ad (fun _ u => Qr u L) n 1
def Ke (m : Ha) : Nat := Yy m.2.1 m.2.1.length
theorem XJ {S : Type} (f : S → S) : ∀ (n : Nat) (s : S), Ad (fun _ u => f u) (n + 1) s = Ad (fun _ u => f u) n (f s)
 | 0, _ => rfl
 | n + 1, s => by
  show f (Ad (fun _ u => f u) (n + 1) s) = f (Ad (fun _ u => f u) n (f s))
  rw [XJ f n s]
theorem HF {m : Ha} (hm : Eg m) : ∀ (l : List (List Aa)) (k : Nat) {u : Nat}, u < 2 ^ m.2.1.length →
 Bc (fun _ u (_ : List Aa) => PA u m.2.1) k (u : Int) l = ((Ad (fun _ u => Qr u m.2.1) l.length u : Nat) : Int) ∧ Ad (fun _ u => Qr u m.2.1) l.length u < 2 ^ m.2.1.length
 | [], _, u, hu => ⟨rfl, hu⟩
 | x :: l, k, u, hu => by
  obtain ⟨h1, h2⟩ := BI hm hu
  simp only [Bc, jw]
  rw [h1, XJ]
  exact HF hm l (k + 1) h2
theorem EB {m : Ha} (hm : Eg m) : VC m = ((Ke m : Nat) : Int) ∧ Ke m < 2 ^ m.2.1.length :=
 HF hm m.2.1 0 (u := 1) (Nat.one_lt_two_pow (by have := hm.l1; omega))
theorem JD (L : List (List Aa)) (u : Nat) : Cf u (Qr u L) := Nt L 0 u
theorem AT {m : Ha} (hm : Eg m) : Qr (Ke m) m.2.1 = Ke m :=
 TM (f := fun u => Qr u m.2.1) hm.l2 (fun u => JD _ u) (fun u hu => (BI hm hu).2) hm.l1
theorem VH {f : Nat → Nat} (hs : ∀ u, Cf u (f u)) (u : Nat) : ∀ n, Cf u (Ad (fun _ u => f u) n u)
 | 0 => Cf.refl u
 | n + 1 => (VH hs u n).trans (hs _)
theorem EQ (m : Ha) : (Ke m).testBit 0 = true := VH (f := fun u => Qr u m.2.1) (fun u => JD _ u) 1 _ 0 rfl
theorem MJ {m : Ha} (hm : Eg m) {i : Nat} (hi : i < m.2.1.length) (hb : (Ke m).testBit i = true) {a : Aa} (ha : a ∈ m.2.1[i]) (ht : Ug a = true) : (Ke m).testBit (Tp a) = true :=
 DK m.2.1 0 (Ke m) (AT hm) i hi (by rw [js]; exact hb) a ha ht
theorem Nw {m : Ha} (hv : Zb m = true) (hz : Yc Za m ≤ Qa) : Gg m = some ((m.1, Ad (Um (VC m)) m.2.1.length m.2.1, ()), ()) := by
 have h20 : Qa = 1048576 := rfl
 unfold Gg
 rw [Qm m hz, Jo m hz, Pm m hz, hv]
 have hm := Pe hv
 have hl2 := hm.l2
 have hk2 := hm.k2
 have h0 : GB m m.2.1 := ⟨rfl, hm.row⟩
 have hinv : ∀ n, GB m (Ad (Um (VC m)) n m.2.1) := Rv (p := fun _ L => GB m L) h0 fun k s hs => UP hs
 simp only [jb, jg, cond_false, cond_true]
 generalize VC m = u at *
 have s2 := Kz (step := fun x : (Unit × Unit × Int × List (List Aa) × Int × Int × Unit) × Ha × Ha × Unit => Mh x.1.1 x.1.2.1 x.1.2.2.1 x.1.2.2.2.1 x.1.2.2.2.2.1 x.1.2.2.2.2.2.1 x.2.1 x.2.2.1) m.2.1.length (by omega)
  (Um u) m.2.1 (fun L k => (((), (), u, L, (m.2.1.length : Int), k, ()), (LF, (m.1, L, ()), ()))) (fun L => .inl (((), (), ()), (LF, (m.1, L, ()), ()))) (fun k hk => by
   have hI := hinv k
   generalize Ad (Um u) k m.2.1 = L at *
   have hkL : k < L.length := by rw [hI.1]; exact hk
   have hrow := hI.2 k hkL
   simp only [Mh]
   rw [Ja (by omega), Es, Ja hkL]
   simp only [cond_true, jn, je hkL, jb]
   have := TF u m.1 (m.2.1.length : Int) k L L[k] (by omega)
   rw [show Ve (((), (), u, (k : Int), L[k], (L, (k : Int), L[k], L[k]), (m.2.1.length : Int), (k : Int), (L[k].length : Int), 0, ()), ((LF.1, LF.2.1, ()), (m.1, (L, (k : Int), L[k], L[k]), ()), ())) = _ from this]
   unfold Um
   rw [Oy hkL]
   rfl) (by
   simp only [Mh]
   rw [La (by omega)]
   rfl)
 unfold Ki
 erw [s2]
 rfl
def Zi (u : Nat) : Nat → List (List Aa) → List (List Aa)
 | _, [] => []
 | k, row :: L => cond (u.testBit k) row (row.map fun _ => Em) :: Zi u (k + 1) L
theorem Qi (u : Nat) : ∀ (L : List (List Aa)) (k : Nat), (Zi u k L).length = L.length
 | [], _ => rfl
 | _ :: L, k => by simp only [Zi, jw, Qi u L]
theorem Sy (u : Nat) : ∀ (L : List (List Aa)) (k i : Nat) (hi : i < L.length), (Zi u k L)[i]'(by rw [Qi]; exact hi) = cond (u.testBit (k + i)) L[i] (L[i].map fun _ => Em)
 | row :: L, k, 0, _ => rfl
 | row :: L, k, i + 1, hi => by
  simp only [Zi, List.getElem_cons_succ]
  rw [Sy u L (k + 1) i (by simpa using hi), show k + 1 + i = k + (i + 1) by omega]
theorem GH {α : Type} (z : α) : ∀ (row : List α) (n : Nat), n ≤ row.length → Ad (fun k r => j6 r k z) n row = (row.take n).map (fun _ => z) ++ row.drop n
 | row, 0, _ => by simp [Ad]
 | row, n + 1, h => by
  show j6 (Ad (fun k r => j6 r k z) n row) n z = _
  rw [GH z row n (by omega), List.set_append_right _ _ (by simp; omega), GF (show n < row.length by omega), List.map_append]
  have hd : row.drop n = row[n] :: row.drop (n + 1) := List.drop_eq_getElem_cons (by omega)
  rw [hd]
  have : n - (List.map (fun _ => z) (List.take n row)).length = 0 := by simp; omega
  rw [this, List.set_cons_zero]
  simp
theorem JV {u i : Nat} (hu : u < 16) (hi : i ≤ 64) (row : List Aa) : RD (u : Int) i row = cond (u.testBit i) row (row.map fun _ => Em) := by
 have hb : (Yd (u : Int) (i : Int) == 0) = !(u.testBit i) := by
  rw [← Yp (by omega) hi]
  have := JA (a := u >>> i) (b := 1) (by
   have : u >>> i ≤ u := by rw [Nat.shiftRight_eq_div_pow]; exact Nat.div_le_self _ _
   omega) (by decide)
  have e : Yd (u : Int) (i : Int) = (((u >>> i) &&& 1 : Nat) : Int) := by
   unfold Yd
   rw [OA u hi]
   exact this
  rw [e, Nat.and_one_is_mod]
  have := Nat.mod_two_eq_zero_or_one (u >>> i)
  rcases this with h | h <;> rw [h] <;> rfl
 cases ht : u.testBit i with
 | true =>
  rw [ht] at hb
  exact KV hb _
 | false =>
  rw [ht] at hb
  unfold RD
  rw [hb]
  show Ad (fun k r => j6 r k Em) row.length row = _
  rw [GH Em row row.length (jo _)]
  simp
theorem HC {u : Nat} (hu : u < 16) (L : List (List Aa)) (hl : L.length ≤ 64) : ∀ n, n ≤ L.length → Ad (Um (u : Int)) n L = (Zi u 0 L).take n ++ L.drop n
 | 0, _ => by simp [Ad]
 | n + 1, h => by
  show Um (u : Int) n (Ad (Um (u : Int)) n L) = _
  rw [HC hu L hl n (by omega)]
  have hlen : ((Zi u 0 L).take n).length = n := by rw [List.length_take, Qi]; omega
  have hd : L.drop n = L[n] :: L.drop (n + 1) := List.drop_eq_getElem_cons (by omega)
  have hg : ((Zi u 0 L).take n ++ L.drop n).getD n [] = L[n] := by
   rw [qh, qg (by omega), hlen, Nat.sub_self, hd]
   rfl
  unfold Um
  rw [hg, List.set_append_right _ _ (by omega), hlen, Nat.sub_self, hd, List.set_cons_zero, JV hu (by omega), GF (show n < (Zi u 0 L).length by rw [Qi]; omega), Sy u L 0 n (by omega), js, List.append_assoc]
  rfl
def Sx (u : Nat) (m : Ha) : Ha := (m.1, Zi u 0 m.2.1, ())
theorem Gt {m : Ha} (hv : Zb m = true) (hz : Yc Za m ≤ Qa) : Gg m = some (Sx (Ke m) m, ()) := by
 have hm := Pe hv
 obtain ⟨h1, h2⟩ := EB hm
 have h16 := SA hm.l2
 have hl2 := hm.l2
 rw [Nw hv hz, h1, HC (by omega) _ (by omega) _ (jo _), List.drop_length, List.append_nil, List.take_of_length_le (by rw [Qi]; exact jo _)]
 rfl
theorem GV {nl i : Nat} (hn : 1 ≤ nl) (hi : 1 ≤ i) : Kc nl i Em = true := by
 unfold Kc
 have h1 : Yb Em = true := by
  rw [Jb]; unfold Lb Em; simp
 rw [h1, show ((i : Int) == 0) = false by rw [beq_eq_false_iff_ne]; omega]
 simp only [Em, Bool.false_and, Bool.not_false, jk, Bool.not_eq_true', Bool.and_eq_false_iff, decide_eq_false_iff_not]
 exact .inr (La (by omega))
theorem TP {m : Ha} (hv : Zb m = true) {u : Nat} (h0 : u.testBit 0 = true) : Zb (Sx u m) = true := by
 have hm := Pe hv
 have hl1 := hm.l1
 unfold Zb Sx
 simp only [jd, decide_eq_true_eq, Qi]
 refine ⟨⟨⟨hm.k1, hm.k2⟩, hm.l1, hm.l2⟩, Hf.2 fun i hi => ?_⟩
 have hi' : i < m.2.1.length := by rwa [Qi] at hi
 rw [Sy u m.2.1 0 i hi', js]
 unfold Qe
 cases hb : u.testBit i with
 | true =>
  simp only [cond_true, jd, beq_iff_eq]
  exact ⟨hm.row i hi', Hf.2 fun k hk => hm.act i hi' k hk⟩
 | false =>
  simp only [cond_false, jd, beq_iff_eq, List.length_map]
  refine ⟨hm.row i hi', Hf.2 fun k hk => ?_⟩
  rw [List.getElem_map]
  have hi0 : i ≠ 0 := by
   rintro rfl
   rw [h0] at hb; simp at hb
  exact GV hl1 (by omega)
theorem NP {U : Nat} : ∀ (L : List (List Aa)) (k u : Nat), Cf (Bc (fun i u row => Rh u i row) k u L) U → Bc (fun i u row => Rh u i row) k u (Zi U k L) = Bc (fun i u row => Rh u i row) k u L
 | [], _, _, _ => rfl
 | row :: L, k, u, h => by
  have h1 : Cf u U := (Nt (row :: L) k u).trans h
  have e : Rh u k (cond (U.testBit k) row (row.map fun _ => Em)) = Rh u k row := by
   unfold Rh
   cases hb : u.testBit k with
   | false => rfl
   | true => rw [h1 k hb]; rfl
  simp only [Zi, Bc]
  rw [e]
  exact NP L (k + 1) _ h
theorem PE {f : Nat → Nat} (hs : ∀ u, Cf u (f u)) (u j : Nat) : ∀ d, Cf (Ad (fun _ u => f u) j u) (Ad (fun _ u => f u) (j + d) u)
 | 0 => Cf.refl _
 | d + 1 => (PE hs u j d).trans (hs _)
theorem WK (m : Ha) : Ke (Sx (Ke m) m) = Ke m := by
 show Yy (Zi (Ke m) 0 m.2.1) (Zi (Ke m) 0 m.2.1).length = Ke m
 rw [Qi]
 have key : ∀ n, n ≤ m.2.1.length → Yy (Zi (Ke m) 0 m.2.1) n = Yy m.2.1 n := by
  intro n
  induction n with
  | zero => intro _; rfl
  | succ n ih =>
   intro h
   show Qr (Yy (Zi (Ke m) 0 m.2.1) n) (Zi (Ke m) 0 m.2.1) = Qr (Yy m.2.1 n) m.2.1
   rw [ih (by omega)]
   refine NP m.2.1 0 _ ?_
   have := PE (f := fun u => Qr u m.2.1) (fun u => JD _ u) 1 (n + 1) (m.2.1.length - (n + 1))
   rw [show n + 1 + (m.2.1.length - (n + 1)) = m.2.1.length by omega] at this
   exact this
 exact key _ (jo _)
theorem YE (u : Nat) : ∀ (L : List (List Aa)) (k : Nat), Zi u k (Zi u k L) = Zi u k L
 | [], _ => rfl
 | row :: L, k => by
  simp only [Zi, YE u L]
  cases u.testBit k <;> simp
def Hp (p : Int → Bool) : Nat → List Int
 | 0 => []
 | n + 1 => cond (p ((n + 1 : Nat) : Int)) (Hp p n ++ [((n + 1 : Nat) : Int)]) (Hp p n)
theorem QE (p : Int → Bool) : ∀ n, (Hp p n).length ≤ n
 | 0 => by simp [Hp]
 | n + 1 => by
  have := QE p n
  simp only [Hp]
  cases p ((n + 1 : Nat) : Int) <;> simp <;> omega
theorem Ww (l : List Pa) : ∀ n, Zh l n = Hp (fun c => l.any fun h => h.2.1.2.1 == c) n
 | 0 => rfl
 | n + 1 => by simp only [Zh, Hp, Ww l n]
theorem LA (cs : List Int) (hn : cs.length ≤ Qa) (hx : ∀ c ∈ cs, 0 ≤ c ∧ c ≤ 56) : Ck cs = some (Hp (fun c => cs.any (fun y => y == c)) 56, ()) := by
 have := Rt (cs.map fun c => ((0, (0, c, 0, 0, ()), ()) : Pa)) (by simpa using hn) (fun h hh => by
  obtain ⟨c, hc, rfl⟩ := qq.1 hh
  exact hx c hc)
 rw [List.map_map] at this
 have e : List.map ((fun h : Pa => h.2.1.2.1) ∘ fun c => ((0, (0, c, 0, 0, ()), ()) : Pa)) cs = cs := by
  rw [show ((fun h : Pa => h.2.1.2.1) ∘ fun c => ((0, (0, c, 0, 0, ()), ()) : Pa)) = id from rfl, List.map_id]
 rw [e] at this
 rw [this, Ww]
 congr 3
 funext c
 rw [List.any_map]
 rfl
def ZT (s : Int) (D : List Nb) : Int := Bc (fun _ s (p : Nb) => Td .i64 s p.2.1) 0 s D
def Fw (b : Ga) (D : List Nb) : Ga := (ZT b.1 D, Hp (fun c => b.2.1.any (fun y => y == c) || D.any (fun p => p.1 == c)) 56, ())
theorem Zy (b : Ga) (D : List Nb) (hb : b.2.1.length ≤ 56) (hD : D.length ≤ 1000) (hbx : ∀ c ∈ b.2.1, 0 ≤ c ∧ c ≤ 56) (hDx : ∀ p ∈ D, 0 ≤ p.1 ∧ p.1 ≤ 56) :
 Fd b D = some (Fw b D, ()) := by
 have h20 : Qa = 1048576 := rfl
 have hl := (Ph (step := fun x => Wi x.1.1 x.1.2.1 x.1.2.2.1 x.1.2.2.2.1 x.1.2.2.2.2.1 x.1.2.2.2.2.2.1 x.2.1 x.2.2.1) D
  (fun _ (s : Int × List Int) (p : Nb) => (Td .i64 s.1 p.2.1, jf s.2 [p.1])) (fun s i => (((), (), s.2, D, ((ja D : Nat) : Int), i, ()), (((0 : Int), ([] : List Int), ()), (s.1, ([] : List Int), ()), ())))
  (fun s => .inl (((), (), s.2, ()), (((0 : Int), ([] : List Int), ()), (s.1, ([] : List Int), ()), ()))) (fun k s => s.2.length = b.2.1.length + k) (by
   intro k hk s hs
   refine ⟨?_, by simp [hs]; omega⟩
   simp only [Wi]
   rw [Ja (show (k : Int) < ((ja D : Nat) : Int) by omega), Cd hk]
   simp only [cond_true, jb]
   rw [show jx (ja s.2 + ja ([D[k].1] : List Int)) Ob = true from ji (by simp only [jw, j7, Yi]; omega)]
   rfl)
  (by
   intro s _
   simp only [Wi]
   rw [La (by omega)]; rfl) (by omega) (b.1, b.2.1) (by simp)).1
 have key : ∀ (D : List Nb) (k : Nat) (s : Int × List Int), Bc (fun _ (s : Int × List Int) (p : Nb) => (Td .i64 s.1 p.2.1, jf s.2 [p.1])) k s D =
  (Bc (fun _ s (p : Nb) => Td .i64 s p.2.1) k s.1 D, s.2 ++ D.map fun p => p.1) := by
  intro D
  induction D with
  | nil => intro k s; simp [Bc]
  | cons x D ih => intro k s; simp only [Bc]; rw [ih]; simp
 unfold Fd Ek
 rw [Vs _ (by omega)]
 simp only [jb]
 erw [hl]
 rw [key]
 simp only [jb, qi]
 rw [LA _ (by simp; omega) (fun c hc => by
  rcases jl.1 hc with h | h
  ·exact hbx c h
  ·obtain ⟨p, hp, rfl⟩ := qq.1 h
   exact hDx p hp)]
 simp only [jb, Fw, ZT]
 congr 4
 apply congrArg (fun p => Hp p 56)
 funext c
 rw [List.any_append, List.any_map]
 rfl

noncomputable def rM (L : List Pa) (x : Gd) : Int := Sc (Tn x.2.1 x.2.2.1) 0 L
noncomputable def PC (b : Ga) (L : List Pa) (x : Gd) : List Ga :=
 cond (x.1 == 0) [Fw b ((jf L [Dp x]).map Hc), Fw b (L.map Hc)] [Fw b ((Eu x L (rM L x)).map Hc)]
noncomputable def mG (b : Ga) (s : List Ga × List Pa) (x : Gd) : List Ga × List Pa := (jf s.1 (PC b s.2 x), Eu x s.2 (rM s.2 x))
noncomputable def Ox (b : Ga) (l : List Gd) : List Ga := (Bc (fun _ s x => mG b s x) 0 ([], []) l).1
structure DL (l : List Gd) (k : Nat) (s : List Ga × List Pa) : Prop where
 ok : ∃ L', Pf (fun _ L x => Jp L x) k s.2 (l.drop k) = .inl L'
 len : s.2.length ≤ k
 out : s.1.length ≤ 2 * k
 cod : ∀ h ∈ s.2, 0 ≤ h.2.1.2.1 ∧ h.2.1.2.1 ≤ 56
theorem OR {l : List Gd} {k : Nat} (hk : k < l.length) {b : Ga} {s : List Ga × List Pa} (hi : DL l k s) : Jn l[k] (rM s.2 l[k]) = true ∧ DL l (k + 1) (mG b s l[k]) := by
 obtain ⟨L', hL⟩ := hi.ok
 rw [List.drop_eq_getElem_cons hk] at hL
 simp only [Pf] at hL
 unfold rM
 cases hc : Jn l[k] (Sc (Tn l[k].2.1 l[k].2.2.1) 0 s.2) with
 | false =>
  have : Jp s.2 l[k] = .inr () := by unfold Jp; rw [hc]; rfl
  rw [this] at hL; simp at hL
 | true =>
  have hm : Jp s.2 l[k] = .inl (Eu l[k] s.2 (rM s.2 l[k])) := by unfold Jp rM; rw [hc]; rfl
  rw [hm] at hL
  refine ⟨rfl, ⟨L', hL⟩, ?_, ?_, ?_⟩
  ·have := CK hm
   have := hi.len
   show (Eu l[k] s.2 (rM s.2 l[k])).length ≤ k + 1
   omega
  ·have := hi.out
   show (jf s.1 (PC b s.2 l[k])).length ≤ _
   unfold PC
   cases l[k].1 == 0 <;> simp <;> omega
  ·have hcode : 0 ≤ l[k].2.1 ∧ l[k].2.1 ≤ 56 := by
    simp only [Jn, jd] at hc
    exact Bu hc.1
   intro h hh
   have hh' : h ∈ Eu l[k] s.2 (rM s.2 l[k]) := hh
   unfold Eu at hh'
   cases h1 : l[k].1 == 1 with
   | true =>
    rw [h1] at hh'
    rcases jl.1 (show h ∈ s.2 ++ [Dp l[k]] from hh') with hh' | hh'
    ·exact hi.cod h hh'
    ·simp only [jp, List.not_mem_nil, or_false] at hh'
     rw [hh']; exact hcode
   | false =>
    rw [h1] at hh'
    cases h2 : l[k].1 == 2 with
    | true =>
     rw [h2] at hh'
     have hsub : h ∈ s.2 := by
      have hw : h ∈ Vf s.2 (rM s.2 l[k]).toNat := hh'
      unfold Vf Dc at hw
      rcases jl.1 (show h ∈ _ ++ _ from hw) with hw | hw
      ·exact List.mem_of_mem_take (qo hw)
      ·exact List.mem_of_mem_take (qo hw)
     exact hi.cod h hsub
    | false => rw [h2] at hh'; exact hi.cod h hh'
theorem WR {x : Gd} {r : Int} (h : Jn x r = true) : (x.1 = 0 ∧ r < 0) ∨ (x.1 = 1 ∧ r < 0) ∨ (x.1 = 2 ∧ r ≥ 0) := by
 simp only [Jn, jd, Bool.or_eq_true, beq_iff_eq, Bool.not_eq_true', decide_eq_false_iff_not, decide_eq_true_eq] at h
 omega
theorem Da {n m : Nat} (h : n ≤ 1000) (hm : m ≤ 10) : jx (n + m) Ob = true := ji (by rw [Yi]; omega)
theorem KS (a : List Pa) : ∀ c ∈ (Mc a).2.1, 0 ≤ c ∧ c ≤ 56 := by
 intro c hc
 have := (Zo a 56 c).1 hc
 omega
theorem Ov (a : List Pa) (l : List Gd) (hn : a.length ≤ Qa) (ha : Ud a = true) (hm : Sf l = true) : Uf a l = some (Ox (Mc a) l, ()) := by
 have h20 : Qa = 1048576 := rfl
 have hm' := hm
 simp only [Sf, jd, decide_eq_true_eq, TR] at hm'
 have h0 : DL l 0 ([], []) := ⟨by
  rw [List.drop_zero]
  cases hf : Pf (fun _ L x => Jp L x) 0 [] l with
  | inl L => exact ⟨L, rfl⟩
  | inr u => rw [hf] at hm'; simp at hm', jo _, jo _, by simp⟩
 have hl := (Ph (step := fun x => Yg x.1.1 x.1.2.1 x.1.2.2.1 x.1.2.2.2.1 x.1.2.2.2.2.1 x.1.2.2.2.2.2.1 x.2.1) l (fun _ s x => mG (Mc a) s x) (fun s i => (((), s.1, s.2.map Hc, l, ((ja l : Nat) : Int), i, ()), (Mc a, ()))) (fun s => .inl ((s.1, ()), ())) (DL l) (by
  intro k hk s hi
  obtain ⟨hok, hi'⟩ := OR (b := Mc a) hk hi
  refine ⟨?_, hi'⟩
  have hlen := hi.len
  have hout := hi.out
  have hl8 := hm'.1
  have hcode : 0 ≤ l[k].2.1 ∧ l[k].2.1 ≤ 56 := by
   simp only [Jn, jd] at hok
   exact Bu hok.1
  simp only [Yg]
  rw [Ja (show (k : Int) < ((ja l : Nat) : Int) by omega), Cd hk]
  simp only [cond_true, jb]
  generalize hx : l[k] = x at *
  have hW : ∀ L : List Pa, L.length ≤ 1000 → (∀ h ∈ L, 0 ≤ h.2.1.2.1 ∧ h.2.1.2.1 ≤ 56) → Fd (Mc a) (L.map Hc) = some (Fw (Mc a) (L.map Hc), ()) := fun L h1 h2 =>
   Zy _ _ (As a) (by simpa using h1) (KS a) (fun p hp => by
    obtain ⟨h, hh, rfl⟩ := qq.1 hp
    exact h2 h hh)
  have hcs : ∀ h ∈ jf s.2 [Dp x], 0 ≤ h.2.1.2.1 ∧ h.2.1.2.1 ≤ 56 := by
   intro h hh
   rcases jl.1 (show h ∈ s.2 ++ [Dp x] from hh) with hh | hh
   ·exact hi.cod h hh
   ·simp only [jp, List.not_mem_nil, or_false] at hh
    rw [hh]; exact hcode
  have happ : jf (s.2.map Hc) ([(x.2.1, x.2.2.1, ())] : List Nb) = (jf s.2 [Dp x]).map Hc := by
   show _ ++ _ = List.map Hc (_ ++ _)
   rw [List.map_append]; rfl
  have happ2 : jf (jf ([] : List Nb) (s.2.map Hc)) ([(x.2.1, x.2.2.1, ())] : List Nb) = (jf s.2 [Dp x]).map Hc := happ
  have hR1 := hW (jf s.2 [Dp x]) (by simp; omega) hcs
  have hR0 := hW s.2 (by omega) hi.cod
  have b1 : jx (ja (s.2.map Hc) + ja ([(x.2.1, x.2.2.1, ())] : List Nb)) Ob = true := Da (by simp; omega) (by simp)
  have b0 : jx (ja ([] : List Nb) + ja (s.2.map Hc)) Ob = true := ji (by simp [Yi]; omega)
  unfold mG PC Eu
  rcases WR hok with ⟨h0, hr⟩ | ⟨h1, hr⟩ | ⟨h2, hr⟩
  ·rw [h0, b0]
   simp only [show ((0 : Int) == 0) = true from rfl, show ((0 : Int) == 1) = false from rfl, show ((0 : Int) == 2) = false from rfl, cond_true, cond_false]
   show cond (jx (ja (s.2.map Hc) + ja ([(x.2.1, x.2.2.1, ())] : List Nb)) Ob) _ _ = _
   rw [b1, happ2]
   simp only [cond_true]
   show jz (Fd (Mc a) _) _ = _
   rw [hR1]
   simp only [jb]
   rw [show ∀ r : Ga, jx (ja s.1 + ja ([r] : List Ga)) Ob = true from fun r => Da (by omega) (by simp)]
   simp only [cond_true]
   show jz (Fd (Mc a) _) _ = _
   rw [hR0]
   simp only [jb]
   rw [show ∀ r r' : Ga, jx (ja (jf s.1 [r]) + ja ([r'] : List Ga)) Ob = true from fun r r' => Da (by simp; omega) (by simp)]
   simp
  ·rw [h1, b1, happ]
   simp only [show ((1 : Int) == 0) = false from rfl, show ((1 : Int) == 1) = true from rfl, cond_true, cond_false]
   show jz (Fd (Mc a) _) _ = _
   rw [hR1]
   simp only [jb]
   rw [show ∀ r : Ga, jx (ja s.1 + ja ([r] : List Ga)) Ob = true from fun r => Da (by omega) (by simp)]
   rfl
  ·rw [h2]
   simp only [show ((2 : Int) == 0) = false from rfl, show ((2 : Int) == 1) = false from rfl, show ((2 : Int) == 2) = true from rfl, cond_true, cond_false]
   rcases Bx (Tn x.2.1 x.2.2.1) s.2 0 with h | ⟨j, hj, h⟩
   ·unfold rM at hr; omega
   ·rw [js] at h
    rw [Qu (s.2.map Hc) _ (by simp; omega), OC, h]
    simp only [jb]
    have hj' : j < (s.2.map Hc).length := by simpa using hj
    have hc := FE hj'
    have e1 : jx (ja (Dc (s.2.map Hc) (jy 0) (jy (j : Int))) + ja (Dc (s.2.map Hc) (jy ((j + 1 : Nat) : Int)) (jy ((ja (s.2.map Hc) : Nat) : Int)))) Ob = true :=
     ji (by simp [Dc]; rw [Yi]; omega)
    have e2 : jf (Dc (s.2.map Hc) (jy 0) (jy (j : Int))) (Dc (s.2.map Hc) (jy ((j + 1 : Nat) : Int)) (jy ((ja (s.2.map Hc) : Nat) : Int))) = (Vf s.2 j).map Hc := by
     rw [← Qz]
     simp [Vf]
    have hsub : ∀ h ∈ Vf s.2 j, 0 ≤ h.2.1.2.1 ∧ h.2.1.2.1 ≤ 56 := by
     intro h hw
     unfold Vf Dc at hw
     rcases jl.1 (show h ∈ _ ++ _ from hw) with hw | hw
     ·exact hi.cod h (List.mem_of_mem_take (qo hw))
     ·exact hi.cod h (List.mem_of_mem_take (qo hw))
    rw [Af (k := j) (by omega), hc.1, hc.2, e1, e2]
    simp only [cond_true]
    show jz (Fd (Mc a) _) _ = _
    rw [hW (Vf s.2 j) (by rw [NJ hj]; omega) hsub]
    simp only [jb]
    rw [show ∀ r : Ga, jx (ja s.1 + ja ([r] : List Ga)) Ob = true from fun r => Da (by omega) (by simp)]
    unfold rM
    rw [h, jn]
    rfl)
  (by
   intro s _
   simp only [Yg]
   rw [La (by omega)]; rfl) (by omega) ([], []) h0).1
 unfold Uf Bi
 rw [En _ hn, ha, Qt _ (by omega), hm, Uk _ hn ha]
 simp only [jb, jg, cond_false]
 erw [hl]
 rfl
theorem JF (b : Ga) (D : List Nb) : (Fw b D).2.1.length ≤ 56 := by
 show (Hp (fun c => b.2.1.any (fun y => y == c) || D.any (fun p => p.1 == c)) 56).length ≤ 56
 exact QE _ 56
theorem AI (b : Ga) : ∀ (l : List Gd) (k : Nat) (s : List Ga × List Pa), (∀ x ∈ s.1, x.2.1.length ≤ 56) →
 (Bc (fun _ s x => mG b s x) k s l).1.length ≤ s.1.length + 2 * l.length ∧ ∀ x ∈ (Bc (fun _ s x => mG b s x) k s l).1, x.2.1.length ≤ 56
 | [], _, s, h => by simp only [Bc]; exact ⟨by omega, h⟩
 | x :: l, k, s, h => by
  have h1 : (mG b s x).1.length ≤ s.1.length + 2 ∧ ∀ y ∈ (mG b s x).1, y.2.1.length ≤ 56 := by
   unfold mG PC
   cases x.1 == 0 with
   | true =>
    refine ⟨by simp, fun y hy => ?_⟩
    rcases jl.1 (show y ∈ s.1 ++ _ from hy) with hy | hy
    ·exact h y hy
    ·simp only [cond_true, jp, List.not_mem_nil, or_false] at hy
     rcases hy with rfl | rfl <;> exact JF _ _
   | false =>
    refine ⟨by simp, fun y hy => ?_⟩
    rcases jl.1 (show y ∈ s.1 ++ _ from hy) with hy | hy
    ·exact h y hy
    ·simp only [cond_false, jp, List.not_mem_nil, or_false] at hy
     rw [hy]; exact JF _ _
  have := AI b l (k + 1) (mG b s x) h1.2
  simp only [Bc, jw]
  exact ⟨by omega, this.2⟩
def Kf (f : Int) (l : List Pa) : Int := Bc (fun _ s (h : Pa) => cond (h.2.1.1 == 3) (Td .i64 s (Be .i64 1 h.2.1.2.2.2.1)) s) 0 (Td .i64 1 f) l
theorem Pu {f : Int} (hf : 0 ≤ f ∧ f ≤ 15) (l : List Pa) (hn : l.length ≤ Qa) (hv : Ud l = true) : Dh f l = some (Kf f l, ()) := by
 have h20 : Qa = 1048576 := rfl
 have hh := Ix hv
 have hl := (Ph (step := fun x => Qj x.1.1 x.1.2.1 x.1.2.2.1 x.1.2.2.2.1) l
  (fun _ s (h : Pa) => cond (h.2.1.1 == 3) (Td .i64 s (Be .i64 1 h.2.1.2.2.2.1)) s) (fun s i => ((s, l, ((ja l : Nat) : Int), i, ()), ()))
  (fun s => .inl ((s, ()), ())) (fun _ _ => True) (by
   intro k hk s _
   refine ⟨?_, trivial⟩
   simp only [Qj]
   rw [Ja (show (k : Int) < (ja l : Int) by omega), Cd hk]
   simp only [cond_true, jb]
   rw [Ja (Ev (hh _ (qn hk)).act)]
   cases l[k].2.1.1 == 3 <;> rfl)
  (by
   intro s _
   simp only [Qj]
   rw [La (by omega)]; rfl) (by omega) (Td .i64 1 f) trivial).1
 unfold Dh Qf
 rw [Ja (show f ≥ 0 by omega), Ja hf.2, En _ hn, hv]
 simp only [cond_true, jb, jg, cond_false]
 erw [hl]
 rfl
theorem ED (a : Aa) : Qq a = some (Kl a, ()) := by
 unfold Qq Kl
 rw [Sr]
 cases Ng a <;> cases a.1 == 6 <;> rfl
theorem NC {a : Nat} (ha : a < 2 ^ 63) (x : Pa) : Uo (a : Int) x = true ↔ Js x ∧ a.testBit x.1.toNat = false := by
 constructor
 ·intro h
  obtain ⟨h1, h2⟩ := OP h
  refine ⟨h1, ?_⟩
  have hx : x.1 = ((x.1.toNat : Nat) : Int) := (Int.toNat_of_nonneg h1.lo).symm
  have := Yp (a := a) (k := x.1.toNat) ha (by have := h1.hi; omega)
  rw [← hx] at this
  rw [← this]
  simp [h2]
 ·rintro ⟨h1, h2⟩
  have hx : x.1 = ((x.1.toNat : Nat) : Int) := (Int.toNat_of_nonneg h1.lo).symm
  have := Yp (a := a) (k := x.1.toNat) ha (by have := h1.hi; omega)
  rw [← hx, h2] at this
  simp only [Uo, jd, decide_eq_true_eq, Bool.not_eq_true', beq_eq_false_iff_ne]
  exact ⟨⟨h1.lo, h1.hi⟩, by rw [beq_eq_false_iff_ne] at this; exact this, h1.act, h1.n1, h1.n6, h1.n7⟩
theorem Iz : ∀ (l : List Pa) (k a : Nat), a < 2 ^ 63 → (UH (Pf (fun _ s x => Bp s x) k (a : Int) l) = true ↔
 (∀ x ∈ l, Js x ∧ a.testBit x.1.toNat = false) ∧ l.Pairwise (fun x y => x.1 ≠ y.1))
 | [], k, a, ha => by simp [Pf, UH]
 | y :: l, k, a, ha => by
  simp only [Pf]
  cases hc : Uo (a : Int) y with
  | false =>
   rw [show Bp (a : Int) y = .inr () by unfold Bp; rw [hc]; rfl]
   simp only [UH, jq, false_iff]
   rintro ⟨h, _⟩
   have := (NC ha y).2 (h y (qt ..))
   rw [hc] at this; cases this
  | true =>
   rw [show Bp (a : Int) y = .inl (Td .i64 (a : Int) (Be .i64 1 y.1)) by unfold Bp; rw [hc]; rfl]
   simp only []
   obtain ⟨hy, hb⟩ := (NC ha y).1 hc
   have h1 := hy.lo; have h2 := hy.hi
   have hyx : y.1 = ((y.1.toNat : Nat) : Int) := (Int.toNat_of_nonneg h1).symm
   have e : Td .i64 (a : Int) (Be .i64 1 y.1) = ((a ||| 2 ^ y.1.toNat : Nat) : Int) := by
    conv => lhs; rw [hyx]
    rw [OK (by omega), Qy ha (Vu (by omega))]
   rw [e, Iz l (k + 1) _ (Nat.or_lt_two_pow ha (Vu (by omega)))]
   have tb : ∀ n, (a ||| 2 ^ y.1.toNat).testBit n = false ↔ a.testBit n = false ∧ y.1.toNat ≠ n := by
    intro n
    rw [Nat.testBit_or, ql, Bool.or_eq_false_iff, decide_eq_false_iff_not]
   simp only [jp, List.pairwise_cons, forall_eq_or_imp]
   constructor
   ·rintro ⟨h, hp⟩
    refine ⟨⟨⟨hy, hb⟩, fun x hx => ⟨(h x hx).1, ((tb _).1 (h x hx).2).1⟩⟩, fun x hx hxy => ?_, hp⟩
    exact ((tb _).1 (h x hx).2).2 (by rw [hxy])
   ·rintro ⟨⟨_, h⟩, hq, hp⟩
    refine ⟨fun x hx => ⟨(h x hx).1, (tb _).2 ⟨(h x hx).2, fun hn => hq x hx ?_⟩⟩, hp⟩
    have := (h x hx).1.lo
    omega
theorem IA (l : List Pa) : Ud l = true ↔ (∀ x ∈ l, Js x) ∧ l.Pairwise (fun x y => x.1 ≠ y.1) := by
 have := Iz l 0 0 (by decide)
 unfold Ud DM
 erw [this]
 simp
theorem WN {l : List Pa} (h : Ud l = true) {x : Pa} (hx : Js x) (hn : ∀ y ∈ l, y.1 ≠ x.1) : Ud (jf l [x]) = true := by
 rw [IA] at h ⊢
 obtain ⟨h1, h2⟩ := h
 refine ⟨fun y hy => ?_, ?_⟩
 ·rcases jl.1 (show y ∈ l ++ [x] from hy) with hy | hy
  ·exact h1 y hy
  ·rw [qc.1 hy]; exact hx
 ·show (l ++ [x]).Pairwise _
  rw [List.pairwise_append]
  exact ⟨h2, List.pairwise_singleton _ _, fun y hy z hz => by rw [qc.1 hz]; exact hn y hy⟩
theorem OH {l r : List Pa} (h : Ud l = true) (hs : r.Sublist l) : Ud r = true := by
 rw [IA] at h ⊢
 exact ⟨fun y hy => h.1 y (hs.subset hy), h.2.sublist hs⟩
theorem EI : ∀ (n : Nat) (l : List Nat), l.Nodup → (∀ x ∈ l, x < n) → l.length ≤ n
 | 0, l, _, h => by
  cases l with
  | nil => exact jo _
  | cons x l => exact absurd (h x (qt ..)) (Nat.not_lt_zero _)
 | n + 1, l, hn, h => by
  have := EI n (l.erase n) (hn.erase n) (fun x hx => by
   have h1 := (hn.mem_erase_iff).1 hx
   have := h x h1.2
   have := h1.1
   omega)
  have h2 := List.length_erase (a := n) (l := l)
  split at h2 <;> omega
theorem Jl {l : List Pa} (h : Ud l = true) : l.length ≤ 32 := by
 rw [IA] at h
 have hn : (l.map fun x => x.1.toNat).Nodup := by
  rw [List.Nodup, List.pairwise_map]
  refine (List.Pairwise.and_mem.1 h.2).imp ?_
  rintro x y ⟨hx, hy, hxy⟩ he
  have h1 := (h.1 x hx).lo; have h2 := (h.1 y hy).lo
  omega
 have hs : ∀ y ∈ (l.map fun x => x.1.toNat), y < 32 := by
  intro y hy
  obtain ⟨x, hx, rfl⟩ := qq.1 hy
  have := (h.1 x hx).hi; have := (h.1 x hx).lo
  omega
 have := EI 32 _ hn hs
 simpa using this
structure Ri (e : Ra) : Prop where
 km : Zb e.1 = true
 m4 : e.2.1.length ≤ 4
 hd : Ud e.2.2.2.1 = true
 mac : ∀ x ∈ e.2.1, Sf x = true
 hin : ∀ x ∈ e.2.2.2.1, Ak e.1.1 e.1.2.1.length x = true
 st : Tz e.1.2.1.length e.2.2.1 e.2.2.2.2.1
theorem AR {α : Type} {p : α → Bool} {l : List α} : Xd (fun _ x => p x) 0 l = true ↔ ∀ x ∈ l, p x = true := by
 rw [Hf]
 constructor
 ·intro h x hx
  obtain ⟨i, hi, rfl⟩ := qp hx
  exact h i hi
 ·intro h j hj
  exact h _ (qn hj)
theorem Mu (e : Ra) : Br e = true ↔ Ri e := by
 unfold Br
 simp only [jd, decide_eq_true_eq, beq_iff_eq, AR]
 constructor
 ·rintro ⟨h1, h2, h3, h4, h5, h6, h7, h8⟩
  exact ⟨h1, h2, h3, h4, h5, ⟨h6.1, h6.2, h7, h8.1, h8.2⟩⟩
 ·rintro ⟨h1, h2, h3, h4, h5, h6⟩
  exact ⟨h1, h2, h3, h4, h5, ⟨h6.f0, h6.f1⟩, h6.f2, h6.o0, h6.o1⟩
theorem My {e : Ra} (h : Ri e) : Yc Pc e ≤ Qa - 5 := by
 have h20 : Qa = 1048576 := rfl
 have h1 := (JC h.km).z
 have hh := Jl h.hd
 have h2 : Yc (.sl (.sl Pg)) e.2.1 ≤ (8 + 1) * e.2.1.length := KG (e := .sl Pg) (c := 8) fun x hx => by
  have := h.mac x hx
  simp only [Sf, jd, decide_eq_true_eq] at this
  have e2 : Yc (.sl Pg) x = x.length := Ew (e := Pg) rfl x
  omega
 have := h.m4
 have hm := Pe h.km
 have h3 : Yc Za e.1 ≤ 200 := by
  have h1 : Yc Za e.1 = 0 + (Yc (.sl (.sl Wc)) e.1.2.1 + 0) := rfl
  have h2 : Yc (.sl (.sl Wc)) e.1.2.1 ≤ (32 + 1) * ja e.1.2.1 := KG (e := .sl Wc) (c := 32) fun x hx => by
   obtain ⟨i, hi, rfl⟩ := qp hx
   rw [TI]
   have := hm.row i hi
   have := hm.k2
   omega
  have := hm.l2
  omega
 rw [Ax, Xy]
 omega
noncomputable def Iq (e : Ra) (k : Nat) (b : Bool) : Aa :=
 cond b (Kl (Cg e.1.2.1 (Jf e.1 (Kf e.2.2.1 e.2.2.2.1) k) k)) (Ft (Cg e.1.2.1 (Jf e.1 (Kf e.2.2.1 e.2.2.2.1) k) k))
noncomputable def Ah (e : Ra) (k : Nat) (b : Bool) : Int × Int × Bool × Aa := Lo e.2.2.1 e.2.2.2.2.1 e.2.2.2.2.2.1 (Iq e k b)
noncomputable def pH (e : Ra) (k : Nat) (b : Bool) : List Pa := jf e.2.2.2.1 [((k : Int), (Ah e k b).2.2.2, ())]
noncomputable def pE (e : Ra) (k : Nat) (b : Bool) : Ra := (e.1, e.2.1, (Ah e k b).1, pH e k b, (Ah e k b).2.1, (Ah e k b).2.2.1, ())
noncomputable def pM (e : Ra) (k : Nat) (b : Bool) : List Ga :=
 cond ((Ah e k b).2.2.2.1 == 9) (cond (decide ((Ah e k b).2.2.2.2.2.2.1 < ((ja e.2.1 : Nat) : Int))) (Ox (Mc (pH e k b)) (e.2.1.getD (Ah e k b).2.2.2.2.2.2.1.toNat [])) []) []
noncomputable def pR (e : Ra) (k : Nat) (b : Bool) : List Ga := Io Fo (Mc e.2.2.2.1) (jf (pM e k b) [Mc (pH e k b)])
theorem LR {nl i : Nat} {a : Aa} (h : Kc nl i a = true) (h1 : a.1 ≠ 1) : Sz nl (Kl a) := by
 have ha := Mp h
 have hP := ha
 rw [Jb] at hP
 unfold Lb at hP
 unfold Kl Ng
 rw [ha]
 by_cases h67 : a.1 = 6 ∨ a.1 = 7
 ·have e : (true && ((a.1 == 6) || (a.1 == 7))) = true := by rcases h67 with h | h <;> rw [h] <;> rfl
  rw [e]
  have hn := Uu h (by omega)
  rcases h67 with h6 | h7
  ·rw [h6]
   refine ⟨?_, by show (2 : Int) ≠ 1; decide, by show (2 : Int) ≠ 6; decide, by show (2 : Int) ≠ 7; decide, fun _ => ?_⟩
   ·rw [Jb]
    exact .inr (.inl ⟨rfl, rfl, .inl rfl, .inr (by show 1 ≤ a.2.2.1 ∧ a.2.2.1 ≤ 15; omega), .inr (by show a.2.2.1 ≠ 0; omega)⟩)
   ·show (0 : Int) < (nl : Int)
    omega
  ·rw [h7]
   refine ⟨?_, by show (3 : Int) ≠ 1; decide, by show (3 : Int) ≠ 6; decide, by show (3 : Int) ≠ 7; decide, fun _ => hn⟩
   rw [Jb]
   exact .inr (.inr (.inl ⟨.inl rfl, rfl, rfl, by show 1 ≤ a.2.2.2.1; omega, by show a.2.2.2.1 ≤ 3; omega⟩))
 ·have e : (true && ((a.1 == 6) || (a.1 == 7))) = false := by
   rw [jk, Bool.or_eq_false_iff, beq_eq_false_iff_ne, beq_eq_false_iff_ne]; omega
  rw [e]
  exact ⟨ha, h1, fun h => h67 (.inl h), fun h => h67 (.inr h), fun hk => Uu h hk⟩
structure GN (e : Ra) (k : Nat) (b : Bool) : Prop where
 act : Sz e.1.2.1.length (Iq e k b)
 ah : Sz e.1.2.1.length (Ah e k b).2.2.2
 hd : Ud (pH e k b) = true
 ok : Ri (pE e k b)
 ml : (pM e k b).length ≤ 16
 mx : ∀ x ∈ pM e k b, x.2.1.length ≤ 56
theorem ND {e : Ra} (h : Ri e) {k : Nat} (hk : (k : Int) < e.1.1) (hn : ∀ y ∈ e.2.2.2.1, y.1 ≠ (k : Int)) (b : Bool) : GN e k b := by
 have hm := Pe h.km
 have h1 := KP hm (Kf e.2.2.1 e.2.2.2.1) hk
 have h2 : Sz e.1.2.1.length (Iq e k b) := by
  cases b
  ·exact OV h1.1 h1.2
  ·exact LR h1.1 h1.2
 have h3 := LZ (c := e.2.2.2.2.2.1) hm.l2 h.st h2
 have h4 : Ud (pH e k b) = true := WN h.hd (x := ((k : Int), (Ah e k b).2.2.2, ())) ⟨by show (0 : Int) ≤ (k : Int); omega, by have := hm.k2; show (k : Int) ≤ 31; omega, h3.2.act, h3.2.n1, h3.2.n6, h3.2.n7⟩ hn
 refine ⟨h2, h3.2, h4, ⟨h.km, h.m4, h4, h.mac, fun x hx => ?_, h3.1⟩, ?_, ?_⟩
 ·rcases jl.1 (show x ∈ e.2.2.2.1 ++ [((k : Int), (Ah e k b).2.2.2, ())] from hx) with hx | hx
  ·exact h.hin x hx
  ·simp only [jp, List.not_mem_nil, or_false] at hx
   subst hx
   simp only [Ak, jd, Bool.not_eq_true', Bool.and_eq_false_iff, decide_eq_false_iff_not]
   refine ⟨by show ¬ (k : Int) ≥ e.1.1; omega, ?_⟩
   by_cases h9 : (Ah e k b).2.2.2.1 = 9
   ·exact .inl (by show ((Ah e k b).2.2.2.1 != 9) = false; simp [h9])
   ·exact .inr (Int.not_le.2 (h3.2.n h9))
 all_goals
  unfold pM
  cases (Ah e k b).2.2.2.1 == 9 with
  | false => simp
  | true =>
   simp only [cond_true]
   by_cases hl : (Ah e k b).2.2.2.2.2.2.1 < ((ja e.2.1 : Nat) : Int)
   ·rw [Ja hl]
    have h0 := Ev h3.2.act
    have hmem : (e.2.1.getD (Ah e k b).2.2.2.2.2.2.1.toNat []) ∈ e.2.1 := by
     have hlt : (Ah e k b).2.2.2.2.2.2.1.toNat < e.2.1.length := by
      have : (0 : Int) ≤ (Ah e k b).2.2.2.2.2.2.1 := h0
      omega
     rw [qh, je hlt, Option.getD_some]
     exact qn hlt
    have hmc := h.mac _ hmem
    simp only [Sf, jd, decide_eq_true_eq] at hmc
    have := AI (Mc (pH e k b)) (e.2.1.getD (Ah e k b).2.2.2.2.2.2.1.toNat []) 0 ([], []) (by simp)
    simp only [cond_true]
    unfold Ox
    first
     | exact this.2
     | (have h5 := this.1; simp only [j7] at h5; omega)
   ·rw [La hl]; simp
theorem QM {β : Type} (MR : List Pa → List Gd → Option ((List Ga) × Unit)) (RO : List Pa → Option (Ga × Unit)) (CH : Ga → List Ga → Option ((List Ga) × Unit)) (K : List Ga → Option β)
 (hMR : ∀ a l, a.length ≤ Qa → Ud a = true → Sf l = true → MR a l = some (Ox (Mc a) l, ()))
 (hRO : ∀ l, l.length ≤ Qa → Ud l = true → RO l = some (Mc l, ()))
 (hCH : ∀ (a : Ga) (l : List Ga), l.length ≤ Qa → a.2.1.length ≤ Qa → (∀ x ∈ l, x.2.1.length ≤ Qa) → CH a l = some (Io Fo a l, ()))
 {e : Ra} (h : Ri e) {k : Nat} {b : Bool} (F : GN e k b) :
 (cond (jx (ja e.2.2.2.1 + ja ([((k : Int), (Ah e k b).2.2.2, ())] : List Pa)) Ob)
  (cond ((Ah e k b).2.2.2.1 == (9 : Int))
   (cond (decide ((Ah e k b).2.2.2.2.2.2.1 < ((ja e.2.1 : Nat) : Int)))
    (jz (Od e.2.1 (Ah e k b).2.2.2.2.2.2.1) fun x8 => jz (MR (pH e k b) x8) fun r9 => jz (RO (pH e k b)) fun r10 =>
     cond (jx (ja r9.1 + ja ([r10.1] : List Ga)) Ob) (jz (RO e.2.2.2.1) fun r11 => jz (CH r11.1 (jf r9.1 ([r10.1] : List Ga))) fun r12 => K r12.1) none)
    (jz (RO (pH e k b)) fun r13 => cond (jx (ja ([] : List Ga) + ja ([r13.1] : List Ga)) Ob)
     (jz (RO e.2.2.2.1) fun r14 => jz (CH r14.1 (jf ([] : List Ga) ([r13.1] : List Ga))) fun r15 => K r15.1) none))
   (jz (RO (pH e k b)) fun r16 => cond (jx (ja ([] : List Ga) + ja ([r16.1] : List Ga)) Ob)
    (jz (RO e.2.2.2.1) fun r17 => jz (CH r17.1 (jf ([] : List Ga) ([r16.1] : List Ga))) fun r18 => K r18.1) none))
  none) = K (pR e k b) := by
 have h20 : Qa = 1048576 := rfl
 have hlim := Yi
 have hl1 := Jl h.hd
 have hl2 := Jl F.hd
 have R1 := hRO (pH e k b) (by omega) F.hd
 have R0 := hRO e.2.2.2.1 (by omega) h.hd
 have hr : ∀ r : Ga, jx (ja ([] : List Ga) + ja ([r] : List Ga)) Ob = true := fun r => ji (by simp only [jw, j7]; omega)
 rw [show jx (ja e.2.2.2.1 + ja ([((k : Int), (Ah e k b).2.2.2, ())] : List Pa)) Ob = true from ji (by simp only [jw, j7]; omega)]
 have plain : pM e k b = [] → (jz (RO (pH e k b)) fun r13 => cond (jx (ja ([] : List Ga) + ja ([r13.1] : List Ga)) Ob)
  (jz (RO e.2.2.2.1) fun r14 => jz (CH r14.1 (jf ([] : List Ga) ([r13.1] : List Ga))) fun r15 => K r15.1) none) = K (pR e k b) := by
  intro hm
  rw [R1, R0]
  simp only [jb]
  rw [hr, hCH _ _ (by simp; omega) (Uy _) (fun x hx => by rw [qc.1 (show x ∈ [Mc (pH e k b)] from hx)]; exact Uy _)]
  simp only [cond_true, jb]
  unfold pR
  rw [hm]
 simp only [cond_true]
 cases h9 : (Ah e k b).2.2.2.1 == (9 : Int) with
 | false => exact plain (by unfold pM; rw [h9]; rfl)
 | true =>
  simp only [cond_true]
  by_cases hl : (Ah e k b).2.2.2.2.2.2.1 < ((ja e.2.1 : Nat) : Int)
  ·rw [Ja hl]
   simp only [cond_true]
   have h0 : (0 : Int) ≤ (Ah e k b).2.2.2.2.2.2.1 := Ev F.ah.act
   have hlt : (Ah e k b).2.2.2.2.2.2.1.toNat < e.2.1.length := by omega
   have hi : Od e.2.1 (Ah e k b).2.2.2.2.2.2.1 = some e.2.1[(Ah e k b).2.2.2.2.2.2.1.toNat] := by
    have := Cd (xs := e.2.1) hlt
    rw [Int.toNat_of_nonneg h0] at this
    exact this
   have hM : pM e k b = Ox (Mc (pH e k b)) e.2.1[(Ah e k b).2.2.2.2.2.2.1.toNat] := by
    unfold pM
    rw [h9, Ja hl, qh, je hlt, Option.getD_some]
    rfl
   have ml := F.ml
   have mx := F.mx
   rw [hi]
   simp only [jb]
   rw [hMR _ _ (by omega) F.hd (h.mac _ (qn hlt)), R1, R0, ← hM]
   simp only [jb]
   rw [show jx (ja (pM e k b) + ja ([Mc (pH e k b)] : List Ga)) Ob = true from ji (by simp only [jw, j7]; omega)]
   simp only [cond_true]
   rw [hCH _ _ (by show (pM e k b ++ [Mc (pH e k b)]).length ≤ _; simp; omega) (Uy _) (fun x hx => by
    rcases jl.1 (show x ∈ pM e k b ++ [Mc (pH e k b)] from hx) with hx | hx
    ·have := mx x hx; omega
    ·rw [qc.1 hx]; exact Uy _)]
   rfl
  ·rw [La hl]
   exact plain (by unfold pM; rw [h9, La hl]; rfl)
theorem ID {e : Ra} (h : Ri e) {k : Nat} (hk : (k : Int) < e.1.1) (hn : ∀ y ∈ e.2.2.2.1, y.1 ≠ (k : Int)) (b : Bool) :
 Xr e (k : Int) b = some (pE e k b, pR e k b, ()) := by
 have h20 : Qa = 1048576 := rfl
 have hm := Pe h.km
 have F := ND h hk hn b
 have hz := My h
 have hle := Jl h.hd
 have hl := Lx hm (Kf e.2.2.1 e.2.2.2.1) k
 have hrow := hm.row _ hl
 have tail := QM Uf Wb Qc (fun r => some (pE e k b, r, ())) Ov Uk Pt h F
 unfold Xr
 rw [Zq _ (by omega), Pu (S3 hm.l2 h.st) _ (by omega) h.hd]
 simp only [jb]
 rw [DC hm _ hk]
 simp only [jb]
 show jz (Od e.1.2.1 ((Jf e.1 (Kf e.2.2.1 e.2.2.2.1) k : Nat) : Int)) _ = _
 rw [WX hl (by omega)]
 cases b with
 | true =>
  simp only [cond_true]
  rw [ED]
  simp only [jb]
  show jz (Kj (e.1, e.2.1, e.2.2.1, e.2.2.2.1, e.2.2.2.2.1, e.2.2.2.2.2.1, ()) (Iq e k true)) _ = _
  rw [Ru _ _ _ _ _ _ _ F.act.act]
  simp only [jb]
  exact tail
 | false =>
  simp only [cond_false]
  rw [QF]
  simp only [jb]
  show jz (Kj (e.1, e.2.1, e.2.2.1, e.2.2.2.1, e.2.2.2.2.1, e.2.2.2.2.2.1, ()) (Iq e k false)) _ = _
  rw [Ru _ _ _ _ _ _ _ F.act.act]
  simp only [jb]
  exact tail
def wo (l : List Pa) (i : Nat) : List Pa := jf (l.take i) (l.drop (i + 1))
theorem XC (l : List Pa) (i : Nat) : (wo l i).Sublist l := by
 have h : (l.drop (i + 1)).Sublist (l.drop i) := List.drop_sublist_drop_left l (Nat.le_succ i)
 have h2 := List.Sublist.append (List.Sublist.refl (l.take i)) h
 rw [List.take_append_drop] at h2
 exact h2
def rE (e : Ra) (i : Nat) : Ra := (e.1, e.2.1, e.2.2.1, wo e.2.2.2.1 i, e.2.2.2.2)
def rR (e : Ra) (i : Nat) : List Ga := Io Fo (Mc e.2.2.2.1) [Mc (wo e.2.2.2.1 i)]
theorem E0 {e : Ra} (h : Ri e) (i : Nat) : Ri (rE e i) :=
 ⟨h.km, h.m4, OH h.hd (XC _ i), h.mac, fun x hx => h.hin x ((XC _ i).subset hx), h.st⟩
theorem OX {α : Type} (l : List α) (i : Nat) : Dc l (jy (0 : Int)) (jy (i : Int)) = l.take i := by
 simp [Dc]
theorem NX {α : Type} (l : List α) (i : Nat) : Dc l (jy ((i + 1 : Nat) : Int)) (jy ((ja l : Nat) : Int)) = l.drop (i + 1) := by
 simp [Dc]
theorem MA {e : Ra} (h : Ri e) {k : Int} {i : Nat} (hi : i < e.2.2.2.1.length) (hf : Sc (fun h : Pa => h.1 == k) 0 e.2.2.2.1 = (i : Int)) :
 Fp e k = some (rE e i, rR e i, ()) := by
 have h20 : Qa = 1048576 := rfl
 have hlim := Yi
 have hz := My h
 have hle := Jl h.hd
 have hw := OH h.hd (XC e.2.2.2.1 i)
 have hwl := Jl hw
 unfold Fp
 rw [Zq _ (by omega), Dn _ _ (by omega), hf]
 simp only [jb]
 rw [Af (by omega)]
 rw [OX, NX]
 rw [show Je (ja e.2.2.2.1) (0 : Int) ((i : Nat) : Int) = true from EE (lo := 0) (by omega) (by omega), EE (by omega) (by omega)]
 rw [show jx (ja (e.2.2.2.1.take i) + ja (e.2.2.2.1.drop (i + 1))) Ob = true from ji (by simp; omega)]
 simp only [cond_true]
 rw [Uk _ (by omega) h.hd]
 simp only [jb]
 show jz (Wb (wo e.2.2.2.1 i)) _ = _
 rw [Uk _ (by omega) hw]
 simp only [jb]
 rw [Pt _ _ (by simp; omega) (Uy _) (fun x hx => by rw [qc.1 hx]; exact Uy _)]
 rfl

def U3 (l : List Pa) (j : Nat) : Bool := l.any (fun h => h.1 == (j : Int))
structure GX (l : List Pa) (m : Nat) : Prop where
 lt : m < 2 ^ 63
 bit : ∀ j, m.testBit j = U3 l j
structure X6 (d : Uz) : Prop where
 eng : Ri d.1
 len : d.2.2.1.length ≤ 64
 key : ∀ x ∈ d.2.2.1, x.2.1 < d.1.1.1
 fol : ∃ (m : Nat) (t : Int), GX d.1.2.2.2.1 m ∧ UH (Pf (fun _ s x => T3 s x) 0 (t, (m : Int)) d.2.2.1) = true
def TX (e : Ra) (k : Int) : Nat := (Sc (fun h : Pa => h.1 == k) 0 e.2.2.2.1).toNat
structure E6 (d : Uz) (x : Nn) (r : List Nn) : Prop where
 ev : SH x = true
 key : x.2.1 < d.1.1.1
 up : x.2.2.1 = false → ∃ hi : TX d.1 x.2.1 < d.1.2.2.2.1.length, Sc (fun h : Pa => h.1 == x.2.1) 0 d.1.2.2.2.1 = ((TX d.1 x.2.1 : Nat) : Int) ∧ (d.1.2.2.2.1[TX d.1 x.2.1]'hi).1 = x.2.1
 down : x.2.2.1 = true → ∀ y ∈ d.1.2.2.2.1, y.1 ≠ x.2.1



def HQ (p : List Int) : Bool := Xd (fun _ w => decide (0 ≤ w ∧ w ≤ 65535)) 0 p
def BU (p : List Int) (e : Int) : Bool := ((p.length : Int) == 19) && decide (0 ≤ e ∧ e ≤ 1000) && HQ p
def TH (f : Id) : Bool := match f.1, f.2.1 with
 | [p, q], [d, e] => BU p d && BU q e
 | _, _ => false
def TT (h : Int) : Bool := decide (1 ≤ h ∧ h ≤ 60000)
def FU (h0 h1 : Int) : Int := cond (TT h1) (cond (TT h0) (cond (decide (h1 > h0)) 1 0) 1) (cond (TT h0) 0 (-1))
def Vj (f : Id) : Int := cond (TH f) (match f.1 with
 | [h0 :: _, h1 :: _] => FU h0 h1
 | _ => -1) (-1)
def Pv (s v : Int) : Bool := decide (0 ≤ s ∧ s ≤ 3 ∧ 0 ≤ v ∧ v ≤ 9999)
def ON (s v h : Int) : Int := cond (Pv s v && TT h) ((7 * s + 13 * v + 31 * h + 5).tmod 60000) 65535
def wd (w : List Int) (n : Nat) : Int := w.getD n 0
def BZ (s : Int) (w : List Int) (i : Nat) : Bool :=
 Pv (wd w (1 + 3 * i)) (wd w (2 + 3 * i)) && (wd w (1 + 3 * i) == s) && (wd w (3 + 3 * i) == ON (wd w (1 + 3 * i)) (wd w (2 + 3 * i)) (wd w 0))
def MI (s : Int) (w : List Int) : Nat → Option Int
 | 0 => none
 | n + 1 => cond (BZ s w n) (some (wd w (2 + 3 * n))) (MI s w n)
def Aw (f : Id) (s : Int) : Option Int := cond (decide (Vj f < 0)) none (MI s ((f.1.getD (Vj f).toNat [])) 6)
def HZ (o : Option Int) : Int × Bool := match o with
 | some v => (v, true)
 | none => (0, false)
structure DU (f : Id) : Prop where
 l1 : f.1.length = 2
 l2 : f.2.1.length = 2
 pg : ∀ i (h1 : i < f.1.length) (h2 : i < f.2.1.length), f.1[i].length = 19 ∧ 0 ≤ f.2.1[i] ∧ f.2.1[i] ≤ 1000 ∧ HQ f.1[i] = true
def zF : Id := ([], [], ())
def RA (o : Fg) : Nat := o.2.1.toNat
def M6 (f : Id) (o : Fg) : Bool :=
 TH f && (decide (0 ≤ o.2.1 ∧ o.2.1 ≤ 1) && cond o.1 (decide (o.2.2.1 = 0 ∧ o.2.2.2.1 = 0 ∧ f.2.1.getD (RA o) 0 < 1000))
  (decide (0 ≤ o.2.2.1 ∧ o.2.2.1 ≤ 18 ∧ 0 ≤ o.2.2.2.1 ∧ o.2.2.2.1 ≤ 65534 ∧ (f.1.getD (RA o) []).getD o.2.2.1.toNat 0 = 65535)))
def N6 (f : Id) (o : Fg) : Id :=
 cond o.1 (f.1.set (RA o) (List.replicate 19 65535), f.2.1.set (RA o) (f.2.1.getD (RA o) 0 + 1), ())
  (f.1.set (RA o) ((f.1.getD (RA o) []).set o.2.2.1.toNat o.2.2.2.1), f.2.1, ())

def JI (f : Id) (ops : List Fg) : Id ⊕ Unit := Pf (fun _ s o => cond (M6 s o) (.inl (N6 s o)) (.inr ())) 0 f ops
def W3 (r : Id ⊕ Unit) : Id × Bool × Unit := r.elim (fun g => (g, true, ())) (fun _ => (zF, false, ()))
def JZ (page : Int) (at' : Nat) (s v h : Int) : List Fg :=
 [(false, page, ((1 + 3 * at' : Nat) : Int), s, ()), (false, page, ((2 + 3 * at' : Nat) : Int), v, ()), (false, page, ((3 + 3 * at' : Nat) : Int), ON s v h, ())]
def KU (w : List Int) (n : Nat) : Bool := (wd w (3 * n + 1) == 65535) && ((wd w (3 * n + 2) == 65535) && (wd w (3 * n + 3) == 65535))
def HA (w : List Int) : Nat → Nat
 | 0 => 0
 | n + 1 => cond (KU w n) (HA w n) (n + 1)
def A6 (f : Id) (s v : Int) (k : Nat) : Option Int := cond ((k : Int) == s) (some v) (Aw f (k : Int))
def Y3 (f : Id) (s v page h : Int) (k : Nat) (st : List Fg × Nat) : List Fg × Nat := match A6 f s v k with
 | some x => (jf st.1 (JZ page st.2 (k : Int) x h), st.2 + 1)
 | none => st
def QX (page : Int) : Fg := (true, page, 0, 0, ())
def UU (f : Id) (s v page h : Int) : List Fg × Nat := Ad (Y3 f s v page h) 4 ([QX page], 0)
def UZ (page h : Int) : Fg := (false, page, 0, h, ())
def LK (f : Id) : List Int := f.1.getD (Vj f).toNat []
def RI (f : Id) (s v : Int) : List Fg × Bool :=
 cond (decide (Vj f < 0)) ([], false) (cond (!Pv s v) ([], false)
  (cond (decide (HA (LK f) 6 < 6)) (JZ (Vj f) (HA (LK f) 6) s v (wd (LK f) 0), true)
   (cond (decide (wd (LK f) 0 ≥ 60000)) ([], false) (cond (decide (f.2.1.getD (1 - Vj f).toNat 0 ≥ 1000)) ([], false)
    (jf (UU f s v (1 - Vj f) (wd (LK f) 0 + 1)).1 [UZ (1 - Vj f) (wd (LK f) 0 + 1)], true)))))
def X3 (f : Id) (P : Int) : List Int := f.1.getD P.toNat []
def Z5 (t : Gd) : Bool := decide (1 ≤ t.1 ∧ t.1 ≤ 1000 ∧ 0 ≤ t.2.1 ∧ t.2.1 ≤ 1000 ∧ 0 ≤ t.2.2.1 ∧ t.2.2.1 ≤ 2)
abbrev ET : Type := List Fg × Id
def I0 (k : Nat) (st : ET) (x : Int) : ET ⊕ Unit :=
 cond ((HZ (Aw st.2 (k : Int))).2 && ((HZ (Aw st.2 (k : Int))).1 == x)) (.inl st)
  (cond (RI st.2 (k : Int) x).2 (.inl (jf st.1 (RI st.2 (k : Int) x).1, (W3 (JI st.2 (RI st.2 (k : Int) x).1)).1)) (.inr ()))
def PZ (t : Gd) : List Int := [t.1, t.2.1, t.2.2.1]
def XM (f : Id) (t : Gd) : List Fg × Bool := cond (!Z5 t) ([], false) (cond (decide (Vj f < 0)) ([], false) ((Pf I0 0 (([], f) : ET) (PZ t)).elim (fun st => (st.1, true)) (fun _ => ([], false))))
def R3 (f : Id) (P : Int) : Int := f.2.1.getD P.toNat 0
def V3 (f : Id) (P : Int) : Int := wd (X3 f P) 0
def M0 (P : Int) : Prop := P = 0 ∨ P = 1
structure FB (f : Id) (c : Int) : Prop where
 ok : DU f
 pg : M0 (Vj f)
 hd : V3 f (Vj f) ≤ c + 1
 er : ∀ P, M0 P → R3 f P ≤ c
structure Y6 (f g : Id) (s v c : Int) (whole : Bool) : Prop where
 good : FB g (c + 1)
 rd : ∀ σ : Int, 0 ≤ σ ∧ σ ≤ 3 → Aw g σ = cond (whole && (σ == s)) (some v) (Aw f σ)
def EL (f : Id) (t : Gd) (j : Nat) (g : Id) : Prop := ∀ σ : Nat, σ ≤ 3 → Aw g (σ : Int) = if σ < j then some ((PZ t).getD σ 0) else Aw f (σ : Int)
structure U6 (f : Id) (t : Gd) (c : Int) (k : Nat) (st : ET) : Prop where
 run : JI f st.1 = .inl st.2
 good : FB st.2 (c + k)
 prog : EL f t k st.2
 cut : ∀ n, ∃ (x : Id) (j : Nat), JI f (st.1.take n) = .inl x ∧ FB x (c + k) ∧ j ≤ k ∧ EL f t j x
structure V6 (f : Id) (t : Gd) (c : Int) (g : Id) : Prop where
 ok : (XM f t).2 = true
 run : JI f (XM f t).1 = .inl g
 good : FB g (c + 3)
 prog : EL f t 3 g
 cut : ∀ n, ∃ (x : Id) (j : Nat), JI f ((XM f t).1.take n) = .inl x ∧ FB x (c + 3) ∧ j ≤ 3 ∧ EL f t j x

theorem MN {a : List Int} (h : a.length ≤ Qa) : Hq a = some (false, ()) := by
 have h20 : Qa = 1048576 := rfl
 unfold Hq
 rw [La (by omega)]
theorem CR {a : List Int} (h : ¬ a.length ≤ Qa) : Hq a = some (true, ()) := by
 have h20 : Qa = 1048576 := rfl
 unfold Hq
 rw [Ja (by omega)]
theorem Ms {α : Type} (l : List α) (k : Nat) : Xd (fun _ (_ : α) => true) k l = true := Hf.2 fun _ _ => rfl
theorem ZF (l : List Int) (hn : l.length ≤ Qa) : Ao l l = some (true, ()) := by
 have h20 : Qa = 1048576 := rfl
 have hl := Sg (step := fun x => Uj x.1.1 x.1.2.1 x.1.2.2.1) l (fun _ _ => true) (fun i => ((l, l, i, ()), ())) (.inl ((), ())) (.inr ((false, ()), ())) (by
  intro k hk
  simp only [Uj]
  rw [Ja (show (k : Int) < ((ja l : Nat) : Int) by omega), Cd hk]
  simp) (by
  simp only [Uj]
  rw [La (by omega)]; rfl) (by omega)
 unfold Ao Zk
 erw [hl]
 rw [Ms]
 simp
theorem BJ (x : Pa) : Ji Sp x x = true := by simp [Ji]
theorem OF (x : Aa) : Ji Wc x x = true := by simp [Ji]
theorem YF (l : List Pa) (hn : l.length ≤ Qa) : Oi l l = some (true, ()) := by
 have h20 : Qa = 1048576 := rfl
 have hl := Sg (step := fun x => Tj x.1.1 x.1.2.1 x.1.2.2.1) l (fun _ _ => true) (fun i => ((l, l, i, ()), ())) (.inl ((), ())) (.inr ((false, ()), ())) (by
  intro k hk
  simp only [Tj]
  rw [Ja (show (k : Int) < ((ja l : Nat) : Int) by omega), Cd hk]
  simp only [cond_true, jb, BJ]; rfl) (by
  simp only [Tj]
  rw [La (by omega)]; rfl) (by omega)
 unfold Oi Yk
 erw [hl]
 rw [Ms]
 simp
theorem WA (l : List Ga) (hn : l.length ≤ Qa) (hr : ∀ x ∈ l, x.2.1.length ≤ Qa) : Hg l l = some (true, ()) := by
 have h20 : Qa = 1048576 := rfl
 have hl := Sg (step := fun x => Oh x.1.1 x.1.2.1 x.1.2.2.1) l (fun _ _ => true) (fun i => ((l, l, i, ()), ())) (.inl ((), ())) (.inr ((false, ()), ())) (by
  intro k hk
  simp only [Oh]
  rw [Ja (show (k : Int) < ((ja l : Nat) : Int) by omega), Cd hk]
  simp only [cond_true, jb, ZF _ (hr _ (qn hk))]
  simp) (by
  simp only [Oh]
  rw [La (by omega)]; rfl) (by omega)
 unfold Hg Li
 erw [hl]
 rw [Ms]
 simp
theorem JJ (m : Ha) (i : Nat) (hi : i < m.2.1.length) (hl : m.2.1[i].length ≤ Qa) :
 Ii (((), (), (i : Int), (0 : Int), ()), (m, m, ())) = some (.inl (((), (), (i : Int), ()), (m, m, ()))) := by
 have h20 : Qa = 1048576 := rfl
 have hl := Sg (step := fun x : ((Unit × (Unit × Nb)) × (Ha × (Ha × Unit))) => Bl x.1.1 x.1.2.1 x.1.2.2.1 x.1.2.2.2.1 x.2.1 x.2.2.1) m.2.1[i] (fun _ _ => true) (fun j => (((), (), (i : Int), j, ()), (m, m, ()))) (.inl (((), (), (i : Int), ()), (m, m, ()))) (.inr ((false, ()), ())) (by
  intro k hk
  simp only [Bl]
  rw [Cd hi]
  simp only [jb]
  rw [Ja (show (k : Int) < ((ja m.2.1[i] : Nat) : Int) by omega), Cd hk]
  simp only [cond_true, jb, OF]; rfl) (by
  simp only [Bl]
  rw [Cd hi]
  simp only [jb]
  rw [La (by omega)]; rfl) (by omega)
 unfold Ii
 erw [hl]
 rw [Ms]; rfl
theorem QI (m : Ha) (hn : m.2.1.length ≤ Qa) (hr : ∀ x ∈ m.2.1, x.length ≤ Qa) : Ip m m = some (true, ()) := by
 have h20 : Qa = 1048576 := rfl
 have hl := Sg (step := fun x : ((Unit × (Unit × (Int × Unit))) × (Ha × (Ha × Unit))) => Al x.1.1 x.1.2.1 x.1.2.2.1 x.2.1 x.2.2.1) m.2.1 (fun _ _ => true) (fun j => (((), (), j, ()), (m, m, ()))) (.inl ((), ())) (.inr ((false, ()), ())) (by
  intro k hk
  simp only [Al]
  rw [Ja (show (k : Int) < ((ja m.2.1 : Nat) : Int) by omega), Cd hk, JJ m k hk (hr _ (qn hk))]
  simp) (by
  simp only [Al]
  rw [La (by omega)]; rfl) (by omega)
 unfold Ip Ul
 erw [hl]
 rw [Ms]
 simp
theorem Y5 (n : Nat) : Tz n 0 0 := ⟨by omega, by have := Nat.two_pow_pos n; omega, by decide, by omega, by omega⟩
theorem TJ {m : Ha} (hm : Zb m = true) : Ri (DA m 0 0 false []) :=
 (Mu _).1 (AM hm (Y5 _) false VZ (by simp))
theorem Jw {m : Ha} (hm : Zb m = true) : Uh m [] = some (DA m 0 0 false [], true, ()) := by
 have h20 : Qa = 1048576 := rfl
 have hz := (JC hm).z
 have he := TJ hm
 have hz2 := My he
 unfold Uh
 rw [Qm _ (by omega), Ar [] (by show (0 : Nat) ≤ _; omega)]
 simp only [jb]
 have : Ch (m, ([] : List (List Gd)), (0 : Int), ([] : List Pa), (0 : Int), false, ()) = some (true, ()) := by
  rw [← (Mu _).2 he]
  exact Sk (DA m 0 0 false []) (by omega)
 rw [this]
 rfl
theorem KE {α : Type} (p : α → Bool) : ∀ (l : List α) (k : Nat), (∀ x ∈ l, p x = false) → Sc p k l = -1
 | [], _, _ => rfl
 | x :: l, k, h => by
  simp only [Sc, h x (by simp), cond_false]
  exact KE p l (k + 1) fun y hy => h y (jr _ hy)
theorem WD {e : Ra} (h : Ri e) {k : Nat} (hk : (k : Int) < e.1.1) (hn : ∀ y ∈ e.2.2.2.1, y.1 ≠ (k : Int)) (b : Bool) :
 Rf e (k : Int) b = some (pE e k b, pR e k b, true, ()) := by
 have h20 : Qa = 1048576 := rfl
 have hz := My h
 have hle := Jl h.hd
 unfold Rf
 rw [Sk _ (by omega), (Mu e).2 h]
 simp only [jb, jg, cond_false]
 rw [La (show ¬ (k : Int) < 0 by omega), La (show ¬ (k : Int) ≥ e.1.1 by omega), Dn _ _ (by omega), KE _ _ _ (fun y hy => by simpa using hn y hy)]
 simp only [jb, cond_false]
 rw [La (show ¬ (-1 : Int) ≥ 0 by decide), ID h hk hn b]
 rfl
theorem B0 {e : Ra} (h : Ri e) {k : Nat} (hk : (k : Int) < e.1.1) (hn : ∀ y ∈ e.2.2.2.1, y.1 ≠ (k : Int)) (b : Bool) : (pR e k b).length ≤ 17 ∧ ∀ x ∈ pR e k b, x.2.1.length ≤ 56 := by
 have F := ND h hk hn b
 constructor
 ·have := Xz (jf (pM e k b) [Mc (pH e k b)]) (Mc e.2.2.2.1)
  have h9 := F.ml
  unfold pR
  have : (jf (pM e k b) [Mc (pH e k b)]).length = (pM e k b).length + 1 := by simp
  omega
 ·intro x hx
  have := Kv _ _ _ hx
  rcases jl.1 (show x ∈ pM e k b ++ [Mc (pH e k b)] from this) with h1 | h1
  ·exact F.mx x h1
  ·rw [qc.1 h1]; exact As _
def Oo (x : Int) (U : Nat) : Prop := ∃ n : Nat, x = (n : Int) ∧ n < 16 ∧ Cf n U
structure JX (U : Nat) (f : Int) (l : List Pa) : Prop where
 fx : Oo f U
 hd : ∀ x ∈ l, x.2.1.1 = 3 → U.testBit (Tp x.2.1) = true
theorem XH {a : Aa} (h : Yb a = true) (hk : a.1 = 3 ∨ a.1 = 4 ∨ a.1 = 5) : a.2.2.2.1 = ((Tp a : Nat) : Int) ∧ Tp a < 4 := by
 rw [Jb] at h
 unfold Lb at h
 unfold Tp
 omega
theorem CV {s n : Nat} (hs : s < 16) (hn : n < 4) : Td .i64 (s : Int) (Be .i64 1 (n : Int)) = ((s ||| 2 ^ n : Nat) : Int) ∧ s ||| 2 ^ n < 16 := by
 have h5 : 2 ^ n < 2 ^ 4 := Nat.pow_lt_pow_right (by omega) hn
 refine ⟨?_, Nat.or_lt_two_pow (n := 4) hs h5⟩
 rw [show (1 : Int) = ((1 : Nat) : Int) from rfl, Qv (by rw [Nat.one_mul]; exact Vu (by omega)) (by omega), Nat.one_shiftLeft, Qy (by omega) (by omega)]
theorem EV {s n U : Nat} (hs : Cf s U) (hn : U.testBit n = true) : Cf (s ||| 2 ^ n) U := fun i hi => by
 rw [Nat.testBit_or, ql, Bool.or_eq_true, decide_eq_true_eq] at hi
 rcases hi with hi | hi
 ·exact hs i hi
 ·rw [← hi]; exact hn
theorem ZJ {U : Nat} : ∀ (l : List Pa) (k : Nat) {s : Int}, Oo s U → (∀ x ∈ l, Yb x.2.1 = true) → (∀ x ∈ l, x.2.1.1 = 3 → U.testBit (Tp x.2.1) = true) →
 Oo (Bc (fun _ s (h : Pa) => cond (h.2.1.1 == 3) (Td .i64 s (Be .i64 1 h.2.1.2.2.2.1)) s) k s l) U
 | [], _, s, h, _, _ => h
 | x :: l, k, s, h, ha, hb => by
  simp only [Bc]
  refine ZJ l (k + 1) ?_ (fun y hy => ha y (jr _ hy)) (fun y hy => hb y (jr _ hy))
  cases h3 : x.2.1.1 == 3 with
  | false => exact h
  | true =>
   have h3' : x.2.1.1 = 3 := by simpa using h3
   obtain ⟨n, rfl, hn, hs⟩ := h
   obtain ⟨e1, e2⟩ := XH (ha x (by simp)) (.inl h3')
   have := CV hn e2
   rw [e1]
   exact ⟨_, this.1, this.2, EV hs (hb x (by simp) h3')⟩
theorem KM {U : Nat} (h0 : U.testBit 0 = true) {f : Int} {l : List Pa} (h : JX U f l) (ha : ∀ x ∈ l, Yb x.2.1 = true) : Oo (Kf f l) U := by
 unfold Kf
 refine ZJ l 0 ?_ ha h.hd
 obtain ⟨n, rfl, hn, hs⟩ := h.fx
 refine ⟨1 ||| n, Qy (a := 1) (by decide) (by omega), Nat.or_lt_two_pow (n := 4) (by decide) hn, fun i hi => ?_⟩
 rw [Nat.testBit_or, Bool.or_eq_true] at hi
 rcases hi with hi | hi
 ·rw [Nat.testBit_one_eq_true_iff_self_eq_zero] at hi
  rw [hi]; exact h0
 ·exact hs i hi
theorem UG {U i : Nat} (hb : U.testBit i = true) (L : List (List Aa)) (k : Nat) : Cg (Zi U 0 L) i k = Cg L i k := by
 unfold Cg
 by_cases hi : i < L.length
 ·have h1 : (Zi U 0 L).getD i [] = L.getD i [] := by
   rw [Oy (L := L) hi, Oy (L := Zi U 0 L) (by rw [Qi]; exact hi), Sy U L 0 i hi, js, hb]
   rfl
  rw [h1]
 ·have h1 : (Zi U 0 L).getD i [] = L.getD i [] := by
   rw [qh, qh, List.getElem?_eq_none (l := L) (by omega), List.getElem?_eq_none (l := Zi U 0 L) (by rw [Qi]; omega)]
  rw [h1]
theorem Kx {U : Nat} {on : Int} (h : Oo on U) (L : List (List Aa)) (k : Nat) : ∀ j, j ≤ 64 → Md (Zi U 0 L) on k j = Md L on k j
 | 0, _ => rfl
 | j + 1, hj => by
  simp only [Md]
  rw [Kx h L k j (by omega)]
  obtain ⟨n, rfl, hn, hs⟩ := h
  rw [Yp (by omega) hj]
  cases hb : n.testBit (j + 1) with
  | false => rfl
  | true => rw [UG (hs _ hb)]
theorem Pr {U : Nat} (h0 : U.testBit 0 = true) {on : Int} (h : Oo on U) (L : List (List Aa)) (k : Nat) : ∀ j, j ≤ 64 → U.testBit (Md L on k j) = true
 | 0, _ => h0
 | j + 1, hj => by
  have ih := Pr h0 h L k j (by omega)
  simp only [Md]
  obtain ⟨n, rfl, hn, hs⟩ := h
  rw [Yp (by omega) hj]
  cases hb : n.testBit (j + 1) with
  | false => exact ih
  | true =>
   cases ((Cg L (j + 1) k).1 != 1) with
   | false => exact ih
   | true => exact hs _ hb
def Te (U : Nat) (e : Ra) : Ra := (Sx U e.1, e.2)
structure Di (U : Nat) (e : Ra) : Prop where
 ok : Ri e
 us : U = Ke e.1
 ti : JX U e.2.2.1 e.2.2.2.1
theorem Di.b0 {U : Nat} {e : Ra} (h : Di U e) : U.testBit 0 = true := by rw [h.us]; exact EQ _
theorem Di.sub {U : Nat} {e : Ra} (h : Di U e) : Oo (Kf e.2.2.1 e.2.2.2.1) U :=
 KM h.b0 h.ti fun x hx => (Ix h.ok.hd x hx).act
theorem DB (U : Nat) (e : Ra) : (Te U e).1.2.1.length = e.1.2.1.length := Qi U _ 0
theorem SV {U : Nat} {e : Ra} (h : Di U e) : Ri (Te U e) :=
 ⟨TP h.ok.km h.b0, h.ok.m4, h.ok.hd, h.ok.mac, by rw [DB]; exact h.ok.hin, by rw [DB]; exact h.ok.st⟩
theorem ZS {U : Nat} {e : Ra} (h : Di U e) (k : Nat) (b : Bool) : Iq (Te U e) k b = Iq e k b := by
 have hm := Pe h.ok.km
 have hl2 := hm.l2
 have e1 : Jf (Te U e).1 (Kf e.2.2.1 e.2.2.2.1) k = Jf e.1 (Kf e.2.2.1 e.2.2.2.1) k := by
  unfold Jf
  rw [DB]
  exact Kx h.sub e.1.2.1 k _ (by omega)
 have e2 : Cg (Te U e).1.2.1 (Jf (Te U e).1 (Kf (Te U e).2.2.1 (Te U e).2.2.2.1) k) k = Cg e.1.2.1 (Jf e.1 (Kf e.2.2.1 e.2.2.2.1) k) k := by
  show Cg (Zi U 0 e.1.2.1) (Jf (Te U e).1 (Kf e.2.2.1 e.2.2.2.1) k) k = _
  rw [e1]
  exact UG (Pr h.b0 h.sub e.1.2.1 k _ (by omega)) _ _
 unfold Iq
 rw [e2]
theorem CN {U : Nat} {e : Ra} (h : Di U e) (k : Nat) (b : Bool) : pE (Te U e) k b = Te U (pE e k b) ∧ pR (Te U e) k b = pR e k b := by
 have h1 : Ah (Te U e) k b = Ah e k b := by unfold Ah; rw [ZS h]; rfl
 have h2 : pH (Te U e) k b = pH e k b := by unfold pH; rw [h1]; rfl
 have h3 : pM (Te U e) k b = pM e k b := by unfold pM; rw [h1, h2]; rfl
 constructor
 ·unfold pE; rw [h1, h2]; rfl
 ·unfold pR; rw [h2, h3]; rfl
theorem VI (U : Nat) (e : Ra) (i : Nat) : rE (Te U e) i = Te U (rE e i) ∧ rR (Te U e) i = rR e i := ⟨rfl, rfl⟩
theorem SP {U : Nat} {e : Ra} (h : Di U e) {k : Nat} (hk : (k : Int) < e.1.1) (b : Bool) (ht : (Iq e k b).1 = 3 ∨ (Iq e k b).1 = 4 ∨ (Iq e k b).1 = 5) : U.testBit (Tp (Iq e k b)) = true := by
 have hm := Pe h.ok.km
 have hl2 := hm.l2
 have hb := Pr h.b0 h.sub e.1.2.1 k (e.1.2.1.length - 1) (by omega)
 have hlt := Lx hm (Kf e.2.2.1 e.2.2.2.1) k
 have hrow := hm.row _ hlt
 have hkk : k < (e.1.2.1[Jf e.1 (Kf e.2.2.1 e.2.2.2.1) k]'hlt).length := by omega
 have hact := hm.act _ hlt k hkk
 have hmem := qn hkk
 have e2 := Dv hlt hkk
 have hcl := fun ht => MJ hm hlt (by rw [← h.us]; exact hb) hmem ht
 rw [← h.us] at hcl
 rw [← e2] at hcl hact
 unfold Iq at ht ⊢
 generalize Cg e.1.2.1 (Jf e.1 (Kf e.2.2.1 e.2.2.2.1) k) k = a at *
 obtain ⟨h1, h2⟩ := EM hact
 cases b with
 | true =>
  simp only [cond_true] at ht ⊢
  have h3 : Ug a = true := by
   rw [← h1]; simp only [Bool.or_eq_true, beq_iff_eq]; omega
  have := hcl h3
  unfold Tp at this ⊢
  rw [h2 h3]
  exact this
 | false =>
  simp only [cond_false] at ht ⊢
  unfold Ft at ht ⊢
  cases hT : Ng a with
  | true =>
   rw [hT] at ht
   simp only [cond_true] at ht
   omega
  | false =>
   rw [hT] at ht
   simp only [cond_false] at ht ⊢
   exact hcl (by unfold Ug; simp only [Bool.or_eq_true, beq_iff_eq]; omega)
theorem BT {U n : Nat} {f : Int} (h : Oo f U) (hn : n < 4) (hb : U.testBit n = true) : Oo (Gp .i64 f (Be .i64 1 (n : Int))) U := by
 obtain ⟨m, rfl, hm, hs⟩ := h
 have h5 : 2 ^ n < 2 ^ 4 := Nat.pow_lt_pow_right (by omega) hn
 refine ⟨m ^^^ 2 ^ n, ?_, qm (n := 4) hm h5, fun i hi => ?_⟩
 ·rw [show (1 : Int) = ((1 : Nat) : Int) from rfl, Qv (by rw [Nat.one_mul]; exact Vu (by omega)) (by omega), Nat.one_shiftLeft, PR (by omega) (by omega)]
 ·rw [Nat.testBit_xor, ql] at hi
  by_cases hni : n = i
  ·rw [← hni]; exact hb
  ·rw [decide_eq_false hni, Bool.xor_false] at hi
   exact hs i hi
theorem QV {U n : Nat} (hn : n < 4) (hb : U.testBit n = true) : Oo (Ff .i64 (Be .i64 1 (n : Int)) 1) U := by
 have h5 : 2 ^ n < 2 ^ 4 := Nat.pow_lt_pow_right (by omega) hn
 refine ⟨2 ^ n ^^^ (2 ^ n &&& 1), ?_, qm (n := 4) h5 (Nat.and_lt_two_pow _ (by decide)), fun i hi => ?_⟩
 ·rw [show (1 : Int) = ((1 : Nat) : Int) from rfl, Qv (by rw [Nat.one_mul]; exact Vu (by omega)) (by omega), Nat.one_shiftLeft, NE (by omega) (by decide)]
 ·rw [Nat.testBit_xor, Nat.testBit_and, ql] at hi
  by_cases hni : n = i
  ·rw [← hni]; exact hb
  ·rw [decide_eq_false hni] at hi
   simp at hi
theorem TS {U : Nat} {f o : Int} {c : Bool} {a : Aa} (hf : Oo f U) (ha : Yb a = true) (hu : a.1 = 3 ∨ a.1 = 4 ∨ a.1 = 5 → U.testBit (Tp a) = true) :
 Oo (Lo f o c a).1 U ∧ ((Lo f o c a).2.2.2.1 = 3 → U.testBit (Tp (Lo f o c a).2.2.2) = true) := by
 unfold Lo
 cases h2 : a.1 == 2 with
 | true =>
  have h2' : a.1 = 2 := by simpa using h2
  cases a.2.1 == 0 with
  | true => exact ⟨hf, fun h => hu (.inl h)⟩
  | false => exact ⟨hf, fun h => absurd (show a.1 = 3 from h) (by omega)⟩
 | false =>
  cases h4 : a.1 == 4 with
  | true =>
   have h4' : a.1 = 4 := by simpa using h4
   obtain ⟨e, hn⟩ := XH ha (.inr (.inl h4'))
   refine ⟨?_, fun h => hu (.inl h)⟩
   show Oo (Gp .i64 f (Be .i64 1 a.2.2.2.1)) U
   rw [e]
   exact BT hf hn (hu (.inr (.inl h4')))
  | false =>
   cases h5 : a.1 == 5 with
   | true =>
    have h5' : a.1 = 5 := by simpa using h5
    obtain ⟨e, hn⟩ := XH ha (.inr (.inr h5'))
    refine ⟨?_, fun h => hu (.inl h)⟩
    show Oo (Ff .i64 (Be .i64 1 a.2.2.2.1) 1) U
    rw [e]
    exact QV hn (hu (.inr (.inr h5')))
   | false =>
    cases a.1 == 8 with
    | true => exact ⟨hf, fun h => hu (.inl h)⟩
    | false => cases a.1 == 10 <;> exact ⟨hf, fun h => hu (.inl h)⟩
theorem BN {U : Nat} {e : Ra} (h : Di U e) {k : Nat} (hk : (k : Int) < e.1.1) (hn : ∀ y ∈ e.2.2.2.1, y.1 ≠ (k : Int)) (b : Bool) : Di U (pE e k b) := by
 have F := ND h.ok hk hn b
 have hs := TS (o := e.2.2.2.2.1) (c := e.2.2.2.2.2.1) h.ti.fx F.act.act (SP h hk b)
 refine ⟨F.ok, h.us, ⟨hs.1, fun x hx => ?_⟩⟩
 rcases jl.1 (show x ∈ e.2.2.2.1 ++ [((k : Int), (Ah e k b).2.2.2, ())] from hx) with hx | hx
 ·exact h.ti.hd x hx
 ·rw [qc.1 hx]
  exact hs.2
theorem UI {U : Nat} {e : Ra} (h : Di U e) (i : Nat) : Di U (rE e i) :=
 ⟨E0 h.ok i, h.us, ⟨h.ti.fx, fun x hx => h.ti.hd x ((XC _ i).subset hx)⟩⟩
theorem VR {U : Nat} {x : Int} (hU : U < 16) (h : Oo x U) : Ff .i64 x (U : Int) = 0 := by
 obtain ⟨n, rfl, hn, hs⟩ := h
 rw [NE (by omega) (by omega)]
 have : n &&& U = n := Nat.eq_of_testBit_eq fun i => by
  rw [Nat.testBit_and]
  cases hb : n.testBit i with
  | false => rfl
  | true => rw [hs i hb]; rfl
 rw [this, Nat.xor_self]
 rfl
theorem LE {α : Type} (p : α → Bool) : ∀ (l : List α) (k : Nat), (∀ x ∈ l, p x = false) ∨ ∃ i, i < l.length ∧ Sc p k l = ((k + i : Nat) : Int)
 | [], _ => .inl (by simp)
 | x :: l, k => by
  cases hx : p x with
  | true => exact .inr ⟨0, by simp, by simp only [Sc, hx, cond_true, Nat.add_zero]⟩
  | false =>
   rcases LE p l (k + 1) with h | ⟨i, hi, he⟩
   ·left
    intro y hy
    rcases jp.1 hy with rfl | hy
    ·exact hx
    ·exact h y hy
   ·right
    refine ⟨i + 1, by simpa using hi, ?_⟩
    simp only [Sc, hx, cond_false]
    rw [he, show k + 1 + i = k + (i + 1) by omega]
theorem HB {e : Ra} (h : Ri e) {k i : Nat} (hk : (k : Int) < e.1.1) (hf : Sc (fun h : Pa => h.1 == (k : Int)) 0 e.2.2.2.1 = (i : Int)) (b : Bool) :
 ∃ z, Rf e (k : Int) b = some (z, [], false, ()) := by
 have h20 : Qa = 1048576 := rfl
 have hz := My h
 have hle := Jl h.hd
 unfold Rf
 rw [Sk _ (by omega), (Mu e).2 h]
 simp only [jb, jg, cond_false]
 rw [La (show ¬ (k : Int) < 0 by omega), La (show ¬ (k : Int) ≥ e.1.1 by omega), Dn _ _ (by omega), hf]
 simp only [jb, cond_false]
 rw [Ja (show (i : Int) ≥ 0 by omega)]
 exact ⟨_, rfl⟩
theorem Cz {e : Ra} (h : Ri e) {k : Int} {i : Nat} (hi : i < e.2.2.2.1.length) (hf : Sc (fun h : Pa => h.1 == k) 0 e.2.2.2.1 = (i : Int)) :
 Ci e k = some (rE e i, rR e i, true, ()) := by
 have h20 : Qa = 1048576 := rfl
 have hz := My h
 have hle := Jl h.hd
 unfold Ci
 rw [Sk _ (by omega), (Mu e).2 h]
 simp only [jb, jg, cond_false]
 rw [Dn _ _ (by omega), hf]
 simp only [jb]
 rw [La (show ¬ (i : Int) < 0 by omega), MA h hi hf]
 rfl
theorem G0 (e : Ra) (i : Nat) : (rR e i).length ≤ 17 ∧ ∀ x ∈ rR e i, x.2.1.length ≤ 56 := by
 constructor
 ·have := Xz [Mc (wo e.2.2.2.1 i)] (Mc e.2.2.2.1)
  unfold rR
  simp only [List.length_singleton] at this
  omega
 ·intro x hx
  have := Kv _ _ _ hx
  rw [qc.1 this]; exact As _
theorem IJ {a : List Int} (hn : a.length ≤ Qa) {U : Nat} (hU : U < 16) {x : Ra} (h : Di U x) (h4 : x.1.1 = 4) {j : Nat} (hj : j < 12) :
 ∃ y, Di U y ∧ y.1.1 = 4 ∧ Rg a (U : Int) () () (j : Int) x (Te U x) = some (.inl ((a, (U : Int), (), (), ((j + 1 : Nat) : Int), ()), (y, Te U y, ()))) := by
 have h20 : Qa = 1048576 := rfl
 obtain ⟨ki, ek, hk0, hk4⟩ := VE a (154 + (j : Int)) 4 hn (by omega)
 obtain ⟨k, rfl⟩ := jv hk0
 obtain ⟨hi, eh, _, _⟩ := VE a (166 + (j : Int)) 2 hn (by omega)
 have hk : (k : Int) < x.1.1 := by omega
 have hT := SV h
 have hkT : (k : Int) < (Te U x).1.1 := hk
 have tail : ∀ {y : Ra} {R : List Ga}, Di U y → R.length ≤ 17 → (∀ r ∈ R, r.2.1.length ≤ 56) → Hg R R = some (true, ()) ∧ Oi y.2.2.2.1 (Te U y).2.2.2.1 = some (true, ()) ∧
  (y.2.2.1 != (Te U y).2.2.1) = false ∧ ∃ l, Dh y.2.2.1 y.2.2.2.1 = some (l, ()) ∧ Ff .i64 l (U : Int) = 0 := by
  intro y R hy h1 h2
  have hle := Jl hy.ok.hd
  have hst := hy.ok.st
  have h16 := SA (Pe hy.ok.km).l2
  have h1' := hst.f1
  refine ⟨WA _ (by omega) (fun r hr => by have := h2 r hr; omega), YF _ (by omega), by show (y.2.2.1 != y.2.2.1) = false; simp, _, Pu ⟨hst.f0, by omega⟩ _ (by omega) hy.ok.hd, VR hU hy.sub⟩
 simp only [Rg]
 rw [Ja (show (j : Int) < 12 by omega), Ae (n := 154 + (j : Int)) (by omega) (by omega), ek, Ae (n := 166 + (j : Int)) (by omega) (by omega), eh, Af (by omega)]
 simp only [cond_true, jb]
 rcases LE (fun h : Pa => h.1 == (k : Int)) x.2.2.2.1 0 with hno | ⟨i, hi1, hf⟩
 ·have hno' : ∀ y ∈ x.2.2.2.1, y.1 ≠ (k : Int) := fun y hy => by simpa using hno y hy
  have p1 : Rf ((x.1.1, x.1.2.1, ()), x.2) (k : Int) (hi == 0) = _ := WD h.ok hk hno' (hi == 0)
  have p2 : Rf (((Te U x).1.1, (Te U x).1.2.1, ()), (Te U x).2) (k : Int) (hi == 0) = _ := WD hT hkT hno' (hi == 0)
  obtain ⟨t1, t2⟩ := CN h k (hi == 0)
  rw [t1, t2] at p2
  have hR := B0 h.ok hk hno' (hi == 0)
  have hy := BN h hk hno' (hi == 0)
  obtain ⟨s1, s2, s3, l, s4, s5⟩ := tail hy hR.1 hR.2
  refine ⟨pE x k (hi == 0), hy, h4, ?_⟩
  rw [p1, p2]
  simp only [jb, jg, cond_false]
  rw [s1]
  simp only [jb, jg, cond_false]
  rw [s2]
  simp only [jb, jg, cond_false]
  rw [s3, s4]
  simp only [jb, cond_false]
  rw [s5]
  rfl
 ·rw [js] at hf
  obtain ⟨z1, p1'⟩ := HB h.ok hk hf (hi == 0)
  have p1 : Rf ((x.1.1, x.1.2.1, ()), x.2) (k : Int) (hi == 0) = _ := p1'
  obtain ⟨z2, p2'⟩ := HB hT hkT hf (hi == 0)
  have p2 : Rf (((Te U x).1.1, (Te U x).1.2.1, ()), (Te U x).2) (k : Int) (hi == 0) = _ := p2'
  have q1 : Ci ((x.1.1, x.1.2.1, ()), x.2) (k : Int) = _ := Cz h.ok hi1 hf
  have q2 : Ci (((Te U x).1.1, (Te U x).1.2.1, ()), (Te U x).2) (k : Int) = _ := Cz hT hi1 hf
  obtain ⟨t1, t2⟩ := VI U x i
  rw [t1, t2] at q2
  have hR := G0 x i
  have hy := UI h i
  obtain ⟨s1, s2, s3, l, s4, s5⟩ := tail hy hR.1 hR.2
  refine ⟨rE x i, hy, h4, ?_⟩
  rw [p1, p2]
  simp only [jb, Bool.not_false, cond_true]
  rw [q1, q2]
  simp only [jb, jg, cond_false]
  rw [s1]
  simp only [jb, jg, cond_false]
  rw [s2]
  simp only [jb, jg, cond_false]
  rw [s3, s4]
  simp only [jb, cond_false]
  rw [s5]
  rfl
theorem HJ {a : List Int} (hn : a.length ≤ Qa) {U : Nat} (hU : U < 16) {x : Ra} (h : Di U x) (h4 : x.1.1 = 4) :
 Fk ((a, (U : Int), (), (), (0 : Int), ()), (x, Te U x, ())) = some (.inl ((), ())) := by
 obtain ⟨r, hr, hq⟩ := Cr (s := fun x : ((List Int) × (Int × (Unit × (Unit × (Int × Unit))))) × (Ra × (Ra × Unit)) => Rg x.1.1 x.1.2.1 x.1.2.2.1 x.1.2.2.2.1 x.1.2.2.2.2.1 x.2.1 x.2.2.1)
  (fun n s => ∃ (j : Nat) (x : Ra), n + j = 12 ∧ Di U x ∧ x.1.1 = 4 ∧ s = ((a, (U : Int), (), (), (j : Int), ()), (x, Te U x, ()))) (fun r => r = .inl ((), ())) (by
  rintro n s ⟨j, x, hnj, hx, hx4, rfl⟩
  by_cases hj : j < 12
  ·obtain ⟨y, hy, hy4, e⟩ := IJ hn hU hx hx4 hj
   exact .inr ⟨_, n - 1, by omega, e, j + 1, y, by omega, hy, hy4, rfl⟩
  ·left
   refine ⟨_, ?_, rfl⟩
   simp only [Rg]
   rw [La (by omega)]
   rfl) 12 _ ⟨0, x, rfl, h, h4, rfl⟩
 rw [hq] at hr
 exact hr
theorem YH (a : List Int) : Hl a = some (true, ()) := by
 have h20 : Qa = 1048576 := rfl
 by_cases hn : a.length ≤ Qa
 case neg => unfold Hl; rw [CR hn]; rfl
 obtain ⟨m, em, hv, hm4⟩ := NF a 153 (keys := 4) hn (by omega) (by omega)
 have hmz := (JC hv).z
 have hm := Pe hv
 have h16 := SA hm.l2
 have hl2 := hm.l2
 obtain ⟨e1, hU⟩ := EB hm
 have h0 := EQ m
 have hpv := TP hv h0
 have hpz := (JC hpv).z
 have hp := Pe hpv
 have hu1 := Pm m (by omega)
 rw [hv, e1] at hu1
 have hu2 := Pm (Sx (Ke m) m) (by omega)
 rw [hpv, (EB hp).1, WK] at hu2
 have hpp := Gt hpv (by omega)
 rw [WK] at hpp
 have hpe : Sx (Ke m) (Sx (Ke m) m) = Sx (Ke m) m := by
  unfold Sx
  simp only [YE]
 rw [hpe] at hpp
 have hti : Di (Ke m) (DA m 0 0 false []) :=
  ⟨TJ hv, rfl, ⟨⟨0, rfl, by omega, fun i hi => by simp at hi⟩, fun x hx => by simp [DA] at hx⟩⟩
 have hne2 : Uh (Sx (Ke m) m) [] = some (Te (Ke m) (DA m 0 0 false []), true, ()) := Jw hpv
 have hloop := HJ hn (by omega) hti (by show m.1 = 4; rw [hm4]; rfl)
 unfold Hl
 rw [MN hn]
 simp only [jb, cond_false]
 rw [show Bj a 153 4 = some (m, ()) from em]
 simp only [jb]
 rw [Gt hv (by omega), hu1]
 simp only [jb, cond_true]
 rw [Jw hv, hne2]
 simp only [jb, jg, cond_false]
 have ha1 : Qk .i64 ((Ke m : Nat) : Int) 1 = 1 := by
  have := JA (a := Ke m) (b := 1) (by omega) (by decide)
  rw [show (1 : Int) = ((1 : Nat) : Int) from rfl, this, Nat.and_one_is_mod]
  rw [Nat.testBit_zero, decide_eq_true_eq] at h0
  rw [h0]
 rw [ha1, Ja (show (0 : Int) ≤ ((ja m.2.1 : Nat) : Int) by omega), OA _ (by omega), Nat.shiftRight_eq_div_pow, Nat.div_eq_of_lt hU]
 rw [show ((1 : Int) == 0) = false from rfl, show ((((0 : Nat) : Int)) != 0) = false from rfl]
 simp only [cond_false, cond_true]
 rw [hu2]
 simp only [jb, cond_true, bne_self_eq_false, cond_false]
 rw [hpp]
 simp only [jb]
 rw [QI _ (by show (Zi _ 0 m.2.1).length ≤ _; rw [Qi]; omega) (fun x hx => by
  obtain ⟨i, hi, rfl⟩ := qp hx
  have := hp.row i hi
  have := hp.k2
  omega)]
 simp only [jb, jg, cond_false]
 rw [hloop]
 rfl
end KF
