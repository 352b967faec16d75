/- An evaluator of Go functions on plain data, its soundness, and plain laws on what the functions compute, part 5 (conditions: as each lemma tells). -/
import Derived.Test.YteooipbgmfmhfaaGreatDoorD
set_option linter.unusedSimpArgs false
set_option linter.unusedVariables false
namespace KF
open Go
open List renaming length → ja, getElem?_eq_getElem → je, append → jf, mem_append → jl, mem_cons → jp, mem_cons_of_mem → jr, length_cons → jw, set → j5, length_nil → j6, mem_singleton → qa, length_append → qb, getD_eq_getElem?_getD → qd, getElem_mem → qf, mem_map → qg, ext_getElem? → qj, drop_drop → qk, toArray → ql, getD → qm, getElem?_eq_none → qn, mem_append_left → qo, mem_append_right → qp, append_assoc → qt, eq_nil_of_length_eq_zero → qv, getElem?_eq_some_iff → qw, length_eq_one_iff → qx, replicate → q0, cons_append → q8, map_cons → ya, map_nil → yb, nodup_cons → yd, nodup_append → ye, size_toArray → yf, flatten_cons → yg, length_map → yi, mem_map_of_mem → yk, map_append → yl, all_eq_true → ym, range → yo, map → yq, not_mem_nil → yr
open Option renaming bind_some → jb, bind → jz, map_some → j9, bind_eq_some_iff → qc, getD_some → qs, map_eq_some_iff → yn
open Option.some renaming injEq → jc, inj → yp
open Bool renaming and_eq_true → jd, not_true → jg, true_and → jk, false_eq_true → jq, not_eq_true → j7, or_eq_true → qr, not_eq_true' → yc, false_or → yj
open Prod.mk renaming injEq → jh
open Nat renaming ble_eq_true_of_le → ji, mul_le_mul_right → jm, le_refl → jo, zero_add → js, add_assoc → jt, eq_of_beq_eq_true → ju, ble → jx, le_trans → j8, beq → qq, le_of_ble_eq_true → qu, add_zero → qy, blt → qz, blt_eq → q6, add_mul → q7, succ_mul → yh
open Int renaming toNat_natCast → jn, eq_ofNat_of_zero_le → jv, toNat → jy
open Go.IntKind renaming wrap → j4
open Sum renaming elim_inl → qe
open Result renaming andThen_ok → qh
open Sem renaming run_bind → qi
open List.cons renaming injEq → q9
theorem QY (m : Ea) (seen : List (Fd × List Cm)) (x : Fd) (e1 e2 : Hb) (o : List Cm) (K k : Int) (L : List Ga) (hL : L.length ≤ 2) (hv : ∀ r ∈ L, Od r = true) :
 Wg (((), (), (), o, (), ([] : List UInt8), K, k, L, ((ja L : Nat) : Int), (0 : Int), ()), ((m, seen, ()), x, e1, e2, ())) =
  some (.inl (((), (), (), o, (), Ql L, K, k, ()), ((m, seen, ()), x, e1, e2, ()))) := by
 have h20 : Pa = 1048576 := rfl
 have hl := LA (step := fun x => Li x.1.1 x.1.2.1 x.1.2.2.1 x.1.2.2.2.1 x.1.2.2.2.2.1 x.1.2.2.2.2.2.1 x.1.2.2.2.2.2.2.1 x.1.2.2.2.2.2.2.2.1 x.1.2.2.2.2.2.2.2.2.1 x.1.2.2.2.2.2.2.2.2.2.1 x.1.2.2.2.2.2.2.2.2.2.2.1 x.2.1 x.2.2.1 x.2.2.2.1 x.2.2.2.2.1)
  L.length (by omega) (fun k s => s + 1) 0 (fun s i => (((), (), (), o, (), Ql (L.take s), K, k, L, ((ja L : Nat) : Int), i, ()), ((m, seen, ()), x, e1, e2, ())))
  (fun s => .inl (((), (), (), o, (), Ql (L.take s), K, k, ()), ((m, seen, ()), x, e1, e2, ()))) (by
   intro j hj
   have hit : ∀ n, Kh (fun k s => s + 1) n 0 = n := fun n => by
    induction n with
    | zero => rfl
    | succ n ih => simp only [Kh, ih]
   rw [hit]
   simp only [Li]
   rw [Ia (by omega), Kr]
   rw [show decide (j < L.length) = true from decide_eq_true hj]
   simp only [yt]
   rw [jn, je hj]
   simp only [jb]
   have hk1 : L[j].2.1.length ≤ 56 := Lz (hv _ (qf hj))
   rw [JC _ (by omega)]
   have h1 := LQ L[j]
   have h2 := KV (L.take j)
   have h3 : (L.take j).length ≤ 2 := by rw [List.length_take]; omega
   simp only [jb]
   rw [Ue (by simp; omega), Ue (by simp only [List.append_eq, qb, jw, j6]; omega)]
   simp only [yt]
   have ht : L.take (j + 1) = L.take j ++ [L[j]] := by simp [hj]
   rw [ht, Caa, List.set_getElem_self hj]
   rfl) (by
   have hit : ∀ n, Kh (fun k s => s + 1) n 0 = n := fun n => by
    induction n with
    | zero => rfl
    | succ n ih => simp only [Kh, ih]
   rw [hit]
   simp only [Li]
   rw [Ja (by omega)]; rfl)
 have hit : Kh (fun k s => s + 1) L.length 0 = L.length := by
  generalize L.length = n
  induction n with
  | zero => rfl
  | succ n ih => simp only [Kh, ih]
 rw [hit, List.take_length, List.take_zero] at hl
 unfold Wg
 exact hl
noncomputable def OB (m : Ea) (x : Fd) (k : Nat) : Cm := (Wz m x k, Ql (Jn m x k), ())
noncomputable def Iw (m : Ea) (x : Fd) (n : Nat) : List Cm := (yo n).map (OB m x)
noncomputable def Pg (m : Ea) (x : Fd) : List Cm := Iw m x m.1.toNat
theorem RY (m : Ea) (x : Fd) (n : Nat) : Iw m x (n + 1) = Iw m x n ++ [OB m x n] := by
 unfold Iw
 rw [List.range_succ, yl]; rfl
theorem KN (m : Ea) (x : Fd) (n : Nat) : (Iw m x n).length = n := by simp [Iw]
def SF (m : Ea) (seen : List (Fd × List Cm)) : Prop := ∀ e ∈ seen, e.2 = Pg m e.1
theorem SE {κ : Ty} (hc : κ.cmp = true) {α : Type} : ∀ {xs : List (T κ × α)} {n : T κ} {y : α}, Td κ xs n = some y → (n, y) ∈ xs
 | [], n, y, h => by simp [Td] at h
 | (k, x) :: r, n, y, h => by
  simp only [Td] at h
  cases hk : Ye κ n k with
  | true =>
   rw [hk] at h
   simp only [yt, jc] at h
   subst h
   rw [XA hc hk]; simp
  | false => rw [hk] at h; exact jr _ (SE hc h)
theorem YM {κ : Ty} {α : Type} : ∀ {xs : List (T κ × α)} {n : T κ} {y : α} {e : T κ × α}, e ∈ Bi κ xs n y → e = (n, y) ∨ e ∈ xs
 | [], n, y, e, h => by simp [Bi] at h; exact .inl h
 | (k, x) :: r, n, y, e, h => by
  simp only [Bi] at h
  cases hk : Ye κ n k with
  | true =>
   rw [hk] at h
   simp only [yt, jp] at h
   exact h.imp id (jr _)
  | false =>
   rw [hk] at h
   simp only [yu, jp] at h
   rcases h with h | h
   ·exact .inr (by rw [h]; simp)
   ·exact (YM h).imp id (jr _)
theorem Yx {m : Ea} (hM : Xh m) : ((m.1.toNat : Nat) : Int) = m.1 ∧ m.1.toNat ≤ 32 := by
 have hm := Gh hM.v
 have := hm.k1
 have := hm.k2
 omega
theorem HV {m : Ea} (hM : Xh m) {x : Fd} (hx : Du m x) {seen : List (Fd × List Cm)} (hs : SF m seen) :
 ∃ seen', Ak m seen x = some (m, seen', Pg m x) ∧ SF m seen' := by
 unfold Ak
 cases hg : Td Pc seen x with
 | some l =>
  refine ⟨seen, ?_, hs⟩
  have := hs _ (SE (by decide) hg)
  simp only [Option.isSome_some, yt, qs]
  rw [show l = Pg m x from this]
 | none =>
  simp only [Option.isSome_none, yu]
  obtain ⟨hk1, hk2⟩ := Yx hM
  have hl := LA (step := fun x => Dj x.1.1 x.1.2.1 x.1.2.2.1 x.1.2.2.2.1 x.1.2.2.2.2.1 x.1.2.2.2.2.2.1 x.2.1 x.2.2.1 x.2.2.2.1)
   m.1.toNat (by omega) (fun k s => s + 1) 0 (fun s i => (((), (), (), Iw m x s, m.1, i, ()), ((m, seen, ()), x, Hf m x.1 x.2.1 x.2.2.1 [], ())))
   (fun s => .inl (((), (), Iw m x s, ()), ((m, seen, ()), x, ()))) (by
    intro j hj
    have hit : ∀ n, Kh (fun k s => s + 1) n 0 = n := fun n => by
     induction n with
     | zero => rfl
     | succ n ih => simp only [Kh, ih]
    rw [hit]
    have hjm : (j : Int) < m.1 := by omega
    obtain ⟨hy1, hy2⟩ := DF hM hx hjm
    simp only [Dj]
    rw [Ia (by omega), TN hM hx hjm]
    simp only [yt, jb]
    rw [UJ hM hx hjm]
    simp only [jb]
    have hle : (Qk m x.1 x.2.1 x.2.2.1 j).length + (PB m x.1 x.2.1 x.2.2.1 j).length ≤ 2 := by
     have := hy1; unfold Jn at this; rw [qb] at this; exact this
    rw [Ue (by omega)]
    simp only [yt]
    rw [show jf (Qk m x.1 x.2.1 x.2.2.1 j) (PB m x.1 x.2.1 x.2.2.1 j) = Jn m x j from rfl]
    erw [QY m seen x (Hf m x.1 x.2.1 x.2.2.1 []) (Hf m (Vf m x.1 x.2.1 x.2.2.1 j).1 (Vf m x.1 x.2.1 x.2.2.1 j).2.1 (Vf m x.1 x.2.1 x.2.2.1 j).2.2.1 []) (Iw m x j) m.1 (j : Int) (Jn m x j) hy1 hy2]
    simp only [jb, qe]
    rw [Ue (by rw [KN]; simp; omega)]
    simp only [yt]
    rw [RY]
    rfl) (by
    have hit : ∀ n, Kh (fun k s => s + 1) n 0 = n := fun n => by
     induction n with
     | zero => rfl
     | succ n ih => simp only [Kh, ih]
    rw [hit]
    simp only [Dj]
    rw [Ja (by omega)]; rfl)
  have hit : Kh (fun k s => s + 1) m.1.toNat 0 = m.1.toNat := by
   generalize m.1.toNat = n
   induction n with
   | zero => rfl
   | succ n ih => simp only [Kh, ih]
  rw [hit] at hl
  refine ⟨Bi Pc seen x (Pg m x), ?_, fun e he => ?_⟩
  ·unfold Kk
   erw [hl]
   rfl
  ·rcases YM he with rfl | he
   ·rfl
   ·exact hs e he


theorem Aa {n m : Nat} (h : n ≤ 1000) (hm : m ≤ 10) : jx (n + m) Ob = true := ji (by rw [Vi]; omega)


theorem FR : ∀ (n : Nat) (l : List Nat), l.Nodup → (∀ x ∈ l, x < n) → l.length ≤ n
 | 0, l, _, h => by
  cases l with
  | nil => exact jo _
  | cons x l => exact absurd (h x (List.mem_cons_self ..)) (Nat.not_lt_zero _)
 | n + 1, l, hn, h => by
  have := FR n (l.erase n) (hn.erase n) (fun x hx => by
   have h1 := (hn.mem_erase_iff).1 hx
   have := h x h1.2
   have := h1.1
   omega)
  have h2 := List.length_erase (a := n) (l := l)
  split at h2 <;> omega
section
variable (nx : Int → Nat → Int) (K : Nat) (fr : Int) (P : Int → Prop)
end
section
variable {nx : Int → Nat → Int} {K : Nat} {fr : Int} {P : Int → Prop}
end


abbrev Lg := List (Nc × List Int)
theorem ZO {x y : Nc} : Ye Qd x y = true ↔ x = y := by
 constructor
 ·exact XA (by decide)
 ·rintro rfl
  obtain ⟨⟨a, b, c, u⟩, ⟨d, e, f, v⟩, w⟩ := x
  simp [Ye]
theorem ZE {α : Type} : ∀ {W : List (Nc × α)} {x : Nc}, Td Qd W x = none ↔ ∀ e ∈ W, e.1 ≠ x
 | [], x => by simp [Td]
 | (k, y) :: r, x => by
  simp only [Td]
  cases hk : Ye Qd x k with
  | true => rw [ZO] at hk; subst hk; simp
  | false =>
   have hne : ¬ x = k := fun e => by rw [ZO.2 e] at hk; simp at hk
   simp only [yu, ZE (W := r), List.forall_mem_cons]
   exact ⟨fun h => ⟨fun e => hne e.symm, h⟩, fun h => h.2⟩
theorem XU {α : Type} : ∀ {W : List (Nc × α)} {x : Nc} {w : α}, (W.map Prod.fst).Nodup → (x, w) ∈ W → Td Qd W x = some w
 | [], x, w, _, h => by simp at h
 | (k, y) :: r, x, w, hn, h => by
  simp only [ya, yd] at hn
  simp only [Td]
  rcases jp.1 h with h | h
  ·simp only [jh] at h
   rw [h.1, h.2, ZO.2 rfl]; rfl
  ·have : x ≠ k := fun e => hn.1 (qg.2 ⟨(x, w), h, e⟩)
   have hk : Ye Qd x k = false := by rw [← j7, ZO]; exact this
   rw [hk]
   exact XU hn.2 h
theorem CN {α : Type} : ∀ {W : List (Nc × α)} {x : Nc} (y : α), Td Qd W x = none → Bi Qd W x y = W ++ [(x, y)]
 | [], x, y, _ => rfl
 | (k, z) :: r, x, y, h => by
  simp only [Td] at h
  simp only [Bi]
  cases hk : Ye Qd x k with
  | true => rw [hk] at h; simp at h
  | false => rw [hk] at h; simp only [yu] at h ⊢; rw [CN y h]; rfl
section
variable (nx : Nc → Nat → Nc) (df : Nc → Nat → Bool) (K : Nat) (P : Nc → Prop)
def Fq (x : Nc) (w : List Int) (k : Nat) (W : Lg) : Lg := cond (Td Qd W (nx x k)).isSome W (W ++ [(nx x k, w ++ [(k : Int)])])
def Vr (x : Nc) (w : List Int) (n : Nat) (W : Lg) : Lg := Kh (Fq nx x w) n W
def Wo (x : Nc) : Nat → Nat → Option Nat
 | 0, _ => none
 | n + 1, j => cond (df x j) (some j) (Wo x n (j + 1))
def To : Nat → Nat → Lg → Option (List Int)
 | 0, _, _ => none
 | n + 1, i, W => match W[i]? with
  | none => none
  | some e => match Wo df e.1 K 0 with
   | some k => some (e.2 ++ [(k : Int)])
   | none => To n (i + 1) (Vr nx e.1 e.2 K W)
structure RA (W : Lg) : Prop where
 nd : (W.map Prod.fst).Nodup
 ok : ∀ e ∈ W, P e.1
 ln : ∀ (j : Nat) (hj : j < W.length), W[j].2.length ≤ j
end
section
variable {nx : Nc → Nat → Nc} {df : Nc → Nat → Bool} {K : Nat} {P : Nc → Prop}
theorem TS (hP : ∀ x k, P x → k < K → P (nx x k)) {i k : Nat} {W : Lg} (h : RA P W) {x : Nc} {w : List Int} (hx : P x) (hw : w.length ≤ i) (hi : i < W.length) (hk : k < K) :
 RA P (Fq nx x w k W) ∧ W <+: Fq nx x w k W := by
 unfold Fq
 cases hg : Td Qd W (nx x k) with
 | some w' => exact ⟨h, List.prefix_refl _⟩
 | none =>
  simp only [Option.isSome_none, yu]
  refine ⟨{ nd := ?_, ok := ?_, ln := ?_ }, List.prefix_append _ _⟩
  ·rw [yl, ye]
   refine ⟨h.nd, by simp, ?_⟩
   intro a ha b hb
   simp only [ya, yb, qa] at hb
   subst hb
   obtain ⟨e, he, rfl⟩ := qg.1 ha
   exact ZE.1 hg e he
  ·intro e he
   rcases jl.1 he with he | he
   ·exact h.ok e he
   ·simp only [qa] at he
    subst he
    exact hP _ _ hx hk
  ·intro j hj
   by_cases hj' : j < W.length
   ·rw [List.getElem_append_left hj']; exact h.ln j hj'
   ·have hj2 : j = W.length := by
     rw [qb, List.length_singleton] at hj
     omega
    subst hj2
    rw [List.getElem_append_right (jo _)]
    simp
    omega
theorem ZA (hP : ∀ x k, P x → k < K → P (nx x k)) {i : Nat} {W : Lg} (h : RA P W) {x : Nc} {w : List Int} (hx : P x) (hw : w.length ≤ i) (hi : i < W.length) : ∀ n, n ≤ K → RA P (Vr nx x w n W) ∧ W <+: Vr nx x w n W
 | 0, _ => ⟨h, List.prefix_refl _⟩
 | n + 1, hn => by
  obtain ⟨h1, h2⟩ := ZA hP h hx hw hi n (by omega)
  obtain ⟨g1, g2⟩ := TS hP h1 hx hw (Nat.lt_of_lt_of_le hi h2.length_le) (by omega : n < K)
  exact ⟨g1, h2.trans g2⟩
end
noncomputable def Ah (a b : Ea) (x : Nc) (k : Nat) : Nc := (Wz a x.1 k, Wz b x.2.1 k, ())
noncomputable def Pk (a b : Ea) (x : Nc) (k : Nat) : Bool := !decide (Jn a x.1 k = Jn b x.2.1 k)
def Kw (a b : Ea) (x : Nc) : Prop := Du a x.1 ∧ Du b x.2.1
structure QD (a b : Ea) : Prop where
 tka : Xh a
 tkb : Xh b
 tkk : a.1 = b.1
theorem WE {a b : Ea} (h : QD a b) : ∀ x k, Kw a b x → k < a.1.toNat → Kw a b (Ah a b x k) := fun x k hx hk => by
 have h1 := Yx h.tka
 exact ⟨O1 h.tka hx.1 (by omega), O1 h.tkb hx.2 (by rw [← h.tkk]; omega)⟩
theorem J7 {a b : Ea} (h : QD a b) {x : Nc} (hx : Kw a b x) {k : Nat} (hk : (k : Int) < a.1) : (Ql (Jn a x.1 k) != Ql (Jn b x.2.1 k)) = Pk a b x k := by
 unfold Pk
 by_cases he : Jn a x.1 k = Jn b x.2.1 k
 ·rw [he]; simp
 ·have : ¬ Ql (Jn a x.1 k) = Ql (Jn b x.2.1 k) := fun e => he (JV _ _ (DF h.tka hx.1 hk).2 (DF h.tkb hx.2 (by rw [← h.tkk]; exact hk)).2 e)
  simp [he, this]
def EC (x : Fd) : Nat := (x.1.toNat * 16 + x.2.1.toNat) * 2 + cond x.2.2.1 1 0
theorem Kq {m : Ea} (hM : Xh m) {x : Fd} (hx : Du m x) : (0 ≤ x.1 ∧ x.1 ≤ 15) ∧ (0 ≤ x.2.1 ∧ x.2.1 ≤ 15) ∧ EC x < 512 := by
 have h1 := I3 (Gh hM.v).l2 hx
 have h2 := hx.o0
 have h3 := hx.o1
 refine ⟨h1, by omega, ?_⟩
 unfold EC
 cases x.2.2.1 <;> simp <;> omega
theorem JM {m : Ea} (hM : Xh m) {x y : Fd} (hx : Du m x) (hy : Du m y) (h : EC x = EC y) : x = y := by
 obtain ⟨h1, h2, _⟩ := Kq hM hx
 obtain ⟨g1, g2, _⟩ := Kq hM hy
 obtain ⟨f, o, c, u⟩ := x
 obtain ⟨f', o', c', u'⟩ := y
 unfold EC at h
 simp only at h h1 h2 g1 g2
 have hc : c = c' := by cases c <;> cases c' <;> simp at h ⊢ <;> omega
 subst hc
 have hf : f = f' := by omega
 have ho : o = o' := by omega
 rw [hf, ho]
theorem Au {a b : Ea} (h : QD a b) {W : Lg} (hW : RA (Kw a b) W) : W.length ≤ 262144 := by
 have hn : (W.map fun e => EC e.1.1 * 512 + EC e.1.2.1).Nodup := by
  have := hW.nd
  rw [List.Nodup, List.pairwise_map] at this ⊢
  refine (List.Pairwise.and_mem.1 this).imp ?_
  rintro x y ⟨hx, hy, hxy⟩ he
  obtain ⟨p1, p2⟩ := hW.ok x hx
  obtain ⟨q1, q2⟩ := hW.ok y hy
  have a1 := (Kq h.tka p1).2.2
  have a2 := (Kq h.tkb p2).2.2
  have a3 := (Kq h.tka q1).2.2
  have a4 := (Kq h.tkb q2).2.2
  have e1 := JM h.tka p1 q1 (by omega)
  have e2 := JM h.tkb p2 q2 (by omega)
  exact hxy (Prod.ext e1 (Prod.ext e2 rfl))
 have := FR 262144 _ hn (by
  intro y hy
  obtain ⟨x, hx, rfl⟩ := qg.1 hy
  obtain ⟨p1, p2⟩ := hW.ok x hx
  have a1 := (Kq h.tka p1).2.2
  have a2 := (Kq h.tkb p2).2.2
  omega)
 simpa using this
theorem Nac {a b : Ea} {W W' : Lg} {i : Nat} (h : RA (Kw a b) W') (hi : i < W.length) (hp : W <+: W') : Td Qd W' W[i].1 = some W[i].2 :=
 XU h.nd (hp.subset (qf hi))
def Gg (i : Nat) (W : Lg) : List Nc := (W.map Prod.fst).drop i
theorem TY {i : Nat} {W : Lg} (x : Nc) (w : List Int) (h : i ≤ W.length) : Gg i (W ++ [(x, w)]) = Gg i W ++ [x] := by
 unfold Gg
 rw [yl, List.drop_append_of_le_length (by simpa using h)]
 rfl
theorem OF (i : Nat) (W : Lg) : (Gg i W).length = W.length - i := by simp [Gg]
theorem SY {i : Nat} {W : Lg} (h : i < W.length) : Gg i W = W[i].1 :: Gg (i + 1) W := by
 unfold Gg
 rw [List.drop_eq_getElem_cons (by simpa using h)]
 simp
theorem JJ {l : List Int} (h : l.length ≤ 1000000) : Dg l = some (l, ()) := by
 unfold Dg
 rw [Ue (by simp; omega)]
 rfl
theorem Rv (m : Ea) (x : Fd) {k : Nat} (hk : k < m.1.toNat) : Yb (Pg m x) (k : Int) = some (OB m x k) := by
 have hl : k < (Pg m x).length := by unfold Pg; rw [KN]; exact hk
 rw [Lc hl]
 simp [Pg, Iw]
abbrev MV := List (Fd × List Cm)
theorem RQ {a b : Ea} (h : QD a b) {W : Lg} (hW : RA (Kw a b) W) {i : Nat} (hi : i < W.length) (todo : List Nc) (sa sb : MV) (e : Nc × List Int) (he : W[i] = e) :
 Ng (((), (), (), W, todo, (), Pg a e.1.1, Pg b e.1.2.1, a.1, (0 : Int), ()), (a, (a, sa, ()), (b, sb, ()), e.1, ())) =
  some (match Wo (Pk a b) e.1 a.1.toNat 0 with
   | some k => .inr ((e.2 ++ [(k : Int)], true, ()), ())
   | none => .inl (((), (), (), W, todo, (), Pg a e.1.1, Pg b e.1.2.1, ()), (a, (a, sa, ()), (b, sb, ()), e.1, ()))) := by
 obtain ⟨k1, k2⟩ := Yx h.tka
 have hp : Kw a b e.1 := by rw [← he]; exact hW.ok _ (qf hi)
 have hln : e.2.length ≤ i := by rw [← he]; exact hW.ln i hi
 have hlen := Au h hW
 have hgt : Td Qd W e.1 = some e.2 := by rw [← he]; exact Nac hW hi (List.prefix_refl _)
 have key : ∀ (n j : Nat), n + j = a.1.toNat → Bb (fun x => Ag x.1.1 x.1.2.1 x.1.2.2.1 x.1.2.2.2.1 x.1.2.2.2.2.1 x.1.2.2.2.2.2.1 x.1.2.2.2.2.2.2.1 x.1.2.2.2.2.2.2.2.1 x.1.2.2.2.2.2.2.2.2.1 x.1.2.2.2.2.2.2.2.2.2.1 x.2.1 x.2.2.1 x.2.2.2.1 x.2.2.2.2.1)
  (((), (), (), W, todo, (), Pg a e.1.1, Pg b e.1.2.1, a.1, (j : Int), ()), (a, (a, sa, ()), (b, sb, ()), e.1, ())) =
  some (match Wo (Pk a b) e.1 n j with
   | some k => .inr ((e.2 ++ [(k : Int)], true, ()), ())
   | none => .inl (((), (), (), W, todo, (), Pg a e.1.1, Pg b e.1.2.1, ()), (a, (a, sa, ()), (b, sb, ()), e.1, ()))) := by
  intro n
  induction n with
  | zero =>
   intro j hj
   refine (Id (z := some (.inr (.inl (((), (), (), W, todo, (), Pg a e.1.1, Pg b e.1.2.1, ()), (a, (a, sa, ()), (b, sb, ()), e.1, ()))))) ?_).trans rfl
   simp only [Ag]
   rw [Ja (by omega)]; rfl
  | succ n ih =>
   intro j hj
   have hja : (j : Int) < a.1 := by omega
   have hdf := J7 h hp hja
   cases hd : Pk a b e.1 j with
   | true =>
    rw [hd] at hdf
    refine (Id (z := some (.inr (.inr ((e.2 ++ [(j : Int)], true, ()), ())))) ?_).trans ?_
    ·simp only [Ag]
     rw [Ia hja, Rv a _ (by omega), Rv b _ (by rw [← h.tkk]; omega)]
     simp only [yt, jb, OB]
     rw [hdf, hgt]
     simp only [yt, qs]
     rw [JJ (by omega)]
     simp only [jb]
     rw [Ue (by simp; omega)]
     rfl
    ·simp only [Wo, hd, yt]; rfl
   | false =>
    rw [hd] at hdf
    refine (Id (z := some (.inl (((), (), (), W, todo, (), Pg a e.1.1, Pg b e.1.2.1, a.1, ((j + 1 : Nat) : Int), ()), (a, (a, sa, ()), (b, sb, ()), e.1, ())))) ?_).trans ?_
    ·simp only [Ag]
     rw [Ia hja, Rv a _ (by omega), Rv b _ (by rw [← h.tkk]; omega)]
     simp only [yt, jb, OB]
     rw [hdf]
     simp only [yu]
     rw [Qh (by omega) (by omega)]
     rfl
    ·rw [jb, qe, ih (j + 1) (by omega)]
     simp only [Wo, hd, yu]
 have := key a.1.toNat 0 (by omega)
 unfold Ng
 exact this
theorem RN {a b : Ea} (h : QD a b) {W : Lg} (hW : RA (Kw a b) W) {i : Nat} (hi : i < W.length) (sa sb : MV) (e : Nc × List Int) (he : W[i] = e) :
 Og (((), (), (), W, Gg (i + 1) W, (), Pg a e.1.1, Pg b e.1.2.1, a.1, (0 : Int), ()), (a, (a, sa, ()), (b, sb, ()), e.1, ())) =
  some (.inl (((), (), (), Vr (Ah a b) e.1 e.2 a.1.toNat W, Gg (i + 1) (Vr (Ah a b) e.1 e.2 a.1.toNat W), ()), (a, (a, sa, ()), (b, sb, ()), ()))) := by
 obtain ⟨k1, k2⟩ := Yx h.tka
 have hp : Kw a b e.1 := by rw [← he]; exact hW.ok _ (qf hi)
 have hln : e.2.length ≤ i := by rw [← he]; exact hW.ln i hi
 have hl := LA (step := fun x => Ai x.1.1 x.1.2.1 x.1.2.2.1 x.1.2.2.2.1 x.1.2.2.2.2.1 x.1.2.2.2.2.2.1 x.1.2.2.2.2.2.2.1 x.1.2.2.2.2.2.2.2.1 x.1.2.2.2.2.2.2.2.2.1 x.1.2.2.2.2.2.2.2.2.2.1 x.2.1 x.2.2.1 x.2.2.2.1 x.2.2.2.2.1)
  a.1.toNat (by omega) (Fq (Ah a b) e.1 e.2) W (fun W' j => (((), (), (), W', Gg (i + 1) W', (), Pg a e.1.1, Pg b e.1.2.1, a.1, j, ()), (a, (a, sa, ()), (b, sb, ()), e.1, ())))
  (fun W' => .inl (((), (), (), W', Gg (i + 1) W', ()), (a, (a, sa, ()), (b, sb, ()), ()))) (by
   intro j hj
   obtain ⟨g1, g2⟩ := ZA (WE h) hW hp hln hi j (by omega)
   have hgt : Td Qd (Vr (Ah a b) e.1 e.2 j W) e.1 = some e.2 := by rw [← he] at g1 g2 ⊢; exact Nac g1 hi g2
   have hlen := Au h g1
   have hle := g2.length_le
   have htl := OF (i + 1) (Vr (Ah a b) e.1 e.2 j W)
   have hit : Kh (Fq (Ah a b) e.1 e.2) j W = Vr (Ah a b) e.1 e.2 j W := rfl
   rw [hit]
   generalize hW' : Vr (Ah a b) e.1 e.2 j W = W' at hgt hlen hle htl g1
   simp only [Ai]
   rw [Ia (by omega), Rv a _ (by omega), Rv b _ (by rw [← h.tkk]; omega)]
   simp only [yt, jb, OB]
   rw [show ((Wz a e.1.1 j, Wz b e.1.2.1 j, ()) : Nc) = Ah a b e.1 j from rfl]
   unfold Fq
   cases hg : Td Qd W' (Ah a b e.1 j) with
   | some w => rfl
   | none =>
    simp only [Option.isSome_none, Bool.not_false, yt, yu]
    rw [hgt]
    simp only [qs]
    rw [JJ (by omega)]
    simp only [jb]
    rw [Ue (by simp; omega), Ue (by rw [htl]; simp; omega), TY _ _ (by omega), CN _ hg]
    rfl) (by
   simp only [Ai]
   rw [Ja (by omega)]; rfl)
 unfold Og
 exact hl
theorem GD {a b : Ea} (h : QD a b) : ∀ (n i : Nat) (W : Lg) (sa sb : MV), RA (Kw a b) W → SF a sa → SF b sb → 262145 ≤ n + i →
 Oe (((), (), (), W, Gg i W, ()), (a, (a, sa, ()), (b, sb, ()), ())) = some (match To (Ah a b) (Pk a b) a.1.toNat n i W with
  | some w => .inr ((w, true, ()), ())
  | none => .inl ((), ()))
 | n, i, W, sa, sb, hW, hsa, hsb, hn => by
  have hlen := Au h hW
  by_cases hi : i < W.length
  ·obtain ⟨n', rfl⟩ : ∃ n', n = n' + 1 := ⟨n - 1, by omega⟩
   obtain ⟨e, he⟩ : ∃ e, W[i] = e := ⟨_, rfl⟩
   have hp : Kw a b e.1 := by rw [← he]; exact hW.ok _ (qf hi)
   have hln : e.2.length ≤ i := by rw [← he]; exact hW.ln i hi
   obtain ⟨g1, g2⟩ := ZA (WE h) hW hp hln hi a.1.toNat (jo _)
   obtain ⟨sa', ha, hsa'⟩ := HV h.tka hp.1 hsa
   obtain ⟨sb', hb, hsb'⟩ := HV h.tkb hp.2 hsb
   have htl := OF i W
   have hcons := SY hi
   rw [he] at hcons
   have hb1 : To (Ah a b) (Pk a b) a.1.toNat (n' + 1) i W = match Wo (Pk a b) e.1 a.1.toNat 0 with
    | some k => some (e.2 ++ [(k : Int)])
    | none => To (Ah a b) (Pk a b) a.1.toNat n' (i + 1) (Vr (Ah a b) e.1 e.2 a.1.toNat W) := by
    rw [To, je hi, he]
   rw [hb1]
   have hin := RQ h hW hi (Gg (i + 1) W) sa' sb' e he
   have step : Ji () () () W (Gg i W) a (a, sa, ()) (b, sb, ()) = some (match Wo (Pk a b) e.1 a.1.toNat 0 with
    | some k => .inr (.inr ((e.2 ++ [(k : Int)], true, ()), ()))
    | none => .inl (((), (), (), Vr (Ah a b) e.1 e.2 a.1.toNat W, Gg (i + 1) (Vr (Ah a b) e.1 e.2 a.1.toNat W), ()), (a, (a, sa', ()), (b, sb', ()), ()))) := by
    simp only [Ji]
    have hl0 : (Gg i W).length = (Gg (i + 1) W).length + 1 := by rw [hcons]; simp
    rw [Ia (by omega), show Ui (Gg i W).length 0 = true by rw [show (0 : Int) = ((0 : Nat) : Int) from rfl, Kr]; simp; omega]
    simp only [yt]
    rw [show (Gg i W)[jy 0]? = some e.1 by rw [hcons]; rfl]
    simp only [jb]
    rw [show We (Gg i W).length 1 (((Gg i W).length : Nat) : Int) = true from PZ (lo := 1) (by omega) (jo _)]
    simp only [yt, jb]
    rw [ha, hb]
    simp only [jb]
    rw [show Ad (Gg i W) (jy 1) (jy (((Gg i W).length : Nat) : Int)) = Gg (i + 1) W by
     rw [jn, show jy 1 = 1 from rfl, hcons]
     unfold Ad
     rw [List.take_length]; rfl]
    rw [hin]
    cases Wo (Pk a b) e.1 a.1.toNat 0 with
    | some k => rfl
    | none =>
     simp only [jb, qe]
     rw [RN h hW hi sa' sb' e he]
     rfl
   unfold Oe
   refine (Id step).trans ?_
   cases hf : Wo (Pk a b) e.1 a.1.toNat 0 with
   | some k => rfl
   | none =>
    have ih := GD h n' (i + 1) _ sa' sb' g1 hsa' hsb' (by omega)
    unfold Oe at ih
    exact ih
  ·have hb : To (Ah a b) (Pk a b) a.1.toNat n i W = none := by
    cases n with
    | zero => rfl
    | succ n => rw [To, qn (by omega)]
   rw [hb]
   unfold Oe
   refine (Id (z := some (.inr (.inl ((), ())))) ?_).trans rfl
   have htl := OF i W
   simp only [Ji]
   rw [Ja (by omega)]; rfl
def X3 : Fd := ((0 : Int), (0 : Int), false, ())
def YO : Nc := (X3, X3, ())
theorem LL {m : Ea} (hM : Xh m) : Du m X3 := by
 have hm := Gh hM.v
 refine ⟨Int.le_refl _, ?_, rfl, Int.le_refl _, by show (0 : Int) ≤ 15; omega⟩
 show (0 : Int) < ((2 ^ m.2.1.length : Nat) : Int)
 exact Int.natCast_pos.2 (Nat.two_pow_pos _)
theorem CM {a b : Ea} (h : QD a b) : RA (Kw a b) [(YO, [])] where
 nd := by simp
 ok := fun e he => by simp at he; subst he; exact ⟨LL h.tka, LL h.tkb⟩
 ln := fun j hj => by
  have : j = 0 := by simpa using hj
  subst j; simp
noncomputable def DG (a b : Ea) : Option (List Int) := To (Ah a b) (Pk a b) a.1.toNat 262145 0 [(YO, [])]
theorem ZR {a b : Ea} (ha : Sc a = true) (hb : Sc b = true) (hk : a.1 = b.1) : QD a b := ⟨CR ha, CR hb, hk⟩
noncomputable def VP (a b : Ea) : Bool := Sc a && (Sc b && ((a.1 == b.1) && !decide (a.1 > 6)))
noncomputable def Jz (a b : Ea) : List Int × (Bool × Unit) := cond (VP a b) (match DG a b with | some w => (w, true, ()) | none => ([], false, ())) ([], false, ())
theorem IC (a b : Ea) (ha : Db Oa a ≤ Pa) (hb : Db Oa b ≤ Pa) : Ch a b = some (Jz a b) := by
 unfold Ch Jz VP
 rw [Ky a ha, Ky b hb]
 cases h1 : Sc a with
 | false => rfl
 | true =>
  simp only [jb, jg, yu, jk]
  cases h2 : Sc b with
  | false => rfl
  | true =>
   simp only [jg, yu, jk]
   by_cases hk : a.1 = b.1
   ·rw [show (a.1 != b.1) = false by simp [hk], show (a.1 == b.1) = true by simp [hk]]
    simp only [yu, jk]
    by_cases h6 : a.1 > 6
    ·rw [Ia h6]; rfl
    ·rw [Ja h6]
     simp only [yu, Bool.not_false, yt]
     have hT := ZR h1 h2 hk
     have := GD hT 262145 0 [(YO, [])] [] [] (CM hT) (fun e he => by simp at he) (fun e he => by simp at he) (by omega)
     erw [this]
     show jz (some (match DG a b with | some w => Sum.inr ((w, true, ()), ()) | none => Sum.inl ((), ()))) _ = _
     cases DG a b <;> rfl
   ·rw [show (a.1 != b.1) = true by simp [hk], show (a.1 == b.1) = false by simp [hk]]; rfl
theorem IF (a b : List Ga) (ha : a.length ≤ 2) (hb : b.length ≤ 2) (hk : ∀ r ∈ a, Od r = true) : Xp a b = some (decide (a = b), ()) := by
 have hlim := Vi
 have hzl : (a.zip b).length = min a.length b.length := List.length_zip
 have hl := Jg (step := fun x : ((List Ga) × ((List Ga) × (Int × Unit))) × Unit => Jk x.1.1 x.1.2.1 x.1.2.2.1) (a.zip b) (fun _ x => Rf x.1 x.2) (fun i => ((a, b, i, ()), ()))
  (.inl ((a, b, ()), ())) (.inr ((false, ()), ())) (by
   intro k hk'
   rw [hzl] at hk'
   have h1 : k < a.length := by omega
   have h2 : k < b.length := by omega
   simp only [Jk]
   rw [Ia (by omega), Ia (by omega), Lc h1, Lc h2]
   simp only [yt, jb]
   have := Lz (hk _ (qf h1))
   rw [Ww _ _ (by omega), List.getElem_zip]
   simp only [jb]
   cases Rf a[k] b[k] <;> rfl) (by
   rw [hzl]
   simp only [Jk]
   by_cases h : a.length ≤ b.length
   ·rw [Ja (by omega)]; rfl
   ·rw [Ia (show ((min a.length b.length : Nat) : Int) < ((a.length : Nat) : Int) by omega), Ja (show ¬ ((min a.length b.length : Nat) : Int) < ((b.length : Nat) : Int) by omega)]
    rfl) (by rw [hzl]; omega)
 unfold Xp Pl
 erw [hl]
 have hres : decide (a = b) = (Gf (fun _ (x : Ga × Ga) => Rf x.1 x.2) 0 (a.zip b) && ((a.length : Int) == (b.length : Int))) := by
  refine YK ?_
  rw [decide_eq_true_iff, jd, Mj, beq_iff_eq]
  constructor
  ·rintro rfl
   refine ⟨fun j hj => ?_, rfl⟩
   rw [List.getElem_zip]
   exact DN.2 rfl
  ·rintro ⟨h1, h2⟩
   have h2 : a.length = b.length := by omega
   refine List.ext_getElem h2 fun j g1 g2 => ?_
   have := h1 j (by rw [hzl]; omega)
   rw [List.getElem_zip] at this
   exact DN.1 this
 rw [hres]
 cases Gf (fun _ (x : Ga × Ga) => Rf x.1 x.2) 0 (a.zip b) <;> rfl
noncomputable def Gt (m : Ea) (x : Fd) : Hb := Hf m x.1 x.2.1 x.2.2.1 []
theorem NF {m : Ea} (hM : Xh m) {x : Fd} (hx : Du m x) {k : Nat} (hk : (k : Int) < m.1) :
 Nm (Gt m x) [(k : Int)] = some (Gt m (Wz m x k), Jn m x k, true, ()) := by
 unfold Gt
 rw [LK hM hx [(k : Int)] (by show 1 ≤ 1048576; omega)]
 unfold B5
 have hg : Mg (fun _ s x => gT m s x) 0 ((x.1, x.2.1, x.2.2.1), []) [(k : Int)] = .inl (((Wz m x k).1, (Wz m x k).2.1, (Wz m x k).2.2.1), Jn m x k) := by
  simp only [Mg, gT]
  rw [Ia (show 0 ≤ (k : Int) ∧ (k : Int) < m.1 from ⟨by omega, hk⟩), jn]
  rfl
 rw [hg]
 rfl
noncomputable def Xz (a b : Ea) (e : Nc × List Int) : Um := (Gt a e.1.1, Gt b e.1.2.1, e.2, ())
noncomputable def Lh (a b : Ea) (W : Lg) : List Um := W.map (Xz a b)
theorem CA (m : Ea) (x y : Fd) : Yu (Gt m x) (Gt m y) = some (Ye Pc x y, ()) := by
 obtain ⟨f, o, c, u⟩ := x
 obtain ⟨f', o', c', u'⟩ := y
 show cond (f == f') (cond (o == o') (some ((c == c'), ())) (some (false, ()))) (some (false, ())) = some ((f == f') && ((o == o') && ((c == c') && true)), ())
 cases f == f' with
 | false => rfl
 | true => cases o == o' <;> simp
theorem NK (a b : Ea) (W : Lg) (hW : W.length ≤ 1000000) (p q : Fd) : Zu (Lh a b W) (Gt a p) (Gt b q) = some ((Td Qd W (p, q, ())).isSome, ()) := by
 have hlen : (Lh a b W).length = W.length := yi _
 have hl := Jg (step := fun x : ((List Um) × (Unit × (Unit × (Int × Unit)))) × (Hb × (Hb × Unit)) => Pn x.1.1 x.1.2.1 x.1.2.2.1 x.1.2.2.2.1 x.2.1 x.2.2.1) W (fun _ x => !(Ye Pc x.1.1 p && Ye Pc x.1.2.1 q)) (fun i => ((Lh a b W, (), (), i, ()), (Gt a p, Gt b q, ())))
  (.inl ((), ())) (.inr ((true, ()), ())) (by
   intro k hk
   simp only [Pn]
   have hk' : k < (Lh a b W).length := by rw [hlen]; exact hk
   rw [hlen, Ia (by omega), Lc hk']
   have hat : (Lh a b W)[k] = Xz a b W[k] := by simp [Lh]
   rw [hat]
   simp only [yt, jb, Xz]
   rw [CA]
   simp only [jb]
   cases Ye Pc W[k].1.1 p with
   | false => rfl
   | true =>
    simp only [yt]
    rw [CA]
    simp only [jb, jk]
    cases Ye Pc W[k].1.2.1 q <;> rfl) (by
   simp only [Pn]
   rw [hlen, Ja (by omega)]; rfl) (by omega)
 unfold Zu Bp
 erw [hl]
 have hres : (Td Qd W (p, q, ())).isSome = !Gf (fun _ (x : Nc × List Int) => !(Ye Pc x.1.1 p && Ye Pc x.1.2.1 q)) 0 W := by
  have hev : ∀ u v : Fd, Ye Pc u v = true ↔ u = v := fun u v => ⟨XA (by decide), fun e => by subst e; obtain ⟨f, o, c, w⟩ := u; simp [Ye]⟩
  refine YK ?_
  rw [yc, ← j7, Mj]
  constructor
  ·intro h hall
   obtain ⟨w, hw⟩ := Option.isSome_iff_exists.1 h
   have hm := SE (by decide) hw
   obtain ⟨j, hj, he⟩ := List.getElem_of_mem hm
   have := hall j hj
   rw [he] at this
   simp only [yc, Bool.and_eq_false_iff] at this
   rcases this with h' | h'
   ·rw [(hev _ _).2 rfl] at h'; simp at h'
   ·rw [(hev _ _).2 rfl] at h'; simp at h'
  ·intro h
   cases hg : Td Qd W (p, q, ()) with
   | some w => rfl
   | none =>
    exfalso
    apply h
    intro j hj
    simp only [yc, ← j7, jd]
    rintro ⟨h1, h2⟩
    refine ZE.1 hg _ (qf hj) ?_
    exact Prod.ext ((hev _ _).1 h1) (Prod.ext ((hev _ _).1 h2) rfl)
 rw [hres]
 cases Gf (fun _ (x : Nc × List Int) => !(Ye Pc x.1.1 p && Ye Pc x.1.2.1 q)) 0 W <;> rfl
theorem Eac (a b : Ea) {W : Lg} {i : Nat} (hi : i < W.length) : (Lh a b W)[i]? = some (Xz a b W[i]) := by
 unfold Lh
 rw [List.getElem?_map, je hi]; rfl
theorem G9 (a b : Ea) {W : Lg} {i : Nat} (hi : i < W.length) : j5 (Lh a b W) i (Xz a b W[i]) = Lh a b W := by
 have hi' : i < (Lh a b W).length := by unfold Lh; rw [yi]; exact hi
 have : Xz a b W[i] = (Lh a b W)[i] := by simp [Lh]
 rw [this, List.set_getElem_self hi']
theorem HF {a b : Ea} (h : QD a b) {i : Nat} (e : Nc × List Int) : ∀ (n j : Nat) (W : Lg), n + j = a.1.toNat → RA (Kw a b) W → ∀ (hi : i < W.length), W[i] = e →
 Ie (((), Lh a b W, (i : Int), (j : Int), ()), (a, ())) = some (match Wo (Pk a b) e.1 n j with
  | some k => .inr ((e.2 ++ [(k : Int)], true, ()), ())
  | none => .inl (((), Lh a b (Kh (fun q W => Fq (Ah a b) e.1 e.2 (j + q) W) n W), (i : Int), ()), (a, ())))
 | 0, j, W, hj, hW, hi, he => by
  obtain ⟨k1, k2⟩ := Yx h.tka
  unfold Ie
  refine (Id (z := some (.inr (.inl (((), Lh a b W, (i : Int), ()), (a, ()))))) ?_).trans rfl
  simp only [Di]
  rw [Ja (by omega)]; rfl
 | n + 1, j, W, hj, hW, hi, he => by
  obtain ⟨k1, k2⟩ := Yx h.tka
  have hp : Kw a b e.1 := by rw [← he]; exact hW.ok _ (qf hi)
  have hln : e.2.length ≤ i := by rw [← he]; exact hW.ln i hi
  have hlen := Au h hW
  have hja : (j : Int) < a.1 := by omega
  have hjb : (j : Int) < b.1 := by rw [← h.tkk]; exact hja
  obtain ⟨s1, s2⟩ := DF h.tka hp.1 hja
  obtain ⟨t1, t2⟩ := DF h.tkb hp.2 hjb
  have hlx : (Lh a b W).length = W.length := yi _
  have hin : Ui (Lh a b W).length (i : Int) = true := by rw [Kr, hlx]; exact decide_eq_true hi
  have hset := G9 a b hi
  have hat := Eac a b hi
  rw [he] at hset hat
  obtain ⟨g1, g2⟩ := TS (K := a.1.toNat) (WE h) hW hp hln hi (show j < a.1.toNat by omega)
  have hge : ∀ hi', (Fq (Ah a b) e.1 e.2 j W)[i]'hi' = e := fun hi' => by
   obtain ⟨t, ht⟩ := g2
   have : (W ++ t)[i]? = some e := by rw [List.getElem?_append_left hi, je hi, he]
   rw [ht, je hi'] at this
   exact yp this
  have hstep : Di () (Lh a b W) (i : Int) (j : Int) a = some (cond (Pk a b e.1 j) (.inr (.inr ((e.2 ++ [(j : Int)], true, ()), ())))
   (.inl (((), Lh a b (Fq (Ah a b) e.1 e.2 j W), (i : Int), ((j + 1 : Nat) : Int), ()), (a, ())))) := by
   simp only [Di]
   rw [Ia hja, hin]
   simp only [yt]
   rw [jn, hat]
   simp only [jb]
   rw [hset, hin]
   simp only [yt]
   rw [hat]
   simp only [jb]
   rw [hset, hin]
   simp only [yt]
   rw [hat]
   simp only [jb, Xz]
   rw [show ((Gt a e.1.1, Gt b e.1.2.1, e.2, ()) : Um) = Xz a b e from rfl, hset]
   rw [NF h.tka hp.1 hja, NF h.tkb hp.2 hjb]
   simp only [jb]
   rw [Ue (by simp; omega), Ue (by simp; omega)]
   simp only [yt]
   rw [IF _ _ s1 t1 s2]
   simp only [jb]
   rw [show jf (jf ([] : List Int) e.2) [(j : Int)] = e.2 ++ [(j : Int)] from rfl]
   rw [show (!decide (Jn a e.1.1 j = Jn b e.1.2.1 j)) = Pk a b e.1 j from rfl]
   cases Pk a b e.1 j with
   | true => rfl
   | false =>
    simp only [yu]
    rw [NK a b W (by omega)]
    simp only [jb]
    rw [show ((Wz a e.1.1 j, Wz b e.1.2.1 j, ()) : Nc) = Ah a b e.1 j from rfl, Qh (by omega) (by omega)]
    unfold Fq
    cases (Td Qd W (Ah a b e.1 j)).isSome with
    | true => rfl
    | false =>
     simp only [Bool.not_false, yt, yu]
     rw [Ue (by rw [hlx]; simp; omega)]
     simp only [yt]
     rw [show jf (Lh a b W) [((Gt a (Wz a e.1.1 j), Gt b (Wz b e.1.2.1 j), e.2 ++ [(j : Int)], ()) : Um)] = Lh a b (W ++ [(Ah a b e.1 j, e.2 ++ [(j : Int)])]) by
      unfold Lh
      rw [yl]; rfl]
     rfl
  unfold Ie
  refine (Id hstep).trans ?_
  cases hd : Pk a b e.1 j with
  | true => simp only [Wo, hd, yt]; rfl
  | false =>
   have ih := HF h (i := i) e n (j + 1) (Fq (Ah a b) e.1 e.2 j W) (by omega) g1 (Nat.lt_of_lt_of_le hi g2.length_le) (hge _)
   unfold Ie at ih
   simp only [yu, jb, qe]
   refine ih.trans ?_
   have hit : Kh (fun q W => Fq (Ah a b) e.1 e.2 (j + 1 + q) W) n (Fq (Ah a b) e.1 e.2 j W) = Kh (fun q W => Fq (Ah a b) e.1 e.2 (j + q) W) (n + 1) W := by
    clear ih hj
    induction n with
    | zero => simp [Kh]
    | succ n ih2 =>
     rw [Kh, ih2]
     show _ = Fq (Ah a b) e.1 e.2 (j + (n + 1)) _
     rw [show j + 1 + n = j + (n + 1) by omega]
   simp only [Wo, hd, yu]
   rw [hit]
theorem JD {a b : Ea} (h : QD a b) : ∀ (n i : Nat) (W : Lg), RA (Kw a b) W → 262145 ≤ n + i →
 Pe (((), Lh a b W, (i : Int), ()), (a, ())) = some (match To (Ah a b) (Pk a b) a.1.toNat n i W with
  | some w => .inr ((w, true, ()), ())
  | none => .inl ((), ()))
 | n, i, W, hW, hn => by
  have hlen := Au h hW
  have hlx : (Lh a b W).length = W.length := yi _
  by_cases hi : i < W.length
  ·obtain ⟨n', rfl⟩ : ∃ n', n = n' + 1 := ⟨n - 1, by omega⟩
   obtain ⟨e, he⟩ : ∃ e, W[i] = e := ⟨_, rfl⟩
   have hp : Kw a b e.1 := by rw [← he]; exact hW.ok _ (qf hi)
   have hln : e.2.length ≤ i := by rw [← he]; exact hW.ln i hi
   obtain ⟨g1, g2⟩ := ZA (WE h) hW hp hln hi a.1.toNat (jo _)
   have hb1 : To (Ah a b) (Pk a b) a.1.toNat (n' + 1) i W = match Wo (Pk a b) e.1 a.1.toNat 0 with
    | some k => some (e.2 ++ [(k : Int)])
    | none => To (Ah a b) (Pk a b) a.1.toNat n' (i + 1) (Vr (Ah a b) e.1 e.2 a.1.toNat W) := by
    rw [To, je hi, he]
    all_goals rfl
   rw [hb1]
   have hin := HF h (i := i) e a.1.toNat 0 W (by omega) hW hi he
   have hx : Kh (fun q W => Fq (Ah a b) e.1 e.2 (0 + q) W) a.1.toNat W = Vr (Ah a b) e.1 e.2 a.1.toNat W := by
    unfold Vr
    congr 1
    funext q W
    rw [js]
   rw [hx] at hin
   have hstep : Qi () (Lh a b W) (i : Int) a = some (match Wo (Pk a b) e.1 a.1.toNat 0 with
    | some k => .inr (.inr ((e.2 ++ [(k : Int)], true, ()), ()))
    | none => .inl (((), Lh a b (Vr (Ah a b) e.1 e.2 a.1.toNat W), ((i + 1 : Nat) : Int), ()), (a, ()))) := by
    simp only [Qi]
    rw [hlx, Ia (by omega)]
    simp only [yt]
    erw [hin]
    cases Wo (Pk a b) e.1 a.1.toNat 0 with
    | some k => rfl
    | none =>
     simp only [jb, qe]
     rw [Qh (by omega) (by omega)]; rfl
   unfold Pe
   refine (Id hstep).trans ?_
   cases hf : Wo (Pk a b) e.1 a.1.toNat 0 with
   | some k => rfl
   | none =>
    have ih := JD h n' (i + 1) _ g1 (by omega)
    unfold Pe at ih
    exact ih
  ·have hb : To (Ah a b) (Pk a b) a.1.toNat n i W = none := by
    cases n with
    | zero => rfl
    | succ n => rw [To, qn (by omega)]
   rw [hb]
   unfold Pe
   refine (Id (z := some (.inr (.inl ((), ())))) ?_).trans rfl
   simp only [Qi]
   rw [hlx, Ja (by omega)]; rfl
theorem FN (m : Ea) (hz : Db Oa m ≤ Pa) : Km m [] = some (cond (Sc m) (Hf m 0 0 false [], true, ()) (Jw, false, ())) := by
 have h20 : Pa = 1048576 := rfl
 have hs : Db Kb (Hf m 0 0 false []) ≤ Pa := by rw [YS]; simpa using hz
 unfold Km
 have h1 : Eg (m, ([] : List (List Fe)), (0 : Int), ([] : List Sa), (0 : Int), false, ()) = some (Sc m, ()) := by
  have h := Wh (Hf m 0 0 false []) hs
  have he : Ut (Hf m 0 0 false []) = Sc m := by
   cases hm : Sc m with
   | true => exact Mu hm (LL (CR hm)) false Mz (by simp)
   | false => unfold Ut; simp [Hf, hm]
  rw [he] at h
  exact h
 rw [h1]
 cases hm : Sc m with
 | true =>
  simp only [jb, jg, yu, yt]
  have := Pr (Hf m 0 0 false []) hs
  unfold Hf at this
  rw [this]
  rfl
 | false => rfl
theorem XC (a b : Ea) (ha : Db Oa a ≤ Pa) (hb : Db Oa b ≤ Pa) : Wi a b = some (Jz a b) := by
 unfold Wi Jz VP
 rw [FN a ha, FN b hb]
 cases h1 : Sc a with
 | false => rfl
 | true =>
  simp only [jb, jg, yu, yt, jk]
  cases h2 : Sc b with
  | false => rfl
  | true =>
   simp only [jg, yu, yt, jk]
   by_cases hk : a.1 = b.1
   ·rw [show (a.1 != b.1) = false by simp [hk], show (a.1 == b.1) = true by simp [hk]]
    simp only [yu, jk]
    by_cases h6 : a.1 > 6
    ·rw [Ia h6]; rfl
    ·rw [Ja h6]
     simp only [yu, Bool.not_false, yt]
     have hT := ZR h1 h2 hk
     have := JD hT 262145 0 [(YO, [])] (CM hT) (by omega)
     erw [this]
     show jz (some (match DG a b with | some w => Sum.inr ((w, true, ()), ()) | none => Sum.inl ((), ()))) _ = _
     cases DG a b <;> rfl
   ·rw [show (a.1 != b.1) = true by simp [hk], show (a.1 == b.1) = false by simp [hk]]; rfl
theorem SP {a b : Ea} (h : QD a b) : ∀ (n i : Nat) (W : Lg) (w : List Int), RA (Kw a b) W → To (Ah a b) (Pk a b) a.1.toNat n i W = some w → w.length ≤ 262145
 | 0, i, W, w, _, hb => by simp [To] at hb
 | n + 1, i, W, w, hW, hb => by
  have hlen := Au h hW
  by_cases hi : i < W.length
  ·rw [To, je hi] at hb
   have hp := hW.ok _ (qf hi)
   have hln := hW.ln i hi
   simp only at hb
   cases hf : Wo (Pk a b) W[i].1 a.1.toNat 0 with
   | some k =>
    rw [hf] at hb
    simp only [jc] at hb
    subst hb
    simp
    omega
   | none =>
    rw [hf] at hb
    exact SP h n (i + 1) _ w (ZA (WE h) hW hp hln hi a.1.toNat (jo _)).1 hb
  ·rw [To, qn (by omega)] at hb
   simp at hb
theorem SZ (a b : Ea) : (Jz a b).1.length ≤ 262145 := by
 unfold Jz
 cases hc : VP a b with
 | false => simp
 | true =>
  simp only [yt]
  cases hd : DG a b with
  | none => simp
  | some w =>
   unfold VP at hc
   simp only [jd, beq_iff_eq] at hc
   have hT := ZR hc.1 hc.2.1 hc.2.2.1
   exact SP hT _ _ _ w (CM hT) hd
theorem NG (a b : Ea) (_ : Eu Oa a) (_ : Eu Oa b) (ha : Db Oa a ≤ Pa) (hb : Db Oa b ≤ Pa) :
 ∃ w0 w1, Wi a b = some (w0, w1, ()) ∧ Ch a b = some (w0, w1, ()) ∧ Db (.sl int) w0 ≤ 1 * Pa := by
 have h20 : Pa = 1048576 := rfl
 refine ⟨(Jz a b).1, (Jz a b).2.1, XC a b ha hb, IC a b ha hb, ?_⟩
 rw [Tac]
 have := SZ a b
 omega
theorem HI (a0 : Ea) (a1 : Ea) (hr0 : Eu Oa a0) (hr1 : Eu Oa a1) : Xg a0 a1 = some (true, ()) := by
 have h20 : Pa = 1048576 := rfl
 have h40 : Cg = 1099511627776 := rfl
 unfold Xg
 have s0 := KH a0 hr0 (1048576) (by omega)
 rw [show ((1048576 : Nat) : Int) = 1048576 from rfl] at s0
 rw [s0]
 simp only [jb]
 by_cases z0 : Db Oa a0 ≤ 1048576
 case neg => rw [Xw z0]; rfl
 rw [Zy z0, Ja (by omega)]
 simp only [yu]
 have s1 := KH a1 hr1 (1048576 - Db Oa a0) (by omega)
 rw [s1]
 simp only [jb]
 by_cases z1 : Db Oa a1 ≤ 1048576 - Db Oa a0
 case neg => rw [Xw z1]; rfl
 rw [Zy z1, Ja (by omega)]
 simp only [yu]
 have hz0 : Db Oa a0 ≤ Pa := by omega
 have hz1 : Db Oa a1 ≤ Pa := by omega
 obtain ⟨w0, w1, e1, e2, b0⟩ := NG a0 a1 hr0 hr1 hz0 hz1
 obtain ⟨x0, k0, g0, i0, m0, n0, _⟩ := ID a0 1 (by omega)
 rw [show ((1 : Nat) : Int) = 1 from rfl] at m0 n0
 have d0 : decide ((k0 : Int) < 0) = false := Ja (by omega)
 obtain ⟨x1, k1, g1, i1, m1, n1, _⟩ := ID a1 k0 (by omega)
 have d1 : decide ((k1 : Int) < 0) = false := Ja (by omega)
 obtain ⟨x2, k2, g2, i2, m2, n2, _⟩ := LS w0 1 (by omega)
 rw [show ((1 : Nat) : Int) = 1 from rfl] at m2 n2
 have d2 : decide ((k2 : Int) < 0) = false := Ja (by omega)
 simp only [e1, e2, LH a0 hz0, YG a0 (by omega), LH a1 hz1, YG a1 (by omega), VZ w0 (by omega), m0, d0, m1, d1, m2, d2, n2, jb, bne_self_eq_false', bne_self_eq_false, jg, yu]
end KF
