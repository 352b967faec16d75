/- An evaluator of Go functions on plain data, its soundness, and plain laws on what the functions compute, part 5 (conditions: as each lemma tells). -/
import Derived.Test.YteooipbgmfmhfaaGreatDoorD
set_option linter.unusedSimpArgs false
set_option linter.unusedVariables false
namespace KF
open Go
open List renaming length → ja, getElem?_eq_getElem → je, append → jf, mem_append → jm, mem_cons → jq, mem_cons_of_mem → js, length_cons → jx, set → j7, length_nil → j8, length_set → j9, mem_singleton → qd, length_append → qe, getD_eq_getElem?_getD → qg, getElem_mem → qi, getElem_of_mem → qj, mem_map → qk, ext_getElem? → qn, drop_drop → qo, toArray → qp, getD → qq, getElem?_eq_none → qr, mem_iff_getElem → qs, mem_append_left → qt, mem_append_right → qu, append_assoc → qy, eq_nil_of_length_eq_zero → q6, getElem?_eq_some_iff → q7, length_eq_one_iff → q8, replicate → yb, cons_append → yf, map_cons → yh, map_nil → yi, nodup_cons → yk, nodup_append → yl, size_toArray → ym, flatten_cons → yn, length_map → yp, mem_map_of_mem → yt, map_append → yu, all_eq_true → yv, range → yx, not_mem_nil → yz
open Option renaming bind_some → jb, bind → j4, map_some → qc, bind_eq_some_iff → qf, getD_some → qx, map_eq_some_iff → yw
open Option.some renaming injEq → jc, inj → yy
open Bool renaming and_eq_true → jd, not_true → jg, true_and → jl, false_eq_true → jr, not_eq_true → qa, or_eq_true → qw, not_eq_true' → yj, or_eq_false_iff → yq, false_or → yr
open Prod.mk renaming injEq → jh
open Nat renaming ble_eq_true_of_le → jk, mul_le_mul_right → jn, le_refl → jp, zero_add → jt, add_assoc → ju, eq_of_beq_eq_true → jv, ble → jy, le_trans → qb, beq → qv, le_of_ble_eq_true → qz, add_zero → q9, blt → ya, blt_eq → yc, add_mul → yd, one_mul → ye, succ_mul → yo
open Int renaming toNat_natCast → jo, eq_ofNat_of_zero_le → jw, toNat → jz
open Go.IntKind renaming wrap → j5, wrap → j6
open Sum renaming elim_inl → qh
open Result renaming andThen_ok → ql
open Sem renaming run_bind → qm
open List.cons renaming injEq → yg
noncomputable def JW (m : Aa) (f : Int) (k : Nat) : Ba := Gz (Pi m.2.1 (Lh m (Ed .i64 1 f) k) k)
noncomputable def Zf (m : Aa) (f o : Int) (c : Bool) (k : Nat) : Int × Int × Bool × Ba := So f o c (JW m f k)
noncomputable def hK (m : Aa) (f o : Int) (c : Bool) (k : Nat) : List Pa := [((k : Int), (Zf m f o c k).2.2.2, ())]
noncomputable def Lj (m : Aa) (f o : Int) (c : Bool) (k : Nat) : List Ga := Js Eg (De []) [De (hK m f o c k)]
noncomputable def XB (m : Aa) (f o : Int) (c : Bool) (k : Nat) : List Ga := Js Eg (De (hK m f o c k)) [De []]
structure Oi (m : Aa) : Prop where
 v : Xa m = true
 z : Dc La m ≤ Ma - 10
theorem Tx {m : Aa} (hM : Oi m) {f o : Int} {c : Bool} (hs : Jq m.2.1.length f o) {k : Nat} (hk : (k : Int) < m.1) :
 WE m.2.1.length (JW m f k) ∧ Jq m.2.1.length (Zf m f o c k).1 (Zf m f o c k).2.1 ∧ WE m.2.1.length (Zf m f o c k).2.2.2 ∧ Pe (hK m f o c k) = true ∧
  (∀ x ∈ hK m f o c k, Ii m.1 m.2.1.length x = true) := by
 have hm := Yc hM.v
 have h1 := YS hm (Ed .i64 1 f) hk
 have h2 := U3 h1.1 h1.2
 have h3 := Taa (c := c) hm.l2 hs h2
 refine ⟨h2, h3.1, h3.2, Aah (by have := hm.k2; omega) h3.2, fun x hx => ?_⟩
 simp only [hK, jq, yz, or_false] at hx
 subst hx
 simp only [Ii, jd, yj, Bool.and_eq_false_iff, decide_eq_false_iff_not]
 refine ⟨by omega, ?_⟩
 by_cases h9 : (Zf m f o c k).2.2.2.1 = 9
 ·exact .inl (by show ((Zf m f o c k).2.2.2.1 != 9) = false; simp [h9])
 ·exact .inr (Int.not_le.2 (h3.2.n h9))
theorem z20 {m : Aa} (hM : Oi m) (f o : Int) (c : Bool) (h : List Pa) (hh : h.length ≤ 1) : Dc Hb (Oe m f o c h) ≤ Ma := by
 have h20 : Ma = 1048576 := rfl
 have := hM.z
 rw [N0]; omega
theorem PE (l : List Pa) : (De l).2.1.length ≤ Ma := by
 have h20 : Ma = 1048576 := rfl
 have := RH l
 omega
theorem Uw : Pe [] = true := rfl
theorem HI {m : Aa} (hM : Oi m) {f o : Int} {c : Bool} (hs : Jq m.2.1.length f o) {k : Nat} (hk : (k : Int) < m.1) :
 Ny (Oe m f o c []) (k : Int) false = some (Oe m (Zf m f o c k).1 (Zf m f o c k).2.1 (Zf m f o c k).2.2.1 (hK m f o c k), Lj m f o c k, ()) := by
 have h20 : Ma = 1048576 := rfl
 have hm := Yc hM.v
 obtain ⟨h1, h2, h3, h4, h5⟩ := Tx (o := o) (c := c) hM hs hk
 have hl := HE hm (Ed .i64 1 f) k
 have hrow := hm.row _ hl
 unfold Ny
 rw [Hu _ (z20 hM f o c [] (by simp))]
 show j4 (some (Oe m f o c [], ())) _ = _
 simp only [jb]
 show j4 (Zk f []) _ = _
 rw [PJ (H6 hm.l2 hs)]
 simp only [jb]
 show j4 (Ju m (Ed .i64 1 f) (k : Int)) _ = _
 rw [LP hm _ hk]
 simp only [jb]
 show j4 (Ic m.2.1 ((Lh m (Ed .i64 1 f) k : Nat) : Int)) _ = _
 rw [NX hl (by omega)]
 simp only [y8]
 rw [CU]
 simp only [jb]
 show j4 (Wr (m, [], f, [], o, c, ()) (JW m f k)) _ = _
 rw [CR _ _ _ _ _ _ _ h1.act]
 simp only [jb]
 have e9 : decide ((Zf m f o c k).2.2.2.2.2.2.1 < ((ja ([] : List (List Fe)) : Nat) : Int)) = false := Ea (by have := Kz h3.act; show ¬ _ < (0 : Int); omega)
 have hR1 : Xb (hK m f o c k) = some (De (hK m f o c k), ()) := Tq _ (by simp [hK]; omega) h4
 have hR0 : Xb [] = some (De [], ()) := Tq [] (by decide) Uw
 have hC : Uc (De []) [De (hK m f o c k)] = some (Lj m f o c k, ()) := CE _ _ (by simp; omega) (PE _) (fun x hx => by
  simp only [jq, yz, or_false] at hx; rw [hx]; exact PE _)
 have Kf : (j4 (Xb (hK m f o c k)) fun r29 => j4 (Xb ([] : List Pa)) fun r30 => j4 (Uc r30.1 [r29.1]) fun r31 =>
  (some (Oe m (Zf m f o c k).1 (Zf m f o c k).2.1 (Zf m f o c k).2.2.1 (hK m f o c k), r31.1, ()) : Option (Sa × ((List Ga) × Unit)))) =
  some (Oe m (Zf m f o c k).1 (Zf m f o c k).2.1 (Zf m f o c k).2.2.1 (hK m f o c k), Lj m f o c k, ()) := by
  rw [hR1, hR0]
  simp only [jb]
  rw [hC]
  rfl
 have hb : jy (ja ([] : List Pa) + ja (hK m f o c k)) Nb = true := rfl
 show cond (jy (ja ([] : List Pa) + ja (hK m f o c k)) Nb) (cond ((Zf m f o c k).2.2.2.1 == 9) (cond (decide ((Zf m f o c k).2.2.2.2.2.2.1 < ((ja ([] : List (List Fe)) : Nat) : Int))) _ _) _) _ = _
 rw [hb, e9]
 cases (Zf m f o c k).2.2.2.1 == 9 <;> exact Kf
theorem OU {m : Aa} (hM : Oi m) {f o : Int} {c : Bool} (hs : Jq m.2.1.length f o) {k : Nat} (hk : (k : Int) < m.1) :
 Dr (Oe m f o c []) (k : Int) false = some (Oe m (Zf m f o c k).1 (Zf m f o c k).2.1 (Zf m f o c k).2.2.1 (hK m f o c k), Lj m f o c k, true, ()) := by
 have h20 : Ma = 1048576 := rfl
 have hm := Yc hM.v
 have hz0 := hM.z
 obtain ⟨h1, h2, h3, h4, h5⟩ := Tx (o := o) (c := c) hM hs hk
 have hk2 := hm.k2
 have hv := Nn hM.v hs c Uw (by simp)
 unfold Dr
 rw [Bk _ (z20 hM f o c [] (by simp)), hv, AA _ _ (by show (0 : Nat) ≤ _; omega), Ov _ (z20 hM f o c [] (by simp))]
 simp only [jb, jg, y8, Ah]
 show cond (!decide (0 ≤ (k : Int) ∧ (k : Int) ≤ j6 .i64 (m.1 - 1))) _ _ = _
 rw [Id (by omega) (by omega), Ca (show 0 ≤ (k : Int) ∧ (k : Int) ≤ m.1 - 1 by omega)]
 simp only [jg, y8]
 show cond (decide ((-1 : Int) ≥ 0)) _ _ = _
 rw [Ea (by decide)]
 simp only [y8]
 show j4 (Rr f []) _ = _
 rw [XY (H6 hm.l2 hs)]
 simp only [jb]
 show j4 (Qr m (Ed .i64 1 f) (k : Int)) _ = _
 rw [TN (by omega) hM.v _ hk]
 simp only [jb]
 rw [LI]
 simp only [jb]
 show j4 (Ln (m, [], f, [], o, c, ()) (JW m f k)) _ = _
 rw [UR _ _ _ _ _ _ _ h1.act]
 simp only [jb]
 have e9 : decide ((Zf m f o c k).2.2.2.2.2.2.1 < ((ja ([] : List (List Fe)) : Nat) : Int)) = false := Ea (by have := Kz h3.act; show ¬ _ < (0 : Int); omega)
 have hR1 : Yb (hK m f o c k) = some (De (hK m f o c k), ()) := Hr _ (by simp [hK]; omega) h4
 have hR0 : Yb [] = some (De [], ()) := Hr [] (by decide) Uw
 have hC : Ie (De []) [De (hK m f o c k)] = some (Lj m f o c k, ()) := TE _ _ (by simp; omega) (PE _) (fun x hx => by
  simp only [jq, yz, or_false] at hx; rw [hx]; exact PE _)
 have Kf : (j4 (Yb (hK m f o c k)) fun r29 => j4 (Yb ([] : List Pa)) fun r30 => j4 (Ie r30.1 [r29.1]) fun r31 =>
  (some (Oe m (Zf m f o c k).1 (Zf m f o c k).2.1 (Zf m f o c k).2.2.1 (hK m f o c k), r31.1, true, ()) : Option (Sa × ((List Ga) × (Bool × Unit))))) =
  some (Oe m (Zf m f o c k).1 (Zf m f o c k).2.1 (Zf m f o c k).2.2.1 (hK m f o c k), Lj m f o c k, true, ()) := by
  rw [hR1, hR0]
  simp only [jb]
  rw [hC]
  rfl
 have hb : jy (ja ([] : List Pa) + ja (hK m f o c k)) Nb = true := rfl
 show cond (jy (ja ([] : List Pa) + ja (hK m f o c k)) Nb) (cond ((Zf m f o c k).2.2.2.1 == 9) (cond (decide ((Zf m f o c k).2.2.2.2.2.2.1 < ((ja ([] : List (List Fe)) : Nat) : Int))) _ _) _) _ = _
 rw [hb, e9]
 cases (Zf m f o c k).2.2.2.1 == 9 <;> exact Kf
theorem CX {m : Aa} {f o : Int} {c : Bool} {k : Nat} : He (fun h : Pa => h.1 == (k : Int)) 0 (hK m f o c k) = 0 := by
 have e : ((k : Int) == (k : Int)) = true := by simp
 show cond ((k : Int) == (k : Int)) ((0 : Nat) : Int) _ = 0
 rw [e]; rfl
theorem FE {m : Aa} (hM : Oi m) {f o : Int} {c : Bool} (hs : Jq m.2.1.length f o) {k : Nat} (hk : (k : Int) < m.1) (f' o' : Int) (c' : Bool) :
 Lu (Oe m f' o' c' (hK m f o c k)) (k : Int) = some (Oe m f' o' c' [], XB m f o c k, ()) := by
 have h20 : Ma = 1048576 := rfl
 obtain ⟨h1, h2, h3, h4, h5⟩ := Tx (o := o) (c := c) hM hs hk
 have hR1 : Xb (hK m f o c k) = some (De (hK m f o c k), ()) := Tq _ (by simp [hK]; omega) h4
 have hR0 : Xb [] = some (De [], ()) := Tq [] (by decide) Uw
 have hC : Uc (De (hK m f o c k)) [De []] = some (XB m f o c k, ()) := CE _ _ (by simp; omega) (PE _) (fun x hx => by
  simp only [jq, yz, or_false] at hx; rw [hx]; exact PE _)
 unfold Lu
 rw [Hu _ (z20 hM f' o' c' _ (by simp [hK])), SF _ _ (by show (hK m f o c k).length ≤ _; simp [hK]; omega)]
 simp only [jb]
 have hf : He (fun h : Pa => h.1 == (k : Int)) 0 (Oe m f' o' c' (hK m f o c k)).2.2.2.1 = 0 := CX
 rw [hf]
 show j4 (Xb (hK m f o c k)) (fun r3 => j4 (Xb []) fun r4 => j4 (Uc r3.1 [r4.1]) fun r5 => some (Oe m f' o' c' [], r5.1, ())) = _
 rw [hR1, hR0]
 simp only [jb]
 rw [hC]
 rfl
theorem MQ {m : Aa} (hM : Oi m) {f o : Int} {c : Bool} (hs : Jq m.2.1.length f o) {k : Nat} (hk : (k : Int) < m.1) {f' o' : Int} (hs' : Jq m.2.1.length f' o') (c' : Bool) :
 Xp (Oe m f' o' c' (hK m f o c k)) (k : Int) = some (Oe m f' o' c' [], XB m f o c k, true, ()) := by
 have h20 : Ma = 1048576 := rfl
 obtain ⟨h1, h2, h3, h4, h5⟩ := Tx (o := o) (c := c) hM hs hk
 have hR1 : Yb (hK m f o c k) = some (De (hK m f o c k), ()) := Hr _ (by simp [hK]; omega) h4
 have hR0 : Yb [] = some (De [], ()) := Hr [] (by decide) Uw
 have hC : Ie (De (hK m f o c k)) [De []] = some (XB m f o c k, ()) := TE _ _ (by simp; omega) (PE _) (fun x hx => by
  simp only [jq, yz, or_false] at hx; rw [hx]; exact PE _)
 have hv := Nn hM.v hs' c' h4 h5
 have hW : Ng (hK m f o c k) 0 = some ([], ()) := rfl
 unfold Xp
 rw [AA _ _ (by show (hK m f o c k).length ≤ _; simp [hK]; omega), Bk _ (z20 hM f' o' c' _ (by simp [hK])), hv, Ov _ (z20 hM f' o' c' _ (by simp [hK]))]
 simp only [jb, jg, y8]
 show cond (decide (He (fun h : Pa => h.1 == (k : Int)) 0 (hK m f o c k) < 0)) _ (j4 (Ng (hK m f o c k) (He (fun h : Pa => h.1 == (k : Int)) 0 (hK m f o c k))) _) = _
 rw [CX, Ea (by decide), hW]
 show j4 (Yb (hK m f o c k)) (fun r5 => j4 (Yb []) fun r6 => j4 (Ie r5.1 [r6.1]) fun r7 => some (Oe m f' o' c' [], r7.1, true, ())) = _
 rw [hR1, hR0]
 simp only [jb]
 rw [hC]
 rfl
def Tt : Sa := (((0 : Int), ([] : List (List Ba)), ()), ([] : List (List Fe)), (0 : Int), ([] : List Pa), (0 : Int), false, ())
theorem Hae : Am Tt = false := rfl
theorem Iae : Dc Hb Tt ≤ Ma := by decide
theorem Ry {m : Aa} (hv : Xa m = true) : Oi m := by
 have hm := Yc hv
 refine ⟨hv, ?_⟩
 have h20 : Ma = 1048576 := rfl
 have h1 : Dc La m = 0 + (Dc (.sl (.sl Cd)) m.2.1 + 0) := rfl
 have h2 : Dc (.sl (.sl Cd)) m.2.1 ≤ (32 + 1) * ja m.2.1 := QL (e := .sl Cd) (c := 32) fun x hx => by
  obtain ⟨i, hi, rfl⟩ := qj hx
  rw [QK]
  have := hm.row i hi
  have := hm.k2
  omega
 have := hm.l2
 omega
abbrev St := (Int × Int × Bool) × List Ga
noncomputable def gT (m : Aa) (s : St) (k : Int) : St ⊕ Unit :=
 cond (decide (0 ≤ k ∧ k < m.1)) (.inl (((Zf m s.1.1 s.1.2.1 s.1.2.2 k.toNat).1, (Zf m s.1.1 s.1.2.1 s.1.2.2 k.toNat).2.1, (Zf m s.1.1 s.1.2.1 s.1.2.2 k.toNat).2.2.1),
  jf (jf s.2 (Lj m s.1.1 s.1.2.1 s.1.2.2 k.toNat)) (XB m s.1.1 s.1.2.1 s.1.2.2 k.toNat))) (.inr ())
structure OM (m : Aa) (k : Nat) (s : St) : Prop where
 st : Jq m.2.1.length s.1.1 s.1.2.1
 len : s.2.length ≤ 2 * k
 rep : ∀ x ∈ s.2, x.2.1.length ≤ 56
theorem KX {m : Aa} (hM : Oi m) {k : Nat} {s s' : St} {x : Int} (hi : OM m k s) (h : gT m s x = .inl s') : OM m (k + 1) s' := by
 unfold gT at h
 by_cases hx : 0 ≤ x ∧ x < m.1
 ·rw [Ca hx] at h
  simp only [y3, Sum.inl.injEq] at h
  obtain ⟨n, rfl⟩ := jw hx.1
  rw [jo] at h
  obtain ⟨h1, h2, h3, h4, h5⟩ := Tx (o := s.1.2.1) (c := s.1.2.2) hM hi.st hx.2
  subst h
  refine ⟨h2, ?_, ?_⟩
  ·have e1 : (Lj m s.1.1 s.1.2.1 s.1.2.2 n).length ≤ 1 := Oq _ _
   have e2 : (XB m s.1.1 s.1.2.1 s.1.2.2 n).length ≤ 1 := Oq _ _
   have := hi.len
   show (jf (jf s.2 _) _).length ≤ _
   simp only [List.append_eq, qe]
   omega
  ·intro y hy
   have hy' : y ∈ (s.2 ++ Lj m s.1.1 s.1.2.1 s.1.2.2 n) ++ XB m s.1.1 s.1.2.1 s.1.2.2 n := hy
   rw [jm, jm] at hy'
   rcases hy' with (hy' | hy') | hy'
   ·exact hi.rep y hy'
   ·have := Nz _ _ _ hy'
    simp only [jq, yz, or_false] at this
    rw [this]; exact RH _
   ·have := Nz _ _ _ hy'
    simp only [jq, yz, or_false] at this
    rw [this]; exact RH _
 ·rw [Ea hx] at h; simp at h
theorem BU {m : Aa} (hM : Oi m) {f o : Int} {c : Bool} (hs : Jq m.2.1.length f o) (x : Int) :
 Ly (Oe m f o c []) x false = some (cond (decide (0 ≤ x ∧ x < m.1)) (Oe m (Zf m f o c x.toNat).1 (Zf m f o c x.toNat).2.1 (Zf m f o c x.toNat).2.2.1 (hK m f o c x.toNat), Lj m f o c x.toNat, true, ()) (Tt, [], false, ())) := by
 have h20 : Ma = 1048576 := rfl
 have hv := Nn hM.v hs c Uw (by simp)
 unfold Ly
 rw [Ix _ (z20 hM f o c [] (by simp)), hv]
 simp only [jb, jg, y8]
 by_cases hx : 0 ≤ x ∧ x < m.1
 ·rw [Ca hx, Ea (show ¬ x < 0 by omega)]
  show cond (decide (x ≥ m.1)) _ _ = _
  rw [Ea (show ¬ x ≥ m.1 by omega), SF _ _ (by show (0 : Nat) ≤ _; omega)]
  obtain ⟨n, rfl⟩ := jw hx.1
  rw [HI hM hs hx.2, jo]
  simp only [y8, jb]
  show cond (decide ((-1 : Int) ≥ 0)) _ _ = _
  rw [Ea (by decide)]; rfl
 ·rw [Ea hx]
  by_cases h0 : x < 0
  ·rw [Ca h0]; rfl
  ·rw [Ea h0]
   show cond (decide (x ≥ m.1)) _ _ = _
   rw [Ca (show x ≥ m.1 by omega)]; rfl
theorem LU {m : Aa} (hM : Oi m) {f o : Int} {c : Bool} (hs : Jq m.2.1.length f o) (x : Int) :
 Dr (Oe m f o c []) x false = some (cond (decide (0 ≤ x ∧ x < m.1)) (Oe m (Zf m f o c x.toNat).1 (Zf m f o c x.toNat).2.1 (Zf m f o c x.toNat).2.2.1 (hK m f o c x.toNat), Lj m f o c x.toNat, true, ()) (Tt, [], false, ())) := by
 have hm := Yc hM.v
 have hk1 := hm.k1
 have hk2 := hm.k2
 by_cases hx : 0 ≤ x ∧ x < m.1
 ·rw [Ca hx]
  obtain ⟨n, rfl⟩ := jw hx.1
  rw [OU hM hs hx.2, jo]; rfl
 ·rw [Ea hx]
  have hv := Nn hM.v hs c Uw (by simp)
  unfold Dr
  rw [Bk _ (z20 hM f o c [] (by simp)), hv]
  simp only [jb, jg, y8, Ah]
  show cond (!decide (0 ≤ x ∧ x ≤ j6 .i64 (m.1 - 1))) _ _ = _
  rw [Id (by omega) (by omega), Ea (show ¬ (0 ≤ x ∧ x ≤ m.1 - 1) by omega)]
  rfl
theorem VL (x : Int) : Xp Tt x = some (Tt, [], false, ()) := by
 unfold Xp
 rw [Bk _ Iae, Hae, AA _ _ (by decide)]; rfl
def eS (m : Aa) (s : St) : Sa := Oe m s.1.1 s.1.2.1 s.1.2.2 []
noncomputable def YR (m : Aa) (s : St) (keys : List Int) : Sa × ((List Ga) × (Bool × Unit)) :=
 match Ve (fun _ s x => gT m s x) 0 s keys with | .inl s' => (eS m s', s'.2, true, ()) | .inr _ => (Tt, [], false, ())
theorem IP {m : Aa} (hM : Oi m) {f o : Int} {c : Bool} (hs : Jq m.2.1.length f o) (keys : List Int) (hn : keys.length ≤ Ma) : My (Oe m f o c []) keys = some (YR m ((f, o, c), []) keys) := by
 have h20 : Ma = 1048576 := rfl
 have hlim := Rj
 have hl := Cm (step := fun x => Uq x.1.1 x.1.2.1 x.1.2.2.1 x.1.2.2.2.1 x.1.2.2.2.2.1 x.1.2.2.2.2.2.1 x.2.1 x.2.2.1) keys (fun _ s x => gT m s x) (fun s i => (((), (), s.2, keys, ((ja keys : Nat) : Int), i, ()), (Tt, eS m s, ())))
  (fun s => .inl (((), (), s.2, ()), (Tt, eS m s, ()))) (fun _ => .inr (((), ([] : List Ga), false, ()), (Tt, ()))) (OM m) (by
   intro k hk s hi
   refine ⟨?_, fun s' h => KX hM hi h⟩
   simp only [Uq]
   rw [Ca (show (k : Int) < ((ja keys : Nat) : Int) by omega), Gc hk]
   simp only [y3, jb]
   generalize keys[k] = x
   show j4 (Ly (Oe m s.1.1 s.1.2.1 s.1.2.2 []) x false) _ = _
   rw [BU hM hi.st]
   unfold gT
   by_cases hx : 0 ≤ x ∧ x < m.1
   ·rw [Ca hx]
    simp only [y3, jb, jg, y8]
    obtain ⟨n, rfl⟩ := jw hx.1
    rw [jo, FE hM hi.st hx.2]
    have e1 : (Lj m s.1.1 s.1.2.1 s.1.2.2 n).length ≤ 1 := Oq _ _
    have e2 : (XB m s.1.1 s.1.2.1 s.1.2.2 n).length ≤ 1 := Oq _ _
    have := hi.len
    simp only [jb]
    rw [show jy (ja s.2 + ja (Lj m s.1.1 s.1.2.1 s.1.2.2 n)) Nb = true from jk (by omega),
     show jy (ja (jf s.2 (Lj m s.1.1 s.1.2.1 s.1.2.2 n)) + ja (XB m s.1.1 s.1.2.1 s.1.2.2 n)) Nb = true from jk (by simp only [List.append_eq, qe]; omega)]
    rfl
   ·rw [Ea hx]; rfl)
  (by
   intro s _
   simp only [Uq]
   rw [Ea (by omega)]; rfl) (by omega) ((f, o, c), []) ⟨hs, by simp, by simp⟩
 have hv := Nn hM.v hs c Uw (by simp)
 unfold My Ns
 rw [Ix _ (z20 hM f o c [] (by simp)), hv, Hu _ (z20 hM f o c [] (by simp))]
 simp only [jb, jg, y8]
 erw [hl]
 unfold YR
 simp only [jb]
 cases Ve (fun x s x => gT m s x) 0 ((f, o, c), []) keys <;> rfl
theorem HX {m : Aa} (hM : Oi m) : ∀ (l : List Int) (k : Nat) (s s' : St), OM m k s → Ve (fun _ s x => gT m s x) k s l = .inl s' → OM m (k + l.length) s'
 | [], k, s, s', h, he => by simp only [Ve, Sum.inl.injEq] at he; rw [← he]; exact h
 | x :: l, k, s, s', h, he => by
  simp only [Ve] at he
  cases hg : gT m s x with
  | inr u => rw [hg] at he; simp at he
  | inl s1 =>
   rw [hg] at he
   have := HX hM l (k + 1) s1 s' (KX hM h hg) he
   rw [jx, Nat.add_comm l.length 1, ← ju]
   exact this
theorem JQ {m : Aa} (hM : Oi m) {f o : Int} {c : Bool} (hs : Jq m.2.1.length f o) (keys : List Int) (hn : keys.length ≤ Ma) : Zp (Oe m f o c []) keys = some (YR m ((f, o, c), []) keys) := by
 have h20 : Ma = 1048576 := rfl
 have hlim := Rj
 have hl := Cm (step := fun x => Ir x.1.1 x.1.2.1 x.1.2.2.1 x.1.2.2.2.1 x.1.2.2.2.2.1 x.2.1 x.2.2.1) keys (fun _ s x => gT m s x) (fun s i => ((keys, (), s.2, (), i, ()), (Tt, eS m s, ())))
  (fun s => .inl (((), s.2, (), ()), (Tt, eS m s, ()))) (fun _ => .inr (((), ([] : List Ga), false, ()), (Tt, ()))) (OM m) (by
   intro k hk s hi
   refine ⟨?_, fun s' h => KX hM hi h⟩
   simp only [Ir]
   rw [Ca (show (k : Int) < ((ja keys : Nat) : Int) by omega), Gc hk]
   simp only [y3, jb]
   generalize keys[k] = x
   show j4 (Dr (Oe m s.1.1 s.1.2.1 s.1.2.2 []) x false) _ = _
   rw [LU hM hi.st]
   unfold gT
   by_cases hx : 0 ≤ x ∧ x < m.1
   ·rw [Ca hx]
    simp only [y3, jb]
    obtain ⟨n, rfl⟩ := jw hx.1
    obtain ⟨_, h2, _⟩ := Tx (o := s.1.2.1) (c := s.1.2.2) hM hi.st hx.2
    rw [jo, MQ hM hi.st hx.2 h2]
    have e1 : (Lj m s.1.1 s.1.2.1 s.1.2.2 n).length ≤ 1 := Oq _ _
    have e2 : (XB m s.1.1 s.1.2.1 s.1.2.2 n).length ≤ 1 := Oq _ _
    have := hi.len
    simp only [jb, jg, y8]
    rw [show jy (ja s.2 + ja (Lj m s.1.1 s.1.2.1 s.1.2.2 n)) Nb = true from jk (by omega),
     show jy (ja (jf s.2 (Lj m s.1.1 s.1.2.1 s.1.2.2 n)) + ja (XB m s.1.1 s.1.2.1 s.1.2.2 n)) Nb = true from jk (by simp only [List.append_eq, qe]; omega)]
    rfl
   ·rw [Ea hx]
    simp only [y8, jb]
    rw [VL]
    rfl)
  (by
   intro s _
   simp only [Ir]
   rw [Ea (by omega)]; rfl) (by omega) ((f, o, c), []) ⟨hs, by simp, by simp⟩
 unfold Zp Rs
 erw [hl]
 unfold YR
 simp only [jb]
 cases hf : Ve (fun x s x => gT m s x) 0 ((f, o, c), []) keys with
 | inr u => rfl
 | inl s' =>
  have hi := HX hM keys 0 _ s' (⟨hs, by simp, by simp⟩ : OM m 0 ((f, o, c), [])) hf
  have hv := Nn hM.v hi.st s'.1.2.2 Uw (by simp)
  show j4 (Bi (eS m s')) _ = _
  unfold eS
  rw [Bk _ (z20 hM _ _ _ [] (by simp)), hv]
  simp only [jb, jg, y8]
  show j4 (Fm (Oe m s'.1.1 s'.1.2.1 s'.1.2.2 [])) _ = _
  rw [Ov _ (z20 hM _ _ _ [] (by simp))]
  rfl
def VY {X R : Type} (step : X → Option (X ⊕ R)) : Nat → X → Option R
 | 0, _ => none
 | n + 1, x => match step x with
  | some (.inl y) => VY step n y
  | some (.inr r) => some r
  | none => none
theorem L3 {X R : Type} {step : X → Option (X ⊕ R)} : ∀ (n : Nat) {x : X} {r : R}, VY step n x = some r → Ib step x = some r
 | 0, _, _, h => by simp [VY] at h
 | n + 1, x, r, h => by
  unfold VY at h
  cases hs : step x with
  | none => rw [hs] at h; simp at h
  | some z =>
   rw [hs] at h
   rw [Wd hs]
   cases z with
   | inl y => exact L3 n h
   | inr r' => exact h
def YD : List (List UInt8) := [[97], [98], [99], [100], [101], [102], [103], [104], [105], [106], [107], [108], [109], [110], [111], [112], [113], [114], [115], [116], [117], [118], [119], [120], [121], [122], [49], [50], [51], [52], [53], [54], [55], [56], [57], [48], [101, 110, 116, 101, 114], [101, 115, 99], [98, 97, 99, 107], [116, 97, 98], [115, 112, 97, 99, 101], [109, 105, 110, 117, 115], [101, 113, 117, 97, 108], [108, 101, 102, 116], [114, 105, 103, 104, 116], [117, 112], [100, 111, 119, 110], [102, 49], [102, 50], [102, 51], [102, 52], [102, 53], [102, 54], [102, 55], [102, 56], [102, 57]]
theorem K6 : strings_Split NI [32] = some (YD, ()) := by kernel_rfl
def Bj (c : Int) : List UInt8 := cond (decide (1 ≤ c ∧ c ≤ 56)) (YD.getD (c - 1).toNat []) []
theorem I8 : YD.length = 56 := by decide +kernel
theorem Aaj {c : Int} (h : 1 ≤ c ∧ c ≤ 56) : YD[(c - 1).toNat]? = some (Bj c) ∧ Te YD.length (c - 1) = true := by
 have hl : (c - 1).toNat < YD.length := by rw [I8]; omega
 constructor
 ·unfold Bj
  rw [Ca h, y3, qg, je hl]; rfl
 ·have : c - 1 = (((c - 1).toNat : Nat) : Int) := by omega
  rw [this, Rg]; exact Ca hl
theorem DN (c : Int) : Vw c = some (Bj c, ()) := by
 unfold Vw
 by_cases h1 : c < 1
 ·rw [Ca h1]; unfold Bj; rw [Ea (show ¬ (1 ≤ c ∧ c ≤ 56) by omega)]; rfl
 rw [Ea h1]
 by_cases h2 : c > 56
 ·rw [Ca h2]; unfold Bj; rw [Ea (show ¬ (1 ≤ c ∧ c ≤ 56) by omega)]; rfl
 rw [Ea h2, K6]
 obtain ⟨e1, e2⟩ := Aaj (c := c) (by omega)
 simp only [y8, jb]
 rw [Id (by omega) (by omega), e1, e2]
 rfl
theorem GN {l : List (List UInt8)} {by_ : List UInt8} (h1 : l.length ≤ 1073741824) (h2 : (Lib.join l by_).length ≤ 1073741824) : Xw l by_ = some (Lib.join l by_, ()) := by
 unfold Xw strings_Join QV
 rw [jk h1, jk h2]
 rfl
theorem Nac (l : List (List UInt8)) (s : List UInt8) (c : Nat) (h : ∀ x ∈ l, x.length ≤ c) : (Lib.join l s).length ≤ (c + s.length) * l.length := by
 cases l with
 | nil => simp [Lib.join_nil]
 | cons x r =>
  rw [Lib.join_cons, qe, Lib.joinTail_length]
  have h1 := h x (by simp)
  have h2 : Lib.lens r ≤ c * r.length := by
   clear h1
   induction r with
   | nil => simp [Lib.lens]
   | cons y r ih =>
    have := ih (fun z hz => h z (by simp at hz ⊢; rcases hz with hz | hz <;> simp [hz]))
    have h3 := h y (by simp)
    simp only [Lib.lens, yh, List.sum_cons, jx] at this ⊢
    rw [Nat.mul_succ]
    omega
  simp only [jx]
  rw [Nat.mul_succ, yd]
  omega
def Ft (m : Int) : List UInt8 := [[], [67], [83], [67, 83], [65], [67, 65], [83, 65], [67, 83, 65], [71], [67, 71], [83, 71], [67, 83, 71], [65, 71], [67, 65, 71], [83, 65, 71], [67, 83, 65, 71]].getD m.toNat []
theorem GU : ∀ m : Fin 16, VY (fun x : (Int × List UInt8 × List (List UInt8) × Int × Int × Unit) × Unit => Ks x.1.1 x.1.2.1 x.1.2.2.1 x.1.2.2.2.1 x.1.2.2.2.2.1) 10 (((m.val : Int), [], [[67], [83], [65], [71]], 4, 0, ()), ()) = some (.inl ((Ft m.val, ()), ())) := by
 intro m
 simp only [Ks]
 revert m
 decide +kernel
theorem KN {m : Int} (h : ¬ (1 ≤ m ∧ m ≤ 15)) : Ft m = [] := by
 unfold Ft
 by_cases hm : m < 1
 ·rw [show m.toNat = 0 by omega]; rfl
 ·rw [qg, qr (by simp; omega)]; rfl
theorem NJ (m : Int) : Ys m = some (Ft m, ()) := by
 unfold Ys
 by_cases h1 : m < 1
 ·rw [Ca h1, KN (by omega)]; rfl
 rw [Ea h1, y8]
 by_cases h2 : m > 15
 ·rw [Ca h2, KN (by omega)]; rfl
 rw [Ea h2, y8]
 have := L3 10 (GU ⟨m.toNat, by omega⟩)
 rw [show (((⟨m.toNat, by omega⟩ : Fin 16).val : Nat) : Int) = m by show ((m.toNat : Nat) : Int) = m; omega] at this
 unfold Io
 erw [this]
 rfl
theorem JY (m : Int) : (Ft m).length ≤ 4 := by
 by_cases h : 1 ≤ m ∧ m ≤ 15
 ·have : ∀ m : Fin 16, (Ft m.val).length ≤ 4 := by decide +kernel
  have := this ⟨m.toNat, by omega⟩
  rwa [show (((⟨m.toNat, by omega⟩ : Fin 16).val : Nat) : Int) = m by show ((m.toNat : Nat) : Int) = m; omega] at this
 ·rw [KN h]; simp
theorem Q8 (c : Int) : (Bj c).length ≤ 5 := by
 unfold Bj
 cases decide (1 ≤ c ∧ c ≤ 56) with
 | false => simp
 | true =>
  have h : ∀ x ∈ YD, x.length ≤ 5 := by decide +kernel
  rw [y3, qg]
  cases hc : YD[(c - 1).toNat]? with
  | none => simp
  | some y => exact h y (List.mem_of_getElem? hc)
def EF (r : Ga) : List UInt8 := cond (Sd r) (jf (jf (Ft r.1) [58]) (Lib.join (r.2.1.map Bj) [44])) []
theorem YA {r : Ga} (h : Sd r = true) : r.2.1.length ≤ 56 := by
 unfold Sd at h
 simp only [jd] at h
 have h2 := Ze.1 h.2
 have key : ∀ j (hj : j < r.2.1.length), (j : Int) + 1 ≤ r.2.1[j] ∧ r.2.1[j] ≤ 56 := by
  intro j
  induction j with
  | zero =>
   intro hj
   have := h2 0 hj
   simp only [Sy, jd, decide_eq_true_eq] at this
   omega
  | succ j ih =>
   intro hj
   have h3 := ih (by omega)
   have := h2 (j + 1) hj
   simp only [Sy, jd, qw, yj, decide_eq_true_eq, decide_eq_false_iff_not] at this
   have e : r.2.1.getD (0 + (j + 1) - 1) 0 = r.2.1[j] := by
    rw [show 0 + (j + 1) - 1 = j by omega, qg, je (by omega)]; rfl
   rw [e] at this
   omega
 apply Classical.byContradiction
 intro hn
 have := key 56 (by omega)
 omega
theorem TS {r : Ga} (h : Sd r = true) : (Lib.join (r.2.1.map Bj) [44]).length ≤ 336 := by
 have h1 := Nac (r.2.1.map Bj) [44] 5 (fun x hx => by
  obtain ⟨c, _, rfl⟩ := qk.1 hx
  exact Q8 c)
 have h2 := YA h
 simp only [yp, jx, j8] at h1
 omega
theorem JX (r : Ga) : (EF r).length ≤ 341 := by
 unfold EF
 cases h : Sd r with
 | false => simp
 | true =>
  have := TS h
  have := JY r.1
  simp only [y3, List.append_eq, qe, jx, j8]
  omega
theorem FH (r : Ga) (hn : r.2.1.length ≤ Ma) : Bp r = some (EF r, ()) := by
 have h20 : Ma = 1048576 := rfl
 unfold Bp EF
 rw [FN r hn]
 cases hv : Sd r with
 | false => rfl
 | true =>
  simp only [jb, jg, y8, y3]
  have hk := YA hv
  have hl := BB (step := fun x : (Unit × List (List UInt8) × List Int × Int × Int × Unit) × Ga × Unit => Ok x.1.1 x.1.2.1 x.1.2.2.1 x.1.2.2.2.1 x.1.2.2.2.2.1 x.2.1) r.2.1 Bj
   (fun o k => (((), o, r.2.1, (r.2.1.length : Int), k, ()), (r, ()))) (fun o => .inl (((), o, ()), (r, ()))) (by omega) (fun k hk o ho => by
    simp only [Ok]
    rw [Ca (by omega), Gc hk]
    simp only [y3, jb]
    rw [DN]
    simp only [jb]
    rw [Lf (by simp only [jx, j8]; omega)]
    rfl) (fun o => by
    simp only [Ok]
    rw [Ea (by omega)]
    rfl)
  unfold Nm
  erw [hl]
  simp only [jb, qh]
  rw [NJ]
  have h1 := JY r.1
  have h2 := TS hv
  simp only [jb]
  rw [Lf (by simp only [jx, j8]; omega)]
  simp only [y3]
  rw [GN (by simp; omega) (by omega)]
  simp only [jb]
  rw [Lf (by simp only [List.append_eq, qe, jx, j8]; omega)]
  rfl
theorem NL {c : UInt8} : ∀ {a a' b b' : List UInt8}, (∀ x ∈ a, x ≠ c) → (∀ x ∈ a', x ≠ c) → a ++ c :: b = a' ++ c :: b' → a = a' ∧ b = b'
 | [], [], b, b', _, _, h => by simpa using h
 | [], y :: r, b, b', _, h2, h => by
  simp only [List.nil_append, yf, yg] at h
  exact absurd h.1.symm (h2 y (by simp))
 | x :: r, [], b, b', h1, _, h => by
  simp only [List.nil_append, yf, yg] at h
  exact absurd h.1 (h1 x (by simp))
 | x :: r, y :: q, b, b', h1, h2, h => by
  simp only [yf, yg] at h
  obtain ⟨e1, e2⟩ := NL (fun z hz => h1 z (js _ hz)) (fun z hz => h2 z (js _ hz)) h.2
  exact ⟨by rw [h.1, e1], e2⟩
theorem Faa : ∀ c : Fin 56, Bj ((c.val : Int) + 1) ≠ [] ∧ ∀ x ∈ Bj ((c.val : Int) + 1), x ≠ 44 ∧ x ≠ 58 ∧ x ≠ 59 := by decide +kernel
theorem Baj : ∀ a b : Fin 56, Bj ((a.val : Int) + 1) = Bj ((b.val : Int) + 1) → a = b := by decide +kernel
theorem RV {c : Int} (h : 1 ≤ c ∧ c ≤ 56) : ∃ i : Fin 56, c = (i.val : Int) + 1 := ⟨⟨(c - 1).toNat, by omega⟩, by show c = (((c - 1).toNat : Nat) : Int) + 1; omega⟩
theorem Mag {c : Int} (h : 1 ≤ c ∧ c ≤ 56) : Bj c ≠ [] := by obtain ⟨i, rfl⟩ := RV h; exact (Faa i).1
theorem KL {c : Int} (h : 1 ≤ c ∧ c ≤ 56) : ∀ x ∈ Bj c, x ≠ 44 ∧ x ≠ 58 ∧ x ≠ 59 := by obtain ⟨i, rfl⟩ := RV h; exact (Faa i).2
theorem Gaa {a b : Int} (ha : 1 ≤ a ∧ a ≤ 56) (hb : 1 ≤ b ∧ b ≤ 56) (h : Bj a = Bj b) : a = b := by
 obtain ⟨i, rfl⟩ := RV ha
 obtain ⟨j, rfl⟩ := RV hb
 rw [Baj i j h]
theorem Nam : ∀ a : Fin 16, ∀ x ∈ Ft (a.val : Int), x ≠ 58 ∧ x ≠ 59 := by decide +kernel
theorem Zai : ∀ a b : Fin 16, Ft (a.val : Int) = Ft (b.val : Int) → a = b := by decide +kernel
theorem R6 {c : Int} (h : 0 ≤ c ∧ c ≤ 15) : ∃ i : Fin 16, c = (i.val : Int) := ⟨⟨c.toNat, by omega⟩, by show c = ((c.toNat : Nat) : Int); omega⟩
theorem Q6 {c : Int} (h : 0 ≤ c ∧ c ≤ 15) : ∀ x ∈ Ft c, x ≠ 58 ∧ x ≠ 59 := by obtain ⟨i, rfl⟩ := R6 h; exact Nam i
theorem Oam {a b : Int} (ha : 0 ≤ a ∧ a ≤ 15) (hb : 0 ≤ b ∧ b ≤ 15) (h : Ft a = Ft b) : a = b := by
 obtain ⟨i, rfl⟩ := R6 ha
 obtain ⟨j, rfl⟩ := R6 hb
 rw [Zai i j h]
theorem BD (x y : List UInt8) (r : List (List UInt8)) : Lib.join (x :: y :: r) [44] = x ++ 44 :: Lib.join (y :: r) [44] := by
 simp [Lib.join, List.intercalate, List.intersperse]
theorem Jag : ∀ (l : List Int), (∀ c ∈ l, 1 ≤ c ∧ c ≤ 56) → ∀ x ∈ Lib.join (l.map Bj) [44], x ≠ 58 ∧ x ≠ 59
 | [], _, x, hx => by simp [Lib.join_nil] at hx
 | [a], h, x, hx => by
  rw [yh, yi, Lib.join_one] at hx
  exact (KL (h a (by simp)) x hx).2
 | a :: b :: r, h, x, hx => by
  rw [yh, yh, BD, jm, jq] at hx
  rcases hx with hx | rfl | hx
  ·exact (KL (h a (by simp)) x hx).2
  ·exact ⟨by decide, by decide⟩
  ·exact Jag (b :: r) (fun c hc => h c (js _ hc)) x (by rw [yh]; exact hx)
theorem Y8 : ∀ (l q : List Int), (∀ c ∈ l, 1 ≤ c ∧ c ≤ 56) → (∀ c ∈ q, 1 ≤ c ∧ c ≤ 56) → Lib.join (l.map Bj) [44] = Lib.join (q.map Bj) [44] → l = q
 | [], [], _, _, _ => rfl
 | [], [a], _, h2, h => by
  rw [yi, Lib.join_nil, yh, yi, Lib.join_one] at h
  exact absurd h.symm (Mag (h2 a (by simp)))
 | [], a :: b :: r, _, _, h => by
  rw [yi, Lib.join_nil, yh, yh, BD] at h
  simp at h
 | [a], [], h1, _, h => by
  rw [yi, Lib.join_nil, yh, yi, Lib.join_one] at h
  exact absurd h (Mag (h1 a (by simp)))
 | a :: b :: r, [], _, _, h => by
  rw [yi, Lib.join_nil, yh, yh, BD] at h
  simp at h
 | [a], [b], h1, h2, h => by
  rw [yh, yi, Lib.join_one, yh, yi, Lib.join_one] at h
  rw [Gaa (h1 a (by simp)) (h2 b (by simp)) h]
 | [a], b :: c :: r, h1, _, h => by
  rw [yh, yi, Lib.join_one, yh, yh, BD] at h
  exact absurd rfl (KL (h1 a (by simp)) 44 (by rw [h]; simp)).1
 | a :: c :: r, [b], _, h2, h => by
  rw [yh, yh, BD, yh, yi, Lib.join_one] at h
  exact absurd rfl (KL (h2 b (by simp)) 44 (by rw [← h]; simp)).1
 | a :: c :: r, b :: d :: q, h1, h2, h => by
  rw [yh, yh, BD, yh, yh, BD] at h
  obtain ⟨e1, e2⟩ := NL (fun x hx => (KL (h1 a (by simp)) x hx).1) (fun x hx => (KL (h2 b (by simp)) x hx).1) h
  rw [Gaa (h1 a (by simp)) (h2 b (by simp)) e1, Y8 (c :: r) (d :: q) (fun x hx => h1 x (js _ hx)) (fun x hx => h2 x (js _ hx)) (by rw [yh, yh]; exact e2)]
theorem NR {r : Ga} (h : Sd r = true) : (0 ≤ r.1 ∧ r.1 ≤ 15) ∧ ∀ c ∈ r.2.1, 1 ≤ c ∧ c ≤ 56 := by
 unfold Sd at h
 simp only [jd, decide_eq_true_eq] at h
 refine ⟨h.1, fun c hc => ?_⟩
 obtain ⟨i, hi, rfl⟩ := qj hc
 have := Ze.1 h.2 i hi
 simp only [Sy, jd, decide_eq_true_eq] at this
 exact this.1
theorem KR {r : Ga} (h : Sd r = true) : EF r = Ft r.1 ++ 58 :: Lib.join (r.2.1.map Bj) [44] := by
 unfold EF
 rw [h, y3]
 simp
theorem I3 {r : Ga} (h : Sd r = true) : ∀ x ∈ EF r, x ≠ 59 := by
 obtain ⟨h1, h2⟩ := NR h
 intro x hx
 rw [KR h, jm, jq] at hx
 rcases hx with hx | rfl | hx
 ·exact (Q6 h1 x hx).2
 ·decide
 ·exact (Jag _ h2 x hx).2
theorem Mad {r q : Ga} (hr : Sd r = true) (hq : Sd q = true) (h : EF r = EF q) : r = q := by
 obtain ⟨r1, r2⟩ := NR hr
 obtain ⟨q1, q2⟩ := NR hq
 rw [KR hr, KR hq] at h
 obtain ⟨e1, e2⟩ := NL (fun x hx => (Q6 r1 x hx).1) (fun x hx => (Q6 q1 x hx).1) h
 have g1 := Oam r1 q1 e1
 have g2 := Y8 _ _ r2 q2 e2
 exact Prod.ext g1 (Prod.ext g2 rfl)
def Xo : List Ga → List UInt8
 | [] => []
 | r :: l => EF r ++ 59 :: Xo l
theorem Y3 : ∀ (l q : List Ga), (∀ r ∈ l, Sd r = true) → (∀ r ∈ q, Sd r = true) → Xo l = Xo q → l = q
 | [], [], _, _, _ => rfl
 | [], b :: q, _, _, h => by simp [Xo] at h
 | a :: l, [], _, _, h => by simp [Xo] at h
 | a :: l, b :: q, h1, h2, h => by
  simp only [Xo] at h
  obtain ⟨e1, e2⟩ := NL (I3 (h1 a (by simp))) (I3 (h2 b (by simp))) h
  rw [Mad (h1 a (by simp)) (h2 b (by simp)) e1, Y3 l q (fun r hr => h1 r (js _ hr)) (fun r hr => h2 r (js _ hr)) e2]
theorem Yaj (l q : List Ga) : Xo (l ++ q) = Xo l ++ Xo q := by
 induction l with
 | nil => rfl
 | cons a l ih => simp [Xo, ih]
theorem Z3 : ∀ (l : List Ga), (Xo l).length ≤ 342 * l.length
 | [] => by simp [Xo]
 | a :: l => by
  have := Z3 l
  have := JX a
  simp only [Xo, qe, jx]
  omega
theorem RE {a b : Ga} : Eg a b = true ↔ a = b := by
 unfold Eg
 simp only [jd, beq_iff_eq]
 exact ⟨fun h => Prod.ext h.1 (Prod.ext h.2 rfl), fun h => by rw [h]; exact ⟨rfl, rfl⟩⟩
theorem Z8 {l : List Int} (h : l.Pairwise (· < ·)) (h2 : ∀ c ∈ l, 1 ≤ c ∧ c ≤ 56) : Md (fun k x => Sy l k x) 0 l = true := by
 rw [Ze]
 intro i hi
 have h1 := h2 l[i] (qi hi)
 simp only [Sy, jt, jd, qw, yj, decide_eq_true_eq, decide_eq_false_iff_not]
 refine ⟨by omega, ?_⟩
 by_cases h0 : i = 0
 ·exact .inl h0
 ·right
  have h2 := List.pairwise_iff_getElem.1 h (i - 1) i (by omega) hi (by omega)
  rw [qg, je (by omega)]
  simp only [qx]
  omega
theorem UY {l : List Pa} (hm : 0 ≤ JL l ∧ JL l ≤ 15) : Sd (De l) = true := by
 unfold Sd De
 rw [Ca hm]
 exact Z8 (Rw l 56) fun c hc => by
  have := ((Iy l 56 c).1 hc).1
  omega
theorem Uam : Sd (De []) = true := UY (by show (0 : Int) ≤ 0 ∧ (0 : Int) ≤ 15; omega)
theorem Vam {k : Nat} {a : Ba} (h : Tb a = true) : Sd (De [((k : Int), a, ())]) = true := by
 refine UY ?_
 have hb := (Cb a).1 h
 unfold Kb at hb
 show 0 ≤ cond (a.1 == 2 || a.1 == 8) (Ed .i64 0 a.2.2.1) 0 ∧ cond (a.1 == 2 || a.1 == 8) (Ed .i64 0 a.2.2.1) 0 ≤ 15
 cases hc : (a.1 == 2 || a.1 == 8) with
 | false => simp
 | true =>
  simp only [qw, beq_iff_eq] at hc
  rw [y3]
  exact Gad (by omega) (by omega)
noncomputable def Gi (m : Aa) (x : Oc) (k : Nat) : List Ga := Lj m x.1 x.2.1 x.2.2.1 k ++ XB m x.1 x.2.1 x.2.2.1 k
noncomputable def Tp (m : Aa) (x : Oc) (k : Nat) : Oc := ((Zf m x.1 x.2.1 x.2.2.1 k).1, (Zf m x.1 x.2.1 x.2.2.1 k).2.1, (Zf m x.1 x.2.1 x.2.2.1 k).2.2.1, ())
def Us (m : Aa) (x : Oc) : Prop := Jq m.2.1.length x.1 x.2.1
theorem ZP {m : Aa} (hM : Oi m) {x : Oc} (hx : Us m x) {k : Nat} (hk : (k : Int) < m.1) : Us m (Tp m x k) := (Tx (c := x.2.2.1) hM hx hk).2.1
theorem FG {m : Aa} (hM : Oi m) {x : Oc} (hx : Us m x) {k : Nat} (hk : (k : Int) < m.1) : (Gi m x k).length ≤ 2 ∧ ∀ r ∈ Gi m x k, Sd r = true := by
 have e1 : (Lj m x.1 x.2.1 x.2.2.1 k).length ≤ 1 := Oq _ _
 have e2 : (XB m x.1 x.2.1 x.2.2.1 k).length ≤ 1 := Oq _ _
 obtain ⟨h1, h2, h3, h4, h5⟩ := Tx (o := x.2.1) (c := x.2.2.1) hM hx hk
 refine ⟨by unfold Gi; rw [qe]; omega, fun r hr => ?_⟩
 rcases jm.1 hr with hr | hr
 ·have := Nz _ _ _ hr
  simp only [jq, yz, or_false] at this
  rw [this]; exact Vam h3.act
 ·have := Nz _ _ _ hr
  simp only [jq, yz, or_false] at this
  rw [this]; exact Uam
theorem I7 (m : Aa) (seen : List (Oc × List Mp)) (x : Oc) (e1 e2 : Sa) (o : List Mp) (K k : Int) (L : List Ga) (hL : L.length ≤ 2) (hv : ∀ r ∈ L, Sd r = true) :
 Yi (((), (), (), o, (), ([] : List UInt8), K, k, L, ((ja L : Nat) : Int), (0 : Int), ()), ((m, seen, ()), x, e1, e2, ())) =
  some (.inl (((), (), (), o, (), Xo L, K, k, ()), ((m, seen, ()), x, e1, e2, ()))) := by
 have h20 : Ma = 1048576 := rfl
 have hl := Bm (step := fun x => Sk x.1.1 x.1.2.1 x.1.2.2.1 x.1.2.2.2.1 x.1.2.2.2.2.1 x.1.2.2.2.2.2.1 x.1.2.2.2.2.2.2.1 x.1.2.2.2.2.2.2.2.1 x.1.2.2.2.2.2.2.2.2.1 x.1.2.2.2.2.2.2.2.2.2.1 x.1.2.2.2.2.2.2.2.2.2.2.1 x.2.1 x.2.2.1 x.2.2.2.1 x.2.2.2.2.1)
  L.length (by omega) (fun k s => s + 1) 0 (fun s i => (((), (), (), o, (), Xo (L.take s), K, k, L, ((ja L : Nat) : Int), i, ()), ((m, seen, ()), x, e1, e2, ())))
  (fun s => .inl (((), (), (), o, (), Xo (L.take s), K, k, ()), ((m, seen, ()), x, e1, e2, ()))) (by
   intro j hj
   have hit : ∀ n, Qc (fun k s => s + 1) n 0 = n := fun n => by
    induction n with
    | zero => rfl
    | succ n ih => simp only [Qc, ih]
   rw [hit]
   simp only [Sk]
   rw [Ca (by omega), Rg]
   rw [show decide (j < L.length) = true from decide_eq_true hj]
   simp only [y3]
   rw [jo, je hj]
   simp only [jb]
   have hk1 : L[j].2.1.length ≤ 56 := YA (hv _ (qi hj))
   rw [FH _ (by omega)]
   have h1 := JX L[j]
   have h2 := Z3 (L.take j)
   have h3 : (L.take j).length ≤ 2 := by rw [List.length_take]; omega
   simp only [jb]
   rw [Lf (by simp; omega), Lf (by simp only [List.append_eq, qe, jx, j8]; omega)]
   simp only [y3]
   have ht : L.take (j + 1) = L.take j ++ [L[j]] := by simp [hj]
   rw [ht, Yaj, List.set_getElem_self hj]
   rfl) (by
   have hit : ∀ n, Qc (fun k s => s + 1) n 0 = n := fun n => by
    induction n with
    | zero => rfl
    | succ n ih => simp only [Qc, ih]
   rw [hit]
   simp only [Sk]
   rw [Ea (by omega)]; rfl)
 have hit : Qc (fun k s => s + 1) L.length 0 = L.length := by
  generalize L.length = n
  induction n with
  | zero => rfl
  | succ n ih => simp only [Qc, ih]
 rw [hit, List.take_length, List.take_zero] at hl
 unfold Yi
 exact hl
noncomputable def LG (m : Aa) (x : Oc) (k : Nat) : Mp := (Tp m x k, Xo (Gi m x k), ())
noncomputable def SA (m : Aa) (x : Oc) (n : Nat) : List Mp := (yx n).map (LG m x)
noncomputable def Si (m : Aa) (x : Oc) : List Mp := SA m x m.1.toNat
theorem J7 (m : Aa) (x : Oc) (n : Nat) : SA m x (n + 1) = SA m x n ++ [LG m x n] := by
 unfold SA
 rw [List.range_succ, yu]; rfl
theorem TT (m : Aa) (x : Oc) (n : Nat) : (SA m x n).length = n := by simp [SA]
def VK (m : Aa) (seen : List (Oc × List Mp)) : Prop := ∀ e ∈ seen, e.2 = Si m e.1
theorem NE {κ : Ty} (hc : κ.cmp = true) {α : Type} : ∀ {xs : List (T κ × α)} {n : T κ} {y : α}, Ge κ xs n = some y → (n, y) ∈ xs
 | [], n, y, h => by simp [Ge] at h
 | (k, x) :: r, n, y, h => by
  simp only [Ge] at h
  cases hk : Jf κ n k with
  | true =>
   rw [hk] at h
   simp only [y3, jc] at h
   subst h
   rw [PF hc hk]; simp
  | false => rw [hk] at h; exact js _ (NE hc h)
theorem DT {κ : Ty} {α : Type} : ∀ {xs : List (T κ × α)} {n : T κ} {y : α} {e : T κ × α}, e ∈ Gk κ xs n y → e = (n, y) ∨ e ∈ xs
 | [], n, y, e, h => by simp [Gk] at h; exact .inl h
 | (k, x) :: r, n, y, e, h => by
  simp only [Gk] at h
  cases hk : Jf κ n k with
  | true =>
   rw [hk] at h
   simp only [y3, jq] at h
   exact h.imp id (js _)
  | false =>
   rw [hk] at h
   simp only [y8, jq] at h
   rcases h with h | h
   ·exact .inr (by rw [h]; simp)
   ·exact (DT h).imp id (js _)
theorem Wz {m : Aa} (hM : Oi m) : ((m.1.toNat : Nat) : Int) = m.1 ∧ m.1.toNat ≤ 32 := by
 have hm := Yc hM.v
 have := hm.k1
 have := hm.k2
 omega
theorem V3 {m : Aa} (hM : Oi m) {x : Oc} (hx : Us m x) {seen : List (Oc × List Mp)} (hs : VK m seen) :
 ∃ seen', Qm m seen x = some (m, seen', Si m x) ∧ VK m seen' := by
 unfold Qm
 cases hg : Ge Ad seen x with
 | some l =>
  refine ⟨seen, ?_, hs⟩
  have := hs _ (NE (by decide) hg)
  simp only [Option.isSome_some, y3, qx]
  rw [show l = Si m x from this]
 | none =>
  simp only [Option.isSome_none, y8]
  obtain ⟨hk1, hk2⟩ := Wz hM
  have hl := Bm (step := fun x => Rl x.1.1 x.1.2.1 x.1.2.2.1 x.1.2.2.2.1 x.1.2.2.2.2.1 x.1.2.2.2.2.2.1 x.2.1 x.2.2.1 x.2.2.2.1)
   m.1.toNat (by omega) (fun k s => s + 1) 0 (fun s i => (((), (), (), SA m x s, m.1, i, ()), ((m, seen, ()), x, Oe m x.1 x.2.1 x.2.2.1 [], ())))
   (fun s => .inl (((), (), SA m x s, ()), ((m, seen, ()), x, ()))) (by
    intro j hj
    have hit : ∀ n, Qc (fun k s => s + 1) n 0 = n := fun n => by
     induction n with
     | zero => rfl
     | succ n ih => simp only [Qc, ih]
    rw [hit]
    have hjm : (j : Int) < m.1 := by omega
    obtain ⟨hy1, hy2⟩ := FG hM hx hjm
    simp only [Rl]
    rw [Ca (by omega), HI hM hx hjm]
    simp only [y3, jb]
    rw [FE hM hx hjm]
    simp only [jb]
    have hle : (Lj m x.1 x.2.1 x.2.2.1 j).length + (XB m x.1 x.2.1 x.2.2.1 j).length ≤ 2 := by
     have := hy1; unfold Gi at this; rw [qe] at this; exact this
    rw [Lf (by omega)]
    simp only [y3]
    rw [show jf (Lj m x.1 x.2.1 x.2.2.1 j) (XB m x.1 x.2.1 x.2.2.1 j) = Gi m x j from rfl]
    erw [I7 m seen x (Oe m x.1 x.2.1 x.2.2.1 []) (Oe m (Zf m x.1 x.2.1 x.2.2.1 j).1 (Zf m x.1 x.2.1 x.2.2.1 j).2.1 (Zf m x.1 x.2.1 x.2.2.1 j).2.2.1 []) (SA m x j) m.1 (j : Int) (Gi m x j) hy1 hy2]
    simp only [jb, qh]
    rw [Lf (by rw [TT]; simp; omega)]
    simp only [y3]
    rw [J7]
    rfl) (by
    have hit : ∀ n, Qc (fun k s => s + 1) n 0 = n := fun n => by
     induction n with
     | zero => rfl
     | succ n ih => simp only [Qc, ih]
    rw [hit]
    simp only [Rl]
    rw [Ea (by omega)]; rfl)
  have hit : Qc (fun k s => s + 1) m.1.toNat 0 = m.1.toNat := by
   generalize m.1.toNat = n
   induction n with
   | zero => rfl
   | succ n ih => simp only [Qc, ih]
  rw [hit] at hl
  refine ⟨Gk Ad seen x (Si m x), ?_, fun e he => ?_⟩
  ·unfold Gn
   erw [hl]
   rfl
  ·rcases DT he with rfl | he
   ·rfl
   ·exact hs e he
def HH (p : Int → Bool) : Nat → List Int
 | 0 => []
 | n + 1 => cond (p ((n + 1 : Nat) : Int)) (HH p n ++ [((n + 1 : Nat) : Int)]) (HH p n)
theorem WS (p : Int → Bool) : ∀ n, (HH p n).length ≤ n
 | 0 => by simp [HH]
 | n + 1 => by
  have := WS p n
  simp only [HH]
  cases p ((n + 1 : Nat) : Int) <;> simp <;> omega
def Taq (s : Int) (D : List Lc) : Int := Jd (fun _ s (p : Lc) => Ed .i64 s p.2.1) 0 s D
def VV (b : Ga) (D : List Lc) : Ga := (Taq b.1 D, HH (fun c => b.2.1.any (fun y => y == c) || D.any (fun p => p.1 == c)) 56, ())

noncomputable def rM (L : List Pa) (x : Fe) : Int := He (Sn x.2.1 x.2.2.1) 0 L
noncomputable def Oag (b : Ga) (L : List Pa) (x : Fe) : List Ga :=
 cond (x.1 == 0) [VV b ((jf L [LJ x]).map Mh), VV b (L.map Mh)] [VV b ((DR x L (rM L x)).map Mh)]
noncomputable def mG (b : Ga) (s : List Ga × List Pa) (x : Fe) : List Ga × List Pa := (jf s.1 (Oag b s.2 x), DR x s.2 (rM s.2 x))
noncomputable def Daa (b : Ga) (l : List Fe) : List Ga := (Jd (fun _ s x => mG b s x) 0 ([], []) l).1
theorem Da {n m : Nat} (h : n ≤ 1000) (hm : m ≤ 10) : jy (n + m) Nb = true := jk (by rw [Rj]; omega)
theorem VT (b : Ga) (D : List Lc) : (VV b D).2.1.length ≤ 56 := by
 show (HH (fun c => b.2.1.any (fun y => y == c) || D.any (fun p => p.1 == c)) 56).length ≤ 56
 exact WS _ 56
theorem GY (b : Ga) : ∀ (l : List Fe) (k : Nat) (s : List Ga × List Pa), (∀ x ∈ s.1, x.2.1.length ≤ 56) →
 (Jd (fun _ s x => mG b s x) k s l).1.length ≤ s.1.length + 2 * l.length ∧ ∀ x ∈ (Jd (fun _ s x => mG b s x) k s l).1, x.2.1.length ≤ 56
 | [], _, s, h => by simp only [Jd]; exact ⟨by omega, h⟩
 | x :: l, k, s, h => by
  have h1 : (mG b s x).1.length ≤ s.1.length + 2 ∧ ∀ y ∈ (mG b s x).1, y.2.1.length ≤ 56 := by
   unfold mG Oag
   cases x.1 == 0 with
   | true =>
    refine ⟨by simp, fun y hy => ?_⟩
    rcases jm.1 (show y ∈ s.1 ++ _ from hy) with hy | hy
    ·exact h y hy
    ·simp only [y3, jq, yz, or_false] at hy
     rcases hy with rfl | rfl <;> exact VT _ _
   | false =>
    refine ⟨by simp, fun y hy => ?_⟩
    rcases jm.1 (show y ∈ s.1 ++ _ from hy) with hy | hy
    ·exact h y hy
    ·simp only [y8, jq, yz, or_false] at hy
     rw [hy]; exact VT _ _
  have := GY b l (k + 1) (mG b s x) h1.2
  simp only [Jd, jx]
  exact ⟨by omega, this.2⟩
def Ji (f : Int) (l : List Pa) : Int := Jd (fun _ s (h : Pa) => cond (h.2.1.1 == 3) (Ed .i64 s (Re .i64 1 h.2.1.2.2.2.1)) s) 0 (Ed .i64 1 f) l
theorem ZQ {f : Int} (hf : 0 ≤ f ∧ f ≤ 15) (l : List Pa) (hn : l.length ≤ Ma) (hv : Pe l = true) : Zk f l = some (Ji f l, ()) := by
 have h20 : Ma = 1048576 := rfl
 have hh := RJ hv
 have hl := (Zi (step := fun x => Hl x.1.1 x.1.2.1 x.1.2.2.1 x.1.2.2.2.1) l
  (fun _ s (h : Pa) => cond (h.2.1.1 == 3) (Ed .i64 s (Re .i64 1 h.2.1.2.2.2.1)) s) (fun s i => ((s, l, ((ja l : Nat) : Int), i, ()), ()))
  (fun s => .inl ((s, ()), ())) (fun _ _ => True) (by
   intro k hk s _
   refine ⟨?_, trivial⟩
   simp only [Hl]
   rw [Ca (show (k : Int) < (ja l : Int) by omega), Gc hk]
   simp only [y3, jb]
   rw [Ca (Kz (hh _ (qi hk)).act)]
   cases l[k].2.1.1 == 3 <;> rfl)
  (by
   intro s _
   simp only [Hl]
   rw [Ea (by omega)]; rfl) (by omega) (Ed .i64 1 f) trivial).1
 unfold Zk Ih
 rw [Ca (show f ≥ 0 by omega), Ca hf.2, Jv _ hn, hv]
 simp only [y3, jb, jg, y8]
 erw [hl]
 rfl
theorem AQ {a : Nat} (ha : a < 2 ^ 63) (x : Pa) : Vp (a : Int) x = true ↔ PC x ∧ a.testBit x.1.toNat = false := by
 constructor
 ·intro h
  obtain ⟨h1, h2⟩ := Iaa h
  refine ⟨h1, ?_⟩
  have hx : x.1 = ((x.1.toNat : Nat) : Int) := (Int.toNat_of_nonneg h1.lo).symm
  have := Cx (a := a) (k := x.1.toNat) ha (by have := h1.hi; omega)
  rw [← hx] at this
  rw [← this]
  simp [h2]
 ·rintro ⟨h1, h2⟩
  have hx : x.1 = ((x.1.toNat : Nat) : Int) := (Int.toNat_of_nonneg h1.lo).symm
  have := Cx (a := a) (k := x.1.toNat) ha (by have := h1.hi; omega)
  rw [← hx, h2] at this
  simp only [Vp, jd, decide_eq_true_eq, yj, beq_eq_false_iff_ne]
  exact ⟨⟨h1.lo, h1.hi⟩, by rw [beq_eq_false_iff_ne] at this; exact this, h1.act, h1.n1, h1.n6, h1.n7⟩
theorem GM : ∀ (l : List Pa) (k a : Nat), a < 2 ^ 63 → (VS (Ve (fun _ s x => Pq s x) k (a : Int) l) = true ↔
 (∀ x ∈ l, PC x ∧ a.testBit x.1.toNat = false) ∧ l.Pairwise (fun x y => x.1 ≠ y.1))
 | [], k, a, ha => by simp [Ve, VS]
 | y :: l, k, a, ha => by
  simp only [Ve]
  cases hc : Vp (a : Int) y with
  | false =>
   rw [show Pq (a : Int) y = .inr () by unfold Pq; rw [hc]; rfl]
   simp only [VS, jr, false_iff]
   rintro ⟨h, _⟩
   have := (AQ ha y).2 (h y (List.mem_cons_self ..))
   rw [hc] at this; cases this
  | true =>
   rw [show Pq (a : Int) y = .inl (Ed .i64 (a : Int) (Re .i64 1 y.1)) by unfold Pq; rw [hc]; rfl]
   simp only []
   obtain ⟨hy, hb⟩ := (AQ ha y).1 hc
   have h1 := hy.lo; have h2 := hy.hi
   have hyx : y.1 = ((y.1.toNat : Nat) : Int) := (Int.toNat_of_nonneg h1).symm
   have e : Ed .i64 (a : Int) (Re .i64 1 y.1) = ((a ||| 2 ^ y.1.toNat : Nat) : Int) := by
    conv => lhs; rw [hyx]
    rw [PR (by omega), IL ha (ZF (by omega))]
   rw [e, GM l (k + 1) _ (Nat.or_lt_two_pow ha (ZF (by omega)))]
   have tb : ∀ n, (a ||| 2 ^ y.1.toNat).testBit n = false ↔ a.testBit n = false ∧ y.1.toNat ≠ n := by
    intro n
    rw [Nat.testBit_or, Nat.testBit_two_pow, yq, decide_eq_false_iff_not]
   simp only [jq, List.pairwise_cons, forall_eq_or_imp]
   constructor
   ·rintro ⟨h, hp⟩
    refine ⟨⟨⟨hy, hb⟩, fun x hx => ⟨(h x hx).1, ((tb _).1 (h x hx).2).1⟩⟩, fun x hx hxy => ?_, hp⟩
    exact ((tb _).1 (h x hx).2).2 (by rw [hxy])
   ·rintro ⟨⟨_, h⟩, hq, hp⟩
    refine ⟨fun x hx => ⟨(h x hx).1, (tb _).2 ⟨(h x hx).2, fun hn => hq x hx ?_⟩⟩, hp⟩
    have := (h x hx).1.lo
    omega
theorem CN (l : List Pa) : Pe l = true ↔ (∀ x ∈ l, PC x) ∧ l.Pairwise (fun x y => x.1 ≠ y.1) := by
 have := GM l 0 0 (by decide)
 unfold Pe PV
 erw [this]
 simp
theorem S8 {l : List Pa} (h : Pe l = true) {x : Pa} (hx : PC x) (hn : ∀ y ∈ l, y.1 ≠ x.1) : Pe (jf l [x]) = true := by
 rw [CN] at h ⊢
 obtain ⟨h1, h2⟩ := h
 refine ⟨fun y hy => ?_, ?_⟩
 ·rcases jm.1 (show y ∈ l ++ [x] from hy) with hy | hy
  ·exact h1 y hy
  ·rw [qd.1 hy]; exact hx
 ·show (l ++ [x]).Pairwise _
  rw [List.pairwise_append]
  exact ⟨h2, List.pairwise_singleton _ _, fun y hy z hz => by rw [qd.1 hz]; exact hn y hy⟩
theorem Iac {l r : List Pa} (h : Pe l = true) (hs : r.Sublist l) : Pe r = true := by
 rw [CN] at h ⊢
 exact ⟨fun y hy => h.1 y (hs.subset hy), h.2.sublist hs⟩
theorem NN : ∀ (n : Nat) (l : List Nat), l.Nodup → (∀ x ∈ l, x < n) → l.length ≤ n
 | 0, l, _, h => by
  cases l with
  | nil => exact jp _
  | cons x l => exact absurd (h x (List.mem_cons_self ..)) (Nat.not_lt_zero _)
 | n + 1, l, hn, h => by
  have := NN n (l.erase n) (hn.erase n) (fun x hx => by
   have h1 := (hn.mem_erase_iff).1 hx
   have := h x h1.2
   have := h1.1
   omega)
  have h2 := List.length_erase (a := n) (l := l)
  split at h2 <;> omega
theorem Bah {l : List Pa} (h : Pe l = true) : l.length ≤ 32 := by
 rw [CN] at h
 have hn : (l.map fun x => x.1.toNat).Nodup := by
  rw [List.Nodup, List.pairwise_map]
  refine (List.Pairwise.and_mem.1 h.2).imp ?_
  rintro x y ⟨hx, hy, hxy⟩ he
  have h1 := (h.1 x hx).lo; have h2 := (h.1 y hy).lo
  omega
 have hs : ∀ y ∈ (l.map fun x => x.1.toNat), y < 32 := by
  intro y hy
  obtain ⟨x, hx, rfl⟩ := qk.1 hy
  have := (h.1 x hx).hi; have := (h.1 x hx).lo
  omega
 have := NN 32 _ hn hs
 simpa using this
section
variable (nx : Int → Nat → Int) (K : Nat) (fr : Int) (P : Int → Prop)
end
section
variable {nx : Int → Nat → Int} {K : Nat} {fr : Int} {P : Int → Prop}
end


abbrev Mg := List (Hc × List Int)
theorem LV {x y : Hc} : Jf Ce x y = true ↔ x = y := by
 constructor
 ·exact PF (by decide)
 ·rintro rfl
  obtain ⟨⟨a, b, c, u⟩, ⟨d, e, f, v⟩, w⟩ := x
  simp [Jf]
theorem BK {α : Type} : ∀ {W : List (Hc × α)} {x : Hc}, Ge Ce W x = none ↔ ∀ e ∈ W, e.1 ≠ x
 | [], x => by simp [Ge]
 | (k, y) :: r, x => by
  simp only [Ge]
  cases hk : Jf Ce x k with
  | true => rw [LV] at hk; subst hk; simp
  | false =>
   have hne : ¬ x = k := fun e => by rw [LV.2 e] at hk; simp at hk
   simp only [y8, BK (W := r), List.forall_mem_cons]
   exact ⟨fun h => ⟨fun e => hne e.symm, h⟩, fun h => h.2⟩
theorem H3 {α : Type} : ∀ {W : List (Hc × α)} {x : Hc} {w : α}, (W.map Prod.fst).Nodup → (x, w) ∈ W → Ge Ce W x = some w
 | [], x, w, _, h => by simp at h
 | (k, y) :: r, x, w, hn, h => by
  simp only [yh, yk] at hn
  simp only [Ge]
  rcases jq.1 h with h | h
  ·simp only [jh] at h
   rw [h.1, h.2, LV.2 rfl]; rfl
  ·have : x ≠ k := fun e => hn.1 (qk.2 ⟨(x, w), h, e⟩)
   have hk : Jf Ce x k = false := by rw [← qa, LV]; exact this
   rw [hk]
   exact H3 hn.2 h
theorem JT {α : Type} : ∀ {W : List (Hc × α)} {x : Hc} (y : α), Ge Ce W x = none → Gk Ce W x y = W ++ [(x, y)]
 | [], x, y, _ => rfl
 | (k, z) :: r, x, y, h => by
  simp only [Ge] at h
  simp only [Gk]
  cases hk : Jf Ce x k with
  | true => rw [hk] at h; simp at h
  | false => rw [hk] at h; simp only [y8] at h ⊢; rw [JT y h]; rfl
section
variable (nx : Hc → Nat → Hc) (df : Hc → Nat → Bool) (K : Nat) (P : Hc → Prop)
def Eo (x : Hc) (w : List Int) (k : Nat) (W : Mg) : Mg := cond (Ge Ce W (nx x k)).isSome W (W ++ [(nx x k, w ++ [(k : Int)])])
def Xj (x : Hc) (w : List Int) (n : Nat) (W : Mg) : Mg := Qc (Eo nx x w) n W
def Xk (x : Hc) : Nat → Nat → Option Nat
 | 0, _ => none
 | n + 1, j => cond (df x j) (some j) (Xk x n (j + 1))
def Ll : Nat → Nat → Mg → Option (List Int)
 | 0, _, _ => none
 | n + 1, i, W => match W[i]? with
  | none => none
  | some e => match Xk df e.1 K 0 with
   | some k => some (e.2 ++ [(k : Int)])
   | none => Ll n (i + 1) (Xj nx e.1 e.2 K W)
structure NC (W : Mg) : Prop where
 nd : (W.map Prod.fst).Nodup
 ok : ∀ e ∈ W, P e.1
 ln : ∀ (j : Nat) (hj : j < W.length), W[j].2.length ≤ j
end
section
variable {nx : Hc → Nat → Hc} {df : Hc → Nat → Bool} {K : Nat} {P : Hc → Prop}
theorem B0 (hP : ∀ x k, P x → k < K → P (nx x k)) {i k : Nat} {W : Mg} (h : NC P W) {x : Hc} {w : List Int} (hx : P x) (hw : w.length ≤ i) (hi : i < W.length) (hk : k < K) :
 NC P (Eo nx x w k W) ∧ W <+: Eo nx x w k W := by
 unfold Eo
 cases hg : Ge Ce W (nx x k) with
 | some w' => exact ⟨h, List.prefix_refl _⟩
 | none =>
  simp only [Option.isSome_none, y8]
  refine ⟨{ nd := ?_, ok := ?_, ln := ?_ }, List.prefix_append _ _⟩
  ·rw [yu, yl]
   refine ⟨h.nd, by simp, ?_⟩
   intro a ha b hb
   simp only [yh, yi, qd] at hb
   subst hb
   obtain ⟨e, he, rfl⟩ := qk.1 ha
   exact BK.1 hg e he
  ·intro e he
   rcases jm.1 he with he | he
   ·exact h.ok e he
   ·simp only [qd] at he
    subst he
    exact hP _ _ hx hk
  ·intro j hj
   by_cases hj' : j < W.length
   ·rw [List.getElem_append_left hj']; exact h.ln j hj'
   ·have hj2 : j = W.length := by
     rw [qe, List.length_singleton] at hj
     omega
    subst hj2
    rw [List.getElem_append_right (jp _)]
    simp
    omega
theorem Pz (hP : ∀ x k, P x → k < K → P (nx x k)) {i : Nat} {W : Mg} (h : NC P W) {x : Hc} {w : List Int} (hx : P x) (hw : w.length ≤ i) (hi : i < W.length) : ∀ n, n ≤ K → NC P (Xj nx x w n W) ∧ W <+: Xj nx x w n W
 | 0, _ => ⟨h, List.prefix_refl _⟩
 | n + 1, hn => by
  obtain ⟨h1, h2⟩ := Pz hP h hx hw hi n (by omega)
  obtain ⟨g1, g2⟩ := B0 hP h1 hx hw (Nat.lt_of_lt_of_le hi h2.length_le) (by omega : n < K)
  exact ⟨g1, h2.trans g2⟩
theorem QS {x : Hc} : ∀ {n j k : Nat}, Xk df x n j = some k → j ≤ k ∧ k < j + n ∧ df x k = true ∧ ∀ i, j ≤ i → i < k → df x i = false
 | 0, j, k, h => by simp [Xk] at h
 | n + 1, j, k, h => by
  simp only [Xk] at h
  cases hd : df x j with
  | true =>
   rw [hd] at h
   simp only [y3, jc] at h
   subst h
   exact ⟨jp _, by omega, hd, fun i h1 h2 => by omega⟩
  | false =>
   rw [hd] at h
   obtain ⟨h1, h2, h3, h4⟩ := QS h
   refine ⟨by omega, by omega, h3, fun i g1 g2 => ?_⟩
   by_cases e : i = j
   ·rw [e]; exact hd
   ·exact h4 i (by omega) g2
theorem EJ {x : Hc} : ∀ {n j : Nat}, Xk df x n j = none → ∀ i, j ≤ i → i < j + n → df x i = false
 | 0, j, _, i, h1, h2 => by omega
 | n + 1, j, h, i, h1, h2 => by
  simp only [Xk] at h
  cases hd : df x j with
  | true => rw [hd] at h; simp at h
  | false =>
   rw [hd] at h
   by_cases e : i = j
   ·rw [e]; exact hd
   ·exact EJ h i (by omega) (by omega)
end
noncomputable def Tf (a b : Aa) (x : Hc) (k : Nat) : Hc := (Tp a x.1 k, Tp b x.2.1 k, ())
noncomputable def Hi (a b : Aa) (x : Hc) (k : Nat) : Bool := !decide (Gi a x.1 k = Gi b x.2.1 k)
def Yx (a b : Aa) (x : Hc) : Prop := Us a x.1 ∧ Us b x.2.1
structure Zx (a b : Aa) : Prop where
 tka : Oi a
 tkb : Oi b
 tkk : a.1 = b.1
theorem CD {a b : Aa} (h : Zx a b) : ∀ x k, Yx a b x → k < a.1.toNat → Yx a b (Tf a b x k) := fun x k hx hk => by
 have h1 := Wz h.tka
 exact ⟨ZP h.tka hx.1 (by omega), ZP h.tkb hx.2 (by rw [← h.tkk]; omega)⟩
theorem Vag {a b : Aa} (h : Zx a b) {x : Hc} (hx : Yx a b x) {k : Nat} (hk : (k : Int) < a.1) : (Xo (Gi a x.1 k) != Xo (Gi b x.2.1 k)) = Hi a b x k := by
 unfold Hi
 by_cases he : Gi a x.1 k = Gi b x.2.1 k
 ·rw [he]; simp
 ·have : ¬ Xo (Gi a x.1 k) = Xo (Gi b x.2.1 k) := fun e => he (Y3 _ _ (FG h.tka hx.1 hk).2 (FG h.tkb hx.2 (by rw [← h.tkk]; exact hk)).2 e)
  simp [he, this]
def BH (x : Oc) : Nat := (x.1.toNat * 16 + x.2.1.toNat) * 2 + cond x.2.2.1 1 0
theorem Zt {m : Aa} (hM : Oi m) {x : Oc} (hx : Us m x) : (0 ≤ x.1 ∧ x.1 ≤ 15) ∧ (0 ≤ x.2.1 ∧ x.2.1 ≤ 15) ∧ BH x < 512 := by
 have h1 := H6 (Yc hM.v).l2 hx
 have h2 := hx.o0
 have h3 := hx.o1
 refine ⟨h1, by omega, ?_⟩
 unfold BH
 cases x.2.2.1 <;> simp <;> omega
theorem GS {m : Aa} (hM : Oi m) {x y : Oc} (hx : Us m x) (hy : Us m y) (h : BH x = BH y) : x = y := by
 obtain ⟨h1, h2, _⟩ := Zt hM hx
 obtain ⟨g1, g2, _⟩ := Zt hM hy
 obtain ⟨f, o, c, u⟩ := x
 obtain ⟨f', o', c', u'⟩ := y
 unfold BH at h
 simp only at h h1 h2 g1 g2
 have hc : c = c' := by cases c <;> cases c' <;> simp at h ⊢ <;> omega
 subst hc
 have hf : f = f' := by omega
 have ho : o = o' := by omega
 rw [hf, ho]
theorem Ru {a b : Aa} (h : Zx a b) {W : Mg} (hW : NC (Yx a b) W) : W.length ≤ 262144 := by
 have hn : (W.map fun e => BH e.1.1 * 512 + BH e.1.2.1).Nodup := by
  have := hW.nd
  rw [List.Nodup, List.pairwise_map] at this ⊢
  refine (List.Pairwise.and_mem.1 this).imp ?_
  rintro x y ⟨hx, hy, hxy⟩ he
  obtain ⟨p1, p2⟩ := hW.ok x hx
  obtain ⟨q1, q2⟩ := hW.ok y hy
  have a1 := (Zt h.tka p1).2.2
  have a2 := (Zt h.tkb p2).2.2
  have a3 := (Zt h.tka q1).2.2
  have a4 := (Zt h.tkb q2).2.2
  have e1 := GS h.tka p1 q1 (by omega)
  have e2 := GS h.tkb p2 q2 (by omega)
  exact hxy (Prod.ext e1 (Prod.ext e2 rfl))
 have := NN 262144 _ hn (by
  intro y hy
  obtain ⟨x, hx, rfl⟩ := qk.1 hy
  obtain ⟨p1, p2⟩ := hW.ok x hx
  have a1 := (Zt h.tka p1).2.2
  have a2 := (Zt h.tkb p2).2.2
  omega)
 simpa using this
theorem Tam {a b : Aa} {W W' : Mg} {i : Nat} (h : NC (Yx a b) W') (hi : i < W.length) (hp : W <+: W') : Ge Ce W' W[i].1 = some W[i].2 :=
 H3 h.nd (hp.subset (qi hi))
def Di (i : Nat) (W : Mg) : List Hc := (W.map Prod.fst).drop i
theorem M7 {i : Nat} {W : Mg} (x : Hc) (w : List Int) (h : i ≤ W.length) : Di i (W ++ [(x, w)]) = Di i W ++ [x] := by
 unfold Di
 rw [yu, List.drop_append_of_le_length (by simpa using h)]
 rfl
theorem RK (i : Nat) (W : Mg) : (Di i W).length = W.length - i := by simp [Di]
theorem L7 {i : Nat} {W : Mg} (h : i < W.length) : Di i W = W[i].1 :: Di (i + 1) W := by
 unfold Di
 rw [List.drop_eq_getElem_cons (by simpa using h)]
 simp
theorem TO {l : List Int} (h : l.length ≤ 1000000) : Ai l = some (l, ()) := by
 unfold Ai
 rw [Lf (by simp; omega)]
 rfl
theorem DA (m : Aa) (x : Oc) {k : Nat} (hk : k < m.1.toNat) : Ic (Si m x) (k : Int) = some (LG m x k) := by
 have hl : k < (Si m x).length := by unfold Si; rw [TT]; exact hk
 rw [Gc hl]
 simp [Si, SA]
abbrev B4 := List (Oc × List Mp)
theorem PX {a b : Aa} (h : Zx a b) {W : Mg} (hW : NC (Yx a b) W) {i : Nat} (hi : i < W.length) (todo : List Hc) (sa sb : B4) (e : Hc × List Int) (he : W[i] = e) :
 Qi (((), (), (), W, todo, (), Si a e.1.1, Si b e.1.2.1, a.1, (0 : Int), ()), (a, (a, sa, ()), (b, sb, ()), e.1, ())) =
  some (match Xk (Hi a b) e.1 a.1.toNat 0 with
   | some k => .inr ((e.2 ++ [(k : Int)], true, ()), ())
   | none => .inl (((), (), (), W, todo, (), Si a e.1.1, Si b e.1.2.1, ()), (a, (a, sa, ()), (b, sb, ()), e.1, ()))) := by
 obtain ⟨k1, k2⟩ := Wz h.tka
 have hp : Yx a b e.1 := by rw [← he]; exact hW.ok _ (qi hi)
 have hln : e.2.length ≤ i := by rw [← he]; exact hW.ln i hi
 have hlen := Ru h hW
 have hgt : Ge Ce W e.1 = some e.2 := by rw [← he]; exact Tam hW hi (List.prefix_refl _)
 have key : ∀ (n j : Nat), n + j = a.1.toNat → Ib (fun x => Yh x.1.1 x.1.2.1 x.1.2.2.1 x.1.2.2.2.1 x.1.2.2.2.2.1 x.1.2.2.2.2.2.1 x.1.2.2.2.2.2.2.1 x.1.2.2.2.2.2.2.2.1 x.1.2.2.2.2.2.2.2.2.1 x.1.2.2.2.2.2.2.2.2.2.1 x.2.1 x.2.2.1 x.2.2.2.1 x.2.2.2.2.1)
  (((), (), (), W, todo, (), Si a e.1.1, Si b e.1.2.1, a.1, (j : Int), ()), (a, (a, sa, ()), (b, sb, ()), e.1, ())) =
  some (match Xk (Hi a b) e.1 n j with
   | some k => .inr ((e.2 ++ [(k : Int)], true, ()), ())
   | none => .inl (((), (), (), W, todo, (), Si a e.1.1, Si b e.1.2.1, ()), (a, (a, sa, ()), (b, sb, ()), e.1, ()))) := by
  intro n
  induction n with
  | zero =>
   intro j hj
   refine (Wd (z := some (.inr (.inl (((), (), (), W, todo, (), Si a e.1.1, Si b e.1.2.1, ()), (a, (a, sa, ()), (b, sb, ()), e.1, ()))))) ?_).trans rfl
   simp only [Yh]
   rw [Ea (by omega)]; rfl
  | succ n ih =>
   intro j hj
   have hja : (j : Int) < a.1 := by omega
   have hdf := Vag h hp hja
   cases hd : Hi a b e.1 j with
   | true =>
    rw [hd] at hdf
    refine (Wd (z := some (.inr (.inr ((e.2 ++ [(j : Int)], true, ()), ())))) ?_).trans ?_
    ·simp only [Yh]
     rw [Ca hja, DA a _ (by omega), DA b _ (by rw [← h.tkk]; omega)]
     simp only [y3, jb, LG]
     rw [hdf, hgt]
     simp only [y3, qx]
     rw [TO (by omega)]
     simp only [jb]
     rw [Lf (by simp; omega)]
     rfl
    ·simp only [Xk, hd, y3]; rfl
   | false =>
    rw [hd] at hdf
    refine (Wd (z := some (.inl (((), (), (), W, todo, (), Si a e.1.1, Si b e.1.2.1, a.1, ((j + 1 : Nat) : Int), ()), (a, (a, sa, ()), (b, sb, ()), e.1, ())))) ?_).trans ?_
    ·simp only [Yh]
     rw [Ca hja, DA a _ (by omega), DA b _ (by rw [← h.tkk]; omega)]
     simp only [y3, jb, LG]
     rw [hdf]
     simp only [y8]
     rw [Id (by omega) (by omega)]
     rfl
    ·rw [jb, qh, ih (j + 1) (by omega)]
     simp only [Xk, hd, y8]
 have := key a.1.toNat 0 (by omega)
 unfold Qi
 exact this
theorem DU {a b : Aa} (h : Zx a b) {W : Mg} (hW : NC (Yx a b) W) {i : Nat} (hi : i < W.length) (sa sb : B4) (e : Hc × List Int) (he : W[i] = e) :
 Ri (((), (), (), W, Di (i + 1) W, (), Si a e.1.1, Si b e.1.2.1, a.1, (0 : Int), ()), (a, (a, sa, ()), (b, sb, ()), e.1, ())) =
  some (.inl (((), (), (), Xj (Tf a b) e.1 e.2 a.1.toNat W, Di (i + 1) (Xj (Tf a b) e.1 e.2 a.1.toNat W), ()), (a, (a, sa, ()), (b, sb, ()), ()))) := by
 obtain ⟨k1, k2⟩ := Wz h.tka
 have hp : Yx a b e.1 := by rw [← he]; exact hW.ok _ (qi hi)
 have hln : e.2.length ≤ i := by rw [← he]; exact hW.ln i hi
 have hl := Bm (step := fun x => Dk x.1.1 x.1.2.1 x.1.2.2.1 x.1.2.2.2.1 x.1.2.2.2.2.1 x.1.2.2.2.2.2.1 x.1.2.2.2.2.2.2.1 x.1.2.2.2.2.2.2.2.1 x.1.2.2.2.2.2.2.2.2.1 x.1.2.2.2.2.2.2.2.2.2.1 x.2.1 x.2.2.1 x.2.2.2.1 x.2.2.2.2.1)
  a.1.toNat (by omega) (Eo (Tf a b) e.1 e.2) W (fun W' j => (((), (), (), W', Di (i + 1) W', (), Si a e.1.1, Si b e.1.2.1, a.1, j, ()), (a, (a, sa, ()), (b, sb, ()), e.1, ())))
  (fun W' => .inl (((), (), (), W', Di (i + 1) W', ()), (a, (a, sa, ()), (b, sb, ()), ()))) (by
   intro j hj
   obtain ⟨g1, g2⟩ := Pz (CD h) hW hp hln hi j (by omega)
   have hgt : Ge Ce (Xj (Tf a b) e.1 e.2 j W) e.1 = some e.2 := by rw [← he] at g1 g2 ⊢; exact Tam g1 hi g2
   have hlen := Ru h g1
   have hle := g2.length_le
   have htl := RK (i + 1) (Xj (Tf a b) e.1 e.2 j W)
   have hit : Qc (Eo (Tf a b) e.1 e.2) j W = Xj (Tf a b) e.1 e.2 j W := rfl
   rw [hit]
   generalize hW' : Xj (Tf a b) e.1 e.2 j W = W' at hgt hlen hle htl g1
   simp only [Dk]
   rw [Ca (by omega), DA a _ (by omega), DA b _ (by rw [← h.tkk]; omega)]
   simp only [y3, jb, LG]
   rw [show ((Tp a e.1.1 j, Tp b e.1.2.1 j, ()) : Hc) = Tf a b e.1 j from rfl]
   unfold Eo
   cases hg : Ge Ce W' (Tf a b e.1 j) with
   | some w => rfl
   | none =>
    simp only [Option.isSome_none, Bool.not_false, y3, y8]
    rw [hgt]
    simp only [qx]
    rw [TO (by omega)]
    simp only [jb]
    rw [Lf (by simp; omega), Lf (by rw [htl]; simp; omega), M7 _ _ (by omega), JT _ hg]
    rfl) (by
   simp only [Dk]
   rw [Ea (by omega)]; rfl)
 unfold Ri
 exact hl
theorem GI {a b : Aa} (h : Zx a b) : ∀ (n i : Nat) (W : Mg) (sa sb : B4), NC (Yx a b) W → VK a sa → VK b sb → 262145 ≤ n + i →
 Sf (((), (), (), W, Di i W, ()), (a, (a, sa, ()), (b, sb, ()), ())) = some (match Ll (Tf a b) (Hi a b) a.1.toNat n i W with
  | some w => .inr ((w, true, ()), ())
  | none => .inl ((), ()))
 | n, i, W, sa, sb, hW, hsa, hsb, hn => by
  have hlen := Ru h hW
  by_cases hi : i < W.length
  ·obtain ⟨n', rfl⟩ : ∃ n', n = n' + 1 := ⟨n - 1, by omega⟩
   obtain ⟨e, he⟩ : ∃ e, W[i] = e := ⟨_, rfl⟩
   have hp : Yx a b e.1 := by rw [← he]; exact hW.ok _ (qi hi)
   have hln : e.2.length ≤ i := by rw [← he]; exact hW.ln i hi
   obtain ⟨g1, g2⟩ := Pz (CD h) hW hp hln hi a.1.toNat (jp _)
   obtain ⟨sa', ha, hsa'⟩ := V3 h.tka hp.1 hsa
   obtain ⟨sb', hb, hsb'⟩ := V3 h.tkb hp.2 hsb
   have htl := RK i W
   have hcons := L7 hi
   rw [he] at hcons
   have hb1 : Ll (Tf a b) (Hi a b) a.1.toNat (n' + 1) i W = match Xk (Hi a b) e.1 a.1.toNat 0 with
    | some k => some (e.2 ++ [(k : Int)])
    | none => Ll (Tf a b) (Hi a b) a.1.toNat n' (i + 1) (Xj (Tf a b) e.1 e.2 a.1.toNat W) := by
    rw [Ll, je hi, he]
   rw [hb1]
   have hin := PX h hW hi (Di (i + 1) W) sa' sb' e he
   have step : Nk () () () W (Di i W) a (a, sa, ()) (b, sb, ()) = some (match Xk (Hi a b) e.1 a.1.toNat 0 with
    | some k => .inr (.inr ((e.2 ++ [(k : Int)], true, ()), ()))
    | none => .inl (((), (), (), Xj (Tf a b) e.1 e.2 a.1.toNat W, Di (i + 1) (Xj (Tf a b) e.1 e.2 a.1.toNat W), ()), (a, (a, sa', ()), (b, sb', ()), ()))) := by
    simp only [Nk]
    have hl0 : (Di i W).length = (Di (i + 1) W).length + 1 := by rw [hcons]; simp
    rw [Ca (by omega), show Te (Di i W).length 0 = true by rw [show (0 : Int) = ((0 : Nat) : Int) from rfl, Rg]; simp; omega]
    simp only [y3]
    rw [show (Di i W)[jz 0]? = some e.1 by rw [hcons]; rfl]
    simp only [jb]
    rw [show Be (Di i W).length 1 (((Di i W).length : Nat) : Int) = true from ZD (lo := 1) (by omega) (jp _)]
    simp only [y3, jb]
    rw [ha, hb]
    simp only [jb]
    rw [show Cc (Di i W) (jz 1) (jz (((Di i W).length : Nat) : Int)) = Di (i + 1) W by
     rw [jo, show jz 1 = 1 from rfl, hcons]
     unfold Cc
     rw [List.take_length]; rfl]
    rw [hin]
    cases Xk (Hi a b) e.1 a.1.toNat 0 with
    | some k => rfl
    | none =>
     simp only [jb, qh]
     rw [DU h hW hi sa' sb' e he]
     rfl
   unfold Sf
   refine (Wd step).trans ?_
   cases hf : Xk (Hi a b) e.1 a.1.toNat 0 with
   | some k => rfl
   | none =>
    have ih := GI h n' (i + 1) _ sa' sb' g1 hsa' hsb' (by omega)
    unfold Sf at ih
    exact ih
  ·have hb : Ll (Tf a b) (Hi a b) a.1.toNat n i W = none := by
    cases n with
    | zero => rfl
    | succ n => rw [Ll, qr (by omega)]
   rw [hb]
   unfold Sf
   refine (Wd (z := some (.inr (.inl ((), ())))) ?_).trans rfl
   have htl := RK i W
   simp only [Nk]
   rw [Ea (by omega)]; rfl
def Dg : Oc := ((0 : Int), (0 : Int), false, ())
def VD : Hc := (Dg, Dg, ())
theorem Ux {m : Aa} (hM : Oi m) : Us m Dg := by
 have hm := Yc hM.v
 refine ⟨Int.le_refl _, ?_, rfl, Int.le_refl _, by show (0 : Int) ≤ 15; omega⟩
 show (0 : Int) < ((2 ^ m.2.1.length : Nat) : Int)
 exact Int.natCast_pos.2 (Nat.two_pow_pos _)
theorem KG {a b : Aa} (h : Zx a b) : NC (Yx a b) [(VD, [])] where
 nd := by simp
 ok := fun e he => by simp at he; subst he; exact ⟨Ux h.tka, Ux h.tkb⟩
 ln := fun j hj => by
  have : j = 0 := by simpa using hj
  subst j; simp
noncomputable def Sw (a b : Aa) : Option (List Int) := Ll (Tf a b) (Hi a b) a.1.toNat 262145 0 [(VD, [])]
theorem MG {a b : Aa} (ha : Xa a = true) (hb : Xa b = true) (hk : a.1 = b.1) : Zx a b := ⟨Ry ha, Ry hb, hk⟩
noncomputable def Dx (a b : Aa) : Bool := Xa a && (Xa b && ((a.1 == b.1) && !decide (a.1 > 6)))
noncomputable def Ap (a b : Aa) : List Int × (Bool × Unit) := cond (Dx a b) (match Sw a b with | some w => (w, true, ()) | none => ([], false, ())) ([], false, ())
theorem Ky (a b : Aa) (ha : Dc La a ≤ Ma) (hb : Dc La b ≤ Ma) : Gl a b = some (Ap a b) := by
 unfold Gl Ap Dx
 rw [Vg a ha, Vg b hb]
 cases h1 : Xa a with
 | false => rfl
 | true =>
  simp only [jb, jg, y8, jl]
  cases h2 : Xa b with
  | false => rfl
  | true =>
   simp only [jg, y8, jl]
   by_cases hk : a.1 = b.1
   ·rw [show (a.1 != b.1) = false by simp [hk], show (a.1 == b.1) = true by simp [hk]]
    simp only [y8, jl]
    by_cases h6 : a.1 > 6
    ·rw [Ca h6]; rfl
    ·rw [Ea h6]
     simp only [y8, Bool.not_false, y3]
     have hT := MG h1 h2 hk
     have := GI hT 262145 0 [(VD, [])] [] [] (KG hT) (fun e he => by simp at he) (fun e he => by simp at he) (by omega)
     erw [this]
     show j4 (some (match Sw a b with | some w => Sum.inr ((w, true, ()), ()) | none => Sum.inl ((), ()))) _ = _
     cases Sw a b <;> rfl
   ·rw [show (a.1 != b.1) = true by simp [hk], show (a.1 == b.1) = false by simp [hk]]; rfl
theorem MK (a b : List Ga) (ha : a.length ≤ 2) (hb : b.length ≤ 2) (hk : ∀ r ∈ a, Sd r = true) : Nt a b = some (decide (a = b), ()) := by
 have hlim := Rj
 have hzl : (a.zip b).length = min a.length b.length := List.length_zip
 have hl := Yf (step := fun x : ((List Ga) × ((List Ga) × (Int × Unit))) × Unit => Dn x.1.1 x.1.2.1 x.1.2.2.1) (a.zip b) (fun _ x => Eg x.1 x.2) (fun i => ((a, b, i, ()), ()))
  (.inl ((a, b, ()), ())) (.inr ((false, ()), ())) (by
   intro k hk'
   rw [hzl] at hk'
   have h1 : k < a.length := by omega
   have h2 : k < b.length := by omega
   simp only [Dn]
   rw [Ca (by omega), Ca (by omega), Gc h1, Gc h2]
   simp only [y3, jb]
   have := YA (hk _ (qi h1))
   rw [JB _ _ (by omega), List.getElem_zip]
   simp only [jb]
   cases Eg a[k] b[k] <;> rfl) (by
   rw [hzl]
   simp only [Dn]
   by_cases h : a.length ≤ b.length
   ·rw [Ea (by omega)]; rfl
   ·rw [Ca (show ((min a.length b.length : Nat) : Int) < ((a.length : Nat) : Int) by omega), Ea (show ¬ ((min a.length b.length : Nat) : Int) < ((b.length : Nat) : Int) by omega)]
    rfl) (by rw [hzl]; omega)
 unfold Nt Wo
 erw [hl]
 have hres : decide (a = b) = (Md (fun _ (x : Ga × Ga) => Eg x.1 x.2) 0 (a.zip b) && ((a.length : Int) == (b.length : Int))) := by
  refine JC ?_
  rw [decide_eq_true_iff, jd, Ze, beq_iff_eq]
  constructor
  ·rintro rfl
   refine ⟨fun j hj => ?_, rfl⟩
   rw [List.getElem_zip]
   exact RE.2 rfl
  ·rintro ⟨h1, h2⟩
   have h2 : a.length = b.length := by omega
   refine List.ext_getElem h2 fun j g1 g2 => ?_
   have := h1 j (by rw [hzl]; omega)
   rw [List.getElem_zip] at this
   exact RE.1 this
 rw [hres]
 cases Md (fun _ (x : Ga × Ga) => Eg x.1 x.2) 0 (a.zip b) <;> rfl
noncomputable def Wj (m : Aa) (x : Oc) : Sa := Oe m x.1 x.2.1 x.2.2.1 []
theorem PK {m : Aa} (hM : Oi m) {x : Oc} (hx : Us m x) {k : Nat} (hk : (k : Int) < m.1) :
 Zp (Wj m x) [(k : Int)] = some (Wj m (Tp m x k), Gi m x k, true, ()) := by
 unfold Wj
 rw [JQ hM hx [(k : Int)] (by show 1 ≤ 1048576; omega)]
 unfold YR
 have hg : Ve (fun _ s x => gT m s x) 0 ((x.1, x.2.1, x.2.2.1), []) [(k : Int)] = .inl (((Tp m x k).1, (Tp m x k).2.1, (Tp m x k).2.2.1), Gi m x k) := by
  simp only [Ve, gT]
  rw [Ca (show 0 ≤ (k : Int) ∧ (k : Int) < m.1 from ⟨by omega, hk⟩), jo]
  rfl
 rw [hg]
 rfl
noncomputable def OE (a b : Aa) (e : Hc × List Int) : Kq := (Wj a e.1.1, Wj b e.1.2.1, e.2, ())
noncomputable def Jj (a b : Aa) (W : Mg) : List Kq := W.map (OE a b)
theorem UE (m : Aa) (x y : Oc) : Wy (Wj m x) (Wj m y) = some (Jf Ad x y, ()) := by
 obtain ⟨f, o, c, u⟩ := x
 obtain ⟨f', o', c', u'⟩ := y
 show cond (f == f') (cond (o == o') (some ((c == c'), ())) (some (false, ()))) (some (false, ())) = some ((f == f') && ((o == o') && ((c == c') && true)), ())
 cases f == f' with
 | false => rfl
 | true => cases o == o' <;> simp
theorem LQ (a b : Aa) (W : Mg) (hW : W.length ≤ 1000000) (p q : Oc) : Xy (Jj a b W) (Wj a p) (Wj b q) = some ((Ge Ce W (p, q, ())).isSome, ()) := by
 have hlen : (Jj a b W).length = W.length := yp _
 have hl := Yf (step := fun x : ((List Kq) × (Unit × (Unit × (Int × Unit)))) × (Sa × (Sa × Unit)) => Jr x.1.1 x.1.2.1 x.1.2.2.1 x.1.2.2.2.1 x.2.1 x.2.2.1) W (fun _ x => !(Jf Ad x.1.1 p && Jf Ad x.1.2.1 q)) (fun i => ((Jj a b W, (), (), i, ()), (Wj a p, Wj b q, ())))
  (.inl ((), ())) (.inr ((true, ()), ())) (by
   intro k hk
   simp only [Jr]
   have hk' : k < (Jj a b W).length := by rw [hlen]; exact hk
   rw [hlen, Ca (by omega), Gc hk']
   have hat : (Jj a b W)[k] = OE a b W[k] := by simp [Jj]
   rw [hat]
   simp only [y3, jb, OE]
   rw [UE]
   simp only [jb]
   cases Jf Ad W[k].1.1 p with
   | false => rfl
   | true =>
    simp only [y3]
    rw [UE]
    simp only [jb, jl]
    cases Jf Ad W[k].1.2.1 q <;> rfl) (by
   simp only [Jr]
   rw [hlen, Ea (by omega)]; rfl) (by omega)
 unfold Xy Ts
 erw [hl]
 have hres : (Ge Ce W (p, q, ())).isSome = !Md (fun _ (x : Hc × List Int) => !(Jf Ad x.1.1 p && Jf Ad x.1.2.1 q)) 0 W := by
  have hev : ∀ u v : Oc, Jf Ad u v = true ↔ u = v := fun u v => ⟨PF (by decide), fun e => by subst e; obtain ⟨f, o, c, w⟩ := u; simp [Jf]⟩
  refine JC ?_
  rw [yj, ← qa, Ze]
  constructor
  ·intro h hall
   obtain ⟨w, hw⟩ := Option.isSome_iff_exists.1 h
   have hm := NE (by decide) hw
   obtain ⟨j, hj, he⟩ := qj hm
   have := hall j hj
   rw [he] at this
   simp only [yj, Bool.and_eq_false_iff] at this
   rcases this with h' | h'
   ·rw [(hev _ _).2 rfl] at h'; simp at h'
   ·rw [(hev _ _).2 rfl] at h'; simp at h'
  ·intro h
   cases hg : Ge Ce W (p, q, ()) with
   | some w => rfl
   | none =>
    exfalso
    apply h
    intro j hj
    simp only [yj, ← qa, jd]
    rintro ⟨h1, h2⟩
    refine BK.1 hg _ (qi hj) ?_
    exact Prod.ext ((hev _ _).1 h1) (Prod.ext ((hev _ _).1 h2) rfl)
 rw [hres]
 cases Md (fun _ (x : Hc × List Int) => !(Jf Ad x.1.1 p && Jf Ad x.1.2.1 q)) 0 W <;> rfl
theorem Mam (a b : Aa) {W : Mg} {i : Nat} (hi : i < W.length) : (Jj a b W)[i]? = some (OE a b W[i]) := by
 unfold Jj
 rw [List.getElem?_map, je hi]; rfl
theorem Xai (a b : Aa) {W : Mg} {i : Nat} (hi : i < W.length) : j7 (Jj a b W) i (OE a b W[i]) = Jj a b W := by
 have hi' : i < (Jj a b W).length := by unfold Jj; rw [yp]; exact hi
 have : OE a b W[i] = (Jj a b W)[i] := by simp [Jj]
 rw [this, List.set_getElem_self hi']
theorem LK {a b : Aa} (h : Zx a b) {i : Nat} (e : Hc × List Int) : ∀ (n j : Nat) (W : Mg), n + j = a.1.toNat → NC (Yx a b) W → ∀ (hi : i < W.length), W[i] = e →
 Hf (((), Jj a b W, (i : Int), (j : Int), ()), (a, ())) = some (match Xk (Hi a b) e.1 n j with
  | some k => .inr ((e.2 ++ [(k : Int)], true, ()), ())
  | none => .inl (((), Jj a b (Qc (fun q W => Eo (Tf a b) e.1 e.2 (j + q) W) n W), (i : Int), ()), (a, ())))
 | 0, j, W, hj, hW, hi, he => by
  obtain ⟨k1, k2⟩ := Wz h.tka
  unfold Hf
  refine (Wd (z := some (.inr (.inl (((), Jj a b W, (i : Int), ()), (a, ()))))) ?_).trans rfl
  simp only [Ik]
  rw [Ea (by omega)]; rfl
 | n + 1, j, W, hj, hW, hi, he => by
  obtain ⟨k1, k2⟩ := Wz h.tka
  have hp : Yx a b e.1 := by rw [← he]; exact hW.ok _ (qi hi)
  have hln : e.2.length ≤ i := by rw [← he]; exact hW.ln i hi
  have hlen := Ru h hW
  have hja : (j : Int) < a.1 := by omega
  have hjb : (j : Int) < b.1 := by rw [← h.tkk]; exact hja
  obtain ⟨s1, s2⟩ := FG h.tka hp.1 hja
  obtain ⟨t1, t2⟩ := FG h.tkb hp.2 hjb
  have hlx : (Jj a b W).length = W.length := yp _
  have hin : Te (Jj a b W).length (i : Int) = true := by rw [Rg, hlx]; exact decide_eq_true hi
  have hset := Xai a b hi
  have hat := Mam a b hi
  rw [he] at hset hat
  obtain ⟨g1, g2⟩ := B0 (K := a.1.toNat) (CD h) hW hp hln hi (show j < a.1.toNat by omega)
  have hge : ∀ hi', (Eo (Tf a b) e.1 e.2 j W)[i]'hi' = e := fun hi' => by
   obtain ⟨t, ht⟩ := g2
   have : (W ++ t)[i]? = some e := by rw [List.getElem?_append_left hi, je hi, he]
   rw [ht, je hi'] at this
   exact yy this
  have hstep : Ik () (Jj a b W) (i : Int) (j : Int) a = some (cond (Hi a b e.1 j) (.inr (.inr ((e.2 ++ [(j : Int)], true, ()), ())))
   (.inl (((), Jj a b (Eo (Tf a b) e.1 e.2 j W), (i : Int), ((j + 1 : Nat) : Int), ()), (a, ())))) := by
   simp only [Ik]
   rw [Ca hja, hin]
   simp only [y3]
   rw [jo, hat]
   simp only [jb]
   rw [hset, hin]
   simp only [y3]
   rw [hat]
   simp only [jb]
   rw [hset, hin]
   simp only [y3]
   rw [hat]
   simp only [jb, OE]
   rw [show ((Wj a e.1.1, Wj b e.1.2.1, e.2, ()) : Kq) = OE a b e from rfl, hset]
   rw [PK h.tka hp.1 hja, PK h.tkb hp.2 hjb]
   simp only [jb]
   rw [Lf (by simp; omega), Lf (by simp; omega)]
   simp only [y3]
   rw [MK _ _ s1 t1 s2]
   simp only [jb]
   rw [show jf (jf ([] : List Int) e.2) [(j : Int)] = e.2 ++ [(j : Int)] from rfl]
   rw [show (!decide (Gi a e.1.1 j = Gi b e.1.2.1 j)) = Hi a b e.1 j from rfl]
   cases Hi a b e.1 j with
   | true => rfl
   | false =>
    simp only [y8]
    rw [LQ a b W (by omega)]
    simp only [jb]
    rw [show ((Tp a e.1.1 j, Tp b e.1.2.1 j, ()) : Hc) = Tf a b e.1 j from rfl, Id (by omega) (by omega)]
    unfold Eo
    cases (Ge Ce W (Tf a b e.1 j)).isSome with
    | true => rfl
    | false =>
     simp only [Bool.not_false, y3, y8]
     rw [Lf (by rw [hlx]; simp; omega)]
     simp only [y3]
     rw [show jf (Jj a b W) [((Wj a (Tp a e.1.1 j), Wj b (Tp b e.1.2.1 j), e.2 ++ [(j : Int)], ()) : Kq)] = Jj a b (W ++ [(Tf a b e.1 j, e.2 ++ [(j : Int)])]) by
      unfold Jj
      rw [yu]; rfl]
     rfl
  unfold Hf
  refine (Wd hstep).trans ?_
  cases hd : Hi a b e.1 j with
  | true => simp only [Xk, hd, y3]; rfl
  | false =>
   have ih := LK h (i := i) e n (j + 1) (Eo (Tf a b) e.1 e.2 j W) (by omega) g1 (Nat.lt_of_lt_of_le hi g2.length_le) (hge _)
   unfold Hf at ih
   simp only [y8, jb, qh]
   refine ih.trans ?_
   have hit : Qc (fun q W => Eo (Tf a b) e.1 e.2 (j + 1 + q) W) n (Eo (Tf a b) e.1 e.2 j W) = Qc (fun q W => Eo (Tf a b) e.1 e.2 (j + q) W) (n + 1) W := by
    clear ih hj
    induction n with
    | zero => simp [Qc]
    | succ n ih2 =>
     rw [Qc, ih2]
     show _ = Eo (Tf a b) e.1 e.2 (j + (n + 1)) _
     rw [show j + 1 + n = j + (n + 1) by omega]
   simp only [Xk, hd, y8]
   rw [hit]
theorem MI {a b : Aa} (h : Zx a b) : ∀ (n i : Nat) (W : Mg), NC (Yx a b) W → 262145 ≤ n + i →
 Uf (((), Jj a b W, (i : Int), ()), (a, ())) = some (match Ll (Tf a b) (Hi a b) a.1.toNat n i W with
  | some w => .inr ((w, true, ()), ())
  | none => .inl ((), ()))
 | n, i, W, hW, hn => by
  have hlen := Ru h hW
  have hlx : (Jj a b W).length = W.length := yp _
  by_cases hi : i < W.length
  ·obtain ⟨n', rfl⟩ : ∃ n', n = n' + 1 := ⟨n - 1, by omega⟩
   obtain ⟨e, he⟩ : ∃ e, W[i] = e := ⟨_, rfl⟩
   have hp : Yx a b e.1 := by rw [← he]; exact hW.ok _ (qi hi)
   have hln : e.2.length ≤ i := by rw [← he]; exact hW.ln i hi
   obtain ⟨g1, g2⟩ := Pz (CD h) hW hp hln hi a.1.toNat (jp _)
   have hb1 : Ll (Tf a b) (Hi a b) a.1.toNat (n' + 1) i W = match Xk (Hi a b) e.1 a.1.toNat 0 with
    | some k => some (e.2 ++ [(k : Int)])
    | none => Ll (Tf a b) (Hi a b) a.1.toNat n' (i + 1) (Xj (Tf a b) e.1 e.2 a.1.toNat W) := by
    rw [Ll, je hi, he]
    all_goals rfl
   rw [hb1]
   have hin := LK h (i := i) e a.1.toNat 0 W (by omega) hW hi he
   have hx : Qc (fun q W => Eo (Tf a b) e.1 e.2 (0 + q) W) a.1.toNat W = Xj (Tf a b) e.1 e.2 a.1.toNat W := by
    unfold Xj
    congr 1
    funext q W
    rw [jt]
   rw [hx] at hin
   have hstep : Tk () (Jj a b W) (i : Int) a = some (match Xk (Hi a b) e.1 a.1.toNat 0 with
    | some k => .inr (.inr ((e.2 ++ [(k : Int)], true, ()), ()))
    | none => .inl (((), Jj a b (Xj (Tf a b) e.1 e.2 a.1.toNat W), ((i + 1 : Nat) : Int), ()), (a, ()))) := by
    simp only [Tk]
    rw [hlx, Ca (by omega)]
    simp only [y3]
    erw [hin]
    cases Xk (Hi a b) e.1 a.1.toNat 0 with
    | some k => rfl
    | none =>
     simp only [jb, qh]
     rw [Id (by omega) (by omega)]; rfl
   unfold Uf
   refine (Wd hstep).trans ?_
   cases hf : Xk (Hi a b) e.1 a.1.toNat 0 with
   | some k => rfl
   | none =>
    have ih := MI h n' (i + 1) _ g1 (by omega)
    unfold Uf at ih
    exact ih
  ·have hb : Ll (Tf a b) (Hi a b) a.1.toNat n i W = none := by
    cases n with
    | zero => rfl
    | succ n => rw [Ll, qr (by omega)]
   rw [hb]
   unfold Uf
   refine (Wd (z := some (.inr (.inl ((), ())))) ?_).trans rfl
   simp only [Tk]
   rw [hlx, Ea (by omega)]; rfl
theorem OT (m : Aa) (hz : Dc La m ≤ Ma) : Wp m [] = some (cond (Xa m) (Oe m 0 0 false [], true, ()) (Tt, false, ())) := by
 have h20 : Ma = 1048576 := rfl
 have hs : Dc Hb (Oe m 0 0 false []) ≤ Ma := by rw [N0]; simpa using hz
 unfold Wp
 have h1 : Bi (m, ([] : List (List Fe)), (0 : Int), ([] : List Pa), (0 : Int), false, ()) = some (Xa m, ()) := by
  have h := Bk (Oe m 0 0 false []) hs
  have he : Am (Oe m 0 0 false []) = Xa m := by
   cases hm : Xa m with
   | true => exact Nn hm (Ux (Ry hm)) false Uw (by simp)
   | false => unfold Am; simp [Oe, hm]
  rw [he] at h
  exact h
 rw [h1]
 cases hm : Xa m with
 | true =>
  simp only [jb, jg, y8, y3]
  have := Ov (Oe m 0 0 false []) hs
  unfold Oe at this
  rw [this]
  rfl
 | false => rfl
theorem VH (a b : Aa) (ha : Dc La a ≤ Ma) (hb : Dc La b ≤ Ma) : Ip a b = some (Ap a b) := by
 unfold Ip Ap Dx
 rw [OT a ha, OT b hb]
 cases h1 : Xa a with
 | false => rfl
 | true =>
  simp only [jb, jg, y8, y3, jl]
  cases h2 : Xa b with
  | false => rfl
  | true =>
   simp only [jg, y8, y3, jl]
   by_cases hk : a.1 = b.1
   ·rw [show (a.1 != b.1) = false by simp [hk], show (a.1 == b.1) = true by simp [hk]]
    simp only [y8, jl]
    by_cases h6 : a.1 > 6
    ·rw [Ca h6]; rfl
    ·rw [Ea h6]
     simp only [y8, Bool.not_false, y3]
     have hT := MG h1 h2 hk
     have := MI hT 262145 0 [(VD, [])] (KG hT) (by omega)
     erw [this]
     show j4 (some (match Sw a b with | some w => Sum.inr ((w, true, ()), ()) | none => Sum.inl ((), ()))) _ = _
     cases Sw a b <;> rfl
   ·rw [show (a.1 != b.1) = true by simp [hk], show (a.1 == b.1) = false by simp [hk]]; rfl
theorem LW {a b : Aa} (h : Zx a b) : ∀ (n i : Nat) (W : Mg) (w : List Int), NC (Yx a b) W → Ll (Tf a b) (Hi a b) a.1.toNat n i W = some w → w.length ≤ 262145
 | 0, i, W, w, _, hb => by simp [Ll] at hb
 | n + 1, i, W, w, hW, hb => by
  have hlen := Ru h hW
  by_cases hi : i < W.length
  ·rw [Ll, je hi] at hb
   have hp := hW.ok _ (qi hi)
   have hln := hW.ln i hi
   simp only at hb
   cases hf : Xk (Hi a b) W[i].1 a.1.toNat 0 with
   | some k =>
    rw [hf] at hb
    simp only [jc] at hb
    subst hb
    simp
    omega
   | none =>
    rw [hf] at hb
    exact LW h n (i + 1) _ w (Pz (CD h) hW hp hln hi a.1.toNat (jp _)).1 hb
  ·rw [Ll, qr (by omega)] at hb
   simp at hb
theorem K8 (a b : Aa) : (Ap a b).1.length ≤ 262145 := by
 unfold Ap
 cases hc : Dx a b with
 | false => simp
 | true =>
  simp only [y3]
  cases hd : Sw a b with
  | none => simp
  | some w =>
   unfold Dx at hc
   simp only [jd, beq_iff_eq] at hc
   have hT := MG hc.1 hc.2.1 hc.2.2.1
   exact LW hT _ _ _ w (KG hT) hd
theorem UN (a b : Aa) (ha : Dc La a ≤ Ma) (hb : Dc La b ≤ Ma) : Dl a b = some (Dx a b && !(Ap a b).2.1, ()) := by
 unfold Dl Dx
 rw [VH a b ha hb, Um a ha, Um b hb]
 cases Xa a with
 | false => rfl
 | true =>
  simp only [jb, y3, jl]
  cases Xa b with
  | false => rfl
  | true =>
   simp only [y3, jl]
   cases a.1 == b.1 with
   | false => rfl
   | true =>
    simp only [y3, jl]
    by_cases h6 : a.1 > 6
    ·rw [Ca h6, Ea (show ¬ a.1 ≤ 6 by omega)]; rfl
    ·rw [Ea h6, Ca (show a.1 ≤ 6 by omega)]; rfl
theorem WC (a b : Aa) (ha : Dc La a ≤ Ma) (hb : Dc La b ≤ Ma) : Je a b = some (Dx a b && !(Ap a b).2.1, ()) := by
 unfold Je Dx
 rw [Ky a b ha hb, Vg a ha, Vg b hb]
 cases Xa a with
 | false => rfl
 | true =>
  simp only [jb, jg, y8, jl]
  cases Xa b with
  | false => rfl
  | true =>
   simp only [jg, y8, jl, bne]
   cases a.1 == b.1 with
   | false => rfl
   | true =>
    simp only [jg, y8, jl]
    by_cases h6 : a.1 > 6
    ·rw [Ca h6]; rfl
    ·rw [Ea h6]; rfl
def rowN (C m r : Nat) : Nat := (m >>> (r * C)) &&& (2 ^ C - 1)
def Lat (C a b m : Nat) : Nat := cond (rowN C m a &&& rowN C m b != 0) (m ||| rowN C m b <<< (a * C)) m
def g3 (C a : Nat) : Nat → Nat → Nat := fun b m => Lat C a b m
def g2 (C R : Nat) : Nat → Nat → Nat := fun a m => Qc (g3 C a) R m
def g1 (C R : Nat) : Nat → Nat → Nat := fun _ m => Qc (g2 C R) R m

structure Qj (c : Mb) : Prop where
 lo : 0 ≤ c.2.1
 hi : c.2.1 ≤ (c.1.length : Int)
 len : c.1.length ≤ Ma
theorem V7 (z : Int) : 0 ≤ Lk .i64 z 255 ∧ Lk .i64 z 255 ≤ 255 := by
 have h : (BitVec.ofInt 64 z &&& BitVec.ofInt 64 255).toNat ≤ 255 := by
  rw [BitVec.toNat_and]
  exact Nat.and_le_right
 show 0 ≤ j6 .i64 ((BitVec.ofInt 64 z &&& BitVec.ofInt 64 255).toNat : Int) ∧ j6 .i64 ((BitVec.ofInt 64 z &&& BitVec.ofInt 64 255).toNat : Int) ≤ 255
 rw [Id (by omega) (by omega)]
 omega
theorem FL {c : Mb} (h : Qj c) : ∃ (c' : Mb) (x : Int), Em c = some (c', (x, ())) ∧ Qj c' ∧ 0 ≤ x ∧ x ≤ 255 := by
 have h20 : Ma = 1048576 := rfl
 have h1 := h.lo
 have h2 := h.len
 unfold Em
 by_cases hi : c.2.1 < ((ja c.1 : Nat) : Int)
 ·obtain ⟨k, hk⟩ := jw h1
  rw [Ca hi, hk, Gc (show k < c.1.length by omega)]
  refine ⟨_, _, rfl, ⟨?_, ?_, h2⟩, V7 _⟩
  ·show 0 ≤ j6 .i64 ((k : Int) + 1)
   rw [Ni (by omega)]; omega
  ·show j6 .i64 ((k : Int) + 1) ≤ _
   rw [Ni (by omega)]; show _ ≤ ((ja c.1 : Nat) : Int); omega
 ·rw [Ea hi]
  exact ⟨_, _, rfl, ⟨h1, h.hi, h2⟩, V7 _⟩
theorem Pf {c : Mb} (h : Qj c) (n : Int) (hn : 0 < n) : ∃ (c' : Mb) (x : Int), Za c n = some (c', (x, ())) ∧ Qj c' ∧ 0 ≤ x ∧ x < n := by
 obtain ⟨c1, x1, e1, h1, b1⟩ := FL h
 unfold Za
 rw [Ea (show ¬ n ≤ 0 by omega), e1, show (n == 0) = false by simp; omega]
 simp only [y8, jb]
 by_cases h256 : n ≤ 256
 ·rw [Ca h256]
  exact ⟨_, _, rfl, h1, Int.tmod_nonneg _ (by omega), Int.tmod_lt_of_pos _ hn⟩
 ·obtain ⟨c2, x2, e2, h2, b2⟩ := FL h1
  obtain ⟨c3, x3, e3, h3, b3⟩ := FL h2
  obtain ⟨c4, x4, e4, h4, b4⟩ := FL h3
  rw [Ea h256, e2]
  simp only [y8, jb]
  rw [e3]
  simp only [jb]
  rw [e4]
  simp only [jb]
  rw [Id (n := x1 * 16777216) (by omega) (by omega), Id (n := x2 * 65536) (by omega) (by omega), Id (n := x3 * 256) (by omega) (by omega), Id (n := x1 * 16777216 + x2 * 65536) (by omega) (by omega), Id (n := x1 * 16777216 + x2 * 65536 + x3 * 256) (by omega) (by omega), Id (n := x1 * 16777216 + x2 * 65536 + x3 * 256 + x4) (by omega) (by omega)]
  exact ⟨_, _, rfl, h4, Int.tmod_nonneg _ (by omega), Int.tmod_lt_of_pos _ hn⟩
theorem A3 {c : Mb} (h : Qj c) (n : Int) (hn : 0 < n) : ∃ (c' : Mb) (b : Bool), Zr c n = some (c', (b, ())) ∧ Qj c' := by
 obtain ⟨c1, x1, e1, h1, b1⟩ := Pf h n hn
 unfold Zr
 rw [e1]
 exact ⟨_, _, rfl, h1⟩
theorem BG {c : Mb} (h : Qj c) (l : List Int) (hl : 0 < l.length) (h2 : l.length ≤ 1000) : ∃ (c' : Mb) (x : Int), Mi c l = some (c', (x, ())) ∧ Qj c' ∧ x ∈ l := by
 obtain ⟨c1, x1, e1, h1, b1⟩ := Pf h ((ja l : Nat) : Int) (by omega)
 unfold Mi
 rw [e1]
 obtain ⟨k, rfl⟩ := jw b1.1
 have hk : k < l.length := by omega
 simp only [jb]
 rw [Rg, Ca hk, jo, je hk]
 exact ⟨_, _, rfl, h1, qi hk⟩
theorem Eaa (a : List Int) (hn : a.length ≤ Ma) : ∃ h : Int, Yy a = some (a, (0, (h, ()))) := by
 have h20 : Ma = 1048576 := rfl
 have := KE (s := fun x : (List Int × (Int × (Int × Unit))) × Unit => BA x.1.1 x.1.2.1 x.1.2.2.1) (fun n x => ∃ (h : Int) (k : Nat), x = ((a, h, (k : Int), ()), ()) ∧ n + k = a.length) (fun r => ∃ h : Int, r = .inl ((a, h, ()), ())) (by
  rintro n x ⟨h, k, rfl, hk⟩
  simp only [BA]
  by_cases h1 : (k : Int) < ((ja a : Nat) : Int)
  ·rw [Ca h1]
   by_cases h2 : (k : Int) < 4000
   ·rw [Ca h2, Gc (show k < a.length by omega), Ni (by omega)]
    exact .inr ⟨_, n - 1, by omega, rfl, _, k + 1, rfl, by omega⟩
   ·rw [Ea h2]; exact .inl ⟨_, rfl, _, rfl⟩
  ·rw [Ea h1]; exact .inl ⟨_, rfl, _, rfl⟩) a.length ((a, j6 .i64 (10729 + ((ja a : Nat) : Int)), ((0 : Nat) : Int), ()), ()) ⟨_, 0, rfl, rfl⟩
 obtain ⟨r, h1, h, rfl⟩ := this
 refine ⟨h, ?_⟩
 unfold Yy Dw
 erw [h1]
 rfl
theorem Xac (a : List Int) (n : Int) (hn : a.length ≤ Ma) : ∃ c : Mb, QA a n = some c ∧ Qj c := by
 obtain ⟨h, e⟩ := Eaa a hn
 unfold QA
 rw [e]
 exact ⟨_, rfl, ⟨Int.le_refl _, by show (0 : Int) ≤ _; omega, hn⟩⟩
theorem ET (a : List Int) (p n : Int) (hl : a.length ≤ Ma) (hn : 0 < n) : ∃ x : Int, Sh a p n = some (x, ()) ∧ 0 ≤ x ∧ x < n := by
 obtain ⟨c, e, hc⟩ := Xac a p hl
 obtain ⟨c1, x, e1, h1, b1⟩ := Pf hc n hn
 unfold Sh
 rw [e]
 simp only [jb]
 rw [e1]
 exact ⟨x, rfl, b1⟩
def TA (n : Int) (a : Ba) : Prop := Tb a = true ∧ a.1 ≠ 1 ∧ (a.1 = 9 ∨ a.2.2.2.1 < n)
theorem Pp {n k c m x : Int} (h : Kb k c m x) (h1 : k ≠ 1) (h2 : k = 9 ∨ x < n) : TA n (k, c, m, x, ()) := ⟨(Cb _).2 h, h1, h2⟩
def Yo (n : Int) (o : Option (Mb × (Ba × Unit))) : Prop := ∃ (c : Mb) (a : Ba), o = some (c, (a, ())) ∧ Qj c ∧ TA n a
theorem Tw {n : Int} {c : Mb} {a : Ba} (h : Qj c) (ha : TA n a) : Yo n (some (c, (a, ()))) := ⟨c, a, rfl, h, ha⟩
theorem Qp {n : Int} {b : Bool} {x y : Option (Mb × (Ba × Unit))} (h1 : Yo n x) (h2 : Yo n y) : Yo n (cond b x y) := by cases b <;> assumption
theorem Hac {n : Int} {p : Prop} [Decidable p] {x y : Option (Mb × (Ba × Unit))} (h1 : p → Yo n x) (h2 : Yo n y) : Yo n (cond (decide p) x y) := by
 by_cases h : p
 ·rw [Ca h]; exact h1 h
 ·rw [Ea h]; exact h2
theorem Rz {n m : Int} {c : Mb} (hc : Qj c) (hm : 0 < m) {f : (Mb × (Int × Unit)) → Option (Mb × (Ba × Unit))}
 (h : ∀ (c' : Mb) (x : Int), Qj c' → 0 ≤ x → x < m → Yo n (f (c', (x, ())))) : Yo n (j4 (Za c m) f) := by
 obtain ⟨c1, x1, e1, h1, b1⟩ := Pf hc m hm
 rw [e1]
 exact h c1 x1 h1 b1.1 b1.2
theorem Zag {n m : Int} {c : Mb} (hc : Qj c) (hm : 0 < m) {f : (Mb × (Bool × Unit)) → Option (Mb × (Ba × Unit))}
 (h : ∀ (c' : Mb) (x : Bool), Qj c' → Yo n (f (c', (x, ())))) : Yo n (j4 (Zr c m) f) := by
 obtain ⟨c1, x1, e1, h1⟩ := A3 hc m hm
 rw [e1]
 exact h c1 x1 h1
theorem Mat {c : Mb} {n x : Int} {a0 a1 a2 : Ba} (hc : Qj c) (h0 : 0 ≤ x) (h3 : x < 3) (g0 : TA n a0) (g1 : TA n a1) (g2 : TA n a2) :
 Yo n (cond (Te (ja [a0, a1, a2]) x) (j4 [a0, a1, a2][(jz x)]? fun y => some (c, (y, ()))) none) := by
 have : x = 0 ∨ x = 1 ∨ x = 2 := by omega
 rcases this with rfl | rfl | rfl
 ·exact Tw hc g0
 ·exact Tw hc g1
 ·exact Tw hc g2
theorem SJ {c : Mb} (h : Qj c) (n : Int) (hn : 1 ≤ n) (hn4 : n ≤ 4) : Yo n (As c n) := by
 unfold As
 rw [Id (n := n - 1) (by omega) (by omega)]
 refine Rz h (by omega) fun c1 x1 h1 l1 u1 => ?_
 refine Rz h1 (by omega) fun c2 x2 h2 l2 u2 => ?_
 refine Zag h2 (by omega) fun c3 x3 h3 => ?_
 simp only
 rw [Id (n := 1 + x1) (by omega) (by omega), Id (n := 1 + x2) (by omega) (by omega)]
 have tail : ∀ (md : Int), 1 ≤ md → md ≤ 15 → Yo n (j4 (Za c3 (max (1 : Int) (n - 1))) fun r4 =>
  (j4 (Za r4.1 (16 : Int)) fun r5 =>
  (cond (r5.2.1 == (0 : Int)) (some (r5.1, (((2 : Int), (1 + x1), md, (0 : Int), ()), ())))
  (cond (r5.2.1 == (1 : Int)) (some (r5.1, (((2 : Int), (0 : Int), md, (0 : Int), ()), ())))
  (cond (r5.2.1 == (2 : Int)) (some (r5.1, (((6 : Int), (1 + x1), md, (0 : Int), ()), ())))
  (cond (r5.2.1 == (3 : Int)) (some (r5.1, (((6 : Int), (1 + x1), md, (0 : Int), ()), ())))
  (cond (r5.2.1 == (4 : Int)) (some (r5.1, (((8 : Int), (0 : Int), md, (0 : Int), ()), ())))
  (cond (r5.2.1 == (5 : Int)) (j4 (Za r5.1 (4 : Int)) fun r6 => (some (r6.1, (((9 : Int), (0 : Int), (0 : Int), r6.2.1, ()), ()))))
  (cond (r5.2.1 == (6 : Int)) (some (r5.1, (((10 : Int), (0 : Int), (0 : Int), (0 : Int), ()), ())))
  (cond (r5.2.1 == (7 : Int)) (j4 (Za r5.1 (max (1 : Int) n)) fun r7 => (some (r7.1, (((5 : Int), (0 : Int), (0 : Int), r7.2.1, ()), ()))))
  (cond (r5.2.1 == (8 : Int)) (cond (decide (n > (1 : Int))) (j4 (Za r5.1 (3 : Int)) fun r8 => (cond (Te (ja ([((3 : Int), (0 : Int), (0 : Int), (j5 .i64 ((1 : Int) + r4.2.1)), ()), ((4 : Int), (0 : Int), (0 : Int), (j5 .i64 ((1 : Int) + r4.2.1)), ()), ((7 : Int), (1 + x1), (0 : Int), (j5 .i64 ((1 : Int) + r4.2.1)), ())] : List Ba)) r8.2.1) (j4 ([((3 : Int), (0 : Int), (0 : Int), (j5 .i64 ((1 : Int) + r4.2.1)), ()), ((4 : Int), (0 : Int), (0 : Int), (j5 .i64 ((1 : Int) + r4.2.1)), ()), ((7 : Int), (1 + x1), (0 : Int), (j5 .i64 ((1 : Int) + r4.2.1)), ())] : List Ba)[(jz r8.2.1)]? fun x9 => (some (r8.1, (x9, ())))) none)) (some (r5.1, (((2 : Int), (1 + x1), (0 : Int), (0 : Int), ()), ()))))
  (cond (r5.2.1 == (9 : Int)) (cond (decide (n > (1 : Int))) (j4 (Za r5.1 (3 : Int)) fun r8 => (cond (Te (ja ([((3 : Int), (0 : Int), (0 : Int), (j5 .i64 ((1 : Int) + r4.2.1)), ()), ((4 : Int), (0 : Int), (0 : Int), (j5 .i64 ((1 : Int) + r4.2.1)), ()), ((7 : Int), (1 + x1), (0 : Int), (j5 .i64 ((1 : Int) + r4.2.1)), ())] : List Ba)) r8.2.1) (j4 ([((3 : Int), (0 : Int), (0 : Int), (j5 .i64 ((1 : Int) + r4.2.1)), ()), ((4 : Int), (0 : Int), (0 : Int), (j5 .i64 ((1 : Int) + r4.2.1)), ()), ((7 : Int), (1 + x1), (0 : Int), (j5 .i64 ((1 : Int) + r4.2.1)), ())] : List Ba)[(jz r8.2.1)]? fun x9 => (some (r8.1, (x9, ())))) none)) (some (r5.1, (((2 : Int), (1 + x1), (0 : Int), (0 : Int), ()), ()))))
  (cond (r5.2.1 == (10 : Int)) (cond (decide (n > (1 : Int))) (j4 (Za r5.1 (3 : Int)) fun r8 => (cond (Te (ja ([((3 : Int), (0 : Int), (0 : Int), (j5 .i64 ((1 : Int) + r4.2.1)), ()), ((4 : Int), (0 : Int), (0 : Int), (j5 .i64 ((1 : Int) + r4.2.1)), ()), ((7 : Int), (1 + x1), (0 : Int), (j5 .i64 ((1 : Int) + r4.2.1)), ())] : List Ba)) r8.2.1) (j4 ([((3 : Int), (0 : Int), (0 : Int), (j5 .i64 ((1 : Int) + r4.2.1)), ()), ((4 : Int), (0 : Int), (0 : Int), (j5 .i64 ((1 : Int) + r4.2.1)), ()), ((7 : Int), (1 + x1), (0 : Int), (j5 .i64 ((1 : Int) + r4.2.1)), ())] : List Ba)[(jz r8.2.1)]? fun x9 => (some (r8.1, (x9, ())))) none)) (some (r5.1, (((2 : Int), (1 + x1), (0 : Int), (0 : Int), ()), ()))))
  (some (r5.1, (((2 : Int), (1 + x1), (0 : Int), (0 : Int), ()), ())))))))))))))))) := by
  intro md lm um
  refine Rz h3 (by omega) fun c4 x4 h4 l4 u4 => ?_
  refine Rz h4 (by omega) fun c5 x5 h5 l5 u5 => ?_
  simp only
  rw [Id (n := 1 + x4) (by omega) (by omega)]
  have last : Yo n (some (c5, (((2 : Int), (1 + x1), (0 : Int), (0 : Int), ()), ()))) := Tw h5 (Pp (by unfold Kb; omega) (by omega) (by omega))
  have mid : Yo n (cond (decide (n > (1 : Int))) (j4 (Za c5 (3 : Int)) fun r8 => (cond (Te (ja ([((3 : Int), (0 : Int), (0 : Int), (1 + x4), ()), ((4 : Int), (0 : Int), (0 : Int), (1 + x4), ()), ((7 : Int), (1 + x1), (0 : Int), (1 + x4), ())] : List Ba)) r8.2.1) (j4 ([((3 : Int), (0 : Int), (0 : Int), (1 + x4), ()), ((4 : Int), (0 : Int), (0 : Int), (1 + x4), ()), ((7 : Int), (1 + x1), (0 : Int), (1 + x4), ())] : List Ba)[(jz r8.2.1)]? fun x9 => (some (r8.1, (x9, ())))) none)) (some (c5, (((2 : Int), (1 + x1), (0 : Int), (0 : Int), ()), ())))) := by
   refine Hac (fun hn1 => ?_) last
   have hx : 1 + x4 < n := by omega
   refine Rz h5 (by omega) fun c6 x6 h6 l6 u6 => ?_
   exact Mat h6 l6 u6 (Pp (by unfold Kb; omega) (by omega) (by omega)) (Pp (by unfold Kb; omega) (by omega) (by omega)) (Pp (by unfold Kb; omega) (by omega) (by omega))
  refine Qp (Tw h5 (Pp (by unfold Kb; omega) (by omega) (by omega))) ?_
  refine Qp (Tw h5 (Pp (by unfold Kb; omega) (by omega) (by omega))) ?_
  refine Qp (Tw h5 (Pp (by unfold Kb; omega) (by omega) (by omega))) ?_
  refine Qp (Tw h5 (Pp (by unfold Kb; omega) (by omega) (by omega))) ?_
  refine Qp (Tw h5 (Pp (by unfold Kb; omega) (by omega) (by omega))) ?_
  refine Qp (Rz h5 (by omega) fun c6 x6 h6 l6 u6 => by simp only; exact Tw h6 (Pp (by unfold Kb; omega) (by omega) (by omega))) ?_
  refine Qp (Tw h5 (Pp (by unfold Kb; omega) (by omega) (by omega))) ?_
  refine Qp (Rz h5 (by omega) fun c6 x6 h6 l6 u6 => by simp only; exact Tw h6 (Pp (by unfold Kb; omega) (by omega) (by omega))) ?_
  exact Qp mid (Qp mid (Qp mid last))
 cases x3 with
 | true => exact tail 2 (by omega) (by omega)
 | false => exact tail (1 + x2) (by omega) (by omega)
theorem DF {n i : Nat} {a : Ba} (h : TA (n : Int) a) : Mc n i a = true := by
 obtain ⟨h1, h2, h3⟩ := h
 unfold Mc
 rw [h1]
 have e1 : (a.1 == 1) = false := by simp; exact h2
 rw [e1]
 rcases h3 with h | h
 ·simp [h]
 ·simp; exact .inr h
theorem T6 {n i : Nat} (hi : 0 < i) (hn : 1 ≤ n) : Mc n i ((1 : Int), (0 : Int), (0 : Int), (0 : Int), ()) = true := by
 unfold Mc
 have : Tb ((1 : Int), (0 : Int), (0 : Int), (0 : Int), ()) = true := (Cb _).2 (by simp [Kb])
 rw [this]
 have hi' : ((i : Int) == 0) = false := by simp; omega
 rw [hi']
 simp; omega
theorem ES {α : Type} {p : Nat → α → Bool} {xs : List α} {x : α} (h : Md p 0 xs = true) (hx : p xs.length x = true) : Md p 0 (xs ++ [x]) = true := by
 rw [Ze] at h ⊢
 intro j hj
 rw [qe, List.length_singleton] at hj
 rw [List.getElem_append]
 split
 ·rename_i h1; exact h j h1
 ·have : j = xs.length := by omega
  subst this
  simpa using hx
theorem Uac {c : Mb} (hc : Qj c) {keys n i : Nat} (hk : keys ≤ 32) (hn : 1 ≤ n) (hn4 : n ≤ 4) (b4 b6 : Aa) :
 ∃ (c' : Mb) (row : List Ba), Bv (((), (keys : Int), (), (n : Int), (), (i : Int), ([] : List Ba), (0 : Int), ()), (c, b4, b6, ())) = some (.inl (((), (keys : Int), (), (n : Int), (), (i : Int), row, ()), (c', b4, b6, ()))) ∧
  Qj c' ∧ row.length = keys ∧ Md (fun _ a => Mc n i a) 0 row = true := by
 have hlim : Nb = 1073741824 := rfl
 have := KE (s := fun x : ((Unit × (Int × (Unit × (Int × (Unit × (Int × ((List Ba) × (Int × Unit)))))))) × (Mb × (Aa × (Aa × Unit)))) => Az x.1.1 x.1.2.1 x.1.2.2.1 x.1.2.2.2.1 x.1.2.2.2.2.1 x.1.2.2.2.2.2.1 x.1.2.2.2.2.2.2.1 x.1.2.2.2.2.2.2.2.1 x.2.1 x.2.2.1 x.2.2.2.1)
  (fun m x => ∃ (c' : Mb) (row : List Ba) (k : Nat), x = (((), (keys : Int), (), (n : Int), (), (i : Int), row, (k : Int), ()), (c', b4, b6, ())) ∧ m + k = keys ∧ row.length = k ∧ Qj c' ∧ Md (fun _ a => Mc n i a) 0 row = true)
  (fun r => ∃ (c' : Mb) (row : List Ba), r = .inl (((), (keys : Int), (), (n : Int), (), (i : Int), row, ()), (c', b4, b6, ())) ∧ Qj c' ∧ row.length = keys ∧ Md (fun _ a => Mc n i a) 0 row = true) (by
  rintro m x ⟨c', row, k, rfl, hm, hl, hc', hr⟩
  simp only [Az]
  by_cases h1 : (k : Int) < (keys : Int)
  ·rw [Ca h1]
   obtain ⟨c1, a, e1, hc1, ha⟩ := SJ hc' (n : Int) (by omega) (by omega)
   rw [e1]
   simp only [y3, jb]
   have room : ∀ z : Ba, jy (ja row + ja [z]) Nb = true := fun z => jk (by simp; omega)
   rw [Ni (by omega)]
   have Kf : ∀ (z : Ba) (c2 : Mb), Mc n i z = true → Qj c2 → ∃ c' row' k', (((), (keys : Int), (), (n : Int), (), (i : Int), jf row [z], ((k + 1 : Nat) : Int), ()), (c2, b4, b6, ())) = (((), (keys : Int), (), (n : Int), (), (i : Int), row', ((k' : Nat) : Int), ()), (c', b4, b6, ())) ∧ (m - 1) + k' = keys ∧ ja row' = k' ∧ Qj c' ∧ Md (fun _ a => Mc n i a) 0 row' = true :=
    fun z c2 hz h2 => ⟨c2, _, k + 1, rfl, by omega, by simp [hl], h2, ES hr hz⟩
   by_cases h2 : (i : Int) > 0
   ·rw [Ca h2]
    obtain ⟨c2, b, e2, hc2⟩ := A3 hc1 3 (by omega)
    rw [e2]
    simp only [y3, jb, room]
    cases b with
    | true => exact .inr ⟨_, m - 1, by omega, rfl, Kf _ _ (T6 (by omega) hn) hc2⟩
    | false => exact .inr ⟨_, m - 1, by omega, rfl, Kf _ _ (DF ha) hc2⟩
   ·rw [Ea h2]
    simp only [y3, y8, room]
    exact .inr ⟨_, m - 1, by omega, rfl, Kf _ _ (DF ha) hc1⟩
  ·rw [Ea h1]; exact .inl ⟨_, rfl, c', row, rfl, hc', by omega, hr⟩) keys (((), (keys : Int), (), (n : Int), (), (i : Int), ([] : List Ba), ((0 : Nat) : Int), ()), (c, b4, b6, ())) ⟨c, [], 0, rfl, rfl, rfl, hc, rfl⟩
 obtain ⟨r, e, c', row, rfl, h⟩ := this
 exact ⟨c', row, e, h⟩
theorem XS {c : Mb} (hc : Qj c) {keys : Nat} (hk1 : 1 ≤ keys) (hk : keys ≤ 32) : ∃ (c' : Mb) (m : Aa), Pw c (keys : Int) = some (c', (m, ())) ∧ Qj c' ∧ Xa m = true ∧ m.1 = (keys : Int) := by
 have hlim : Nb = 1073741824 := rfl
 obtain ⟨c1, x1, e1, hc1, b1⟩ := Pf hc 4 (by omega)
 obtain ⟨n0, rfl⟩ := jw b1.1
 obtain ⟨n, hn⟩ : ∃ n : Nat, n = n0 + 1 := ⟨_, rfl⟩
 have hw : j6 .i64 ((1 : Int) + (n0 : Int)) = (n : Int) := by rw [Id (by omega) (by omega)]; omega
 unfold Pw
 rw [e1]
 simp only [jb, hw]
 have := KE (s := fun x : ((Unit × (Int × (Unit × (Int × (Unit × (Int × Unit)))))) × (Mb × (Aa × (Aa × Unit)))) => Zy x.1.1 x.1.2.1 x.1.2.2.1 x.1.2.2.2.1 x.1.2.2.2.2.1 x.1.2.2.2.2.2.1 x.2.1 x.2.2.1 x.2.2.2.1)
  (fun m x => ∃ (c' : Mb) (L : List (List Ba)) (k : Nat), x = (((), (keys : Int), (), (n : Int), (), (k : Int), ()), (c', ((0 : Int), ([] : List (List Ba)), ()), ((keys : Int), L, ()), ())) ∧ m + k = n ∧ L.length = k ∧ Qj c' ∧ Md (fun i l => Df (keys : Int) n i l) 0 L = true)
  (fun r => ∃ (c' : Mb) (L : List (List Ba)), r = .inl (((), (), (), ()), (c', ((0 : Int), ([] : List (List Ba)), ()), ((keys : Int), L, ()), ())) ∧ Qj c' ∧ L.length = n ∧ Md (fun i l => Df (keys : Int) n i l) 0 L = true) (by
  rintro m x ⟨c', L, k, rfl, hm, hl, hc', hr⟩
  simp only [Zy]
  by_cases h1 : (k : Int) < (n : Int)
  ·rw [Ca h1]
   obtain ⟨c2, row, e2, hc2, hrow, hall⟩ := Uac hc' (i := k) hk (show 1 ≤ n by omega) (show n ≤ 4 by omega) ((0 : Int), ([] : List (List Ba)), ()) ((keys : Int), L, ())
   erw [e2]
   simp only [y3, jb, qh]
   rw [show jy (ja L + ja [row]) Nb = true from jk (by simp; omega), Ni (by omega)]
   refine .inr ⟨_, m - 1, by omega, rfl, c2, _, k + 1, rfl, by omega, by simp [hl], hc2, ?_⟩
   refine ES hr ?_
   unfold Df
   rw [hl, hall, hrow]
   simp
  ·rw [Ea h1]; exact .inl ⟨_, rfl, c', L, rfl, hc', by omega, hr⟩) n (((), (keys : Int), (), (n : Int), (), ((0 : Nat) : Int), ()), (c1, ((0 : Int), ([] : List (List Ba)), ()), ((keys : Int), ([] : List (List Ba)), ()), ())) ⟨c1, [], 0, rfl, rfl, rfl, hc1, rfl⟩
 obtain ⟨r, e, c', L, rfl, hc', hL, hall⟩ := this
 unfold Av
 erw [e]
 refine ⟨c', ((keys : Int), L, ()), rfl, hc', ?_, rfl⟩
 unfold Xa
 simp only [jd, decide_eq_true_eq]
 refine ⟨⟨by omega, by omega⟩, ?_⟩
 show Md (fun i l => Df (keys : Int) L.length i l) 0 L = true
 rw [hL]; exact hall
theorem KW {α : Type} {p : Nat → α → Bool} {xs : List α} {i : Nat} {x : α} (h : Md p 0 xs = true) (hx : p i x = true) : Md p 0 (j7 xs i x) = true := by
 rw [Ze] at h ⊢
 intro j hj
 rw [j9] at hj
 rw [List.getElem_set]
 split
 ·rename_i e; subst e; simpa using hx
 ·exact h j hj
theorem QZ {keys : Int} {n i : Nat} {l : List Ba} {k : Nat} {a : Ba} (h : Df keys n i l = true) (ha : Mc n i a = true) : Df keys n i (j7 l k a) = true := by
 unfold Df at h ⊢
 rw [jd] at h ⊢
 exact ⟨by rw [j9]; exact h.1, KW h.2 ha⟩
theorem PZ {keys : Int} {n i : Nat} {l : List Ba} (h : Df keys n i l = true) : (l.length : Int) = keys := by
 unfold Df at h
 rw [jd] at h
 simpa using h.1
theorem SP {c : Mb} (hc : Qj c) {keys : Nat} (hk1 : 1 ≤ keys) (hk : keys ≤ 32) : ∃ (c' : Mb) (m : Aa), Yu c (keys : Int) = some (c', (m, ())) ∧ Qj c' ∧ Xa m = true ∧ m.1 = (keys : Int) := by
 obtain ⟨c1, m1, e1, hc1, hm1, hmk⟩ := XS hc hk1 hk
 obtain ⟨c2, x2, e2, hc2, b2⟩ := Pf hc1 6 (by omega)
 obtain ⟨x, rfl⟩ := jw b2.1
 unfold Yu
 rw [e1]
 simp only [jb, e2]
 have step := KE (s := fun x : ((Unit × (Int × (Unit × (Unit × (Int × Unit))))) × (Mb × (Aa × (Aa × Unit)))) => Mx x.1.1 x.1.2.1 x.1.2.2.1 x.1.2.2.2.1 x.1.2.2.2.2.1 x.2.1 x.2.2.1 x.2.2.2.1)
  (fun z y => ∃ (c' : Mb) (m : Aa), y = (((), (keys : Int), (), (), (z : Int), ()), (c', ((0 : Int), ([] : List (List Ba)), ()), m, ())) ∧ z ≤ 6 ∧ Qj c' ∧ Xa m = true ∧ m.1 = (keys : Int))
  (fun r => ∃ (c' : Mb) (m : Aa), r = .inl (((), (), (), ()), (c', ((0 : Int), ([] : List (List Ba)), ()), m, ())) ∧ Qj c' ∧ Xa m = true ∧ m.1 = (keys : Int)) (by
  rintro z y ⟨c', m, rfl, hz, hc', hm, hmk⟩
  simp only [Mx]
  by_cases h1 : (z : Int) > 0
  ·rw [Ca h1]
   have hm0 := hm
   unfold Xa at hm0
   simp only [jd, decide_eq_true_eq] at hm0
   obtain ⟨⟨hk', hL⟩, hall⟩ := hm0
   obtain ⟨c3, i, e3, hc3, bi⟩ := Pf hc' ((ja m.2.1 : Nat) : Int) (by omega)
   obtain ⟨i, rfl⟩ := jw bi.1
   obtain ⟨c4, k, e4, hc4, bk⟩ := Pf hc3 (keys : Int) (by omega)
   obtain ⟨k, rfl⟩ := jw bk.1
   rw [e3]
   simp only [y3, jb, e4]
   have hw : j6 .i64 ((z : Int) - 1) = ((z - 1 : Nat) : Int) := by rw [Id (by omega) (by omega)]; omega
   rw [hw]
   have hi : i < m.2.1.length := by omega
   by_cases h2 : ((ja m.2.1 : Nat) : Int) > 1
   ·rw [Ca h2, Rg, Ca hi, jo, je hi]
    have hrow := Ze.1 hall i hi
    rw [jt] at hrow
    have hlen := PZ hrow
    have hkk : k < (m.2.1[i]).length := by omega
    obtain ⟨c5, kd, e5, hc5, hkd⟩ := BG hc4 [(4 : Int), (5 : Int), (3 : Int)] (by simp) (by simp)
    obtain ⟨c6, q, e6, hc6, bq⟩ := Pf hc5 (((ja m.2.1 : Nat) : Int) - 1) (by omega)
    simp only [y3, jb, e5]
    rw [Id (n := ((ja m.2.1 : Nat) : Int) - 1) (by omega) (by omega), e6]
    simp only [jb]
    rw [Rg, Ca hkk, jo, je hkk, Id (n := 1 + q) (by omega) (by omega)]
    simp only [y3, jb]
    refine .inr ⟨_, z - 1, by omega, rfl, c6, _, rfl, by omega, hc6, ?_, hmk⟩
    have hd : TA ((ja m.2.1 : Nat) : Int) (kd, (0 : Int), (0 : Int), 1 + q, ()) := by
     have : kd = 4 ∨ kd = 5 ∨ kd = 3 := by simpa using hkd
     exact Pp (by unfold Kb; omega) (by omega) (by omega)
    show Xa (m.1, j7 m.2.1 i (j7 m.2.1[i] k (kd, (0 : Int), (0 : Int), 1 + q, ())), ()) = true
    unfold Xa
    simp only [jd, decide_eq_true_eq, j9]
    exact ⟨⟨hk', hL⟩, KW hall (QZ hrow (DF hd))⟩
   ·rw [Ea h2]
    simp only [y8]
    exact .inr ⟨_, z - 1, by omega, rfl, c4, m, rfl, by omega, hc4, hm, hmk⟩
  ·rw [Ea h1]
   have : z = 0 := by omega
   exact .inl ⟨_, rfl, c', m, rfl, hc', hm, hmk⟩) x (((), (keys : Int), (), (), (x : Int), ()), (c2, ((0 : Int), ([] : List (List Ba)), ()), m1, ())) ⟨c2, m1, rfl, by omega, hc2, hm1, hmk⟩
 obtain ⟨r, e, c', m, rfl, hc', hm, hmk'⟩ := step
 unfold Ss
 erw [e]
 exact ⟨c', m, rfl, hc', hm, hmk'⟩
theorem HJ {α S : Type} {g : Nat → S → α → S} {p : S → Prop} : ∀ (xs : List α) (k : Nat) (s : S), p s → (∀ j s x, x ∈ xs → p s → p (g j s x)) → p (Jd g k s xs)
 | [], _, _, h, _ => h
 | x :: r, k, s, h, hg => HJ r (k + 1) (g k s x) (hg k s x (by simp) h) fun j s y hy => hg j s y (by simp [hy])
def Q7 (u : Int) : Prop := (0 ≤ u ∧ u < 16) ∧ Nd u 0 = 1
theorem Saj {nl j i : Nat} : ∀ {row : List Ba} {u : Int}, Q7 u → (∀ a ∈ row, Mc nl j a = true) → Q7 (Cl u i row) := by
 have key : ∀ (row : List Ba) (u : Int), Q7 u → (∀ a ∈ row, Mc nl j a = true) → Q7 (row.foldl Gt u) := by
  intro row
  induction row with
  | nil => intro u h _; exact h
  | cons a row ih =>
   intro u h ha
   have := DQ (u := u) (nl := nl) (i := 0) (j := j) h.1 (by omega) (ha a (by simp))
   exact ih (Gt u a) ⟨this.1, this.2 h.2⟩ fun x hx => ha x (by simp [hx])
 intro row u h ha
 unfold Cl
 cases (Nd u (i : Int) == 1) with
 | true => exact key row u h ha
 | false => exact h
theorem QP {m : Aa} (hm : Tg m) {row : List Ba} (hr : row ∈ m.2.1) : ∃ j, ∀ a ∈ row, Mc m.2.1.length j a = true := by
 obtain ⟨j, hj, rfl⟩ := qs.1 hr
 refine ⟨j, fun a ha => ?_⟩
 obtain ⟨k, hk, rfl⟩ := qs.1 ha
 exact hm.act j hj k hk
theorem Cab {m : Aa} (hm : Tg m) : Hz m > 0 := by
 have h : Q7 (Hz m) := by
  unfold Hz
  refine HJ m.2.1 0 1 ⟨by omega, by decide⟩ fun _ u _ _ hu => ?_
  unfold SB
  refine HJ m.2.1 0 u hu fun i u row hr hu => ?_
  obtain ⟨j, hj⟩ := QP hm hr
  exact Saj hu hj
 have h2 := h.2
 rcases Int.lt_or_eq_of_le h.1.1 with h3 | h3
 ·exact h3
 ·rw [← h3] at h2
  exact absurd h2 (by decide)
def Br : Ba := (1, 0, 0, 0, ())
def EK (u : Int) (i : Nat) (row : List Ba) : List Ba := Qc (fun k r => cond (Nd u (i : Int) == 0) (j7 r k Br) r) row.length row
def SV (u : Int) (i : Nat) (row : List Ba) (k : Nat) : List Ba := Qc (fun k r => cond (Nd u (i : Int) == 0) (j7 r k Br) r) k row
theorem FK (u : Int) (i : Nat) (row : List Ba) : ∀ k, (SV u i row k).length = row.length :=
 AD (p := fun _ (r : List Ba) => r.length = row.length) rfl (fun k s hs => by cases (Nd u (i : Int) == 0) <;> simpa using hs)
theorem Nad (u : Int) (i : Nat) (row : List Ba) : (EK u i row).length = row.length := FK u i row row.length
theorem K3 {u : Int} {i : Nat} {row : List Ba} (h : (Nd u (i : Int) == 0) = false) : ∀ k, SV u i row k = row :=
 AD (p := fun _ r => r = row) rfl (fun k s hs => by rw [h]; exact hs)
def Tr : Aa := (0, [], ())
theorem JI (u keys n : Int) (i : Nat) (L : List (List Ba)) (row : List Ba) (hr : row.length ≤ 1048576) :
 Bg (((), (), u, (i : Int), row, (L, (i : Int), row, row), n, (i : Int), (row.length : Int), 0, ()), (Tr, (keys, (L, (i : Int), row, row), ()), ())) =
  some (.inl (((), (), u, (L, (i : Int), row, EK u i row), n, (i : Int), ()), (Tr, (keys, (L, (i : Int), row, EK u i row), ()), ()))) := by
 unfold Bg
 have := Bm (step := fun x : (Unit × Unit × Int × Int × List Ba × (List (List Ba) × Int × List Ba × List Ba) × Int × Int × Int × Int × Unit) × Aa × (Int × (List (List Ba) × Int × List Ba × List Ba) × Unit) × Unit =>
  Ql x.1.1 x.1.2.1 x.1.2.2.1 x.1.2.2.2.1 x.1.2.2.2.2.1 x.1.2.2.2.2.2.1 x.1.2.2.2.2.2.2.1 x.1.2.2.2.2.2.2.2.1 x.1.2.2.2.2.2.2.2.2.1 x.1.2.2.2.2.2.2.2.2.2.1 x.2.1 x.2.2.1) row.length (by omega)
  (fun k r => cond (Nd u (i : Int) == 0) (j7 r k Br) r) row
  (fun r k => (((), (), u, (i : Int), r, (L, (i : Int), row, r), n, (i : Int), (row.length : Int), k, ()), (Tr, (keys, (L, (i : Int), row, r), ()), ())))
  (fun r => .inl (((), (), u, (L, (i : Int), row, r), n, (i : Int), ()), (Tr, (keys, (L, (i : Int), row, r), ()), ())))
  (fun k hk => by
   have hl := FK u i row k
   unfold SV at hl
   generalize Qc (fun k r => cond (Nd u (i : Int) == 0) (j7 r k Br) r) k row = r at *
   simp only [Ql]
   rw [Ca (by omega), LA u (by omega)]
   simp only [y3, jb]
   cases (Nd u (i : Int) == 0) with
   | false => rfl
   | true =>
    simp only [y3]
    rw [Rg, Ca (by omega)]
    simp only [y3, jo, je (show k < r.length by omega), jb]
    rfl) (by
   simp only [Ql]
   rw [Ea (by omega)]
   rfl)
 exact this
theorem PU {m : Aa} {u : Int} {keys : Int} {i : Nat} {L : List (List Ba)} (hi : i < L.length) (hr : (L[i].length : Int) = m.1) (hk : m.1 ≤ 32) :
 Nh (((), (), (), u, (i : Int), 0, ()), (m, Tr, (keys, L, ()), ())) = some (.inl (((), (), (), u, (i : Int), ()), (m, Tr, (keys, j7 L i (EK u i L[i]), ()), ()))) := by
 unfold Nh
 cases hb : (Nd u (i : Int) == 0) with
 | false =>
  have e : EK u i L[i] = L[i] := K3 hb _
  rw [e, List.set_getElem_self]
  have : Kh () () () u (i : Int) 0 m Tr (keys, L, ()) = some (.inr (.inl (((), (), (), u, (i : Int), ()), (m, Tr, (keys, L, ()), ())))) := by
   simp only [Kh]
   rw [Ca (show (0 : Int) ≤ (i : Int) by omega), show Lk .i64 (Mu .i64 u (i : Int)) 1 = Nd u (i : Int) from rfl, hb]
   cases decide (0 < m.1) <;> rfl
  rw [Wd this]
  rfl
 | true =>
  have := Bm (step := fun x : (Unit × Unit × Unit × Int × Int × Int × Unit) × Aa × Aa × Aa × Unit =>
   Kh x.1.1 x.1.2.1 x.1.2.2.1 x.1.2.2.2.1 x.1.2.2.2.2.1 x.1.2.2.2.2.2.1 x.2.1 x.2.2.1 x.2.2.2.1) L[i].length (by omega)
   (fun k r => cond (Nd u (i : Int) == 0) (j7 r k Br) r) L[i]
   (fun r k => (((), (), (), u, (i : Int), k, ()), (m, Tr, (keys, j7 L i r, ()), ())))
   (fun r => .inl (((), (), (), u, (i : Int), ()), (m, Tr, (keys, j7 L i r, ()), ())))
   (fun k hk => by
    have hl := FK u i L[i] k
    unfold SV at hl
    generalize Qc (fun k r => cond (Nd u (i : Int) == 0) (j7 r k Br) r) k L[i] = r at *
    simp only [Kh]
    rw [Ca (show (k : Int) < m.1 by omega), Ca (show (0 : Int) ≤ (i : Int) by omega), show Lk .i64 (Mu .i64 u (i : Int)) 1 = Nd u (i : Int) from rfl, hb]
    simp only [y3]
    rw [Rg, Ca (by rw [j9]; exact hi)]
    simp only [y3, jo]
    rw [List.getElem?_set_self hi]
    simp only [jb]
    rw [Rg, Ca (by omega)]
    simp only [y3, je (show k < r.length by omega), jb, List.set_set]
    rfl) (by
    simp only [Kh]
    rw [Ea (by omega)]
    rfl)
  rw [List.set_getElem_self] at this
  exact this
def Dj (u : Int) (i : Nat) (L : List (List Ba)) : List (List Ba) := j7 L i (EK u i (L.getD i []))
def MD (m : Aa) (L : List (List Ba)) : Prop := L.length = m.2.1.length ∧ ∀ i (hi : i < L.length), (L[i].length : Int) = m.1
theorem KC {α : Type} {L : List α} {i : Nat} {z : α} (h : i < L.length) : L.getD i z = L[i] := by
 rw [qg, je h]; rfl
theorem KT {m : Aa} {u : Int} {i : Nat} {L : List (List Ba)} (h : MD m L) : MD m (Dj u i L) := by
 unfold Dj
 refine ⟨by rw [j9]; exact h.1, fun j hj => ?_⟩
 have hj' : j < L.length := by rwa [j9] at hj
 rw [List.getElem_set]
 split
 ·rename_i e
  subst e
  rw [Nad, KC hj']
  exact h.2 _ hj'
 ·exact h.2 j hj'
theorem QM (m : Aa) (_ : DI La m) (hz : Dc La m ≤ Ma) : ∃ w, Er m = some (w, ()) ∧ Cf m = some (w, ()) ∧ Dc La w ≤ Ma := by
 have h20 : Ma = 1048576 := rfl
 unfold Er Cf
 rw [CA m hz, Qn m hz, Vg m hz, KK m hz, ZA m hz]
 cases hv : Xa m with
 | false =>
  refine ⟨m, ?_, rfl, hz⟩
  simp only [jb, y8]
  have : Jh () () () 0 0 m Tr m = some (.inr (.inl (((), (), ()), (Tr, m, ())))) := by
   simp only [Jh]
   cases decide (0 < (m.2.1.length : Int)) <;> rfl
  unfold Pj
  show j4 (Ib _ (((), (), (), 0, 0, ()), (m, Tr, m, ()))) _ = _
  rw [Wd this]
  rfl
 | true =>
  have hm := Yc hv
  have hu := Cab hm
  have hl2 := hm.l2
  have hk2 := hm.k2
  have h0 : MD m m.2.1 := ⟨rfl, hm.row⟩
  have hinv : ∀ n, MD m (Qc (Dj (Hz m)) n m.2.1) := AD (p := fun _ L => MD m L) h0 fun k s hs => KT hs
  simp only [jb, jg, y8, y3]
  generalize Hz m = u at *
  have s1 := Bm (step := fun x : (Unit × Unit × Unit × Int × Int × Unit) × Aa × Aa × Aa × Unit => Jh x.1.1 x.1.2.1 x.1.2.2.1 x.1.2.2.2.1 x.1.2.2.2.2.1 x.2.1 x.2.2.1 x.2.2.2.1) m.2.1.length (by omega)
   (Dj u) m.2.1 (fun L k => (((), (), (), u, k, ()), (m, Tr, (m.1, L, ()), ()))) (fun L => .inl (((), (), ()), (Tr, (m.1, L, ()), ()))) (fun k hk => by
    have hI := hinv k
    generalize Qc (Dj u) k m.2.1 = L at *
    have hkL : k < L.length := by rw [hI.1]; exact hk
    simp only [Jh]
    rw [Ca (by omega), Ca hu]
    simp only [y3]
    have := PU (m := m) (u := u) (keys := m.1) hkL (hI.2 k hkL) hk2
    rw [show Nh (((), (), (), u, (k : Int), 0, ()), (m, (Tr.1, Tr.2.1, ()), (m.1, L, ()), ())) = _ from this]
    unfold Dj
    rw [KC hkL]
    rfl) (by
    simp only [Jh]
    rw [Ea (by omega)]
    rfl)
  have s2 := Bm (step := fun x : (Unit × Unit × Int × List (List Ba) × Int × Int × Unit) × Aa × Aa × Unit => Cg x.1.1 x.1.2.1 x.1.2.2.1 x.1.2.2.2.1 x.1.2.2.2.2.1 x.1.2.2.2.2.2.1 x.2.1 x.2.2.1) m.2.1.length (by omega)
   (Dj u) m.2.1 (fun L k => (((), (), u, L, (m.2.1.length : Int), k, ()), (Tr, (m.1, L, ()), ()))) (fun L => .inl (((), (), ()), (Tr, (m.1, L, ()), ()))) (fun k hk => by
    have hI := hinv k
    generalize Qc (Dj u) k m.2.1 = L at *
    have hkL : k < L.length := by rw [hI.1]; exact hk
    have hrow := hI.2 k hkL
    simp only [Cg]
    rw [Ca (by omega), Rg, Ca hkL]
    simp only [y3, jo, je hkL, jb]
    have := JI u m.1 (m.2.1.length : Int) k L L[k] (by omega)
    rw [show Bg (((), (), u, (k : Int), L[k], (L, (k : Int), L[k], L[k]), (m.2.1.length : Int), (k : Int), (L[k].length : Int), 0, ()), ((Tr.1, Tr.2.1, ()), (m.1, (L, (k : Int), L[k], L[k]), ()), ())) = _ from this]
    unfold Dj
    rw [KC hkL]
    rfl) (by
    simp only [Cg]
    rw [Ea (by omega)]
    rfl)
  have hI := hinv m.2.1.length
  generalize Qc (Dj u) m.2.1.length m.2.1 = L at *
  refine ⟨(m.1, L, ()), ?_, ?_, ?_⟩
  ·unfold Pj
   erw [s1]
   rfl
  ·unfold Nj
   erw [s2]
   rfl
  ·have h1 : Dc La (m.1, L, ()) = 0 + (Dc (.sl (.sl Cd)) L + 0) := rfl
   have h2 := QL (e := .sl Cd) (c := 32) (w := L) fun x hx => by
    obtain ⟨j, hj, rfl⟩ := qs.1 hx
    have := hI.2 j hj
    rw [QK]
    omega
   rw [hI.1] at h2
   have : 33 * m.2.1.length ≤ 33 * 4 := Nat.mul_le_mul_left _ hl2
   omega
def Jz (a : Ba) : Nat := a.2.2.2.1.toNat
def AG (u : Nat) (a : Ba) : Nat := cond (Ej a) (u ||| 2 ^ Jz a) u
def Nv (u i : Nat) (row : List Ba) : Nat := cond (u.testBit i) (row.foldl AG u) u
def JH (u : Nat) (L : List (List Ba)) : Nat := Jd (fun i u row => Nv u i row) 0 u L
def Sj (u v : Nat) : Prop := ∀ i, u.testBit i = true → v.testBit i = true
theorem Sj.refl (u : Nat) : Sj u u := fun _ h => h
theorem Sj.trans {u v w : Nat} (h : Sj u v) (h' : Sj v w) : Sj u w := fun i hi => h' i (h i hi)
theorem Sj.anti {u v : Nat} (h : Sj u v) (h' : Sj v u) : u = v := Nat.eq_of_testBit_eq fun i => by
 cases h1 : u.testBit i <;> cases h2 : v.testBit i <;> try rfl
 ·rw [h' i h2] at h1; exact h1.symm
 ·rw [h i h1] at h2; exact h2
theorem D3 (u : Nat) (a : Ba) : Sj u (AG u a) := fun i hi => by
 unfold AG
 cases Ej a with
 | false => exact hi
 | true => simp only [y3, Nat.testBit_or, hi, Bool.true_or]
theorem JJ : ∀ (row : List Ba) (u : Nat), Sj u (row.foldl AG u)
 | [], u => Sj.refl u
 | a :: row, u => (D3 u a).trans (JJ row _)
theorem MT (u i : Nat) (row : List Ba) : Sj u (Nv u i row) := by
 unfold Nv
 cases u.testBit i with
 | false => exact Sj.refl u
 | true => exact JJ row u
theorem IJ : ∀ (L : List (List Ba)) (k u : Nat), Sj u (Jd (fun i u row => Nv u i row) k u L)
 | [], _, u => Sj.refl u
 | row :: L, k, u => (MT u k row).trans (IJ L (k + 1) _)
theorem GX : ∀ (row : List Ba) (u : Nat), row.foldl AG u = u → ∀ a ∈ row, Ej a = true → u.testBit (Jz a) = true
 | [], _, _, a, ha, _ => by simp at ha
 | b :: row, u, h, a, ha, ht => by
  have h1 : AG u b = u := Sj.anti (by have := JJ row (AG u b); rw [List.foldl_cons] at h; rw [h] at this; exact this) (D3 u b)
  rcases jq.1 ha with rfl | ha
  ·unfold AG at h1
   rw [ht] at h1
   simp only [y3] at h1
   rw [← h1, Nat.testBit_or, Nat.testBit_two_pow]
   simp
  ·refine GX row u ?_ a ha ht
   rw [List.foldl_cons, h1] at h
   exact h
theorem W2 : ∀ (L : List (List Ba)) (k u : Nat), Jd (fun i u row => Nv u i row) k u L = u → ∀ i (hi : i < L.length), u.testBit (k + i) = true → ∀ a ∈ L[i], Ej a = true → u.testBit (Jz a) = true
 | [], _, _, _, i, hi, _, _, _, _ => by simp at hi
 | row :: L, k, u, h, i, hi, hb, a, ha, ht => by
  have h1 : Nv u k row = u := Sj.anti (by have := IJ L (k + 1) (Nv u k row); rw [Jd] at h; rw [h] at this; exact this) (MT u k row)
  cases i with
  | zero =>
   rw [q9] at hb
   unfold Nv at h1
   rw [hb] at h1
   exact GX row u h1 a ha ht
  | succ i =>
   refine W2 L (k + 1) u ?_ i (by simpa using hi) (by rw [ju, Nat.add_comm 1 i]; exact hb) a ha ht
   rw [Jd, h1] at h
   exact h
def JR (u : Nat) : Nat := (yx 4).countP fun i => u.testBit i
theorem Vaq : ∀ u v : Fin 16, (∀ i : Fin 4, u.val.testBit i.val = true → v.val.testBit i.val = true) → u ≠ v → JR u.val < JR v.val := by decide +kernel
theorem Uaq : ∀ n : Fin 5, ∀ u : Fin 16, u.val < 2 ^ n.val → JR u.val ≤ n.val := by decide +kernel
theorem J3 {f : Nat → Nat} {n : Nat} (hn : n ≤ 4) (hs : ∀ u, Sj u (f u)) (hb : ∀ u, u < 2 ^ n → f u < 2 ^ n) (h1 : 1 ≤ n) : ∀ j, (Qc (fun _ u => f u) j 1 < 2 ^ n) ∧ (f (Qc (fun _ u => f u) j 1) = Qc (fun _ u => f u) j 1 ∨ j + 1 ≤ JR (Qc (fun _ u => f u) j 1))
 | 0 => ⟨Nat.one_lt_two_pow (by omega), .inr (by show 1 ≤ JR 1; decide)⟩
 | j + 1 => by
  obtain ⟨h2, h3⟩ := J3 hn hs hb h1 j
  have e : Qc (fun _ u => f u) (j + 1) 1 = f (Qc (fun _ u => f u) j 1) := rfl
  rw [e]
  refine ⟨hb _ h2, ?_⟩
  by_cases hf : f (Qc (fun _ u => f u) j 1) = Qc (fun _ u => f u) j 1
  ·exact .inl (by rw [hf]; exact hf)
  ·right
   have h4 : j + 1 ≤ JR (Qc (fun _ u => f u) j 1) := h3.resolve_left hf
   have h16 : 2 ^ n ≤ 2 ^ 4 := Nat.pow_le_pow_right (by omega) hn
   have hb2 := hb _ h2
   have := Vaq ⟨Qc (fun _ u => f u) j 1, by omega⟩ ⟨f (Qc (fun _ u => f u) j 1), by omega⟩ (fun i hi => hs _ _ hi) (by intro he; exact hf (congrArg Fin.val he).symm)
   simp only at this
   omega
theorem E7 {f : Nat → Nat} {n : Nat} (hn : n ≤ 4) (hs : ∀ u, Sj u (f u)) (hb : ∀ u, u < 2 ^ n → f u < 2 ^ n) (h1 : 1 ≤ n) : f (Qc (fun _ u => f u) n 1) = Qc (fun _ u => f u) n 1 := by
 obtain ⟨h2, h3⟩ := J3 hn hs hb h1 n
 rcases h3 with h3 | h3
 ·exact h3
 ·have h16 : 2 ^ n ≤ 2 ^ 4 := Nat.pow_le_pow_right (by omega) hn
  have := Uaq ⟨n, by omega⟩ ⟨Qc (fun _ u => f u) n 1, by omega⟩ h2
  simp only at this
  omega
theorem Xaj {nl j : Nat} {a : Ba} (h : Mc nl j a = true) (ht : Ej a = true) : a.2.2.2.1 = ((Jz a : Nat) : Int) ∧ Jz a < nl ∧ Jz a < 4 := by
 have := TG h (by simp only [Ej, qw, beq_iff_eq] at ht; omega)
 unfold Jz
 omega
theorem Haj {nl j : Nat} (hl : nl ≤ 4) {a : Ba} (h : Mc nl j a = true) {u : Nat} (hu : u < 2 ^ nl) : Gt (u : Int) a = ((AG u a : Nat) : Int) ∧ AG u a < 2 ^ nl := by
 unfold Gt AG
 cases ht : Ej a with
 | false => exact ⟨rfl, hu⟩
 | true =>
  obtain ⟨h1, h2, h3⟩ := Xaj h ht
  have h16 := QY hl
  have h5 : 2 ^ Jz a < 2 ^ nl := Nat.pow_lt_pow_right (by omega) h2
  simp only [y3]
  rw [h1, show (1 : Int) = ((1 : Nat) : Int) from rfl, GH (by rw [ye]; exact ZF (by omega)) (by omega), Nat.one_shiftLeft, IL (by omega) (by omega)]
  exact ⟨rfl, Nat.or_lt_two_pow hu h5⟩
theorem SS {nl : Nat} (hl : nl ≤ 4) : ∀ (row : List Ba) {u : Nat}, u < 2 ^ nl → (∀ a ∈ row, ∃ j, Mc nl j a = true) →
 row.foldl Gt (u : Int) = ((row.foldl AG u : Nat) : Int) ∧ row.foldl AG u < 2 ^ nl
 | [], u, hu, _ => ⟨rfl, hu⟩
 | a :: row, u, hu, h => by
  obtain ⟨j, hj⟩ := h a (by simp)
  obtain ⟨h1, h2⟩ := Haj hl hj hu
  rw [List.foldl_cons, List.foldl_cons, h1]
  exact SS hl row h2 fun x hx => h x (by simp [hx])
theorem Oad {nl : Nat} (hl : nl ≤ 4) {row : List Ba} {u i : Nat} (hi : i ≤ 64) (hu : u < 2 ^ nl) (h : ∀ a ∈ row, ∃ j, Mc nl j a = true) :
 Cl (u : Int) i row = ((Nv u i row : Nat) : Int) ∧ Nv u i row < 2 ^ nl := by
 have h16 := QY hl
 unfold Cl Nv
 rw [Cx (by omega) hi]
 cases u.testBit i with
 | false => exact ⟨rfl, hu⟩
 | true => exact SS hl row hu h
theorem BT {nl : Nat} (hl : nl ≤ 4) : ∀ (L : List (List Ba)) (k : Nat) {u : Nat}, k + L.length ≤ 64 → u < 2 ^ nl → (∀ row ∈ L, ∀ a ∈ row, ∃ j, Mc nl j a = true) →
 Jd (fun i u row => Cl u i row) k (u : Int) L = ((Jd (fun i u row => Nv u i row) k u L : Nat) : Int) ∧ Jd (fun i u row => Nv u i row) k u L < 2 ^ nl
 | [], _, u, _, hu, _ => ⟨rfl, hu⟩
 | row :: L, k, u, hk, hu, h => by
  simp only [jx] at hk
  obtain ⟨h1, h2⟩ := Oad hl (i := k) (by omega) hu (h row (by simp))
  simp only [Jd]
  rw [h1]
  exact BT hl L (k + 1) (by omega) h2 fun r hr => h r (by simp [hr])
theorem Kam {m : Aa} (hm : Tg m) : ∀ row ∈ m.2.1, ∀ a ∈ row, ∃ j, Mc m.2.1.length j a = true := fun row hr a ha => by
 obtain ⟨j, hj⟩ := QP hm hr
 exact ⟨j, hj a ha⟩
theorem HY {m : Aa} (hm : Tg m) {u : Nat} (hu : u < 2 ^ m.2.1.length) : SB (u : Int) m.2.1 = ((JH u m.2.1 : Nat) : Int) ∧ JH u m.2.1 < 2 ^ m.2.1.length :=
 BT hm.l2 m.2.1 0 (by have := hm.l2; omega) hu (Kam hm)
def Oat (L : List (List Ba)) (n : Nat) : Nat := Qc (fun _ u => JH u L) n 1
def Th (m : Aa) : Nat := Oat m.2.1 m.2.1.length
theorem V0 {S : Type} (f : S → S) : ∀ (n : Nat) (s : S), Qc (fun _ u => f u) (n + 1) s = Qc (fun _ u => f u) n (f s)
 | 0, _ => rfl
 | n + 1, s => by
  show f (Qc (fun _ u => f u) (n + 1) s) = f (Qc (fun _ u => f u) n (f s))
  rw [V0 f n s]
theorem UT {m : Aa} (hm : Tg m) : ∀ (l : List (List Ba)) (k : Nat) {u : Nat}, u < 2 ^ m.2.1.length →
 Jd (fun _ u (_ : List Ba) => SB u m.2.1) k (u : Int) l = ((Qc (fun _ u => JH u m.2.1) l.length u : Nat) : Int) ∧ Qc (fun _ u => JH u m.2.1) l.length u < 2 ^ m.2.1.length
 | [], _, u, hu => ⟨rfl, hu⟩
 | x :: l, k, u, hu => by
  obtain ⟨h1, h2⟩ := HY hm hu
  simp only [Jd, jx]
  rw [h1, V0]
  exact UT hm l (k + 1) h2
theorem Fae {m : Aa} (hm : Tg m) : Hz m = ((Th m : Nat) : Int) ∧ Th m < 2 ^ m.2.1.length :=
 UT hm m.2.1 0 (u := 1) (Nat.one_lt_two_pow (by have := hm.l1; omega))
theorem X2 (L : List (List Ba)) (u : Nat) : Sj u (JH u L) := IJ L 0 u
theorem Eae {m : Aa} (hm : Tg m) : JH (Th m) m.2.1 = Th m :=
 E7 (f := fun u => JH u m.2.1) hm.l2 (fun u => X2 _ u) (fun u hu => (HY hm hu).2) hm.l1
theorem UX {f : Nat → Nat} (hs : ∀ u, Sj u (f u)) (u : Nat) : ∀ n, Sj u (Qc (fun _ u => f u) n u)
 | 0 => Sj.refl u
 | n + 1 => (UX hs u n).trans (hs _)
theorem CZ (m : Aa) : (Th m).testBit 0 = true := UX (f := fun u => JH u m.2.1) (fun u => X2 _ u) 1 _ 0 rfl
theorem XZ {m : Aa} (hm : Tg m) {i : Nat} (hi : i < m.2.1.length) (hb : (Th m).testBit i = true) {a : Ba} (ha : a ∈ m.2.1[i]) (ht : Ej a = true) : (Th m).testBit (Jz a) = true :=
 W2 m.2.1 0 (Th m) (Eae hm) i hi (by rw [jt]; exact hb) a ha ht
theorem PI {m : Aa} (hv : Xa m = true) (hz : Dc La m ≤ Ma) : Cf m = some ((m.1, Qc (Dj (Hz m)) m.2.1.length m.2.1, ()), ()) := by
 have h20 : Ma = 1048576 := rfl
 unfold Cf
 rw [Qn m hz, Vg m hz, ZA m hz, hv]
 have hm := Yc hv
 have hl2 := hm.l2
 have hk2 := hm.k2
 have h0 : MD m m.2.1 := ⟨rfl, hm.row⟩
 have hinv : ∀ n, MD m (Qc (Dj (Hz m)) n m.2.1) := AD (p := fun _ L => MD m L) h0 fun k s hs => KT hs
 simp only [jb, jg, y8, y3]
 generalize Hz m = u at *
 have s2 := Bm (step := fun x : (Unit × Unit × Int × List (List Ba) × Int × Int × Unit) × Aa × Aa × Unit => Cg x.1.1 x.1.2.1 x.1.2.2.1 x.1.2.2.2.1 x.1.2.2.2.2.1 x.1.2.2.2.2.2.1 x.2.1 x.2.2.1) m.2.1.length (by omega)
  (Dj u) m.2.1 (fun L k => (((), (), u, L, (m.2.1.length : Int), k, ()), (Tr, (m.1, L, ()), ()))) (fun L => .inl (((), (), ()), (Tr, (m.1, L, ()), ()))) (fun k hk => by
   have hI := hinv k
   generalize Qc (Dj u) k m.2.1 = L at *
   have hkL : k < L.length := by rw [hI.1]; exact hk
   have hrow := hI.2 k hkL
   simp only [Cg]
   rw [Ca (by omega), Rg, Ca hkL]
   simp only [y3, jo, je hkL, jb]
   have := JI u m.1 (m.2.1.length : Int) k L L[k] (by omega)
   rw [show Bg (((), (), u, (k : Int), L[k], (L, (k : Int), L[k], L[k]), (m.2.1.length : Int), (k : Int), (L[k].length : Int), 0, ()), ((Tr.1, Tr.2.1, ()), (m.1, (L, (k : Int), L[k], L[k]), ()), ())) = _ from this]
   unfold Dj
   rw [KC hkL]
   rfl) (by
   simp only [Cg]
   rw [Ea (by omega)]
   rfl)
 unfold Nj
 erw [s2]
 rfl
def HB (u : Nat) : Nat → List (List Ba) → List (List Ba)
 | _, [] => []
 | k, row :: L => cond (u.testBit k) row (row.map fun _ => Br) :: HB u (k + 1) L
theorem Xr (u : Nat) : ∀ (L : List (List Ba)) (k : Nat), (HB u k L).length = L.length
 | [], _ => rfl
 | _ :: L, k => by simp only [HB, jx, Xr u L]
theorem LL (u : Nat) : ∀ (L : List (List Ba)) (k i : Nat) (hi : i < L.length), (HB u k L)[i]'(by rw [Xr]; exact hi) = cond (u.testBit (k + i)) L[i] (L[i].map fun _ => Br)
 | row :: L, k, 0, _ => rfl
 | row :: L, k, i + 1, hi => by
  simp only [HB, List.getElem_cons_succ]
  rw [LL u L (k + 1) i (by simpa using hi), show k + 1 + i = k + (i + 1) by omega]
theorem AX {α : Type} (z : α) : ∀ (row : List α) (n : Nat), n ≤ row.length → Qc (fun k r => j7 r k z) n row = (row.take n).map (fun _ => z) ++ row.drop n
 | row, 0, _ => by simp [Qc]
 | row, n + 1, h => by
  show j7 (Qc (fun k r => j7 r k z) n row) n z = _
  rw [AX z row n (by omega), List.set_append_right _ _ (by simp; omega), ST (show n < row.length by omega), yu]
  have hd : row.drop n = row[n] :: row.drop (n + 1) := List.drop_eq_getElem_cons (by omega)
  rw [hd]
  have : n - (List.map (fun _ => z) (List.take n row)).length = 0 := by simp; omega
  rw [this, List.set_cons_zero]
  simp
theorem Raj {u i : Nat} (hu : u < 16) (hi : i ≤ 64) (row : List Ba) : EK (u : Int) i row = cond (u.testBit i) row (row.map fun _ => Br) := by
 have hb : (Nd (u : Int) (i : Int) == 0) = !(u.testBit i) := by
  rw [← Cx (by omega) hi]
  have := MX (a := u >>> i) (b := 1) (by
   have : u >>> i ≤ u := by rw [Nat.shiftRight_eq_div_pow]; exact Nat.div_le_self _ _
   omega) (by decide)
  have e : Nd (u : Int) (i : Int) = (((u >>> i) &&& 1 : Nat) : Int) := by
   unfold Nd
   rw [TX u hi]
   exact this
  rw [e, Nat.and_one_is_mod]
  have := Nat.mod_two_eq_zero_or_one (u >>> i)
  rcases this with h | h <;> rw [h] <;> rfl
 cases ht : u.testBit i with
 | true =>
  rw [ht] at hb
  exact K3 hb _
 | false =>
  rw [ht] at hb
  unfold EK
  rw [hb]
  show Qc (fun k r => j7 r k Br) row.length row = _
  rw [AX Br row row.length (jp _)]
  simp
theorem PP {u : Nat} (hu : u < 16) (L : List (List Ba)) (hl : L.length ≤ 64) : ∀ n, n ≤ L.length → Qc (Dj (u : Int)) n L = (HB u 0 L).take n ++ L.drop n
 | 0, _ => by simp [Qc]
 | n + 1, h => by
  show Dj (u : Int) n (Qc (Dj (u : Int)) n L) = _
  rw [PP hu L hl n (by omega)]
  have hlen : ((HB u 0 L).take n).length = n := by rw [List.length_take, Xr]; omega
  have hd : L.drop n = L[n] :: L.drop (n + 1) := List.drop_eq_getElem_cons (by omega)
  have hg : ((HB u 0 L).take n ++ L.drop n).getD n [] = L[n] := by
   rw [qg, List.getElem?_append_right (by omega), hlen, Nat.sub_self, hd]
   rfl
  unfold Dj
  rw [hg, List.set_append_right _ _ (by omega), hlen, Nat.sub_self, hd, List.set_cons_zero, Raj hu (by omega), ST (show n < (HB u 0 L).length by rw [Xr]; omega), LL u L 0 n (by omega), jt, qy]
  rfl
def ED (u : Nat) (m : Aa) : Aa := (m.1, HB u 0 m.2.1, ())
theorem ND {m : Aa} (hv : Xa m = true) (hz : Dc La m ≤ Ma) : Cf m = some (ED (Th m) m, ()) := by
 have hm := Yc hv
 obtain ⟨h1, h2⟩ := Fae hm
 have h16 := QY hm.l2
 have hl2 := hm.l2
 rw [PI hv hz, h1, PP (by omega) _ (by omega) _ (jp _), List.drop_length, List.append_nil, List.take_of_length_le (by rw [Xr]; exact jp _)]
 rfl
theorem Oaj {nl i : Nat} (hn : 1 ≤ nl) (hi : 1 ≤ i) : Mc nl i Br = true := by
 unfold Mc
 have h1 : Tb Br = true := by
  rw [Cb]; unfold Kb Br; simp
 rw [h1, show ((i : Int) == 0) = false by rw [beq_eq_false_iff_ne]; omega]
 simp only [Br, Bool.false_and, Bool.not_false, jl, yj, Bool.and_eq_false_iff, decide_eq_false_iff_not]
 exact .inr (Ea (by omega))
theorem Oaa {m : Aa} (hv : Xa m = true) {u : Nat} (h0 : u.testBit 0 = true) : Xa (ED u m) = true := by
 have hm := Yc hv
 have hl1 := hm.l1
 unfold Xa ED
 simp only [jd, decide_eq_true_eq, Xr]
 refine ⟨⟨⟨hm.k1, hm.k2⟩, hm.l1, hm.l2⟩, Ze.2 fun i hi => ?_⟩
 have hi' : i < m.2.1.length := by rwa [Xr] at hi
 rw [LL u m.2.1 0 i hi', jt]
 unfold Df
 cases hb : u.testBit i with
 | true =>
  simp only [y3, jd, beq_iff_eq]
  exact ⟨hm.row i hi', Ze.2 fun k hk => hm.act i hi' k hk⟩
 | false =>
  simp only [y8, jd, beq_iff_eq, yp]
  refine ⟨hm.row i hi', Ze.2 fun k hk => ?_⟩
  rw [List.getElem_map]
  have hi0 : i ≠ 0 := by
   rintro rfl
   rw [h0] at hb; simp at hb
  exact Oaj hl1 (by omega)
structure LD (e : Sa) : Prop where
 km : Xa e.1 = true
 m4 : e.2.1.length ≤ 4
 hd : Pe e.2.2.2.1 = true
 mac : ∀ x ∈ e.2.1, Wg x = true
 hin : ∀ x ∈ e.2.2.2.1, Ii e.1.1 e.1.2.1.length x = true
 st : Jq e.1.2.1.length e.2.2.1 e.2.2.2.2.1
theorem Uab {α : Type} {p : α → Bool} {l : List α} : Md (fun _ x => p x) 0 l = true ↔ ∀ x ∈ l, p x = true := by
 rw [Ze]
 constructor
 ·intro h x hx
  obtain ⟨i, hi, rfl⟩ := qj hx
  exact h i hi
 ·intro h j hj
  exact h _ (qi hj)
theorem P0 (e : Sa) : Am e = true ↔ LD e := by
 unfold Am
 simp only [jd, decide_eq_true_eq, beq_iff_eq, Uab]
 constructor
 ·rintro ⟨h1, h2, h3, h4, h5, h6, h7, h8⟩
  exact ⟨h1, h2, h3, h4, h5, ⟨h6.1, h6.2, h7, h8.1, h8.2⟩⟩
 ·rintro ⟨h1, h2, h3, h4, h5, h6⟩
  exact ⟨h1, h2, h3, h4, h5, ⟨h6.f0, h6.f1⟩, h6.f2, h6.o0, h6.o1⟩
theorem Saq {e : Sa} (h : LD e) : Dc Hb e ≤ Ma - 5 := by
 have h20 : Ma = 1048576 := rfl
 have h1 := (Ry h.km).z
 have hh := Bah h.hd
 have h2 : Dc (.sl (.sl Sg)) e.2.1 ≤ (8 + 1) * e.2.1.length := QL (e := .sl Sg) (c := 8) fun x hx => by
  have := h.mac x hx
  simp only [Wg, jd, decide_eq_true_eq] at this
  have e2 : Dc (.sl Sg) x = x.length := AI (e := Sg) rfl x
  omega
 have := h.m4
 have hm := Yc h.km
 have h3 : Dc La e.1 ≤ 200 := by
  have h1 : Dc La e.1 = 0 + (Dc (.sl (.sl Cd)) e.1.2.1 + 0) := rfl
  have h2 : Dc (.sl (.sl Cd)) e.1.2.1 ≤ (32 + 1) * ja e.1.2.1 := QL (e := .sl Cd) (c := 32) fun x hx => by
   obtain ⟨i, hi, rfl⟩ := qj hx
   rw [QK]
   have := hm.row i hi
   have := hm.k2
   omega
  have := hm.l2
  omega
 rw [Hw, Xx]
 omega
noncomputable def UB (e : Sa) (k : Nat) (b : Bool) : Ba :=
 cond b (Kn (Pi e.1.2.1 (Lh e.1 (Ji e.2.2.1 e.2.2.2.1) k) k)) (Gz (Pi e.1.2.1 (Lh e.1 (Ji e.2.2.1 e.2.2.2.1) k) k))
noncomputable def Hq (e : Sa) (k : Nat) (b : Bool) : Int × Int × Bool × Ba := So e.2.2.1 e.2.2.2.2.1 e.2.2.2.2.2.1 (UB e k b)
noncomputable def pH (e : Sa) (k : Nat) (b : Bool) : List Pa := jf e.2.2.2.1 [((k : Int), (Hq e k b).2.2.2, ())]
noncomputable def pE (e : Sa) (k : Nat) (b : Bool) : Sa := (e.1, e.2.1, (Hq e k b).1, pH e k b, (Hq e k b).2.1, (Hq e k b).2.2.1, ())
noncomputable def pM (e : Sa) (k : Nat) (b : Bool) : List Ga :=
 cond ((Hq e k b).2.2.2.1 == 9) (cond (decide ((Hq e k b).2.2.2.2.2.2.1 < ((ja e.2.1 : Nat) : Int))) (Daa (De (pH e k b)) (e.2.1.getD (Hq e k b).2.2.2.2.2.2.1.toNat [])) []) []
theorem Kac {nl i : Nat} {a : Ba} (h : Mc nl i a = true) (h1 : a.1 ≠ 1) : WE nl (Kn a) := by
 have ha := Pu h
 have hP := ha
 rw [Cb] at hP
 unfold Kb at hP
 unfold Kn Pg
 rw [ha]
 by_cases h67 : a.1 = 6 ∨ a.1 = 7
 ·have e : (true && ((a.1 == 6) || (a.1 == 7))) = true := by rcases h67 with h | h <;> rw [h] <;> rfl
  rw [e]
  have hn := YF h (by omega)
  rcases h67 with h6 | h7
  ·rw [h6]
   refine ⟨?_, by show (2 : Int) ≠ 1; decide, by show (2 : Int) ≠ 6; decide, by show (2 : Int) ≠ 7; decide, fun _ => ?_⟩
   ·rw [Cb]
    exact .inr (.inl ⟨rfl, rfl, .inl rfl, .inr (by show 1 ≤ a.2.2.1 ∧ a.2.2.1 ≤ 15; omega), .inr (by show a.2.2.1 ≠ 0; omega)⟩)
   ·show (0 : Int) < (nl : Int)
    omega
  ·rw [h7]
   refine ⟨?_, by show (3 : Int) ≠ 1; decide, by show (3 : Int) ≠ 6; decide, by show (3 : Int) ≠ 7; decide, fun _ => hn⟩
   rw [Cb]
   exact .inr (.inr (.inl ⟨.inl rfl, rfl, rfl, by show 1 ≤ a.2.2.2.1; omega, by show a.2.2.2.1 ≤ 3; omega⟩))
 ·have e : (true && ((a.1 == 6) || (a.1 == 7))) = false := by
   rw [jl, yq, beq_eq_false_iff_ne, beq_eq_false_iff_ne]; omega
  rw [e]
  exact ⟨ha, h1, fun h => h67 (.inl h), fun h => h67 (.inr h), fun hk => YF h hk⟩
structure Zak (e : Sa) (k : Nat) (b : Bool) : Prop where
 act : WE e.1.2.1.length (UB e k b)
 ah : WE e.1.2.1.length (Hq e k b).2.2.2
 hd : Pe (pH e k b) = true
 ok : LD (pE e k b)
 ml : (pM e k b).length ≤ 16
 mx : ∀ x ∈ pM e k b, x.2.1.length ≤ 56
theorem Naj {e : Sa} (h : LD e) {k : Nat} (hk : (k : Int) < e.1.1) (hn : ∀ y ∈ e.2.2.2.1, y.1 ≠ (k : Int)) (b : Bool) : Zak e k b := by
 have hm := Yc h.km
 have h1 := YS hm (Ji e.2.2.1 e.2.2.2.1) hk
 have h2 : WE e.1.2.1.length (UB e k b) := by
  cases b
  ·exact U3 h1.1 h1.2
  ·exact Kac h1.1 h1.2
 have h3 := Taa (c := e.2.2.2.2.2.1) hm.l2 h.st h2
 have h4 : Pe (pH e k b) = true := S8 h.hd (x := ((k : Int), (Hq e k b).2.2.2, ())) ⟨by show (0 : Int) ≤ (k : Int); omega, by have := hm.k2; show (k : Int) ≤ 31; omega, h3.2.act, h3.2.n1, h3.2.n6, h3.2.n7⟩ hn
 refine ⟨h2, h3.2, h4, ⟨h.km, h.m4, h4, h.mac, fun x hx => ?_, h3.1⟩, ?_, ?_⟩
 ·rcases jm.1 (show x ∈ e.2.2.2.1 ++ [((k : Int), (Hq e k b).2.2.2, ())] from hx) with hx | hx
  ·exact h.hin x hx
  ·simp only [jq, yz, or_false] at hx
   subst hx
   simp only [Ii, jd, yj, Bool.and_eq_false_iff, decide_eq_false_iff_not]
   refine ⟨by show ¬ (k : Int) ≥ e.1.1; omega, ?_⟩
   by_cases h9 : (Hq e k b).2.2.2.1 = 9
   ·exact .inl (by show ((Hq e k b).2.2.2.1 != 9) = false; simp [h9])
   ·exact .inr (Int.not_le.2 (h3.2.n h9))
 all_goals
  unfold pM
  cases (Hq e k b).2.2.2.1 == 9 with
  | false => simp
  | true =>
   simp only [y3]
   by_cases hl : (Hq e k b).2.2.2.2.2.2.1 < ((ja e.2.1 : Nat) : Int)
   ·rw [Ca hl]
    have h0 := Kz h3.2.act
    have hmem : (e.2.1.getD (Hq e k b).2.2.2.2.2.2.1.toNat []) ∈ e.2.1 := by
     have hlt : (Hq e k b).2.2.2.2.2.2.1.toNat < e.2.1.length := by
      have : (0 : Int) ≤ (Hq e k b).2.2.2.2.2.2.1 := h0
      omega
     rw [qg, je hlt, qx]
     exact qi hlt
    have hmc := h.mac _ hmem
    simp only [Wg, jd, decide_eq_true_eq] at hmc
    have := GY (De (pH e k b)) (e.2.1.getD (Hq e k b).2.2.2.2.2.2.1.toNat []) 0 ([], []) (by simp)
    simp only [y3]
    unfold Daa
    first
     | exact this.2
     | (have h5 := this.1; simp only [j8] at h5; omega)
   ·rw [Ea hl]; simp

def wo (l : List Pa) (i : Nat) : List Pa := jf (l.take i) (l.drop (i + 1))
theorem DZ (l : List Pa) (i : Nat) : (wo l i).Sublist l := by
 have h : (l.drop (i + 1)).Sublist (l.drop i) := List.drop_sublist_drop_left l (Nat.le_succ i)
 have h2 := List.Sublist.append (List.Sublist.refl (l.take i)) h
 rw [List.take_append_drop] at h2
 exact h2
def rE (e : Sa) (i : Nat) : Sa := (e.1, e.2.1, e.2.2.1, wo e.2.2.2.1 i, e.2.2.2.2)
theorem Waq {e : Sa} (h : LD e) (i : Nat) : LD (rE e i) :=
 ⟨h.km, h.m4, Iac h.hd (DZ _ i), h.mac, fun x hx => h.hin x ((DZ _ i).subset hx), h.st⟩


















theorem Z7 {a : List Int} (h : a.length ≤ Ma) : Uz a = some (false, ()) := by
 have h20 : Ma = 1048576 := rfl
 unfold Uz
 rw [Ea (by omega)]
theorem Xab {a : List Int} (h : ¬ a.length ≤ Ma) : Uz a = some (true, ()) := by
 have h20 : Ma = 1048576 := rfl
 unfold Uz
 rw [Ca (by omega)]

theorem Zaw (n : Nat) : Jq n 0 0 := ⟨by omega, by have := Nat.two_pow_pos n; omega, by decide, by omega, by omega⟩
theorem M0 {m : Aa} (hm : Xa m = true) : LD (Oe m 0 0 false []) :=
 (P0 _).1 (Nn hm (Zaw _) false Uw (by simp))
theorem WT {m : Aa} (hm : Xa m = true) : Kv m [] = some (Oe m 0 0 false [], true, ()) := by
 have h20 : Ma = 1048576 := rfl
 have hz := (Ry hm).z
 have he := M0 hm
 have hz2 := Saq he
 unfold Kv
 rw [Qn _ (by omega), AB [] (by show (0 : Nat) ≤ _; omega)]
 simp only [jb]
 have : Yk (m, ([] : List (List Fe)), (0 : Int), ([] : List Pa), (0 : Int), false, ()) = some (true, ()) := by
  rw [← (P0 _).2 he]
  exact Ix (Oe m 0 0 false []) (by omega)
 rw [this]
 rfl
def Dz (x : Int) (U : Nat) : Prop := ∃ n : Nat, x = (n : Int) ∧ n < 16 ∧ Sj n U
structure Bal (U : Nat) (f : Int) (l : List Pa) : Prop where
 fx : Dz f U
 hd : ∀ x ∈ l, x.2.1.1 = 3 → U.testBit (Jz x.2.1) = true
theorem WX {a : Ba} (h : Tb a = true) (hk : a.1 = 3 ∨ a.1 = 4 ∨ a.1 = 5) : a.2.2.2.1 = ((Jz a : Nat) : Int) ∧ Jz a < 4 := by
 rw [Cb] at h
 unfold Kb at h
 unfold Jz
 omega
theorem Iaj {s n : Nat} (hs : s < 16) (hn : n < 4) : Ed .i64 (s : Int) (Re .i64 1 (n : Int)) = ((s ||| 2 ^ n : Nat) : Int) ∧ s ||| 2 ^ n < 16 := by
 have h5 : 2 ^ n < 2 ^ 4 := Nat.pow_lt_pow_right (by omega) hn
 refine ⟨?_, Nat.or_lt_two_pow (n := 4) hs h5⟩
 rw [show (1 : Int) = ((1 : Nat) : Int) from rfl, GH (by rw [ye]; exact ZF (by omega)) (by omega), Nat.one_shiftLeft, IL (by omega) (by omega)]
theorem Kaj {s n U : Nat} (hs : Sj s U) (hn : U.testBit n = true) : Sj (s ||| 2 ^ n) U := fun i hi => by
 rw [Nat.testBit_or, Nat.testBit_two_pow, qw, decide_eq_true_eq] at hi
 rcases hi with hi | hi
 ·exact hs i hi
 ·rw [← hi]; exact hn
theorem S2 {U : Nat} : ∀ (l : List Pa) (k : Nat) {s : Int}, Dz s U → (∀ x ∈ l, Tb x.2.1 = true) → (∀ x ∈ l, x.2.1.1 = 3 → U.testBit (Jz x.2.1) = true) →
 Dz (Jd (fun _ s (h : Pa) => cond (h.2.1.1 == 3) (Ed .i64 s (Re .i64 1 h.2.1.2.2.2.1)) s) k s l) U
 | [], _, s, h, _, _ => h
 | x :: l, k, s, h, ha, hb => by
  simp only [Jd]
  refine S2 l (k + 1) ?_ (fun y hy => ha y (js _ hy)) (fun y hy => hb y (js _ hy))
  cases h3 : x.2.1.1 == 3 with
  | false => exact h
  | true =>
   have h3' : x.2.1.1 = 3 := by simpa using h3
   obtain ⟨n, rfl, hn, hs⟩ := h
   obtain ⟨e1, e2⟩ := WX (ha x (by simp)) (.inl h3')
   have := Iaj hn e2
   rw [e1]
   exact ⟨_, this.1, this.2, Kaj hs (hb x (by simp) h3')⟩
theorem O6 {U : Nat} (h0 : U.testBit 0 = true) {f : Int} {l : List Pa} (h : Bal U f l) (ha : ∀ x ∈ l, Tb x.2.1 = true) : Dz (Ji f l) U := by
 unfold Ji
 refine S2 l 0 ?_ ha h.hd
 obtain ⟨n, rfl, hn, hs⟩ := h.fx
 refine ⟨1 ||| n, IL (a := 1) (by decide) (by omega), Nat.or_lt_two_pow (n := 4) (by decide) hn, fun i hi => ?_⟩
 rw [Nat.testBit_or, qw] at hi
 rcases hi with hi | hi
 ·rw [Nat.testBit_one_eq_true_iff_self_eq_zero] at hi
  rw [hi]; exact h0
 ·exact hs i hi
theorem IW {U i : Nat} (hb : U.testBit i = true) (L : List (List Ba)) (k : Nat) : Pi (HB U 0 L) i k = Pi L i k := by
 unfold Pi
 by_cases hi : i < L.length
 ·have h1 : (HB U 0 L).getD i [] = L.getD i [] := by
   rw [KC (L := L) hi, KC (L := HB U 0 L) (by rw [Xr]; exact hi), LL U L 0 i hi, jt, hb]
   rfl
  rw [h1]
 ·have h1 : (HB U 0 L).getD i [] = L.getD i [] := by
   rw [qg, qg, qr (l := L) (by omega), qr (l := HB U 0 L) (by rw [Xr]; omega)]
  rw [h1]
theorem UJ {U : Nat} {on : Int} (h : Dz on U) (L : List (List Ba)) (k : Nat) : ∀ j, j ≤ 64 → Td (HB U 0 L) on k j = Td L on k j
 | 0, _ => rfl
 | j + 1, hj => by
  simp only [Td]
  rw [UJ h L k j (by omega)]
  obtain ⟨n, rfl, hn, hs⟩ := h
  rw [Cx (by omega) hj]
  cases hb : n.testBit (j + 1) with
  | false => rfl
  | true => rw [IW (hs _ hb)]
theorem RB {U : Nat} (h0 : U.testBit 0 = true) {on : Int} (h : Dz on U) (L : List (List Ba)) (k : Nat) : ∀ j, j ≤ 64 → U.testBit (Td L on k j) = true
 | 0, _ => h0
 | j + 1, hj => by
  have ih := RB h0 h L k j (by omega)
  simp only [Td]
  obtain ⟨n, rfl, hn, hs⟩ := h
  rw [Cx (by omega) hj]
  cases hb : n.testBit (j + 1) with
  | false => exact ih
  | true =>
   cases ((Pi L (j + 1) k).1 != 1) with
   | false => exact ih
   | true => exact hs _ hb
def HF (U : Nat) (e : Sa) : Sa := (ED U e.1, e.2)
structure Hv (U : Nat) (e : Sa) : Prop where
 ok : LD e
 us : U = Th e.1
 ti : Bal U e.2.2.1 e.2.2.2.1
theorem Hv.b0 {U : Nat} {e : Sa} (h : Hv U e) : U.testBit 0 = true := by rw [h.us]; exact CZ _
theorem Hv.sub {U : Nat} {e : Sa} (h : Hv U e) : Dz (Ji e.2.2.1 e.2.2.2.1) U :=
 O6 h.b0 h.ti fun x hx => (RJ h.ok.hd x hx).act
theorem Dae (U : Nat) (e : Sa) : (HF U e).1.2.1.length = e.1.2.1.length := Xr U _ 0
theorem Cae {U : Nat} {e : Sa} (h : Hv U e) (k : Nat) (b : Bool) : UB (HF U e) k b = UB e k b := by
 have hm := Yc h.ok.km
 have hl2 := hm.l2
 have e1 : Lh (HF U e).1 (Ji e.2.2.1 e.2.2.2.1) k = Lh e.1 (Ji e.2.2.1 e.2.2.2.1) k := by
  unfold Lh
  rw [Dae]
  exact UJ h.sub e.1.2.1 k _ (by omega)
 have e2 : Pi (HF U e).1.2.1 (Lh (HF U e).1 (Ji (HF U e).2.2.1 (HF U e).2.2.2.1) k) k = Pi e.1.2.1 (Lh e.1 (Ji e.2.2.1 e.2.2.2.1) k) k := by
  show Pi (HB U 0 e.1.2.1) (Lh (HF U e).1 (Ji e.2.2.1 e.2.2.2.1) k) k = _
  rw [e1]
  exact IW (RB h.b0 h.sub e.1.2.1 k _ (by omega)) _ _
 unfold UB
 rw [e2]
theorem Naa {U : Nat} {e : Sa} (h : Hv U e) {k : Nat} (hk : (k : Int) < e.1.1) (b : Bool) (ht : (UB e k b).1 = 3 ∨ (UB e k b).1 = 4 ∨ (UB e k b).1 = 5) : U.testBit (Jz (UB e k b)) = true := by
 have hm := Yc h.ok.km
 have hl2 := hm.l2
 have hb := RB h.b0 h.sub e.1.2.1 k (e.1.2.1.length - 1) (by omega)
 have hlt := HE hm (Ji e.2.2.1 e.2.2.2.1) k
 have hrow := hm.row _ hlt
 have hkk : k < (e.1.2.1[Lh e.1 (Ji e.2.2.1 e.2.2.2.1) k]'hlt).length := by omega
 have hact := hm.act _ hlt k hkk
 have hmem := qi hkk
 have e2 := RC hlt hkk
 have hcl := fun ht => XZ hm hlt (by rw [← h.us]; exact hb) hmem ht
 rw [← h.us] at hcl
 rw [← e2] at hcl hact
 unfold UB at ht ⊢
 generalize Pi e.1.2.1 (Lh e.1 (Ji e.2.2.1 e.2.2.2.1) k) k = a at *
 obtain ⟨h1, h2⟩ := GP hact
 cases b with
 | true =>
  simp only [y3] at ht ⊢
  have h3 : Ej a = true := by
   rw [← h1]; simp only [qw, beq_iff_eq]; omega
  have := hcl h3
  unfold Jz at this ⊢
  rw [h2 h3]
  exact this
 | false =>
  simp only [y8] at ht ⊢
  unfold Gz at ht ⊢
  cases hT : Pg a with
  | true =>
   rw [hT] at ht
   simp only [y3] at ht
   omega
  | false =>
   rw [hT] at ht
   simp only [y8] at ht ⊢
   exact hcl (by unfold Ej; simp only [qw, beq_iff_eq]; omega)
theorem Gae {U n : Nat} {f : Int} (h : Dz f U) (hn : n < 4) (hb : U.testBit n = true) : Dz (Py .i64 f (Re .i64 1 (n : Int))) U := by
 obtain ⟨m, rfl, hm, hs⟩ := h
 have h5 : 2 ^ n < 2 ^ 4 := Nat.pow_lt_pow_right (by omega) hn
 refine ⟨m ^^^ 2 ^ n, ?_, Nat.xor_lt_two_pow (n := 4) hm h5, fun i hi => ?_⟩
 ·rw [show (1 : Int) = ((1 : Nat) : Int) from rfl, GH (by rw [ye]; exact ZF (by omega)) (by omega), Nat.one_shiftLeft, Mac (by omega) (by omega)]
 ·rw [Nat.testBit_xor, Nat.testBit_two_pow] at hi
  by_cases hni : n = i
  ·rw [← hni]; exact hb
  ·rw [decide_eq_false hni, Bool.xor_false] at hi
   exact hs i hi
theorem Waj {U n : Nat} (hn : n < 4) (hb : U.testBit n = true) : Dz (Zh .i64 (Re .i64 1 (n : Int)) 1) U := by
 have h5 : 2 ^ n < 2 ^ 4 := Nat.pow_lt_pow_right (by omega) hn
 refine ⟨2 ^ n ^^^ (2 ^ n &&& 1), ?_, Nat.xor_lt_two_pow (n := 4) h5 (Nat.and_lt_two_pow _ (by decide)), fun i hi => ?_⟩
 ·rw [show (1 : Int) = ((1 : Nat) : Int) from rfl, GH (by rw [ye]; exact ZF (by omega)) (by omega), Nat.one_shiftLeft, U8 (by omega) (by decide)]
 ·rw [Nat.testBit_xor, Nat.testBit_and, Nat.testBit_two_pow] at hi
  by_cases hni : n = i
  ·rw [← hni]; exact hb
  ·rw [decide_eq_false hni] at hi
   simp at hi
theorem Vad {U : Nat} {f o : Int} {c : Bool} {a : Ba} (hf : Dz f U) (ha : Tb a = true) (hu : a.1 = 3 ∨ a.1 = 4 ∨ a.1 = 5 → U.testBit (Jz a) = true) :
 Dz (So f o c a).1 U ∧ ((So f o c a).2.2.2.1 = 3 → U.testBit (Jz (So f o c a).2.2.2) = true) := by
 unfold So
 cases h2 : a.1 == 2 with
 | true =>
  have h2' : a.1 = 2 := by simpa using h2
  cases a.2.1 == 0 with
  | true => exact ⟨hf, fun h => hu (.inl h)⟩
  | false => exact ⟨hf, fun h => absurd (show a.1 = 3 from h) (by omega)⟩
 | false =>
  cases h4 : a.1 == 4 with
  | true =>
   have h4' : a.1 = 4 := by simpa using h4
   obtain ⟨e, hn⟩ := WX ha (.inr (.inl h4'))
   refine ⟨?_, fun h => hu (.inl h)⟩
   show Dz (Py .i64 f (Re .i64 1 a.2.2.2.1)) U
   rw [e]
   exact Gae hf hn (hu (.inr (.inl h4')))
  | false =>
   cases h5 : a.1 == 5 with
   | true =>
    have h5' : a.1 = 5 := by simpa using h5
    obtain ⟨e, hn⟩ := WX ha (.inr (.inr h5'))
    refine ⟨?_, fun h => hu (.inl h)⟩
    show Dz (Zh .i64 (Re .i64 1 a.2.2.2.1) 1) U
    rw [e]
    exact Waj hn (hu (.inr (.inr h5')))
   | false =>
    cases a.1 == 8 with
    | true => exact ⟨hf, fun h => hu (.inl h)⟩
    | false => cases a.1 == 10 <;> exact ⟨hf, fun h => hu (.inl h)⟩
theorem K7 {U : Nat} {e : Sa} (h : Hv U e) {k : Nat} (hk : (k : Int) < e.1.1) (hn : ∀ y ∈ e.2.2.2.1, y.1 ≠ (k : Int)) (b : Bool) : Hv U (pE e k b) := by
 have F := Naj h.ok hk hn b
 have hs := Vad (o := e.2.2.2.2.1) (c := e.2.2.2.2.2.1) h.ti.fx F.act.act (Naa h hk b)
 refine ⟨F.ok, h.us, ⟨hs.1, fun x hx => ?_⟩⟩
 rcases jm.1 (show x ∈ e.2.2.2.1 ++ [((k : Int), (Hq e k b).2.2.2, ())] from hx) with hx | hx
 ·exact h.ti.hd x hx
 ·rw [qd.1 hx]
  exact hs.2
theorem AZ {U : Nat} {e : Sa} (h : Hv U e) (i : Nat) : Hv U (rE e i) :=
 ⟨Waq h.ok i, h.us, ⟨h.ti.fx, fun x hx => h.ti.hd x ((DZ _ i).subset hx)⟩⟩

noncomputable def Bf (m : Aa) : Oc → List Int → List Ga
 | _, [] => []
 | x, k :: l => Gi m x k.toNat ++ Bf m (Tp m x k.toNat) l
noncomputable def Hx (m : Aa) : Oc → List Int → Oc
 | x, [] => x
 | x, k :: l => Hx m (Tp m x k.toNat) l
def Iz (K : Int) (l : List Int) : Prop := ∀ k ∈ l, 0 ≤ k ∧ k < K
theorem KD (m : Aa) (k : Int) : ∀ (l : List Int) (x : Oc), Bf m x (l ++ [k]) = Bf m x l ++ Gi m (Hx m x l) k.toNat
 | [], x => by simp [Bf, Hx]
 | q :: l, x => by simp only [yf, Bf, Hx, KD m k l, qy]
theorem ZM (m : Aa) (k : Int) : ∀ (l : List Int) (x : Oc), Hx m x (l ++ [k]) = Tp m (Hx m x l) k.toNat
 | [], x => rfl
 | q :: l, x => by simp only [yf, Hx, ZM m k l]
theorem IX (m : Aa) : ∀ (l : List Int) (n : Nat) (x : Oc) (acc : List Ga), Iz m.1 l →
 Ve (fun _ s x => gT m s x) n ((x.1, x.2.1, x.2.2.1), acc) l = .inl (((Hx m x l).1, (Hx m x l).2.1, (Hx m x l).2.2.1), acc ++ Bf m x l)
 | [], n, x, acc, _ => by simp [Ve, Hx, Bf]
 | k :: l, n, x, acc, h => by
  simp only [Ve]
  have hk := h k (by simp)
  have hg : gT m ((x.1, x.2.1, x.2.2.1), acc) k = .inl (((Tp m x k.toNat).1, (Tp m x k.toNat).2.1, (Tp m x k.toNat).2.2.1), acc ++ Gi m x k.toNat) := by
   unfold gT
   rw [Ca hk]
   unfold Gi
   rw [← qy]
   rfl
  rw [hg]
  have := IX m l (n + 1) (Tp m x k.toNat) (acc ++ Gi m x k.toNat) (fun q hq => h q (js _ hq))
  rw [qy] at this
  exact this
theorem Ur {m : Aa} (hv : Xa m = true) {l : List Int} (hl : Iz m.1 l) (hn : l.length ≤ Ma) : Ac m l = some (Bf m Dg l, true, ()) := by
 have hM := Ry hv
 unfold Ac
 rw [WT hv]
 simp only [jb, jg, y8]
 rw [IP (f := 0) (o := 0) (c := false) hM (Ux hM) l hn]
 unfold YR
 have := IX m l 0 Dg [] hl
 rw [show ((Dg.1, Dg.2.1, Dg.2.2.1) : Int × Int × Bool) = (0, 0, false) from rfl] at this
 rw [this]
 rfl
theorem SL {m : Aa} (hM : Oi m) : ∀ (l : List Int) {x : Oc}, Us m x → Iz m.1 l → (Bf m x l).length ≤ 2 * l.length ∧ ∀ r ∈ Bf m x l, Sd r = true
 | [], x, _, _ => by simp [Bf]
 | k :: l, x, hx, h => by
  have hk := h k (by simp)
  have hk' : ((k.toNat : Nat) : Int) < m.1 := by omega
  obtain ⟨h1, h2⟩ := FG hM hx hk'
  obtain ⟨h3, h4⟩ := SL hM l (ZP hM hx hk') (fun q hq => h q (js _ hq))
  simp only [Bf]
  refine ⟨by rw [qe, jx]; omega, fun r hr => ?_⟩
  rcases jm.1 hr with hr | hr
  ·exact h2 r hr
  ·exact h4 r hr
def ZZ (a b : Aa) (e : Hc × List Int) : Prop := Iz a.1 e.2 ∧ Hx a Dg e.2 = e.1.1 ∧ Hx b Dg e.2 = e.1.2.1 ∧ Bf a Dg e.2 = Bf b Dg e.2
theorem Fab {a b : Aa} {x : Hc} {w : List Int} (h : ZZ a b (x, w)) {k : Nat} (hk : (k : Int) < a.1) (hd : Hi a b x k = false) : ZZ a b (Tf a b x k, w ++ [(k : Int)]) := by
 obtain ⟨h1, h2, h3, h4⟩ := h
 have hd' : Gi a x.1 k = Gi b x.2.1 k := by
  unfold Hi at hd
  simpa using hd
 refine ⟨fun q hq => ?_, ?_, ?_, ?_⟩
 ·rcases jm.1 hq with hq | hq
  ·exact h1 q hq
  ·simp only [qd] at hq; subst hq; exact ⟨by omega, hk⟩
 ·show Hx a Dg (w ++ [(k : Int)]) = _
  rw [ZM, h2, jo]; rfl
 ·show Hx b Dg (w ++ [(k : Int)]) = _
  rw [ZM, h3, jo]; rfl
 ·show Bf a Dg (w ++ [(k : Int)]) = Bf b Dg (w ++ [(k : Int)])
  rw [KD, KD, h2, h3, h4, jo, hd']
theorem S0 {a b : Aa} {x : Hc} {w : List Int} (h : ZZ a b (x, w)) {W : Mg} (hW : ∀ e ∈ W, ZZ a b e) : ∀ n : Nat, (∀ k : Nat, k < n → (k : Int) < a.1 ∧ Hi a b x k = false) → ∀ e ∈ Xj (Tf a b) x w n W, ZZ a b e
 | 0, _, e, he => hW e he
 | n + 1, hk, e, he => by
  have ih := S0 h hW n (fun k hk' => hk k (by omega))
  have he' : e ∈ Eo (Tf a b) x w n (Xj (Tf a b) x w n W) := he
  unfold Eo at he'
  cases hg : (Ge Ce (Xj (Tf a b) x w n W) (Tf a b x n)).isSome with
  | true => rw [hg] at he'; exact ih e he'
  | false =>
   rw [hg] at he'
   rcases jm.1 he' with he' | he'
   ·exact ih e he'
   ·simp only [qd] at he'
    subst he'
    exact Fab h (hk n (by omega)).1 (hk n (by omega)).2
theorem R0 {nx : Hc → Nat → Hc} {x : Hc} {w : List Int} {W : Mg} : ∀ n, (∀ y ∈ W.map Prod.fst, y ∈ (Xj nx x w n W).map Prod.fst) ∧ ∀ k, k < n → nx x k ∈ (Xj nx x w n W).map Prod.fst
 | 0 => ⟨fun y hy => hy, fun k hk => by omega⟩
 | n + 1 => by
  obtain ⟨h1, h2⟩ := R0 (nx := nx) (x := x) (w := w) (W := W) n
  have hs : Xj nx x w (n + 1) W = Eo nx x w n (Xj nx x w n W) := rfl
  rw [hs]
  unfold Eo
  cases hg : Ge Ce (Xj nx x w n W) (nx x n) with
  | some v =>
   simp only [Option.isSome_some, y3]
   refine ⟨h1, fun k hk => ?_⟩
   by_cases e : k = n
   ·subst e; exact qk.2 ⟨_, NE (by decide) hg, rfl⟩
   ·exact h2 k (by omega)
  | none =>
   simp only [Option.isSome_none, y8, yu, jm]
   refine ⟨fun y hy => .inl (h1 y hy), fun k hk => ?_⟩
   by_cases e : k = n
   ·subst e; exact .inr (by simp)
   ·exact .inl (h2 k (by omega))
theorem NW {a b : Aa} (h : Zx a b) : ∀ (n i : Nat) (W : Mg) (w : List Int), NC (Yx a b) W → (∀ e ∈ W, ZZ a b e) → Ll (Tf a b) (Hi a b) a.1.toNat n i W = some w →
 ∃ (l : List Int) (k : Int), w = l ++ [k] ∧ Iz a.1 w ∧ Bf a Dg l = Bf b Dg l ∧ Bf a Dg w ≠ Bf b Dg w
 | 0, i, W, w, _, _, hb => by simp [Ll] at hb
 | n + 1, i, W, w, hW, hpa, hb => by
  obtain ⟨k1, k2⟩ := Wz h.tka
  by_cases hi : i < W.length
  ·rw [Ll, je hi] at hb
   have hp := hW.ok _ (qi hi)
   have hln := hW.ln i hi
   have hq := hpa _ (qi hi)
   simp only at hb
   cases hf : Xk (Hi a b) W[i].1 a.1.toNat 0 with
   | some k =>
    rw [hf] at hb
    simp only [jc] at hb
    obtain ⟨_, f2, f3, _⟩ := QS hf
    obtain ⟨q1, q2, q3, q4⟩ := hq
    refine ⟨W[i].2, (k : Int), hb.symm, ?_, q4, ?_⟩
    ·rw [← hb]
     intro q hq
     rcases jm.1 hq with hq | hq
     ·exact q1 q hq
     ·simp only [qd] at hq; subst hq; omega
    ·rw [← hb, KD, KD, q2, q3, q4, jo]
     intro he
     have := List.append_cancel_left he
     unfold Hi at f3
     rw [this] at f3
     simp at f3
   | none =>
    rw [hf] at hb
    have hno := EJ hf
    exact NW h n (i + 1) _ w (Pz (CD h) hW hp hln hi a.1.toNat (jp _)).1 (S0 hq hpa _ fun k hk => ⟨by omega, hno k (by omega) (by omega)⟩) hb
  ·rw [Ll, qr (by omega)] at hb
   simp at hb
def Jae (a b : Aa) (i : Nat) (W : Mg) : Prop := ∀ (j : Nat) (hj : j < W.length), j < i → ∀ k, k < a.1.toNat → Hi a b W[j].1 k = false ∧ Tf a b W[j].1 k ∈ W.map Prod.fst
theorem MW {a b : Aa} (h : Zx a b) : ∀ (n i : Nat) (W : Mg), NC (Yx a b) W → Jae a b i W → 262145 ≤ n + i → Ll (Tf a b) (Hi a b) a.1.toNat n i W = none →
 ∃ W' : Mg, (∀ x ∈ W.map Prod.fst, x ∈ W'.map Prod.fst) ∧ ∀ x ∈ W'.map Prod.fst, ∀ k, k < a.1.toNat → Hi a b x k = false ∧ Tf a b x k ∈ W'.map Prod.fst
 | n, i, W, hW, hd, hn, hb => by
  have hlen := Ru h hW
  by_cases hi : i < W.length
  ·obtain ⟨n', rfl⟩ : ∃ n', n = n' + 1 := ⟨n - 1, by omega⟩
   rw [Ll, je hi] at hb
   have hp := hW.ok _ (qi hi)
   have hln := hW.ln i hi
   simp only at hb
   cases hf : Xk (Hi a b) W[i].1 a.1.toNat 0 with
   | some k => rw [hf] at hb; simp at hb
   | none =>
    rw [hf] at hb
    have hno := EJ hf
    obtain ⟨g1, g2⟩ := Pz (CD h) hW hp hln hi a.1.toNat (jp _)
    obtain ⟨m1, m2⟩ := R0 (nx := Tf a b) (x := W[i].1) (w := W[i].2) (W := W) a.1.toNat
    have hget : ∀ (j : Nat) (hj : j < W.length) (hj' : j < (Xj (Tf a b) W[i].1 W[i].2 a.1.toNat W).length), (Xj (Tf a b) W[i].1 W[i].2 a.1.toNat W)[j] = W[j] := fun j hj hj' => by
     obtain ⟨t, ht⟩ := g2
     have : (W ++ t)[j]? = some W[j] := by rw [List.getElem?_append_left hj, je hj]
     rw [ht, je hj'] at this
     exact yy this
    have hd' : Jae a b (i + 1) (Xj (Tf a b) W[i].1 W[i].2 a.1.toNat W) := by
     intro j hj hji k hk
     have hjW : j < W.length := by omega
     rw [hget j hjW hj]
     by_cases e : j = i
     ·subst e; exact ⟨hno k (by omega) (by omega), m2 k hk⟩
     ·obtain ⟨d1, d2⟩ := hd j hjW (by omega) k hk
      exact ⟨d1, m1 _ d2⟩
    obtain ⟨W', w1, w2⟩ := MW h n' (i + 1) _ g1 hd' (by omega) hb
    exact ⟨W', fun x hx => w1 x (m1 x hx), w2⟩
  ·refine ⟨W, fun x hx => hx, fun x hx k hk => ?_⟩
   obtain ⟨e, he, rfl⟩ := qk.1 hx
   obtain ⟨j, hj, rfl⟩ := qj (l := W) he
   exact hd j hj (by omega) k hk
theorem X3 {a b : Aa} {S : Hc → Prop} (hS : ∀ x, S x → ∀ k, k < a.1.toNat → Hi a b x k = false ∧ S (Tf a b x k)) : ∀ (l : List Int) (x : Hc), S x → Iz a.1 l → Bf a x.1 l = Bf b x.2.1 l
 | [], x, _, _ => rfl
 | k :: l, x, hx, hl => by
  have hk := hl k (by simp)
  obtain ⟨h1, h2⟩ := hS x hx k.toNat (by omega)
  have h3 : Gi a x.1 k.toNat = Gi b x.2.1 k.toNat := by
   unfold Hi at h1
   simpa using h1
  simp only [Bf]
  rw [h3]
  congr 1
  exact X3 hS l (Tf a b x k.toNat) h2 (fun q hq => hl q (js _ hq))
theorem L8 {a b : Aa} (h : Zx a b) (hd : Sw a b = none) {l : List Int} (hl : Iz a.1 l) : Bf a Dg l = Bf b Dg l := by
 obtain ⟨W', w1, w2⟩ := MW h 262145 0 [(VD, [])] (KG h) (fun j hj h0 => by omega) (by omega) hd
 exact X3 (S := fun x => x ∈ W'.map Prod.fst) w2 l VD (w1 VD (by simp)) hl
theorem KS {a b : Aa} (h : Zx a b) {w : List Int} (hd : Sw a b = some w) : ∃ (l : List Int) (k : Int), w = l ++ [k] ∧ Iz a.1 w ∧ Bf a Dg l = Bf b Dg l ∧ Bf a Dg w ≠ Bf b Dg w :=
 NW h 262145 0 [(VD, [])] w (KG h) (fun e he => by
  simp only [qd] at he
  subst he
  exact ⟨fun q hq => by simp at hq, rfl, rfl, rfl⟩) hd
theorem L0 {a b : Aa} (h : Zx a b) (hall : ∀ l, Iz a.1 l → Bf a Dg l = Bf b Dg l) : Sw a b = none := by
 cases hd : Sw a b with
 | none => rfl
 | some w =>
  obtain ⟨l, k, _, h2, _, h4⟩ := KS h hd
  exact absurd (hall w h2) h4
theorem Wam (m : Aa) {f : Int} (hf : 0 ≤ f ∧ f ≤ 15) (o : Int) (c : Bool) (k : Nat) : Hq (Oe m f o c []) k false = Zf m f o c k := by
 have hl : Ji f [] = Ed .i64 1 f := by
  have h1 := PJ hf
  have h2 := ZQ (f := f) hf [] (by decide) Uw
  rw [h1] at h2
  simp only [jc, jh, and_true] at h2
  exact h2.symm
 unfold Hq UB Zf JW
 show So f o c _ = _
 rw [show Ji (Oe m f o c []).2.2.1 (Oe m f o c []).2.2.2.1 = Ed .i64 1 f from hl]
 rfl
theorem Qaa {b : Aa} (hv : Xa b = true) {x : Oc} (hx : Us b x) (ht : Hv (Th b) (Wj b x)) {k : Nat} (hk : (k : Int) < b.1) :
 Gi (ED (Th b) b) x k = Gi b x k ∧ Tp (ED (Th b) b) x k = Tp b x k ∧ Hv (Th b) (Wj b (Tp b x k)) := by
 have hf := H6 (Yc hv).l2 hx
 have h1 : Hq (HF (Th b) (Wj b x)) k false = Hq (Wj b x) k false := by unfold Hq; rw [Cae ht]; rfl
 have e1 : Hq (Wj b x) k false = Zf b x.1 x.2.1 x.2.2.1 k := Wam b hf _ _ k
 have e2 : Hq (HF (Th b) (Wj b x)) k false = Zf (ED (Th b) b) x.1 x.2.1 x.2.2.1 k := Wam (ED (Th b) b) hf _ _ k
 have hst : Zf (ED (Th b) b) x.1 x.2.1 x.2.2.1 k = Zf b x.1 x.2.1 x.2.2.1 k := by rw [← e1, ← e2, h1]
 have hh : hK (ED (Th b) b) x.1 x.2.1 x.2.2.1 k = hK b x.1 x.2.1 x.2.2.1 k := by unfold hK; rw [hst]
 refine ⟨?_, ?_, ?_⟩
 ·unfold Gi Lj XB
  rw [hh]
 ·unfold Tp
  rw [hst]
 ·have hp := K7 ht hk (fun y hy => by simp [Wj, Oe] at hy) false
  have hr := AZ hp 0
  have : rE (pE (Wj b x) k false) 0 = Wj b (Tp b x k) := by
   unfold Wj Tp
   rw [← e1]
   rfl
  rw [← this]
  exact hr
theorem LT {b : Aa} (hv : Xa b = true) : ∀ (l : List Int) (x : Oc), Us b x → Hv (Th b) (Wj b x) → Iz b.1 l → Bf (ED (Th b) b) x l = Bf b x l
 | [], _, _, _, _ => rfl
 | k :: l, x, hx, ht, hl => by
  have hk := hl k (by simp)
  have hk' : ((k.toNat : Nat) : Int) < b.1 := by omega
  obtain ⟨h1, h2, h3⟩ := Qaa hv hx ht hk'
  simp only [Bf]
  rw [h1, h2, LT hv l _ (ZP (Ry hv) hx hk') h3 (fun q hq => hl q (js _ hq))]
theorem Paa {b : Aa} (hv : Xa b = true) {l : List Int} (hl : Iz b.1 l) : Bf (ED (Th b) b) Dg l = Bf b Dg l :=
 LT hv l Dg (Ux (Ry hv)) ⟨M0 hv, rfl, ⟨⟨0, rfl, by omega, fun i hi => by simp at hi⟩, fun x hx => by simp [Wj, Oe] at hx⟩⟩ hl
def ZV (m : Aa) : Prop := m.2.1.length ≤ 6 ∧ ∀ r ∈ m.2.1, r.length ≤ 40
theorem RP {m : Aa} (h : ZV m) : Dc La m ≤ Ma := by
 have h20 : Ma = 1048576 := rfl
 have h1 : Dc La m = 0 + (Dc (.sl (.sl Cd)) m.2.1 + 0) := rfl
 have h2 : Dc (.sl (.sl Cd)) m.2.1 ≤ (40 + 1) * ja m.2.1 := QL (e := .sl Cd) (c := 40) fun x hx => by
  rw [QK]
  exact h.2 x hx
 have := h.1
 omega
theorem GE {m : Aa} (h : Xa m = true) : ZV m := by
 have hm := Yc h
 have := hm.l2
 refine ⟨by omega, fun r hr => ?_⟩
 obtain ⟨i, hi, rfl⟩ := qj hr
 have := hm.row i hi
 have := hm.k2
 omega
theorem VF {m : Aa} (h : ZV m) (k : Int) (i : Nat) {r : List Ba} (hr : r.length ≤ 40) : ZV (k, j7 m.2.1 i r, ()) := by
 refine ⟨by show (j7 m.2.1 i r).length ≤ 6; rw [j9]; exact h.1, fun x hx => ?_⟩
 rcases List.mem_or_eq_of_mem_set (show x ∈ j7 m.2.1 i r from hx) with hx | hx
 ·exact h.2 x hx
 ·rw [hx]; exact hr
theorem B9 {c : Mb} (h : Qj c) : ∃ (c' : Mb) (a : Ba), HC c = some (c', (a, ())) ∧ Qj c' := by
 obtain ⟨c1, a, e1, h1, _⟩ := SJ h 4 (by omega) (by omega)
 obtain ⟨c2, x, e2, h2, b2⟩ := Pf h1 12 (by omega)
 unfold HC
 rw [e1]
 simp only [jb, e2]
 cases x == 0 with
 | true =>
  obtain ⟨c3, y, e3, h3, b3⟩ := Pf h2 13 (by omega)
  simp only [y3, e3, jb]
  exact ⟨_, _, rfl, h3⟩
 | false =>
  simp only [y8]
  cases x == 1 with
  | true =>
   obtain ⟨c3, y, e3, h3, _⟩ := BG h2 [(-1 : Int), (0 : Int), (56 : Int), (57 : Int)] (by simp) (by simp)
   simp only [y3, e3, jb]
   exact ⟨_, _, rfl, h3⟩
  | false =>
   simp only [y8]
   cases x == 2 with
   | true =>
    obtain ⟨c3, y, e3, h3, _⟩ := BG h2 [(-1 : Int), (0 : Int), (15 : Int), (16 : Int)] (by simp) (by simp)
    simp only [y3, e3, jb]
    exact ⟨_, _, rfl, h3⟩
   | false =>
    simp only [y8]
    cases x == 3 with
    | true =>
     obtain ⟨c3, y, e3, h3, _⟩ := BG h2 [(-1 : Int), (0 : Int), (3 : Int), (4 : Int)] (by simp) (by simp)
     simp only [y3, e3, jb]
     exact ⟨_, _, rfl, h3⟩
    | false => exact ⟨_, _, rfl, h2⟩
theorem C9 {c : Mb} (h : Qj c) : ∃ (c' : Mb) (m : Aa), IC c = some (c', (m, ())) ∧ Qj c' ∧ ZV m := by
 obtain ⟨c1, k, e1, h1, b1⟩ := Pf h 4 (by omega)
 obtain ⟨k, rfl⟩ := jw b1.1
 have hw : j6 .i64 ((1 : Int) + (k : Int)) = ((k + 1 : Nat) : Int) := by rw [Id (by omega) (by omega)]; omega
 obtain ⟨c2, m, e2, h2, hm, hmk⟩ := XS h1 (keys := k + 1) (by omega) (by omega)
 have hM := Yc hm
 have hS := GE hm
 have hl1 := hM.l1
 have hl2 := hM.l2
 have hk1 := hM.k1
 have hk2 := hM.k2
 obtain ⟨c3, i, e3, h3, b3⟩ := Pf h2 ((ja m.2.1 : Nat) : Int) (by omega)
 obtain ⟨i, rfl⟩ := jw b3.1
 obtain ⟨c4, y, e4, h4, b4⟩ := Pf h3 16 (by omega)
 have hi : i < m.2.1.length := by omega
 have h0 : 0 < m.2.1.length := by omega
 have hri := hM.row i hi
 have hr0 := hM.row 0 h0
 have hsi := hS.2 _ (qi hi)
 have hs0 := hS.2 _ (qi h0)
 unfold IC
 rw [e1]
 simp only [jb, hw, e2, e3, e4]
 have i1 : Te (ja m.2.1) (i : Int) = true := by rw [Rg, Ca hi]
 have i2 : m.2.1[jz (i : Int)]? = some m.2.1[i] := by rw [jo]; exact je hi
 have i3 : Te (ja m.2.1) (0 : Int) = true := by
  show Te (ja m.2.1) ((0 : Nat) : Int) = true
  rw [Rg, Ca h0]
 have i4 : m.2.1[jz (0 : Int)]? = some m.2.1[0] := je h0
 have j1 : ∀ j (hj : j < m.2.1.length), Te (ja m.2.1[j]) (0 : Int) = true ∧ ∃ x, m.2.1[j][jz (0 : Int)]? = some x := fun j hj => by
  have := hM.row j hj
  have hp : 0 < m.2.1[j].length := by omega
  refine ⟨?_, _, je hp⟩
  show Te (ja m.2.1[j]) ((0 : Nat) : Int) = true
  rw [Rg, Ca hp]
 obtain ⟨ji, xi, jxi⟩ := j1 i hi
 obtain ⟨j0, x0, jx0⟩ := j1 0 h0
 cases y == 0 with
 | true =>
  obtain ⟨c5, p, e5, h5, hp⟩ := BG h4 [(0 : Int), (-1 : Int), (3 : Int), (33 : Int)] (by simp) (by simp)
  simp only [y3, e5, jb]
  exact ⟨_, _, rfl, h5, hS⟩
 | false =>
 simp only [y8]
 cases y == 1 with
 | true =>
  obtain ⟨c5, a, e5, h5⟩ := B9 h4
  rw [i1, i2]
  simp only [y3, e5, jb]
  rw [ji, jxi]
  exact ⟨_, _, rfl, h5, VF hS _ _ (by rw [j9]; exact hsi)⟩
 | false =>
 simp only [y8]
 cases y == 2 with
 | true =>
  rw [i1, i2]
  simp only [y3, jb]
  rw [show Be (ja m.2.1[i]) (1 : Int) ((ja m.2.1[i] : Nat) : Int) = true from ZD (lo := 1) (by omega) (jp _)]
  simp only [y3]
  exact ⟨_, _, rfl, h4, VF hS _ _ (by unfold Cc; rw [List.length_drop, List.length_take]; omega)⟩
 | false =>
 simp only [y8]
 cases y == 3 with
 | true =>
  rw [i3, i4]
  simp only [y3, jb]
  rw [j0, jx0]
  exact ⟨_, _, rfl, h4, VF hS _ _ (by rw [j9]; exact hs0)⟩
 | false =>
 simp only [y8]
 cases y == 4 with
 | true =>
  rw [i3, i4]
  simp only [y3, jb]
  rw [Lf (by simp; omega)]
  refine ⟨_, _, rfl, h4, by show (jf m.2.1 _).length ≤ 6; rw [List.append_eq, qe]; simp; omega, fun r hr => ?_⟩
  rcases jm.1 (show r ∈ m.2.1 ++ _ from hr) with hr | hr
  ·exact hS.2 r hr
  ·simp only [jq, yz, or_false, or_self] at hr
   rw [hr]; exact hs0
 | false =>
 simp only [y8]
 cases y == 5 with
 | true =>
  rw [show Be (ja m.2.1) (0 : Int) (i : Int) = true from ZD (lo := 0) (by omega) (by omega)]
  refine ⟨_, _, rfl, h4, by show (Cc m.2.1 _ _).length ≤ 6; unfold Cc; rw [List.length_drop, List.length_take]; omega, fun r hr => hS.2 r ?_⟩
  have hr' : r ∈ (m.2.1.take _).drop _ := hr
  exact List.mem_of_mem_take (List.mem_of_mem_drop hr')
 | false => exact ⟨_, _, rfl, h4, hS⟩
theorem EP {n : Int} (h : -1000000 ≤ n ∧ n ≤ 1000000) : IntKind.has .i64 n := by
 have e1 : IntKind.min .i64 = -9223372036854775808 := by decide
 have e2 : IntKind.max .i64 = 9223372036854775807 := by decide
 unfold IntKind.has
 rw [e1, e2]
 omega
theorem Sag {a : Ba} (h : Tb a = true) : DI Cd a := by
 have hp := (Cb a).1 h
 unfold Kb at hp
 exact ⟨EP (by omega), EP (by omega), EP (by omega), EP (by omega), trivial⟩
theorem Yai {m : Aa} (h : Xa m = true) : DI La m := by
 have hm := Yc h
 have hmx : Ph = 9223372036854775807 := rfl
 have := hm.k1
 have := hm.k2
 have := hm.l2
 refine ⟨EP (by omega), ⟨by show m.2.1.length ≤ Ph; omega, fun i hi => ⟨?_, fun k hk => ?_⟩⟩, trivial⟩
 ·have := hm.row i hi
  show m.2.1[i].length ≤ Ph
  omega
 ·have hr := hm.row i hi
  have hk' : k < m.2.1[i].length := hk
  have ha := hm.act i hi k hk'
  exact Sag (Pu ha)
def Oap (o : Option (Mb × (Aa × (Aa × Unit)))) : Prop := ∃ (c : Mb) (a b : Aa), o = some (c, (a, (b, ()))) ∧ Xa a = true ∧ ZV b
theorem A9 {c : Mb} (h : Qj c) : Oap (PA c) := by
 obtain ⟨c1, k, e1, h1, b1⟩ := Pf h 3 (by omega)
 obtain ⟨k, rfl⟩ := jw b1.1
 have hw : j6 .i64 ((1 : Int) + (k : Int)) = ((k + 1 : Nat) : Int) := by rw [Id (by omega) (by omega)]; omega
 obtain ⟨c2, m, e2, h2, hv, hmk⟩ := SP h1 (keys := k + 1) (by omega) (by omega)
 have hz : Dc La m ≤ Ma := RP (GE hv)
 have hM := Yc hv
 have hS := GE hv
 have hl1 := hM.l1
 have hl2 := hM.l2
 have hk1 := hM.k1
 have hk2 := hM.k2
 obtain ⟨c3, y, e3, h3, b3⟩ := Pf h2 6 (by omega)
 unfold PA
 rw [e1]
 simp only [jb, hw, e2]
 rw [CA m hz]
 simp only [jb, e3]
 cases y == 0 with
 | true =>
  obtain ⟨p, hp1, hp2, _⟩ := QM m (Yai hv) hz
  rw [ND hv hz] at hp2
  simp only [jc, jh, and_true] at hp2
  simp only [y3, hp1, jb]
  exact ⟨_, _, _, rfl, hv, by rw [← hp2]; exact GE (Oaa hv (CZ m))⟩
 | false =>
 simp only [y8]
 cases y == 1 with
 | true =>
  obtain ⟨c4, i, e4, h4, b4⟩ := Pf h3 ((ja m.2.1 : Nat) : Int) (by omega)
  obtain ⟨i, rfl⟩ := jw b4.1
  have hi : i < m.2.1.length := by omega
  have hri := hM.row i hi
  have hsi := hS.2 _ (qi hi)
  obtain ⟨c5, j, e5, h5, b5⟩ := Pf h4 m.1 (by omega)
  obtain ⟨j, rfl⟩ := jw b5.1
  obtain ⟨c6, a, e6, h6, _⟩ := SJ h5 ((ja m.2.1 : Nat) : Int) (by omega) (by omega)
  have hj : j < m.2.1[i].length := by omega
  simp only [y3, e4, jb]
  rw [Rg, Ca hi, jo, je hi]
  simp only [y3, jb, e5, e6]
  rw [Rg, Ca hj, jo, je hj]
  exact ⟨_, _, _, rfl, hv, VF hS _ _ (by rw [j9]; exact hsi)⟩
 | false =>
 simp only [y8]
 cases y == 2 with
 | true =>
  obtain ⟨c4, p, e4, h4, hp, _⟩ := SP h3 (keys := k + 1) (by omega) (by omega)
  simp only [y3]
  rw [hmk, e4]
  exact ⟨_, _, _, rfl, hv, GE hp⟩
 | false =>
 simp only [y8]
 cases y == 3 with
 | true =>
  obtain ⟨c4, p, e4, h4, hp⟩ := C9 h3
  simp only [y3, e4]
  exact ⟨_, _, _, rfl, hv, hp⟩
 | false =>
 simp only [y8]
 cases y == 4 with
 | true =>
  obtain ⟨c4, i, e4, h4, b4⟩ := Pf h3 ((ja m.2.1 : Nat) : Int) (by omega)
  obtain ⟨i, rfl⟩ := jw b4.1
  have hi : i < m.2.1.length := by omega
  have hri := hM.row i hi
  have hsi := hS.2 _ (qi hi)
  obtain ⟨c5, j, e5, h5, b5⟩ := Pf h4 m.1 (by omega)
  obtain ⟨j, rfl⟩ := jw b5.1
  have hj : j < m.2.1[i].length := by omega
  simp only [y3, e4, jb, e5]
  rw [Rg, Ca hi, jo, je hi, Nat.beq_refl]
  simp only [y3, jb]
  rw [Rg, Ca hj, jo, je hj]
  simp only [y3, jb]
  rw [LI]
  exact ⟨_, _, _, rfl, hv, VF hS _ _ (by rw [j9]; exact hsi)⟩
 | false => exact ⟨_, _, _, rfl, hv, hS⟩
theorem FZ (a : List Int) (hn : a.length ≤ Ma) : ∃ x y : Aa, Uk a = some (x, (y, ())) ∧ Xa x = true ∧ ZV y := by
 obtain ⟨h, e1⟩ := Eaa a hn
 have hc : Qj (a, (0, (h, ()))) := ⟨Int.le_refl _, by show (0 : Int) ≤ _; omega, hn⟩
 obtain ⟨c', x, y, e2, h1, h2⟩ := A9 hc
 unfold Uk
 rw [e1]
 simp only [jb, e2]
 exact ⟨x, y, rfl, h1, h2⟩
theorem TZ (a b : List Int) (hn : a.length ≤ Ma) : Pr a b = some (decide (a = b), ()) := by
 have h20 : Ma = 1048576 := rfl
 by_cases h : a.length = b.length
 ·have hl := Yf (step := fun x => Hp x.1.1 x.1.2.1 x.1.2.2.1) a (fun k x => x == b.getD k 0) (fun i => ((a, b, i, ()), ())) (.inl ((), ())) (.inr ((false, ()), ())) (by
   intro k hk
   simp only [Hp]
   rw [Ca (show (k : Int) < ((ja a : Nat) : Int) by omega), Gc hk, Gc (show k < b.length by omega), qg, je (show k < b.length by omega)]
   simp only [y3, jb, qx, bne]
   cases a[k] == b[k] <;> rfl) (by
   simp only [Hp]
   rw [Ea (by omega)]; rfl) (by omega)
  unfold Pr Yq
  rw [show (((ja a : Nat) : Int) != ((ja b : Nat) : Int)) = false by simp [h]]
  simp only [y8]
  erw [hl]
  have hres : decide (a = b) = Md (fun k x => x == b.getD k 0) 0 a := by
   refine JC ?_
   rw [decide_eq_true_iff, Ze]
   constructor
   ·rintro rfl j hj
    simp [qg, je hj]
   ·intro h1
    refine List.ext_getElem h fun j g1 g2 => ?_
    have := h1 j g1
    simpa [qg, je g2] using this
  rw [hres]
  cases Md (fun k x => x == b.getD k 0) 0 a <;> rfl
 ·unfold Pr
  rw [show (((ja a : Nat) : Int) != ((ja b : Nat) : Int)) = true by rw [bne_iff_ne]; omega]
  have : ¬ a = b := fun e => h (by rw [e])
  rw [Ea this]; rfl
theorem Zz (a b : List Ga) (hn : a.length ≤ Ma) (hr : ∀ x ∈ a, Sd x = true) : Xc a b = some (decide (a = b), ()) := by
 have h20 : Ma = 1048576 := rfl
 by_cases h : a.length = b.length
 ·have hzl : (a.zip b).length = a.length := by rw [List.length_zip]; omega
  have hl := Yf (step := fun x => Sl x.1.1 x.1.2.1 x.1.2.2.1) (a.zip b) (fun _ x => Eg x.1 x.2) (fun i => ((a, b, i, ()), ())) (.inl ((), ())) (.inr ((false, ()), ())) (by
   intro k hk
   rw [hzl] at hk
   simp only [Sl]
   rw [Ca (show (k : Int) < ((ja a : Nat) : Int) by omega), Gc hk, Gc (show k < b.length by omega), List.getElem_zip]
   simp only [y3, jb]
   have hk1 := YA (hr _ (qi hk))
   rw [TZ _ _ (by omega)]
   unfold Eg
   simp only [jb, bne]
   rw [show (a[k].2.1 == b[k].2.1) = decide (a[k].2.1 = b[k].2.1) from JC (by rw [beq_iff_eq, decide_eq_true_iff])]
   cases a[k].1 == b[k].1 with
   | false => rfl
   | true => cases decide (a[k].2.1 = b[k].2.1) <;> rfl) (by
   rw [hzl]
   simp only [Sl]
   rw [Ea (by omega)]; rfl) (by rw [hzl]; omega)
  unfold Xc Hn
  rw [show (((ja a : Nat) : Int) != ((ja b : Nat) : Int)) = false by simp [h]]
  simp only [y8]
  erw [hl]
  have hres : decide (a = b) = Md (fun _ (x : Ga × Ga) => Eg x.1 x.2) 0 (a.zip b) := by
   refine JC ?_
   rw [decide_eq_true_iff, Ze]
   constructor
   ·rintro rfl j hj
    rw [List.getElem_zip]
    exact RE.2 rfl
   ·intro h1
    refine List.ext_getElem h fun j g1 g2 => ?_
    have := h1 j (by rw [hzl]; exact g1)
    rw [List.getElem_zip] at this
    exact RE.1 this
  rw [hres]
  cases Md (fun _ (x : Ga × Ga) => Eg x.1 x.2) 0 (a.zip b) <;> rfl
 ·unfold Xc
  rw [show (((ja a : Nat) : Int) != ((ja b : Nat) : Int)) = true by rw [bne_iff_ne]; omega]
  have : ¬ a = b := fun e => h (by rw [e])
  rw [Ea this]; rfl
theorem RO (a : List Int) (hn : a.length ≤ Ma) {x y : Aa} (hx : 0 < x.1) : ∀ (n : Nat) (ks : List Int), n ≤ 10 → Iz x.1 ks → ks.length + n ≤ 20 →
 ∃ ks', Af ((a, (), (), ks, (n : Int), ()), (x, y, ())) = some (.inl (((), (), ks', ()), (x, y, ()))) ∧ Iz x.1 ks' ∧ ks'.length ≤ 20
 | 0, ks, _, hk, hl => by
  refine ⟨ks, ?_, hk, by omega⟩
  unfold Af
  refine (Wd (z := some (.inr (.inl (((), (), ks, ()), (x, y, ()))))) ?_).trans rfl
  simp only [Yv]
  rw [Ea (by omega)]; rfl
 | n + 1, ks, h10, hk, hl => by
  obtain ⟨q, e, q0, q1⟩ := ET a (181 + ((n + 1 : Nat) : Int)) x.1 hn hx
  obtain ⟨ks', h1, h2, h3⟩ := RO a hn (y := y) hx n (ks ++ [q]) (by omega) (fun z hz => by
   rcases jm.1 hz with hz | hz
   ·exact hk z hz
   ·simp only [qd] at hz; subst hz; exact ⟨q0, q1⟩) (by rw [qe, List.length_singleton]; omega)
  refine ⟨ks', ?_, h2, h3⟩
  unfold Af at h1 ⊢
  refine (Wd (z := some (.inl ((a, (), (), ks ++ [q], (n : Int), ()), (x, y, ())))) ?_).trans ?_
  ·simp only [Yv]
   rw [Ca (by omega), Id (n := 181 + ((n + 1 : Nat) : Int)) (by omega) (by omega), e]
   simp only [y3, jb]
   rw [Lf (by simp; omega), Id (by omega) (by omega), show ((n + 1 : Nat) : Int) - 1 = (n : Int) by omega]
   rfl
  ·exact h1
theorem H0 {a b : Aa} (h : Dx a b = true) : Xa a = true ∧ Xa b = true ∧ a.1 = b.1 ∧ ¬ a.1 > 6 := by
 unfold Dx at h
 simp only [jd, beq_iff_eq, yj, decide_eq_false_iff_not] at h
 exact ⟨h.1, h.2.1, h.2.2.1, h.2.2.2⟩
theorem G0 {a b : Aa} (h1 : Xa a = true) (h2 : Xa b = true) (h3 : a.1 = b.1) (h4 : ¬ a.1 > 6) : Dx a b = true := by
 unfold Dx
 simp only [jd, beq_iff_eq, yj, decide_eq_false_iff_not]
 exact ⟨h1, h2, h3, h4⟩
theorem DS {a b : Aa} (hc : Dx a b = true) (hd : Sw a b = none) : Je a b = some (true, ()) := by
 obtain ⟨h1, h2, h3, h4⟩ := H0 hc
 rw [WC a b (RP (GE h1)) (RP (GE h2)), hc]
 have : Ap a b = ([], false, ()) := by unfold Ap; rw [hc, hd]; rfl
 rw [this]; rfl
theorem NZ (a : List Int) : Nu a = some (true, ()) := by
 have h20 : Ma = 1048576 := rfl
 by_cases hn : a.length ≤ Ma
 case neg =>
  unfold Nu
  rw [Xab hn]
  rfl
 obtain ⟨x, y, e1, hv, hS⟩ := FZ a hn
 have hxz := RP (GE hv)
 have hyz := RP hS
 have hM := Yc hv
 have hx0 : 0 < x.1 := by have := hM.k1; omega
 unfold Nu
 rw [Z7 hn]
 simp only [jb, y8]
 rw [e1]
 simp only [jb]
 rw [Ky x y hxz hyz, WC x y hxz hyz, UN x y hxz hyz]
 cases hc : Dx x y with
 | false =>
  have : Ap x y = ([], false, ()) := by unfold Ap; rw [hc]; rfl
  rw [this]
  rfl
 | true =>
  obtain ⟨_, hvy, hk, h6⟩ := H0 hc
  have hT : Zx x y := MG hv hvy hk
  cases hd : Sw x y with
  | some w =>
   have hR : Ap x y = (w, true, ()) := by unfold Ap; rw [hc, hd]; rfl
   obtain ⟨l, k, hw, hok, heq, hne⟩ := KS hT hd
   have hwl : w.length ≤ 262145 := by have := K8 x y; rw [hR] at this; exact this
   have hll : w.length = l.length + 1 := by rw [hw]; simp
   have hoky : Iz y.1 w := by rw [← hk]; exact hok
   have hokl : Iz x.1 l := fun q hq => hok q (by rw [hw]; exact qt _ hq)
   have hokly : Iz y.1 l := by rw [← hk]; exact hokl
   have t1 := Ur hv hok (by omega)
   have t2 := Ur hvy hoky (by omega)
   have t3 := Ur hv hokl (by omega)
   have t4 := Ur hvy hokly (by omega)
   have hwr : j6 .i64 (((ja w : Nat) : Int) - (1 : Int)) = ((l.length : Nat) : Int) := by rw [Id (by omega) (by omega)]; omega
   have hcut : Be (ja w) (0 : Int) ((l.length : Nat) : Int) = true := ZD (lo := 0) (by omega) (by omega)
   have hcl : Cc w (jz (0 : Int)) (jz ((l.length : Nat) : Int)) = l := by
    rw [jo]
    unfold Cc
    rw [hw]
    simp
   have hz : (((ja w : Nat) : Int) == (0 : Int)) = false := by rw [beq_eq_false_iff_ne]; omega
   obtain ⟨b1, b2⟩ := SL hT.tka w (Ux hT.tka) hok
   obtain ⟨b3, b4⟩ := SL hT.tka l (Ux hT.tka) hokl
   have s1 := Zz (Bf x Dg w) (Bf y Dg w) (by omega) b2
   have s2 := Zz (Bf x Dg l) (Bf y Dg l) (by omega) b4
   rw [Ea hne] at s1
   rw [Ca heq] at s2
   rw [hR]
   simp only [jg, Bool.and_false, y3, y8, jb]
   rw [hz, hwr, hcut, hcl, t1, t2, t3, t4]
   simp only [y3, y8, jb]
   rw [s1, s2]
   rfl
  | none =>
   have hR : Ap x y = ([], false, ()) := by unfold Ap; rw [hc, hd]; rfl
   have hall : ∀ l, Iz x.1 l → Bf x Dg l = Bf y Dg l := fun l hl => L8 hT hd hl
   obtain ⟨n, en, n0, n1⟩ := ET a 180 7 hn (by omega)
   obtain ⟨n, rfl⟩ := jw n0
   obtain ⟨ks, ek, hks, hkl⟩ := RO a hn (x := x) (y := y) hx0 n [] (by omega) (fun q hq => by simp at hq) (by simp; omega)
   have t1 := Ur hv hks (by omega)
   have t2 := Ur hvy (show Iz y.1 ks by rw [← hk]; exact hks) (by omega)
   obtain ⟨b1, b2⟩ := SL hT.tka ks (Ux hT.tka) hks
   have s1 := Zz (Bf x Dg ks) (Bf y Dg ks) (by omega) b2
   rw [Ca (hall ks hks)] at s1
   have hT2 : Zx y x := MG hvy hv hk.symm
   have A1 : Je y x = some (true, ()) := DS (G0 hvy hv hk.symm (by rw [← hk]; exact h6)) (L0 hT2 fun l hl => (hall l (by rw [hk]; exact hl)).symm)
   have hvp := Oaa hvy (CZ y)
   have hpk : (ED (Th y) y).1 = y.1 := rfl
   have hT3 : Zx x (ED (Th y) y) := MG hv hvp (by rw [hpk]; exact hk)
   have A2 : Je x (ED (Th y) y) = some (true, ()) := DS (G0 hv hvp (by rw [hpk]; exact hk) h6) (L0 hT3 fun l hl => (hall l hl).trans (Paa hvy (by rw [← hk]; exact hl)).symm)
   rw [hR]
   simp only [Bool.not_false, Bool.and_true, jg, y3, y8, jb]
   rw [en]
   simp only [jb]
   erw [ek]
   simp only [jb, qh]
   erw [t1, t2]
   simp only [jb, y3]
   rw [s1]
   simp only [jb, y3]
   erw [A1]
   simp only [jb, y3]
   rw [ND hvy (by have := (Ry hvy).z; omega)]
   simp only [jb]
   erw [A2]
   rfl
end KF
