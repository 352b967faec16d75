/- An evaluator of Go functions on plain data, its soundness, and plain laws on what the functions compute, part 6 (conditions: as each lemma tells). -/
import Derived.Test.YthipacpeljffpaaGreatE
set_option linter.unusedSimpArgs false
set_option linter.unusedVariables false
namespace KF
open Go
open List renaming length → ja, getElem?_eq_getElem → je, append → jf, mem_append → jl, mem_cons → jp, mem_cons_of_mem → jr, length_cons → jw, set → qa, length_nil → qb, mem_singleton → qg, length_append → qh, getD_eq_getElem?_getD → qj, getElem_mem → qt, getElem_of_mem → qu, mem_map → qv, length_drop → qw, ext_getElem? → q0, drop_drop → q7, toArray → q8, getD → q9, getElem?_eq_none → ya, mem_append_left → yb, mem_append_right → yc, any_eq_true → yf, append_assoc → yh, eq_nil_of_length_eq_zero → yj, getElem?_eq_some_iff → yk, drop → yo, replicate → yp, cons_append → yu, map_cons → yw, nodup_cons → yy, nodup_append → yz, flatten_cons → y0, mem_map_of_mem → ze, map_append → zf, all_eq_true → zg, range → zi, append_eq → zv, not_mem_nil → zw, pairwise_append → zx
open Option renaming bind_some → jb, bind → jz, map_some → qf, bind_eq_some_iff → qi, getD_some → yg, map_eq_some_iff → zh
open Option.some renaming injEq → jc
open Bool renaming and_eq_true → jd, not_true → jg, true_and → jk, false_eq_true → jq, not_false → qc, not_eq_true → qd, false_and → qr, eq_iff_iff → qx, or_eq_true → ye, not_eq_true' → yx, or_eq_false_iff → zb, false_or → zd
open Prod.mk renaming injEq → jh
open Nat renaming ble_eq_true_of_le → ji, mul_le_mul_right → jm, le_refl → jo, zero_add → js, add_assoc → jt, eq_of_beq_eq_true → ju, ble → jx, le_trans → qe, shiftLeft_eq → ql, lt_of_lt_of_le → qn, pow_le_pow_right → qo, testBit_xor → qp, testBit_two_pow → qq, xor_lt_two_pow → qs, beq → yd, le_of_ble_eq_true → yi, add_zero → yl, blt → ym, blt_eq → yq, add_mul → yr, one_mul → yt, succ_mul → y3, zero_le → zj, and_le_left → zm, or_lt_two_pow → zn, shiftRight_eq_div_pow → zo, eq_of_testBit_eq → zp, testBit_or → zq, testBit_and → zr, two_pow_pos → zt, testBit_lt_two_pow → zu, testBit → zy
open Int renaming toNat_natCast → jn, eq_ofNat_of_zero_le → jv, toNat → jy, tmod → yn, le_refl → za
open Go.IntKind renaming wrap → j8, wrap → j9
open Sum renaming elim_inl → qm
open Result renaming andThen_ok → qy
open Sem renaming run_bind → qz
open List.cons renaming injEq → yv
open Sum.inl renaming injEq → zk
open Sum.inr renaming injEq → zl
structure HM (kc : Nat) (c : Ea) (D m : Nat) : Prop where
 s : TS c D
 tm : 1 ≤ c.2.1 ∧ c.2.1 ≤ 200
 now : 0 ≤ c.2.2.2.1 ∧ c.2.2.2.1 ≤ 1000000
 clk : 0 ≤ c.2.2.2.2.1 ∧ c.2.2.2.2.1 ≤ c.2.2.2.1
 len : c.2.2.1.length ≤ 64
 q : ∃ t0 t : Int, 0 ≤ t0 ∧ t ≤ c.2.2.2.1 ∧ Zi kc t0 (Gm c D) c.2.2.1 t m
theorem VN (c : Ea) (key at_ : Int) : (Fu c key at_).1.1 = c.1 ∧ (Fu c key at_).1.2.1 = c.2.1 ∧ (Fu c key at_).1.2.2.1 = c.2.2.1 ∧ (Fu c key at_).1.2.2.2.1 = c.2.2.2.1 ∧ (Fu c key at_).1.2.2.2.2.1 = c.2.2.2.2.1 := by
 unfold Fu
 split <;> exact ⟨rfl, rfl, rfl, rfl, rfl⟩
theorem ST {keys : Nat} {t t' : Int} {g o : Nat} {b : Bool} (hg : g < 2 ^ 32) (hok : o < keys) (ho : o ≤ 31) (h0 : t ≤ t') (h1 : 0 ≤ t') (h2 : t' ≤ 1000000) (hb : (b == g.testBit o) = false) : Zi keys t g [(t', (o : Int), b, ())] t' (g ^^^ 2 ^ o) := by
 have p32 : (2 : Nat) ^ 32 = 4294967296 := by decide
 have h63 := Yt
 have hp := Ye (show o ≤ 62 by omega)
 refine ⟨?_, by omega, qs (by omega) hp⟩
 simp only [Wa]
 unfold Hm Jj Fg
 simp only
 rw [Qj (show g < 2 ^ 63 by omega) (by omega), hb, Aa (show 0 ≤ t' ∧ t' ≤ 1000000 by omega), Aa (show (0 : Int) ≤ (o : Int) ∧ (o : Int) ≤ 31 by omega), Ba (show ¬ t > t' by omega), Ba (show ¬ (o : Int) ≥ (keys : Int) by omega), Ve (by omega), Vm (by omega) hp]
 rfl
theorem Z9 {L : List Na} {keys : Nat} (hL : ∀ x ∈ L, x.2.1 < (keys : Int)) {o : Int} (h : (Gh L o).isSome = true) : o < (keys : Int) := by
 unfold Gh at h
 obtain ⟨c, hc⟩ := Option.isSome_iff_exists.1 h
 have h1 := List.find?_some hc
 have h2 := hL c (List.mem_of_find?_eq_some hc)
 simp only [beq_iff_eq] at h1
 omega
theorem Pam {kc keys : Nat} (hkc : kc ≤ 24) (hkk : kc ≤ keys) {c c' : Ea} {D m : Nat} {x : Ca} {r l : List Ca} (h : HM kc c D m) (hLk : ∀ x ∈ c.1, x.2.1 < (keys : Int)) (hq : c.2.2.1 = x :: r) (hs : Rf c x r = some (c', l)) :
 ∃ (D' : Nat) (t' : Int), HM kc c' D' m ∧ c'.1 = c.1 ∧ c'.2.1 = c.2.1 ∧ c'.2.2.2.1 = c.2.2.2.1 ∧ c.2.2.2.2.1 ≤ c'.2.2.2.2.1 ∧ Zi keys c.2.2.2.2.1 (Hi c D) l t' (Hi c' D') ∧ t' ≤ c'.2.2.2.2.1 := by
 obtain ⟨t0, t, h0, ht, hE⟩ := h.q
 have hlen := h.len
 rw [hq] at hE hlen
 simp only [jw] at hlen
 obtain ⟨k, hk, hk24, hk31, hx0, hx1, hx2, hdn, hR⟩ := Fj hE
 have hxt := NF hR
 have hc := h.clk
 have hn := h.now
 have hxn : x.1 ≤ c.2.2.2.1 := Int.le_trans hxt ht
 have hmx : 0 ≤ max c.2.2.2.2.1 x.1 ∧ max c.2.2.2.2.1 x.1 ≤ c.2.2.2.1 ∧ c.2.2.2.2.1 ≤ max c.2.2.2.2.1 x.1 ∧ max c.2.2.2.2.1 x.1 ≤ 1000000 := by omega
 have hg32 := (O1 h.s).2
 have hg63 : Hi c D < 2 ^ 63 := by
  have p32 : (2 : Nat) ^ 32 = 4294967296 := by decide
  have := Yt
  omega
 unfold Rf at hs
 cases hd : x.2.2.1 with
 | false =>
  rw [hd, hk] at hs
  simp only [ua, jc] at hs
  rw [hd] at hdn
  have hbk : (Gm c D).testBit k = true := by
   cases hh : (Gm c D).testBit k with
   | true => rfl
   | false => rw [hh] at hdn; simp at hdn
  generalize hc0 : ((c.1, c.2.1, r, c.2.2.2.1, max c.2.2.2.2.1 x.1, c.2.2.2.2.2) : Ea) = c0 at hs
  have hS0 : TS c0 D := by rw [← hc0]; exact ⟨h.s.d, h.s.d24, h.s.m, h.s.ok, h.s.nd, h.s.dm, h.s.pm, h.s.cb⟩
  have hdn0 : Gm c0 D = Gm c D := by rw [← hc0]; rfl
  have hgv0 : Hi c0 D = Hi c D := by rw [← hc0]; rfl
  obtain ⟨f1, f2, f3, f4, f5⟩ := VN c0 (k : Int) (max c.2.2.2.2.1 x.1)
  obtain ⟨D', hS', hdn', hor⟩ := (Vau (at_ := max c.2.2.2.2.1 x.1) hS0 (show k < 24 by omega) (by rw [hdn0]; exact hbk)).ex
  rw [hs] at f1 f2 f3 f4 f5 hS' hdn' hor
  simp only at f1 f2 f3 f4 f5 hS' hdn' hor
  have e1 : c0.1 = c.1 := by rw [← hc0]
  have e2 : c0.2.1 = c.2.1 := by rw [← hc0]
  have e3 : c0.2.2.1 = r := by rw [← hc0]
  have e4 : c0.2.2.2.1 = c.2.2.2.1 := by rw [← hc0]
  have e5 : c0.2.2.2.2.1 = max c.2.2.2.2.1 x.1 := by rw [← hc0]
  rw [e1] at f1; rw [e2] at f2; rw [e3] at f3; rw [e4] at f4; rw [e5] at f5
  rw [hdn0] at hdn'
  rw [hgv0] at hor
  have hI : HM kc c' D' m := ⟨hS', by rw [f2]; exact h.tm, by rw [f4]; exact h.now, by rw [f4, f5]; exact ⟨hmx.1, hmx.2.1⟩, by rw [f3]; omega, x.1, t, hx1, by rw [f4]; exact ht, by rw [f3, hdn']; exact hR⟩
  rcases hor with ⟨hl, hgv⟩ | ⟨o, ho, hok, hl, hgv, hbo⟩
  ·exact ⟨D', c.2.2.2.2.1, hI, f1, f2, f4, by rw [f5]; exact hmx.2.2.1, by rw [hl, hgv]; exact Mz _ _ hg63, by rw [f5]; exact hmx.2.2.1⟩
  ·refine ⟨D', max c.2.2.2.2.1 x.1, hI, f1, f2, f4, by rw [f5]; exact hmx.2.2.1, ?_, by rw [f5]; exact za _⟩
   rw [hl, hgv]
   exact ST hg32 (by
    rcases hok with rfl | hok
    ·omega
    ·rw [e1] at hok; have := Z9 hLk hok; omega) ho hmx.2.2.1 hmx.1 hmx.2.2.2 (by rw [hbo]; rfl)
 | true =>
  rw [hd, hq] at hs
  simp only [zz] at hs
  cases hz : (Vd c.1 c.2.1 (x :: r) c.2.2.2.1).1 == 0 with
  | true => rw [hz] at hs; simp at hs
  | false =>
   rw [hz] at hs
   simp only [ua] at hs
   have hM := JaB hkc (L := c.1) (term := c.2.1) h0 hE ht hd (by simpa using hz)
   generalize Vd c.1 c.2.1 (x :: r) c.2.2.2.1 = b at hs hM hz
   have a0 := hM.at0
   have a1 := hM.at1
   by_cases hneg : b.2.2 < 0
   ·rw [Aa hneg, hM.neg hneg] at hs
    simp only [zz, jc, jh] at hs
    obtain ⟨rfl, rfl⟩ := hs
    rw [hd] at hdn
    have hbk : (Gm c D).testBit k = false := by
     cases hh : (Gm c D).testBit k with
     | false => rfl
     | true => rw [hh] at hdn; simp at hdn
    obtain ⟨p1, p2, p3, p4⟩ := Faq h.s (show k < 24 by omega) hbk (c' := (c.1, c.2.1, yo (jy 1) (x :: r), c.2.2.2.1, max (max c.2.2.2.2.1 x.1) b.2.1, Lc .i64 c.2.2.2.2.2.1 (Ma .i64 1 x.2.1), Tb c, ())) rfl rfl (by rw [hk])
    refine ⟨D ^^^ 2 ^ k, max (max c.2.2.2.2.1 x.1) b.2.1, ⟨p1, h.tm, h.now, ?_, ?_, x.1, t, hx1, ht, ?_⟩, rfl, rfl, rfl, ?_, ?_, za _⟩
    ·show 0 ≤ max (max c.2.2.2.2.1 x.1) b.2.1 ∧ max (max c.2.2.2.2.1 x.1) b.2.1 ≤ c.2.2.2.1
     omega
    ·show r.length ≤ 64
     omega
    ·rw [p2]; exact hR
    ·show c.2.2.2.2.1 ≤ max (max c.2.2.2.2.1 x.1) b.2.1; omega
    ·rw [p3, hk]
     exact ST hg32 (by omega) (by omega) (by omega) (by omega) (by omega) (by rw [p4]; rfl)
   ·obtain ⟨n, S, t', hn1, hn2, hn3, hS0, hdS, hkey, hsome, ht0', hE'⟩ := hM.pos (by omega)
    rw [Ba hneg, hn1] at hs
    simp only [ua, jc, jh] at hs
    obtain ⟨rfl, rfl⟩ := hs
    obtain ⟨p1, p2, p3, p4, p5, p6⟩ := Eaq h.s hsome hkey hS0 (by rw [Nat.and_comm]; exact hdS) (c' := (c.1, c.2.1, yo (jy (n : Int)) (x :: r), c.2.2.2.1, max (max c.2.2.2.2.1 x.1) b.2.1, c.2.2.2.2.2.1, jf (Tb c) [(b.2.2, AA c.1 b.2.2, true, ())], ())) rfl (by rw [hkey]; rfl) rfl
    obtain ⟨o, ho⟩ := jv (show 0 ≤ b.2.2 by omega)
    refine ⟨D, max (max c.2.2.2.2.1 x.1) b.2.1, ⟨p1, h.tm, h.now, ?_, ?_, t', t, by omega, ht, ?_⟩, rfl, rfl, rfl, ?_, ?_, za _⟩
    ·show 0 ≤ max (max c.2.2.2.2.1 x.1) b.2.1 ∧ max (max c.2.2.2.2.1 x.1) b.2.1 ≤ c.2.2.2.1
     omega
    ·show (yo (jy (n : Int)) (x :: r)).length ≤ 64
     rw [qw]
     simp only [jw]
     omega
    ·rw [p2]
     show Zi kc t' (Gm c D ||| S) (yo (jy (n : Int)) (x :: r)) t m
     rw [jn]
     exact hE'
    ·show c.2.2.2.2.1 ≤ max (max c.2.2.2.2.1 x.1) b.2.1; omega
    ·rw [p3, ho, jn]
     rw [ho, jn] at p4
     have hok := Z9 hLk hsome
     exact ST hg32 (by omega) (by omega) (by omega) (by omega) (by omega) (by rw [p4]; rfl)
theorem Ram {kc keys : Nat} (hkc : kc ≤ 24) (hkk : kc ≤ keys) {m : Nat} : ∀ (n : Nat) (c : Ea) (D : Nat), HM kc c D m → (∀ x ∈ c.1, x.2.1 < (keys : Int)) → ∃ (D' : Nat) (t' : Int), HM kc (Mb n c []).1 D' m ∧ (Mb n c []).1.1 = c.1 ∧ (Mb n c []).1.2.1 = c.2.1 ∧ (Mb n c []).1.2.2.2.1 = c.2.2.2.1 ∧ c.2.2.2.2.1 ≤ (Mb n c []).1.2.2.2.2.1 ∧
 Zi keys c.2.2.2.2.1 (Hi c D) (Mb n c []).2 t' (Hi (Mb n c []).1 D') ∧ t' ≤ (Mb n c []).1.2.2.2.2.1
 | 0, c, D, h, hLk => by
  have hg32 := (O1 h.s).2
  have hg63 : Hi c D < 2 ^ 63 := by
   have p32 : (2 : Nat) ^ 32 = 4294967296 := by decide
   have := Yt
   omega
  exact ⟨D, c.2.2.2.2.1, h, rfl, rfl, rfl, za _, Mz _ _ hg63, za _⟩
 | n + 1, c, D, h, hLk => by
  have hg32 := (O1 h.s).2
  have hg63 : Hi c D < 2 ^ 63 := by
   have p32 : (2 : Nat) ^ 32 = 4294967296 := by decide
   have := Yt
   omega
  cases hq : c.2.2.1 with
  | nil =>
   have e : Mb (n + 1) c [] = (c, []) := by simp only [Mb, hq]
   rw [e]
   exact ⟨D, c.2.2.2.2.1, h, rfl, rfl, rfl, za _, Mz _ _ hg63, za _⟩
  | cons x r =>
   cases hst : Rf c x r with
   | none =>
    have e : Mb (n + 1) c [] = (c, []) := by simp only [Mb, hq, hst]
    rw [e]
    exact ⟨D, c.2.2.2.2.1, h, rfl, rfl, rfl, za _, Mz _ _ hg63, za _⟩
   | some p =>
    obtain ⟨c1, l⟩ := p
    obtain ⟨D1, t1, i1, i2, i3, i4, i5, i6, i7⟩ := Pam hkc hkk h hLk hq hst
    obtain ⟨D2, t2, j1, j2, j3, j4, j5, j6, j7⟩ := Ram hkc hkk n c1 D1 i1 (by rw [i2]; exact hLk)
    have e : Mb (n + 1) c [] = ((Mb n c1 []).1, l ++ (Mb n c1 []).2) := by
     have : Mb (n + 1) c [] = Mb n c1 (jf [] l) := by simp only [Mb, hq, hst]
     rw [this, RE]
     simp
    rw [e]
    obtain ⟨t3, ht3, hE3⟩ := Pu j6 i7
    exact ⟨D2, t3, j1, j2.trans i2, j3.trans i3, j4.trans i4, Int.le_trans i5 j5, VO i6 hE3, Int.le_trans ht3 j7⟩
theorem Hae {q : List Ca} {d : Int} {kc : Nat} (hkc : kc ≤ 24) (h : Rc q d (kc : Int) = true) : Rc q d 24 = true := by
 unfold Rc JP at h ⊢
 rw [jd] at h ⊢
 refine ⟨?_, h.2⟩
 have h1 := (Dl (p := fun x : Ca => !decide (x.2.1 ≥ (kc : Int)))).1 h.1
 refine (Dl (p := fun x : Ca => !decide (x.2.1 ≥ (24 : Int)))).2 fun x hx => ?_
 have h2 := h1 x hx
 simp only [yx, decide_eq_false_iff_not] at h2 ⊢
 omega
theorem A1 {kc : Nat} (hkc : kc ≤ 24) {c : Ea} {D m : Nat} (h : HM kc c D m) : Md c = true := by
 obtain ⟨t0, t, h0, ht, hE⟩ := h.q
 have hd := W3 h.s
 have hF := YV hE h0 h.len
 have hB := RM hE ht
 have hA : PE c = true := (N0 c.1 (Tb c) []).2 ⟨h.s.ok, fun x _ y hy => by simp at hy, h.s.nd⟩
 have hS : CV c = true := by
  unfold CV
  rw [h.s.d]
  exact (Vaq _ _ _ h.s.d24 h.s.m).2 ((Faa _ _).2 ⟨h.s.dm, h.s.pm⟩)
 have a1 := h.tm
 have a2 := h.now
 have a3 := h.clk
 have a4 : 0 ≤ c.2.2.2.2.2.1 ∧ c.2.2.2.2.2.1 ≤ 16777215 := by
  rw [h.s.d]
  have := h.s.d24
  have := p24
  omega
 unfold Md
 rw [h.s.cb, hA, hS, hd.1, hB, Aa a1, Aa a2, Aa a3, Aa a4]
 have : Rc c.2.2.1 ((Gm c D : Nat) : Int) 24 = true := Hae hkc hF
 rw [this]
 rfl
theorem U9 {kc : Nat} (hkc : kc ≤ 24) {c : Ea} {D m m2 : Nat} {l : List Ca} {t2 til : Int} (h : HM kc c D m) (hL : Zi kc c.2.2.2.1 m l t2 m2) (ht : t2 ≤ til) (h6 : til ≤ 1000000) (hlen : c.2.2.1.length + l.length ≤ 64) : CB c l til = true ∧ HM kc (Oj c l til) D m2 := by
 obtain ⟨t0, t, h0, htn, hE⟩ := h.q
 have hn := NF hL
 have hnow := h.now
 have hclk := h.clk
 obtain ⟨t', ht', hL'⟩ := Pu hL htn
 have hC := VO hE hL'
 have hd := W3 h.s
 have hF := YV hC h0 (by rw [qh]; omega)
 refine ⟨?_, ⟨h.s.d, h.s.d24, h.s.m, h.s.ok, h.s.nd, h.s.dm, h.s.pm, h.s.cb⟩, h.tm, ?_, ?_, ?_, t0, t', h0, ?_, hC⟩
 ·unfold CB
  rw [A1 hkc h, Aa (show c.2.2.2.1 ≤ til ∧ til ≤ 1000000 by omega), Iaa hL, RM hL ht, hd.1]
  have : Rc (jf c.2.2.1 l) ((Gm c D : Nat) : Int) 24 = true := Hae hkc hF
  rw [this]
  rfl
 ·show 0 ≤ til ∧ til ≤ 1000000; omega
 ·show 0 ≤ c.2.2.2.2.1 ∧ c.2.2.2.2.1 ≤ til; omega
 ·show (jf c.2.2.1 l).length ≤ 64
  rw [zv, qh]
  exact hlen
 ·show t' ≤ til; omega
structure BQ (keys : Nat) (d : Eb) (m : Nat) : Prop where
 i : US keys d
 ex : ∃ (t0 t : Int) (m0 : Nat), Bn d.1.2.2.2.1 m0 ∧ Zi keys t0 m0 d.2.2.1 t m ∧ 0 ≤ t0 ∧ t ≤ d.2.2.2.1
theorem Han {keys m : Nat} {d d' : Eb} {x : Ca} {r : List Ca} {l : List Ra} (h : BQ keys d m) (hq : d.2.2.1 = x :: r) (hs : Xj d x r = some (d', l)) : BQ keys d' m := by
 obtain ⟨hI, hr, hn, _, _⟩ := Fan h.i hq hs
 have hF := ZQ h.i.pl hq
 obtain ⟨t0, t, m0, hm, hE, h0, ht⟩ := h.ex
 rw [hq] at hE
 obtain ⟨k, hk, hkk, hk31, hx0, hx1, hx2, hdn, hR⟩ := Fj hE
 have hp := ((CE d.1.2.2.2.1).1 h.i.pl.eng.hd).2
 refine ⟨hI, x.1, t, m0 ^^^ 2 ^ k, ?_, by rw [hr]; exact hR, hx1, by rw [hn]; exact ht⟩
 have press : ∀ b : Bool, x.2.2.1 = true → Bn (pE d.1 k b).2.2.2.1 (m0 ^^^ 2 ^ k) := by
  intro b hd
  have hn2 := hF.down hd
  refine TR hm (by omega) ?_ _
  cases hh : Oo d.1.2.2.2.1 k with
  | false => rfl
  | true =>
   simp only [Oo, yf, beq_iff_eq] at hh
   obtain ⟨y, hy, hyk⟩ := hh
   exact absurd (hyk.trans hk.symm) (hn2 y hy)
 unfold Xj at hs
 cases hd : x.2.2.1 with
 | false =>
  rw [hd] at hs
  simp only [qc, zz, jc, jh] at hs
  obtain ⟨rfl, rfl⟩ := hs
  obtain ⟨hi, hi1, hi2⟩ := hF.up hd
  exact OL hp hm (by omega) hi (by rw [hi2, hk])
 | true =>
  rw [hd, hk] at hs
  simp only [jg, ua, jn] at hs
  cases htp : Jg (Pl d.1.1.2.1 (Vj d.1.1 (Ho d.1.2.2.1 d.1.2.2.2.1) k) k) with
  | false =>
   rw [htp] at hs
   simp only [ua, jc, jh] at hs
   obtain ⟨rfl, rfl⟩ := hs
   exact press false hd
  | true =>
   rw [htp] at hs
   simp only [zz] at hs
   revert hs
   generalize (cond ((d.2.2.2.2.2.1 == j9 .i64 ((k : Int) + 1)) && !decide (j9 .i64 (x.1 - d.2.2.2.2.2.2.1) ≥ d.2.1.2.1)) ((1 : Int), x.1) ((Xg d.2.1 (k : Int) x.1 r d.2.2.2.1).1, (Xg d.2.1 (k : Int) x.1 r d.2.2.2.1).2.1)) = ch
   intro hs
   cases h0' : ch.1 == 0 with
   | true => rw [h0'] at hs; simp at hs
   | false =>
    rw [h0'] at hs
    simp only [ua, jc, jh] at hs
    obtain ⟨rfl, rfl⟩ := hs
    exact press _ hd
theorem Eaa {keys m : Nat} : ∀ (n : Nat) (d : Eb) (s : List Sd), BQ keys d m → BQ keys (Fd n d s).1 m
 | 0, d, s, h => h
 | n + 1, d, s, h => by
  cases hq : d.2.2.1 with
  | nil =>
   have e : Fd (n + 1) d s = (d, s) := by simp only [Fd, hq]
   rw [e]; exact h
  | cons x r =>
   cases hst : Xj d x r with
   | none =>
    have e : Fd (n + 1) d s = (d, s) := by simp only [Fd, hq, hst]
    rw [e]; exact h
   | some p =>
    obtain ⟨d', l⟩ := p
    have e : Fd (n + 1) d s = Fd n d' (Lp s d'.2.2.2.2.1 l) := by simp only [Fd, hq, hst]
    rw [e]
    exact Eaa n d' _ (Han h hq hst)
theorem Gan {keys m m2 : Nat} {d : Eb} (h : BQ keys d m) {l : List Ca} {t til : Int} (hL : Zi keys d.2.2.2.1 m l t m2) (hlen : d.2.2.1.length + l.length ≤ 64) (ht : t ≤ til) (h6 : til ≤ 1000000) :
 Yw d l til = true ∧ BQ keys (Si d l til) m2 := by
 obtain ⟨t0, tq, m0, hm, hE, h0, htq⟩ := h.ex
 obtain ⟨h1, h2⟩ := Ean h.i hm h0 hE htq hL hlen ht h6
 obtain ⟨t', ht', hL'⟩ := Pu hL htq
 have hn := NF hL
 exact ⟨h1, h2, t0, t', m0, hm, VO hE hL', h0, by show t' ≤ til; omega⟩
theorem MaF {keys : Nat} {t t' : Int} {g o : Nat} {b : Bool} (hg : g < 2 ^ 63) (hk : o < keys) (ho : o ≤ 31) (h0 : t ≤ t') (h1 : 0 ≤ t') (h2 : t' ≤ 1000000) (hb : (b == g.testBit o) = false) : Zi keys t g [(t', (o : Int), b, ())] t' (g ^^^ 2 ^ o) := by
 have hp := Ye (show o ≤ 62 by omega)
 refine ⟨?_, hg, qs hg hp⟩
 simp only [Wa]
 unfold Hm Jj Fg
 simp only
 rw [Qj hg (by omega), hb, Aa (show 0 ≤ t' ∧ t' ≤ 1000000 by omega), Aa (show (0 : Int) ≤ (o : Int) ∧ (o : Int) ≤ 31 by omega), Ba (show ¬ t > t' by omega), Ba (show ¬ (o : Int) ≥ (keys : Int) by omega), Ve (by omega), Vm hg hp]
 rfl
theorem Yaj {kc a b : Nat} (hkc : kc ≤ 24) (ha : a < 2 ^ kc) (hb : b < 2 ^ kc) {t0 t : Int} (h0 : t0 ≤ t) (h1 : 0 ≤ t) (h2 : t ≤ 1000000) : ∃ t', t' ≤ t ∧ Zi kc t0 a (UO (a : Int) (b : Int) t) t' b := by
 have hpk : 2 ^ kc ≤ 2 ^ 24 := qo (by omega) hkc
 have h63a : a < 2 ^ 63 := by have := p24; have := Yt; omega
 have h63b : b < 2 ^ 63 := by have := p24; have := Yt; omega
 have key : ∀ n, n ≤ 32 → ∃ (t' : Int) (m : Nat), t' ≤ t ∧ Zi kc t0 a (Yd (PC (a : Int) (b : Int) t) n []) t' m ∧ ∀ j, m.testBit j = cond (decide (j < n)) (b.testBit j) (a.testBit j) := by
  intro n
  induction n with
  | zero => intro _; exact ⟨t0, a, h0, Mz _ _ h63a, fun j => by simp⟩
  | succ n ih =>
   intro hn
   obtain ⟨t', m, ht', hE, hm⟩ := ih (by omega)
   simp only [Yd]
   unfold PC at hE ⊢
   rw [L9 h63a h63b (by omega), Qj h63b (by omega), qp]
   cases hd : a.testBit n ^^ b.testBit n with
   | false =>
    refine ⟨t', m, ht', hE, fun j => ?_⟩
    rw [hm]
    by_cases hj : j < n
    ·rw [Aa hj, Aa (show j < n + 1 by omega)]
    ·rw [Ba hj]
     by_cases hj2 : j < n + 1
     ·rw [Aa hj2]
      have : j = n := by omega
      subst this
      simp only [ua, zz]
      cases h3 : a.testBit j <;> cases h4 : b.testBit j <;> rw [h3, h4] at hd <;> first | rfl | simp at hd
     ·rw [Ba hj2]
   | true =>
    have hn24 : n < kc := by
     apply Classical.byContradiction
     intro hc
     have e1 : a.testBit n = false := zu (qn ha (qo (by omega) (by omega)))
     have e2 : b.testBit n = false := zu (qn hb (qo (by omega) (by omega)))
     rw [e1, e2] at hd
     simp at hd
    have hmn : m.testBit n = a.testBit n := by rw [hm, Ba (by omega)]; rfl
    have hs := MaF (keys := kc) (t := t') (t' := t) (g := m) (o := n) (b := b.testBit n) hE.m hn24 (by omega) ht' h1 h2 (by
     rw [hmn]
     cases h3 : a.testBit n <;> cases h4 : b.testBit n <;> rw [h3, h4] at hd <;> first | rfl | simp at hd)
    refine ⟨t, m ^^^ 2 ^ n, za _, ?_, fun j => ?_⟩
    ·simp only [zz]
     exact VO hE hs
    ·rw [qp, qq, hm]
     by_cases hj : j = n
     ·subst hj
      rw [Aa rfl, Ba (show ¬ j < j by omega), Aa (show j < j + 1 by omega)]
      simp only [ua, zz]
      cases h3 : a.testBit j <;> cases h4 : b.testBit j <;> rw [h3, h4] at hd <;> first | rfl | simp at hd
     ·rw [show decide (n = j) = false from decide_eq_false (fun e => hj e.symm)]
      by_cases hj2 : j < n
      ·rw [Aa hj2, Aa (show j < n + 1 by omega)]; simp
      ·rw [Ba hj2, Ba (show ¬ j < n + 1 by omega)]; simp
 obtain ⟨t', m, ht', hE, hm⟩ := key 32 (jo _)
 have : m = b := by
  apply zp; intro j
  rw [hm]
  by_cases hj : j < 32
  ·rw [Aa hj]; rfl
  ·rw [Ba hj]
   have e1 : a.testBit j = false := zu (qn ha (qo (by omega) (by omega)))
   have e2 : b.testBit j = false := zu (qn hb (qo (by omega) (by omega)))
   rw [e1, e2]; rfl
 subst this
 exact ⟨t', ht', hE⟩
noncomputable def NO (s : Vb × List Sd) (x : Int) : (Vb × List Sd) ⊕ Unit :=
 cond (Uf s.1 x).2.2.1 (.inl ((Uf s.1 x).1, jf s.2 (Uf s.1 x).2.1)) (.inr ())
noncomputable def Cav (b : Vb) (l : List Int) : Vb × ((List Sd) × (Bool × Unit)) :=
 cond (Rj b && !decide (((ja l : Nat) : Int) > 200)) (match Wa (fun _ s x => NO s x) 0 (b, []) l with | .inl s => (s.1, s.2, true, ()) | .inr _ => (GG, [], false, ())) (GG, [], false, ())
structure Rai (k : Nat) (s : Vb × List Sd) : Prop where
 sz : Co s.1
 len : s.2.length ≤ 1088 * k
 rep : ∀ y ∈ s.2, y.2.1.2.1.length ≤ 56
theorem AaC {k : Nat} {s s' : Vb × List Sd} {x : Int} (h : Rai k s) (hs : NO s x = .inl s') : Rai (k + 1) s' ∧ Jc Af s'.1 ≤ 3000 := by
 have ht := H5 s.1 x h.sz
 unfold NO at hs
 cases h1 : (Uf s.1 x).2.2.1 with
 | false => rw [h1] at hs; simp at hs
 | true =>
  rw [h1] at hs
  simp only [zz, zk] at hs
  subst hs
  refine ⟨⟨ht.1, ?_, fun y hy => ?_⟩, ht.2.1⟩
  ·have := h.len
   have e : (jf s.2 (Uf s.1 x).2.1).length = s.2.length + (Uf s.1 x).2.1.length := by simp
   show (jf s.2 (Uf s.1 x).2.1).length ≤ _
   omega
  ·rcases jl.1 (show y ∈ s.2 ++ (Uf s.1 x).2.1 from hy) with hy | hy
   ·exact h.rep y hy
   ·exact ht.2.2.2 y hy
theorem ZaB {k : Nat} {s : Vb × List Sd} (h : Rai k s) (hk : k < 200) (x : Int) : jx (ja s.2 + ja (Uf s.1 x).2.1) Xa = true := by
 have h1 := h.len
 have h2 := (H5 s.1 x h.sz).2.2.1
 exact ji (by rw [Tf]; omega)
theorem Dad (b : Vb) (l : List Int) (hb : Co b) : Fw b l = some (Cav b l) := by
 unfold Fw Cav
 rw [PF b hb, OJ b hb]
 cases h1 : Rj b with
 | false => rfl
 | true =>
  by_cases h2 : ((ja l : Nat) : Int) > 200
  ·rw [Aa h2]; rfl
  ·rw [Ba h2]
   simp only [jb, jg, qc, ua, zz, jk]
   have hl := Wg (step := fun x => Cs x.1.1 x.1.2.1 x.1.2.2.1 x.1.2.2.2.1 x.1.2.2.2.2.1 x.1.2.2.2.2.2.1 x.2.1 x.2.2.1) l (fun _ s x => NO s x)
    (fun s i => (((), (), s.2, l, ((ja l : Nat) : Int), i, ()), (GG, s.1, ()))) (fun s => .inl (((), (), s.2, ()), (GG, s.1, ()))) (fun _ => .inr (((), ([] : List Sd), false, ()), (GG, ())))
    (fun k s => Rai k s) (by
     intro k hk s hs
     refine ⟨?_, fun s' hs' => (AaC hs hs').1⟩
     simp only [Cs]
     rw [Aa (show (k : Int) < ((ja l : Nat) : Int) by omega), Ub hk]
     simp only [zz, jb]
     show jz (Ui s.1 l[k]) _ = _
     rw [IL _ _ hs.sz]
     simp only [jb]
     rw [ZaB hs (by omega)]
     unfold NO
     cases (Uf s.1 l[k]).2.2.1 <;> rfl) (by
     intro s hs
     simp only [Cs]
     rw [Ba (by omega)]; rfl) (by omega) (b, []) ⟨hb, by simp, by simp⟩
   unfold Su
   erw [hl]
   cases Wa (fun _ s x => NO s x) 0 (b, []) l <;> rfl
structure Ear (b : Vb) (kc keys : Nat) (g : Nat) : Prop where
 mat : Jf b.1 = true
 kc1 : Dc b.1 = (kc : Int)
 kc2 : kc ≤ 24
 kk : kc ≤ keys
 k32 : keys ≤ 32
 db : Gd b.2.1 = true
 dk : b.2.1.2.2.1 = (kc : Int)
 acc : Ic b.1 b.2.2.2.2.1 = true
 cmb : ∀ x ∈ b.2.2.1.1, Ic b.1 x.1 = true ∧ x.2.1 < (keys : Int)
 cb : ∃ D m, HM kc b.2.2.1 D m ∧ b.2.1.2.2.2.1 = (m : Int) ∧ Hi b.2.2.1 D = g
 dc : BQ keys b.2.2.2.1 g
 t : 0 ≤ b.2.2.2.2.2.1 ∧ b.2.2.2.2.2.1 ≤ 1000000
 cn : b.2.2.1.2.2.2.1 ≤ b.2.2.2.2.2.1
 dn : b.2.2.2.1.2.2.2.1 ≤ b.2.2.2.2.2.1
theorem Iay {keys : Nat} {l : List Ca} {t0 t : Int} {m0 m : Nat} (h : Zi keys t0 m0 l t m) : EV (m0 : Int) l = (m : Int) := by
 have := Eae 0 h
 unfold EV Z6
 exact this
theorem OM {b : Vb} {kc keys g : Nat} (h : Ear b kc keys g) : Rj b = true := by
 obtain ⟨D, m, hC, hm, hg⟩ := h.cb
 obtain ⟨t0, t, h0, ht, hE⟩ := hC.q
 obtain ⟨s0, s, m0, hmk, hE2, hs0, hs⟩ := h.dc.ex
 obtain ⟨m1, hm1, hm1'⟩ := FW h.dc.i.pl.eng.hd
 obtain rfl := LU hmk hm1'
 have e1 : EV (Al b.2.2.1) b.2.2.1.2.2.1 = (m : Int) := by rw [(W3 hC.s).1]; exact Iay hE
 have e2 : EV (Kp b.2.2.2.1.1.2.2.2.1) b.2.2.2.1.2.2.1 = D6 b.2.2.1 := by rw [hm1, (O1 hC.s).1, hg]; exact Iay hE2
 have hk := h.dc.i.ks
 have hkk := h.kk
 have hcn := h.cn
 have hdn := h.dn
 have hin : LL b.1 b.2.2.2.1.1.1.1 b.2.2.1.1 = true := by
  unfold LL
  refine (Dl (p := fun x : Na => Ic b.1 x.1 && !decide (x.2.1 ≥ b.2.2.2.1.1.1.1))).2 fun x hx => ?_
  obtain ⟨h1, h2⟩ := h.cmb x hx
  rw [h1, Ba (by omega)]
  rfl
 unfold Rj
 rw [h.mat, h.db, A1 h.kc2 hC, Dan h.dc.i, h.acc, hin, e1, e2, hm, h.dk, h.kc1, Aa h.t, Ba (show ¬ b.2.2.2.1.1.1.1 < (kc : Int) by omega), Ba (show ¬ b.2.2.1.2.2.2.1 > b.2.2.2.2.2.1 by omega), Ba (show ¬ b.2.2.2.1.2.2.2.1 > b.2.2.2.2.2.1 by omega)]
 simp
theorem Paj {c c' : Ea} {x : Ca} {r l : List Ca} (hs : Rf c x r = some (c', l)) : l.length ≤ 1 := by
 unfold Rf at hs
 revert hs
 cases x.2.2.1 with
 | false =>
  intro hs
  simp only [ua, jc] at hs
  have : l = (Fu (c.1, c.2.1, r, c.2.2.2.1, max c.2.2.2.2.1 x.1, c.2.2.2.2.2) x.2.1 (max c.2.2.2.2.1 x.1)).2 := by rw [hs]
  rw [this]
  unfold Fu
  split
  ·simp
  ·unfold LI
   cases (((Tb (c.1, c.2.1, r, c.2.2.2.1, max c.2.2.2.2.1 x.1, c.2.2.2.2.2)).getD (KH (c.1, c.2.1, r, c.2.2.2.1, max c.2.2.2.2.1 x.1, c.2.2.2.2.2) x.2.1).toNat IV).2.2.1) <;> simp
 | true =>
  simp only [zz]
  cases (Vd c.1 c.2.1 c.2.2.1 c.2.2.2.1).1 == 0 with
  | true => intro hs; simp at hs
  | false =>
   simp only [ua]
   cases decide ((Vd c.1 c.2.1 c.2.2.1 c.2.2.2.1).2.2 < 0) with
   | true =>
    intro hs
    simp only [zz, jc, jh] at hs
    rw [← hs.2]; simp
   | false =>
    intro hs
    simp only [ua, jc, jh] at hs
    rw [← hs.2]; simp
theorem Q5 : ∀ (n : Nat) (c : Ea), (Mb n c []).2.length + (Mb n c []).1.2.2.1.length ≤ c.2.2.1.length
 | 0, c => by simp [Mb]
 | n + 1, c => by
  cases hq : c.2.2.1 with
  | nil => simp only [Mb, hq]; simp
  | cons x r =>
   cases hst : Rf c x r with
   | none => simp only [Mb, hq, hst]; simp
   | some p =>
    obtain ⟨c', l⟩ := p
    have h1 := Paj hst
    have h2 := (Qam hq hst).2
    have ih := Q5 n c'
    simp only [Mb, hq, hst]
    rw [RE n c' (jf [] l)]
    simp only [zv, List.nil_append, qh, jw]
    omega
theorem Daa {d : Rb} (raw : Int) : ∀ (l : List Int) (k : Nat) (s : Int × List Int), (∀ x ∈ l, 0 ≤ x ∧ x ≤ 99) → (∀ x ∈ s.2, 0 ≤ x ∧ x ≤ 99) → ∀ x ∈ (Bd (fun k s x => BE d raw k s x) k s l).2, 0 ≤ x ∧ x ≤ 99
 | [], _, s, _, hs => hs
 | y :: l, k, s, hl, hs => by
  have hy := hl y (by simp)
  simp only [Bd]
  refine Daa raw l (k + 1) _ (fun x hx => hl x (by simp [hx])) fun x hx => ?_
  rcases jl.1 (show x ∈ s.2 ++ [cond (Sp d raw k y && (d.1 == 2)) 0 (UG d raw k y)] from hx) with hx | hx
  ·exact hs x hx
  ·simp only [qg] at hx
   subst hx
   have hA : 0 ≤ UG d raw k y ∧ UG d raw k y ≤ 99 := by
    unfold UG
    rw [Qc (n := y + 1) (by omega) (by omega)]
    cases (d.1 == 0) && (Wd raw (k : Int) != Wd d.2.2.2.2.1 (k : Int)) with
    | true => show 0 ≤ (1 : Int) ∧ (1 : Int) ≤ 99; omega
    | false =>
     cases (d.1 == 1) && (raw != d.2.2.2.2.1) with
     | true => show 0 ≤ (1 : Int) ∧ (1 : Int) ≤ 99; omega
     | false => show 0 ≤ min (y + 1) 99 ∧ min (y + 1) 99 ≤ 99; omega
   cases Sp d raw k y && (d.1 == 2) with
   | true => show 0 ≤ (0 : Int) ∧ (0 : Int) ≤ 99; omega
   | false => exact hA
theorem PT {d : Rb} {raw : Int} (h : MC d raw = true) : Gd (JF d raw).1 = true := by
 have h' := h
 unfold MC at h'
 rw [jd] at h'
 obtain ⟨hd, hr⟩ := h'
 have hP := ED hd
 have hI := Zad hP raw
 unfold JF
 rw [h]
 simp only [Gd, jd, decide_eq_true_eq, beq_iff_eq] at hd
 obtain ⟨d1, d2, d3, d4, d5, d6, d7⟩ := hd
 have hag : WJ (IF d raw).2 = true := by
  unfold WJ at d7 ⊢
  have h1 := (Dl (p := fun x : Int => decide ((0 : Int) ≤ x ∧ x ≤ 99))).1 d7
  refine (Dl (p := fun x : Int => decide ((0 : Int) ≤ x ∧ x ≤ 99))).2 fun x hx => ?_
  have := Daa (d := d) raw d.2.2.2.2.2.1 0 (d.2.2.2.1, []) (fun y hy => by simpa using h1 y hy) (fun y hy => by simp at hy) x hx
  simpa using this
 have hl := hI.len
 simp only [zz]
 unfold Gd
 simp only
 rw [Aa d1, Aa d2, Aa d3, hI.sh, hr, hag, hl]
 simp [d4]
theorem Xw (L : List Na) (set : Int) (n : Nat) (a : Int) : (DA L set (n + 1) a).1 ≠ 0 ∧ (DA L set (n + 1) a).2.1 = a := by
 unfold DA
 cases decide ((Bf L set).1 ≥ 0) with
 | true => exact ⟨by show ((n + 1 : Nat) : Int) ≠ 0; omega, rfl⟩
 | false => exact ⟨by show (1 : Int) ≠ 0; omega, rfl⟩
theorem Rab {L : List Na} {e t1 : Int} (he : t1 ≤ e) : ∀ (l : List Ca) (k : Nat) (s : Int), (∀ x ∈ l, t1 ≤ x.1) → ∀ b, Wa (fun k s x => Yr L e k s x) k s l = .inr b →
 (match b with
  | .inl b => t1 ≤ (DA L b.1 b.2.1 b.2.2).2.1
  | .inr b => b.1 ≠ 0 → t1 ≤ b.2.1)
 | [], k, s, _, b, h => by simp [Wa] at h
 | x :: l, k, s, hl, b, h => by
  have hx := hl x (by simp)
  simp only [Wa] at h
  cases hg : Yr L e k s x with
  | inl s' => rw [hg] at h; exact Rab he l (k + 1) s' (fun y hy => hl y (by simp [hy])) b h
  | inr b' =>
   rw [hg] at h
   simp only [zl] at h
   subst h
   unfold Yr at hg
   revert hg
   have m1 := Xw L s k e
   have m2 := Xw L s k x.1
   cases Ak x <;> cases decide (x.1 ≥ e) <;> cases x.2.2.1 <;> cases Sh L (Lc .i64 s (Ma .i64 1 x.2.1)) <;> cases (decide ((Bf L (Lc .i64 s (Ma .i64 1 x.2.1))).1 ≥ 0) && !(Bf L (Lc .i64 s (Ma .i64 1 x.2.1))).2) <;>
    simp only [zz, ua, zl, reduceCtorEq, false_implies] <;> (intro hg; subst hg; simp only) <;> first | (rw [m1.2]; exact he) | (rw [m2.2]; exact hx) | (intro _; exact hx) | (intro h0; exact absurd rfl h0)
theorem GO {α S R : Type} (g : Nat → S → α → S ⊕ R) : ∀ (l : List α) (k : Nat) (s : S) (r : R), Wa g k s l = .inr r → ∃ j s' x, x ∈ l ∧ g j s' x = .inr r
 | [], k, s, r, h => by simp [Wa] at h
 | x :: l, k, s, r, h => by
  simp only [Wa] at h
  cases hx : g k s x with
  | inr r' =>
   rw [hx] at h
   simp only [zl] at h
   subst h
   exact ⟨k, s, x, by simp, hx⟩
  | inl s1 =>
   rw [hx] at h
   obtain ⟨j, s2, y, h1, h2⟩ := GO g l (k + 1) s1 r h
   exact ⟨j, s2, y, by simp [h1], h2⟩
theorem Tap {L : List Na} {e set t1 t2 : Int} {r l : List Ca} (hl : ∀ x ∈ l, t1 ≤ x.1) (h0 : (JE L e t1 set r).1 = 0) (hsw : ∀ x ∈ r, Ak x = true) (h2 : (JE L e t2 set (r ++ l)).1 ≠ 0) : t1 ≤ (JE L e t2 set (r ++ l)).2.1 := by
 revert h0 h2
 unfold JE
 rw [TH (fun k s x => Yr L e k s x)]
 cases hc : Wa (fun k s x => Yr L e k s x) 0 set r with
 | inr b =>
  intro h0
  exfalso
  obtain ⟨j, s', x, hxm, hg⟩ := GO _ r 0 set b hc
  cases b with
  | inl b =>
   have : ∃ n, b.2.1 = n + 1 := by
    unfold Yr at hg
    revert hg
    cases Ak x <;> cases decide (x.1 ≥ e) <;> cases x.2.2.1 <;> cases Sh L (Lc .i64 s' (Ma .i64 1 x.2.1)) <;> cases (decide ((Bf L (Lc .i64 s' (Ma .i64 1 x.2.1))).1 ≥ 0) && !(Bf L (Lc .i64 s' (Ma .i64 1 x.2.1))).2) <;>
     simp only [zz, ua, zl, zk, reduceCtorEq, false_implies] <;> (intro hg; subst hg; exact ⟨j, rfl⟩)
   obtain ⟨n, hn⟩ := this
   simp only at h0
   rw [hn] at h0
   exact (Xw L b.1 n b.2.2).1 h0
  | inr b =>
   have hs := hsw x hxm
   unfold Yr at hg
   rw [hs] at hg
   have h0' : b.1 = 0 := h0
   revert hg
   cases decide (x.1 ≥ e) <;> cases x.2.2.1 <;> cases Sh L (Lc .i64 s' (Ma .i64 1 x.2.1)) <;> cases (decide ((Bf L (Lc .i64 s' (Ma .i64 1 x.2.1))).1 ≥ 0) && !(Bf L (Lc .i64 s' (Ma .i64 1 x.2.1))).2) <;>
    simp only [zz, ua, zl, reduceCtorEq, false_implies] <;> (intro hg; subst hg; have : ((j + 2 : Nat) : Int) = 0 := h0'; omega)
 | inl s =>
  intro h0
  have h0' : (cond (decide (t1 < e)) ((0 : Int), (0 : Int), (-1 : Int)) (DA L s (r.length + 1) e)).1 = 0 := h0
  by_cases h1 : t1 < e
  ·simp only
   cases hc2 : Wa (fun k s x => Yr L e k s x) (0 + r.length) s l with
   | inl s2 =>
    simp only
    intro h2
    by_cases h3 : t2 < e
    ·rw [Aa h3] at h2; exact absurd rfl h2
    ·rw [Ba h3]
     simp only [ua]
     rw [(Xw L s2 ((r ++ l).length) e).2]
     omega
   | inr b =>
    have := Rab (show t1 ≤ e by omega) l _ s hl b hc2
    cases b with
    | inl b => intro _; exact this
    | inr b => intro h2; exact this h2
  ·rw [Ba h1] at h0'
   exact absurd h0' (Xw L s r.length e).1
def TJ (c : Ea) : Prop := ∀ x r, c.2.2.1 = x :: r → Rf c x r = none
theorem YW : ∀ (n : Nat) (c : Ea), c.2.2.1.length ≤ n → TJ (Mb n c []).1
 | 0, c, hn => by
  intro x r hq
  have h : c.2.2.1 = x :: r := hq
  rw [h] at hn
  simp at hn
 | n + 1, c, hn => by
  cases hq : c.2.2.1 with
  | nil =>
   have e : Mb (n + 1) c [] = (c, []) := by simp only [Mb, hq]
   rw [e]
   intro x r h
   rw [hq] at h
   simp at h
  | cons x r =>
   cases hst : Rf c x r with
   | none =>
    have e : Mb (n + 1) c [] = (c, []) := by simp only [Mb, hq, hst]
    rw [e]
    intro x' r' h
    rw [hq] at h
    simp only [yv] at h
    obtain ⟨rfl, rfl⟩ := h
    exact hst
   | some p =>
    obtain ⟨c', l⟩ := p
    have h2 := (Qam hq hst).2
    rw [hq] at hn
    simp only [jw] at hn
    have ih := YW n c' (by omega)
    have e : (Mb (n + 1) c []).1 = (Mb n c' []).1 := by
     have : Mb (n + 1) c [] = Mb n c' (jf [] l) := by simp only [Mb, hq, hst]
     rw [this, RE]
    rw [e]
    exact ih
theorem Sak {L : List Na} {term t1 t2 : Int} {x : Ca} {r l : List Ca} (hl : ∀ y ∈ l, t1 ≤ y.1) (hsw : ∀ y ∈ r, Ak y = true) (h0 : (Vd L term (x :: r) t1).1 = 0) (h2 : (Vd L term (x :: (r ++ l)) t2).1 ≠ 0) : t1 ≤ (Vd L term (x :: (r ++ l)) t2).2.1 := by
 revert h0 h2
 unfold Vd
 simp only
 cases Qe L && (decide (1 ≤ term ∧ term ≤ 200) && (Ak x && x.2.2.1)) with
 | false => intro _ h2; exact absurd rfl h2
 | true =>
  simp only [zz]
  cases Sh L (Ma .i64 1 x.2.1) with
  | false => intro h0; exact absurd (show (1 : Int) = 0 from h0) (by omega)
  | true =>
   simp only [zz]
   intro h0 h2
   exact Tap hl h0 hsw h2
theorem Uas {c c' : Ea} {x : Ca} {r l : List Ca} (hs : Rf c x r = some (c', l)) : c.2.2.2.2.1 ≤ c'.2.2.2.2.1 ∧ x.1 ≤ c'.2.2.2.2.1 ∧ (x.2.2.1 = true → (Vd c.1 c.2.1 c.2.2.1 c.2.2.2.1).2.1 ≤ c'.2.2.2.2.1 ∧ (Vd c.1 c.2.1 c.2.2.1 c.2.2.2.1).1 ≠ 0) := by
 unfold Rf at hs
 revert hs
 cases hd : x.2.2.1 with
 | false =>
  intro hs
  simp only [ua, jc] at hs
  obtain ⟨_, _, _, _, f5⟩ := VN (c.1, c.2.1, r, c.2.2.2.1, max c.2.2.2.2.1 x.1, c.2.2.2.2.2) x.2.1 (max c.2.2.2.2.1 x.1)
  rw [hs] at f5
  have f5' : c'.2.2.2.2.1 = max c.2.2.2.2.1 x.1 := f5
  rw [f5']
  exact ⟨Int.le_max_left _ _, Int.le_max_right _ _, fun h => by simp at h⟩
 | true =>
  simp only [zz]
  generalize Vd c.1 c.2.1 c.2.2.1 c.2.2.2.1 = b
  cases h0 : b.1 == 0 with
  | true => intro hs; simp at hs
  | false =>
   have hb : b.1 ≠ 0 := by simpa using h0
   simp only [ua]
   cases decide (b.2.2 < 0) with
   | true =>
    intro hs
    simp only [zz, jc, jh] at hs
    rw [← hs.1]
    refine ⟨?_, ?_, fun _ => ⟨?_, hb⟩⟩
    ·show c.2.2.2.2.1 ≤ max (max c.2.2.2.2.1 x.1) b.2.1; omega
    ·show x.1 ≤ max (max c.2.2.2.2.1 x.1) b.2.1; omega
    ·show b.2.1 ≤ max (max c.2.2.2.2.1 x.1) b.2.1; omega
   | false =>
    intro hs
    simp only [ua, jc, jh] at hs
    rw [← hs.1]
    refine ⟨?_, ?_, fun _ => ⟨?_, hb⟩⟩
    ·show c.2.2.2.2.1 ≤ max (max c.2.2.2.2.1 x.1) b.2.1; omega
    ·show x.1 ≤ max (max c.2.2.2.2.1 x.1) b.2.1; omega
    ·show b.2.1 ≤ max (max c.2.2.2.2.1 x.1) b.2.1; omega
theorem SN {c : Ea} {x : Ca} {r : List Ca} (h : Rf c x r = none) : x.2.2.1 = true ∧ (Vd c.1 c.2.1 c.2.2.1 c.2.2.2.1).1 = 0 := by
 unfold Rf at h
 revert h
 cases hd : x.2.2.1 with
 | false => intro h; simp at h
 | true =>
  simp only [zz]
  cases h0 : (Vd c.1 c.2.1 c.2.2.1 c.2.2.2.1).1 == 0 with
  | true => intro _; exact ⟨trivial, by simpa using h0⟩
  | false =>
   simp only [ua]
   cases decide ((Vd c.1 c.2.1 c.2.2.1 c.2.2.2.1).2.2 < 0) <;> (intro h; simp at h)
theorem Dak {c c' : Ea} {l s out : List Ca} {y : Ca} {t2 : Int} (hS : TJ c) (hsw : ∀ z ∈ c.2.2.1, Ak z = true) (hl : ∀ z ∈ l, c.2.2.2.1 ≤ z.1) (hq : (Oj c l t2).2.2.1 = y :: s) (hs : Rf (Oj c l t2) y s = some (c', out)) : c.2.2.2.1 ≤ c'.2.2.2.2.1 := by
 obtain ⟨k1, k2, k3⟩ := Uas hs
 have hq' : c.2.2.1 ++ l = y :: s := hq
 cases hc : c.2.2.1 with
 | nil =>
  rw [hc] at hq'
  have := hl y (by rw [show l = y :: s from hq']; simp)
  omega
 | cons x r =>
  rw [hc] at hq'
  simp only [yu, yv] at hq'
  obtain ⟨rfl, rfl⟩ := hq'
  obtain ⟨h1, h0⟩ := SN (hS x r hc)
  obtain ⟨a1, a2⟩ := k3 h1
  have e : (Oj c l t2).2.2.1 = x :: (r ++ l) := by
   show c.2.2.1 ++ l = _
   rw [hc]; rfl
  rw [e] at a1 a2
  rw [hc] at h0
  have := Sak (L := c.1) (term := c.2.1) (x := x) (r := r) (l := l) (t1 := c.2.2.2.1) (t2 := t2) hl (fun z hz => hsw z (by rw [hc]; simp [hz])) h0 a2
  exact Int.le_trans this a1
theorem Ray {c c' : Ea} {x : Ca} {r l : List Ca} (hs : Rf c x r = some (c', l)) : ∀ z ∈ l, z.1 = c'.2.2.2.2.1 := by
 unfold Rf at hs
 revert hs
 cases hd : x.2.2.1 with
 | false =>
  intro hs
  simp only [ua, jc] at hs
  obtain ⟨_, _, _, _, f5⟩ := VN (c.1, c.2.1, r, c.2.2.2.1, max c.2.2.2.2.1 x.1, c.2.2.2.2.2) x.2.1 (max c.2.2.2.2.1 x.1)
  have hl : (Fu (c.1, c.2.1, r, c.2.2.2.1, max c.2.2.2.2.1 x.1, c.2.2.2.2.2) x.2.1 (max c.2.2.2.2.1 x.1)).2 = l := by rw [hs]
  rw [hs] at f5
  have f5' : c'.2.2.2.2.1 = max c.2.2.2.2.1 x.1 := f5
  rw [f5', ← hl]
  intro z hz
  unfold Fu at hz
  split at hz
  ·simp only [qg] at hz
   rw [hz]
  ·unfold LI at hz
   revert hz
   generalize (((Tb (c.1, c.2.1, r, c.2.2.2.1, max c.2.2.2.2.1 x.1, c.2.2.2.2.2)).getD (KH (c.1, c.2.1, r, c.2.2.2.1, max c.2.2.2.2.1 x.1, c.2.2.2.2.2) x.2.1).toNat IV)) = w
   cases w.2.2.1 with
   | false => intro hz; simp at hz
   | true => intro hz; simp only [zz, qg] at hz; rw [hz]
 | true =>
  simp only [zz]
  generalize Vd c.1 c.2.1 c.2.2.1 c.2.2.2.1 = b
  cases b.1 == 0 with
  | true => intro hs; simp at hs
  | false =>
   simp only [ua]
   cases decide (b.2.2 < 0) <;> (intro hs; simp only [zz, ua, jc, jh] at hs; rw [← hs.1, ← hs.2]; intro z hz; simp only [qg] at hz; rw [hz])
theorem Zaj {keys : Nat} {t0 s t : Int} {g g' : Nat} {x : Ca} {l : List Ca} (h : Zi keys t0 g (x :: l) t g') (hs : s ≤ x.1) : Zi keys s g (x :: l) t g' := by
 obtain ⟨k, hk, hkk, hk31, hx0, hx1, hx2, hdn, hR⟩ := Fj h
 have hp := Ye (show k ≤ 62 by omega)
 refine ⟨?_, h.m0, h.m⟩
 have hf := h.f
 simp only [Wa] at hf ⊢
 have e : Hm (keys : Int) (t0, (g : Int)) x = Hm (keys : Int) (s, (g : Int)) x := by
  unfold Hm Jj
  simp only
  rw [Ba (show ¬ t0 > x.1 by omega), Ba (show ¬ s > x.1 by omega)]
 rw [← e]
 exact hf
theorem ZV {kc : Nat} (hkc : kc ≤ 24) : ∀ {l : List Ca} {t0 t : Int} {m0 m : Nat}, Zi kc t0 m0 l t m → ∀ x ∈ l, Ak x = true ∧ t0 ≤ x.1
 | [], _, _, _, _, _, x, hx => by simp at hx
 | y :: l, t0, t, m0, m, h, x, hx => by
  obtain ⟨k, hk, hkk, hk31, hx0, hx1, hx2, hdn, hR⟩ := Fj h
  rcases jp.1 hx with rfl | hx
  ·refine ⟨?_, hx0⟩
   unfold Ak Fg
   rw [Aa (show 0 ≤ x.1 ∧ x.1 ≤ 1000000 by omega), Aa (show 0 ≤ x.2.1 ∧ x.2.1 ≤ 31 by omega), Aa (show x.2.1 < 24 by omega)]
   rfl
  ·have := ZV hkc hR x hx
   exact ⟨this.1, by omega⟩
theorem FT {n : Nat} {c : Ea} (hq : c.2.2.1 = []) : Mb n c [] = (c, []) := by
 cases n with
 | zero => rfl
 | succ n => simp only [Mb, hq]
theorem Y0 {n : Nat} {c : Ea} {y : Ca} {s : List Ca} (hq : c.2.2.1 = y :: s) (hst : Rf c y s = none) : Mb n c [] = (c, []) := by
 cases n with
 | zero => rfl
 | succ n => simp only [Mb, hq, hst]
theorem Z0 {n : Nat} {c c1 : Ea} {y : Ca} {s l1 : List Ca} (hq : c.2.2.1 = y :: s) (hst : Rf c y s = some (c1, l1)) : Mb (n + 1) c [] = ((Mb n c1 []).1, l1 ++ (Mb n c1 []).2) := by
 have : Mb (n + 1) c [] = Mb n c1 (jf [] l1) := by simp only [Mb, hq, hst]
 rw [this, RE]
 simp
theorem Pay {kc keys : Nat} (hkc : kc ≤ 24) (hkk : kc ≤ keys) {c : Ea} {D m m2 : Nat} {l : List Ca} {t2 til : Int} (h : HM kc c D m) (hLk : ∀ x ∈ c.1, x.2.1 < (keys : Int)) (hS : TJ c) (hL : Zi kc c.2.2.2.1 m l t2 m2) (ht : t2 ≤ til) (h6 : til ≤ 1000000) (hlen : c.2.2.1.length + l.length ≤ 64) :
 ∃ (D' : Nat) (t' : Int), HM kc (Mb 64 (Oj c l til) []).1 D' m2 ∧ (Mb 64 (Oj c l til) []).1.1 = c.1 ∧ (Mb 64 (Oj c l til) []).1.2.1 = c.2.1 ∧ (Mb 64 (Oj c l til) []).1.2.2.2.1 = til ∧
 Zi keys c.2.2.2.1 (Hi c D) (Mb 64 (Oj c l til) []).2 t' (Hi (Mb 64 (Oj c l til) []).1 D') ∧ t' ≤ til ∧ TJ (Mb 64 (Oj c l til) []).1 := by
 obtain ⟨hok, hI⟩ := U9 hkc h hL ht h6 hlen
 obtain ⟨t0, t, h0, htn, hE⟩ := h.q
 have hn := NF hL
 have hSt : TJ (Mb 64 (Oj c l til) []).1 := YW 64 (Oj c l til) (by show (jf c.2.2.1 l).length ≤ 64; rw [zv, qh]; exact hlen)
 have hg : Hi (Oj c l til) D = Hi c D := rfl
 have hg32 := (O1 h.s).2
 have hg63 : Hi c D < 2 ^ 63 := by
  have p32 : (2 : Nat) ^ 32 = 4294967296 := by decide
  have := Yt
  omega
 cases hq : (Oj c l til).2.2.1 with
 | nil =>
  have e : Mb 64 (Oj c l til) [] = (Oj c l til, []) := FT hq
  rw [e] at hSt ⊢
  exact ⟨D, c.2.2.2.1, hI, rfl, rfl, rfl, Mz _ _ hg63, by omega, hSt⟩
 | cons y s =>
  cases hst : Rf (Oj c l til) y s with
  | none =>
   have e : Mb 64 (Oj c l til) [] = (Oj c l til, []) := Y0 hq hst
   rw [e] at hSt ⊢
   exact ⟨D, c.2.2.2.1, hI, rfl, rfl, rfl, Mz _ _ hg63, by omega, hSt⟩
  | some p =>
   obtain ⟨c1, l1⟩ := p
   obtain ⟨D1, t1, i1, i2, i3, i4, i5, i6, i7⟩ := Pam hkc hkk hI (by exact hLk) hq hst
   have hL1 : ∀ x ∈ c1.1, x.2.1 < (keys : Int) := by rw [i2]; exact hLk
   obtain ⟨D2, t3, j1, j2, j3, j4, j5, j6, j7⟩ := Ram hkc hkk 63 c1 D1 i1 hL1
   have hlate := Dak (c := c) (t2 := til) hS (fun z hz => (ZV hkc hE z hz).1) (fun z hz => (ZV hkc hL z hz).2) hq hst
   have htime := Ray hst
   have e : Mb 64 (Oj c l til) [] = ((Mb 63 c1 []).1, l1 ++ (Mb 63 c1 []).2) := Z0 hq hst
   rw [e] at hSt ⊢
   have hclk : (Mb 63 c1 []).1.2.2.2.2.1 ≤ til := by
    have := j1.clk.2
    rw [j4, i4] at this
    exact this
   have hn4 : (Mb 63 c1 []).1.2.2.2.1 = til := by rw [j4, i4]; rfl
   have hf1 : (Mb 63 c1 []).1.1 = c.1 := by rw [j2, i2]; rfl
   have hf2 : (Mb 63 c1 []).1.2.1 = c.2.1 := by rw [j3, i3]; rfl
   rw [hg] at i6
   cases l1 with
   | nil =>
    obtain ⟨_, hgg⟩ := YO i6
    rw [hgg] at j6
    obtain ⟨t4, ht4, hE4⟩ := Pu j6 hlate
    exact ⟨D2, t4, j1, hf1, hf2, hn4, hE4, by omega, hSt⟩
   | cons z l1 =>
    have hz := htime z (by simp)
    have i6' := Zaj i6 (show c.2.2.2.1 ≤ z.1 by omega)
    obtain ⟨t4, ht4, hE4⟩ := Pu j6 i7
    exact ⟨D2, t4, j1, hf1, hf2, hn4, VO i6' hE4, by omega, hSt⟩
structure KaC (b : Vb) (kc keys g N : Nat) : Prop where
 i : Ear b kc keys g
 nw : b.2.2.1.2.2.2.1 = b.2.2.2.1.2.2.2.1
 stk : TJ b.2.2.1
 n : b.2.2.1.2.2.1.length + b.2.2.2.1.2.2.1.length ≤ N
def Xr (b : Vb) (x : Int) : List Ca := UO b.2.1.2.2.2.1 (Kh b x).2.2.2.1 b.2.2.2.2.2.1
def Pi (b : Vb) (x : Int) : Ea × List Ca := Mb 64 (Oj b.2.2.1 (Xr b x) b.2.2.2.2.2.1) []
noncomputable def TB (b : Vb) (x : Int) : Eb × List Sd := Fd (Si b.2.2.2.1 (Pi b x).2 b.2.2.2.2.2.1).2.2.1.length (Si b.2.2.2.1 (Pi b x).2 b.2.2.2.2.2.1) []
theorem S4 : ∀ (n : Nat) (d : Eb) (s : List Sd), (Fd n d s).1.2.2.1.length ≤ d.2.2.1.length ∧ (Fd n d s).1.2.2.2.1 = d.2.2.2.1 ∧ (Fd n d s).1.2.1 = d.2.1
 | 0, d, s => ⟨jo _, rfl, rfl⟩
 | n + 1, d, s => by
  cases hq : d.2.2.1 with
  | nil =>
   have e : Fd (n + 1) d s = (d, s) := by simp only [Fd, hq]
   rw [e, hq]; exact ⟨jo _, rfl, rfl⟩
  | cons x r =>
   cases hst : Xj d x r with
   | none =>
    have e : Fd (n + 1) d s = (d, s) := by simp only [Fd, hq, hst]
    rw [e, hq]; exact ⟨jo _, rfl, rfl⟩
   | some p =>
    obtain ⟨d', l⟩ := p
    have e : Fd (n + 1) d s = Fd n d' (Lp s d'.2.2.2.2.1 l) := by simp only [Fd, hq, hst]
    have hs := PL hst
    obtain ⟨h1, h2, h3⟩ := S4 n d' (Lp s d'.2.2.2.2.1 l)
    have e1 : d'.2.2.1 = r := by rw [hs]
    have e2 : d'.2.2.2.1 = d.2.2.2.1 := by rw [hs]
    have e3 : d'.2.1 = d.2.1 := by rw [hs]
    rw [e]
    rw [e1] at h1
    rw [e2] at h2
    rw [e3] at h3
    exact ⟨by simp only [jw]; omega, h2, h3⟩
theorem FaI {b : Vb} {kc keys g N : Nat} {x : Int} (h : KaC b kc keys g N) (hx : Ic b.1 x = true) (ht : b.2.2.2.2.2.1 < 1000000) (hN : N + (Xr b x).length ≤ 64) :
 Uf b x = ((b.1, Kh b x, (Pi b x).1, (TB b x).1, Ol b x, b.2.2.2.2.2.1 + 1, ()), (TB b x).2, true, ()) ∧
 ∃ (g' m m' : Nat) (t1 t2 : Int), KaC (Uf b x).1 kc keys g' (N + (Xr b x).length) ∧ b.2.1.2.2.2.1 = (m : Int) ∧ (Kh b x).2.2.2.1 = (m' : Int) ∧ m < 2 ^ kc ∧ m' < 2 ^ kc ∧
  Zi kc b.2.2.1.2.2.2.1 m (Xr b x) t1 m' ∧ t1 ≤ b.2.2.2.2.2.1 ∧ Zi keys b.2.2.2.1.2.2.2.1 g (Pi b x).2 t2 g' ∧ t2 ≤ b.2.2.2.2.2.1 ∧
  (Pi b x).2.length + (Pi b x).1.2.2.1.length ≤ b.2.2.1.2.2.1.length + (Xr b x).length := by
 have hi := h.i
 have hB := OM hi
 have hP := YP hB hx
 obtain ⟨ha1, ha2, ha3⟩ := EM hP
 obtain ⟨hd1, hd2⟩ := OT hP
 have hdv : Gd (Kh b x) = true := PT ha3
 obtain ⟨D, m, hC, hm, hg⟩ := hi.cb
 have hdp := ED hi.db
 have hdp' := ED hdv
 obtain ⟨m', hm', hm2⟩ := UC hdp'.sh
 obtain ⟨mo, hmo, hmo2⟩ := UC hdp.sh
 have e1 : (Kh b x).2.2.1 = (kc : Int) := by rw [hd2]; exact hi.dk
 rw [e1] at hm2
 rw [hi.dk] at hmo2
 have hkc := hi.kc2
 have hmm : m = mo := by rw [hm] at hmo; omega
 subst hmm
 have htt := hi.t
 have hn0 := h.n
 obtain ⟨t', ht', hE⟩ := Yaj (a := m) (b := m') hkc (by simpa using hmo2) (by simpa using hm2) (t0 := b.2.2.1.2.2.2.1) (t := b.2.2.2.2.2.1) hi.cn htt.1 htt.2
 have hev : UO (m : Int) (m' : Int) b.2.2.2.2.2.1 = Xr b x := by unfold Xr; rw [hm, hm']
 rw [hev] at hE
 have hLk : ∀ y ∈ b.2.2.1.1, y.2.1 < (keys : Int) := fun y hy => (hi.cmb y hy).2
 have hlen1 : b.2.2.1.2.2.1.length + (Xr b x).length ≤ 64 := by omega
 obtain ⟨hok, hCQ⟩ := U9 hkc hC hE ht' htt.2 hlen1
 obtain ⟨D', t2, hC', f1, f2, f3, hE2, ht2, hst⟩ := Pay hkc hi.kk hC hLk h.stk hE ht' htt.2 hlen1
 have hout := Q5 64 (Oj b.2.2.1 (Xr b x) b.2.2.2.2.2.1)
 have hql : (Oj b.2.2.1 (Xr b x) b.2.2.2.2.2.1).2.2.1.length = b.2.2.1.2.2.1.length + (Xr b x).length := by
  show (jf b.2.2.1.2.2.1 (Xr b x)).length = _
  rw [zv, qh]
 rw [hql] at hout
 have ecb : Mb 64 (Oj b.2.2.1 (Xr b x) b.2.2.2.2.2.1) [] = Pi b x := rfl
 rw [ecb] at hC' f1 f2 f3 hE2 hst hout
 rw [h.nw, hg] at hE2
 have hlen2 : b.2.2.2.1.2.2.1.length + (Pi b x).2.length ≤ 64 := by omega
 obtain ⟨hpo, hDM⟩ := Gan hi.dc hE2 hlen2 ht2 htt.2
 have hDR := Eaa (Si b.2.2.2.1 (Pi b x).2 b.2.2.2.2.2.1).2.2.1.length _ [] hDM
 obtain ⟨q1, q2, q3⟩ := S4 (Si b.2.2.2.1 (Pi b x).2 b.2.2.2.2.2.1).2.2.1.length (Si b.2.2.2.1 (Pi b x).2 b.2.2.2.2.2.1) []
 have hql2 : (Si b.2.2.2.1 (Pi b x).2 b.2.2.2.2.2.1).2.2.1.length = b.2.2.2.1.2.2.1.length + (Pi b x).2.length := by
  show (jf b.2.2.2.1.2.2.1 (Pi b x).2).length = _
  rw [zv, qh]
 have epl : Fd (Si b.2.2.2.1 (Pi b x).2 b.2.2.2.2.2.1).2.2.1.length (Si b.2.2.2.1 (Pi b x).2 b.2.2.2.2.2.1) [] = TB b x := rfl
 rw [epl] at hDR q1 q2 q3
 rw [hql2] at q1
 have hco : Aw b x = ((Pi b x).1, (Pi b x).2, true, ()) := by
  unfold Aw XJ
  rw [show UO b.2.1.2.2.2.1 (Kh b x).2.2.2.1 b.2.2.2.2.2.1 = Xr b x from rfl, hok]
  rfl
 have hpl : Ow b x = ((TB b x).1, (TB b x).2, true, ()) := by
  unfold Ow CK
  rw [hco]
  simp only
  rw [hpo]
  rfl
 have hto : KK b x = true := by
  unfold KK
  rw [hB, hx, Ba (show ¬ b.2.2.2.2.2.1 ≥ 1000000 by omega)]
  rfl
 have hT : Uf b x = ((b.1, Kh b x, (Pi b x).1, (TB b x).1, Ol b x, b.2.2.2.2.2.1 + 1, ()), (TB b x).2, true, ()) := by
  unfold Uf
  rw [hto, hco, hpl, Qc (n := b.2.2.2.2.2.1 + 1) (by omega) (by omega)]
  rfl
 refine ⟨hT, Hi (Pi b x).1 D', m, m', t', t2, ?_, hm, hm', by simpa using hmo2, by simpa using hm2, hE, ht', hE2, ht2, hout⟩
 rw [hT]
 have hdn : (TB b x).1.2.2.2.1 = b.2.2.2.2.2.1 := q2
 refine ⟨⟨hi.mat, hi.kc1, hi.kc2, hi.kk, hi.k32, hdv, e1, ha2, ?_, ⟨D', m', hC', hm', rfl⟩, hDR, ?_, ?_, ?_⟩, ?_, hst, ?_⟩
 ·show ∀ y ∈ (Pi b x).1.1, _
  rw [f1]
  exact hi.cmb
 ·show 0 ≤ b.2.2.2.2.2.1 + 1 ∧ b.2.2.2.2.2.1 + 1 ≤ 1000000; omega
 ·show (Pi b x).1.2.2.2.1 ≤ b.2.2.2.2.2.1 + 1; omega
 ·show (TB b x).1.2.2.2.1 ≤ b.2.2.2.2.2.1 + 1; omega
 ·show (Pi b x).1.2.2.2.1 = (TB b x).1.2.2.2.1; omega
 ·show (Pi b x).1.2.2.1.length + (TB b x).1.2.2.1.length ≤ _; omega
theorem Uap {L : List Na} {e set t1 : Int} {r : List Ca} (h0 : (JE L e t1 set r).1 = 0) (hsw : ∀ x ∈ r, Ak x = true) : t1 < e := by
 revert h0
 unfold JE
 cases hc : Wa (fun k s x => Yr L e k s x) 0 set r with
 | inr b =>
  intro h0
  exfalso
  obtain ⟨j, s', x, hxm, hg⟩ := GO _ r 0 set b hc
  cases b with
  | inl b =>
   have : ∃ n, b.2.1 = n + 1 := by
    unfold Yr at hg
    revert hg
    cases Ak x <;> cases decide (x.1 ≥ e) <;> cases x.2.2.1 <;> cases Sh L (Lc .i64 s' (Ma .i64 1 x.2.1)) <;> cases (decide ((Bf L (Lc .i64 s' (Ma .i64 1 x.2.1))).1 ≥ 0) && !(Bf L (Lc .i64 s' (Ma .i64 1 x.2.1))).2) <;>
     simp only [zz, ua, zl, zk, reduceCtorEq, false_implies] <;> (intro hg; subst hg; exact ⟨j, rfl⟩)
   obtain ⟨n, hn⟩ := this
   simp only at h0
   rw [hn] at h0
   exact (Xw L b.1 n b.2.2).1 h0
  | inr b =>
   have hs := hsw x hxm
   unfold Yr at hg
   rw [hs] at hg
   have h0' : b.1 = 0 := h0
   revert hg
   cases decide (x.1 ≥ e) <;> cases x.2.2.1 <;> cases Sh L (Lc .i64 s' (Ma .i64 1 x.2.1)) <;> cases (decide ((Bf L (Lc .i64 s' (Ma .i64 1 x.2.1))).1 ≥ 0) && !(Bf L (Lc .i64 s' (Ma .i64 1 x.2.1))).2) <;>
    simp only [zz, ua, zl, reduceCtorEq, false_implies] <;> (intro hg; subst hg; have : ((j + 2 : Nat) : Int) = 0 := h0'; omega)
 | inl s =>
  intro h0
  have h0' : (cond (decide (t1 < e)) ((0 : Int), (0 : Int), (-1 : Int)) (DA L s (r.length + 1) e)).1 = 0 := h0
  by_cases h1 : t1 < e
  ·exact h1
  ·rw [Ba h1] at h0'
   exact absurd h0' (Xw L s r.length e).1
theorem IaF {kc : Nat} (hkc : kc ≤ 24) {c : Ea} {D m : Nat} (h : HM kc c D m) (hS : TJ c) {x : Ca} {r : List Ca} (hq : c.2.2.1 = x :: r) : c.2.2.2.1 < x.1 + c.2.1 := by
 obtain ⟨t0, t, h0, htn, hE⟩ := h.q
 rw [hq] at hE
 obtain ⟨hd, hm⟩ := SN (hS x r hq)
 have hsw := ZV hkc hE
 obtain ⟨k, hk, hkk, hk31, hx0, hx1, hx2, hdn, hR⟩ := Fj hE
 have htm := h.tm
 rw [hq] at hm
 revert hm
 unfold Vd
 simp only
 rw [h.s.cb, Aa htm, (hsw x (by simp)).1, hd]
 simp only [Bool.and_self, zz]
 cases Sh c.1 (Ma .i64 1 x.2.1) with
 | false => intro h; exact absurd (show (1 : Int) = 0 from h) (by omega)
 | true =>
  simp only [zz]
  intro h
  have := Uap h (fun y hy => (hsw y (by simp [hy])).1)
  rwa [Qc (n := x.1 + c.2.1) (by omega) (by omega)] at this
def RZ (d : Eb) : Prop := ∀ x r, d.2.2.1 = x :: r → Xj d x r = none
theorem LX : ∀ (n : Nat) (d : Eb) (s : List Sd), d.2.2.1.length ≤ n → RZ (Fd n d s).1
 | 0, d, s, hn => by
  intro x r hq
  have h : d.2.2.1 = x :: r := hq
  rw [h] at hn
  simp at hn
 | n + 1, d, s, hn => by
  cases hq : d.2.2.1 with
  | nil =>
   have e : Fd (n + 1) d s = (d, s) := by simp only [Fd, hq]
   rw [e]
   intro x r h
   rw [hq] at h
   simp at h
  | cons x r =>
   cases hst : Xj d x r with
   | none =>
    have e : Fd (n + 1) d s = (d, s) := by simp only [Fd, hq, hst]
    rw [e]
    intro x' r' h
    rw [hq] at h
    simp only [yv] at h
    obtain ⟨rfl, rfl⟩ := h
    exact hst
   | some p =>
    obtain ⟨d', l⟩ := p
    have e : Fd (n + 1) d s = Fd n d' (Lp s d'.2.2.2.2.1 l) := by simp only [Fd, hq, hst]
    have e1 : d'.2.2.1 = r := by rw [PL hst]
    rw [hq] at hn
    simp only [jw] at hn
    rw [e]
    exact LX n d' _ (by rw [e1]; omega)
theorem Yac {t : Dt} {key at_ : Int} {l : List Ca} {til : Int} (ht : Kf t = true) (ha : 0 ≤ at_ ∧ at_ ≤ 1000000) (hl : ∀ x ∈ l, Fg x = true) (h : (Xg t key at_ l til).1 = 0) : til < at_ + t.1 := by
 have htt : 1 ≤ t.1 ∧ t.1 ≤ 1000 := by
  simp only [Kf, jd, decide_eq_true_eq] at ht
  omega
 revert h
 unfold Xg
 rw [ht, Aa ha, Qc (n := at_ + t.1) (by omega) (by omega)]
 simp only [Bool.and_self, zz]
 cases hc : chR t.2.2.1 key (at_ + t.1) l with
 | inl s =>
  by_cases h1 : til ≥ at_ + t.1
  ·rw [Aa h1]; intro h; exact absurd (show (2 : Int) = 0 from h) (by omega)
  ·intro _; omega
 | inr r =>
  intro h
  exfalso
  have h' : r.1 = 0 := h
  obtain ⟨x, hx, s, hg⟩ := WT (IT t.2.2.1 key (at_ + t.1)) l 0 0 r hc
  unfold IT at hg
  rw [hl x hx] at hg
  revert hg
  cases decide (x.1 ≥ at_ + t.1) <;> cases x.2.1 == key <;> cases x.2.2.1 <;> cases t.2.2.1 == 1 <;> cases t.2.2.1 == 2 <;> cases Wd s x.2.1 == 1 <;> (intro hg; simp only [zz, ua, zl, reduceCtorEq] at hg; try (subst hg; first | exact absurd h' (show (2 : Int) ≠ 0 by decide) | exact absurd h' (show (1 : Int) ≠ 0 by decide)))
theorem SM {keys : Nat} : ∀ {l : List Ca} {t0 t : Int} {m0 m : Nat}, Zi keys t0 m0 l t m → ∀ x ∈ l, Fg x = true ∧ t0 ≤ x.1 ∧ x.1 ≤ t
 | [], _, _, _, _, _, x, hx => by simp at hx
 | y :: l, t0, t, m0, m, h, x, hx => by
  obtain ⟨k, hk, hkk, hk31, hx0, hx1, hx2, hdn, hR⟩ := Fj h
  have hle := NF hR
  rcases jp.1 hx with rfl | hx
  ·refine ⟨?_, hx0, hle⟩
   unfold Fg
   rw [Aa (show 0 ≤ x.1 ∧ x.1 ≤ 1000000 by omega), Aa (show 0 ≤ x.2.1 ∧ x.2.1 ≤ 31 by omega)]
   rfl
  ·have := SM hR x hx
   exact ⟨this.1, by omega, this.2.2⟩
theorem UaH {keys m : Nat} {d : Eb} (h : BQ keys d m) (hS : RZ d) {x : Ca} {r : List Ca} (hq : d.2.2.1 = x :: r) : d.2.2.2.1 < x.1 + d.2.1.1 := by
 obtain ⟨t0, t, m0, hm, hE, h0, htn⟩ := h.ex
 rw [hq] at hE
 have hev := SM hE
 obtain ⟨k, hk, hkk, hk31, hx0, hx1, hx2, hdn, hR⟩ := Fj hE
 have hs := hS x r hq
 unfold Xj at hs
 revert hs
 cases x.2.2.1 with
 | false => intro hs; simp at hs
 | true =>
  simp only [jg, ua]
  cases Jg (Pl d.1.1.2.1 (Vj d.1.1 (Ho d.1.2.2.1 d.1.2.2.2.1) x.2.1.toNat) x.2.1.toNat) with
  | false => intro hs; simp at hs
  | true =>
   simp only [zz]
   cases (d.2.2.2.2.2.1 == j9 .i64 (x.2.1 + 1)) && !decide (j9 .i64 (x.1 - d.2.2.2.2.2.2.1) ≥ d.2.1.2.1) with
   | true => intro hs; simp at hs
   | false =>
    simp only [ua]
    cases hz : (Xg d.2.1 x.2.1 x.1 r d.2.2.2.1).1 == 0 with
    | false => intro hs; simp at hs
    | true =>
     intro _
     exact Yac (l := r) h.i.tim ⟨hx1, hx2⟩ (fun y hy => (hev y (jr _ hy)).1) (by simpa using hz)
def Uk (a b : Nat) : Prop := ∀ k, a.testBit k = true → b.testBit k = true
theorem F5 {C m m' r : Nat} (h : Uk m m') : Uk (rowN C m r) (rowN C m' r) := fun k hk => by
 rw [YE, jd] at hk ⊢
 exact ⟨hk.1, h _ hk.2⟩
theorem Qav {C a b m m' : Nat} (h : Uk m m') : Uk (Wv C a b m) (Wv C a b m') := by
 intro k hk
 unfold Wv at hk ⊢
 have hkeep : ∀ x : Nat, m.testBit k = true → (cond (rowN C m' a &&& rowN C m' b != 0) (m' ||| rowN C m' b <<< (a * C)) m').testBit k = true := by
  intro _ hm
  cases rowN C m' a &&& rowN C m' b != 0 with
  | false => exact h k hm
  | true => simp only [zz]; rw [zq, h k hm]; rfl
 cases hc : rowN C m a &&& rowN C m b != 0 with
 | false => rw [hc] at hk; exact hkeep 0 hk
 | true =>
  rw [hc] at hk
  simp only [zz] at hk
  rw [zq, ye] at hk
  rcases hk with hk | hk
  ·exact hkeep 0 hk
  ·obtain ⟨j, h1, h2⟩ := (DF _ _).1 hc
   have hc' : (rowN C m' a &&& rowN C m' b != 0) = true := (DF _ _).2 ⟨j, F5 h j h1, F5 h j h2⟩
   rw [hc']
   simp only [zz]
   rw [zq, ye]
   right
   rw [Nat.testBit_shiftLeft, jd] at hk ⊢
   exact ⟨hk.1, F5 h _ hk.2⟩
theorem Oav {C a b m : Nat} : Uk m (Wv C a b m) := by
 intro k hk
 unfold Wv
 cases rowN C m a &&& rowN C m b != 0 with
 | false => exact hk
 | true => simp only [zz]; rw [zq, hk]; rfl
theorem OR {g : Nat → Nat → Nat} (hg : ∀ k a b, Uk a b → Uk (g k a) (g k b)) : ∀ n {a b : Nat}, Uk a b → Uk (Yd g n a) (Yd g n b)
 | 0, _, _, h => h
 | n + 1, _, _, h => hg n _ _ (OR hg n h)
theorem KR {g : Nat → Nat → Nat} (hg : ∀ k a, Uk a (g k a)) : ∀ n (a : Nat), Uk a (Yd g n a)
 | 0, _ => fun _ h => h
 | n + 1, a => fun k h => hg n _ k (KR hg n a k h)
theorem SaF {C R k a b : Nat} (h : Uk a b) : Uk (g2 C R k a) (g2 C R k b) :=
 OR (g := g3 C k) (fun j a b h => Qav (C := C) (a := k) (b := j) h) R h
theorem QaF {C R k a b : Nat} (h : Uk a b) : Uk (g1 C R k a) (g1 C R k b) :=
 OR (g := g2 C R) (fun j a b h => SaF h) R h
theorem Uau {C R a b : Nat} (h : Uk a b) : Uk (Uh C R a) (Uh C R b) :=
 OR (g := g1 C R) (fun j a b h => QaF h) R h
theorem RaF {C R k : Nat} (a : Nat) : Uk a (g2 C R k a) :=
 KR (g := g3 C k) (fun j a => Oav (C := C) (a := k) (b := j)) R a
theorem PaF {C R k : Nat} (a : Nat) : Uk a (g1 C R k a) :=
 KR (g := g2 C R) (fun j a => RaF a) R a
theorem Tau {C R : Nat} (a : Nat) : Uk a (Uh C R a) :=
 KR (g := g1 C R) (fun j a => PaF a) R a
theorem Pav {a b : Nat} (h1 : Uk a b) (h2 : Uk b a) : a = b := zp fun k => by
 cases ha : a.testBit k <;> cases hb : b.testBit k
 ·rfl
 ·have := h2 k hb; rw [ha] at this; exact this
 ·have := h1 k ha; rw [hb] at this; exact this.symm
 ·rfl
theorem B2 {p : Nat → Bool} {g : Nat → Int → Int} (hg : ∀ k (s : Nat), k < 63 → s < 2 ^ 63 → g k (s : Int) = ((cond (p k) (s ||| 2 ^ k) s : Nat) : Int)) : ∀ n, n ≤ 62 → ∃ s : Nat, Yd g n 0 = (s : Int) ∧ s < 2 ^ 63 ∧ ∀ k, s.testBit k = (decide (k < n) && p k)
 | 0, _ => ⟨0, rfl, zt 63, fun k => by simp⟩
 | n + 1, hn => by
  obtain ⟨s, h1, h2, h3⟩ := B2 hg n (by omega)
  have hs := Ye (show n ≤ 62 by omega)
  refine ⟨cond (p n) (s ||| 2 ^ n) s, ?_, ?_, fun k => ?_⟩
  ·show g n (Yd g n 0) = _
   rw [h1, hg n s (by omega) h2]
  ·cases p n with
   | false => exact h2
   | true => exact zn h2 hs
  ·have e : (cond (p n) (s ||| 2 ^ n) s).testBit k = (s.testBit k || (p n && decide (n = k))) := by
    cases p n with
    | false => simp
    | true => simp only [zz, jk]; rw [zq, qq]
   rw [e, h3]
   by_cases hk : k = n
   ·subst hk
    rw [Ba (show ¬ k < k by omega), Aa (show k < k + 1 by omega), Aa rfl]
    simp
   ·rw [show decide (n = k) = false from decide_eq_false (fun e => hk e.symm)]
    by_cases hk2 : k < n
    ·rw [Aa hk2, Aa (show k < n + 1 by omega)]; simp
    ·rw [Ba hk2, Ba (show ¬ k < n + 1 by omega)]; simp
structure VaP (M : Qd) (old x : Int) (o p a : Nat) : Prop where
 ho : old = (o : Int)
 hp : x = (p : Int)
 ha : C9 M old (Cm M x) = (a : Int)
 bit : ∀ k, a.testBit k = o.testBit k ∨ a.testBit k = p.testBit k
 zero : p = 0 → a = 0
theorem Iaq {C R : Nat} : Uh C R 0 = 0 := by
 have h3 : ∀ a b, Wv C a b 0 = 0 := fun a b => by
  have : ∀ r, rowN C 0 r = 0 := fun r => by unfold rowN; simp
  unfold Wv
  rw [this, this]
  rfl
 have hi : ∀ (g : Nat → Nat → Nat), (∀ k, g k 0 = 0) → ∀ n, Yd g n 0 = 0 := by
  intro g hg n
  induction n with
  | zero => rfl
  | succ n ih => show g n (Yd g n 0) = 0; rw [ih, hg]
 exact hi _ (fun _ => hi _ (fun _ => hi _ (fun _ => h3 _ _) R) R) R
theorem Sax {M : Qd} {old x : Int} (ho : Ic M old = true) (hx : Ic M x = true) : ∃ o p a, VaP M old x o p a := by
 obtain ⟨C, R, p, d, rfl, rfl, hd, hp⟩ := EA hx
 obtain ⟨C', R', o, d', e, rfl, hd', ho'⟩ := EA ho
 simp only [jh] at e
 obtain ⟨e1, e2, e3, _⟩ := e
 have e1 : R = R' := by omega
 have e2 : C = C' := by omega
 subst e1; subst e2; subst e3
 generalize hM : (((R : Int), (C : Int), d, ()) : Qd) = M at hx ho ⊢
 have hp63 := LF hd hp
 have ho63 := LF hd ho'
 let f : Nat → Nat := fun m => cond d m (Uh C R m)
 have hfi : ∀ m : Nat, Cm M (m : Int) = ((f m : Nat) : Int) := fun m => by rw [← hM]; exact ZI
 have hsub : ∀ a b, Uk a b → Uk (f a) (f b) := fun a b h => by
  show Uk (cond d a (Uh C R a)) (cond d b (Uh C R b))
  cases d
  ·exact Uau h
  ·exact h
 have hext : ∀ a, Uk a (f a) := fun a => by
  show Uk a (cond d a (Uh C R a))
  cases d
  ·exact Tau a
  ·exact fun _ h => h
 have hidem : f (f p) = f p := by
  show cond d (cond d p (Uh C R p)) (Uh C R (cond d p (Uh C R p))) = cond d p (Uh C R p)
  cases d
  ·exact P6 hd
  ·rfl
 have hlt : ∀ m, m < 2 ^ (R * C) → f m < 2 ^ (R * C) := fun m h => by
  show cond d m (Uh C R m) < _
  cases d
  ·exact ZY h
  ·exact h
 have hq63 := LF hd (hlt p hp)
 have hRC := QO hd (jo R)
 have hread := MX hx
 have hkc : (Dc M).toNat = R * C := by
  have hmx : Jf M = true := by
   simp only [Ic, jd] at hx
   exact hx.1
  rw [← hM] at hmx ⊢
  unfold Dc
  rw [hmx]
  simp only [zz]
  show ((R : Int) * (C : Int)).toNat = R * C
  rw [← Int.natCast_mul, jn]
 obtain ⟨c, hc, hc63, hcb⟩ := B2 (p := fun k => (f p).testBit k && !WX M (Cm M (p : Int)) k) (g := PO M (Cm M (p : Int))) (by
  intro k s hk hs
  unfold PO
  rw [hfi p, Qj hq63 (by omega), Ve (by omega)]
  cases (f p).testBit k && !WX M ((f p : Nat) : Int) k with
  | false => rfl
  | true =>
   show Lc .i64 (s : Int) ((2 ^ k : Nat) : Int) = ((s ||| 2 ^ k : Nat) : Int)
   rw [Fi hs (Ye (by omega))]) (R * C) (by omega)
 have hclear : JT M (Cm M (p : Int)) = (c : Int) := by
  unfold JT
  rw [hread, hkc]
  exact hc
 have hpress : ∀ k, c.testBit k = true → p.testBit k = true := by
  intro k hk
  rw [hcb] at hk
  simp only [jd, yx, decide_eq_true_eq] at hk
  obtain ⟨hk1, hk2, hk3⟩ := hk
  cases hpk : p.testBit k with
  | true => rfl
  | false =>
   exfalso
   unfold WX at hk3
   rw [hfi p, Qj hq63 (by omega), hk2, Ve (by omega), Yn hq63 (Ye (by omega)), hfi] at hk3
   simp only [jk, beq_eq_false_iff_ne] at hk3
   apply hk3
   congr 1
   apply Pav
   ·have h1 : Uk (f p ^^^ (f p &&& 2 ^ k)) (f p) := fun j hj => by
     rw [qp, zr] at hj
     cases hfj : (f p).testBit j with
     | true => rfl
     | false => rw [hfj] at hj; simp at hj
    have h2 := hsub _ _ h1
    rw [hidem] at h2
    exact h2
   ·refine hsub _ _ fun j hj => ?_
    rw [qp, zr, hext p j hj, qq]
    by_cases hjk : k = j
    ·subst hjk; rw [hpk] at hj; simp at hj
    ·rw [show decide (k = j) = false from decide_eq_false hjk]; rfl
 refine ⟨o, p, f p &&& (o ||| c), rfl, rfl, ?_, fun k => ?_, fun h0 => ?_⟩
 ·unfold C9
  rw [hclear, hfi p, Fi ho63 hc63, Qu hq63 (zn ho63 hc63)]
 ·rw [zr, zq]
  cases hq : (f p).testBit k with
  | false =>
   right
   cases hpk : p.testBit k with
   | false => rfl
   | true => have := hext p k hpk; rw [hq] at this; simp at this
  | true =>
   cases hck : c.testBit k with
   | false => left; simp
   | true => right; rw [hpress k hck]; simp
 ·subst h0
  have : f 0 = 0 := by
   show cond d 0 (Uh C R 0) = 0
   rw [Iaq]; cases d <;> rfl
  rw [this]; simp
theorem Kan {α S : Type} (g : Nat → S → α → S) (L : List α) (P : Nat → S → Prop) {s0 : S} (h0 : P 0 s0) (hs : ∀ k (hk : k < L.length) s, P k s → P (k + 1) (g k s L[k])) : P L.length (Bd g 0 s0 L) := by
 have key : ∀ (l : List α) (k : Nat) (s : S), L.drop k = l → k ≤ L.length → P k s → P L.length (Bd g k s l) := by
  intro l
  induction l with
  | nil =>
   intro k s hl hk h
   have := AL hl hk
   rw [← this]; exact h
  | cons y l ih =>
   intro k s hl hk h
   obtain ⟨hk', hy, hl'⟩ := Lz hl
   have := hs k hk' s h
   rw [hy] at this
   exact ih (k + 1) _ hl' hk' this
 exact key L 0 s0 rfl (zj _) h0
structure LaC (d : Rb) (raw : Int) (s r s' : Nat) : Prop where
 hs : d.2.2.2.1 = (s : Int)
 hr : raw = (r : Int)
 hs' : (IF d raw).1 = (s' : Int)
 len : (IF d raw).2.length = d.2.2.2.2.2.1.length
 lo : ∀ k (hk : k < d.2.2.2.2.2.1.length), s'.testBit k = cond (Sp d raw k d.2.2.2.2.2.1[k]) (!s.testBit k) (s.testBit k)
 hi : ∀ k, d.2.2.2.2.2.1.length ≤ k → s'.testBit k = s.testBit k
 age : ∀ k (hk : k < d.2.2.2.2.2.1.length), (IF d raw).2[k]? = some (cond (Sp d raw k d.2.2.2.2.2.1[k] && (d.1 == 2)) 0 (UG d raw k d.2.2.2.2.2.1[k]))
 cn : ∀ k (hk : k < d.2.2.2.2.2.1.length), Sp d raw k d.2.2.2.2.2.1[k] = (decide (UG d raw k d.2.2.2.2.2.1[k] ≥ d.2.1) && (r.testBit k ^^ s.testBit k))
theorem Wax {d : Rb} {raw : Int} (h : MC d raw = true) : ∃ s r s', LaC d raw s r s' := by
 unfold MC at h
 rw [jd] at h
 have hd := ED h.1
 have h1 := hd.k2
 have h2 := hd.len
 obtain ⟨r, hr, hr2⟩ := UC h.2
 obtain ⟨s, hs, hs2⟩ := UC hd.sh
 have hs63 := Zak h1 hs2
 have hr63 := Zak h1 hr2
 have hI := Kan (fun k s x => BE d raw k s x) d.2.2.2.2.2.1
  (fun n st => ∃ s' : Nat, st.1 = (s' : Int) ∧ s' < 2 ^ 63 ∧ st.2.length = n ∧ (∀ k (hk : k < d.2.2.2.2.2.1.length), k < n → s'.testBit k = cond (Sp d raw k d.2.2.2.2.2.1[k]) (!s.testBit k) (s.testBit k)) ∧
   (∀ k, n ≤ k → s'.testBit k = s.testBit k) ∧ (∀ k (hk : k < d.2.2.2.2.2.1.length), k < n → st.2[k]? = some (cond (Sp d raw k d.2.2.2.2.2.1[k] && (d.1 == 2)) 0 (UG d raw k d.2.2.2.2.2.1[k]))))
  (s0 := (d.2.2.2.1, [])) ⟨s, hs, hs63, rfl, fun k hk h => by omega, fun k _ => rfl, fun k hk h => by omega⟩ (by
   rintro n hn st ⟨s1, e1, e2, e3, e4, e5, e6⟩
   have hn62 := Ye (show n ≤ 62 by omega)
   refine ⟨cond (Sp d raw n d.2.2.2.2.2.1[n]) (s1 ^^^ 2 ^ n) s1, ?_, ?_, ?_, ?_, ?_, ?_⟩
   ·unfold BE
    simp only
    cases Sp d raw n d.2.2.2.2.2.1[n] with
    | false => exact e1
    | true => simp only [zz]; rw [e1, Ve (by omega), Vm e2 hn62]
   ·cases Sp d raw n d.2.2.2.2.2.1[n] with
    | false => exact e2
    | true => exact qs e2 hn62
   ·simp [BE, e3]
   ·intro k hk hk2
    have e : (cond (Sp d raw n d.2.2.2.2.2.1[n]) (s1 ^^^ 2 ^ n) s1).testBit k = (s1.testBit k ^^ (Sp d raw n d.2.2.2.2.2.1[n] && decide (n = k))) := by
     cases Sp d raw n d.2.2.2.2.2.1[n] with
     | false => simp
     | true => simp only [zz, jk]; rw [qp, qq]
    rw [e]
    by_cases hkn : k = n
    ·subst hkn
     rw [e5 k (jo _), Aa rfl]
     cases Sp d raw k d.2.2.2.2.2.1[k] <;> simp
    ·rw [e4 k hk (by omega), show decide (n = k) = false from decide_eq_false (fun e => hkn e.symm)]
     simp
   ·intro k hk
    have e : (cond (Sp d raw n d.2.2.2.2.2.1[n]) (s1 ^^^ 2 ^ n) s1).testBit k = (s1.testBit k ^^ (Sp d raw n d.2.2.2.2.2.1[n] && decide (n = k))) := by
     cases Sp d raw n d.2.2.2.2.2.1[n] with
     | false => simp
     | true => simp only [zz, jk]; rw [qp, qq]
    rw [e, e5 k (by omega), show decide (n = k) = false from decide_eq_false (by omega)]
    simp
   ·intro k hk hk2
    unfold BE
    simp only [zv]
    by_cases hkn : k < n
    ·rw [List.getElem?_append_left (by omega)]
     exact e6 k hk hkn
    ·have : k = n := by omega
     subst this
     rw [List.getElem?_append_right (by omega), e3, Nat.sub_self]
     rfl)
 obtain ⟨s', e1, e2, e3, e4, e5, e6⟩ := hI
 refine ⟨s, r, s', hs, hr, e1, e3, fun k hk => e4 k hk hk, e5, fun k hk => e6 k hk hk, fun k hk => ?_⟩
 unfold Sp
 rw [hr, hs, L9 hr63 hs63 (by omega), qp]
theorem Bat {d : Rb} {raw : Int} {s r s' : Nat} (h : LaC d raw s r s') (k : Nat) : s'.testBit k = s.testBit k ∨ s'.testBit k = r.testBit k := by
 by_cases hk : k < d.2.2.2.2.2.1.length
 ·rw [h.lo k hk, h.cn k hk]
  cases decide (UG d raw k d.2.2.2.2.2.1[k] ≥ d.2.1) <;> cases r.testBit k <;> cases s.testBit k <;> simp
 ·exact .inl (h.hi k (by omega))
def Pe : Nat → Nat → Nat → Nat
 | 0, _, _ => 0
 | n + 1, a, b => Pe n a b + cond (a.testBit n ^^ b.testBit n) 1 0
theorem P1 (n a b : Nat) : Pe n a b ≤ n := by
 induction n with
 | zero => exact jo _
 | succ n ih =>
  show Pe n a b + cond (a.testBit n ^^ b.testBit n) 1 0 ≤ n + 1
  cases a.testBit n ^^ b.testBit n
  ·show Pe n a b + 0 ≤ _; omega
  ·show Pe n a b + 1 ≤ _; omega
theorem Q1 {n a b : Nat} (ha : a < 2 ^ n) (hb : b < 2 ^ n) : ∀ k, Pe (n + k) a b = Pe n a b
 | 0 => rfl
 | k + 1 => by
  have h : ∀ x, x < 2 ^ n → x.testBit (n + k) = false := fun x hx => zu (qn hx (qo (by omega) (Nat.le_add_right n k)))
  show Pe (n + k) a b + cond (a.testBit (n + k) ^^ b.testBit (n + k)) 1 0 = _
  rw [h a ha, h b hb, Q1 ha hb k]
  rfl
theorem Mat (n : Nat) {s a p s' a' p' : Nat} (h1 : ∀ k, s'.testBit k = s.testBit k ∨ s'.testBit k = a'.testBit k) (h2 : ∀ k, a'.testBit k = a.testBit k ∨ a'.testBit k = p'.testBit k) :
 Pe n s s' + (Pe n s' a' + Pe n a' p') ≤ Pe n s a + Pe n a p + Pe n p p' := by
 induction n with
 | zero => exact jo _
 | succ n ih =>
  show (Pe n s s' + cond (s.testBit n ^^ s'.testBit n) 1 0) + ((Pe n s' a' + cond (s'.testBit n ^^ a'.testBit n) 1 0) + (Pe n a' p' + cond (a'.testBit n ^^ p'.testBit n) 1 0)) ≤
   (Pe n s a + cond (s.testBit n ^^ a.testBit n) 1 0) + (Pe n a p + cond (a.testBit n ^^ p.testBit n) 1 0) + (Pe n p p' + cond (p.testBit n ^^ p'.testBit n) 1 0)
  have e1 := h1 n
  have e2 := h2 n
  revert e1 e2
  cases s.testBit n <;> cases s'.testBit n <;> cases a.testBit n <;> cases a'.testBit n <;> cases p.testBit n <;> cases p'.testBit n <;> simp <;> omega
theorem Cae {a b : Nat} {t : Int} (ha : a < 2 ^ 63) (hb : b < 2 ^ 63) : ∀ n, n ≤ 64 → (Yd (PC (a : Int) (b : Int) t) n []).length = Pe n a b
 | 0, _ => rfl
 | n + 1, hn => by
  have ih := Cae (t := t) ha hb n (by omega)
  show (PC (a : Int) (b : Int) t n (Yd (PC (a : Int) (b : Int) t) n [])).length = Pe n a b + cond (a.testBit n ^^ b.testBit n) 1 0
  generalize Yd (PC (a : Int) (b : Int) t) n [] = o at ih ⊢
  unfold PC
  rw [L9 ha hb (by omega), qp]
  cases a.testBit n ^^ b.testBit n with
  | false => simp only [ua]; omega
  | true => simp only [zz]; simp; omega
theorem Xac {c c' : Ea} {x : Ca} {r l : List Ca} (hq : c.2.2.1 = x :: r) (hs : Rf c x r = some (c', l)) : c'.1 = c.1 ∧ c'.2.1 = c.2.1 ∧ c'.2.2.1 <:+ c.2.2.1 := by
 unfold Rf at hs
 revert hs
 cases hd : x.2.2.1 with
 | false =>
  intro hs
  simp only [ua, jc] at hs
  obtain ⟨f1, f2, f3, _, _⟩ := VN (c.1, c.2.1, r, c.2.2.2.1, max c.2.2.2.2.1 x.1, c.2.2.2.2.2) x.2.1 (max c.2.2.2.2.1 x.1)
  rw [hs] at f1 f2 f3
  refine ⟨f1, f2, ?_⟩
  have f3' : c'.2.2.1 = r := f3
  rw [f3', hq]
  exact List.suffix_cons x r
 | true =>
  simp only [zz]
  generalize Vd c.1 c.2.1 c.2.2.1 c.2.2.2.1 = b
  cases b.1 == 0 with
  | true => intro hs; simp at hs
  | false =>
   simp only [ua]
   cases decide (b.2.2 < 0) <;> (intro hs; simp only [zz, ua, jc, jh] at hs; rw [← hs.1]; exact ⟨rfl, rfl, List.drop_suffix _ _⟩)
theorem QH : ∀ (n : Nat) (c : Ea), (Mb n c []).1.1 = c.1 ∧ (Mb n c []).1.2.1 = c.2.1 ∧ (Mb n c []).1.2.2.1 <:+ c.2.2.1
 | 0, c => ⟨rfl, rfl, List.suffix_refl _⟩
 | n + 1, c => by
  cases hq : c.2.2.1 with
  | nil => rw [FT hq]; exact ⟨rfl, rfl, by rw [hq]; exact List.suffix_refl _⟩
  | cons x r =>
   cases hst : Rf c x r with
   | none => rw [Y0 hq hst]; exact ⟨rfl, rfl, by rw [hq]; exact List.suffix_refl _⟩
   | some p =>
    obtain ⟨c1, l1⟩ := p
    rw [Z0 hq hst]
    obtain ⟨h1, h2, h3⟩ := Xac hq hst
    obtain ⟨i1, i2, i3⟩ := QH n c1
    rw [hq] at h3
    exact ⟨i1.trans h1, i2.trans h2, i3.trans h3⟩
theorem HO : ∀ (n : Nat) (d : Eb) (s : List Sd), (Fd n d s).1.2.2.1 <:+ d.2.2.1
 | 0, d, s => List.suffix_refl _
 | n + 1, d, s => by
  cases hq : d.2.2.1 with
  | nil =>
   have e : Fd (n + 1) d s = (d, s) := by simp only [Fd, hq]
   rw [e, hq]; exact List.suffix_refl _
  | cons x r =>
   cases hst : Xj d x r with
   | none =>
    have e : Fd (n + 1) d s = (d, s) := by simp only [Fd, hq, hst]
    rw [e, hq]; exact List.suffix_refl _
   | some p =>
    obtain ⟨d', l⟩ := p
    have e : Fd (n + 1) d s = Fd n d' (Lp s d'.2.2.2.2.1 l) := by simp only [Fd, hq, hst]
    have e1 : d'.2.2.1 = r := by rw [PL hst]
    have ih := HO n d' (Lp s d'.2.2.2.2.1 l)
    rw [e1] at ih
    rw [e]
    exact ih.trans (List.suffix_cons x r)
structure Pot (b : Vb) (ct dt v K Q p : Nat) : Prop where
 ex : ∃ s a : Nat, b.2.1.2.2.2.1 = (s : Int) ∧ b.2.2.2.2.1 = (a : Int) ∧ Pe 32 s a + Pe 32 a p ≤ K ∧
  (∀ pre y r, b.2.2.1.2.2.1 = pre ++ y :: r → ((r.length + 1 + (Pe 32 s a + Pe 32 a p) : Nat) : Int) ≤ (v : Int) * b.2.2.2.2.2.1 - (v : Int) * y.1 + (K : Int)) ∧
  (∀ pre z r, b.2.2.2.1.2.2.1 = pre ++ z :: r → ((r.length + 1 + b.2.2.1.2.2.1.length + (Pe 32 s a + Pe 32 a p) : Nat) : Int) ≤ (v : Int) * b.2.2.2.2.2.1 - (v : Int) * z.1 + (Q : Int) + (K : Int)) ∧
  b.2.2.1.2.2.1.length + (Pe 32 s a + Pe 32 a p) ≤ Q + K
 hct : b.2.2.1.2.1 = (ct : Int)
 hdt : b.2.2.2.1.2.1.1 = (dt : Int)
 cdue : ∀ y r, b.2.2.1.2.2.1 = y :: r → b.2.2.2.2.2.1 ≤ y.1 + (ct : Int)
 ddue : ∀ y r, b.2.2.2.1.2.2.1 = y :: r → b.2.2.2.2.2.1 ≤ y.1 + (dt : Int)
theorem Mag {v : Nat} {T y : Int} {c : Nat} (h : T ≤ y + (c : Int)) : (v : Int) * T - (v : Int) * y ≤ (v : Int) * (c : Int) := by
 have h1 : (v : Int) * T ≤ (v : Int) * (y + (c : Int)) := Int.mul_le_mul_of_nonneg_left h (Int.natCast_nonneg v)
 rw [Int.mul_add] at h1
 omega
theorem WaH {b : Vb} {ct dt v K Q p s a : Nat} (h : Pot b ct dt v K Q p) (hs : b.2.1.2.2.2.1 = (s : Int)) (ha : b.2.2.2.2.1 = (a : Int)) :
 b.2.2.1.2.2.1.length + (Pe 32 s a + Pe 32 a p) ≤ Q + K ∧ b.2.2.1.2.2.1.length + b.2.2.2.1.2.2.1.length + (Pe 32 s a + Pe 32 a p) ≤ Q + v * dt + K := by
 obtain ⟨s', a', h1, h2, h3, h4, h5, hc⟩ := h.ex
 have : s' = s := by omega
 subst this
 have : a' = a := by omega
 subst this
 refine ⟨hc, ?_⟩
 cases hq : b.2.2.2.1.2.2.1 with
 | nil => simp only [qb]; have : 0 ≤ v * dt := zj _; omega
 | cons z r =>
  have e1 := h5 [] z r hq
  have e2 := Mag (v := v) (h.ddue z r hq)
  have e4 : ((v * dt : Nat) : Int) = (v : Int) * (dt : Int) := Int.natCast_mul _ _
  simp only [jw]
  omega
structure ZN (b : Vb) (kc keys g ct dt v K Q p : Nat) : Prop where
 i : Ear b kc keys g
 nw : b.2.2.1.2.2.2.1 = b.2.2.2.1.2.2.2.1
 stk : TJ b.2.2.1
 dst : RZ b.2.2.2.1
 pot : Pot b ct dt v K Q p
 nt : b.2.2.1.2.2.2.1 < b.2.2.2.2.2.1 ∨ (b.2.2.1.2.2.1 = [] ∧ b.2.2.2.1.2.2.1 = [])
 pm : p < 2 ^ kc
def IM (kc Q : Nat) (L : List Na) : Prop := ∀ (c : Ea) (D m : Nat), HM kc c D m → TJ c → c.1 = L → c.2.2.1.length ≤ Q
theorem X6 {α : Type} {q l pre r : List α} {y : α} {m : List α} (hm : m <:+ q ++ l) (h : m = pre ++ y :: r) : (∃ pre' r1, q = pre' ++ y :: r1 ∧ r = r1 ++ l) ∨ (r.length + 1 ≤ l.length ∧ y ∈ l) := by
 obtain ⟨t, ht⟩ := hm
 rw [h, ← yh] at ht
 generalize t ++ pre = P at ht
 rcases List.append_eq_append_iff.1 ht with ⟨a', e1, e2⟩ | ⟨c', e1, e2⟩
 ·
  cases a' with
  | nil =>
   right
   rw [List.nil_append] at e2
   rw [← e2]
   exact ⟨by simp, by simp⟩
  | cons z a' =>
   simp only [yu, yv] at e2
   obtain ⟨rfl, rfl⟩ := e2
   exact .inl ⟨P, a', e1, rfl⟩
 ·
  right
  rw [e2]
  exact ⟨by simp, by simp⟩
structure Uai (b : Vb) (x : Int) (kc keys g g' m m' : Nat) : Prop where
 eq : Uf b x = ((b.1, Kh b x, (Pi b x).1, (TB b x).1, Ol b x, b.2.2.2.2.2.1 + 1, ()), (TB b x).2, true, ())
 sh : b.2.1.2.2.2.1 = (m : Int)
 sh2 : (Kh b x).2.2.2.1 = (m' : Int)
 e1 : ∃ t, Zi kc b.2.2.1.2.2.2.1 m (Xr b x) t m' ∧ t ≤ b.2.2.2.2.2.1
 e2 : ∃ t, Zi keys b.2.2.2.1.2.2.2.1 g (Pi b x).2 t g' ∧ t ≤ b.2.2.2.2.2.1
 acc : MQ b.1 b.2.2.2.2.1 (Cm b.1 x) = true
 deb : JF b.2.1 (Ol b x) = (Kh b x, true, ())
theorem Cac {b : Vb} {kc keys g ct dt v K Q δ p p' : Nat} (h : ZN b kc keys g ct dt v K Q p) (hQ : v * ct ≤ Q ∨ IM kc Q b.2.2.1.1) (hx : Ic b.1 (p' : Int) = true) (hpk : p' < 2 ^ kc) (hv : Pe 32 p p' ≤ v + δ) (hT : b.2.2.2.2.2.1 < 1000000) (hK : 2 * kc ≤ K) (h64 : Q + v * dt + K + v + δ ≤ 64) :
 ∃ g' m m' : Nat, Uai b (p' : Int) kc keys g g' m m' ∧ ZN (Uf b (p' : Int)).1 kc keys g' ct dt v (K + δ) Q p' ∧ (Uf b (p' : Int)).1.2.2.1.1 = b.2.2.1.1 ∧ (Xr b (p' : Int)).length = Pe 32 m m' ∧
  (∀ a a' : Nat, b.2.2.2.2.1 = (a : Int) → Ol b (p' : Int) = (a' : Int) → (Xr b (p' : Int)).length + (Pe 32 m' a' + Pe 32 a' p') ≤ Pe 32 m a + Pe 32 a p + Pe 32 p p') := by
 obtain ⟨s, a, hs, ha, hpsi, hcq, hdq, hcQ⟩ := h.pot.ex
 have hB := OM h.i
 have hP := YP hB hx
 obtain ⟨ta1, ta2, ta3⟩ := EM hP
 obtain ⟨td1, td2⟩ := OT hP
 obtain ⟨o, p2, a', hA⟩ := Sax h.i.acc hx
 have e : o = a := by have := hA.ho; omega
 subst e
 have e : p2 = p' := by have := hA.hp; omega
 subst e
 have hacc : Ol b (p2 : Int) = (a' : Int) := hA.ha
 obtain ⟨s1, r1, s', hD⟩ := Wax ta3
 have e : s1 = s := by have := hD.hs; omega
 subst e
 have e : r1 = a' := by have := hD.hr; omega
 subst e
 have hsh : (Kh b (p2 : Int)).2.2.2.1 = (s' : Int) := by rw [td2]; exact hD.hs'
 have hdp := ED h.i.db
 have hkc := h.i.kc2
 have hdk := h.i.dk
 have s1k : s1 < 2 ^ kc := by
  obtain ⟨n, hn, hn2⟩ := UC hdp.sh
  rw [hdk, jn] at hn2
  have : n = s1 := by omega
  omega
 have hdv : Gd (Kh b (p2 : Int)) = true := PT ta3
 have hdp' := ED hdv
 have hdk' : (Kh b (p2 : Int)).2.2.1 = (kc : Int) := by rw [td2]; exact hdk
 have s'k : s' < 2 ^ kc := by
  obtain ⟨n, hn, hn2⟩ := UC hdp'.sh
  rw [hdk', jn] at hn2
  have : n = s' := by omega
  omega
 have a'k : r1 < 2 ^ kc := by
  obtain ⟨n, hn, hn2⟩ := UC hdp'.la
  rw [hdk', jn] at hn2
  have e : (Kh b (p2 : Int)).2.2.2.2.1 = Ol b (p2 : Int) := by rw [td2]
  rw [e, hacc] at hn
  have : n = r1 := by omega
  omega
 have h63 : ∀ x, x < 2 ^ kc → x < 2 ^ 63 := fun x hx => qn hx (qo (by omega) (by omega))
 have hel : (Xr b (p2 : Int)).length = Pe 32 s1 s' := by
  unfold Xr UO
  rw [hs, hsh]
  exact Cae (h63 _ s1k) (h63 _ s'k) 32 (by omega)
 have hham := Mat 32 (s := s1) (a := o) (p := p) (s' := s') (a' := r1) (p' := p2) (Bat hD) hA.bit
 have hpot := WaH h.pot hs ha
 have hpsi' : Pe 32 s' r1 + Pe 32 r1 p2 ≤ 2 * kc := by
  have u1 := Q1 s'k a'k (32 - kc)
  have u2 := Q1 a'k hpk (32 - kc)
  rw [show kc + (32 - kc) = 32 by omega] at u1 u2
  have l1 := P1 kc s' r1
  have l2 := P1 kc r1 p2
  omega
 obtain ⟨hT1, g', m, m', t1, t2, hS, hm, hm', _, _, hE, ht1, hE2, ht2, hout⟩ := FaI (x := (p2 : Int)) (N := b.2.2.1.2.2.1.length + b.2.2.2.1.2.2.1.length) ⟨h.i, h.nw, h.stk, jo _⟩ hx hT (by omega)
 have e : m = s1 := by omega
 subst e
 have e : m' = s' := by omega
 subst e
 refine ⟨g', m, m', ⟨hT1, hm, hm', ⟨t1, hE, ht1⟩, ⟨t2, hE2, ht2⟩, ta1, td1⟩, ?_, by rw [hT1]; exact (QH 64 (Oj b.2.2.1 (Xr b (p2 : Int)) b.2.2.2.2.2.1)).1, hel, ?_⟩
 ·have hI := hS.i
  have hnw := hS.nw
  have hstk := hS.stk
  rw [hT1] at hI hnw hstk ⊢
  have hdst : RZ (TB b (p2 : Int)).1 := LX _ _ _ (jo _)
  obtain ⟨f1, f2, f3⟩ := QH 64 (Oj b.2.2.1 (Xr b (p2 : Int)) b.2.2.2.2.2.1)
  have f2' : (Pi b (p2 : Int)).1.2.1 = (ct : Int) := f2.trans h.pot.hct
  have q := S4 (Si b.2.2.2.1 (Pi b (p2 : Int)).2 b.2.2.2.2.2.1).2.2.1.length (Si b.2.2.2.1 (Pi b (p2 : Int)).2 b.2.2.2.2.2.1) []
  have q2 : (TB b (p2 : Int)).1.2.2.2.1 = b.2.2.2.2.2.1 := q.2.1
  have q3 : (TB b (p2 : Int)).1.2.1 = b.2.2.2.1.2.1 := q.2.2
  have q3' : (TB b (p2 : Int)).1.2.1.1 = (dt : Int) := by rw [q3]; exact h.pot.hdt
  have hnw' : (Pi b (p2 : Int)).1.2.2.2.1 = (TB b (p2 : Int)).1.2.2.2.1 := hnw
  obtain ⟨D, m2, hCI, _, _⟩ := hI.cb
  have hdc : BQ keys (TB b (p2 : Int)).1 g' := hI.dc
  have hw : ∀ pre y r, (Pi b (p2 : Int)).1.2.2.1 = pre ++ y :: r → ((r.length + 1 + (Pe 32 m' r1 + Pe 32 r1 p2) : Nat) : Int) ≤ (v : Int) * (b.2.2.2.2.2.1 + 1) - (v : Int) * y.1 + ((K + δ : Nat) : Int) := by
   intro pre y r hq'
   have hsuf : (Pi b (p2 : Int)).1.2.2.1 <:+ b.2.2.1.2.2.1 ++ Xr b (p2 : Int) := f3
   rw [Int.mul_add, Int.mul_one]
   rcases X6 hsuf hq' with ⟨pre', r', e1, e2⟩ | ⟨e1, e2⟩
   ·have := hcq pre' y r' e1
    rw [e2, qh]
    omega
   ·have hy := SM hE y e2
    have h1 : (v : Int) * y.1 ≤ (v : Int) * b.2.2.2.2.2.1 := Int.mul_le_mul_of_nonneg_left (by omega) (Int.natCast_nonneg v)
    omega
  have hcd : ∀ y r, (Pi b (p2 : Int)).1.2.2.1 = y :: r → b.2.2.2.2.2.1 + 1 ≤ y.1 + (ct : Int) := by
   intro y r hq
   have hd := IaF h.i.kc2 hCI hstk hq
   have hd' : (Pi b (p2 : Int)).1.2.2.2.1 < y.1 + (Pi b (p2 : Int)).1.2.1 := hd
   omega
  refine ⟨hI, hnw, hstk, hdst, ⟨⟨m', r1, hm', hacc, by omega, hw, ?_, ?_⟩, f2', q3', hcd, ?_⟩, .inl (show (Pi b (p2 : Int)).1.2.2.2.1 < b.2.2.2.2.2.1 + 1 by omega), hpk⟩
  ·
   intro pre z r hq
   have hq' : (TB b (p2 : Int)).1.2.2.1 = pre ++ z :: r := hq
   have hsuf : (TB b (p2 : Int)).1.2.2.1 <:+ b.2.2.2.1.2.2.1 ++ (Pi b (p2 : Int)).2 := HO _ (Si b.2.2.2.1 (Pi b (p2 : Int)).2 b.2.2.2.2.2.1) []
   show ((r.length + 1 + (Pi b (p2 : Int)).1.2.2.1.length + (Pe 32 m' r1 + Pe 32 r1 p2) : Nat) : Int) ≤ (v : Int) * (b.2.2.2.2.2.1 + 1) - (v : Int) * z.1 + (Q : Int) + ((K + δ : Nat) : Int)
   rw [Int.mul_add, Int.mul_one]
   rcases X6 hsuf hq' with ⟨pre', r', e1, e2⟩ | ⟨e1, e2⟩
   ·have := hdq pre' z r' e1
    rw [e2, qh]
    omega
   ·have hz := SM hE2 z e2
    have h1 : (v : Int) * z.1 ≤ (v : Int) * b.2.2.2.2.2.1 := Int.mul_le_mul_of_nonneg_left (by omega) (Int.natCast_nonneg v)
    have := hpot.1
    omega
  ·show (Pi b (p2 : Int)).1.2.2.1.length + (Pe 32 m' r1 + Pe 32 r1 p2) ≤ Q + (K + δ)
   rcases hQ with hQ | hQ
   ·cases hq : (Pi b (p2 : Int)).1.2.2.1 with
    | nil => simp only [qb]; omega
    | cons y r =>
     have e1 := hw [] y r hq
     have e2 := Mag (v := v) (hcd y r hq)
     have e3 : ((v * ct : Nat) : Int) = (v : Int) * (ct : Int) := Int.natCast_mul _ _
     simp only [jw]
     omega
   ·have := hQ (Pi b (p2 : Int)).1 D m2 hCI hstk f1
    omega
  ·intro z r hq
   have hd := UaH hdc hdst hq
   show b.2.2.2.2.2.1 + 1 ≤ z.1 + (dt : Int)
   omega
 ·intro a2 a3 h1 h2
  have e : a2 = o := by omega
  subst e
  have e : a3 = r1 := by omega
  subst e
  omega
structure L3 (d : Rb) (j : Nat) : Prop where
 la : 1 ≤ j → d.2.2.2.2.1 = 0
 age : ∀ (s : Nat) (k : Nat) (x : Int), d.2.2.2.1 = (s : Int) → d.2.2.2.2.2.1[k]? = some x → s.testBit k = true → (j : Int) ≤ x ∧ (1 ≤ j → x < d.2.1)
theorem Ban {d : Rb} (h : Gd d = true) : L3 d 0 := by
 refine ⟨fun h => by omega, fun s k x _ hx _ => ⟨?_, fun h => by omega⟩⟩
 simp only [Gd, jd] at h
 have hag := h.2.2.2.2.2.2
 unfold WJ at hag
 have h1 := (Dl (p := fun x : Int => decide ((0 : Int) ≤ x ∧ x ≤ 99))).1 hag x (List.mem_of_getElem? hx)
 simp only [decide_eq_true_eq] at h1
 exact h1.1
theorem Aan {d : Rb} {j : Nat} (h : MC d 0 = true) (hQ : L3 d j) (hj : j ≤ 90) : L3 (JF d 0).1 (j + 1) ∧ (JF d 0).1.2.1 = d.2.1 := by
 obtain ⟨s, r, s', hD⟩ := Wax h
 have hr0 : r = 0 := by have := hD.hr; omega
 subst hr0
 have h' := h
 unfold MC at h'
 rw [jd] at h'
 have hdp := ED h'.1
 have e : JF d 0 = ((d.1, d.2.1, d.2.2.1, (IF d 0).1, 0, (IF d 0).2, ()), true, ()) := by
  unfold JF; rw [h]; rfl
 rw [e]
 refine ⟨⟨fun _ => rfl, fun s2 k x hs2 hx hb => ?_⟩, rfl⟩
 have hs2' : (IF d 0).1 = (s2 : Int) := hs2
 have es : s2 = s' := by have := hD.hs'; omega
 subst es
 have hx' : (IF d 0).2[k]? = some x := hx
 have hk : k < d.2.2.2.2.2.1.length := by
  obtain ⟨hk, _⟩ := yk.1 hx'
  rw [← hD.len]; exact hk
 have h1 := hD.age k hk
 rw [hx'] at h1
 simp only [jc] at h1
 have h2 := hD.lo k hk
 have h3 := hD.cn k hk
 have h64 := hdp.k2
 have hlen := hdp.len
 simp only [Nat.zero_testBit, Bool.false_xor] at h3
 rw [hb, h3] at h2
 rw [h3] at h1
 cases hsk : s.testBit k with
 | false => rw [hsk] at h2; simp at h2
 | true =>
  rw [hsk] at h2 h1
  simp only [Bool.and_true, jg] at h2 h1
  cases hA : decide (UG d 0 k d.2.2.2.2.2.1[k] ≥ d.2.1) with
  | true => rw [hA] at h2; simp at h2
  | false =>
   rw [hA] at h1
   simp only [qr, ua] at h1
   simp only [decide_eq_false_iff_not] at hA
   have hold := (hQ.age s k d.2.2.2.2.2.1[k] hD.hs (je hk) hsk).1
   have h99 : d.2.2.2.2.2.1[k] ≤ 99 := by
    have hi := h'.1
    simp only [Gd, jd] at hi
    have hag := hi.2.2.2.2.2.2
    unfold WJ at hag
    have h1 := (Dl (p := fun x : Int => decide ((0 : Int) ≤ x ∧ x ≤ 99))).1 hag _ (qt hk)
    simp only [decide_eq_true_eq] at h1
    exact h1.2
   refine ⟨?_, fun _ => by show x < d.2.1; omega⟩
   rw [h1]
   unfold UG
   rw [Qc (n := d.2.2.2.2.2.1[k] + 1) (by omega) (by omega)]
   by_cases hj0 : j = 0
   ·subst hj0
    cases (d.1 == 0) && (Wd 0 (k : Int) != Wd d.2.2.2.2.1 (k : Int)) with
    | true => simp only [zz]; omega
    | false =>
     cases (d.1 == 1) && ((0 : Int) != d.2.2.2.2.1) with
     | true => simp only [zz, ua]; omega
     | false => simp only [ua]; omega
   ·have hla := hQ.la (by omega)
    rw [hla]
    simp only [bne_self_eq_false, Bool.and_false, ua]
    omega
theorem YQ {d : Rb} {j dT : Nat} (h : Gd d = true) (hQ : L3 d j) (hT : d.2.1 = (dT : Int)) (h1 : 1 ≤ j) (hj : dT ≤ j) : d.2.2.2.1 = 0 := by
 have hdp := ED h
 obtain ⟨s, hs, hs2⟩ := UC hdp.sh
 have hl := hdp.len
 rw [hs]
 have : s = 0 := by
  apply zp
  intro k
  rw [Nat.zero_testBit]
  cases hb : s.testBit k with
  | false => rfl
  | true =>
   exfalso
   by_cases hk : k < d.2.2.2.2.2.1.length
   ·have := hQ.age s k _ hs (je hk) hb
    have := this.2 h1
    omega
   ·have : s.testBit k = false := zu (qn hs2 (qo (by omega) (by omega)))
    rw [hb] at this
    exact absurd this (by simp)
 rw [this]; rfl
theorem Hat (a t : Int) : UO a a t = [] := by
 unfold UO
 have : ∀ n, Yd (PC a a t) n [] = [] := by
  intro n
  induction n with
  | zero => rfl
  | succ n ih =>
   show PC a a t n (Yd (PC a a t) n []) = []
   rw [ih]
   unfold PC
   simp
 exact this 32
structure KV (b : Vb) (kc keys ct dt v K Q p dT T0 j : Nat) : Prop where
 p : ∃ g, ZN b kc keys g ct dt v K Q p
 hdT : b.2.1.2.1 = (dT : Int)
 tm : b.2.2.2.2.2.1 = ((T0 + j : Nat) : Int)
 db : L3 b.2.1 j
 cqt : ∀ y ∈ b.2.2.1.2.2.1, y.1 < ((T0 + dT : Nat) : Int)
 dqt : ∀ y ∈ b.2.2.2.1.2.2.1, y.1 < ((T0 + dT + ct : Nat) : Int)
theorem Cal {b : Vb} {kc keys g ct dt v K Q p dT T0 : Nat} (h : ZN b kc keys g ct dt v K Q p) (hT : b.2.1.2.1 = (dT : Int)) (h0 : b.2.2.2.2.2.1 = (T0 : Int)) : KV b kc keys ct dt v K Q p dT T0 0 := by
 obtain ⟨D, m, hC, _, _⟩ := h.i.cb
 obtain ⟨t0, t, _, htn, hE⟩ := hC.q
 obtain ⟨s0, s1, m0, _, hE2, _, hs1⟩ := h.i.dc.ex
 have hnw := h.nw
 refine ⟨⟨g, h⟩, hT, h0, Ban h.i.db, fun y hy => ?_, fun y hy => ?_⟩
 ·rcases h.nt with hn | ⟨hn, _⟩
  ·have := (SM hE y hy).2.2
   omega
  ·rw [hn] at hy; simp at hy
 ·rcases h.nt with hn | ⟨_, hn⟩
  ·have := (SM hE2 y hy).2.2
   omega
  ·rw [hn] at hy; simp at hy
theorem Bal {b : Vb} {kc keys ct dt v K Q δ p dT T0 j : Nat} (h : KV b kc keys ct dt v K Q p dT T0 j) (hQ : v * ct ≤ Q ∨ IM kc Q b.2.2.1.1) (hx : Ic b.1 0 = true) (hv : Pe 32 p 0 ≤ v + δ) (hT : T0 + j < 1000000) (hK : 2 * kc ≤ K) (h64 : Q + v * dt + K + v + δ ≤ 64) (hj : j ≤ 90) (h1 : 1 ≤ dT) :
 ∃ (b' : Vb) (s : List Sd), Uf b 0 = (b', s, true, ()) ∧ KV b' kc keys ct dt v (K + δ) Q 0 dT T0 (j + 1) ∧ b'.1 = b.1 ∧ b'.2.2.1.1 = b.2.2.1.1 ∧ ∃ g g' m m', Uai b 0 kc keys g g' m m' := by
 obtain ⟨g, hP⟩ := h.p
 obtain ⟨g', m, m', hE, hP', hcL, _, _⟩ := Cac (p' := 0) hP hQ hx (zt kc) hv (by have := h.tm; omega) hK h64
 have hE' : Uai b 0 kc keys g g' m m' := hE
 have eq := hE'.eq
 have hcL' : (Uf b 0).1.2.2.1.1 = b.2.2.1.1 := hcL
 rw [eq] at hcL'
 refine ⟨_, _, eq, ?_, rfl, hcL', g, g', m, m', hE'⟩
 have hB := OM hP.i
 have hTP := YP hB hx
 obtain ⟨ta1, ta2, ta3⟩ := EM hTP
 obtain ⟨o, p2, a', hA⟩ := Sax hP.i.acc hx
 have hp2 : p2 = 0 := by have := hA.hp; omega
 have ha0 := hA.zero hp2
 have hacc : Ol b 0 = 0 := by
  have : Ol b 0 = (a' : Int) := hA.ha
  rw [this, ha0]; rfl
 rw [hacc] at ta3
 have hdst := Aan ta3 h.db hj
 have edeb : Kh b 0 = (JF b.2.1 0).1 := by unfold Kh; rw [hacc]
 have hPe : ZN (Uf b 0).1 kc keys g' ct dt v (K + δ) Q 0 := hP'
 rw [eq] at hPe
 obtain ⟨t1, hE1, ht1⟩ := hE'.e1
 obtain ⟨t2, hE2, ht2⟩ := hE'.e2
 have htm := h.tm
 have hnone : dT ≤ j → Xr b 0 = [] := by
  intro hdj
  have hs0 : b.2.1.2.2.2.1 = 0 := YQ hP.i.db h.db h.hdT (by omega) hdj
  have hs1 : (Kh b 0).2.2.2.1 = 0 := by
   rw [edeb]
   have hv : Gd (JF b.2.1 0).1 = true := PT ta3
   exact YQ hv hdst.1 (by rw [hdst.2]; exact h.hdT) (by omega) (by omega)
  unfold Xr
  rw [hs0, hs1]
  exact Hat 0 _
 have hcq0 : dT + ct ≤ j → b.2.2.1.2.2.1 = [] := by
  intro hd
  cases hq : b.2.2.1.2.2.1 with
  | nil => rfl
  | cons y r =>
   have h1 := hP.pot.cdue y r hq
   have h2 := h.cqt y (by rw [hq]; simp)
   omega
 refine ⟨⟨g', hPe⟩, ?_, ?_, ?_, ?_, ?_⟩
 ·show (Kh b 0).2.1 = (dT : Int)
  rw [edeb, hdst.2]; exact h.hdT
 ·show b.2.2.2.2.2.1 + 1 = ((T0 + (j + 1) : Nat) : Int)
  omega
 ·show L3 (Kh b 0) (j + 1)
  rw [edeb]; exact hdst.1
 ·intro y hy
  have hsuf : (Pi b 0).1.2.2.1 <:+ b.2.2.1.2.2.1 ++ Xr b 0 := (QH 64 (Oj b.2.2.1 (Xr b 0) b.2.2.2.2.2.1)).2.2
  rcases jl.1 (hsuf.subset hy) with hy | hy
  ·exact h.cqt y hy
  ·by_cases hdj : dT ≤ j
   ·rw [hnone hdj] at hy; simp at hy
   ·have := (SM hE1 y hy).2.2
    omega
 ·intro y hy
  have hsuf : (TB b 0).1.2.2.1 <:+ b.2.2.2.1.2.2.1 ++ (Pi b 0).2 := HO _ (Si b.2.2.2.1 (Pi b 0).2 b.2.2.2.2.2.1) []
  rcases jl.1 (hsuf.subset hy) with hy | hy
  ·exact h.dqt y hy
  ·by_cases hdj : dT + ct ≤ j
   ·exfalso
    have e : Pi b 0 = (Oj b.2.2.1 (Xr b 0) b.2.2.2.2.2.1, []) := FT (by
     show jf b.2.2.1.2.2.1 (Xr b 0) = []
     rw [hcq0 hdj, hnone (by omega)]; rfl)
    rw [e] at hy
    simp at hy
   ·have := (SM hE2 y hy).2.2
    omega
theorem Gaq {b : Vb} {kc keys ct dt v K Q p dT T0 j : Nat} (h : KV b kc keys ct dt v K Q p dT T0 j) (h1 : 1 ≤ dT) (hj : dT + ct + dt ≤ j) :
 b.2.1.2.2.2.1 = 0 ∧ b.2.2.1.2.2.1 = [] ∧ b.2.2.2.1.2.2.1 = [] ∧ b.2.2.1.2.2.2.2.2.1 = 0 ∧ Tb b.2.2.1 = [] ∧ b.2.2.2.1.1.2.2.2.1 = [] := by
 obtain ⟨g, hP⟩ := h.p
 have htm := h.tm
 have hs0 : b.2.1.2.2.2.1 = 0 := YQ hP.i.db h.db h.hdT (by omega) (by omega)
 have hcq : b.2.2.1.2.2.1 = [] := by
  cases hq : b.2.2.1.2.2.1 with
  | nil => rfl
  | cons y r =>
   have h1 := hP.pot.cdue y r hq
   have h2 := h.cqt y (by rw [hq]; simp)
   omega
 have hdq : b.2.2.2.1.2.2.1 = [] := by
  cases hq : b.2.2.2.1.2.2.1 with
  | nil => rfl
  | cons y r =>
   have h1 := hP.pot.ddue y r hq
   have h2 := h.dqt y (by rw [hq]; simp)
   omega
 obtain ⟨D, m, hC, hm, hg⟩ := hP.i.cb
 have hm0 : m = 0 := by omega
 obtain ⟨t0, t, _, _, hE⟩ := hC.q
 rw [hcq] at hE
 obtain ⟨_, hdn⟩ := YO hE
 have hdn0 : Gm b.2.2.1 D = 0 := by omega
 unfold Gm at hdn0
 have hD0 : D = 0 := by have := Nat.left_le_or (n := D) (m := Lf (Tb b.2.2.1)); omega
 have hA0 : Lf (Tb b.2.2.1) = 0 := by have := Nat.right_le_or (n := D) (m := Lf (Tb b.2.2.1)); omega
 have hact : Tb b.2.2.1 = [] := by
  cases hq : Tb b.2.2.1 with
  | nil => rfl
  | cons x r =>
   exfalso
   rw [hq] at hA0
   have h2 := (hC.s.m).b x (by rw [hq]; simp)
   have h3 : x.2.1.toNat ≤ Lf (x :: r) := Nat.left_le_or
   omega
 have hg0 : g = 0 := by
  rw [← hg]
  unfold Hi
  rw [hact, hD0]
  rfl
 obtain ⟨s0, s1, m0, hmk, hE2, _, _⟩ := hP.i.dc.ex
 rw [hdq] at hE2
 obtain ⟨_, hgm⟩ := YO hE2
 have hm00 : m0 = 0 := by omega
 refine ⟨hs0, hcq, hdq, ?_, hact, ?_⟩
 ·rw [hC.s.d, hD0]; rfl
 ·cases hq : b.2.2.2.1.1.2.2.2.1 with
  | nil => rfl
  | cons x r =>
   exfalso
   have h2 := hmk.bit x.1.toNat
   have hx := ((CE b.2.2.2.1.1.2.2.2.1).1 hP.i.dc.i.pl.eng.hd)
   rw [hm00, Nat.zero_testBit, hq] at h2
   have hx0 := hx.1 x (by rw [hq]; simp)
   have : Oo (x :: r) x.1.toNat = true := by
    unfold Oo
    rw [List.any_cons]
    have : (x.1 == ((x.1.toNat : Nat) : Int)) = true := by
     rw [beq_iff_eq]
     have := hx0.lo
     omega
    rw [this]
    rfl
   rw [this] at h2
   exact absurd h2 (by simp)

theorem Nac (r : Ra) (h : r.2.1.length ≤ Xa) : Cj r r = some (true, ()) := by
 unfold Cj
 rw [KL _ _ h]
 simp
theorem T7 (l : List Sd) (hn : l.length ≤ 1000000) (hr : ∀ y ∈ l, y.2.1.2.1.length ≤ 56) : Mw l l = some (true, ()) := by
 have hl := Re (step := fun x => Rs x.1.1 x.1.2.1 x.1.2.2.1 x.1.2.2.2.1) l (fun _ _ => true) (fun i => ((l, l, ((ja l : Nat) : Int), i, ()), ())) (.inl ((), ())) (.inr ((false, ()), ())) (by
  intro k hk
  simp only [Rs]
  rw [Aa (show (k : Int) < ((ja l : Nat) : Int) by omega), Ub hk]
  simp only [zz, jb]
  rw [Nac _ (by have := hr _ (qt hk); rw [Tf]; omega)]
  simp) (by
  simp only [Rs]
  rw [Ba (by omega)]; rfl) (by omega)
 unfold Mw Bv
 erw [hl]
 rw [QK]
 simp
theorem Y2 (l : List Ca) (hn : l.length ≤ Ga) : Ry l l = some (true, ()) := by
 have h20 : Ga = 1048576 := rfl
 have hl := Re (step := fun x => Ip x.1.1 x.1.2.1 x.1.2.2.1) l (fun _ _ => true) (fun i => ((l, l, i, ()), ())) (.inl ((), ())) (.inr ((false, ()), ())) (by
  intro k hk
  simp only [Ip]
  rw [Aa (show (k : Int) < ((ja l : Nat) : Int) by omega), Ub hk]
  simp only [zz, jb, Haa]; rfl) (by
  simp only [Ip]
  rw [Ba (by omega)]; rfl) (by omega)
 unfold Ry Nr
 erw [hl]
 rw [QK]
 simp
theorem Lac {keys : Nat} {d : Eb} (h : US keys d) : Wo d d = some (true, ()) := by
 have h20 : Ga = 1048576 := rfl
 have hE := h.pl.eng
 have hm := Uj hE.km
 have hl := h.pl.len
 have hh := DB hE.hd
 have ht : Ml Ad d.2.1 d.2.1 = true := by simp [Ml]
 unfold Wo
 rw [X2 d.1 (by have := hm.l2; omega) (fun x hx => by
  obtain ⟨i, hi, rfl⟩ := qu hx
  have := hm.row i hi
  have := hm.k2
  omega) (by omega), Y2 _ (by omega), ht]
 simp
def NK (kc v : Nat) : Nat → List Int → Prop
 | _, [] => True
 | p, x :: l => ∃ p' : Nat, x = (p' : Int) ∧ p' < 2 ^ kc ∧ Pe 32 p p' ≤ v ∧ NK kc v p' l
theorem ZG (n a : Nat) : Pe n a a = 0 := by
 induction n with
 | zero => rfl
 | succ n ih => show Pe n a a + cond (a.testBit n ^^ a.testBit n) 1 0 = 0; rw [ih]; simp
def UI (kind time : Int) (n : Nat) : Rb := (kind, time, (n : Int), (0 : Int), (0 : Int), yp n (99 : Int), ())
theorem Vab {kind time : Int} {n : Nat} (h1 : 0 ≤ kind ∧ kind ≤ 2) (h2 : 1 ≤ time ∧ time ≤ 20) (h3 : 1 ≤ n ∧ n ≤ 24) : Gd (UI kind time n) = true := by
 have hm : Rd (n : Int) 0 = true := by
  unfold Rd
  have := zt (n : Int).toNat
  exact Aa (by omega)
 have ha : WJ (yp n (99 : Int)) = true := by
  unfold WJ
  refine (Dl (p := fun x : Int => decide ((0 : Int) ≤ x ∧ x ≤ 99))).2 fun x hx => ?_
  rw [List.eq_of_mem_replicate hx]
  rfl
 unfold Gd UI
 simp only
 rw [Aa h1, Aa h2, Aa (show 1 ≤ (n : Int) ∧ (n : Int) ≤ 24 by omega), hm, ha]
 simp
theorem Hab (n : Nat) : Yd (fun _ (s : List Int) => jf s [(99 : Int)]) n [] = yp n (99 : Int) := by
 induction n with
 | zero => rfl
 | succ n ih =>
  show jf (Yd _ n []) [(99 : Int)] = _
  rw [ih, zv, ← List.replicate_succ']
theorem A5 {kind time : Int} {n : Nat} (h1 : 0 ≤ kind ∧ kind ≤ 2) (h2 : 1 ≤ time ∧ time ≤ 20) (h3 : 1 ≤ n ∧ n ≤ 24) : Bt kind time (n : Int) = some (UI kind time n, true, ()) := by
 have hB := Vab h1 h2 h3
 have hl := Vl (step := fun x => Om x.1.1 x.1.2.1 x.1.2.2.1 x.1.2.2.2.1 x.2.1 x.2.2.1) n (by omega) (fun _ (s : List Int) => jf s [(99 : Int)]) []
  (fun s i => (((n : Int), (), (), i, ()), (QZ, (kind, time, (n : Int), (0 : Int), (0 : Int), s, ()), ()))) (fun s => .inl (((), (), ()), (QZ, (kind, time, (n : Int), (0 : Int), (0 : Int), s, ()), ()))) (by
   intro k hk
   have hlen : (Yd (fun _ (s : List Int) => jf s [(99 : Int)]) k []).length = k := by rw [Hab]; simp
   generalize Yd (fun _ (s : List Int) => jf s [(99 : Int)]) k [] = s at hlen ⊢
   simp only [Om]
   rw [Aa (show (k : Int) < (n : Int) by omega), Aa (show (n : Int) ≤ 24 by omega), Ng (by simp only [jw, qb]; omega)]
   rfl) (by
   simp only [Om]
   rw [Ba (by omega)]; rfl)
 unfold Bt Ap
 erw [hl]
 simp only [jb, qm]
 rw [Hab]
 have e := KG (UI kind time n) (by show (yp n (99 : Int)).length ≤ Ga; rw [List.length_replicate]; have : Ga = 1048576 := rfl; omega)
 rw [hB] at e
 unfold UI at e
 rw [e]
 rfl
def Dm (L : List Na) (term : Int) : Ea := (L, term, ([] : List Ca), (0 : Int), (0 : Int), (0 : Int), ([] : List Ca), ())
theorem Uab {L : List Na} {term : Int} (kc : Nat) (hL : Qe L = true) (ht : 1 ≤ term ∧ term ≤ 200) : HM kc (Dm L term) 0 0 := by
 refine ⟨⟨rfl, by decide, ⟨fun x hx => by simp [Dm, Tb] at hx⟩, fun x hx => by simp [Dm, Tb] at hx, by simp [Dm, Tb], by simp [Dm, Tb], by simp [Dm, Tb], hL⟩, ht, ⟨za _, by show (0 : Int) ≤ 1000000; omega⟩, ⟨za _, za _⟩, by show 0 ≤ 64; omega, 0, 0, za _, za _, ?_⟩
 have : Gm (Dm L term) 0 = 0 := by show 0 ||| Lf [] = 0; simp [Lf]
 rw [this]
 exact Mz _ _ (by decide)
theorem UP {L : List Na} {term : Int} (hL : Qe L = true) (ht : 1 ≤ term ∧ term ≤ 200) (hn : L.length ≤ 8) : Zo L term = some (Dm L term, true, ()) := by
 have h20 : Ga = 1048576 := rfl
 have hB := A1 (kc := 24) (jo _) (Uab 24 hL ht)
 have hz : Ck (Dm L term) := ⟨by show L.length ≤ _; omega, by show 0 ≤ _; omega, by show 0 ≤ _; omega, fun x hx => by simp [Dm] at hx⟩
 have e1 := BJ _ hz
 have e2 := PN _ hz
 rw [hB] at e1
 unfold Zo
 unfold Dm at e1 e2 ⊢
 rw [e1, e2]
 rfl
theorem KaB {m : Qd} {kind time term : Int} {n keys ct dt v K Q : Nat} {L : List Na} {M : Db} {Ms : List (List Cc)} {t : Dt} (hm : Jf m = true) (hk : Dc m = (n : Int)) (hn : 1 ≤ n ∧ n ≤ 24) (hnk : n ≤ keys) (hk32 : keys ≤ 32)
 (h1 : 0 ≤ kind ∧ kind ≤ 2) (h2 : 1 ≤ time ∧ time ≤ 20) (hL : Qe L = true) (hLm : ∀ x ∈ L, Ic m x.1 = true ∧ x.2.1 < (keys : Int)) (ht : 1 ≤ term ∧ term ≤ 200) (hct : term = (ct : Int))
 (hM : Ce M = true) (hMk : M.1 = (keys : Int)) (h3 : Ms.length ≤ 4) (hMs : ∀ x ∈ Ms, Be x = true ∧ x.length ≤ 6) (htt : Kf t = true) (hdt : t.1 = (dt : Int)) :
 ZN (m, UI kind time n, Dm L term, No (Tm M Ms) t, (0 : Int), (0 : Int), ()) n keys 0 ct dt v K Q 0 := by
 have hmask0 : Ic m 0 = true := by
  unfold Ic
  rw [hm]
  have : Rd (Dc m) 0 = true := by
   unfold Rd
   have := zt (Dc m).toNat
   exact Aa (by omega)
  rw [this]; rfl
 have h0 : Bn ([] : List Va) 0 := ⟨by decide, fun j => by simp [Oo]⟩
 refine ⟨⟨hm, hk, hn.2, hnk, hk32, Vab h1 h2 hn, rfl, hmask0, hLm, ⟨0, 0, Uab n hL ht, rfl, by show 0 ||| Pj [] = 0; simp [Pj]⟩, ⟨Dat hM hMk h3 hMs htt, 0, 0, 0, h0, Mz _ _ (by decide), za _, za _⟩, ⟨za _, by show (0 : Int) ≤ 1000000; omega⟩, za _, za _⟩,
  rfl, fun x r h => by simp [Dm] at h, fun x r h => by simp [No] at h, ⟨⟨0, 0, rfl, rfl, by rw [ZG]; omega, fun pre y r h => by simp [Dm] at h, fun pre y r h => by simp [No] at h, by rw [ZG]; show 0 + (0 + 0) ≤ _; omega⟩, hct, hdt, fun y r h => by simp [Dm] at h, fun y r h => by simp [No] at h⟩, .inr ⟨rfl, rfl⟩, zt n⟩
theorem P9 {b : Vb} {kc keys g ct dt v K Q p : Nat} (h : ZN b kc keys g ct dt v K Q p) (hL : b.2.2.1.1.length ≤ 100) : Co b := by
 have h20 : Ga = 1048576 := rfl
 have hd := ED h.i.db
 have hdl := hd.len
 have hdk := hd.k2
 obtain ⟨D, m, hC, _, _⟩ := h.i.cb
 have hcl := hC.len
 have hal := TV (A1 h.i.kc2 hC)
 have he := RT h.i.dc.i.pl.eng
 have hq := h.i.dc.i.pl.len
 have hr := hC.s.m
 refine ⟨by omega, ⟨by omega, by omega, by show (Tb b.2.2.1).length ≤ _; omega, fun x hx => by have := hr.b x hx; omega⟩, ?_⟩
 rw [Bw, An]
 omega
theorem Z4 {m : Qd} {d : Rb} {c : Ea} {x : Eb} {kc keys g ct dt v K Q p : Nat} (h : ZN (m, d, c, x, (0 : Int), (0 : Int), ()) kc keys g ct dt v K Q p) (hL : c.1.length ≤ 100) : Cq m d c x = some ((m, d, c, x, (0 : Int), (0 : Int), ()), true, ()) := by
 have hB := OM h.i
 have hz := P9 h hL
 unfold Cq
 rw [NN _ hz, hB, RN _ hz]
 rfl
theorem Faz (n a b c : Nat) : Pe n a c ≤ Pe n a b + Pe n b c := by
 induction n with
 | zero => exact jo _
 | succ n ih =>
  show Pe n a c + cond (a.testBit n ^^ c.testBit n) 1 0 ≤ (Pe n a b + cond (a.testBit n ^^ b.testBit n) 1 0) + (Pe n b c + cond (b.testBit n ^^ c.testBit n) 1 0)
  cases a.testBit n <;> cases b.testBit n <;> cases c.testBit n <;> simp <;> omega
theorem Eaz (n a i : Nat) : Pe n a (a ^^^ 2 ^ i) ≤ cond (decide (i < n)) 1 0 := by
 induction n with
 | zero => simp [Pe]
 | succ n ih =>
  show Pe n a (a ^^^ 2 ^ i) + cond (a.testBit n ^^ (a ^^^ 2 ^ i).testBit n) 1 0 ≤ _
  rw [qp, qq]
  by_cases h : i = n
  ·subst h
   rw [Ba (show ¬ i < i by omega)] at ih
   rw [Aa (show i < i + 1 by omega), Aa rfl]
   simp only [ua, zz] at ih ⊢
   cases a.testBit i <;> simp <;> omega
  ·rw [show decide (i = n) = false from decide_eq_false h]
   by_cases h2 : i < n
   ·rw [Aa h2] at ih
    rw [Aa (show i < n + 1 by omega)]
    simp at ih ⊢; exact ih
   ·rw [Ba h2] at ih
    rw [Ba (show ¬ i < n + 1 by omega)]
    simp at ih ⊢; exact ih
theorem B4 (a i : Nat) : Pe 32 a (a ^^^ 2 ^ i) ≤ 1 := by
 have := Eaz 32 a i
 cases h : decide (i < 32) <;> rw [h] at this <;> simp at this <;> omega
def E2 (p : Nat) (l : List Int) : Nat := l.foldl (fun _ x => x.toNat) p
theorem M6 {kc v : Nat} {q' : Nat} (hq : q' < 2 ^ kc) : ∀ (l : List Int) (p : Nat), NK kc v p l → Pe 32 (E2 p l) q' ≤ v → NK kc v p (l ++ [(q' : Int)])
 | [], p, _, h => ⟨q', rfl, hq, h, trivial⟩
 | x :: l, p, hN, h => by
  obtain ⟨p', rfl, h1, h2, h3⟩ := hN
  exact ⟨p', rfl, h1, h2, M6 hq l p' h3 h⟩
theorem Pak (p q : Nat) (l : List Int) : E2 p (l ++ [(q : Int)]) = q := by
 unfold E2
 rw [List.foldl_append]
 simp
theorem Z2 {c : Ab} (hc : Di c) {kc most : Nat} (h1 : 1 ≤ kc ∧ kc ≤ 24) (hm : most ≤ 200) : ∃ (c' : Ab) (l : List Int), Ll c (kc : Int) (most : Int) = some (c', (l, ())) ∧ Di c' ∧ l.length ≤ most ∧ NK kc 2 0 l := by
 obtain ⟨c1, x, e1, hc1, b1⟩ := Fh hc ((most : Int) + 1) (by omega)
 obtain ⟨z, rfl⟩ := jv b1.1
 unfold Ll
 rw [Qc (n := (most : Int) + 1) (by omega) (by omega), e1]
 simp only [jb]
 have tog : ∀ (q i : Nat), q < 2 ^ kc → i < kc → Yb .i64 (q : Int) (Ma .i64 1 (i : Int)) = ((q ^^^ 2 ^ i : Nat) : Int) ∧ q ^^^ 2 ^ i < 2 ^ kc := by
  intro q i hq hi
  have h63 : q < 2 ^ 63 := qn hq (qo (by omega) (by omega))
  have hi2 : 2 ^ i < 2 ^ kc := Nat.pow_lt_pow_right (by omega) hi
  rw [Ve (by omega), Vm h63 (Ye (by omega))]
  exact ⟨rfl, qs hq hi2⟩
 have step := CA (s := fun x : ((Unit × (Int × ((List Int) × Na))) × (Ab × Unit)) => RA x.1.1 x.1.2.1 x.1.2.2.1 x.1.2.2.2.1 x.1.2.2.2.2.1 x.2.1)
  (fun z y => ∃ (c' : Ab) (l : List Int) (q : Nat), y = (((), (kc : Int), l, (q : Int), (z : Int), ()), (c', ())) ∧ Di c' ∧ NK kc 2 0 l ∧ E2 0 l = q ∧ q < 2 ^ kc ∧ l.length + z ≤ most)
  (fun r => ∃ (c' : Ab) (l : List Int), r = .inl (((), l, ()), (c', ())) ∧ Di c' ∧ NK kc 2 0 l ∧ l.length ≤ most) (by
  rintro z y ⟨c', l, q, rfl, hc', hN, hq, hqk, hl⟩
  simp only [RA]
  by_cases h0 : (z : Int) > 0
  ·rw [Aa h0]
   obtain ⟨c2, b2, e2, hc2⟩ := MB hc' 3 (by omega)
   have hw : j9 .i64 ((z : Int) - 1) = ((z - 1 : Nat) : Int) := by rw [Qc (by omega) (by omega)]; omega
   have lim1 : ∀ x : Int, jx (ja l + ja ([x] : List Int)) Xa = true := fun x => Ng (by simp only [jw, qb]; omega)
   have Sg : ∀ (c5 : Ab) (q' : Nat), Di c5 → q' < 2 ^ kc → Pe 32 q q' ≤ 2 → ∃ (w : ((Unit × (Int × ((List Int) × Na))) × (Ab × Unit))) (m : Nat), m < z ∧ (some (Sum.inl (((), (kc : Int), jf l [(q' : Int)], (q' : Int), ((z - 1 : Nat) : Int), ()), (c5, ()))) : Option (((Unit × (Int × ((List Int) × Na))) × (Ab × Unit)) ⊕ (((Unit × ((List Int) × Unit)) × (Ab × Unit)) ⊕ (Unit × Unit)))) = some (Sum.inl w) ∧
    ∃ (c' : Ab) (l : List Int) (q : Nat), w = (((), (kc : Int), l, (q : Int), (m : Int), ()), (c', ())) ∧ Di c' ∧ NK kc 2 0 l ∧ E2 0 l = q ∧ q < 2 ^ kc ∧ l.length + m ≤ most := by
    intro c5 q' hc5 hq' hh
    refine ⟨_, z - 1, by omega, rfl, c5, _, q', rfl, hc5, ?_, ?_, hq', ?_⟩
    ·exact M6 hq' l 0 hN (by rw [hq]; exact hh)
    ·exact Pak 0 q' l
    ·rw [zv, qh, List.length_singleton]; omega
   rw [e2]
   simp only [zz, jb]
   cases b2 with
   | true =>
    obtain ⟨c3, i, e3, hc3, bi⟩ := Fh hc2 (kc : Int) (by omega)
    obtain ⟨i, rfl⟩ := jv bi.1
    obtain ⟨t1, t2⟩ := tog q i hqk (by omega)
    obtain ⟨c4, b4, e4, hc4⟩ := MB hc3 9 (by omega)
    have g1 := B4 q i
    simp only [zz, e3, jb, Aa bi.1, e4, t1, hw]
    cases b4 with
    | true =>
     obtain ⟨c5, j, e5, hc5, bj⟩ := Fh hc4 (kc : Int) (by omega)
     obtain ⟨j, rfl⟩ := jv bj.1
     obtain ⟨t3, t4⟩ := tog (q ^^^ 2 ^ i) j t2 (by omega)
     have g2 := B4 (q ^^^ 2 ^ i) j
     have g3 := Faz 32 q (q ^^^ 2 ^ i) (q ^^^ 2 ^ i ^^^ 2 ^ j)
     simp only [zz, e5, jb, Aa bj.1, t3, lim1]
     exact .inr (Sg c5 _ hc5 t4 (by omega))
    | false =>
     simp only [ua, lim1, zz]
     exact .inr (Sg c4 _ hc4 t2 (by omega))
   | false =>
    obtain ⟨c4, b4, e4, hc4⟩ := MB hc2 9 (by omega)
    simp only [ua, e4, jb, hw]
    cases b4 with
    | true =>
     obtain ⟨c5, j, e5, hc5, bj⟩ := Fh hc4 (kc : Int) (by omega)
     obtain ⟨j, rfl⟩ := jv bj.1
     obtain ⟨t3, t4⟩ := tog q j hqk (by omega)
     have g2 := B4 q j
     simp only [zz, e5, jb, Aa bj.1, t3, lim1]
     exact .inr (Sg c5 _ hc5 t4 (by omega))
    | false =>
     simp only [ua, lim1, zz]
     exact .inr (Sg c4 _ hc4 hqk (by rw [ZG]; omega))
  ·rw [Ba h0]
   exact .inl ⟨_, rfl, c', l, rfl, hc', hN, by omega⟩) z (((), (kc : Int), ([] : List Int), (0 : Int), (z : Int), ()), (c1, ())) ⟨c1, [], 0, rfl, hc1, trivial, rfl, zt kc, by simp; omega⟩
 obtain ⟨r, e, c', l, rfl, h⟩ := step
 unfold Du
 erw [e]
 exact ⟨c', l, rfl, h.1, h.2.2, h.2.1⟩
structure KaU (b : Vb) (n keys ct dt dT v K Q : Nat) : Prop where
 p : ZN b n keys 0 ct dt v K Q 0
 n1 : 2 ≤ n
 n6 : n ≤ 6
 c4 : 1 ≤ ct
 d9 : dt ≤ 9
 hdT : b.2.1.2.1 = (dT : Int)
 dT1 : 1 ≤ dT
 tm : b.2.2.2.2.2.1 = 0
 cq : b.2.2.1.2.2.1 = []
 dq : b.2.2.2.1.2.2.1 = []
 hd : b.2.2.2.1.1.2.2.2.1 = []
 cl : b.2.2.1.1.length ≤ 2
 acc : b.2.2.2.2.1 = 0
 sh : b.2.1.2.2.2.1 = 0
 msk : ∀ p' : Nat, p' < 2 ^ n → Ic b.1 (p' : Int) = true
theorem Yaq {t : Dt} (h : Kf t = true) : 1 ≤ t.1 := by
 simp only [Kf, jd, decide_eq_true_eq] at h
 omega
def Nd (x : Int) : Prop := 0 ≤ x ∧ x ≤ 255
def B1 (c : Int) : Int := cond (decide (j9 .i64 (c * 2) > 255)) (Yb .i64 (j9 .i64 (c * 2)) 263) (j9 .i64 (c * 2))
def ckG (c x : Int) : Int := Yd (fun _ c => B1 c) 8 (Yb .i64 c (j9 .i64 x))
def Xx (l : List Int) : Int := Bd (fun _ c x => ckG c x) 0 0 l
theorem Hak (c : Int) (l : List Int) (n i : Int) : Gn ((c, l, n, i, (0 : Int), ()), ()) = some (.inl ((Yd (fun _ c => B1 c) 8 c, l, n, i, ()), ())) := by
 have hl := Vl (step := fun x => Es x.1.1 x.1.2.1 x.1.2.2.1 x.1.2.2.2.1 x.1.2.2.2.2.1) 8 (by omega) (fun _ c => B1 c) c (fun c k => ((c, l, n, i, k, ()), ())) (fun c => .inl ((c, l, n, i, ()), ())) (by
  intro k hk
  simp only [Es]
  rw [Aa (by omega)]
  generalize Yd (fun _ c => B1 c) k c = d
  unfold B1
  cases decide (j9 .i64 (d * 2) > 255) <;> rfl) (by
  simp only [Es]
  rw [Ba (by omega)]; rfl)
 unfold Gn
 exact hl
theorem Iak (l : List Int) (hn : l.length ≤ Ga) : HD l = some (Xx l, ()) := by
 have h20 : Ga = 1048576 := rfl
 have hl := (Kg (step := fun x => Ds x.1.1 x.1.2.1 x.1.2.2.1 x.1.2.2.2.1) l (fun _ c x => ckG c x) (fun c i => ((c, l, ((ja l : Nat) : Int), i, ()), ())) (fun c => .inl ((c, ()), ())) (fun _ _ => True) (by
  intro k hk c _
  refine ⟨?_, trivial⟩
  simp only [Ds]
  rw [Aa (by omega), Ub hk]
  simp only [zz, jb]
  rw [Hak]
  rfl) (by
  intro c _
  simp only [Ds]
  rw [Ba (by omega)]; rfl) (by omega) 0 trivial).1
 unfold HD Tu Xx
 erw [hl]; rfl
theorem Yas {c : Int} (h : Nd c) : Nd (B1 c) := by
 have key : ∀ n : Fin 256, 0 ≤ B1 (n.val : Int) ∧ B1 (n.val : Int) ≤ 255 := by decide +kernel
 obtain ⟨n, rfl⟩ := jv h.1
 exact key ⟨n, by have := h.2; omega⟩
theorem Zas {c x : Int} (hc : Nd c) (hx : Nd x) : Nd (ckG c x) := by
 have h0 : Nd (Yb .i64 c (j9 .i64 x)) := by
  obtain ⟨a, rfl⟩ := jv hc.1
  obtain ⟨b, rfl⟩ := jv hx.1
  have ha := hc.2
  have hb := hx.2
  rw [Qc (by omega) (by omega), Vm (by rw [Nw]; omega) (by rw [Nw]; omega)]
  have := qs (n := 8) (x := a) (y := b) (by omega) (by omega)
  exact ⟨by omega, by omega⟩
 have : ∀ n c, Nd c → Nd (Yd (fun _ c => B1 c) n c) := by
  intro n
  induction n with
  | zero => intro c h; exact h
  | succ n ih => intro c h; exact Yas (ih c h)
 exact this 8 _ h0
theorem V9 {l : List Int} (h : ∀ x ∈ l, Nd x) : Nd (Xx l) := by
 have key : ∀ (l : List Int) (k : Nat) (c : Int), Nd c → (∀ x ∈ l, Nd x) → Nd (Bd (fun _ c x => ckG c x) k c l) := by
  intro l
  induction l with
  | nil => intro k c hc _; exact hc
  | cons x l ih => intro k c hc hx; exact ih (k + 1) _ (Zas hc (hx x (by simp))) (fun y hy => hx y (by simp [hy]))
 exact key l 0 0 ⟨by decide, by decide⟩ h
def Bi (n m : Int) : List Int := [85, n, m % 256, m / 256 % 256, m / 65536]
def Cl (n m : Int) : List Int := jf (Bi n m) [Xx (Bi n m)]
theorem ZP (m : Int) : j9 .u8 m = m % 256 := by rw [IntKind.wrap_u8]
theorem HR {n m : Int} (hn : Nd n) (hm : 0 ≤ m ∧ m ≤ 16777215) : ∀ x ∈ Bi n m, Nd x := by
 intro x hx
 simp only [Bi, jp, zw, or_false] at hx
 unfold Nd at hn ⊢
 rcases hx with rfl | rfl | rfl | rfl | rfl <;> omega
theorem Gab {m : Int} (hm : 0 ≤ m) {k : Nat} (hk : k ≤ 64) : Ac .i64 m (k : Int) = m / ((2 ^ k : Nat) : Int) := by
 obtain ⟨n, rfl⟩ := jv hm
 rw [NL n hk, zo]
 norm_cast
theorem MS {n m : Int} (hn : Nd n) (hm : 0 ≤ m ∧ m ≤ 16777215) : Ot n m = some (Cl n m, ()) := by
 have hn1 := hn.1
 have hn2 := hn.2
 have e8 : Ac .i64 m 8 = m / 256 := Gab (k := 8) hm.1 (by omega)
 have e16 : Ac .i64 m 16 = m / 65536 := Gab (k := 16) hm.1 (by omega)
 have hh : ([(85 : Int), j9 .u8 n, j9 .u8 m, j9 .u8 (Ac .i64 m 8), j9 .u8 (Ac .i64 m 16)] : List Int) = Bi n m := by
  unfold Bi
  rw [e8, e16, ZP, ZP, ZP, ZP, show n % 256 = n by omega, show m / 65536 % 256 = m / 65536 by omega]
 unfold Ot
 rw [Ba (by omega), Ba (by omega), Ba (by omega), Ba (by omega), hh, Iak _ (by show 5 ≤ 1048576; omega)]
 have hc := V9 (HR hn hm)
 simp only [ua, jb]
 rw [ZP, show Xx (Bi n m) % 256 = Xx (Bi n m) by have := hc.1; have := hc.2; omega]
 rfl
theorem ER {n m : Int} (hn : Nd n) (hm : 0 ≤ m ∧ m ≤ 16777215) : ∀ x ∈ Cl n m, Nd x := by
 intro x hx
 rcases jl.1 (show x ∈ Bi n m ++ [Xx (Bi n m)] from hx) with hx | hx
 ·exact HR hn hm x hx
 ·rw [qg.1 hx]; exact V9 (HR hn hm)
theorem Qal {a b : Nat} (ha : a < 256) (hb : b < 256) (h : UInt8.ofNat a = UInt8.ofNat b) : a = b := by
 have h1 : (UInt8.ofNat a).toNat = (UInt8.ofNat b).toNat := by rw [h]
 rw [UInt8.toNat_ofNat', UInt8.toNat_ofNat'] at h1
 omega
theorem V6 : ∀ {a b : List Int}, (∀ x ∈ a, Nd x) → (∀ x ∈ b, Nd x) → Pm a = Pm b → a = b
 | [], [], _, _, _ => rfl
 | [], _ :: _, _, _, h => by simp [Pm] at h
 | _ :: _, [], _, _, h => by simp [Pm] at h
 | x :: a, y :: b, hx, hy, h => by
  simp only [Pm, yw, yv] at h
  have h1 := hx x (by simp)
  have h2 := hy y (by simp)
  have h1a := h1.1
  have h1b := h1.2
  have h2a := h2.1
  have h2b := h2.2
  have e := Qal (by omega) (by omega) h.1
  rw [V6 (fun z hz => hx z (by simp [hz])) (fun z hz => hy z (by simp [hz])) h.2, show x = y by omega]
def AP (b : List Int) : Int := b.getD 2 0 + 256 * b.getD 3 0 + 65536 * b.getD 4 0
def DR (b : List Int) : Bool := (b.getD 0 0 == 85) && (Xx (b.take 5) == b.getD 5 0)
def QI (b : List Int) : Int × Int × Bool := cond (DR b) (b.getD 1 0, AP b, true) (0, 0, false)
theorem RaB {x y z : Int} (hx : Nd x) (hy : Nd y) (hz : Nd z) :
 Lc .i64 (Lc .i64 (j9 .i64 x) (Ma .i64 (j9 .i64 y) 8)) (Ma .i64 (j9 .i64 z) 16) = x + 256 * y + 65536 * z := by
 obtain ⟨a, rfl⟩ := jv hx.1
 obtain ⟨b, rfl⟩ := jv hy.1
 obtain ⟨c, rfl⟩ := jv hz.1
 have ha := hx.2
 have hb := hy.2
 have hc := hz.2
 have e1 : Ma .i64 ((b : Nat) : Int) 8 = ((b <<< 8 : Nat) : Int) := JR (k := 8) (by rw [Nw]; omega) (by omega)
 have e2 : Ma .i64 ((c : Nat) : Int) 16 = ((c <<< 16 : Nat) : Int) := JR (k := 16) (by rw [Nw]; omega) (by omega)
 have e3 : a ||| b <<< 8 = b <<< 8 + a := by rw [Nat.or_comm, Nat.shiftLeft_add_eq_or_of_lt (by omega)]
 have e4 : b <<< 8 + a < 2 ^ 16 := by rw [ql]; omega
 have e5 : (b <<< 8 + a) ||| c <<< 16 = c <<< 16 + (b <<< 8 + a) := by rw [Nat.or_comm, Nat.shiftLeft_add_eq_or_of_lt e4]
 rw [Qc (by omega) (by omega), Qc (by omega) (by omega), Qc (by omega) (by omega), e1, e2, Fi (by rw [Nw]; omega) (by rw [Nw, ql]; omega), e3, Fi (by rw [Nw]; omega) (by rw [Nw, ql]; omega), e5]
 rw [ql, ql]
 omega
theorem Zat {b : List Int} (h : b.length = 6) : ∃ x0 x1 x2 x3 x4 x5, b = [x0, x1, x2, x3, x4, x5] := by
 match b, h with
 | [x0, x1, x2, x3, x4, x5], _ => exact ⟨_, _, _, _, _, _, rfl⟩
theorem Baz (x1 x2 x3 x4 : Int) (h2 : Nd x2) (h3 : Nd x3) (h4 : Nd x4) : Bi x1 (x2 + 256 * x3 + 65536 * x4) = [85, x1, x2, x3, x4] := by
 unfold Bi
 have a := h2.1
 have b := h2.2
 have c := h3.1
 have d := h3.2
 have e := h4.1
 have f := h4.2
 rw [show (x2 + 256 * x3 + 65536 * x4) % 256 = x2 by omega, show (x2 + 256 * x3 + 65536 * x4) / 256 % 256 = x3 by omega, show (x2 + 256 * x3 + 65536 * x4) / 65536 = x4 by omega]
theorem QW {b : List Int} (h6 : b.length = 6) (hb : ∀ x ∈ b, Nd x) : GB b = some ((QI b).1, (QI b).2.1, (QI b).2.2, ()) := by
 obtain ⟨x0, x1, x2, x3, x4, x5, rfl⟩ := Zat h6
 have h0 := hb x0 (by simp)
 have h1 := hb x1 (by simp)
 have h2 := hb x2 (by simp)
 have h3 := hb x3 (by simp)
 have h4 := hb x4 (by simp)
 have h5 := hb x5 (by simp)
 have a := h2.1
 have b := h2.2
 have c := h3.1
 have d := h3.2
 have e := h4.1
 have f := h4.2
 have g := h1.1
 have g' := h1.2
 have hm : 0 ≤ x2 + 256 * x3 + 65536 * x4 ∧ x2 + 256 * x3 + 65536 * x4 ≤ 16777215 := by omega
 have e1 : Wb [x0, x1, x2, x3, x4, x5] (1 : Int) = some x1 := rfl
 have e2 : Wb [x0, x1, x2, x3, x4, x5] (2 : Int) = some x2 := rfl
 have e3 : Wb [x0, x1, x2, x3, x4, x5] (3 : Int) = some x3 := rfl
 have e4 : Wb [x0, x1, x2, x3, x4, x5] (4 : Int) = some x4 := rfl
 unfold GB
 rw [show (((ja [x0, x1, x2, x3, x4, x5] : Nat) : Int) != 6) = false from rfl]
 simp only [ua, jb, e1, e2, e3, e4]
 rw [RaB h2 h3 h4, Qc (n := x1) (by omega) (by omega), MS h1 hm]
 simp only [jb]
 have key : (Pm (Cl x1 (x2 + 256 * x3 + 65536 * x4)) != Pm [x0, x1, x2, x3, x4, x5]) = !DR [x0, x1, x2, x3, x4, x5] := by
  have hd := Baz x1 x2 x3 x4 h2 h3 h4
  rw [show (Pm (Cl x1 (x2 + 256 * x3 + 65536 * x4)) != Pm [x0, x1, x2, x3, x4, x5]) = !(Pm (Cl x1 (x2 + 256 * x3 + 65536 * x4)) == Pm [x0, x1, x2, x3, x4, x5]) from rfl]
  congr 1
  rw [qx, beq_iff_eq]
  show _ ↔ ((x0 == 85) && (Xx [x0, x1, x2, x3, x4] == x5)) = true
  rw [jd, beq_iff_eq, beq_iff_eq]
  constructor
  ·intro h
   have := V6 (ER h1 hm) hb h
   unfold Cl at this
   rw [hd] at this
   simp only [zv, yu, List.nil_append, yv, and_true, true_and] at this
   rw [← this.1]
   exact ⟨rfl, this.2⟩
  ·rintro ⟨rfl, h⟩
   unfold Cl
   rw [hd, h]; rfl
 rw [key]
 unfold QI
 cases DR [x0, x1, x2, x3, x4, x5] <;> rfl
structure Tx (r : Sc) : Prop where
 ok : Vg r = true
 by_ : ∀ x ∈ r.1, Nd x
def WC (r : Sc) (x : Int) : Sc × Int :=
 cond (decide ((((r.1.length + 1 : Nat)) : Int) < 6)) ((jf r.1 [x], r.2), 1)
  (cond (QI (jf r.1 [x])).2.2 (cond ((QI (jf r.1 [x])).1 == r.2.1) (([], r.2.1, r.2.2.1, 0, ()), 3) (([], (QI (jf r.1 [x])).1, (QI (jf r.1 [x])).2.1, 0, ()), 2)) (((jf r.1 [x]).drop 1, r.2), 1))
theorem RL {r : Sc} (h : Vg r = true) : r.1.length < 6 ∧ (-1 ≤ r.2.1 ∧ r.2.1 ≤ 255) ∧ (0 ≤ r.2.2.1 ∧ r.2.2.1 ≤ 16777215) ∧ (0 ≤ r.2.2.2.1 ∧ r.2.2.2.1 ≤ 20) := by
 simp only [Vg, jd, decide_eq_true_eq] at h
 exact h
theorem SL {b : List Int} {n m s : Int} (h1 : b.length < 6) (h2 : -1 ≤ n ∧ n ≤ 255) (h3 : 0 ≤ m ∧ m ≤ 16777215) (h4 : 0 ≤ s ∧ s ≤ 20) : Vg (b, n, m, s, ()) = true := by
 simp only [Vg, jd, decide_eq_true_eq]
 exact ⟨h1, h2, h3, h4⟩
theorem UM {b : List Int} (h : ∀ x ∈ b, Nd x) (i : Nat) : Nd (b.getD i 0) := by
 rw [qj]
 by_cases hi : i < b.length
 ·rw [je hi]; exact h _ (qt hi)
 ·rw [ya (by omega)]; exact ⟨by decide, by decide⟩
theorem VaB {r : Sc} {x : Int} (h : Tx r) (hx : Nd x) : Tx (WC r x).1 ∧ ((WC r x).2 = 1 ∨ (WC r x).2 = 2 ∨ (WC r x).2 = 3) := by
 have hb := RL h.ok
 have happ : ∀ y ∈ jf r.1 [x], Nd y := by
  intro y hy
  rcases jl.1 (show y ∈ r.1 ++ [x] from hy) with hy | hy
  ·exact h.by_ y hy
  ·rw [qg.1 hy]; exact hx
 have hlen : (jf r.1 [x]).length = r.1.length + 1 := by simp
 unfold WC
 by_cases h6 : (((r.1.length + 1 : Nat)) : Int) < 6
 ·rw [Aa h6]
  exact ⟨⟨SL (by omega) hb.2.1 hb.2.2.1 hb.2.2.2, happ⟩, .inl rfl⟩
 ·rw [Ba h6]
  simp only [ua]
  cases hf : (QI (jf r.1 [x])).2.2 with
  | false =>
   refine ⟨⟨SL (by rw [qw]; omega) hb.2.1 hb.2.2.1 hb.2.2.2, fun y hy => happ y (List.mem_of_mem_drop hy)⟩, .inl rfl⟩
  | true =>
   simp only [zz]
   cases hn : (QI (jf r.1 [x])).1 == r.2.1 with
   | true => exact ⟨⟨SL (by decide) hb.2.1 hb.2.2.1 ⟨by decide, by decide⟩, fun y hy => absurd hy (by simp)⟩, .inr (.inr rfl)⟩
   | false =>
    have e : DR (jf r.1 [x]) = true := by
     cases hk : DR (jf r.1 [x]) with
     | true => rfl
     | false => unfold QI at hf; rw [hk] at hf; simp at hf
    have g1 := UM happ 1
    have g2 := UM happ 2
    have g3 := UM happ 3
    have g4 := UM happ 4
    unfold Nd at g1 g2 g3 g4
    refine ⟨⟨SL (by decide) ?_ ?_ ⟨by decide, by decide⟩, fun y hy => absurd hy (by simp)⟩, .inr (.inl rfl)⟩
    ·unfold QI; rw [e]
     show -1 ≤ (jf r.1 [x]).getD 1 0 ∧ (jf r.1 [x]).getD 1 0 ≤ 255
     omega
    ·unfold QI; rw [e]
     show 0 ≤ AP (jf r.1 [x]) ∧ AP (jf r.1 [x]) ≤ 16777215
     unfold AP
     omega
theorem Aab {r : Sc} {x : Int} (h : Tx r) (hx : Nd x) : Yu r x = some ((WC r x).1, (WC r x).2, ()) := by
 have hb := RL h.ok
 have hlim := Tf
 have happ : ∀ y ∈ jf r.1 [x], Nd y := by
  intro y hy
  rcases jl.1 (show y ∈ r.1 ++ [x] from hy) with hy | hy
  ·exact h.by_ y hy
  ·rw [qg.1 hy]; exact hx
 have hlen : (jf r.1 [x]).length = r.1.length + 1 := by simp
 have e0 : jf ([] : List Int) r.1 = r.1 := rfl
 unfold Yu WC
 rw [Qq, h.ok, e0, show jx (ja ([] : List Int) + ja r.1) Xa = true from ji (by simp; omega), show jx (ja r.1 + ja ([x] : List Int)) Xa = true from ji (by simp only [jw, qb]; omega), hlen]
 simp only [jb, jg, ua, zz]
 by_cases h6 : (((r.1.length + 1 : Nat)) : Int) < 6
 ·rw [Aa h6]; rfl
 ·rw [Ba h6, QW (by rw [hlen]; omega) happ]
  simp only [jb, ua]
  have hc : We (r.1.length + 1) (1 : Int) ((r.1.length + 1 : Nat) : Int) = true := Iq (lo := 1) (by omega) (jo _)
  have hc2 : Lb (jf r.1 [x]) (jy (1 : Int)) (jy ((r.1.length + 1 : Nat) : Int)) = (jf r.1 [x]).drop 1 := by
   rw [← hlen]; exact Aaa _ 1
  rw [hc, hc2]
  cases (QI (jf r.1 [x])).2.2 with
  | false => rfl
  | true => cases (QI (jf r.1 [x])).1 == r.2.1 <;> rfl
def NP (s : Sc × List Int) (x : Int) : Sc × List Int := ((WC s.1 x).1, cond ((WC s.1 x).2 == 2) (jf s.2 [(WC s.1 x).1.2.2.1]) s.2)
def JN (r : Sc) (l : List Int) : Sc × List Int := Bd (fun _ s x => NP s x) 0 (r, []) l
structure Tai (k : Nat) (s : Sc × List Int) : Prop where
 ok : Tx s.1
 len : s.2.length ≤ k
theorem UaB {k : Nat} {s : Sc × List Int} {x : Int} (h : Tai k s) (hx : Nd x) : Tai (k + 1) (NP s x) := by
 refine ⟨(VaB h.ok hx).1, ?_⟩
 have := h.len
 show (cond ((WC s.1 x).2 == 2) (jf s.2 [(WC s.1 x).1.2.2.1]) s.2).length ≤ k + 1
 cases (WC s.1 x).2 == 2
 ·show s.2.length ≤ k + 1; omega
 ·show (jf s.2 [(WC s.1 x).1.2.2.1]).length ≤ k + 1
  simp; omega
theorem EX {r : Sc} {l : List Int} (h : Tx r) (hl : ∀ x ∈ l, Nd x) (hn : l.length ≤ 1000) : Hy r l = some ((JN r l).1, (JN r l).2, ()) ∧ Tx (JN r l).1 := by
 have hlim := Tf
 have hb := RL h.ok
 have hloop := Kg (step := fun x => Dp x.1.1 x.1.2.1 x.1.2.2.1 x.1.2.2.2.1 x.1.2.2.2.2.1 x.1.2.2.2.2.2.1 x.2.1 x.2.2.1) l (fun _ s x => NP s x)
  (fun s i => (((), (), s.2, l, ((ja l : Nat) : Int), i, ()), (s.1, (([] : List Int), (0 : Int), (0 : Int), (0 : Int), ()), ()))) (fun s => .inl (((), (), s.2, ()), (s.1, (([] : List Int), (0 : Int), (0 : Int), (0 : Int), ()), ()))) Tai (by
   intro k hk s hs
   have hx := hl l[k] (qt hk)
   refine ⟨?_, UaB hs hx⟩
   have hlen := hs.len
   simp only [Dp]
   rw [Aa (by omega), Ub hk]
   simp only [zz, jb]
   rw [Aab hs.ok hx]
   simp only [jb]
   rw [show jx (ja s.2 + ja ([(WC s.1 l[k]).1.2.2.1] : List Int)) Xa = true from ji (by simp only [jw, qb]; omega)]
   simp only [jb, zz]
   unfold NP
   cases (WC s.1 l[k]).2 == 2 <;> rfl) (by
   intro s hs
   simp only [Dp]
   rw [Ba (by omega)]; rfl) (by omega) (r, []) ⟨h, jo _⟩
 refine ⟨?_, hloop.2.ok⟩
 unfold Hy
 rw [Qq, h.ok, show jx (ja ([] : List Int) + ja r.1) Xa = true from ji (by simp; omega)]
 simp only [jb, jg, ua, zz]
 unfold Gr
 erw [hloop.1]
 rfl
def YU (r : Sc) : Sc := cond (min (j9 .i64 (r.2.2.2.1 + 1)) 20 == 20) (r.1, -1, 0, min (j9 .i64 (r.2.2.2.1 + 1)) 20, ()) (r.1, r.2.1, r.2.2.1, min (j9 .i64 (r.2.2.2.1 + 1)) 20, ())
theorem Hav {r : Sc} (h : Tx r) : Tx (YU r) := by
 have hb := RL h.ok
 have hw : j9 .i64 (r.2.2.2.1 + 1) = r.2.2.2.1 + 1 := Qc (by omega) (by omega)
 unfold YU
 rw [hw]
 cases min (r.2.2.2.1 + 1) 20 == 20 with
 | true => exact ⟨SL hb.1 ⟨by decide, by decide⟩ ⟨by decide, by decide⟩ (by omega), h.by_⟩
 | false => exact ⟨SL hb.1 hb.2.1 hb.2.2.1 (by omega), h.by_⟩
theorem Fad {r : Sc} (h : Tx r) : Iy r = some (YU r, ()) := by
 have hb := RL h.ok
 unfold Iy YU
 rw [Qq, h.ok, show jx (ja ([] : List Int) + ja r.1) Xa = true from ji (by rw [Tf]; simp; omega)]
 simp only [jb, jg, ua, zz]
 cases min (j9 .i64 (r.2.2.2.1 + 1)) 20 == 20 <;> rfl
def RK (f l : List Int) : List Int := cond (((ja l : Nat) : Int) == 0) f (cond (((ja l : Nat) : Int) == 6) (List.zipWith (Yb .u8) f l) [])
theorem Ead {f l : List Int} (hf : f.length = 6) : RF f l = some (RK f l, ()) := by
 unfold RF RK
 cases ((ja l : Nat) : Int) == 0 with
 | true => rfl
 | false =>
  cases h6 : ((ja l : Nat) : Int) == 6 with
  | false => rfl
  | true =>
   have h6' : l.length = 6 := by have := eq_of_beq h6; omega
   obtain ⟨a, b, c, d, e, g, rfl⟩ := Zat h6'
   obtain ⟨x0, x1, x2, x3, x4, x5, rfl⟩ := Zat hf
   simp only [ua, zz]
   unfold Kx
   rw [Mf (show (fun x => Ii x.1.1 x.1.2.1 x.1.2.2.1 x.1.2.2.2.1 x.1.2.2.2.2.1) (([a, b, c, d, e, g], ([] : List Int), [x0, x1, x2, x3, x4, x5], ((ja [x0, x1, x2, x3, x4, x5] : Nat) : Int), (0 : Int), ()), ()) = some (.inl (([a, b, c, d, e, g], [Yb .u8 x0 a], [x0, x1, x2, x3, x4, x5], 6, 1, ()), ())) from rfl)]
   simp only [jb, qm]
   rw [Mf (show (fun x => Ii x.1.1 x.1.2.1 x.1.2.2.1 x.1.2.2.2.1 x.1.2.2.2.2.1) (([a, b, c, d, e, g], [Yb .u8 x0 a], [x0, x1, x2, x3, x4, x5], 6, 1, ()), ()) = some (.inl (([a, b, c, d, e, g], [Yb .u8 x0 a, Yb .u8 x1 b], [x0, x1, x2, x3, x4, x5], 6, 2, ()), ())) from rfl)]
   simp only [jb, qm]
   rw [Mf (show (fun x => Ii x.1.1 x.1.2.1 x.1.2.2.1 x.1.2.2.2.1 x.1.2.2.2.2.1) (([a, b, c, d, e, g], [Yb .u8 x0 a, Yb .u8 x1 b], [x0, x1, x2, x3, x4, x5], 6, 2, ()), ()) = some (.inl (([a, b, c, d, e, g], [Yb .u8 x0 a, Yb .u8 x1 b, Yb .u8 x2 c], [x0, x1, x2, x3, x4, x5], 6, 3, ()), ())) from rfl)]
   simp only [jb, qm]
   rw [Mf (show (fun x => Ii x.1.1 x.1.2.1 x.1.2.2.1 x.1.2.2.2.1 x.1.2.2.2.2.1) (([a, b, c, d, e, g], [Yb .u8 x0 a, Yb .u8 x1 b, Yb .u8 x2 c], [x0, x1, x2, x3, x4, x5], 6, 3, ()), ()) = some (.inl (([a, b, c, d, e, g], [Yb .u8 x0 a, Yb .u8 x1 b, Yb .u8 x2 c, Yb .u8 x3 d], [x0, x1, x2, x3, x4, x5], 6, 4, ()), ())) from rfl)]
   simp only [jb, qm]
   rw [Mf (show (fun x => Ii x.1.1 x.1.2.1 x.1.2.2.1 x.1.2.2.2.1 x.1.2.2.2.2.1) (([a, b, c, d, e, g], [Yb .u8 x0 a, Yb .u8 x1 b, Yb .u8 x2 c, Yb .u8 x3 d], [x0, x1, x2, x3, x4, x5], 6, 4, ()), ()) = some (.inl (([a, b, c, d, e, g], [Yb .u8 x0 a, Yb .u8 x1 b, Yb .u8 x2 c, Yb .u8 x3 d, Yb .u8 x4 e], [x0, x1, x2, x3, x4, x5], 6, 5, ()), ())) from rfl)]
   simp only [jb, qm]
   rw [Mf (show (fun x => Ii x.1.1 x.1.2.1 x.1.2.2.1 x.1.2.2.2.1 x.1.2.2.2.2.1) (([a, b, c, d, e, g], [Yb .u8 x0 a, Yb .u8 x1 b, Yb .u8 x2 c, Yb .u8 x3 d, Yb .u8 x4 e], [x0, x1, x2, x3, x4, x5], 6, 5, ()), ()) = some (.inl (([a, b, c, d, e, g], [Yb .u8 x0 a, Yb .u8 x1 b, Yb .u8 x2 c, Yb .u8 x3 d, Yb .u8 x4 e, Yb .u8 x5 g], [x0, x1, x2, x3, x4, x5], 6, 6, ()), ())) from rfl)]
   simp only [jb, qm]
   rw [Mf (show (fun x => Ii x.1.1 x.1.2.1 x.1.2.2.1 x.1.2.2.2.1 x.1.2.2.2.2.1) (([a, b, c, d, e, g], [Yb .u8 x0 a, Yb .u8 x1 b, Yb .u8 x2 c, Yb .u8 x3 d, Yb .u8 x4 e, Yb .u8 x5 g], [x0, x1, x2, x3, x4, x5], 6, 6, ()), ()) = some (.inr (.inl (([Yb .u8 x0 a, Yb .u8 x1 b, Yb .u8 x2 c, Yb .u8 x3 d, Yb .u8 x4 e, Yb .u8 x5 g], ()), ()))) from rfl)]
   rfl
theorem XT (n m : Int) : (Cl n m).length = 6 := rfl
theorem K9 {f l : List Int} (hf : ∀ x ∈ f, Nd x) (h6 : f.length = 6) : (∀ x ∈ RK f l, Nd x) ∧ (RK f l).length ≤ 6 := by
 unfold RK
 cases ((ja l : Nat) : Int) == 0 with
 | true => exact ⟨hf, by show f.length ≤ 6; omega⟩
 | false =>
  cases ((ja l : Nat) : Int) == 6 with
  | false => exact ⟨by intro x hx; exact absurd hx (by simp), by simp⟩
  | true =>
   simp only [ua, zz]
   refine ⟨fun x hx => ?_, by rw [List.length_zipWith]; omega⟩
   have key : ∀ (f l : List Int), ∀ x ∈ List.zipWith (Yb .u8) f l, Nd x := by
    intro f
    induction f with
    | nil => intro l x hx; exact absurd hx (by simp)
    | cons a f ih =>
     intro l
     cases l with
     | nil => intro x hx; exact absurd hx (by simp)
     | cons b l =>
      intro x hx
      rw [List.zipWith_cons_cons, jp] at hx
      rcases hx with rfl | hx
      ·unfold Yb Nd
       rw [ZP]
       omega
      ·exact ih l x hx
   exact key f l x hx
def KaI : Sc := (([] : List Int), (0 : Int), (0 : Int), (0 : Int), ())
def MI : Ob := (GG, KaI, (0 : Int), ())
structure NI (h : Ob) : Prop where
 b : Co h.1
 by_ : ∀ x ∈ h.2.1.1, Nd x
noncomputable def CW (h : Ob) (a b : Int) : Bool := Ji h && (Rd (Kj h.1.1) a && Rd (Kj h.1.1) b)
def KN (h : Ob) (far : Int) (noise : List Int) : Sc × List Int := JN h.2.1 (RK (Cl h.2.2.1 far) noise)
def EH (h : Ob) (far : Int) (noise : List Int) : Sc := cond (((ja (KN h far noise).2 : Nat) : Int) == 0) (YU (KN h far noise).1) (KN h far noise).1
def CD (h : Ob) (near far : Int) (noise : List Int) : Int := Lc .i64 near (Ma .i64 (Ya .i64 (EH h far noise).2.2.1 (j9 .i64 (Ma .i64 1 (Kj h.1.1) - 1))) (Kj h.1.1))
noncomputable def Ew (h : Ob) (near far : Int) (noise : List Int) : Ob × ((List Sd) × (Bool × Unit)) :=
 cond (CW h near far && (Uf h.1 (CD h near far noise)).2.2.1)
  (((Uf h.1 (CD h near far noise)).1, EH h far noise, yn (j9 .i64 (h.2.2.1 + 1)) 256, ()), (Uf h.1 (CD h near far noise)).2.1, true, ()) (MI, [], false, ())
structure HtP (h : Ob) (near far : Int) : Prop where
 n : Nd h.2.2.1
 far : 0 ≤ far ∧ far ≤ 16777215
 rc : Vg h.2.1 = true
theorem VaF {h : Ob} {near far : Int} (hv : Ji h = true) (hf : Rd (Kj h.1.1) far = true) : HtP h near far := by
 have hb := A4 h.1.1
 obtain ⟨n, rfl, hn⟩ := UC hf
 have : 2 ^ (Kj h.1.1).toNat ≤ 2 ^ 12 := qo (by omega) (by omega)
 simp only [Ji, jd, decide_eq_true_eq] at hv
 exact ⟨by unfold Nd; omega, by omega, by simp_all⟩
theorem Kag {k x : Int} (hk : 0 ≤ k ∧ k ≤ 62) : ∀ {α : Type} (Y Z : α), cond (decide (x < 0)) Z (cond (decide (x ≥ Ma .i64 1 k)) Z Y) = cond (Rd k x) Y Z := by
 intro α Y Z
 rw [SP hk]
 unfold Rd
 by_cases h1 : x < 0
 ·rw [Aa h1, Ba (show ¬ (0 ≤ x ∧ x < ((2 ^ k.toNat : Nat) : Int)) by omega)]; rfl
 ·by_cases h2 : x ≥ ((2 ^ k.toNat : Nat) : Int)
  ·rw [Ba h1, Aa h2, Ba (show ¬ (0 ≤ x ∧ x < ((2 ^ k.toNat : Nat) : Int)) by omega)]; rfl
  ·rw [Ba h1, Ba h2, Aa (show (0 ≤ x ∧ x < ((2 ^ k.toNat : Nat) : Int)) by omega)]; rfl
theorem ZaH {r : Sc} {l : List Int} (h : Tx r) (hl : ∀ x ∈ l, Nd x) (hn : l.length ≤ 1000) : Tx (JN r l).1 := (EX h hl hn).2
theorem WaB {h : Ob} {near far : Int} {noise : List Int} (hh : NI h) (hp : HtP h near far) : Tx (EH h far noise) := by
 have hr : Tx h.2.1 := ⟨hp.rc, hh.by_⟩
 have hb := ER hp.n hp.far
 have ha := K9 (l := noise) hb (XT _ _)
 have h1 := ZaH hr ha.1 (by omega)
 unfold EH KN
 cases ((ja (JN h.2.1 (RK (Cl h.2.2.1 far) noise)).2 : Nat) : Int) == 0
 ·exact h1
 ·exact Hav h1
theorem NS (h : Ob) (near far : Int) (noise : List Int) (hh : NI h) : Hk h near far noise = some (Ew h near far noise) := by
 have hb := A4 h.1.1
 unfold Hk Ew CW
 rw [FL _ hh.b, DE]
 cases hv : Ji h with
 | false => rfl
 | true =>
  simp only [jb, jg, ua, jk]
  rw [Aa (show 0 ≤ Kj h.1.1 by omega)]
  simp only [zz]
  rw [Kag (by omega), Kag (by omega)]
  cases h1 : Rd (Kj h.1.1) near with
  | false => rfl
  | true =>
   cases h2 : Rd (Kj h.1.1) far with
   | false => rfl
   | true =>
    have hp := VaF (near := near) hv h2
    have hr : Tx h.2.1 := ⟨hp.rc, hh.by_⟩
    have ha := K9 (l := noise) (ER hp.n hp.far) (XT _ _)
    have hall := EX hr ha.1 (by omega)
    rw [MS hp.n hp.far]
    simp only [jb, zz, jk]
    rw [Ead (XT _ _)]
    simp only [jb]
    rw [hall.1]
    simp only [jb]
    have e : cond (((ja (JN h.2.1 (RK (Cl h.2.2.1 far) noise)).2 : Nat) : Int) == 0) (YU (JN h.2.1 (RK (Cl h.2.2.1 far) noise)).1) (JN h.2.1 (RK (Cl h.2.2.1 far) noise)).1 = EH h far noise := rfl
    cases h0 : (((ja (JN h.2.1 (RK (Cl h.2.2.1 far) noise)).2 : Nat) : Int) == 0) with
    | true =>
     rw [h0] at e
     simp only [zz] at e ⊢
     rw [Fad hall.2, e]
     simp only [jb]
     show jz (Ui h.1 (CD h near far noise)) _ = _
     rw [IL _ _ hh.b]
     simp only [jb]
     cases (Uf h.1 (CD h near far noise)).2.2.1 <;> rfl
    | false =>
     rw [h0] at e
     simp only [ua] at e ⊢
     rw [e]
     show jz (Ui h.1 (CD h near far noise)) _ = _
     rw [IL _ _ hh.b]
     simp only [jb]
     cases (Uf h.1 (CD h near far noise)).2.2.1 <;> rfl
theorem Jaq (r : Sc) : Jc Dh r = r.1.length := by
 have h1 := Bp (e := Cx) rfl r.1
 simp only [Jc, yl, js] at h1 ⊢
 exact h1
theorem Aay (h : Ob) (near far : Int) (noise : List Int) (hh : NI h) : NI (Ew h near far noise).1 ∧ Jc Df (Ew h near far noise).1 ≤ 4000 ∧ (Ew h near far noise).2.1.length ≤ 1088 ∧ (∀ y ∈ (Ew h near far noise).2.1, y.2.1.2.1.length ≤ 56) := by
 have h20 : Ga = 1048576 := rfl
 unfold Ew
 cases hc : CW h near far && (Uf h.1 (CD h near far noise)).2.2.1 with
 | false =>
  simp only [ua]
  exact ⟨⟨⟨by decide, ⟨by decide, by decide, by decide, fun x hx => by simp [GG, MI] at hx⟩, by decide⟩, fun x hx => by simp [MI, KaI] at hx⟩, by decide, by simp, by simp⟩
 | true =>
  simp only [jd, CW] at hc
  have hp := VaF (near := near) hc.1.1 hc.1.2.2
  have hr := WaB (near := near) (noise := noise) hh hp
  have ht := H5 h.1 (CD h near far noise) hh.b
  have hrb := RL hr.ok
  simp only [zz]
  refine ⟨⟨ht.1, hr.by_⟩, ?_, ht.2.2.1, ht.2.2.2⟩
  rw [F6]
  show Jc Af (Uf h.1 (CD h near far noise)).1 + Jc Dh (EH h far noise) ≤ 4000
  rw [Jaq]
  omega
noncomputable def CL (far : List Int) (noise : List (List Int)) (k : Nat) (s : Ob × List Sd) (x : Int) : (Ob × List Sd) ⊕ Unit :=
 cond (Ew s.1 x (far.getD k 0) (noise.getD k [])).2.2.1 (.inl ((Ew s.1 x (far.getD k 0) (noise.getD k [])).1, jf s.2 (Ew s.1 x (far.getD k 0) (noise.getD k [])).2.1)) (.inr ())
noncomputable def Gal (h : Ob) (near far : List Int) (noise : List (List Int)) : Ob × ((List Sd) × (Bool × Unit)) :=
 cond (Ji h && (!(((ja near : Nat) : Int) != ((ja far : Nat) : Int)) && !decide (((ja near : Nat) : Int) > 200)))
  (match Wa (fun k s x => CL far noise k s x) 0 (h, []) near with | .inl s => (s.1, s.2, true, ()) | .inr _ => (MI, [], false, ())) (MI, [], false, ())
structure N3 (k : Nat) (s : Ob × List Sd) : Prop where
 ok : NI s.1
 len : s.2.length ≤ 1088 * k
 rep : ∀ y ∈ s.2, y.2.1.2.1.length ≤ 56
theorem Kac {far : List Int} {noise : List (List Int)} {k : Nat} {s s' : Ob × List Sd} {x : Int} (h : N3 k s) (hs : CL far noise k s x = .inl s') : N3 (k + 1) s' ∧ Jc Df s'.1 ≤ 4000 := by
 have ht := Aay s.1 x (far.getD k 0) (noise.getD k []) h.ok
 unfold CL at hs
 cases h1 : (Ew s.1 x (far.getD k 0) (noise.getD k [])).2.2.1 with
 | false => rw [h1] at hs; simp at hs
 | true =>
  rw [h1] at hs
  simp only [zz, zk] at hs
  subst hs
  refine ⟨⟨ht.1, ?_, fun y hy => ?_⟩, ht.2.1⟩
  ·have := h.len
   have e : (jf s.2 (Ew s.1 x (far.getD k 0) (noise.getD k [])).2.1).length = s.2.length + (Ew s.1 x (far.getD k 0) (noise.getD k [])).2.1.length := by simp
   show (jf s.2 (Ew s.1 x (far.getD k 0) (noise.getD k [])).2.1).length ≤ _
   omega
  ·rcases jl.1 (show y ∈ s.2 ++ (Ew s.1 x (far.getD k 0) (noise.getD k [])).2.1 from hy) with hy | hy
   ·exact h.rep y hy
   ·exact ht.2.2.2 y hy
theorem Z5 {far : List Int} {noise : List (List Int)} : ∀ (l : List Int) (k : Nat) (s s' : Ob × List Sd), N3 k s → Jc Df s.1 ≤ Ga → Wa (fun k s x => CL far noise k s x) k s l = .inl s' → N3 (k + l.length) s' ∧ Jc Df s'.1 ≤ Ga
 | [], k, s, s', h, hz, hs => by
  simp only [Wa, zk] at hs
  subst hs; exact ⟨h, hz⟩
 | x :: l, k, s, s', h, hz, hs => by
  have h20 : Ga = 1048576 := rfl
  simp only [Wa] at hs
  revert hs
  cases hg : CL far noise k s x with
  | inr u => intro hs; simp at hs
  | inl s1 =>
   intro hs
   have h1 := Kac h hg
   have := Z5 l (k + 1) s1 s' h1.1 (by omega) hs
   rw [jw, show k + (l.length + 1) = k + 1 + l.length by omega]
   exact this
theorem Jac {k : Nat} {s : Ob × List Sd} (h : N3 k s) (hk : k < 200) (a b : Int) (c : List Int) : jx (ja s.2 + ja (Ew s.1 a b c).2.1) Xa = true := by
 have h1 := h.len
 have h2 := (Aay s.1 a b c h.ok).2.2.1
 exact ji (by rw [Tf]; omega)
theorem M7 (h : Ob) (hh : NI h) (hr : Vg h.2.1 = true) : jx (ja ([] : List Int) + ja h.2.1.1) Xa = true := by
 have := RL hr
 exact ji (by rw [Tf]; simp; omega)
theorem AU (h : Ob) (near far : List Int) (noise : List (List Int)) (hh : NI h) (hn : noise.length ≤ Ga) : Hl h near far noise = some (Gal h near far noise) := by
 have h20 : Ga = 1048576 := rfl
 unfold Hl Gal
 rw [FL h hh.b, OJ _ hh.b]
 cases hv : Ji h with
 | false => rfl
 | true =>
  have hrc : Vg h.2.1 = true := by simp only [Ji, jd] at hv; exact hv.2.2.1
  rw [M7 h hh hrc]
  simp only [jb, jg, ua, jk, zz]
  cases h1 : (((ja near : Nat) : Int) != ((ja far : Nat) : Int)) with
  | true => rfl
  | false =>
   have hlen : far.length = near.length := by
    simp only [bne_eq_false_iff_eq] at h1
    omega
   by_cases h2 : ((ja near : Nat) : Int) > 200
   ·rw [Aa h2]; rfl
   ·rw [Ba h2]
    simp only [qc, Bool.and_self, zz, ua]
    have hl := Wg (step := fun x => Mq x.1.1 x.1.2.1 x.1.2.2.1 x.1.2.2.2.1 x.1.2.2.2.2.1 x.1.2.2.2.2.2.1 x.1.2.2.2.2.2.2.1 x.1.2.2.2.2.2.2.2.1 x.2.1 x.2.2.1) near (fun k s x => CL far noise k s x)
     (fun s i => ((near, far, noise, (), (), s.2, ((ja near : Nat) : Int), i, ()), (MI, s.1, ()))) (fun s => .inl (((), (), s.2, ()), (MI, s.1, ()))) (fun _ => .inr (((), ([] : List Sd), false, ()), (MI, ())))
     (fun k s => N3 k s) (by
      intro k hk s hs
      refine ⟨?_, fun s' hs' => (Kac hs hs').1⟩
      have hkf : k < far.length := by omega
      have hfar : far.getD k 0 = far[k] := by rw [qj, je hkf]; rfl
      simp only [Mq]
      rw [Aa (show (k : Int) < ((ja near : Nat) : Int) by omega), Ub hk, Ub hkf]
      unfold CL
      rw [hfar]
      by_cases hkn : k < noise.length
      ·have hno : noise.getD k [] = noise[k] := by rw [qj, je hkn]; rfl
       rw [Aa (show (k : Int) < ((ja noise : Nat) : Int) by omega), Ub hkn, hno]
       simp only [zz, jb]
       show jz (Hk s.1 near[k] far[k] noise[k]) _ = _
       rw [NS _ _ _ _ hs.ok]
       simp only [jb]
       rw [Jac hs (by omega)]
       cases (Ew s.1 near[k] far[k] noise[k]).2.2.1 <;> rfl
      ·have hno : noise.getD k [] = [] := by rw [qj, ya (by omega)]; rfl
       rw [Ba (show ¬ (k : Int) < ((ja noise : Nat) : Int) by omega), hno]
       simp only [zz, ua, jb]
       show jz (Hk s.1 near[k] far[k] []) _ = _
       rw [NS _ _ _ _ hs.ok]
       simp only [jb]
       rw [Jac hs (by omega)]
       cases (Ew s.1 near[k] far[k] []).2.2.1 <;> rfl) (by
      intro s hs
      simp only [Mq]
      rw [Ba (by omega)]; rfl) (by omega) (h, []) ⟨hh, by simp, by simp⟩
    unfold Jt
    erw [hl]
    cases Wa (fun k s x => CL far noise k s x) 0 (h, []) near <;> rfl
def Lg (n m s : Int) : Sc := (([] : List Int), n, m, s, ())
theorem QL {b : List Int} {r2 : Int × (Int × (Int × Unit))} {o : List Int} (hb : b.length < 5) (x : Int) : NP (((b, r2) : Sc), o) x = ((jf b [x], r2), o) := by
 have h : WC ((b, r2) : Sc) x = ((jf b [x], r2), 1) := by
  unfold WC
  rw [Aa (show (((b.length + 1 : Nat)) : Int) < 6 by omega)]
  rfl
 unfold NP
 simp only [h]
 rfl
theorem Sau {n m n0 m0 s : Int} (hn : Nd n) (hm : 0 ≤ m ∧ m ≤ 16777215) (h0 : n ≠ n0) : JN (Lg n0 m0 s) (Cl n m) = (Lg n m 0, [m]) := by
 have e : Cl n m = [85, n, m % 256, m / 256 % 256, m / 65536, Xx (Bi n m)] := rfl
 have e5 : JN (Lg n0 m0 s) (Cl n m) = NP ((([85, n, m % 256, m / 256 % 256, m / 65536] : List Int), n0, m0, s, ()), []) (Xx (Bi n m)) := by
  have s1 : NP ((([] : List Int), n0, m0, s, ()), []) 85 = (([85], n0, m0, s, ()), []) := QL (b := []) (by simp) 85
  have s2 : NP ((([85] : List Int), n0, m0, s, ()), []) n = (([85, n], n0, m0, s, ()), []) := QL (b := [85]) (by simp) n
  have s3 : NP ((([85, n] : List Int), n0, m0, s, ()), []) (m % 256) = (([85, n, m % 256], n0, m0, s, ()), []) := QL (b := [85, n]) (by simp) (m % 256)
  have s4 : NP ((([85, n, m % 256] : List Int), n0, m0, s, ()), []) (m / 256 % 256) = (([85, n, m % 256, m / 256 % 256], n0, m0, s, ()), []) := QL (b := [85, n, m % 256]) (by simp) (m / 256 % 256)
  have s5 : NP ((([85, n, m % 256, m / 256 % 256] : List Int), n0, m0, s, ()), []) (m / 65536) = (([85, n, m % 256, m / 256 % 256, m / 65536], n0, m0, s, ()), []) := QL (b := [85, n, m % 256, m / 256 % 256]) (by simp) (m / 65536)
  unfold JN Lg
  rw [e]
  simp only [Bd, s1, s2, s3, s4, s5]
 have hf : QI [85, n, m % 256, m / 256 % 256, m / 65536, Xx (Bi n m)] = (n, m, true) := by
  have h1 : DR [85, n, m % 256, m / 256 % 256, m / 65536, Xx (Bi n m)] = true := by
   have t5 : List.take 5 [85, n, m % 256, m / 256 % 256, m / 65536, Xx (Bi n m)] = Bi n m := by simp [Bi]
   have g0 : q9 [85, n, m % 256, m / 256 % 256, m / 65536, Xx (Bi n m)] 0 0 = 85 := by simp
   have g5 : q9 [85, n, m % 256, m / 256 % 256, m / 65536, Xx (Bi n m)] 5 0 = Xx (Bi n m) := by simp
   unfold DR
   rw [t5, g0, g5]
   simp
  have h2 : AP [85, n, m % 256, m / 256 % 256, m / 65536, Xx (Bi n m)] = m := by
   have g2 : q9 [85, n, m % 256, m / 256 % 256, m / 65536, Xx (Bi n m)] 2 0 = m % 256 := by simp
   have g3 : q9 [85, n, m % 256, m / 256 % 256, m / 65536, Xx (Bi n m)] 3 0 = m / 256 % 256 := by simp
   have g4 : q9 [85, n, m % 256, m / 256 % 256, m / 65536, Xx (Bi n m)] 4 0 = m / 65536 := by simp
   unfold AP
   rw [g2, g3, g4]
   omega
  unfold QI
  rw [h1, h2]
  rfl
 have hr : WC (([85, n, m % 256, m / 256 % 256, m / 65536] : List Int), n0, m0, s, ()) (Xx (Bi n m)) = (Lg n m 0, 2) := by
  unfold WC
  have e1 : jf ([85, n, m % 256, m / 256 % 256, m / 65536] : List Int) [Xx (Bi n m)] = [85, n, m % 256, m / 256 % 256, m / 65536, Xx (Bi n m)] := rfl
  simp only [e1, hf]
  rw [show (n == n0) = false from beq_eq_false_iff_ne.2 h0]
  rfl
 rw [e5]
 unfold NP
 simp only [hr]
 rfl
theorem Iav {n m s : Int} (hs : 0 ≤ s ∧ s ≤ 20) : YU (Lg n m s) = cond (decide (19 ≤ s)) (Lg (-1) 0 20) (Lg n m (s + 1)) := by
 unfold YU
 have hw : j9 .i64 ((Lg n m s).2.2.2.1 + 1) = s + 1 := Qc (n := s + 1) (by omega) (by omega)
 rw [hw]
 by_cases h : 19 ≤ s
 ·rw [Aa h, show min (s + 1) 20 = 20 by omega]
  rfl
 ·rw [Ba h, show min (s + 1) 20 = s + 1 by omega, show (s + 1 == 20) = false by rw [beq_eq_false_iff_ne]; omega]
  rfl
theorem QG {k p q : Nat} (hk : k ≤ 12) (hp : p < 2 ^ k) (hq : q < 2 ^ k) : Lc .i64 (p : Int) (Ma .i64 (q : Int) (k : Int)) = ((p ||| q <<< k : Nat) : Int) ∧ p ||| q <<< k < 2 ^ (k + k) := by
 have p12 : 2 ^ k ≤ 2 ^ 12 := qo (by omega) hk
 have h1 : q <<< k < 2 ^ (k + k) := by rw [ql, Nat.pow_add]; exact Nat.mul_lt_mul_of_pos_right hq (zt k)
 have h2 : p < 2 ^ (k + k) := qn hp (qo (by omega) (by omega))
 have h63 : ∀ x, x < 2 ^ (k + k) → x < 2 ^ 63 := fun x hx => qn hx (qo (by omega) (by omega))
 have e : Ma .i64 (q : Int) (k : Int) = ((q <<< k : Nat) : Int) := JR (k := k) (by rw [← ql]; exact h63 _ h1) (by omega)
 rw [e, Fi (h63 _ h2) (h63 _ h1)]
 exact ⟨rfl, zn h2 h1⟩
theorem Cau {k q : Nat} (hk : k ≤ 12) (hq : q < 2 ^ k) : Ya .i64 (q : Int) (j9 .i64 (Ma .i64 1 (k : Int) - 1)) = (q : Int) := by
 have p12 : 2 ^ k ≤ 2 ^ 12 := qo (by omega) hk
 have h1 := zt k
 have e : j9 .i64 (Ma .i64 1 (k : Int) - 1) = ((2 ^ k - 1 : Nat) : Int) := by
  rw [Ve (by omega), Qc (by omega) (by omega)]
  omega
 have h63 : ∀ x, x < 2 ^ k → x < 2 ^ 63 := fun x hx => qn hx (qo (by omega) (by omega))
 rw [e, Qu (h63 _ hq) (h63 _ (by omega)), Nat.and_two_pow_sub_one_eq_mod, Nat.mod_eq_of_lt hq]
theorem HaC : ∀ (v : Fin 3) (a b : Fin 6), a ≠ b → Sh [(([3, 5, 9] : List Int).getD v.val 0, (24 : Int), ())] (((2 ^ a.val ||| 2 ^ b.val : Nat)) : Int) = true →
 (decide ((Bf [(([3, 5, 9] : List Int).getD v.val 0, (24 : Int), ())] (((2 ^ a.val ||| 2 ^ b.val : Nat)) : Int)).1 ≥ 0) && !(Bf [(([3, 5, 9] : List Int).getD v.val 0, (24 : Int), ())] (((2 ^ a.val ||| 2 ^ b.val : Nat)) : Int)).2) = true := by decide +kernel
theorem Oaq {kc : Nat} (hkc : kc ≤ 6) (v : Fin 3) : IM kc 1 [(([3, 5, 9] : List Int).getD v.val 0, (24 : Int), ())] := by
 intro c D m hI hS hL
 cases hq : c.2.2.1 with
 | nil => simp
 | cons x r =>
  cases r with
  | nil => simp
  | cons y r =>
   exfalso
   obtain ⟨t0, t, h0, htn, hE⟩ := hI.q
   rw [hq] at hE
   have hsw := ZV (by omega) hE
   obtain ⟨kx, hkx, hkxc, _, hx0, hx1, hx2, hdx, hR⟩ := Fj hE
   obtain ⟨ky, hky, hkyc, _, hy0, hy1, hy2, hdy, _⟩ := Fj hR
   obtain ⟨hd, hm⟩ := SN (hS x (y :: r) hq)
   have htm := hI.tm
   rw [hq] at hm
   revert hm
   unfold Vd
   simp only
   rw [hI.s.cb, Aa htm, (hsw x (by simp)).1, hd]
   simp only [Bool.and_self, zz]
   cases Sh c.1 (Ma .i64 1 x.2.1) with
   | false => intro h; exact absurd (show (1 : Int) = 0 from h) (by omega)
   | true =>
    simp only [zz]
    rw [hkx, Ve (by omega)]
    unfold JE
    simp only [Wa]
    unfold Yr
    rw [(hsw y (by simp)).1]
    simp only [zz]
    cases decide (y.1 ≥ j9 .i64 (x.1 + c.2.1)) with
    | true => simp only [zz]; exact (Xw c.1 _ 0 _).1
    | false =>
     simp only [ua]
     cases hyd : y.2.2.1 with
     | false => simp only [ua]; exact (Xw c.1 _ 0 _).1
     | true =>
      simp only [zz]
      rw [hd] at hdx
      rw [hyd] at hdy
      have hne : kx ≠ ky := by
       rintro rfl
       rw [qp, Nat.testBit_two_pow_self] at hdy
       cases hb : (Gm c D).testBit kx <;> rw [hb] at hdx hdy <;> simp at hdx hdy
      rw [hky, Ve (by omega), Fi (Ye (by omega)) (Ye (by omega)), hL]
      cases hw : Sh [(([3, 5, 9] : List Int).getD v.val 0, (24 : Int), ())] ((2 ^ kx ||| 2 ^ ky : Nat) : Int) with
      | false => simp only [ua]; exact (Xw _ _ 0 _).1
      | true =>
       have := HaC v ⟨kx, by omega⟩ ⟨ky, by omega⟩ (fun h => hne (by simpa using h)) hw
       simp only [zz]
       rw [this]
       simp only [zz]
       intro h
       exact absurd (show ((0 + 2 : Nat) : Int) = 0 from h) (by omega)
theorem Naq {kc : Nat} (hkc : kc ≤ 6) : IM kc 1 [] := by
 intro c D m hI hS hL
 cases hq : c.2.2.1 with
 | nil => simp
 | cons x r =>
  exfalso
  obtain ⟨t0, t, h0, htn, hE⟩ := hI.q
  rw [hq] at hE
  have hsw := ZV (by omega) hE
  obtain ⟨hd, hm⟩ := SN (hS x r hq)
  have htm := hI.tm
  rw [hq] at hm
  revert hm
  unfold Vd
  simp only
  rw [hI.s.cb, Aa htm, (hsw x (by simp)).1, hd, hL]
  simp only [Bool.and_self, zz]
  have : Sh [] (Ma .i64 1 x.2.1) = false := rfl
  rw [this]
  intro h; exact absurd (show (1 : Int) = 0 from h) (by omega)
structure P3 (b : Vb) (half keys ct dt dT : Nat) : Prop where
 nb : KaU b (2 * half) keys ct dt dT 5 12 1
 sh : IM (2 * half) 1 b.2.2.1.1
 h1 : 1 ≤ half
 h3 : half ≤ 3
 hk : Kj b.1 = (half : Int)
 c3 : ct ≤ 3
 d2 : dT ≤ 2
theorem C3 {b : Vb} {half keys ct dt dT : Nat} (h : P3 b half keys ct dt dT) : Io b = some ((b, Lg (-1) 0 0, (0 : Int), ()), true, ()) := by
 have hz := P9 h.nb.p (by have := h.nb.cl; omega)
 have hv : Ji (b, Lg (-1) 0 0, (0 : Int), ()) = true := by
  unfold Ji
  rw [OM h.nb.p.i, h.hk, Aa (show (half : Int) > 0 by have := h.h1; omega)]
  rfl
 unfold Io NE
 simp only [jb]
 show jz (Rw (b, Lg (-1) 0 0, (0 : Int), ())) _ = _
 rw [HZ _ hz, hv]
 simp only [jb, jg, ua]
 unfold DM
 rw [RN _ hz]
 simp only [jb]
 rw [show jx (ja ([] : List Int) + ja ([] : List Int)) Xa = true from Ng (by simp)]
 rfl
theorem Wan {c : Ab} (hc : Di c) : ∃ (c' : Ab) (b : Vb) (half keys ct dt dT : Nat), DI c = some (c', ((b, Lg (-1) 0 0, (0 : Int), ()), ())) ∧ Di c' ∧ P3 b half keys ct dt dT := by
 obtain ⟨c1, x1, e1, hc1, b1⟩ := Fh hc 3 (by omega)
 obtain ⟨x1, rfl⟩ := jv b1.1
 obtain ⟨c2, d, e2, hc2⟩ := MB hc1 2 (by omega)
 obtain ⟨c4, x4, e4, hc4, b4⟩ := Fh hc2 3 (by omega)
 obtain ⟨c5, x5, e5, hc5, b5⟩ := Fh hc4 2 (by omega)
 obtain ⟨x5, rfl⟩ := jv b5.1
 obtain ⟨half, hhalf⟩ : ∃ half, half = 1 + x1 := ⟨_, rfl⟩
 have w1 : j9 .i64 ((1 : Int) + (x1 : Int)) = (half : Int) := by rw [Qc (by omega) (by omega)]; omega
 have w5 : j9 .i64 ((1 : Int) + (x5 : Int)) = ((1 + x5 : Nat) : Int) := by rw [Qc (by omega) (by omega)]; omega
 have hD : MJ half 2 := ⟨by omega, by omega, by omega, by omega⟩
 have hmk : ∀ p' : Nat, p' < 2 ^ (2 * half) → Ic ((2 : Int), (half : Int), d, ()) (p' : Int) = true := fun p' hp => ZK hD hp
 have hmat : Jf ((2 : Int), (half : Int), d, ()) = true := by
  have := hmk 0 (zt _)
  simp only [Ic, jd] at this
  exact this.1
 have hkc : Dc ((2 : Int), (half : Int), d, ()) = ((2 * half : Nat) : Int) := by
  unfold Dc
  rw [hmat]
  show (2 : Int) * (half : Int) = _
  omega
 have hhk : Kj ((2 : Int), (half : Int), d, ()) = (half : Int) := by
  unfold Kj
  rw [hkc]
  show Int.tdiv ((2 * half : Nat) : Int) 2 = (half : Int)
  rw [Int.tdiv_eq_ediv_of_nonneg (by omega)]
  omega
 have e6 := A5 (kind := x4) (time := ((1 + x5 : Nat) : Int)) (n := 2 * half) (by omega) (by omega) (by omega)
 obtain ⟨c7, b7, e7, hc7⟩ := MB hc5 3 (by omega)
 unfold DI
 rw [e1]
 simp only [jb, e2, w1, Rv, hkc, e4, e5, w5, e6, e7]
 have Sg : ∀ {c9 c10 : Ab} {L : List Na} {x : Nat} {keys : Nat} {m3 : Db} {M3 : List (List Cc)} {t3 : Dt}, Di c10 → Qe L = true → IM (2 * half) 1 L → (∀ y ∈ L, (∃ p : Nat, y.1 = (p : Int) ∧ p < 2 ^ (2 * half)) ∧ y.2.1 < (keys : Int)) → L.length ≤ 2 → x ≤ 2 → 2 * half ≤ keys → keys ≤ 32 →
  Ce m3 = true → m3.1 = (keys : Int) → M3.length ≤ 3 → (∀ x ∈ M3, Be x = true ∧ x.length ≤ 6) → Kf t3 = true → t3.1 ≤ 9 →
  ∃ (b : Vb) (half' keys ct dt dT : Nat), (jz (Cq ((2 : Int), (half : Int), d, ()) (UI x4 ((1 + x5 : Nat) : Int) (2 * half)) (Dm L ((1 + x : Nat) : Int)) (No (Tm m3 M3) t3)) fun r11 =>
   jz (Io r11.1) fun r12 => (some (c10, (r12.1, ())) : Option (Ab × (Ob × Unit)))) = some (c10, ((b, Lg (-1) 0 0, (0 : Int), ()), ())) ∧ P3 b half' keys ct dt dT := by
  intro c9 c10 L x keys m3 M3 t3 hc10 hL hS hLm hL2 hx k1 k2 k4 k5 k6 k7 k8 k9
  have hlo := Yaq k8
  obtain ⟨dt, hdt⟩ := jv (show 0 ≤ t3.1 by omega)
  have hB := KaB (v := 5) (K := 12) (Q := 1) (m := ((2 : Int), (half : Int), d, ())) (kind := x4) (time := ((1 + x5 : Nat) : Int)) (term := ((1 + x : Nat) : Int)) (n := 2 * half) (keys := keys) (ct := 1 + x) (dt := dt) (L := L) (M := m3) (Ms := M3) (t := t3) hmat hkc (by omega) k1 k2 (by omega) (by omega) hL
   (fun y hy => by obtain ⟨⟨p, hp, hp2⟩, h2⟩ := hLm y hy; exact ⟨by rw [hp]; exact hmk p hp2, h2⟩) (by omega) rfl k4 k5 (by omega) k7 k8 hdt
  have hN : P3 (((2 : Int), (half : Int), d, ()), UI x4 ((1 + x5 : Nat) : Int) (2 * half), Dm L ((1 + x : Nat) : Int), No (Tm m3 M3) t3, (0 : Int), (0 : Int), ()) half keys (1 + x) dt (1 + x5) :=
   ⟨⟨hB, by omega, by omega, by omega, by omega, rfl, by omega, rfl, rfl, rfl, rfl, hL2, rfl, rfl, hmk⟩, hS, by omega, by omega, hhk, by omega, by omega⟩
  rw [Z4 hB (by show L.length ≤ 100; omega)]
  simp only [jb]
  rw [C3 hN]
  exact ⟨_, half, keys, 1 + x, dt, 1 + x5, rfl, hN⟩
 have p4 : (4 : Nat) ≤ 2 ^ (2 * half) := qe (show 4 ≤ 2 ^ 2 by decide) (qo (by omega) (by omega))
 cases b7 with
 | true =>
  simp only [zz]
  have wd : j9 .i64 (Int.tdiv ((2 * half : Nat) : Int) (2 : Int)) = (half : Int) := by
   rw [Int.tdiv_eq_ediv_of_nonneg (by omega), show ((2 * half : Nat) : Int) / 2 = (half : Int) by omega, Qc (by omega) (by omega)]
  rw [show ((2 : Int) == (0 : Int)) = false from rfl, wd, Aa (show (0 : Int) ≤ (half : Int) by omega), Ng (show ja ([] : List Na) + ja [(Lc .i64 (1 : Int) (Ma .i64 (1 : Int) (half : Int)), (24 : Int), ())] ≤ 1073741824 by simp)]
  simp only [ua, zz]
  obtain ⟨c8, x8, e8, hc8, b8⟩ := Fh hc7 3 (by omega)
  obtain ⟨x8, rfl⟩ := jv b8.1
  have w8 : j9 .i64 ((1 : Int) + (x8 : Int)) = ((1 + x8 : Nat) : Int) := by rw [Qc (by omega) (by omega)]; omega
  obtain ⟨v, hv, hv2⟩ : ∃ v : Fin 3, Lc .i64 (1 : Int) (Ma .i64 (1 : Int) (half : Int)) = ([3, 5, 9] : List Int).getD v.val 0 ∧ half = v.val + 1 := by
   have : half = 1 ∨ half = 2 ∨ half = 3 := by omega
   rcases this with h | h | h
   ·exact ⟨0, by rw [h]; decide, h⟩
   ·exact ⟨1, by rw [h]; decide, h⟩
   ·exact ⟨2, by rw [h]; decide, h⟩
  have hcb : ∀ v : Fin 3, Qe [(([3, 5, 9] : List Int).getD v.val 0, (24 : Int), ())] = true := by decide
  have hlt : ∀ v : Fin 3, ∃ p : Nat, ([3, 5, 9] : List Int).getD v.val 0 = (p : Int) ∧ p < 2 ^ (2 * (v.val + 1)) := fun v => by
   match v with
   | 0 => exact ⟨3, by decide, by decide⟩
   | 1 => exact ⟨5, by decide, by decide⟩
   | 2 => exact ⟨9, by decide, by decide⟩
  have e9 := UP (L := [(([3, 5, 9] : List Int).getD v.val 0, (24 : Int), ())]) (term := ((1 + x8 : Nat) : Int)) (hcb v) (by omega) (by simp)
  obtain ⟨c10, m3, M3, t3, e10, hc10, r1, r2, r3, r4, r5, r6⟩ := I6 hc8 (keys := 25) (by omega) (by omega)
  have e10' : Ax c8 25 = some (c10, (No (Tm m3 M3) t3, ())) := e10
  rw [e8]
  simp only [jb]
  rw [hv, w8]
  rw [show jf ([] : List Na) [(([3, 5, 9] : List Int).getD v.val 0, (24 : Int), ())] = [(([3, 5, 9] : List Int).getD v.val 0, (24 : Int), ())] from rfl, e9]
  simp only [jb, e10']
  obtain ⟨b, h', k', ct, dt, dT, e11, hN⟩ := Sg (c9 := c10) (c10 := c10) (L := [(([3, 5, 9] : List Int).getD v.val 0, (24 : Int), ())]) (x := x8) (keys := 25) hc10 (hcb v) (Oaq (by omega) v) (fun y hy => by
   simp only [jp, zw, or_false] at hy
   subst hy
   obtain ⟨p, hp, hp2⟩ := hlt v
   exact ⟨⟨p, hp, by rw [hv2]; exact hp2⟩, by show (24 : Int) < 25; omega⟩) (by simp) (by omega) (by omega) (by omega) r1 r2 r3 r4 r5 r6
  rw [e11]
  exact ⟨c10, b, h', k', ct, dt, dT, rfl, hc10, hN⟩
 | false =>
  simp only [ua]
  obtain ⟨c8, x8, e8, hc8, b8⟩ := Fh hc7 3 (by omega)
  obtain ⟨x8, rfl⟩ := jv b8.1
  have w8 : j9 .i64 ((1 : Int) + (x8 : Int)) = ((1 + x8 : Nat) : Int) := by rw [Qc (by omega) (by omega)]; omega
  have e9 := UP (L := []) (term := ((1 + x8 : Nat) : Int)) (by decide) (by omega) (by simp)
  obtain ⟨c10, m3, M3, t3, e10, hc10, r1, r2, r3, r4, r5, r6⟩ := I6 hc8 (keys := 2 * half) (by omega) (by omega)
  rw [e8]
  simp only [jb]
  rw [w8, e9]
  simp only [jb, e10]
  obtain ⟨b, h', k', ct, dt, dT, e11, hN⟩ := Sg (c9 := c10) (c10 := c10) (L := []) (x := x8) (keys := 2 * half) hc10 (by decide) (Naq (by omega)) (fun y hy => by simp at hy) (by simp) (by omega) (by omega) (by omega) r1 r2 r3 r4 r5 r6
  rw [e11]
  exact ⟨c10, b, h', k', ct, dt, dT, rfl, hc10, hN⟩
theorem Taa {k p p' q q' : Nat} (hp : p < 2 ^ k) (hp' : p' < 2 ^ k) : ∀ j, Pe (k + j) (p ||| q <<< k) (p' ||| q' <<< k) ≤ Pe k p p' + Pe j q q' := by
 have lo : ∀ (p q i : Nat), i < k → (p ||| q <<< k).testBit i = p.testBit i := fun p q i hi => by
  rw [zq, Nat.testBit_shiftLeft, Ba (show ¬ i ≥ k by omega)]
  simp
 have hi : ∀ (p q i : Nat), p < 2 ^ k → (p ||| q <<< k).testBit (k + i) = q.testBit i := fun p q i hp => by
  rw [zq, Nat.testBit_shiftLeft, Aa (show k + i ≥ k by omega), zu (qn hp (qo (by omega) (Nat.le_add_right k i))), show k + i - k = i by omega]
  simp
 intro j
 induction j with
 | zero =>
  have : ∀ n, n ≤ k → Pe n (p ||| q <<< k) (p' ||| q' <<< k) = Pe n p p' := by
   intro n
   induction n with
   | zero => intro _; rfl
   | succ n ih =>
    intro h
    show Pe n _ _ + cond (_ ^^ _) 1 0 = Pe n p p' + cond (p.testBit n ^^ p'.testBit n) 1 0
    rw [ih (by omega), lo p q n (by omega), lo p' q' n (by omega)]
  rw [yl, this k (jo _)]
  exact Nat.le_add_right _ _
 | succ j ih =>
  show Pe (k + j) _ _ + cond ((p ||| q <<< k).testBit (k + j) ^^ (p' ||| q' <<< k).testBit (k + j)) 1 0 ≤ Pe k p p' + (Pe j q q' + cond (q.testBit j ^^ q'.testBit j) 1 0)
  rw [hi p q j hp, hi p' q' j hp']
  omega
theorem Uaa {n a b : Nat} (ha : a < 2 ^ n) (hb : b < 2 ^ n) (hn : n ≤ 32) : Pe 32 a b = Pe n a b := by
 have := Q1 ha hb (32 - n)
 rwa [show n + (32 - n) = 32 by omega] at this
theorem N9 {k p p' q q' : Nat} (hk : k ≤ 12) (hp : p < 2 ^ k) (hp' : p' < 2 ^ k) (hq : q < 2 ^ k) (hq' : q' < 2 ^ k) : Pe 32 (p ||| q <<< k) (p' ||| q' <<< k) ≤ Pe 32 p p' + k := by
 have h1 := Uaa (QG hk hp hq).2 (QG hk hp' hq').2 (by omega)
 have h2 := Taa (q := q) (q' := q') hp hp' k
 have h3 := Uaa hp hp' (by omega)
 have h4 := P1 k q q'
 omega
structure SJ (h : Ob) (half keys ct dt p q : Nat) (num s : Int) : Prop where
 ex : ∃ g, ZN h.1 (2 * half) keys g ct dt 5 12 1 (p ||| q <<< half)
 sh : IM (2 * half) 1 h.1.2.2.1.1
 h1 : 1 ≤ half
 h3 : half ≤ 3
 hk : Kj h.1.1 = (half : Int)
 d9 : dt ≤ 9
 msk : ∀ p' : Nat, p' < 2 ^ (2 * half) → Ic h.1.1 (p' : Int) = true
 pk : p < 2 ^ half
 qk : q < 2 ^ half
 rc : h.2.1 = Lg num q s
 rn : -1 ≤ num ∧ num ≤ 255
 rs : 0 ≤ s ∧ s ≤ 20
 nr : 0 ≤ h.2.2.1 ∧ h.2.2.1 ≤ 255
theorem GR {h : Ob} {half keys ct dt p q : Nat} {num s : Int} (hI : SJ h half keys ct dt p q num s) : Ji h = true := by
 obtain ⟨g, hP⟩ := hI.ex
 have h1 := hI.h1
 have h2 := hI.qk
 have h3 := hI.h3
 have h4 : 2 ^ half ≤ 2 ^ 3 := qo (by omega) h3
 have hr : Vg h.2.1 = true := by
  rw [hI.rc]
  exact SL (by decide) hI.rn ⟨by omega, by omega⟩ hI.rs
 unfold Ji
 rw [OM hP.i, hI.hk, hr, Aa (show (half : Int) > 0 by omega), Aa hI.nr]
 rfl
theorem Dab {k x : Nat} (h : x < 2 ^ k) : Rd (k : Int) (x : Int) = true := by
 unfold Rd
 rw [jn]
 exact Aa ⟨by omega, by exact_mod_cast h⟩
theorem Sav (half : Nat) : half + half = 2 * half := by omega
theorem YT {h : Ob} {half keys ct dt p q p' q' : Nat} {num s num' s' : Int} {far : Int} {noise : List Int} (hI : SJ h half keys ct dt p q num s) (hp : p' < 2 ^ half) (hf : far = ((far.toNat : Nat) : Int) ∧ far.toNat < 2 ^ half) (hq : q' < 2 ^ half) (hv : Pe 32 p p' ≤ 2 ∨ q' = q)
 (hr : EH h far noise = Lg num' q' s') (hn : -1 ≤ num' ∧ num' ≤ 255) (hs : 0 ≤ s' ∧ s' ≤ 20) (hT : h.1.2.2.2.2.2.1 < 1000000) :
 ∃ (b' : Vb) (o : List Sd), Uf h.1 ((p' ||| q' <<< half : Nat) : Int) = (b', o, true, ()) ∧ Ew h (p' : Int) far noise = ((b', Lg num' q' s', yn (h.2.2.1 + 1) 256, ()), o, true, ()) ∧
  SJ (b', Lg num' q' s', yn (h.2.2.1 + 1) 256, ()) half keys ct dt p' q' num' s' ∧ b'.1 = h.1.1 ∧ b'.2.1.2.1 = h.1.2.1.2.1 ∧ b'.2.2.2.2.2.1 = h.1.2.2.2.2.2.1 + 1 := by
 obtain ⟨g, hP⟩ := hI.ex
 have h3 := hI.h3
 have h1 := hI.h1
 have hd9 := hI.d9
 obtain ⟨e1, e2⟩ := QG (show half ≤ 12 by omega) hp hq
 rw [Sav] at e2
 have hmsk := hI.msk _ e2
 have hham : Pe 32 (p ||| q <<< half) (p' ||| q' <<< half) ≤ 5 := by
  rcases hv with hv | rfl
  ·have := N9 (show half ≤ 12 by omega) hI.pk hp hI.qk hq
   omega
  ·have a1 := Uaa (QG (show half ≤ 12 by omega) hI.pk hq).2 (QG (show half ≤ 12 by omega) hp hq).2 (by omega)
   have a2 := Taa (q := q') (q' := q') hI.pk hp half
   have a3 := P1 half p p'
   rw [ZG] at a2
   omega
 obtain ⟨g', m, m', hE, hP', hcL, _, _⟩ := Cac (δ := 0) hP (.inr hI.sh) hmsk e2 (by omega) hT (by omega) (by omega)
 have eq := hE.eq
 have hbi : CD h (p' : Int) far noise = ((p' ||| q' <<< half : Nat) : Int) := by
  unfold CD
  rw [hr, hI.hk]
  show Lc .i64 (p' : Int) (Ma .i64 (Ya .i64 (q' : Int) (j9 .i64 (Ma .i64 1 (half : Int) - 1))) (half : Int)) = _
  rw [Cau (by omega) hq, e1]
 have hok : CW h (p' : Int) far = true := by
  unfold CW
  rw [GR hI, hI.hk, Dab hp, hf.1, Dab hf.2]
  rfl
 have hnr := hI.nr
 have ht3 : (Uf h.1 ((p' ||| q' <<< half : Nat) : Int)).2.2.1 = true := by rw [eq]
 have hdt : (Kh h.1 ((p' ||| q' <<< half : Nat) : Int)).2.1 = h.1.2.1.2.1 := by rw [(OT (YP (OM hP.i) hmsk)).2]
 refine ⟨(Uf h.1 ((p' ||| q' <<< half : Nat) : Int)).1, (Uf h.1 ((p' ||| q' <<< half : Nat) : Int)).2.1, by rw [eq], ?_, ⟨⟨g', hP'⟩, by show IM _ _ (Uf h.1 _).1.2.2.1.1; rw [hcL]; exact hI.sh, h1, h3, ?_, hI.d9, ?_, hp, hq, rfl, hn, hs, ?_⟩, by rw [eq], by rw [eq]; exact hdt, by rw [eq]⟩
 ·unfold Ew
  rw [hok, hbi, ht3, hr, Qc (n := h.2.2.1 + 1) (by omega) (by omega)]
  rfl
 ·show Kj (Uf h.1 _).1.1 = _
  rw [eq]; exact hI.hk
 ·show ∀ p' : Nat, p' < 2 ^ (2 * half) → Ic (Uf h.1 _).1.1 (p' : Int) = true
  rw [eq]; exact hI.msk
 ·show 0 ≤ yn (h.2.2.1 + 1) 256 ∧ yn (h.2.2.1 + 1) 256 ≤ 255
  rw [Int.tmod_eq_emod_of_nonneg (by omega)]
  omega
def Wx (half : Int) : List Int → List Int → List Int
 | p :: l, q :: r => Lc .i64 p (Ma .i64 q half) :: Wx half l r
 | _, _ => []
def Q8 (k : Nat) (l : List Int) : Prop := ∀ x ∈ l, ∃ n : Nat, x = (n : Int) ∧ n < 2 ^ k
theorem Raa {half keys ct dt : Nat} {far : List Int} : ∀ (near rest : List Int) (k p q : Nat) (h : Ob) (sent : List Sd), far.drop k = rest → rest.length = near.length → k + near.length ≤ 100 → SJ h half keys ct dt p q ((k : Int) - 1) 0 → h.2.2.1 = (k : Int) → h.1.2.2.2.2.2.1 = (k : Int) → NK half 2 p near → Q8 half rest →
 ∃ (h' : Ob) (sent' : List Sd) (p' q' : Nat), Wa (fun k s x => CL far [] k s x) k (h, sent) near = .inl (h', sent') ∧ Wa (fun _ s x => NO s x) 0 (h.1, sent) (Wx (half : Int) near rest) = .inl (h'.1, sent') ∧
  SJ h' half keys ct dt p' q' (((k + near.length : Nat) : Int) - 1) 0 ∧ h'.2.2.1 = ((k + near.length : Nat) : Int) ∧ h'.1.2.2.2.2.2.1 = ((k + near.length : Nat) : Int) ∧ h'.1.2.1.2.1 = h.1.2.1.2.1 ∧ h'.1.1 = h.1.1
 | [], rest, k, p, q, h, sent, _, hl, _, hI, hn, ht, _, _ => by
  have : rest = [] := yj (by simpa using hl)
  subst this
  exact ⟨h, sent, p, q, rfl, rfl, hI, hn, ht, rfl, rfl⟩
 | x :: near, [], k, p, q, h, sent, _, hl, _, _, _, _, _, _ => by simp at hl
 | x :: near, y :: rest, k, p, q, h, sent, hd, hl, hk, hI, hn, ht, hN, hA => by
  obtain ⟨p', rfl, hp, hv, hN'⟩ := hN
  obtain ⟨q', rfl, hq⟩ := hA y (by simp)
  simp only [jw] at hk hl
  obtain ⟨hk', hy, hd'⟩ := Lz hd
  have h3 := hI.h3
  have h4 : 2 ^ half ≤ 2 ^ 3 := qo (by omega) h3
  have hbyte : Nd h.2.2.1 := ⟨by omega, by omega⟩
  have hrec : KN h (q' : Int) [] = (Lg (k : Int) q' 0, [(q' : Int)]) := by
   unfold KN
   rw [hI.rc]
   show JN (Lg ((k : Int) - 1) q 0) (Cl h.2.2.1 (q' : Int)) = _
   rw [hn]
   rw [hn] at hbyte
   exact Sau hbyte ⟨by omega, by omega⟩ (by omega)
  have hr2 : EH h (q' : Int) [] = Lg (k : Int) q' 0 := by
   unfold EH
   rw [hrec]
   rfl
  obtain ⟨b', o, e1, e2, hI', hb1, hdt, hT⟩ := YT (far := (q' : Int)) (noise := []) (num' := (k : Int)) (s' := 0) hI hp ⟨by omega, by rw [jn]; exact hq⟩ hq (.inl hv) hr2 ⟨by omega, by omega⟩ ⟨by omega, by omega⟩ (by omega)
  have hmod : yn (h.2.2.1 + 1) 256 = ((k + 1 : Nat) : Int) := by
   rw [hn, Int.tmod_eq_emod_of_nonneg (by omega)]
   omega
  rw [hmod] at e2 hI'
  obtain ⟨h', sent', p2, q2, f1, f2, f3, f4, f5, f6, f7⟩ := Raa near rest (k + 1) p' q' (b', Lg (k : Int) q' 0, ((k + 1 : Nat) : Int), ()) (sent ++ o) hd' (by omega) (by omega) (by rw [show ((k + 1 : Nat) : Int) - 1 = (k : Int) by omega]; exact hI') rfl (by show b'.2.2.2.2.2.1 = _; rw [hT, ht]; omega) hN' (fun z hz => hA z (by simp [hz]))
  have hlen : k + 1 + near.length = k + (near.length + 1) := by omega
  rw [hlen] at f3 f4 f5
  refine ⟨h', sent', p2, q2, ?_, ?_, f3, f4, f5, f6.trans hdt, f7.trans hb1⟩
  ·have hg : CL far [] k (h, sent) (p' : Int) = .inl ((b', Lg (k : Int) q' 0, ((k + 1 : Nat) : Int), ()), sent ++ o) := by
    have hfd : far.getD k 0 = (q' : Int) := by rw [qj, je hk', hy]; rfl
    have hnd : ([] : List (List Int)).getD k [] = [] := by simp
    unfold CL
    rw [hfd, hnd]
    simp only
    rw [e2]
    rfl
   simp only [Wa]
   rw [hg]
   exact f1
  ·have hg : NO (h.1, sent) ((p' ||| q' <<< half : Nat) : Int) = .inl (b', sent ++ o) := by
    unfold NO
    simp only
    rw [e1]
    rfl
   show Wa (fun _ s x => NO s x) 0 (h.1, sent) (Lc .i64 (p' : Int) (Ma .i64 (q' : Int) (half : Int)) :: Wx (half : Int) near rest) = _
   rw [(QG (show half ≤ 12 by omega) hp hq).1]
   simp only [Wa]
   rw [hg]
   show Wa (fun _ s x => NO s x) (0 + 1) (b', sent ++ o) (Wx (half : Int) near rest) = _
   rw [Rl NO (Wx (half : Int) near rest) (0 + 1) 0]
   exact f2
theorem Wag {h : Ob} {n m s far : Int} (hr : h.2.1 = Lg n m s) (hs : 0 ≤ s ∧ s ≤ 20) : EH h far [1] = cond (decide (19 ≤ s)) (Lg (-1) 0 20) (Lg n m (s + 1)) := by
 have h0 : KN h far [1] = (Lg n m s, []) := by
  unfold KN
  rw [hr]
  rfl
 unfold EH
 rw [h0]
 exact Iav hs
noncomputable def HG (v : Int) (s : Ob × List Sd) (x : Int) : (Ob × List Sd) ⊕ Unit :=
 cond (Ew s.1 x v [1]).2.2.1 (.inl ((Ew s.1 x v [1]).1, jf s.2 (Ew s.1 x v [1]).2.1)) (.inr ())
theorem Jae (v : Int) (N : Nat) : ∀ (l : List Int) (k : Nat) (s : Ob × List Sd), k + l.length ≤ N → Wa (fun k s x => CL (yp N v) (yp N [1]) k s x) k s l = Wa (fun _ s x => HG v s x) 0 s l
 | [], k, s, _ => rfl
 | x :: l, k, s, h => by
  simp only [jw] at h
  have e : CL (yp N v) (yp N [1]) k s x = HG v s x := by
   have e1 : (yp N v).getD k 0 = v := by rw [qj, List.getElem?_replicate, if_pos (by omega)]; rfl
   have e2 : (yp N ([1] : List Int)).getD k [] = [1] := by rw [qj, List.getElem?_replicate, if_pos (by omega)]; rfl
   unfold CL HG
   rw [e1, e2]
  simp only [Wa]
  rw [e]
  cases HG v s x with
  | inr u => rfl
  | inl s1 =>
   simp only
   rw [Jae v N l (k + 1) s1 (by omega)]
   exact (Rl (HG v) l (0 + 1) 0 (s := s1)).symm
theorem Pac {half keys ct dt : Nat} {v : Int} (hv : v = ((v.toNat : Nat) : Int) ∧ v.toNat < 2 ^ half) : ∀ (n : Nat) (h : Ob) (sent : List Sd) (p q : Nat) (num s : Int), SJ h half keys ct dt p q num s → s + n ≤ 19 → h.1.2.2.2.2.2.1 + n < 1000000 →
 ∃ (h' : Ob) (sent' : List Sd) (p' : Nat), Wa (fun _ s x => HG v s x) 0 (h, sent) (yp n (0 : Int)) = .inl (h', sent') ∧ SJ h' half keys ct dt p' q num (s + n) ∧ (p' = 0 ∨ n = 0 ∧ p' = p) ∧ h'.1.2.1.2.1 = h.1.2.1.2.1 ∧ h'.1.2.2.2.2.2.1 = h.1.2.2.2.2.2.1 + n
 | 0, h, sent, p, q, num, s, hI, _, _ => ⟨h, sent, p, rfl, by rw [show s + ((0 : Nat) : Int) = s by omega]; exact hI, Or.inr ⟨rfl, rfl⟩, rfl, by omega⟩
 | n + 1, h, sent, p, q, num, s, hI, hs, hT => by
  have hrs := hI.rs
  have hr : EH h v [1] = Lg num q (s + 1) := by
   rw [Wag hI.rc hI.rs, Ba (by omega)]
   rfl
  obtain ⟨b', o, e1, e2, hI', hb1, hdt, hT'⟩ := YT (p' := 0) (q' := q) (far := v) (noise := [1]) (num' := num) (s' := s + 1) hI (zt half) hv hI.qk (.inr rfl) hr hI.rn (by omega) (by omega)
  obtain ⟨h', sent', p2, f1, f2, f3, f4, f5⟩ := Pac hv n (b', Lg num q (s + 1), yn (h.2.2.1 + 1) 256, ()) (sent ++ o) 0 q num (s + 1) hI' (by omega) (by show b'.2.2.2.2.2.1 + (n : Int) < _; omega)
  refine ⟨h', sent', p2, ?_, by rw [show s + ((n + 1 : Nat) : Int) = s + 1 + (n : Int) by omega]; exact f2, ?_, f4.trans hdt, ?_⟩
  ·have hg : HG v (h, sent) 0 = .inl ((b', Lg num q (s + 1), yn (h.2.2.1 + 1) 256, ()), sent ++ o) := by
    unfold HG
    simp only
    rw [show Ew h 0 v [1] = _ from e2]
    rfl
   rw [List.replicate_succ]
   simp only [Wa]
   rw [hg]
   show Wa (fun _ s x => HG v s x) (0 + 1) ((b', Lg num q (s + 1), yn (h.2.2.1 + 1) 256, ()), sent ++ o) (yp n (0 : Int)) = _
   rw [Rl (HG v) (yp n (0 : Int)) (0 + 1) 0]
   exact f1
  ·rcases f3 with f3 | ⟨_, f3⟩ <;> exact .inl f3
  ·have h5 : h'.1.2.2.2.2.2.1 = b'.2.2.2.2.2.1 + (n : Int) := f5
   omega
theorem Qac {half keys ct dt dT T0 : Nat} {v : Int} (hv : v = ((v.toNat : Nat) : Int) ∧ v.toNat < 2 ^ half) (h1 : 1 ≤ dT) (hT0 : T0 ≤ 1000) : ∀ (n : Nat) (h : Ob) (sent : List Sd) (q j : Nat) (num s : Int), SJ h half keys ct dt 0 q num s → 19 ≤ s → KV h.1 (2 * half) keys ct dt 5 12 1 (0 ||| q <<< half) dT T0 j → j + n ≤ 91 →
 ∃ (h' : Ob) (sent' : List Sd) (p' : Nat), Wa (fun _ s x => HG v s x) 0 (h, sent) (yp n (0 : Int)) = .inl (h', sent') ∧ KV h'.1 (2 * half) keys ct dt 5 12 1 p' dT T0 (j + n) ∧ (h'.2.1.2.2.1 = 0 ∨ n = 0)
 | 0, h, sent, q, j, num, s, hI, _, hQ, _ => ⟨h, sent, _, rfl, hQ, .inr rfl⟩
 | n + 1, h, sent, q, j, num, s, hI, hs, hQ, hj => by
  have hrs := hI.rs
  have h3 := hI.h3
  have hd9 := hI.d9
  have hr : EH h v [1] = Lg (-1) ((0 : Nat) : Int) 20 := by
   rw [Wag hI.rc hI.rs, Aa (by omega)]
   rfl
  have htm := hQ.tm
  obtain ⟨b', o, e1, e2, hI', hb1, hdt, hT'⟩ := YT (p' := 0) (q' := 0) (far := v) (noise := [1]) (num' := -1) (s' := 20) hI (zt half) hv (zt half) (.inl (by rw [ZG]; omega)) hr ⟨by omega, by omega⟩ ⟨by omega, by omega⟩ (by omega)
  have hz : ((0 ||| 0 <<< half : Nat) : Int) = 0 := by simp
  rw [hz] at e1
  have hham : Pe 32 (0 ||| q <<< half) 0 ≤ 5 := by
   have := N9 (show half ≤ 12 by omega) (zt half) (zt half) hI.qk (zt half)
   rw [ZG] at this
   have e0 : (0 ||| 0 <<< half : Nat) = 0 := by simp
   rw [e0] at this
   omega
  obtain ⟨b2, o2, e3, hQ2, _⟩ := Bal (δ := 0) hQ (.inr hI.sh) (hI.msk 0 (zt _)) (by omega) (by omega) (by omega) (by omega) (by omega) h1
  rw [e1] at e3
  simp only [jh] at e3
  obtain ⟨eb, _, _⟩ := e3
  subst eb
  obtain ⟨h', sent', p2, f1, f2, f3⟩ := Qac hv h1 hT0 n (b', Lg (-1) ((0 : Nat) : Int) 20, yn (h.2.2.1 + 1) 256, ()) (sent ++ o) 0 (j + 1) (-1) 20 hI' (by omega) (by
   have e0 : (0 ||| 0 <<< half : Nat) = 0 := by simp
   rw [e0]; exact hQ2) (by omega)
  refine ⟨h', sent', p2, ?_, by rw [show j + (n + 1) = j + 1 + n by omega]; exact f2, ?_⟩
  ·have hg : HG v (h, sent) 0 = .inl ((b', Lg (-1) ((0 : Nat) : Int) 20, yn (h.2.2.1 + 1) 256, ()), sent ++ o) := by
    unfold HG
    simp only
    rw [show Ew h 0 v [1] = _ from e2]
    rfl
   rw [List.replicate_succ]
   simp only [Wa]
   rw [hg]
   show Wa (fun _ s x => HG v s x) (0 + 1) ((b', Lg (-1) ((0 : Nat) : Int) 20, yn (h.2.2.1 + 1) 256, ()), sent ++ o) (yp n (0 : Int)) = _
   rw [Rl (HG v) (yp n (0 : Int)) (0 + 1) 0]
   exact f1
  ·rcases f3 with f3 | f3
   ·exact .inl f3
   ·subst f3
    rw [List.replicate_zero] at f1
    simp only [Wa, zk, jh] at f1
    left
    rw [← f1.1]
    rfl
theorem Tab {kc v : Nat} : ∀ (l : List Int) (p : Nat), NK kc v p l → Q8 kc l
 | [], p, _ => fun x hx => by simp at hx
 | y :: l, p, h => fun x hx => by
  obtain ⟨p', e, h1, _, h3⟩ := h
  rcases jp.1 hx with rfl | hx
  ·exact ⟨p', e, h1⟩
  ·exact Tab l p' h3 x hx
theorem G7 (a : List Int) (ha : a.length ≤ Ga) : ∃ (b : Vb) (near far : List Int) (half keys ct dt dT : Nat), Xy a = some ((b, Lg (-1) 0 0, (0 : Int), ()), near, far, ()) ∧ P3 b half keys ct dt dT ∧ near.length ≤ 24 ∧ far.length = near.length ∧ NK half 2 0 near ∧ Q8 half far := by
 obtain ⟨c, e0, hc⟩ := Dau a 17 ha
 obtain ⟨c1, b, half, keys, ct, dt, dT, e1, hc1, hB⟩ := Wan hc
 have h1 := hB.h1
 have h3 := hB.h3
 obtain ⟨c2, near, e2, hc2, n1, n2⟩ := Z2 hc1 (kc := half) (most := 24) (by omega) (by omega)
 obtain ⟨c3, xs, e3, hc3, x1, x2⟩ := Z2 hc2 (kc := half) (most := 24) (by omega) (by omega)
 have e2' : Ll c1 (half : Int) 24 = some (c2, (near, ())) := e2
 have e3' : Ll c2 (half : Int) 24 = some (c3, (xs, ())) := e3
 have hxs := Tab xs 0 x2
 have hk : Kj (b, Lg (-1) 0 0, (0 : Int), ()).1.1 = (half : Int) := hB.hk
 have hl := Kg (step := fun x : ((Unit × (Unit × ((List Int) × ((List Int) × ((List Int) × (Int × Unit)))))) × (Ob × (Ob × Unit))) => Mp x.1.1 x.1.2.1 x.1.2.2.1 x.1.2.2.2.1 x.1.2.2.2.2.1 x.1.2.2.2.2.2.1 x.2.1 x.2.2.1) near (fun k (s : List Int) _ => jf s [xs.getD k 0])
  (fun s i => (((), (), near, s, xs, i, ()), (MI, (b, Lg (-1) 0 0, (0 : Int), ()), ()))) (fun s => .inl (((), (), near, s, ()), (MI, (b, Lg (-1) 0 0, (0 : Int), ()), ()))) (fun k s => s.length = k ∧ Q8 half s) (by
   rintro k hk s ⟨hs1, hs2⟩
   have hlim : ∀ x : Int, jx (ja s + ja ([x] : List Int)) Xa = true := fun x => Ng (by simp only [jw, qb]; omega)
   refine ⟨?_, by simp [hs1], fun y hy => ?_⟩
   ·simp only [Mp]
    rw [Aa (show (k : Int) < ((ja near : Nat) : Int) by omega)]
    by_cases hkx : k < xs.length
    ·rw [Aa (show (k : Int) < ((ja xs : Nat) : Int) by omega), Mm, Aa hkx, jn, je hkx, qj, je hkx]
     simp only [zz, jb, hlim]
     rfl
    ·have hgd : xs.getD k 0 = 0 := by rw [qj, ya (by omega)]; rfl
     rw [Ba (show ¬ (k : Int) < ((ja xs : Nat) : Int) by omega), hgd]
     simp only [zz, ua, hlim]
   ·rcases jl.1 (show y ∈ s ++ [xs.getD k 0] from hy) with hy | hy
    ·exact hs2 y hy
    ·rw [qg.1 hy, qj]
     by_cases hkx : k < xs.length
     ·rw [je hkx]
      exact hxs _ (qt hkx)
     ·rw [ya (by omega)]
      exact ⟨0, rfl, zt half⟩) (by
   intro s _
   simp only [Mp]
   rw [Ba (by omega)]; rfl) (by omega) [] ⟨rfl, fun x hx => by simp at hx⟩
 obtain ⟨hl1, hl2, hl3⟩ := hl
 unfold Xy
 rw [e0]
 simp only [jb, e1, AM, hk, e2', e3']
 unfold Rr
 erw [hl1]
 exact ⟨b, near, _, half, keys, ct, dt, dT, rfl, hB, n1, hl2, n2, hl3⟩
theorem DT (k : Int) : ∀ (l r : List Int), r.length = l.length → (Wx k l r).length = l.length
 | [], [], _ => rfl
 | x :: l, [], h => by simp at h
 | [], y :: r, h => by simp at h
 | x :: l, y :: r, h => by
  simp only [jw] at h
  show (Wx k l r).length + 1 = l.length + 1
  rw [DT k l r (by omega)]
theorem O5 (k : Int) : ∀ (l r : List Int) (i : Nat) (hi : i < l.length) (hj : i < r.length), (Wx k l r)[i]? = some (Lc .i64 l[i] (Ma .i64 r[i] k))
 | x :: l, y :: r, 0, _, _ => rfl
 | x :: l, y :: r, i + 1, hi, hj => by
  simp only [jw] at hi hj
  exact O5 k l r i (by omega) (by omega)
 | [], _, i, hi, _ => by simp at hi
 | x :: l, [], i, _, hj => by simp at hj
theorem Mam {near far : List Int} {half : Nat} {h : Ob} (hl : far.length = near.length) (hn : near.length ≤ 1000) :
 Rn (((), near, far, (half : Int), ([] : List Int), (0 : Int), ()), (h, ())) = some (.inl (((), near, far, (half : Int), Wx (half : Int) near far, ()), (h, ()))) := by
 have hbl := DT (half : Int) near far hl
 unfold Rn
 refine (GN (fun k => (((), near, far, (half : Int), (Wx (half : Int) near far).take k, (k : Int), ()), (h, ()))) near.length _ (fun k hk => ?_) ?_)
 ·simp only [EC]
  rw [Aa (show (k : Int) < ((ja near : Nat) : Int) by omega), Mm, Mm, Aa hk, Aa (show k < far.length by omega), jn, je hk, je (show k < far.length by omega), Aa (show (0 : Int) ≤ (half : Int) by omega)]
  simp only [zz, jb]
  rw [Ng (by rw [List.length_take]; simp only [jw, qb]; omega), Ag (by omega)]
  have hg := O5 (half : Int) near far k hk (by omega)
  have e : jf ((Wx (half : Int) near far).take k) [Lc .i64 near[k] (Ma .i64 far[k] (half : Int))] = (Wx (half : Int) near far).take (k + 1) := by
   rw [zv, List.take_add_one, hg]
   rfl
  rw [e]
  rfl
 ·simp only [EC]
  rw [Ba (by omega)]
  simp only [ua]
  rw [List.take_of_length_le (by omega)]
theorem Yap {half : Nat} {h : Ob} (hh : half ≤ 12) :
 Nm (((half : Int), (), yp 80 (0 : Int), yp 80 (0 : Int), ([] : List (List Int)), (0 : Int), ()), (h, ())) = some (.inl (((), yp 80 (0 : Int), yp 80 ((2 ^ half - 1 : Nat) : Int), yp 80 ([1] : List Int), ()), (h, ()))) := by
 have p12 : 2 ^ half ≤ 2 ^ 12 := qo (by omega) hh
 have p0 := zt half
 unfold Nm
 refine (GN (fun k => (((half : Int), (), yp 80 (0 : Int), yp k ((2 ^ half - 1 : Nat) : Int) ++ yp (80 - k) (0 : Int), yp k ([1] : List Int), (k : Int), ()), (h, ()))) 80 _ (fun k hk => ?_) ?_)
 ·simp only [BA]
  have hlen : (yp k ((2 ^ half - 1 : Nat) : Int) ++ yp (80 - k) (0 : Int)).length = 80 := by simp; omega
  rw [hlen, Aa (show (k : Int) < ((80 : Nat) : Int) by omega), Aa (show (0 : Int) ≤ (half : Int) by omega), Mm, Aa hk, jn, je (by rw [hlen]; exact hk)]
  simp only [zz, jb]
  rw [Ng (by simp; omega), Ag (by omega), Ve (by omega), Qc (by omega) (by omega)]
  have e1 : (yp k ((2 ^ half - 1 : Nat) : Int) ++ yp (80 - k) (0 : Int)).set k (((2 ^ half : Nat) : Int) - 1) = yp (k + 1) ((2 ^ half - 1 : Nat) : Int) ++ yp (80 - (k + 1)) (0 : Int) := by
   rw [List.set_append_right _ _ (by simp), List.length_replicate, Nat.sub_self, show 80 - k = (80 - (k + 1)) + 1 by omega, List.replicate_succ (n := 80 - (k + 1)), List.set_cons_zero, List.replicate_succ' (n := k), yh]
   have : ((2 ^ half : Nat) : Int) - 1 = ((2 ^ half - 1 : Nat) : Int) := by omega
   rw [this]
   rfl
  have e2 : jf (yp k ([1] : List Int)) [[1]] = yp (k + 1) ([1] : List Int) := by rw [zv, List.replicate_succ']
  rw [e1, e2]
  rfl
 ·simp only [BA]
  have hlen : (yp 80 ((2 ^ half - 1 : Nat) : Int) ++ yp (80 - 80) (0 : Int)).length = 80 := by simp
  rw [hlen, Ba (by omega)]
  simp only [ua]
  rw [show (80 - 80 : Nat) = 0 from rfl, List.replicate_zero, List.append_nil]
structure EaM (b : Vb) (near far : List Int) (half : Nat) (x : Ob) (s : List Sd) (y : Ob) : Prop where
 run : Hl (b, Lg (-1) 0 0, (0 : Int), ()) near far [] = some (x, s, true, ())
 brd : Fw b (Wx (half : Int) near far) = some (x.1, s, true, ())
 same : Mw s s = some (true, ())
 sameD : Wo x.1.2.2.2.1 x.1.2.2.2.1 = some (true, ())
 quiet : ∃ s2, Hl x (yp 80 (0 : Int)) (yp 80 ((2 ^ half - 1 : Nat) : Int)) (yp 80 ([1] : List Int)) = some (y, s2, true, ())
 mask : y.2.1.2.2.1 = 0
 sh : y.1.2.1.2.2.2.1 = 0
 hd : y.1.2.2.2.1.1.2.2.2.1 = []
 dq : y.1.2.2.2.1.2.2.1 = []
theorem Saa {b : Vb} {near far : List Int} {half keys ct dt dT : Nat} (hB : P3 b half keys ct dt dT) (hn : near.length ≤ 24) (hf : far.length = near.length) (hN : NK half 2 0 near) (hA : Q8 half far) :
 ∃ (x : Ob) (s : List Sd) (y : Ob), EaM b near far half x s y := by
 have h20 : Ga = 1048576 := rfl
 have h1 := hB.h1
 have h3 := hB.h3
 have hc3 := hB.c3
 have hd9 := hB.nb.d9
 have hd2 := hB.d2
 have hsz := P9 hB.nb.p (by have := hB.nb.cl; omega)
 have hI0 : SJ (b, Lg (-1) 0 0, (0 : Int), ()) half keys ct dt 0 0 (-1) 0 := by
  refine ⟨⟨0, ?_⟩, hB.sh, h1, h3, hB.hk, hd9, hB.nb.msk, zt half, zt half, rfl, ⟨by omega, by omega⟩, ⟨by omega, by omega⟩, ⟨za _, by show (0 : Int) ≤ 255; omega⟩⟩
  have e0 : (0 ||| 0 <<< half : Nat) = 0 := by simp
  rw [e0]
  exact hB.nb.p
 have hbz : Jc Af b ≤ 200000 := by
  rw [M9, Can]
  have a1 := RT hB.nb.p.i.dc.i.pl.eng
  have a2 := ED hB.nb.p.i.db
  have a3 := a2.len
  have a4 := a2.k2
  obtain ⟨D0, m0, hC0, _, _⟩ := hB.nb.p.i.cb
  rw [Bw, An, Xad, hB.nb.dq, hB.nb.cq]
  have a5 := hB.nb.cl
  have a6 := TV (A1 hB.nb.p.i.kc2 hC0)
  have a7 : b.2.2.1.2.2.2.2.2.2.1.length ≤ 32 := a6
  simp only [qb]
  omega
 have hOk0 : NI (b, Lg (-1) 0 0, (0 : Int), ()) := ⟨hsz, fun x hx => by simp [Lg] at hx⟩
 obtain ⟨x, s, p, q, e1, e2, hI, hnum, hT, hdT, hmat⟩ := Raa near far 0 0 0 (b, Lg (-1) 0 0, (0 : Int), ()) [] rfl hf (by omega) (by rw [show ((0 : Nat) : Int) - 1 = -1 by omega]; exact hI0) rfl hB.nb.tm hN hA
 rw [js] at hI hnum hT
 have hfr := Z5 near 0 ((b, Lg (-1) 0 0, (0 : Int), ()), []) (x, s) ⟨hOk0, by simp, by simp⟩ (by rw [F6, Jaq]; show Jc Af b + 0 ≤ _; omega) e1
 have hInv := hfr.1
 have hslen : s.length ≤ 1088 * 24 := by
  have a1 := hInv.len
  have a2 : s.length ≤ 1088 * (0 + near.length) := a1
  omega
 obtain ⟨g, hP⟩ := hI.ex
 have p8 : 2 ^ half ≤ 2 ^ 3 := qo (by omega) h3
 have p0 := zt half
 have hv : ((2 ^ half - 1 : Nat) : Int) = (((((2 ^ half - 1 : Nat) : Int)).toNat : Nat) : Int) ∧ (((2 ^ half - 1 : Nat) : Int)).toNat < 2 ^ half := by
  rw [jn]
  exact ⟨rfl, by omega⟩
 obtain ⟨x1, s1, p1, f1, hI1, hp1, hdT1, hT1⟩ := Pac (v := ((2 ^ half - 1 : Nat) : Int)) hv 19 x [] p q (((near.length : Nat) : Int) - 1) 0 hI (by omega) (by omega)
 have hp10 : p1 = 0 := by rcases hp1 with h | ⟨h, _⟩ <;> first | exact h | omega
 subst hp10
 obtain ⟨g1, hP1⟩ := hI1.ex
 have hq0 := Cal (T0 := near.length + 19) (dT := dT) hP1 (by rw [hdT1, hdT]; exact hB.nb.hdT) (by rw [hT1, hT]; omega)
 obtain ⟨y, s2, p2, f2, hQ, hm⟩ := Qac (v := ((2 ^ half - 1 : Nat) : Int)) hv hB.nb.dT1 (by omega) 61 x1 s1 q 0 _ _ hI1 (by omega) hq0 (by omega)
 obtain ⟨q1, q2, q3, q4, q5, q6⟩ := Gaq hQ hB.nb.dT1 (by omega)
 refine ⟨x, s, y, ?_, ?_, T7 s (by omega) hInv.rep, Lac hP.i.dc.i, ⟨s2, ?_⟩, ?_, q1, q6, q3⟩
 ·rw [AU _ _ _ _ hOk0 (by simp)]
  unfold Gal
  rw [GR hI0, hf, Ba (show ¬ ((ja near : Nat) : Int) > 200 by omega), e1]
  simp
 ·rw [Dad b _ hsz]
  unfold Cav
  have e2' : Wa (fun _ s x => NO s x) 0 (b, []) (Wx (half : Int) near far) = .inl (x.1, s) := e2
  rw [OM hB.nb.p.i, DT _ _ _ hf, Ba (show ¬ ((ja near : Nat) : Int) > 200 by omega), e2']
  rfl
 ·rw [AU _ _ _ _ hInv.ok (by simp [Ga])]
  unfold Gal
  have e3 : Wa (fun k s x => CL (yp 80 ((2 ^ half - 1 : Nat) : Int)) (yp 80 [1]) k s x) 0 (x, []) (yp 80 (0 : Int)) = .inl (y, s2) := by
   rw [Jae _ 80 (yp 80 (0 : Int)) 0 (x, []) (by simp)]
   rw [show yp 80 (0 : Int) = yp 19 (0 : Int) ++ yp 61 (0 : Int) from by rw [List.replicate_append_replicate]]
   rw [TH (fun _ s x => HG ((2 ^ half - 1 : Nat) : Int) s x), f1]
   show Wa (fun _ s x => HG ((2 ^ half - 1 : Nat) : Int) s x) (0 + (yp 19 (0 : Int)).length) (x1, s1) (yp 61 (0 : Int)) = _
   rw [Rl (HG ((2 ^ half - 1 : Nat) : Int)) (yp 61 (0 : Int)) _ 0]
   exact f2
  rw [GR hI, e3]
  simp
 ·rcases hm with hm | hm
  ·exact hm
  ·omega
theorem Nab (a : List Int) : MD a = some (true, ()) := by
 have h20 : Ga = 1048576 := rfl
 have hlim := Tf
 unfold MD
 by_cases hl : a.length ≤ Ga
 case neg => rw [Qas hl]; rfl
 obtain ⟨b, near, far, half, keys, ct, dt, dT, e0, hB, hn, hf, hN, hA⟩ := G7 a hl
 obtain ⟨x, s, y, hp⟩ := Saa hB hn hf hN hA
 obtain ⟨s2, e2⟩ := hp.quiet
 have h1 := hB.h1
 have h3 := hB.h3
 have hk : Kj (b, Lg (-1) 0 0, (0 : Int), ()).1.1 = (half : Int) := hB.hk
 rw [Kam hl, e0]
 simp only [jb, ua, DE, hk]
 rw [Mam hf (by omega)]
 simp only [jb, qm]
 erw [hp.run]
 simp only [jb]
 erw [hp.brd]
 simp only [jb, jg, ua]
 rw [Ba (show ¬ (half : Int) < 1 by omega), hp.same]
 simp only [jb, jg, ua]
 rw [hp.sameD]
 simp only [jb, jg, ua, bne_self_eq_false]
 rw [show (((80 : Int) == (80 : Int)) && (decide ((0 : Int) ≤ (80 : Int)) && decide ((80 : Int) ≤ ((Xa : Nat) : Int)))) = true by rw [Aa (show (80 : Int) ≤ ((Xa : Nat) : Int) by omega)]; rfl]
 simp only [zz]
 rw [show yp (jy (80 : Int)) (0 : Int) = yp 80 (0 : Int) from rfl, Yap (by omega)]
 simp only [jb, qm]
 erw [e2]
 simp only [jb, zz]
 rw [hp.mask, hp.sh, hp.hd, hp.dq]
 rfl
end KF
