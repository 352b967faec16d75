/- An evaluator of Go functions on plain data, its soundness, and plain laws on what the functions compute, part 5 (conditions: as each lemma tells). -/
import Derived.Test.YtoncbegnhhcgmaaGreatD
set_option linter.unusedSimpArgs false
set_option linter.unusedVariables false
namespace KF
open Go
open List renaming length → ja, getElem?_eq_getElem → je, append → jf, mem_append → jl, mem_cons → jp, mem_cons_of_mem → jr, length_cons → jw, set → j6, length_nil → j8, length_set → j9, mem_singleton → qe, length_append → qf, getElem?_append_left → qh, getElem?_append_right → qi, getD_eq_getElem?_getD → qj, getElem_mem → qt, mem_of_mem_drop → qu, getElem_of_mem → qv, mem_map → qw, getElem?_set_self → qx, length_drop → qy, mem_cons_self → q0
open Option renaming bind_some → jb, bind → jz, map_some → qd, bind_eq_some_iff → qg
open Option.some renaming injEq → jc
open Bool renaming and_eq_true → jd, not_true → jg, true_and → jk, false_eq_true → jq, not_false → qa, not_eq_true → qb, false_and → qq, and_self → qr, eq_iff_iff → qz
open Prod.mk renaming injEq → jh
open Nat renaming ble_eq_true_of_le → ji, mul_le_mul_right → jm, le_refl → jo, zero_add → js, add_assoc → jt, eq_of_beq_eq_true → ju, ble → jx, le_trans → qc, shiftLeft_eq → qk, lt_of_lt_of_le → qm, pow_le_pow_right → qn, testBit_xor → qo, testBit_two_pow → qp, xor_lt_two_pow → qs
open Int renaming toNat_natCast → jn, eq_ofNat_of_zero_le → jv, toNat → jy
open Go.IntKind renaming wrap → j5
open Sum renaming elim → j7, elim_inl → ql
open Result renaming andThen_ok → q5
open Sem renaming run_bind → q6
theorem Jac (a : (List Int)) (hz : Ha (.sl Tf) a ≤ Ea) : Kw a = some (a, ()) := by
 have h20 : Ea = 1048576 := rfl
 have hz' : ja a + (List.map (Ha Tf) a).sum ≤ Ea := hz
 have hl := X1 (step := fun x : (((List Int) × ((List Int) × (Int × Unit))) × Unit) => Sy x.1.1 x.1.2.1 x.1.2.2.1) a (zT Tf) (fun o i => ((a, o, i, ()), ())) (fun o => .inl ((o, ()), ())) (by
  intro k hk o ho
  simp only [Sy]
  rw [Ba (show (k : Int) < (ja a : Int) by omega), Cb hk]
  simp only [cond_true, jb]
  rw [Ag, Ba (show k < ja o by omega)]
  simp [je (show k < ja o by omega)]) (by
  intro o
  simp [Sy]) (by omega)
 unfold Kw PB
 rw [Oad (by rw [Rd]; omega)]
 simp only [cond_true]
 rw [show jy ((ja a : Nat) : Int) = ja a by simp]
 erw [hl]
 rfl
theorem Maa (a : (List Int)) (hz : Ha (.sl Tf) a ≤ Sc) : Gw a a = some (true, ()) := by
 have h40 : Sc = 1099511627776 := rfl
 have hz' : ja a + (List.map (Ha Tf) a).sum ≤ Sc := hz
 have hl := Gx (step := fun x : (((List Int) × ((List Int) × (Int × Unit))) × Unit) => Ny x.1.1 x.1.2.1 x.1.2.2.1) (fun k => ((a, a, (k : Int), ()), ())) (ja a) (.inl ((), ())) (by
  intro k hk
  simp only [Ny]
  rw [Ba (show (k : Int) < (ja a : Int) by omega), Cb hk]
  simp only [cond_true, jb]
  rw [bne_self_eq_false']
  simp only [cond_false]
  rw [Kc (by omega)]) (by
  simp [Ny])
 unfold Gw OB
 rw [bne_self_eq_false']
 simp only [cond_false]
 erw [hl]
 rfl
theorem Iam (a : (List (List Int))) (hz : Ha (.sl (.sl Tf)) a ≤ Sc) : EK a a = some (true, ()) := F6 (e := (.sl Tf)) (f := Gw) (F := EK) a hz Maa rfl
theorem BaE (a : (List Int)) (hr : Oj (.sl int) a) (l : Nat) (hl : l ≤ Ea) : HR a (l : Int) = some (AE (Ha (.sl int) a) l, ()) := W3 (e := int) (F := HR) a hr l hl rfl rfl
theorem X3 (a : (List Int)) (hz : Ha (.sl int) a ≤ Ea) : Fi a = some (a, ()) := by
 have h20 : Ea = 1048576 := rfl
 have hz' : ja a + (List.map (Ha int) a).sum ≤ Ea := hz
 have hl := X1 (step := fun x : (((List Int) × ((List Int) × (Int × Unit))) × Unit) => DD x.1.1 x.1.2.1 x.1.2.2.1) a (zT int) (fun o i => ((a, o, i, ()), ())) (fun o => .inl ((o, ()), ())) (by
  intro k hk o ho
  simp only [DD]
  rw [Ba (show (k : Int) < (ja a : Int) by omega), Cb hk]
  simp only [cond_true, jb]
  rw [Ag, Ba (show k < ja o by omega)]
  simp [je (show k < ja o by omega)]) (by
  intro o
  simp [DD]) (by omega)
 unfold Fi JF
 rw [Oad (by rw [Rd]; omega)]
 simp only [cond_true]
 rw [show jy ((ja a : Nat) : Int) = ja a by simp]
 erw [hl]
 rfl
theorem RV (a : (List Int)) (hz : Ha (.sl int) a ≤ Sc) : Ot a a = some (true, ()) := by
 have h40 : Sc = 1099511627776 := rfl
 have hz' : ja a + (List.map (Ha int) a).sum ≤ Sc := hz
 have hl := Gx (step := fun x : (((List Int) × ((List Int) × (Int × Unit))) × Unit) => RC x.1.1 x.1.2.1 x.1.2.2.1) (fun k => ((a, a, (k : Int), ()), ())) (ja a) (.inl ((), ())) (by
  intro k hk
  simp only [RC]
  rw [Ba (show (k : Int) < (ja a : Int) by omega), Cb hk]
  simp only [cond_true, jb]
  rw [bne_self_eq_false']
  simp only [cond_false]
  rw [Kc (by omega)]) (by
  simp [RC])
 unfold Ot CF
 rw [bne_self_eq_false']
 simp only [cond_false]
 erw [hl]
 rfl
theorem Nam (a : Ka) (hz : Ha Hc a ≤ Sc) : JK a a = some (true, ()) := by
 unfold JK
 have hs : Ha Hc a = Ha (.sl int) a.2.1 := by simp only [Ha, Nat.add_zero, js, jt]
 simp only [bne_self_eq_false', cond_false, jg, jb, RV a.2.1 (by omega)]
theorem LaB (a : Qe) (hz : Ha Oi a ≤ Sc) : CJ a a = some (true, ()) := by
 unfold CJ
 have hs : Ha Oi a = Ha Hc a.2.1 := by simp only [Ha, Nat.add_zero, js, jt]
 simp only [bne_self_eq_false', cond_false, jg, jb, Nam a.2.1 (by omega)]
theorem Gay (a : (List Qe)) (hz : Ha (.sl Oi) a ≤ Sc) : Hw a a = some (true, ()) := F6 (e := Oi) (f := CJ) (F := Hw) a hz LaB rfl
theorem Tal (a : (List Db)) (hr : Oj (.sl Ub) a) (l : Nat) (hl : l ≤ Ea) : Iw a (l : Int) = some (AE (Ha (.sl Ub) a) l, ()) := W3 (e := Ub) (F := Iw) a hr l hl rfl rfl
theorem Sag (a : (List (List Db))) (hr : Oj (.sl (.sl Ub)) a) (l : Nat) (hl : l ≤ Ea) : ZC a (l : Int) = some (AE (Ha (.sl (.sl Ub)) a) l, ()) := szS (e := (.sl Ub)) (f := Iw) (F := ZC) a hr l hl Tal rfl
theorem Gan (a : Ac) (hr : Oj Dc a) (l : Nat) (hl : l ≤ Ea) : RK a (l : Int) = some (AE (Ha Dc a) l, ()) := by
 unfold RK
 have hs : Ha Dc a = Ha (.sl (.sl Ub)) a.2.1 := by simp only [Ha, Nat.add_zero, js, jt]
 rw [Sag a.2.1 hr.2.1 (l) (by omega)]
 simp only [jb]
 by_cases h0 : Ha (.sl (.sl Ub)) a.2.1 ≤ l
 case neg => rw [Df h0, Df (by omega)]; rfl
 rw [Sg h0, Aa (by omega)]
 simp only [cond_false]
 rw [Sg (by omega), hs]
 try simp only [Nat.sub_sub, jt]
theorem X6 (a : Db) (hz : Ha Ub a ≤ Ea) : Zq a = some (a, ()) := by
 unfold Zq
 rfl
theorem Zal (a : (List Db)) (hz : Ha (.sl Ub) a ≤ Ea) : EH a = some (a, ()) := toS (e := Ub) _ _ (f := Zq) a hz X6 rfl
theorem Vag (a : (List (List Db))) (hz : Ha (.sl (.sl Ub)) a ≤ Ea) : JO a = some (a, ()) := toS (e := (.sl Ub)) _ _ (f := EH) a hz Zal rfl
theorem Nan (a : Ac) (hz : Ha Dc a ≤ Ea) : VK a = some (a, ()) := by
 unfold VK
 have hs : Ha Dc a = Ha (.sl (.sl Ub)) a.2.1 := by simp only [Ha, Nat.add_zero, js, jt]
 rw [Vag a.2.1 (by omega)]
 simp only [jb]
theorem C6 (a : Db) (hz : Ha Ub a ≤ Sc) : Xq a a = some (true, ()) := by
 unfold Xq
 have hs : Ha Ub a = 0 := by simp only [Ha, Nat.add_zero, js, jt]
 simp only [bne_self_eq_false', cond_false, jg, jb]
theorem Kaj (a : (List Db)) (hz : Ha (.sl Ub) a ≤ Sc) : Fw a a = some (true, ()) := F6 (e := Ub) (f := Xq) (F := Fw) a hz C6 rfl
theorem Saf (a : (List (List Db))) (hz : Ha (.sl (.sl Ub)) a ≤ Sc) : PC a a = some (true, ()) := F6 (e := (.sl Ub)) (f := Fw) (F := PC) a hz Kaj rfl
theorem Lam (a : Ac) (hz : Ha Dc a ≤ Sc) : HK a a = some (true, ()) := by
 unfold HK
 have hs : Ha Dc a = Ha (.sl (.sl Ub)) a.2.1 := by simp only [Ha, Nat.add_zero, js, jt]
 simp only [bne_self_eq_false', cond_false, jg, jb, Saf a.2.1 (by omega)]
theorem Oan (a : Ca) (hz : Ha Ab a ≤ Ea) : WK a = some (a, ()) := by
 unfold WK
 rfl
theorem Pam (a : Ad) (hz : Ha Mc a ≤ Sc) : LK a a = some (true, ()) := by
 unfold LK
 have hs : Ha Mc a = 0 := by simp only [Ha, Nat.add_zero, js, jt]
 simp only [bne_self_eq_false', cond_false, jg, jb]
theorem Iac (a : (List Int)) (hr : Oj (.sl Tf) a) (l : Nat) (hl : l ≤ Ea) : Jw a (l : Int) = some (AE (Ha (.sl Tf) a) l, ()) := W3 (e := Tf) (F := Jw) a hr l hl rfl rfl
theorem Can (a : (List (List Int))) (hr : Oj (.sl (.sl Tf)) a) (l : Nat) (hl : l ≤ Ea) : NK a (l : Int) = some (AE (Ha (.sl (.sl Tf)) a) l, ()) := szS (e := (.sl Tf)) (f := Jw) (F := NK) a hr l hl Iac rfl
theorem Jan (a : (List (List Int))) (hz : Ha (.sl (.sl Tf)) a ≤ Ea) : Ar a = some (a, ()) := toS (e := (.sl Tf)) _ _ (f := Kw) a hz Jac rfl
theorem Qan (a : Ad) (hz : Ha Mc a ≤ Ea) : XK a = some (a, ()) := by
 unfold XK
 rfl
theorem Eay (a : Ca) (hz : Ha Ab a ≤ Sc) : BF a a = some (true, ()) := by
 unfold BF
 have hs : Ha Ab a = 0 := by simp only [Ha, Nat.add_zero, js, jt]
 simp only [bne_self_eq_false', cond_false, jg, jb]
theorem D6 (a : (List Ca)) (hz : Ha (.sl Ab) a ≤ Sc) : IA a a = some (true, ()) := F6 (e := Ab) (f := BF) (F := IA) a hz Eay rfl
theorem Kae (a : Qb) (hr : Oj Nb a) (l : Nat) (hl : l ≤ Ea) : Ry a (l : Int) = some (AE (Ha Nb a) l, ()) := by
 unfold Ry
 have hs : Ha Nb a = Ha (.sl int) a.2.2.2.2.2.1 := by simp only [Ha, Nat.add_zero, js, jt]
 rw [BaE a.2.2.2.2.2.1 hr.2.2.2.2.2.1 (l) (by omega)]
 simp only [jb]
 by_cases h0 : Ha (.sl int) a.2.2.2.2.2.1 ≤ l
 case neg => rw [Df h0, Df (by omega)]; rfl
 rw [Sg h0, Aa (by omega)]
 simp only [cond_false]
 rw [Sg (by omega), hs]
 try simp only [Nat.sub_sub, jt]
theorem Dan (a : (List Va)) (hr : Oj (.sl Xb) a) (l : Nat) (hl : l ≤ Ea) : OK a (l : Int) = some (AE (Ha (.sl Xb) a) l, ()) := W3 (e := Xb) (F := OK) a hr l hl rfl rfl
theorem W6 (a : (List Ca)) (hr : Oj (.sl Ab) a) (l : Nat) (hl : l ≤ Ea) : JA a (l : Int) = some (AE (Ha (.sl Ab) a) l, ()) := W3 (e := Ab) (F := JA) a hr l hl rfl rfl
theorem Ual (a : (List Ca)) (hr : Oj (.sl Ab) a) (l : Nat) (hl : l ≤ Ea) : BH a (l : Int) = some (AE (Ha (.sl Ab) a) l, ()) := W3 (e := Ab) (F := BH) a hr l hl rfl rfl
theorem Tag (a : Pa) (hr : Oj Pb a) (l : Nat) (hl : l ≤ Ea) : AD a (l : Int) = some (AE (Ha Pb a) l, ()) := by
 unfold AD
 have hs : Ha Pb a = Ha (.sl Xb) a.1 + (Ha (.sl Ab) a.2.2.1 + (Ha (.sl Ab) a.2.2.2.2.2.2.1)) := by simp only [Ha, Nat.add_zero, js, jt]
 rw [Dan a.1 hr.1 (l) (by omega)]
 simp only [jb]
 by_cases h0 : Ha (.sl Xb) a.1 ≤ l
 case neg => rw [Df h0, Df (by omega)]; rfl
 rw [Sg h0, Aa (by omega)]
 simp only [cond_false]
 rw [W6 a.2.2.1 hr.2.2.1 (l - Ha (.sl Xb) a.1) (by omega)]
 simp only [jb]
 by_cases h1 : Ha (.sl Ab) a.2.2.1 ≤ l - Ha (.sl Xb) a.1
 case neg => rw [Df h1, Df (by omega)]; rfl
 rw [Sg h1, Aa (by omega)]
 simp only [cond_false]
 rw [Ual a.2.2.2.2.2.2.1 hr.2.2.2.2.2.2.1 (l - Ha (.sl Xb) a.1 - Ha (.sl Ab) a.2.2.1) (by omega)]
 simp only [jb]
 by_cases h2 : Ha (.sl Ab) a.2.2.2.2.2.2.1 ≤ l - Ha (.sl Xb) a.1 - Ha (.sl Ab) a.2.2.1
 case neg => rw [Df h2, Df (by omega)]; rfl
 rw [Sg h2, Aa (by omega)]
 simp only [cond_false]
 rw [Sg (by omega), hs]
 try simp only [Nat.sub_sub, jt]
theorem Vaz (a : (List Ad)) (hr : Oj (.sl Mc) a) (l : Nat) (hl : l ≤ Ea) : GF a (l : Int) = some (AE (Ha (.sl Mc) a) l, ()) := W3 (e := Mc) (F := GF) a hr l hl rfl rfl
theorem Han (a : (List (List Ad))) (hr : Oj (.sl (.sl Mc)) a) (l : Nat) (hl : l ≤ Ea) : SK a (l : Int) = some (AE (Ha (.sl (.sl Mc)) a) l, ()) := szS (e := (.sl Mc)) (f := GF) (F := SK) a hr l hl Vaz rfl
theorem Taz (a : (List Sa)) (hr : Oj (.sl Jf) a) (l : Nat) (hl : l ≤ Ea) : GO a (l : Int) = some (AE (Ha (.sl Jf) a) l, ()) := W3 (e := Jf) (F := GO) a hr l hl rfl rfl
theorem Ean (a : Jb) (hr : Oj Gc a) (l : Nat) (hl : l ≤ Ea) : PK a (l : Int) = some (AE (Ha Gc a) l, ()) := by
 unfold PK
 have hs : Ha Gc a = Ha Dc a.1 + (Ha (.sl (.sl Mc)) a.2.1 + (Ha (.sl Jf) a.2.2.2.1)) := by simp only [Ha, Nat.add_zero, js, jt]
 rw [Gan a.1 hr.1 (l) (by omega)]
 simp only [jb]
 by_cases h0 : Ha Dc a.1 ≤ l
 case neg => rw [Df h0, Df (by omega)]; rfl
 rw [Sg h0, Aa (by omega)]
 simp only [cond_false]
 rw [Han a.2.1 hr.2.1 (l - Ha Dc a.1) (by omega)]
 simp only [jb]
 by_cases h1 : Ha (.sl (.sl Mc)) a.2.1 ≤ l - Ha Dc a.1
 case neg => rw [Df h1, Df (by omega)]; rfl
 rw [Sg h1, Aa (by omega)]
 simp only [cond_false]
 rw [Taz a.2.2.2.1 hr.2.2.2.1 (l - Ha Dc a.1 - Ha (.sl (.sl Mc)) a.2.1) (by omega)]
 simp only [jb]
 by_cases h2 : Ha (.sl Jf) a.2.2.2.1 ≤ l - Ha Dc a.1 - Ha (.sl (.sl Mc)) a.2.1
 case neg => rw [Df h2, Df (by omega)]; rfl
 rw [Sg h2, Aa (by omega)]
 simp only [cond_false]
 rw [Sg (by omega), hs]
 try simp only [Nat.sub_sub, jt]
theorem Val (a : Ib) (hr : Oj Ic a) (l : Nat) (hl : l ≤ Ea) : DH a (l : Int) = some (AE (Ha Ic a) l, ()) := by
 unfold DH
 have hs : Ha Ic a = Ha Gc a.1 + (Ha (.sl Ab) a.2.2.1) := by simp only [Ha, Nat.add_zero, js, jt]
 rw [Ean a.1 hr.1 (l) (by omega)]
 simp only [jb]
 by_cases h0 : Ha Gc a.1 ≤ l
 case neg => rw [Df h0, Df (by omega)]; rfl
 rw [Sg h0, Aa (by omega)]
 simp only [cond_false]
 rw [W6 a.2.2.1 hr.2.2.1 (l - Ha Gc a.1) (by omega)]
 simp only [jb]
 by_cases h1 : Ha (.sl Ab) a.2.2.1 ≤ l - Ha Gc a.1
 case neg => rw [Df h1, Df (by omega)]; rfl
 rw [Sg h1, Aa (by omega)]
 simp only [cond_false]
 rw [Sg (by omega), hs]
 try simp only [Nat.sub_sub, jt]
theorem Saz (a : Fd) (hr : Oj Md a) (l : Nat) (hl : l ≤ Ea) : DO a (l : Int) = some (AE (Ha Md a) l, ()) := by
 unfold DO
 have hs : Ha Md a = Ha Nb a.2.1 + (Ha Pb a.2.2.1 + (Ha Ic a.2.2.2.1)) := by simp only [Ha, Nat.add_zero, js, jt]
 rw [Kae a.2.1 hr.2.1 (l) (by omega)]
 simp only [jb]
 by_cases h0 : Ha Nb a.2.1 ≤ l
 case neg => rw [Df h0, Df (by omega)]; rfl
 rw [Sg h0, Aa (by omega)]
 simp only [cond_false]
 rw [Tag a.2.2.1 hr.2.2.1 (l - Ha Nb a.2.1) (by omega)]
 simp only [jb]
 by_cases h1 : Ha Pb a.2.2.1 ≤ l - Ha Nb a.2.1
 case neg => rw [Df h1, Df (by omega)]; rfl
 rw [Sg h1, Aa (by omega)]
 simp only [cond_false]
 rw [Val a.2.2.2.1 hr.2.2.2.1 (l - Ha Nb a.2.1 - Ha Pb a.2.2.1) (by omega)]
 simp only [jb]
 by_cases h2 : Ha Ic a.2.2.2.1 ≤ l - Ha Nb a.2.1 - Ha Pb a.2.2.1
 case neg => rw [Df h2, Df (by omega)]; rfl
 rw [Sg h2, Aa (by omega)]
 simp only [cond_false]
 rw [Sg (by omega), hs]
 try simp only [Nat.sub_sub, jt]
theorem Uag (a : Sb) (hr : Oj Wc a) (l : Nat) (hl : l ≤ Ea) : BD a (l : Int) = some (AE (Ha Wc a) l, ()) := by
 unfold BD
 have hs : Ha Wc a = Ha (.sl Tf) a.1 := by simp only [Ha, Nat.add_zero, js, jt]
 rw [Iac a.1 hr.1 (l) (by omega)]
 simp only [jb]
 by_cases h0 : Ha (.sl Tf) a.1 ≤ l
 case neg => rw [Df h0, Df (by omega)]; rfl
 rw [Sg h0, Aa (by omega)]
 simp only [cond_false]
 rw [Sg (by omega), hs]
 try simp only [Nat.sub_sub, jt]
theorem Fan (a : Zb) (hr : Oj Bd a) (l : Nat) (hl : l ≤ Ea) : QK a (l : Int) = some (AE (Ha Bd a) l, ()) := by
 unfold QK
 have hs : Ha Bd a = Ha Md a.1 + (Ha Wc a.2.1) := by simp only [Ha, Nat.add_zero, js, jt]
 rw [Saz a.1 hr.1 (l) (by omega)]
 simp only [jb]
 by_cases h0 : Ha Md a.1 ≤ l
 case neg => rw [Df h0, Df (by omega)]; rfl
 rw [Sg h0, Aa (by omega)]
 simp only [cond_false]
 rw [Uag a.2.1 hr.2.1 (l - Ha Md a.1) (by omega)]
 simp only [jb]
 by_cases h1 : Ha Wc a.2.1 ≤ l - Ha Md a.1
 case neg => rw [Df h1, Df (by omega)]; rfl
 rw [Sg h1, Aa (by omega)]
 simp only [cond_false]
 rw [Sg (by omega), hs]
 try simp only [Nat.sub_sub, jt]
theorem Nae (a : Qb) (hz : Ha Nb a ≤ Ea) : Uy a = some (a, ()) := by
 unfold Uy
 have hs : Ha Nb a = Ha (.sl int) a.2.2.2.2.2.1 := by simp only [Ha, Nat.add_zero, js, jt]
 rw [X3 a.2.2.2.2.2.1 (by omega)]
 simp only [jb]
theorem Yaz (a : Va) (hz : Ha Xb a ≤ Ea) : HF a = some (a, ()) := by
 unfold HF
 rfl
theorem Kan (a : (List Va)) (hz : Ha (.sl Xb) a ≤ Ea) : RS a = some (a, ()) := toS (e := Xb) _ _ (f := HF) a hz Yaz rfl
theorem Zaz (a : Ca) (hz : Ha Ab a ≤ Ea) : IF a = some (a, ()) := by
 unfold IF
 rfl
theorem Y6 (a : (List Ca)) (hz : Ha (.sl Ab) a ≤ Ea) : UK a = some (a, ()) := toS (e := Ab) _ _ (f := IF) a hz Zaz rfl
theorem Ian (a : Ca) (hz : Ha Ab a ≤ Ea) : KA a = some (a, ()) := by
 unfold KA
 rfl
theorem Aam (a : (List Ca)) (hz : Ha (.sl Ab) a ≤ Ea) : MQ a = some (a, ()) := toS (e := Ab) _ _ (f := KA) a hz Ian rfl
theorem Wag (a : Pa) (hz : Ha Pb a ≤ Ea) : CD a = some (a, ()) := by
 unfold CD
 have hs : Ha Pb a = Ha (.sl Xb) a.1 + (Ha (.sl Ab) a.2.2.1 + (Ha (.sl Ab) a.2.2.2.2.2.2.1)) := by simp only [Ha, Nat.add_zero, js, jt]
 rw [Kan a.1 (by omega)]
 simp only [jb]
 rw [Y6 a.2.2.1 (by omega)]
 simp only [jb]
 rw [Aam a.2.2.2.2.2.2.1 (by omega)]
 simp only [jb]
theorem FaE (a : Ad) (hz : Ha Mc a ≤ Ea) : OJ a = some (a, ()) := by
 unfold OJ
 rfl
theorem BaA (a : (List Ad)) (hz : Ha (.sl Mc) a ≤ Ea) : PO a = some (a, ()) := toS (e := Mc) _ _ (f := OJ) a hz FaE rfl
theorem Pan (a : (List (List Ad))) (hz : Ha (.sl (.sl Mc)) a ≤ Ea) : SS a = some (a, ()) := toS (e := (.sl Mc)) _ _ (f := PO) a hz BaA rfl
theorem EaE (a : Sa) (hz : Ha Jf a ≤ Ea) : NJ a = some (a, ()) := by
 unfold NJ
 have hs : Ha Jf a = 0 := by simp only [Ha, Nat.add_zero, js, jt]
 rw [X6 a.2.1 (by rw [Vz rfl]; exact Nat.zero_le _)]
 simp only [jb]
theorem AaA (a : (List Sa)) (hz : Ha (.sl Jf) a ≤ Ea) : QU a = some (a, ()) := toS (e := Jf) _ _ (f := NJ) a hz EaE rfl
theorem Lan (a : Jb) (hz : Ha Gc a ≤ Ea) : TK a = some (a, ()) := by
 unfold TK
 have hs : Ha Gc a = Ha Dc a.1 + (Ha (.sl (.sl Mc)) a.2.1 + (Ha (.sl Jf) a.2.2.2.1)) := by simp only [Ha, Nat.add_zero, js, jt]
 rw [Nan a.1 (by omega)]
 simp only [jb]
 rw [Pan a.2.1 (by omega)]
 simp only [jb]
 rw [AaA a.2.2.2.1 (by omega)]
 simp only [jb]
theorem Bam (a : Ib) (hz : Ha Ic a ≤ Ea) : FH a = some (a, ()) := by
 unfold FH
 have hs : Ha Ic a = Ha Gc a.1 + (Ha (.sl Ab) a.2.2.1) := by simp only [Ha, Nat.add_zero, js, jt]
 rw [Lan a.1 (by omega)]
 simp only [jb]
 rw [Qan a.2.1 (by rw [Vz rfl]; exact Nat.zero_le _)]
 simp only [jb]
 rw [Y6 a.2.2.1 (by omega)]
 simp only [jb]
theorem Xaz (a : Fd) (hz : Ha Md a ≤ Ea) : KO a = some (a, ()) := by
 unfold KO
 have hs : Ha Md a = Ha Nb a.2.1 + (Ha Pb a.2.2.1 + (Ha Ic a.2.2.2.1)) := by simp only [Ha, Nat.add_zero, js, jt]
 rw [Oan a.1 (by rw [Vz rfl]; exact Nat.zero_le _)]
 simp only [jb]
 rw [Nae a.2.1 (by omega)]
 simp only [jb]
 rw [Wag a.2.2.1 (by omega)]
 simp only [jb]
 rw [Bam a.2.2.2.1 (by omega)]
 simp only [jb]
theorem Xag (a : Sb) (hz : Ha Wc a ≤ Ea) : ED a = some (a, ()) := by
 unfold ED
 have hs : Ha Wc a = Ha (.sl Tf) a.1 := by simp only [Ha, Nat.add_zero, js, jt]
 rw [Jac a.1 (by omega)]
 simp only [jb]
theorem Man (a : Zb) (hz : Ha Bd a ≤ Ea) : Bn a = some (a, ()) := by
 unfold Bn
 have hs : Ha Bd a = Ha Md a.1 + (Ha Wc a.2.1) := by simp only [Ha, Nat.add_zero, js, jt]
 rw [Xaz a.1 (by omega)]
 simp only [jb]
 rw [Xag a.2.1 (by omega)]
 simp only [jb]
theorem Mam (a : Ca) (hz : Ha Ab a ≤ Sc) : IK a a = some (true, ()) := by
 unfold IK
 have hs : Ha Ab a = 0 := by simp only [Ha, Nat.add_zero, js, jt]
 simp only [bne_self_eq_false', cond_false, jg, jb]
theorem Aad (a : Qb) (hz : Ha Nb a ≤ Sc) : Oy a a = some (true, ()) := by
 unfold Oy
 have hs : Ha Nb a = Ha (.sl int) a.2.2.2.2.2.1 := by simp only [Ha, Nat.add_zero, js, jt]
 simp only [bne_self_eq_false', cond_false, jg, jb, RV a.2.2.2.2.2.1 (by omega)]
theorem Day (a : Va) (hz : Ha Xb a ≤ Sc) : AF a a = some (true, ()) := by
 unfold AF
 have hs : Ha Xb a = 0 := by simp only [Ha, Nat.add_zero, js, jt]
 simp only [bne_self_eq_false', cond_false, jg, jb]
theorem Jam (a : (List Va)) (hz : Ha (.sl Xb) a ≤ Sc) : FK a a = some (true, ()) := F6 (e := Xb) (f := AF) (F := FK) a hz Day rfl
theorem Ham (a : Ca) (hz : Ha Ab a ≤ Sc) : HA a a = some (true, ()) := by
 unfold HA
 have hs : Ha Ab a = 0 := by simp only [Ha, Nat.add_zero, js, jt]
 simp only [bne_self_eq_false', cond_false, jg, jb]
theorem Laj (a : (List Ca)) (hz : Ha (.sl Ab) a ≤ Sc) : TG a a = some (true, ()) := F6 (e := Ab) (f := HA) (F := TG) a hz Ham rfl
theorem Taf (a : Pa) (hz : Ha Pb a ≤ Sc) : QC a a = some (true, ()) := by
 unfold QC
 have hs : Ha Pb a = Ha (.sl Xb) a.1 + (Ha (.sl Ab) a.2.2.1 + (Ha (.sl Ab) a.2.2.2.2.2.2.1)) := by simp only [Ha, Nat.add_zero, js, jt]
 simp only [bne_self_eq_false', cond_false, jg, jb, Jam a.1 (by omega), D6 a.2.2.1 (by omega), Laj a.2.2.2.2.2.2.1 (by omega)]
theorem MaB (a : Ad) (hz : Ha Mc a ≤ Sc) : DJ a a = some (true, ()) := by
 unfold DJ
 have hs : Ha Mc a = 0 := by simp only [Ha, Nat.add_zero, js, jt]
 simp only [bne_self_eq_false', cond_false, jg, jb]
theorem Hay (a : (List Ad)) (hz : Ha (.sl Mc) a ≤ Sc) : DF a a = some (true, ()) := F6 (e := Mc) (f := DJ) (F := DF) a hz MaB rfl
theorem Oam (a : (List (List Ad))) (hz : Ha (.sl (.sl Mc)) a ≤ Sc) : KK a a = some (true, ()) := F6 (e := (.sl Mc)) (f := DF) (F := KK) a hz Hay rfl
theorem KaB (a : Sa) (hz : Ha Jf a ≤ Sc) : BJ a a = some (true, ()) := by
 unfold BJ
 have hs : Ha Jf a = 0 := by simp only [Ha, Nat.add_zero, js, jt]
 simp only [bne_self_eq_false', cond_false, jg, jb, C6 a.2.1 (by rw [Vz rfl]; exact Nat.zero_le _)]
theorem Fay (a : (List Sa)) (hz : Ha (.sl Jf) a ≤ Sc) : UN a a = some (true, ()) := F6 (e := Jf) (f := BJ) (F := UN) a hz KaB rfl
theorem Kam (a : Jb) (hz : Ha Gc a ≤ Sc) : GK a a = some (true, ()) := by
 unfold GK
 have hs : Ha Gc a = Ha Dc a.1 + (Ha (.sl (.sl Mc)) a.2.1 + (Ha (.sl Jf) a.2.2.2.1)) := by simp only [Ha, Nat.add_zero, js, jt]
 simp only [bne_self_eq_false', cond_false, jg, jb, Lam a.1 (by omega), Oam a.2.1 (by omega), Fay a.2.2.2.1 (by omega)]
theorem Maj (a : Ib) (hz : Ha Ic a ≤ Sc) : UG a a = some (true, ()) := by
 unfold UG
 have hs : Ha Ic a = Ha Gc a.1 + (Ha (.sl Ab) a.2.2.1) := by simp only [Ha, Nat.add_zero, js, jt]
 simp only [bne_self_eq_false', cond_false, jg, jb, Kam a.1 (by omega), Pam a.2.1 (by rw [Vz rfl]; exact Nat.zero_le _), D6 a.2.2.1 (by omega)]
theorem Cay (a : Fd) (hz : Ha Md a ≤ Sc) : QN a a = some (true, ()) := by
 unfold QN
 have hs : Ha Md a = Ha Nb a.2.1 + (Ha Pb a.2.2.1 + (Ha Ic a.2.2.2.1)) := by simp only [Ha, Nat.add_zero, js, jt]
 simp only [bne_self_eq_false', cond_false, jg, jb, Mam a.1 (by rw [Vz rfl]; exact Nat.zero_le _), Aad a.2.1 (by omega), Taf a.2.2.1 (by omega), Maj a.2.2.2.1 (by omega)]
theorem Uaf (a : Sb) (hz : Ha Wc a ≤ Sc) : SC a a = some (true, ()) := by
 unfold SC
 have hs : Ha Wc a = Ha (.sl Tf) a.1 := by simp only [Ha, Nat.add_zero, js, jt]
 simp only [bne_self_eq_false', cond_false, jg, jb, Maa a.1 (by omega)]
theorem E6 (a : Zb) (hz : Ha Bd a ≤ Sc) : An a a = some (true, ()) := by
 unfold An
 have hs : Ha Bd a = Ha Md a.1 + (Ha Wc a.2.1) := by simp only [Ha, Nat.add_zero, js, jt]
 simp only [bne_self_eq_false', cond_false, jg, jb, Cay a.1 (by omega), Uaf a.2.1 (by omega)]
theorem A3 (a : (List Int)) (k : Nat) (hk : k + 8 * Ha (.sl Tf) a ≤ Sc) : ∃ (a' : (List Int)) (k' : Nat), k ≤ k' ∧ k' ≤ k + 8 * Ha (.sl Tf) a ∧ AH a (k : Int) = some (a', ((k' : Int), ())) ∧ XG a' (k : Int) = some ((k' : Int), ()) ∧ kf (.sl Tf) a a' := YK (e := Tf) (RM := Cs) (RH := Wr) (fun _ _ => rfl) (fun _ _ => rfl) (by
 have h40 : Sc = 1099511627776 := rfl
 intro o k i hi hB
 have hw : j5 .i64 (((k : Nat) : Int) + 1) = (((k + 1) : Nat) : Int) := Kc (by omega)
 refine ⟨(Go.IntKind.wrap .u8 ((k : Nat) : Int)), k + 1, by omega, by omega, ?_, ?_⟩
 ·simp only [Cs]
  rw [Ba (show (i : Int) < (ja o : Int) by omega)]
  simp only [hw, cond_true, Ag, j9, Ba hi, jn, je hi, qx hi, jb, List.set_set, z3, cond_false]
 ·intro o2 hi2 h2
  simp only [Wr]
  rw [Ba (show (i : Int) < (ja o2 : Int) by omega), Cb hi2, h2]
  simp only [hw, cond_true, jb, bne_self_eq_false', cond_false, z3]) (by
 intro o k
 simp only [Cs]
 rw [Aa (by omega)]
 rfl) (by
 intro o k
 simp only [Wr]
 rw [Aa (by omega)]
 rfl) a k hk
theorem Eag (a : (List (List Int))) (k : Nat) (hk : k + 8 * Ha (.sl (.sl Tf)) a ≤ Sc) : ∃ (a' : (List (List Int))) (k' : Nat), k ≤ k' ∧ k' ≤ k + 8 * Ha (.sl (.sl Tf)) a ∧ ZN a (k : Int) = some (a', ((k' : Int), ())) ∧ Fab a' (k : Int) = some ((k' : Int), ()) ∧ kf (.sl (.sl Tf)) a a' := YK (e := (.sl Tf)) (RM := Aq) (RH := Wp) (fun _ _ => rfl) (fun _ _ => rfl) (by
 have h40 : Sc = 1099511627776 := rfl
 intro o k i hi hB
 obtain ⟨y0, k0, g0, i0, m0, n0, _⟩ := A3 o[i] k (by omega)
 have d0 : decide ((k0 : Int) < 0) = false := Aa (by omega)
 refine ⟨y0, k0, by omega, by omega, ?_, ?_⟩
 ·simp only [Aq]
  rw [Ba (show (i : Int) < (ja o : Int) by omega)]
  simp only [m0, cond_true, Ag, j9, Ba hi, jn, je hi, qx hi, jb, List.set_set, z3, cond_false]
 ·intro o2 hi2 h2
  simp only [Wp]
  rw [Ba (show (i : Int) < (ja o2 : Int) by omega), Cb hi2, h2]
  simp only [n0, d0, cond_true, jb, bne_self_eq_false', cond_false, z3]) (by
 intro o k
 simp only [Aq]
 rw [Aa (by omega)]
 rfl) (by
 intro o k
 simp only [Wp]
 rw [Aa (by omega)]
 rfl) a k hk
theorem IR (a : (List Int)) (k : Nat) (hk : k + 8 * Ha (.sl int) a ≤ Sc) : ∃ (a' : (List Int)) (k' : Nat), k ≤ k' ∧ k' ≤ k + 8 * Ha (.sl int) a ∧ Yq a (k : Int) = some (a', ((k' : Int), ())) ∧ MK a' (k : Int) = some ((k' : Int), ()) ∧ kf (.sl int) a a' := YK (e := int) (RM := Su) (RH := Pu) (fun _ _ => rfl) (fun _ _ => rfl) (by
 have h40 : Sc = 1099511627776 := rfl
 intro o k i hi hB
 have hw : j5 .i64 (((k : Nat) : Int) + 1) = (((k + 1) : Nat) : Int) := Kc (by omega)
 refine ⟨((k : Nat) : Int), k + 1, by omega, by omega, ?_, ?_⟩
 ·simp only [Su]
  rw [Ba (show (i : Int) < (ja o : Int) by omega)]
  simp only [hw, cond_true, Ag, j9, Ba hi, jn, je hi, qx hi, jb, List.set_set, z3, cond_false]
 ·intro o2 hi2 h2
  simp only [Pu]
  rw [Ba (show (i : Int) < (ja o2 : Int) by omega), Cb hi2, h2]
  simp only [hw, cond_true, jb, bne_self_eq_false', cond_false, z3]) (by
 intro o k
 simp only [Su]
 rw [Aa (by omega)]
 rfl) (by
 intro o k
 simp only [Pu]
 rw [Aa (by omega)]
 rfl) a k hk
theorem Wak (a : (List Qe)) (k : Nat) (hk : k + 8 * Ha (.sl Oi) a ≤ Sc) : ∃ (a' : (List Qe)) (k' : Nat), k ≤ k' ∧ k' ≤ k + 8 * Ha (.sl Oi) a ∧ KQ a (k : Int) = some (a', ((k' : Int), ())) ∧ YG a' (k : Int) = some ((k' : Int), ()) ∧ kf (.sl Oi) a a' := YK (e := Oi) (RM := Is) (RH := As) (fun _ _ => rfl) (fun _ _ => rfl) (by
 have h40 : Sc = 1099511627776 := rfl
 intro o k i hi hB
 have hs : Ha Oi o[i] = Ha (.sl int) o[i].2.1.2.1 := by simp only [Ha, Nat.add_zero, js, jt]
 have w0 : j5 .i64 (((k : Nat) : Int) + 1) = (((k + 1) : Nat) : Int) := Kc (by omega)
 have w1 : j5 .i64 ((((k + 1) : Nat) : Int) + 1) = ((((k + 1) + 1) : Nat) : Int) := Kc (by omega)
 obtain ⟨y0, k0, g0, i0, m0, n0, _⟩ := IR o[i].2.1.2.1 ((k + 1) + 1) (by omega)
 have d0 : decide ((k0 : Int) < 0) = false := Aa (by omega)
 refine ⟨(((k : Nat) : Int), ((((k + 1) : Nat) : Int), y0, ()), ()), k0, by omega, by omega, ?_, ?_⟩
 ·simp only [Is]
  rw [Ba (show (i : Int) < (ja o : Int) by omega)]
  simp only [w0, w1, m0, cond_true, Ag, j9, Ba hi, jn, je hi, qx hi, jb, List.set_set, z3, cond_false]
 ·intro o2 hi2 h2
  simp only [As]
  rw [Ba (show (i : Int) < (ja o2 : Int) by omega), Cb hi2, h2]
  simp only [w0, w1, n0, d0, cond_true, jb, bne_self_eq_false', cond_false, z3]) (by
 intro o k
 simp only [Is]
 rw [Aa (by omega)]
 rfl) (by
 intro o k
 simp only [As]
 rw [Aa (by omega)]
 rfl) a k hk
theorem Pad (a : (List Db)) (k : Nat) (hk : k + 8 * Ha (.sl Ub) a ≤ Sc) : ∃ (a' : (List Db)) (k' : Nat), k ≤ k' ∧ k' ≤ k + 8 * Ha (.sl Ub) a ∧ RL a (k : Int) = some (a', ((k' : Int), ())) ∧ PL a' (k : Int) = some ((k' : Int), ()) ∧ kf (.sl Ub) a a' := YK (e := Ub) (RM := Yn) (RH := Wn) (fun _ _ => rfl) (fun _ _ => rfl) (by
 have h40 : Sc = 1099511627776 := rfl
 intro o k i hi hB
 have hw : j5 .i64 (((k : Nat) : Int) + 1) = (((k + 1) : Nat) : Int) ∧ j5 .i64 ((((k + 1) : Nat) : Int) + 1) = (((k + 2) : Nat) : Int) ∧ j5 .i64 ((((k + 2) : Nat) : Int) + 1) = (((k + 3) : Nat) : Int) ∧ j5 .i64 ((((k + 3) : Nat) : Int) + 1) = (((k + 4) : Nat) : Int) := ⟨Kc (by omega), Kc (by omega), Kc (by omega), Kc (by omega)⟩
 obtain ⟨w0, w1, w2, w3⟩ := hw
 refine ⟨(((k : Nat) : Int), (((k + 1) : Nat) : Int), (((k + 2) : Nat) : Int), (((k + 3) : Nat) : Int), ()), k + 4, by omega, by omega, ?_, ?_⟩
 ·simp only [Yn]
  rw [Ba (show (i : Int) < (ja o : Int) by omega)]
  simp only [w0, w1, w2, w3, cond_true, Ag, j9, Ba hi, jn, je hi, qx hi, jb, List.set_set, z3, cond_false]
 ·intro o2 hi2 h2
  simp only [Wn]
  rw [Ba (show (i : Int) < (ja o2 : Int) by omega), Cb hi2, h2]
  simp only [w0, w1, w2, w3, cond_true, jb, bne_self_eq_false', cond_false, z3]) (by
 intro o k
 simp only [Yn]
 rw [Aa (by omega)]
 rfl) (by
 intro o k
 simp only [Wn]
 rw [Aa (by omega)]
 rfl) a k hk
theorem Iab (a : (List (List Db))) (k : Nat) (hk : k + 8 * Ha (.sl (.sl Ub)) a ≤ Sc) : ∃ (a' : (List (List Db))) (k' : Nat), k ≤ k' ∧ k' ≤ k + 8 * Ha (.sl (.sl Ub)) a ∧ KI a (k : Int) = some (a', ((k' : Int), ())) ∧ JI a' (k : Int) = some ((k' : Int), ()) ∧ kf (.sl (.sl Ub)) a a' := YK (e := (.sl Ub)) (RM := Qm) (RH := Pm) (fun _ _ => rfl) (fun _ _ => rfl) (by
 have h40 : Sc = 1099511627776 := rfl
 intro o k i hi hB
 obtain ⟨y0, k0, g0, i0, m0, n0, _⟩ := Pad o[i] k (by omega)
 have d0 : decide ((k0 : Int) < 0) = false := Aa (by omega)
 refine ⟨y0, k0, by omega, by omega, ?_, ?_⟩
 ·simp only [Qm]
  rw [Ba (show (i : Int) < (ja o : Int) by omega)]
  simp only [m0, cond_true, Ag, j9, Ba hi, jn, je hi, qx hi, jb, List.set_set, z3, cond_false]
 ·intro o2 hi2 h2
  simp only [Pm]
  rw [Ba (show (i : Int) < (ja o2 : Int) by omega), Cb hi2, h2]
  simp only [n0, d0, cond_true, jb, bne_self_eq_false', cond_false, z3]) (by
 intro o k
 simp only [Qm]
 rw [Aa (by omega)]
 rfl) (by
 intro o k
 simp only [Pm]
 rw [Aa (by omega)]
 rfl) a k hk
theorem Hag (a : Ac) (k : Nat) (hk : k + 8 * Ha Dc a ≤ Sc) : ∃ (a' : Ac) (k' : Nat), k ≤ k' ∧ k' ≤ k + 8 * Ha Dc a ∧ YC a (k : Int) = some (a', ((k' : Int), ())) ∧ VC a' (k : Int) = some ((k' : Int), ()) ∧ kf Dc a a' := by
 have h40 : Sc = 1099511627776 := rfl
 have hs : Ha Dc a = Ha (.sl (.sl Ub)) a.2.1 := by simp only [Ha, Nat.add_zero, js, jt]
 obtain ⟨x0, k0, g0, i0, m0, n0, f0⟩ := Iab a.2.1 k (by omega)
 refine ⟨(a.1, x0, ()), k0, by omega, by omega, ?_, ?_, Bg _ _, f0, rfl⟩
 ·unfold YC
  simp only [m0, jb]
 ·unfold VC
  simp only [n0, jb]
  rw [Aa (by omega)]
  simp only [cond_false]
theorem A1 (a : (List Ca)) (k : Nat) (hk : k + 8 * Ha (.sl Ab) a ≤ Sc) : ∃ (a' : (List Ca)) (k' : Nat), k ≤ k' ∧ k' ≤ k + 8 * Ha (.sl Ab) a ∧ XC a (k : Int) = some (a', ((k' : Int), ())) ∧ UC a' (k : Int) = some ((k' : Int), ()) ∧ kf (.sl Ab) a a' := YK (e := Ab) (RM := Cq) (RH := Yp) (fun _ _ => rfl) (fun _ _ => rfl) (by
 have h40 : Sc = 1099511627776 := rfl
 intro o k i hi hB
 have hw : j5 .i64 (((k : Nat) : Int) + 1) = (((k + 1) : Nat) : Int) ∧ j5 .i64 ((((k + 1) : Nat) : Int) + 1) = (((k + 2) : Nat) : Int) ∧ j5 .i64 ((((k + 2) : Nat) : Int) + 1) = (((k + 3) : Nat) : Int) := ⟨Kc (by omega), Kc (by omega), Kc (by omega)⟩
 obtain ⟨w0, w1, w2⟩ := hw
 refine ⟨(((k : Nat) : Int), (((k + 1) : Nat) : Int), (Int.tmod (((k + 2) : Nat) : Int) 3 == 0), ()), k + 3, by omega, by omega, ?_, ?_⟩
 ·simp only [Cq]
  rw [Ba (show (i : Int) < (ja o : Int) by omega)]
  simp only [w0, w1, w2, cond_true, Ag, j9, Ba hi, jn, je hi, qx hi, jb, List.set_set, z3, cond_false]
 ·intro o2 hi2 h2
  simp only [Yp]
  rw [Ba (show (i : Int) < (ja o2 : Int) by omega), Cb hi2, h2]
  simp only [w0, w1, w2, cond_true, jb, bne_self_eq_false', cond_false, z3]) (by
 intro o k
 simp only [Cq]
 rw [Aa (by omega)]
 rfl) (by
 intro o k
 simp only [Yp]
 rw [Aa (by omega)]
 rfl) a k hk
theorem R8 (a : Qb) (k : Nat) (hk : k + 8 * Ha Nb a ≤ Sc) : ∃ (a' : Qb) (k' : Nat), k ≤ k' ∧ k' ≤ k + 8 * Ha Nb a ∧ Ds a (k : Int) = some (a', ((k' : Int), ())) ∧ Xr a' (k : Int) = some ((k' : Int), ()) ∧ kf Nb a a' := by
 have h40 : Sc = 1099511627776 := rfl
 have hs : Ha Nb a = Ha (.sl int) a.2.2.2.2.2.1 := by simp only [Ha, Nat.add_zero, js, jt]
 obtain ⟨x0, k0, g0, i0, m0, n0, f0⟩ := IR a.2.2.2.2.2.1 k (by omega)
 refine ⟨(a.1, a.2.1, a.2.2.1, a.2.2.2.1, a.2.2.2.2.1, x0, ()), k0, by omega, by omega, ?_, ?_, Bg _ _, Bg _ _, Bg _ _, Bg _ _, Bg _ _, f0, rfl⟩
 ·unfold Ds
  simp only [m0, jb]
 ·unfold Xr
  simp only [n0, jb]
  rw [Aa (by omega)]
  simp only [cond_false]
theorem Fag (a : (List Va)) (k : Nat) (hk : k + 8 * Ha (.sl Xb) a ≤ Sc) : ∃ (a' : (List Va)) (k' : Nat), k ≤ k' ∧ k' ≤ k + 8 * Ha (.sl Xb) a ∧ AO a (k : Int) = some (a', ((k' : Int), ())) ∧ WN a' (k : Int) = some ((k' : Int), ()) ∧ kf (.sl Xb) a a' := YK (e := Xb) (RM := Bq) (RH := Xp) (fun _ _ => rfl) (fun _ _ => rfl) (by
 have h40 : Sc = 1099511627776 := rfl
 intro o k i hi hB
 have hw : j5 .i64 (((k : Nat) : Int) + 1) = (((k + 1) : Nat) : Int) ∧ j5 .i64 ((((k + 1) : Nat) : Int) + 1) = (((k + 2) : Nat) : Int) := ⟨Kc (by omega), Kc (by omega)⟩
 obtain ⟨w0, w1⟩ := hw
 refine ⟨(((k : Nat) : Int), (((k + 1) : Nat) : Int), ()), k + 2, by omega, by omega, ?_, ?_⟩
 ·simp only [Bq]
  rw [Ba (show (i : Int) < (ja o : Int) by omega)]
  simp only [w0, w1, cond_true, Ag, j9, Ba hi, jn, je hi, qx hi, jb, List.set_set, z3, cond_false]
 ·intro o2 hi2 h2
  simp only [Xp]
  rw [Ba (show (i : Int) < (ja o2 : Int) by omega), Cb hi2, h2]
  simp only [w0, w1, cond_true, jb, bne_self_eq_false', cond_false, z3]) (by
 intro o k
 simp only [Bq]
 rw [Aa (by omega)]
 rfl) (by
 intro o k
 simp only [Xp]
 rw [Aa (by omega)]
 rfl) a k hk
theorem Qad (a : (List Ca)) (k : Nat) (hk : k + 8 * Ha (.sl Ab) a ≤ Sc) : ∃ (a' : (List Ca)) (k' : Nat), k ≤ k' ∧ k' ≤ k + 8 * Ha (.sl Ab) a ∧ SL a (k : Int) = some (a', ((k' : Int), ())) ∧ QL a' (k : Int) = some ((k' : Int), ()) ∧ kf (.sl Ab) a a' := YK (e := Ab) (RM := Zn) (RH := Xn) (fun _ _ => rfl) (fun _ _ => rfl) (by
 have h40 : Sc = 1099511627776 := rfl
 intro o k i hi hB
 have hw : j5 .i64 (((k : Nat) : Int) + 1) = (((k + 1) : Nat) : Int) ∧ j5 .i64 ((((k + 1) : Nat) : Int) + 1) = (((k + 2) : Nat) : Int) ∧ j5 .i64 ((((k + 2) : Nat) : Int) + 1) = (((k + 3) : Nat) : Int) := ⟨Kc (by omega), Kc (by omega), Kc (by omega)⟩
 obtain ⟨w0, w1, w2⟩ := hw
 refine ⟨(((k : Nat) : Int), (((k + 1) : Nat) : Int), (Int.tmod (((k + 2) : Nat) : Int) 3 == 0), ()), k + 3, by omega, by omega, ?_, ?_⟩
 ·simp only [Zn]
  rw [Ba (show (i : Int) < (ja o : Int) by omega)]
  simp only [w0, w1, w2, cond_true, Ag, j9, Ba hi, jn, je hi, qx hi, jb, List.set_set, z3, cond_false]
 ·intro o2 hi2 h2
  simp only [Xn]
  rw [Ba (show (i : Int) < (ja o2 : Int) by omega), Cb hi2, h2]
  simp only [w0, w1, w2, cond_true, jb, bne_self_eq_false', cond_false, z3]) (by
 intro o k
 simp only [Zn]
 rw [Aa (by omega)]
 rfl) (by
 intro o k
 simp only [Xn]
 rw [Aa (by omega)]
 rfl) a k hk
theorem Jab (a : Pa) (k : Nat) (hk : k + 8 * Ha Pb a ≤ Sc) : ∃ (a' : Pa) (k' : Nat), k ≤ k' ∧ k' ≤ k + 8 * Ha Pb a ∧ Ru a (k : Int) = some (a', ((k' : Int), ())) ∧ Ou a' (k : Int) = some ((k' : Int), ()) ∧ kf Pb a a' := by
 have h40 : Sc = 1099511627776 := rfl
 have hs : Ha Pb a = Ha (.sl Xb) a.1 + (Ha (.sl Ab) a.2.2.1 + (Ha (.sl Ab) a.2.2.2.2.2.2.1)) := by simp only [Ha, Nat.add_zero, js, jt]
 obtain ⟨x0, k0, g0, i0, m0, n0, f0⟩ := Fag a.1 k (by omega)
 obtain ⟨x1, k1, g1, i1, m1, n1, f1⟩ := A1 a.2.2.1 k0 (by omega)
 obtain ⟨x2, k2, g2, i2, m2, n2, f2⟩ := Qad a.2.2.2.2.2.2.1 k1 (by omega)
 refine ⟨(x0, a.2.1, x1, a.2.2.2.1, a.2.2.2.2.1, a.2.2.2.2.2.1, x2, ()), k2, by omega, by omega, ?_, ?_, f0, Bg _ _, f1, Bg _ _, Bg _ _, Bg _ _, f2, rfl⟩
 ·unfold Ru
  simp only [m0, m1, m2, jb]
 ·unfold Ou
  simp only [n0, jb]
  rw [Aa (by omega)]
  simp only [cond_false]
  simp only [n1, jb]
  rw [Aa (by omega)]
  simp only [cond_false]
  simp only [n2, jb]
  rw [Aa (by omega)]
  simp only [cond_false]
theorem Xak (a : (List Ad)) (k : Nat) (hk : k + 8 * Ha (.sl Mc) a ≤ Sc) : ∃ (a' : (List Ad)) (k' : Nat), k ≤ k' ∧ k' ≤ k + 8 * Ha (.sl Mc) a ∧ LQ a (k : Int) = some (a', ((k' : Int), ())) ∧ IQ a' (k : Int) = some ((k' : Int), ()) ∧ kf (.sl Mc) a a' := YK (e := Mc) (RM := Js) (RH := Bs) (fun _ _ => rfl) (fun _ _ => rfl) (by
 have h40 : Sc = 1099511627776 := rfl
 intro o k i hi hB
 have hw : j5 .i64 (((k : Nat) : Int) + 1) = (((k + 1) : Nat) : Int) ∧ j5 .i64 ((((k + 1) : Nat) : Int) + 1) = (((k + 2) : Nat) : Int) ∧ j5 .i64 ((((k + 2) : Nat) : Int) + 1) = (((k + 3) : Nat) : Int) := ⟨Kc (by omega), Kc (by omega), Kc (by omega)⟩
 obtain ⟨w0, w1, w2⟩ := hw
 refine ⟨(((k : Nat) : Int), (((k + 1) : Nat) : Int), (((k + 2) : Nat) : Int), ()), k + 3, by omega, by omega, ?_, ?_⟩
 ·simp only [Js]
  rw [Ba (show (i : Int) < (ja o : Int) by omega)]
  simp only [w0, w1, w2, cond_true, Ag, j9, Ba hi, jn, je hi, qx hi, jb, List.set_set, z3, cond_false]
 ·intro o2 hi2 h2
  simp only [Bs]
  rw [Ba (show (i : Int) < (ja o2 : Int) by omega), Cb hi2, h2]
  simp only [w0, w1, w2, cond_true, jb, bne_self_eq_false', cond_false, z3]) (by
 intro o k
 simp only [Js]
 rw [Aa (by omega)]
 rfl) (by
 intro o k
 simp only [Bs]
 rw [Aa (by omega)]
 rfl) a k hk
theorem Iag (a : (List (List Ad))) (k : Nat) (hk : k + 8 * Ha (.sl (.sl Mc)) a ≤ Sc) : ∃ (a' : (List (List Ad))) (k' : Nat), k ≤ k' ∧ k' ≤ k + 8 * Ha (.sl (.sl Mc)) a ∧ CO a (k : Int) = some (a', ((k' : Int), ())) ∧ YN a' (k : Int) = some ((k' : Int), ()) ∧ kf (.sl (.sl Mc)) a a' := YK (e := (.sl Mc)) (RM := Dq) (RH := Zp) (fun _ _ => rfl) (fun _ _ => rfl) (by
 have h40 : Sc = 1099511627776 := rfl
 intro o k i hi hB
 obtain ⟨y0, k0, g0, i0, m0, n0, _⟩ := Xak o[i] k (by omega)
 have d0 : decide ((k0 : Int) < 0) = false := Aa (by omega)
 refine ⟨y0, k0, by omega, by omega, ?_, ?_⟩
 ·simp only [Dq]
  rw [Ba (show (i : Int) < (ja o : Int) by omega)]
  simp only [m0, cond_true, Ag, j9, Ba hi, jn, je hi, qx hi, jb, List.set_set, z3, cond_false]
 ·intro o2 hi2 h2
  simp only [Zp]
  rw [Ba (show (i : Int) < (ja o2 : Int) by omega), Cb hi2, h2]
  simp only [n0, d0, cond_true, jb, bne_self_eq_false', cond_false, z3]) (by
 intro o k
 simp only [Dq]
 rw [Aa (by omega)]
 rfl) (by
 intro o k
 simp only [Zp]
 rw [Aa (by omega)]
 rfl) a k hk
theorem Vak (a : (List Sa)) (k : Nat) (hk : k + 8 * Ha (.sl Jf) a ≤ Sc) : ∃ (a' : (List Sa)) (k' : Nat), k ≤ k' ∧ k' ≤ k + 8 * Ha (.sl Jf) a ∧ JQ a (k : Int) = some (a', ((k' : Int), ())) ∧ HQ a' (k : Int) = some ((k' : Int), ()) ∧ kf (.sl Jf) a a' := YK (e := Jf) (RM := Hs) (RH := Zr) (fun _ _ => rfl) (fun _ _ => rfl) (by
 have h40 : Sc = 1099511627776 := rfl
 intro o k i hi hB
 have hw : j5 .i64 (((k : Nat) : Int) + 1) = (((k + 1) : Nat) : Int) ∧ j5 .i64 ((((k + 1) : Nat) : Int) + 1) = (((k + 2) : Nat) : Int) ∧ j5 .i64 ((((k + 2) : Nat) : Int) + 1) = (((k + 3) : Nat) : Int) ∧ j5 .i64 ((((k + 3) : Nat) : Int) + 1) = (((k + 4) : Nat) : Int) ∧ j5 .i64 ((((k + 4) : Nat) : Int) + 1) = (((k + 5) : Nat) : Int) := ⟨Kc (by omega), Kc (by omega), Kc (by omega), Kc (by omega), Kc (by omega)⟩
 obtain ⟨w0, w1, w2, w3, w4⟩ := hw
 refine ⟨(((k : Nat) : Int), ((((k + 1) : Nat) : Int), (((k + 2) : Nat) : Int), (((k + 3) : Nat) : Int), (((k + 4) : Nat) : Int), ()), ()), k + 5, by omega, by omega, ?_, ?_⟩
 ·simp only [Hs]
  rw [Ba (show (i : Int) < (ja o : Int) by omega)]
  simp only [w0, w1, w2, w3, w4, cond_true, Ag, j9, Ba hi, jn, je hi, qx hi, jb, List.set_set, z3, cond_false]
 ·intro o2 hi2 h2
  simp only [Zr]
  rw [Ba (show (i : Int) < (ja o2 : Int) by omega), Cb hi2, h2]
  simp only [w0, w1, w2, w3, w4, cond_true, jb, bne_self_eq_false', cond_false, z3]) (by
 intro o k
 simp only [Hs]
 rw [Aa (by omega)]
 rfl) (by
 intro o k
 simp only [Zr]
 rw [Aa (by omega)]
 rfl) a k hk
theorem Gag (a : Jb) (k : Nat) (hk : k + 8 * Ha Gc a ≤ Sc) : ∃ (a' : Jb) (k' : Nat), k ≤ k' ∧ k' ≤ k + 8 * Ha Gc a ∧ WC a (k : Int) = some (a', ((k' : Int), ())) ∧ TC a' (k : Int) = some ((k' : Int), ()) ∧ kf Gc a a' := by
 have h40 : Sc = 1099511627776 := rfl
 have hs : Ha Gc a = Ha Dc a.1 + (Ha (.sl (.sl Mc)) a.2.1 + (Ha (.sl Jf) a.2.2.2.1)) := by simp only [Ha, Nat.add_zero, js, jt]
 obtain ⟨x0, k0, g0, i0, m0, n0, f0⟩ := Hag a.1 k (by omega)
 obtain ⟨x1, k1, g1, i1, m1, n1, f1⟩ := Iag a.2.1 k0 (by omega)
 obtain ⟨x2, k2, g2, i2, m2, n2, f2⟩ := Vak a.2.2.2.1 k1 (by omega)
 refine ⟨(x0, x1, a.2.2.1, x2, a.2.2.2.2.1, a.2.2.2.2.2.1, ()), k2, by omega, by omega, ?_, ?_, f0, f1, Bg _ _, f2, Bg _ _, Bg _ _, rfl⟩
 ·unfold WC
  simp only [kf, true_and, and_true] at f0
  simp only [m0, m1, m2, jb]
  simp only [jc, Prod.ext_iff, f0, and_self]
 ·unfold TC
  simp only [n0, jb]
  rw [Aa (by omega)]
  simp only [cond_false]
  simp only [n1, jb]
  rw [Aa (by omega)]
  simp only [cond_false]
  simp only [n2, jb]
  rw [Aa (by omega)]
  simp only [cond_false]
theorem Rad (a : Ib) (k : Nat) (hk : k + 8 * Ha Ic a ≤ Sc) : ∃ (a' : Ib) (k' : Nat), k ≤ k' ∧ k' ≤ k + 8 * Ha Ic a ∧ Qy a (k : Int) = some (a', ((k' : Int), ())) ∧ Py a' (k : Int) = some ((k' : Int), ()) ∧ kf Ic a a' := by
 have h40 : Sc = 1099511627776 := rfl
 have hs : Ha Ic a = Ha Gc a.1 + (Ha (.sl Ab) a.2.2.1) := by simp only [Ha, Nat.add_zero, js, jt]
 obtain ⟨x0, k0, g0, i0, m0, n0, f0⟩ := Gag a.1 k (by omega)
 obtain ⟨x1, k1, g1, i1, m1, n1, f1⟩ := A1 a.2.2.1 k0 (by omega)
 refine ⟨(x0, a.2.1, x1, a.2.2.2.1, a.2.2.2.2.1, a.2.2.2.2.2.1, a.2.2.2.2.2.2.1, ()), k1, by omega, by omega, ?_, ?_, f0, Bg _ _, f1, Bg _ _, Bg _ _, Bg _ _, Bg _ _, rfl⟩
 ·unfold Qy
  simp only [kf, true_and, and_true] at f0
  simp only [m0, m1, jb]
  simp only [jc, Prod.ext_iff, f0, and_self]
 ·unfold Py
  simp only [n0, jb]
  rw [Aa (by omega)]
  simp only [cond_false]
  simp only [n1, jb]
  rw [Aa (by omega)]
  simp only [cond_false]
theorem Uak (a : Fd) (k : Nat) (hk : k + 8 * Ha Md a ≤ Sc) : ∃ (a' : Fd) (k' : Nat), k ≤ k' ∧ k' ≤ k + 8 * Ha Md a ∧ ZG a (k : Int) = some (a', ((k' : Int), ())) ∧ VG a' (k : Int) = some ((k' : Int), ()) ∧ kf Md a a' := by
 have h40 : Sc = 1099511627776 := rfl
 have hs : Ha Md a = Ha Nb a.2.1 + (Ha Pb a.2.2.1 + (Ha Ic a.2.2.2.1)) := by simp only [Ha, Nat.add_zero, js, jt]
 obtain ⟨x0, k0, g0, i0, m0, n0, f0⟩ := R8 a.2.1 k (by omega)
 obtain ⟨x1, k1, g1, i1, m1, n1, f1⟩ := Jab a.2.2.1 k0 (by omega)
 obtain ⟨x2, k2, g2, i2, m2, n2, f2⟩ := Rad a.2.2.2.1 k1 (by omega)
 refine ⟨(a.1, x0, x1, x2, a.2.2.2.2.1, a.2.2.2.2.2.1, ()), k2, by omega, by omega, ?_, ?_, Bg _ _, f0, f1, f2, Bg _ _, Bg _ _, rfl⟩
 ·unfold ZG
  simp only [kf, true_and, and_true] at f0
  simp only [kf, true_and, and_true] at f1
  simp only [kf, true_and, and_true] at f2
  simp only [m0, m1, m2, jb]
  simp only [jc, Prod.ext_iff, f0, f1, f2, and_self]
 ·unfold VG
  simp only [n0, jb]
  rw [Aa (by omega)]
  simp only [cond_false]
  simp only [n1, jb]
  rw [Aa (by omega)]
  simp only [cond_false]
  simp only [n2, jb]
  rw [Aa (by omega)]
  simp only [cond_false]
theorem Kab (a : Sb) (k : Nat) (hk : k + 8 * Ha Wc a ≤ Sc) : ∃ (a' : Sb) (k' : Nat), k ≤ k' ∧ k' ≤ k + 8 * Ha Wc a ∧ Tu a (k : Int) = some (a', ((k' : Int), ())) ∧ Qu a' (k : Int) = some ((k' : Int), ()) ∧ kf Wc a a' := by
 have h40 : Sc = 1099511627776 := rfl
 have hs : Ha Wc a = Ha (.sl Tf) a.1 := by simp only [Ha, Nat.add_zero, js, jt]
 obtain ⟨x0, k0, g0, i0, m0, n0, f0⟩ := A3 a.1 k (by omega)
 refine ⟨(x0, a.2.1, a.2.2.1, a.2.2.2.1, ()), k0, by omega, by omega, ?_, ?_, f0, Bg _ _, Bg _ _, Bg _ _, rfl⟩
 ·unfold Tu
  simp only [m0, jb]
 ·unfold Qu
  simp only [n0, jb]
  rw [Aa (by omega)]
  simp only [cond_false]
theorem B1 (a : Zb) (k : Nat) (hk : k + 8 * Ha Bd a ≤ Sc) : ∃ (a' : Zb) (k' : Nat), k ≤ k' ∧ k' ≤ k + 8 * Ha Bd a ∧ Es a (k : Int) = some (a', ((k' : Int), ())) ∧ Yr a' (k : Int) = some ((k' : Int), ()) ∧ kf Bd a a' := by
 have h40 : Sc = 1099511627776 := rfl
 have hs : Ha Bd a = Ha Md a.1 + (Ha Wc a.2.1) := by simp only [Ha, Nat.add_zero, js, jt]
 obtain ⟨x0, k0, g0, i0, m0, n0, f0⟩ := Uak a.1 k (by omega)
 obtain ⟨x1, k1, g1, i1, m1, n1, f1⟩ := Kab a.2.1 k0 (by omega)
 refine ⟨(x0, x1, a.2.2.1, ()), k1, by omega, by omega, ?_, ?_, f0, f1, Bg _ _, rfl⟩
 ·unfold Es
  simp only [kf, true_and, and_true] at f0
  simp only [kf, true_and, and_true] at f1
  simp only [m0, m1, jb]
  simp only [jc, Prod.ext_iff, f0, f1, and_self]
 ·unfold Yr
  simp only [n0, jb]
  rw [Aa (by omega)]
  simp only [cond_false]
  simp only [n1, jb]
  rw [Aa (by omega)]
  simp only [cond_false]
def Ee (k c m n : Int) : Prop :=
 ((k = 0 ∨ k = 1 ∨ k = 10) ∧ c = 0 ∧ m = 0 ∧ n = 0) ∨
 (k = 2 ∧ n = 0 ∧ (c = 0 ∨ 1 ≤ c ∧ c ≤ 56) ∧ (m = 0 ∨ 1 ≤ m ∧ m ≤ 15) ∧ (c ≠ 0 ∨ m ≠ 0)) ∨
 ((k = 3 ∨ k = 4) ∧ c = 0 ∧ m = 0 ∧ 1 ≤ n ∧ n ≤ 3) ∨
 ((k = 5 ∨ k = 9) ∧ c = 0 ∧ m = 0 ∧ 0 ≤ n ∧ n ≤ 3) ∨
 (k = 6 ∧ 1 ≤ c ∧ c ≤ 56 ∧ 1 ≤ m ∧ m ≤ 15 ∧ n = 0) ∨
 (k = 7 ∧ 1 ≤ c ∧ c ≤ 56 ∧ m = 0 ∧ 1 ≤ n ∧ n ≤ 3) ∨
 (k = 8 ∧ c = 0 ∧ 1 ≤ m ∧ m ≤ 15 ∧ n = 0)
noncomputable def Vd (a : Db) : Bool := open Classical in decide (Ee a.1 a.2.1 a.2.2.1 a.2.2.2.1)
theorem Nc (a : Db) : Vd a = true ↔ Ee a.1 a.2.1 a.2.2.1 a.2.2.2.1 := by simp [Vd]
theorem PX (c : Int) : AB c = some (decide (1 ≤ c ∧ c ≤ 56), ()) := by
 simp only [AB, Kh, Lh]
 apply Zc; simp only [Pd, decide_eq_true_eq, XY, YT, jq, and_false, false_and, or_false, false_or, and_true, true_and, not_true_eq_false, not_false_eq_true]; try omega
theorem QX (c : Int) : Lt c = some (decide (1 ≤ c ∧ c ≤ 15), ()) := by
 simp only [Lt, Kh, Lh]
 apply Zc; simp only [Pd, decide_eq_true_eq, XY, YT, jq, and_false, false_and, or_false, false_or, and_true, true_and, not_true_eq_false, not_false_eq_true]; try omega
theorem ZV (c : Int) : Zv c = some (decide (1 ≤ c ∧ c ≤ 3), ()) := by
 simp only [Zv, Kh, Lh]
 apply Zc; simp only [Pd, decide_eq_true_eq, XY, YT, jq, and_false, false_and, or_false, false_or, and_true, true_and, not_true_eq_false, not_false_eq_true]; try omega
theorem Oc (c a b : Int) : Tb c a b = some (decide (a ≤ c ∧ c ≤ b), ()) := by
 simp only [Tb, Kh, Lh]
 apply Zc; simp only [Pd, decide_eq_true_eq, XY, YT, jq, and_false, false_and, or_false, false_or, and_true, true_and, not_true_eq_false, not_false_eq_true]; try omega
theorem Zx (a : Db) : Vk a = some (Vd a, ()) := by
 obtain ⟨k, c, m, n, u⟩ := a
 have key : ∀ k c m n : Int, Vk (k, c, m, n, u) = some (Vd (k, c, m, n, u), ()) := by
  intro k c m n
  simp only [Vk, PX, QX, ZV, Oc, jb, Kh, Lh]
  by_cases h0 : k = 0
  ·subst h0; apply Zc; rw [Nc]; simp [Ee, Pd]; try omega
  by_cases h1 : k = 1
  ·subst h1; apply Zc; rw [Nc]; simp [Ee, Pd]; try omega
  by_cases h2 : k = 2
  ·subst h2; apply Zc; rw [Nc]; simp [Ee, Pd]; intro hn; (repeat' split) <;> omega
  by_cases h3 : k = 3
  ·subst h3; apply Zc; rw [Nc]; simp [Ee, Pd]; try omega
  by_cases h4 : k = 4
  ·subst h4; apply Zc; rw [Nc]; simp [Ee, Pd]; try omega
  by_cases h5 : k = 5
  ·subst h5; apply Zc; rw [Nc]; simp [Ee, Pd]; try omega
  by_cases h6 : k = 6
  ·subst h6; apply Zc; rw [Nc]; simp [Ee, Pd]; try omega
  by_cases h7 : k = 7
  ·subst h7; apply Zc; rw [Nc]; simp [Ee, Pd]; try omega
  by_cases h8 : k = 8
  ·subst h8; apply Zc; rw [Nc]; simp [Ee, Pd]; try omega
  by_cases h9 : k = 9
  ·subst h9; apply Zc; rw [Nc]; simp [Ee, Pd]; try omega
  by_cases h10 : k = 10
  ·subst h10; apply Zc; rw [Nc]; simp [Ee, Pd]; try omega
  have g : ∀ j : Int, (k == j) = decide (k = j) := fun j => by rw [qz]; simp
  apply Zc; rw [Nc]; simp [Ee, Pd, h0, h1, h2, h3, h4, h5, h6, h7, h8, h9, h10]
 exact key k c m n
theorem Bz (a : Db) : Xk a = some (Vd a, ()) := by
 obtain ⟨k, c, m, n, u⟩ := a
 have key : ∀ k c m n : Int, Xk (k, c, m, n, u) = some (Vd (k, c, m, n, u), ()) := by
  intro k c m n
  simp only [Xk, PX, QX, ZV, Oc, jb, Kh, Lh]
  by_cases h0 : k = 0
  ·subst h0; apply Zc; rw [Nc]; simp [Ee, Pd]; try omega
  by_cases h1 : k = 1
  ·subst h1; apply Zc; rw [Nc]; simp [Ee, Pd]; try omega
  by_cases h2 : k = 2
  ·subst h2; apply Zc; rw [Nc]; simp [Ee, Pd]; intro hn; (repeat' split) <;> omega
  by_cases h3 : k = 3
  ·subst h3; apply Zc; rw [Nc]; simp [Ee, Pd]; try omega
  by_cases h4 : k = 4
  ·subst h4; apply Zc; rw [Nc]; simp [Ee, Pd]; try omega
  by_cases h5 : k = 5
  ·subst h5; apply Zc; rw [Nc]; simp [Ee, Pd]; try omega
  by_cases h6 : k = 6
  ·subst h6; apply Zc; rw [Nc]; simp [Ee, Pd]; try omega
  by_cases h7 : k = 7
  ·subst h7; apply Zc; rw [Nc]; simp [Ee, Pd]; try omega
  by_cases h8 : k = 8
  ·subst h8; apply Zc; rw [Nc]; simp [Ee, Pd]; try omega
  by_cases h9 : k = 9
  ·subst h9; apply Zc; rw [Nc]; simp [Ee, Pd]; try omega
  by_cases h10 : k = 10
  ·subst h10; apply Zc; rw [Nc]; simp [Ee, Pd]; try omega
  have g : ∀ j : Int, (k == j) = decide (k = j) := fun j => by rw [qz]; simp
  apply Zc; rw [Nc]; simp [Ee, Pd, h0, h1, h2, h3, h4, h5, h6, h7, h8, h9, h10]
 exact key k c m n
noncomputable def Gl (nl : Nat) (i : Nat) (a : Db) : Bool := Vd a && !(((i : Int) == 0) && (a.1 == 1)) && !((a.1 != 9) && decide (a.2.2.2.1 ≥ (nl : Int)))
noncomputable def Jp (keys : Int) (nl : Nat) (i : Nat) (l : List Db) : Bool := ((ja l : Int) == keys) && Le (fun _ a => Gl nl i a) 0 l
noncomputable def Ei (m : Ac) : Bool :=
 decide (1 ≤ m.1 ∧ m.1 ≤ 32) && decide (1 ≤ m.2.1.length ∧ m.2.1.length ≤ 4) && Le (fun i l => Jp m.1 m.2.1.length i l) 0 m.2.1
theorem G8 (m : Ac) (i : Nat) (l : List Db) (L : List (List Db)) (n : Int) (t : Int) (hl : l.length < 9223372036854775807) :
 Tn (((), (i : Int), L, n, t, l, (l.length : Int), (0 : Int), ()), (m, ())) =
  some (cond (Le (fun _ a => Gl m.2.1.length i a) 0 l) (.inl (((), L, n, t, ()), (m, ()))) (.inr ((false, ()), ()))) := by
 unfold Tn
 refine Nf (step := _) l (fun _ a => Gl m.2.1.length i a) (fun j => (((), (i : Int), L, n, t, l, (l.length : Int), j, ()), (m, ()))) _ _ ?_ ?_ hl
 ·intro k hk
  simp only [BI]
  rw [Ba (show (k : Int) < (l.length : Int) by omega), Cb hk]
  simp only [cond_true, jb, Gl, Zx]
  cases Vd l[k] <;> cases ((i : Int) == 0) <;> cases (l[k].1 == 1) <;> cases (l[k].1 != 9) <;> cases decide (l[k].2.2.2.1 ≥ (m.2.1.length : Int)) <;> rfl
 ·simp [BI]
theorem KU (m : Ac) (hz : Ha Dc m ≤ Ea) : DA m = some (Ei m, ()) := by
 have h20 : Ea = 1048576 := rfl
 have hz' : m.2.1.length + (List.map (Ha (.sl Ub)) m.2.1).sum ≤ Ea := by
  have : Ha Dc m = Ha (.sl (.sl Ub)) m.2.1 := by simp only [Ha, Nat.add_zero, js]
  rw [this] at hz; exact hz
 have hl : ∀ k (hk : k < m.2.1.length), m.2.1[k].length ≤ Ea := by
  intro k hk
  have := Tz (f := Ha (.sl Ub)) hk
  have h2 : m.2.1[k].length ≤ Ha (.sl Ub) m.2.1[k] := Nat.le_add_right _ _
  omega
 have hloop : Sn (((), m.2.1, ((ja m.2.1 : Nat) : Int), (0 : Int), ()), (m, ())) =
  some (cond (Le (fun i l => Jp m.1 m.2.1.length i l) 0 m.2.1) (.inl ((), ())) (.inr ((false, ()), ()))) := by
  unfold Sn
  refine Nf (step := _) m.2.1 (fun i l => Jp m.1 m.2.1.length i l) (fun j => (((), m.2.1, ((ja m.2.1 : Nat) : Int), j, ()), (m, ()))) _ _ ?_ ?_ (by omega)
  ·intro k hk
   have := hl k hk
   simp only [AI]
   rw [Ba (show (k : Int) < (m.2.1.length : Int) by omega), Cb hk]
   simp only [cond_true, jb, Jp]
   rw [G8 m k _ _ _ _ (by omega)]
   show (cond (!((m.2.1[k].length : Int) == m.1)) _ _) = _
   cases ((m.2.1[k].length : Int) == m.1) <;> cases Le (fun _ a => Gl m.2.1.length k a) 0 m.2.1[k] <;> rfl
  ·simp [AI]
 unfold DA
 rw [hloop]
 simp only [jb, Vae, Kh, Lh]
 apply Zc
 simp only [Pd, Ei, jd, decide_eq_true_eq, jq, and_false, false_or, and_true, or_false]
 generalize Le (fun i l => Jp m.1 m.2.1.length i l) 0 m.2.1 = b
 constructor
 ·rintro ⟨h1, h2, h3, h4, h5⟩; exact ⟨⟨by omega, by omega⟩, h5⟩
 ·rintro ⟨⟨h1, h2⟩, h5⟩; exact ⟨by omega, by omega, by omega, by omega, h5⟩
theorem H9 (m : Ac) (i : Nat) (hi : i < m.2.1.length) (hl : m.2.1[i].length < 9223372036854775807) :
 Io (((), (i : Int), (0 : Int), ()), (m, ())) =
  some (cond (Le (fun _ a => Gl m.2.1.length i a) 0 m.2.1[i]) (.inl (((), (i : Int), ()), (m, ()))) (.inr ((false, ()), ()))) := by
 unfold Io
 refine Nf (step := _) m.2.1[i] (fun _ a => Gl m.2.1.length i a) (fun j => (((), (i : Int), j, ()), (m, ()))) _ _ ?_ ?_ hl
 ·intro k hk
  simp only [NI]
  rw [Cb hi]
  simp only [jb]
  rw [Ba (show (k : Int) < (m.2.1[i].length : Int) by omega), Cb hk]
  simp only [cond_true, jb, Gl, Bz]
  cases Vd m.2.1[i][k] <;> cases ((i : Int) == 0) <;> cases (m.2.1[i][k].1 == 1) <;> cases (m.2.1[i][k].1 != 9) <;> cases decide (m.2.1[i][k].2.2.2.1 ≥ (m.2.1.length : Int)) <;> rfl
 ·simp [NI, Cb hi]
theorem DV (m : Ac) (hz : Ha Dc m ≤ Ea) : RA m = some (Ei m, ()) := by
 have h20 : Ea = 1048576 := rfl
 have hz' : m.2.1.length + (List.map (Ha (.sl Ub)) m.2.1).sum ≤ Ea := by
  have : Ha Dc m = Ha (.sl (.sl Ub)) m.2.1 := by simp only [Ha, Nat.add_zero, js]
  rw [this] at hz; exact hz
 have hl : ∀ k (hk : k < m.2.1.length), m.2.1[k].length ≤ Ea := by
  intro k hk
  have := Tz (f := Ha (.sl Ub)) hk
  have h2 : m.2.1[k].length ≤ Ha (.sl Ub) m.2.1[k] := Nat.le_add_right _ _
  omega
 have hloop : Ho (((), (0 : Int), ()), (m, ())) =
  some (cond (Le (fun i l => Jp m.1 m.2.1.length i l) 0 m.2.1) (.inl (((), ()), (m, ()))) (.inr ((false, ()), ()))) := by
  unfold Ho
  refine Nf (step := _) m.2.1 (fun i l => Jp m.1 m.2.1.length i l) (fun j => (((), j, ()), (m, ()))) _ _ ?_ ?_ (by omega)
  ·intro k hk
   have := hl k hk
   simp only [MI]
   rw [Ba (show (k : Int) < (m.2.1.length : Int) by omega), Cb hk]
   simp only [cond_true, jb, Jp]
   rw [H9 m k hk (by omega)]
   show (cond (!((m.2.1[k].length : Int) == m.1)) _ _) = _
   cases ((m.2.1[k].length : Int) == m.1) <;> cases Le (fun _ a => Gl m.2.1.length k a) 0 m.2.1[k] <;> rfl
  ·simp [MI]
 unfold RA
 rw [hloop]
 simp only [jb, Vae, Kh, Lh, Oc]
 apply Zc
 simp only [Pd, Ei, jd, decide_eq_true_eq, jq, and_false, false_or, and_true, or_false]
 generalize Le (fun i l => Jp m.1 m.2.1.length i l) 0 m.2.1 = b
 constructor
 ·rintro ⟨h1, h2, h3⟩; exact ⟨⟨by omega, by omega⟩, h1⟩
 ·rintro ⟨⟨h1, h2⟩, h5⟩; exact ⟨h5, by omega, by omega⟩
theorem Ml {n : Nat} (h : n ≤ 62) : Ra .i64 1 (n : Int) = ((2 ^ n : Nat) : Int) := by
 unfold Ra
 have h1 : min (jy (n : Int)) (IntKind.bits .i64) = n := by
  show min (jy (n : Int)) 64 = n
  rw [jn]; omega
 rw [h1, Int.one_mul]
 have h2 : (2 : Int) ^ n = ((2 ^ n : Nat) : Int) := by simp
 have h3 : 2 ^ n ≤ 2 ^ 62 := qn (by omega) h
 rw [h2]
 clear h1 h2
 generalize 2 ^ n = z at h3
 rw [Je (by omega) (by omega)]
structure QP (m : Ac) : Prop where
 k1 : 1 ≤ m.1
 k2 : m.1 ≤ 32
 l1 : 1 ≤ m.2.1.length
 l2 : m.2.1.length ≤ 4
 row : ∀ i (h : i < m.2.1.length), (m.2.1[i].length : Int) = m.1
 act : ∀ i (h : i < m.2.1.length) k (hk : k < m.2.1[i].length), Gl m.2.1.length i m.2.1[i][k] = true
theorem Uj {m : Ac} (h : Ei m = true) : QP m := by
 simp only [Ei, jd, decide_eq_true_eq] at h
 obtain ⟨⟨h1, h2⟩, h3⟩ := h
 rw [GE] at h3
 refine ⟨h1.1, h1.2, h2.1, h2.2, fun i hi => ?_, fun i hi k hk => ?_⟩
 ·have := h3 i hi
  simp only [js, Jp, jd, beq_iff_eq] at this
  exact this.1
 ·have := h3 i hi
  simp only [js, Jp, jd, beq_iff_eq] at this
  have := GE.1 this.2 k hk
  simpa using this
theorem D3 {nl i : Nat} {a : Db} (h : Gl nl i a = true) : Vd a = true := by
 simp only [Gl, jd] at h
 exact h.1.1
theorem C5 {nl i : Nat} {a : Db} (h : Gl nl i a = true) (hk : a.1 ≠ 9) : a.2.2.2.1 < (nl : Int) := by
 simp only [Gl, jd, Bool.not_eq_true', Bool.and_eq_false_iff] at h
 rcases h.2 with h | h
 ·simp at h; exact absurd h hk
 ·simpa using h
def Kd (m k : Int) : Int := Wa .i64 (Wb .i64 m k) 1
theorem Ul (m : Int) {k : Int} (h : 0 ≤ k) : Ye m k = some (Kd m k, ()) := by
 unfold Ye
 rw [Ba h]; rfl
def Tbp : Db := (0, 0, 0, 0, ())
def Rl (L : List (List Db)) (i k : Nat) : Db := (L.getD i []).getD k Tbp
theorem H7 {L : List (List Db)} {i k : Nat} (hi : i < L.length) (hk : k < L[i].length) : Rl L i k = L[i][k] := by
 simp [Rl, qj, hi, hk]
theorem Taj {α : Type} {L : List (List Db)} {i k : Nat} (hi : i < L.length) (hk : k < L[i].length) (K : Db → Option α) :
 (jz (Xa L (i : Int)) fun x => jz (Xa x (k : Int)) K) = K (Rl L i k) := by
 rw [Cb hi]
 simp only [jb]
 rw [Cb hk, H7 hi hk]
 rfl
def Jg (L : List (List Db)) (on : Int) (k : Nat) : Nat → Nat
 | 0 => 0
 | n + 1 => cond ((Kd on ((n + 1 : Nat) : Int) == 1) && ((Rl L (n + 1) k).1 != 1)) (n + 1) (Jg L on k n)
theorem Y2 {L : List (List Db)} {on : Int} {k : Nat} : ∀ n, Jg L on k n ≤ n
 | 0 => jo _
 | n + 1 => by
  simp only [Jg]
  cases ((Kd on ((n + 1 : Nat) : Int) == 1) && ((Rl L (n + 1) k).1 != 1)) with
  | true => exact jo _
  | false => exact Nat.le_succ_of_le (Y2 n)
theorem BW {m : Ac} (hm : QP m) (on : Int) {k : Nat} (hk : (k : Int) < m.1) : ∀ n : Nat, n < m.2.1.length →
 Zi ((on, (k : Int), (), (n : Int), ()), (m, ())) = some (cond (Jg m.2.1 on k n == 0) (.inl ((), ())) (.inr ((((Jg m.2.1 on k n : Nat) : Int), ()), ())))
 | 0, _ => by
  unfold Zi
  rw [SO]
  rfl
 | n + 1, h => by
  have hrow := hm.row (n + 1) h
  unfold Zi
  rw [SO]
  simp only [MU]
  rw [Ba (show (((n + 1 : Nat) : Int)) > 0 by omega), Ul on (show (0 : Int) ≤ ((n + 1 : Nat) : Int) by omega)]
  simp only [cond_true, jb]
  rw [Taj h (by omega), Je (by have := hm.l2; omega) (by have := hm.l2; omega), show (((n + 1 : Nat) : Int) - 1) = (n : Int) by omega]
  have ih := BW hm on hk n (by omega)
  unfold Zi at ih
  simp only [Jg]
  cases h1 : (Kd on ((n + 1 : Nat) : Int) == 1) with
  | false =>
   simp only [qq, cond_false, jb, ql]
   exact ih
  | true =>
   cases h2 : ((Rl m.2.1 (n + 1) k).1 != 1) with
   | true => rfl
   | false =>
    simp only [Bool.and_false, cond_true, cond_false, jb, ql]
    exact ih
theorem AW {m : Ac} (hm : QP m) (on : Int) {k : Nat} (hk : (k : Int) < m.1) :
 VE m on (k : Int) = some (((Jg m.2.1 on k (m.2.1.length - 1) : Nat) : Int), ()) := by
 have h1 := hm.l1
 have h2 := hm.l2
 unfold VE
 rw [Je (by omega) (by omega), show ((m.2.1.length : Int) - 1) = ((m.2.1.length - 1 : Nat) : Int) by omega, BW hm on hk _ (by omega)]
 cases h : (Jg m.2.1 on k (m.2.1.length - 1) == 0) with
 | false => rfl
 | true =>
  have h' : Jg m.2.1 on k (m.2.1.length - 1) = 0 := by simpa using h
  rw [h']; rfl
theorem PW {m : Ac} (hm : QP m) (on : Int) {k : Nat} (hk : (k : Int) < m.1) : ∀ n : Nat, n < m.2.1.length →
 Aj ((on, (k : Int), (), (n : Int), ()), (m, ())) = some (cond (Jg m.2.1 on k n == 0) (.inl ((), ())) (.inr ((((Jg m.2.1 on k n : Nat) : Int), ()), ())))
 | 0, _ => by
  unfold Aj
  rw [SO]
  rfl
 | n + 1, h => by
  have hrow := hm.row (n + 1) h
  unfold Aj
  rw [SO]
  simp only [FV]
  rw [Ba (show (((n + 1 : Nat) : Int)) > 0 by omega), Ba (show (0 : Int) ≤ ((n + 1 : Nat) : Int) by omega)]
  simp only [cond_true]
  rw [Taj h (by omega), Je (by have := hm.l2; omega) (by have := hm.l2; omega), show (((n + 1 : Nat) : Int) - 1) = (n : Int) by omega]
  have ih := PW hm on hk n (by omega)
  unfold Aj at ih
  simp only [Jg]
  show jz (cond (Kd on ((n + 1 : Nat) : Int) == 1) _ _) _ = _
  cases h1 : (Kd on ((n + 1 : Nat) : Int) == 1) with
  | false =>
   simp only [qq, cond_false, jb, ql]
   exact ih
  | true =>
   cases h2 : ((Rl m.2.1 (n + 1) k).1 != 1) with
   | true => rfl
   | false =>
    simp only [Bool.and_false, cond_true, cond_false, jb, ql]
    exact ih
def Vj (m : Ac) (on : Int) (k : Nat) : Nat := Jg m.2.1 on k (m.2.1.length - 1)
theorem CW {m : Ac} (hm : QP m) (on : Int) (k : Nat) : Vj m on k < m.2.1.length := by
 have := Y2 (L := m.2.1) (on := on) (k := k) (m.2.1.length - 1)
 have := hm.l1
 unfold Vj
 omega
theorem Vab {m : Ac} (hz : Ha Dc m ≤ Ea) (hv : Ei m = true) (on : Int) {k : Nat} (hk : (k : Int) < m.1) :
 ZO m on (k : Int) = some (((Vj m on k : Nat) : Int), ()) := by
 have hm := Uj hv
 have h1 := hm.l1
 have h2 := hm.l2
 have h3 := hm.k2
 unfold ZO
 rw [DV m hz, hv, Je (n := m.1 - 1) (by omega) (by omega)]
 simp only [jb, jg, cond_false, Oc]
 rw [Ba (show (0 : Int) ≤ (k : Int) ∧ (k : Int) ≤ m.1 - 1 by omega), Je (by omega) (by omega), show ((m.2.1.length : Int) - 1) = ((m.2.1.length - 1 : Nat) : Int) by omega, PW hm on hk _ (by omega)]
 simp only [jg, cond_false, jb]
 show _ = some (((Jg m.2.1 on k (m.2.1.length - 1) : Nat) : Int), ())
 cases h : (Jg m.2.1 on k (m.2.1.length - 1) == 0) with
 | false => rfl
 | true =>
  have h' : Jg m.2.1 on k (m.2.1.length - 1) = 0 := by simpa using h
  rw [h']; rfl
theorem ZU {m : Ac} (hz : Ha Dc m ≤ Ea) (hv : Ei m = true) (on : Int) {k : Nat} (hk : (k : Int) < m.1) :
 MA m on (k : Int) = some (Rl m.2.1 (Vj m on k) k, ()) := by
 have hm := Uj hv
 have hl := CW hm on k
 have hrow := hm.row _ hl
 unfold MA
 rw [Vab hz hv on hk]
 simp only [jb]
 rw [Aa (by omega)]
 simp only [cond_false]
 rw [Taj hl (by omega)]
noncomputable def Gg (a : Db) : Bool := Vd a && ((a.1 == 6) || (a.1 == 7))
noncomputable def IS (a : Db) : Db := cond (Gg a) (2, a.2.1, 0, 0, ()) a
noncomputable def EQ (a : Db) : Db := cond (Gg a) (cond (a.1 == 6) (2, 0, a.2.2.1, 0, ()) (3, 0, 0, a.2.2.2.1, ())) a
theorem DI (a : Db) : Uo a = some (Gg a, ()) := by
 unfold Uo Gg
 rw [Zx]
 cases Vd a <;> cases (a.1 == 6) <;> rfl
theorem Dv (a : Db) : Ol a = some (Gg a, ()) := by
 unfold Ol Gg
 rw [Bz]
 cases Vd a <;> cases (a.1 == 6) <;> rfl
theorem Yaf (a : Db) : IT a = some (IS a, ()) := by
 unfold IT IS
 rw [DI]
 cases Gg a <;> rfl
theorem Nag (a : Db) : NT a = some (IS a, ()) := by
 unfold NT IS
 rw [Dv]
 cases Gg a <;> rfl
theorem Aae (a : Db) : KR a = some (EQ a, ()) := by
 unfold KR EQ
 rw [Dv]
 cases Gg a <;> cases (a.1 == 6) <;> rfl
def Td {α : Type} (p : α → Bool) : Nat → List α → Int
 | _, [] => -1
 | k, x :: xs => cond (p x) (k : Int) (Td p (k + 1) xs)
def Hn {α β : Type} : α ⊕ β → Bool
 | .inl _ => true
 | .inr _ => false
noncomputable def GH (s : Int) (x : Sa) : Bool := decide (0 ≤ x.1 ∧ x.1 ≤ 31) && (!(Kd s x.1 == 1) && (Vd x.2.1 && (!(x.2.1.1 == 1) && (!(x.2.1.1 == 6) && !(x.2.1.1 == 7)))))
noncomputable def AC (s : Int) (x : Sa) : Int ⊕ Unit := cond (GH s x) (.inl (Pc .i64 s (Ra .i64 1 x.1))) (.inr ())
noncomputable def Aai (l : List Sa) : Int ⊕ Unit := Tc (fun _ s x => AC s x) 0 0 l
noncomputable def Rf (l : List Sa) : Bool := Hn (Aai l)
theorem LG (l : List Sa) (hn : l.length ≤ Ea) : Tl l = some (Rf l, ()) := by
 have h20 : Ea = 1048576 := rfl
 have hl := Mg (step := fun x => CC x.1.1 x.1.2.1 x.1.2.2.1 x.1.2.2.2.1) l (fun _ s x => AC s x) (fun s i => ((s, l, ((ja l : Nat) : Int), i, ()), ()))
  (fun _ => .inl ((), ())) (fun _ => .inr ((false, ()), ())) (fun _ _ => True) (by
   intro k hk s _
   refine ⟨?_, fun _ _ => trivial⟩
   simp only [CC]
   rw [Ba (show (k : Int) < (ja l : Int) by omega), Cb hk]
   simp only [cond_true, jb]
   generalize l[k] = x
   simp only [AC, GH, Zx, jb]
   by_cases h1 : 0 ≤ x.1
   ·rw [Aa (show ¬ x.1 < 0 by omega), Ul s h1]
    by_cases h2 : x.1 ≤ 31
    ·rw [Aa (show ¬ x.1 > 31 by omega), Ba (show 0 ≤ x.1 ∧ x.1 ≤ 31 from ⟨h1, h2⟩), Ba h1]
     simp only [jb, cond_false]
     cases Kd s x.1 == 1 <;> cases Vd x.2.1 <;> cases x.2.1.1 == 1 <;> cases x.2.1.1 == 6 <;> cases x.2.1.1 == 7 <;> rfl
    ·rw [Ba (show x.1 > 31 by omega), Aa (show ¬ (0 ≤ x.1 ∧ x.1 ≤ 31) by omega)]; rfl
   ·rw [Ba (show x.1 < 0 by omega), Aa (show ¬ (0 ≤ x.1 ∧ x.1 ≤ 31) by omega)]; rfl)
  (by
   intro s _
   simp only [CC]
   rw [Aa (by omega)]; rfl) (by omega) 0 trivial
 unfold Tl PE
 erw [hl]
 show jz (some _) _ = _
 simp only [jb, Rf, Aai]
 cases Tc (fun x s x => AC s x) 0 0 l <;> rfl
theorem MH (l : List Sa) (hn : l.length ≤ Ea) : Pt l = some (Rf l, ()) := by
 have h20 : Ea = 1048576 := rfl
 have hl := Mg (step := fun x => ID x.1.1 x.1.2.1 x.1.2.2.1) l (fun _ s x => AC s x) (fun s i => ((l, s, i, ()), ()))
  (fun _ => .inl ((), ())) (fun _ => .inr ((false, ()), ())) (fun _ _ => True) (by
   intro k hk s _
   refine ⟨?_, fun _ _ => trivial⟩
   simp only [ID]
   rw [Ba (show (k : Int) < (ja l : Int) by omega), Cb hk]
   simp only [cond_true, jb]
   generalize l[k] = x
   simp only [AC, GH, Bz, Dv, Oc, jb, Gg]
   by_cases h1 : 0 ≤ x.1 ∧ x.1 ≤ 31
   ·rw [Ba h1, Ba h1.1]
    simp only [Kd]
    cases Wa .i64 (Wb .i64 s x.1) 1 == 1 <;> cases Vd x.2.1 <;> cases x.2.1.1 == 1 <;> cases x.2.1.1 == 6 <;> cases x.2.1.1 == 7 <;> rfl
   ·rw [Aa h1]; rfl)
  (by
   intro s _
   simp only [ID]
   rw [Aa (by omega)]; rfl) (by omega) 0 trivial
 unfold Pt RF
 erw [hl]
 show jz (some _) _ = _
 simp only [jb, Rf, Aai]
 cases Tc (fun x s x => AC s x) 0 0 l <;> rfl
structure Jv (x : Sa) : Prop where
 lo : 0 ≤ x.1
 hi : x.1 ≤ 31
 act : Vd x.2.1 = true
 n1 : x.2.1.1 ≠ 1
 n6 : x.2.1.1 ≠ 6
 n7 : x.2.1.1 ≠ 7
theorem KaD {s : Int} {x : Sa} (h : GH s x = true) : Jv x ∧ Kd s x.1 ≠ 1 := by
 simp only [GH, jd, decide_eq_true_eq, Bool.not_eq_true', beq_eq_false_iff_ne] at h
 exact ⟨⟨h.1.1, h.1.2, h.2.2.1, h.2.2.2.1, h.2.2.2.2.1, h.2.2.2.2.2⟩, h.2.1⟩
theorem Saj : ∀ {l : List Sa} {k : Nat} {s : Int}, Hn (Tc (fun _ s x => AC s x) k s l) = true → ∀ x ∈ l, Jv x
 | [], _, _, _, x, hx => by simp at hx
 | y :: l, k, s, h, x, hx => by
  simp only [Tc, AC] at h
  cases hc : GH s y with
  | false => rw [hc] at h; simp [Hn] at h
  | true =>
   rw [hc] at h
   simp only [cond_true] at h
   rcases jp.1 hx with rfl | hx
   ·exact (KaD hc).1
   ·exact Saj h x hx
theorem Mo {l : List Sa} (h : Rf l = true) : ∀ x ∈ l, Jv x := Saj h
def Uu (l : List Sa) : Int := Qd (fun _ s (x : Sa) => Pc .i64 s (Ra .i64 1 x.1)) 0 0 l
theorem LL (l : List Sa) (hn : l.length ≤ Ea) (hx : ∀ x ∈ l, Jv x) : Ym l = some (Uu l, ()) := by
 have h20 : Ea = 1048576 := rfl
 have hl := (De (step := fun x => Ju x.1.1 x.1.2.1 x.1.2.2.1 x.1.2.2.2.1) l (fun _ s (x : Sa) => Pc .i64 s (Ra .i64 1 x.1)) (fun s i => ((s, l, ((ja l : Nat) : Int), i, ()), ()))
  (fun s => .inl ((s, ()), ())) (fun _ _ => True) (by
   intro k hk s _
   refine ⟨?_, trivial⟩
   simp only [Ju]
   rw [Ba (show (k : Int) < (ja l : Int) by omega), Cb hk]
   simp only [cond_true, jb]
   rw [Ba (hx _ (qt hk)).lo]; rfl)
  (by
   intro s _
   simp only [Ju]
   rw [Aa (by omega)]; rfl) (by omega) 0 trivial).1
 unfold Ym Jy
 erw [hl]
 rfl
theorem Oaa {α β : Type} (p : β → Bool) (f : α → β) : ∀ (xs : List α) (k : Nat), Td p k (xs.map f) = Td (fun x => p (f x)) k xs
 | [], _ => rfl
 | x :: xs, k => by simp only [List.map_cons, Td, Oaa p f xs]
theorem Dx {α : Type} (p : α → Bool) : ∀ (xs : List α) (k : Nat), Td p k xs = -1 ∨ ∃ j : Nat, j < xs.length ∧ Td p k xs = ((k + j : Nat) : Int)
 | [], _ => .inl rfl
 | x :: xs, k => by
  simp only [Td]
  cases p x with
  | true => exact .inr ⟨0, by simp, by simp⟩
  | false =>
   rcases Dx p xs (k + 1) with h | ⟨j, h1, h2⟩
   ·exact .inl h
   ·exact .inr ⟨j + 1, by simp; omega, by simp only [cond_false]; rw [h2]; omega⟩
theorem E2 {α : Type} (p : α → Bool) : ∀ (xs : List α) (k : Nat), (Tc (fun k (_ : Unit) x => cond (p x) (.inr (k : Int)) (.inl ())) k () xs : Unit ⊕ Int) = if Td p k xs = -1 then .inl () else .inr (Td p k xs)
 | [], _ => rfl
 | x :: xs, k => by
  rcases Bool.eq_false_or_eq_true (p x) with hp | hp
  ·simp only [Tc, Td, hp, cond_true]; rw [if_neg (by omega)]
  ·simp only [Tc, Td, hp, cond_false]; exact E2 p xs (k + 1)
theorem BB {X R α : Type} {step : X → Option (X ⊕ R)} (xs : List α) (p : α → Bool) (I : Int → X) (no : R) (yes : Int → R)
 (h : ∀ k (hk : k < xs.length), step (I (k : Int)) = some (cond (p xs[k]) (.inr (yes (k : Int))) (.inl (I (j5 .i64 ((k : Int) + 1))))))
 (he : step (I (xs.length : Int)) = some (.inr no)) (hn : xs.length < 9223372036854775807) :
 Ta step (I 0) = some (if Td p 0 xs = -1 then no else yes (Td p 0 xs)) := by
 have := Mg (step := step) xs (fun k (_ : Unit) x => cond (p x) (.inr (k : Int)) (.inl ())) (fun _ i => I i) (fun _ => no) yes (fun _ _ => True) (fun k hk s _ => by
  refine ⟨?_, fun _ _ => trivial⟩
  rw [h k hk]
  cases p xs[k] <;> rfl) (fun _ _ => he) hn () trivial
 rw [this, E2]
 by_cases hc : Td p 0 xs = -1
 ·rw [if_pos hc, if_pos hc]
 ·rw [if_neg hc, if_neg hc]
def Ge (h : Sa) : Va := (h.2.1.2.1, h.2.1.2.2.1, ())
def Dj (c m : Int) (h : Sa) : Bool := (h.2.1.2.1 == c) && (h.2.1.2.2.1 == m)
theorem RX (l : List Va) (c : Va) (hn : l.length ≤ Ea) : YI l c = some (Td (fun x => ZB Xb x c) 0 l, ()) := by
 have h20 : Ea = 1048576 := rfl
 have hl := BB (step := fun x => NC x.1.1 x.1.2.1 x.1.2.2.1 x.1.2.2.2.1 x.2.1) l (fun x => ZB Xb x c) (fun i => (((), l, ((ja l : Nat) : Int), i, ()), (c, ())))
  (.inl ((), ())) (fun i => .inr ((i, ()), ())) (by
   intro k hk
   simp only [NC]
   rw [Ba (show (k : Int) < (ja l : Int) by omega), Cb hk]
   simp only [cond_true, jb]
   cases ZB Xb l[k] c <;> rfl) (by
   simp only [NC]
   rw [Aa (by omega)]; rfl) (by omega)
 unfold YI WE
 erw [hl]
 simp only [jb]
 by_cases hc : Td (fun x => ZB Xb x c) 0 l = -1
 ·rw [if_pos hc, hc]; rfl
 ·rw [if_neg hc]; rfl
theorem QQ (l : List Sa) (x : Ad) (hn : l.length ≤ Ea) : Po l x = some (Td (Dj x.2.1 x.2.2.1) 0 l, ()) := by
 have h20 : Ea = 1048576 := rfl
 have hl := BB (step := fun y => WD y.1.1 y.1.2.1 y.1.2.2.1 y.2.1) l (Dj x.2.1 x.2.2.1) (fun i => ((l, (), i, ()), (x, ())))
  (.inl ((), ())) (fun i => .inr ((i, ()), ())) (by
   intro k hk
   simp only [WD]
   rw [Ba (show (k : Int) < (ja l : Int) by omega), Cb hk]
   simp only [cond_true, jb, Dj]
   cases l[k].2.1.2.1 == x.2.1 <;> cases l[k].2.1.2.2.1 == x.2.2.1 <;> rfl) (by
   simp only [WD]
   rw [Aa (by omega)]; rfl) (by omega)
 unfold Po CG
 erw [hl]
 simp only [jb]
 by_cases hc : Td (Dj x.2.1 x.2.2.1) 0 l = -1
 ·rw [if_pos hc, hc]; rfl
 ·rw [if_neg hc]; rfl
theorem Oab (L : List Sa) (c m : Int) : Td (fun x => ZB Xb x (c, m, ())) 0 (L.map Ge) = Td (Dj c m) 0 L := by
 rw [Oaa]
 congr 1
 funext h
 simp only [Ge, ZB, Dj, Bool.and_true]
def Xh {α : Type} (l : List α) (r : Nat) : List α := jf (Gb l 0 r) (Gb l (r + 1) l.length)
theorem C7 {α : Type} {l : List α} {r : Nat} (h : r < l.length) : (Xh l r).length = l.length - 1 := by
 simp [Xh, Gb]; omega
theorem D7 {α β : Type} (f : α → β) (l : List α) (r : Nat) : Xh (l.map f) r = (Xh l r).map f := by
 simp [Xh, Gb, List.map_take, List.map_drop]
 rw [List.take_of_length_le (by simp)]
theorem Y1 {α : Type} {l : List α} {r : Nat} (h : r < l.length) : Ld (ja l) 0 (r : Int) = true ∧ Ld (ja l) ((r + 1 : Nat) : Int) ((ja l : Nat) : Int) = true := by
 simp only [Ld, jd, decide_eq_true_eq]
 omega
theorem PI (l : List Sa) {r : Nat} (h : r < l.length) (hn : l.length ≤ Ea) : Rg l (r : Int) = some (Xh l r, ()) := by
 have h20 : Ea = 1048576 := rfl
 have hc := Y1 h
 unfold Rg
 rw [Kc (by omega), hc.1, hc.2]
 have e1 : jx (ja ([] : List Sa) + ja (Gb l (jy 0) (jy (r : Int)))) Qa = true := ji (by simp [Gb]; rw [Rd]; omega)
 have e2 : jx (ja (jf ([] : List Sa) (Gb l (jy 0) (jy (r : Int)))) + ja (Gb l (jy ((r + 1 : Nat) : Int)) (jy ((ja l : Nat) : Int)))) Qa = true :=
  ji (by simp [Gb]; rw [Rd]; omega)
 rw [e1, e2]
 simp only [cond_true]
 rfl
noncomputable def FB (x : Ad) (r : Int) : Bool := Vd (2, x.2.1, x.2.2.1, 0, ()) && (((x.1 == 0) && !decide (r ≥ 0)) || (((x.1 == 1) && !decide (r ≥ 0)) || ((x.1 == 2) && decide (r ≥ 0))))
def Qi (x : Ad) : Sa := (0, (2, x.2.1, x.2.2.1, 0, ()), ())
def TS (x : Ad) (L : List Sa) (r : Int) : List Sa := cond (x.1 == 1) (jf L [Qi x]) (cond (x.1 == 2) (Xh L r.toNat) L)
noncomputable def Lw (L : List Sa) (x : Ad) : List Sa ⊕ Unit := cond (FB x (Td (Dj x.2.1 x.2.2.1) 0 L)) (.inl (TS x L (Td (Dj x.2.1 x.2.2.1) 0 L))) (.inr ())
theorem Nad {L L' : List Sa} {x : Ad} (h : Lw L x = .inl L') : L'.length ≤ L.length + 1 := by
 unfold Lw at h
 cases hc : FB x (Td (Dj x.2.1 x.2.2.1) 0 L) with
 | false => rw [hc] at h; simp at h
 | true =>
  rw [hc] at h
  simp only [cond_true, Sum.inl.injEq] at h
  rw [← h]
  unfold TS
  cases x.1 == 1 with
  | true => simp
  | false =>
   cases x.1 == 2 with
   | true => simp [Xh, Gb]; omega
   | false => simp
theorem Qag (l : List Ad) (k : Nat) (hk : k < l.length) (L : List Sa) (hL : L.length ≤ k) (hn : l.length ≤ Ea) :
 Np l L (k : Int) = some (match Lw L l[k] with | .inl L' => .inl ((l, L', j5 .i64 ((k : Int) + 1), ()), ()) | .inr _ => .inr (.inr ((false, ()), ()))) := by
 have h20 : Ea = 1048576 := rfl
 simp only [Np]
 rw [Ba (show (k : Int) < (ja l : Int) by omega), Cb hk]
 simp only [cond_true, jb]
 rw [QQ L l[k] (by omega)]
 simp only [jb, Oc, Cr, Bz, Lw, FB, TS, Qi]
 generalize hx : l[k] = x
 generalize hr : Td (Dj x.2.1 x.2.2.1) 0 L = r
 have hble : jx (ja L + ja [Qi x]) Qa = true := ji (by simp [Rd]; omega)
 have hble' : jx (ja L + ja ([((0 : Int), ((2 : Int), x.2.1, x.2.2.1, (0 : Int), ()), ())] : List Sa)) Qa = true := hble
 have hw : decide (r ≥ 0) = true → Rg L r = some (Xh L r.toNat, ()) := by
  intro h
  rcases Dx (Dj x.2.1 x.2.2.1) L 0 with h1 | ⟨j, h1, h2⟩
  ·rw [hr] at h1; rw [h1] at h; simp at h
  ·rw [hr] at h2
   have : r = (j : Int) := by omega
   rw [this, PI L h1 (by omega)]
   simp
 by_cases k0 : x.1 = 0
 ·simp only [k0]
  cases Vd ((2 : Int), x.2.1, x.2.2.1, (0 : Int), ()) <;> cases decide (r ≥ 0) <;> rfl
 by_cases k1 : x.1 = 1
 ·simp only [k1]
  rw [hble']
  cases Vd ((2 : Int), x.2.1, x.2.2.1, (0 : Int), ()) <;> cases decide (r ≥ 0) <;> rfl
 by_cases k2 : x.1 = 2
 ·simp only [k2]
  cases hd : decide (r ≥ 0) with
  | false => cases Vd ((2 : Int), x.2.1, x.2.2.1, (0 : Int), ()) <;> rfl
  | true =>
   rw [hw hd]
   cases Vd ((2 : Int), x.2.1, x.2.2.1, (0 : Int), ()) <;> rfl
 ·have e0 : (x.1 == 0) = false := by simpa using k0
  have e1 : (x.1 == 1) = false := by simpa using k1
  have e2 : (x.1 == 2) = false := by simpa using k2
  rw [Aa (show ¬ (0 ≤ x.1 ∧ x.1 ≤ 2) by omega), e0, e1, e2]
  cases Vd ((2 : Int), x.2.1, x.2.2.1, (0 : Int), ()) <;> rfl
theorem Bag (l : List Ad) (k : Nat) (hk : k < l.length) (L : List Sa) (hL : L.length ≤ k) (hn : l.length ≤ Ea) :
 Ep (L.map Ge) l ((ja l : Nat) : Int) (k : Int) =
  some (match Lw L l[k] with | .inl L' => .inl ((L'.map Ge, l, ((ja l : Nat) : Int), j5 .i64 ((k : Int) + 1), ()), ()) | .inr _ => .inr (.inr ((false, ()), ()))) := by
 have h20 : Ea = 1048576 := rfl
 simp only [Ep]
 rw [Ba (show (k : Int) < (ja l : Int) by omega), Cb hk]
 simp only [cond_true, jb]
 rw [RX (L.map Ge) _ (by simp; omega), Oab]
 simp only [jb, Zx, Lw, FB, TS, Qi]
 generalize hx : l[k] = x
 generalize hr : Td (Dj x.2.1 x.2.2.1) 0 L = r
 have hble : jx (ja (L.map Ge) + ja ([(x.2.1, x.2.2.1, ())] : List Va)) Qa = true := ji (by simp [Rd]; omega)
 have happ : jf (L.map Ge) ([(x.2.1, x.2.2.1, ())] : List Va) = (jf L [((0 : Int), ((2 : Int), x.2.1, x.2.2.1, (0 : Int), ()), ())]).map Ge := by
  show _ ++ _ = List.map Ge (_ ++ _)
  rw [List.map_append]; rfl
 by_cases k0 : x.1 = 0
 ·simp only [k0]
  cases Vd ((2 : Int), x.2.1, x.2.2.1, (0 : Int), ()) <;> cases decide (r ≥ 0) <;> rfl
 by_cases k1 : x.1 = 1
 ·simp only [k1]
  rw [hble, happ]
  cases Vd ((2 : Int), x.2.1, x.2.2.1, (0 : Int), ()) <;> cases decide (r ≥ 0) <;> rfl
 by_cases k2 : x.1 = 2
 ·simp only [k2]
  rcases Dx (Dj x.2.1 x.2.2.1) L 0 with h1 | ⟨j, h1, h2⟩
  ·rw [hr] at h1
   rw [h1]
   cases Vd ((2 : Int), x.2.1, x.2.2.1, (0 : Int), ()) <;> rfl
  ·rw [hr] at h2
   have hrj : r = (j : Int) := by omega
   rw [hrj]
   have hj : j < (L.map Ge).length := by simpa using h1
   have hc := Y1 hj
   rw [Kc (k := j) (by omega), hc.1, hc.2, Aa (show ¬ (j : Int) < 0 by omega), Ba (show (j : Int) ≥ 0 by omega)]
   have e1 : jx (ja (Gb (L.map Ge) (jy 0) (jy (j : Int))) + ja (Gb (L.map Ge) (jy ((j + 1 : Nat) : Int)) (jy ((ja (L.map Ge) : Nat) : Int)))) Qa = true :=
    ji (by simp [Gb]; rw [Rd]; omega)
   have e2 : jf (Gb (L.map Ge) (jy 0) (jy (j : Int))) (Gb (L.map Ge) (jy ((j + 1 : Nat) : Int)) (jy ((ja (L.map Ge) : Nat) : Int))) = (Xh L (jy (j : Int))).map Ge := by
    rw [← D7]
    simp [Xh]
   rw [e1, e2]
   cases Vd ((2 : Int), x.2.1, x.2.2.1, (0 : Int), ()) <;> rfl
 ·have e0 : (x.1 == 0) = false := by simpa using k0
  have e1 : (x.1 == 1) = false := by simpa using k1
  have e2 : (x.1 == 2) = false := by simpa using k2
  rw [e0, e1, e2]
  cases Vd ((2 : Int), x.2.1, x.2.2.1, (0 : Int), ()) <;> rfl
noncomputable def Sak (l : List Ad) : List Sa ⊕ Unit := Tc (fun _ L x => Lw L x) 0 [] l
noncomputable def Fg (l : List Ad) : Bool := decide (l.length ≤ 8) && (match Sak l with | .inl L => ((L.length : Int) == 0) | .inr _ => false)
theorem MW (l : List Ad) (hn : l.length ≤ Ea) : SF l = some (Fg l, ()) := by
 have h20 : Ea = 1048576 := rfl
 have hl := Mg (step := fun x => Np x.1.1 x.1.2.1 x.1.2.2.1) l (fun _ L x => Lw L x) (fun L i => ((l, L, i, ()), ()))
  (fun L => .inl ((l, L, ()), ())) (fun _ => .inr ((false, ()), ())) (fun k L => L.length ≤ k) (by
   intro k hk L hL
   refine ⟨?_, fun L' h => by have := Nad h; omega⟩
   rw [Qag l k hk L hL hn]
   cases Lw L l[k] <;> rfl) (by
   intro s _
   simp only [Np]
   rw [Aa (by omega)]; rfl) (by omega) [] (by simp)
 unfold SF RB
 erw [hl]
 simp only [jb, Fg, Sak]
 cases Tc (fun x L x => Lw L x) 0 [] l with
 | inl L =>
  simp only [ql]
  by_cases h : l.length ≤ 8
  ·rw [Ba (show ((ja l : Nat) : Int) ≤ 8 by omega), Ba h]; rfl
  ·rw [Aa (show ¬ ((ja l : Nat) : Int) ≤ 8 by omega), Aa h]; rfl
 | inr u => cases decide (l.length ≤ 8) <;> rfl
theorem WV (l : List Ad) (hn : l.length ≤ Ea) : QE l = some (Fg l, ()) := by
 have h20 : Ea = 1048576 := rfl
 unfold QE Fg
 by_cases h : l.length ≤ 8
 ·rw [Aa (show ¬ ((ja l : Nat) : Int) > 8 by omega), Ba h]
  have hl := Mg (step := fun x => Ep x.1.1 x.1.2.1 x.1.2.2.1 x.1.2.2.2.1) l (fun _ L x => Lw L x) (fun L i => ((L.map Ge, l, ((ja l : Nat) : Int), i, ()), ()))
   (fun L => .inl ((L.map Ge, ()), ())) (fun _ => .inr ((false, ()), ())) (fun k L => L.length ≤ k) (by
    intro k hk L hL
    refine ⟨?_, fun L' h => by have := Nad h; omega⟩
    rw [Bag l k hk L hL hn]
    cases Lw L l[k] <;> rfl) (by
    intro s _
    simp only [Ep]
    rw [Aa (by omega)]; rfl) (by omega) [] (by simp)
  unfold KB
  erw [hl]
  simp only [Sak]
  cases Tc (fun x L x => Lw L x) 0 [] l with
  | inl L =>
   show some _ = some _
   simp only [List.length_map]
   rfl
  | inr u => rfl
 ·rw [Ba (show ((ja l : Nat) : Int) > 8 by omega), Aa h]; rfl
noncomputable def Tq (keys : Int) (nl : Nat) (x : Sa) : Bool := !decide (x.1 ≥ keys) && !((x.2.1.1 != 9) && decide (x.2.1.2.2.2.1 ≥ (nl : Int)))
noncomputable def Sj (e : Jb) : Bool :=
 Ei e.1 && (decide (e.2.1.length ≤ 4) && (Rf e.2.2.2.1 && (Le (fun _ m => Fg m) 0 e.2.1 && (Le (fun _ x => Tq e.1.1 e.1.2.1.length x) 0 e.2.2.2.1 &&
  (decide (0 ≤ e.2.2.1 ∧ e.2.2.1 < ((2 ^ e.1.2.1.length : Nat) : Int)) && ((Int.tmod e.2.2.1 2 == 0) && decide (0 ≤ e.2.2.2.2.1 ∧ e.2.2.2.2.1 ≤ 15)))))))
theorem Bm (e : Jb) : Ha Gc e = Ha Dc e.1 + (Ha (.sl (.sl Mc)) e.2.1 + Ha (.sl Jf) e.2.2.2.1) := by
 simp only [Ha, Nat.add_zero, js]
theorem Pl (l : List Sa) : Ha (.sl Jf) l = l.length := Pk (e := Jf) rfl l
theorem Mae (l : List Ad) : Ha (.sl Mc) l = l.length := Pk (e := Mc) rfl l
theorem Lae {e : Ty} (l : List (T e)) : ja l ≤ Ha (.sl e) l := Nat.le_add_right _ _
theorem DaE {e : Ty} {l : List (T e)} {k : Nat} (hk : k < ja l) : Ha e (List.get l ⟨k, hk⟩) ≤ Ha (.sl e) l :=
 qc (Tz (f := Ha e) hk) (Nat.le_add_left _ _)
theorem Xaa (e : Jb) (hz : Ha Gc e ≤ Ea) : Rn (((), e.2.1, ((ja e.2.1 : Nat) : Int), (0 : Int), ()), (e, ())) =
 some (cond (Le (fun _ m => Fg m) 0 e.2.1) (.inl (((), ()), (e, ()))) (.inr ((false, ()), ()))) := by
 have h20 : Ea = 1048576 := rfl
 rw [Bm] at hz
 have hl := Lae (e := .sl Mc) e.2.1
 unfold Rn
 refine Nf (step := fun x => Gu x.1.1 x.1.2.1 x.1.2.2.1 x.1.2.2.2.1 x.2.1) e.2.1 (fun _ m => Fg m) (fun i => (((), e.2.1, ((ja e.2.1 : Nat) : Int), i, ()), (e, ()))) _ _ ?_ ?_ (by omega)
 ·intro k hk
  simp only [Gu]
  have hk2 : (k : Int) < ((ja e.2.1 : Nat) : Int) := by omega
  rw [Ba hk2, Cb hk]
  simp only [cond_true, jb]
  have he := DaE (e := .sl Mc) hk
  rw [Mae] at he
  rw [WV e.2.1[k] (by have : (List.get e.2.1 ⟨k, hk⟩) = e.2.1[k] := rfl; rw [this] at he; omega)]
  simp only [jb]
  cases Fg e.2.1[k] <;> rfl
 ·simp only [Gu]
  rw [Aa (by omega)]; rfl
theorem Yab (e : Jb) (hz : Ha Gc e ≤ Ea) : Eo (((), (0 : Int), ()), (e, ())) =
 some (cond (Le (fun _ m => Fg m) 0 e.2.1) (.inl (((), ()), (e, ()))) (.inr ((false, ()), ()))) := by
 have h20 : Ea = 1048576 := rfl
 rw [Bm] at hz
 have hl := Lae (e := .sl Mc) e.2.1
 unfold Eo
 refine Nf (step := fun x => Av x.1.1 x.1.2.1 x.2.1) e.2.1 (fun _ m => Fg m) (fun i => (((), i, ()), (e, ()))) _ _ ?_ ?_ (by omega)
 ·intro k hk
  simp only [Av]
  have hk2 : (k : Int) < ((ja e.2.1 : Nat) : Int) := by omega
  rw [Ba hk2, Cb hk]
  simp only [cond_true, jb]
  have he := DaE (e := .sl Mc) hk
  rw [Mae] at he
  rw [MW e.2.1[k] (by have : (List.get e.2.1 ⟨k, hk⟩) = e.2.1[k] := rfl; rw [this] at he; omega)]
  simp only [jb]
  cases Fg e.2.1[k] <;> rfl
 ·simp only [Av]
  rw [Aa (by omega)]; rfl
theorem Zaf (e : Jb) (hz : Ha Gc e ≤ Ea) : Jm (((), ((ja e.1.2.1 : Nat) : Int), e.2.2.2.1, ((ja e.2.2.2.1 : Nat) : Int), (0 : Int), ()), (e, ())) =
 some (cond (Le (fun _ x => Tq e.1.1 e.1.2.1.length x) 0 e.2.2.2.1) (.inl (((), ((ja e.1.2.1 : Nat) : Int), ()), (e, ()))) (.inr ((false, ()), ()))) := by
 have h20 : Ea = 1048576 := rfl
 rw [Bm, Pl] at hz
 unfold Jm
 refine Nf (step := fun x => Pr x.1.1 x.1.2.1 x.1.2.2.1 x.1.2.2.2.1 x.1.2.2.2.2.1 x.2.1) e.2.2.2.1 (fun _ x => Tq e.1.1 e.1.2.1.length x)
  (fun i => (((), ((ja e.1.2.1 : Nat) : Int), e.2.2.2.1, ((ja e.2.2.2.1 : Nat) : Int), i, ()), (e, ()))) _ _ ?_ ?_ (by omega)
 ·intro k hk
  simp only [Pr]
  have hk2 : (k : Int) < ((ja e.2.2.2.1 : Nat) : Int) := by omega
  rw [Ba hk2, Cb hk]
  simp only [cond_true, jb, Tq]
  cases decide (e.2.2.2.1[k].1 ≥ e.1.1) <;> cases (e.2.2.2.1[k].2.1.1 != 9) <;> cases decide (e.2.2.2.1[k].2.1.2.2.2.1 ≥ ((ja e.1.2.1 : Nat) : Int)) <;> rfl
 ·simp only [Pr]
  rw [Aa (by omega)]; rfl
theorem Pag (e : Jb) (hz : Ha Gc e ≤ Ea) : Fo (((), (0 : Int), ()), (e, ())) =
 some (cond (Le (fun _ x => Tq e.1.1 e.1.2.1.length x) 0 e.2.2.2.1) (.inl (((), ()), (e, ()))) (.inr ((false, ()), ()))) := by
 have h20 : Ea = 1048576 := rfl
 rw [Bm, Pl] at hz
 unfold Fo
 refine Nf (step := fun x => Bv x.1.1 x.1.2.1 x.2.1) e.2.2.2.1 (fun _ x => Tq e.1.1 e.1.2.1.length x) (fun i => (((), i, ()), (e, ()))) _ _ ?_ ?_ (by omega)
 ·intro k hk
  simp only [Bv]
  have hk2 : (k : Int) < ((ja e.2.2.2.1 : Nat) : Int) := by omega
  rw [Ba hk2, Cb hk]
  simp only [cond_true, jb, Tq]
  cases decide (e.2.2.2.1[k].1 ≥ e.1.1) <;> cases (e.2.2.2.1[k].2.1.1 != 9) <;> cases decide (e.2.2.2.1[k].2.1.2.2.2.1 ≥ ((ja e.1.2.1 : Nat) : Int)) <;> rfl
 ·simp only [Bv]
  rw [Aa (by omega)]; rfl
theorem F8 (e : Jb) (hz : Ha Gc e ≤ Ea) : AK e = some (Sj e, ()) := by
 have h20 : Ea = 1048576 := rfl
 have hz' := hz
 rw [Bm, Pl] at hz'
 unfold AK Sj
 rw [KU e.1 (by omega)]
 cases hk : Ei e.1 with
 | false => rfl
 | true =>
  simp only [jb, jg, cond_false, jk]
  by_cases h4 : e.2.1.length ≤ 4
  ·rw [Aa (show ¬ ((ja e.2.1 : Nat) : Int) > 4 by omega), Ba h4, LG _ (by omega)]
   simp only [jb, cond_false, jk]
   cases hh : Rf e.2.2.2.1 with
   | false => rfl
   | true =>
    simp only [jg, cond_false, jk]
    rw [Xaa e hz]
    have hl := (Uj hk).l2
    by_cases ho : 0 ≤ e.2.2.2.2.1 ∧ e.2.2.2.2.1 ≤ 15
    ·rw [Aa (show ¬ e.2.2.2.2.1 < 0 by omega), Aa (show ¬ e.2.2.2.2.1 > 15 by omega), Ba ho]
     simp only [cond_false, jb, Bool.and_true]
     cases Le (fun _ m => Fg m) 0 e.2.1 with
     | false => rfl
     | true =>
      simp only [cond_true, ql, jk]
      rw [Zaf e hz]
      cases Le (fun _ x => Tq e.1.1 e.1.2.1.length x) 0 e.2.2.2.1 with
      | false => rfl
      | true =>
       simp only [cond_true, jb, ql, jk]
       rw [Ml (by omega), Ba (show (0 : Int) ≤ ((ja e.1.2.1 : Nat) : Int) by omega)]
       have e2 : ((2 : Int) == 0) = false := rfl
       rw [e2]
       simp only [cond_false, cond_true]
       by_cases hf : 0 ≤ e.2.2.1
       ·rw [Ba (show e.2.2.1 ≥ 0 from hf)]
        by_cases hf2 : e.2.2.1 < ((2 ^ e.1.2.1.length : Nat) : Int)
        ·rw [Ba hf2, Ba (show 0 ≤ e.2.2.1 ∧ e.2.2.1 < ((2 ^ e.1.2.1.length : Nat) : Int) from ⟨hf, hf2⟩)]
         cases Int.tmod e.2.2.1 2 == 0 <;> rfl
        ·rw [Aa hf2, Aa (show ¬ (0 ≤ e.2.2.1 ∧ e.2.2.1 < ((2 ^ e.1.2.1.length : Nat) : Int)) from fun h => hf2 h.2)]
         cases Int.tmod e.2.2.1 2 == 0 <;> rfl
       ·rw [Aa (show ¬ e.2.2.1 ≥ 0 from hf), Aa (show ¬ (0 ≤ e.2.2.1 ∧ e.2.2.1 < ((2 ^ e.1.2.1.length : Nat) : Int)) from fun h => hf h.1)]
        rfl
    ·have hr : (Le (fun _ m => Fg m) 0 e.2.1 && (Le (fun _ x => Tq e.1.1 e.1.2.1.length x) 0 e.2.2.2.1 && (decide (0 ≤ e.2.2.1 ∧ e.2.2.1 < ((2 ^ e.1.2.1.length : Nat) : Int)) && ((Int.tmod e.2.2.1 2 == 0) && decide (0 ≤ e.2.2.2.2.1 ∧ e.2.2.2.2.1 ≤ 15))))) = false := by
      rw [Aa ho]; simp
     rw [hr]
     by_cases h1 : e.2.2.2.2.1 < 0
     ·rw [Ba h1]; rfl
     ·rw [Aa h1, Ba (show e.2.2.2.2.1 > 15 by omega)]; rfl
  ·rw [Ba (show ((ja e.2.1 : Nat) : Int) > 4 by omega), Aa h4]; rfl
theorem VL (e : Jb) (hz : Ha Gc e ≤ Ea) : Br e = some (Sj e, ()) := by
 have h20 : Ea = 1048576 := rfl
 have hz' := hz
 rw [Bm, Pl] at hz'
 unfold Br Sj
 rw [DV e.1 (by omega)]
 cases hk : Ei e.1 with
 | false => rfl
 | true =>
  simp only [jb, jg, cond_false, jk]
  by_cases h4 : e.2.1.length ≤ 4
  ·rw [Aa (show ¬ ((ja e.2.1 : Nat) : Int) > 4 by omega), Ba h4, MH _ (by omega)]
   simp only [jb, cond_false, jk]
   cases hh : Rf e.2.2.2.1 with
   | false => rfl
   | true =>
    simp only [jg, cond_false, jk]
    rw [Yab e hz]
    have hl := (Uj hk).l2
    cases Le (fun _ m => Fg m) 0 e.2.1 with
    | false => rfl
    | true =>
     simp only [cond_true, jb, ql, jk]
     rw [Pag e hz]
     cases Le (fun _ x => Tq e.1.1 e.1.2.1.length x) 0 e.2.2.2.1 with
     | false => rfl
     | true =>
      simp only [cond_true, jb, ql, jk, Oc]
      have hp : (2 ^ e.1.2.1.length : Nat) ≤ 16 := qn (n := 2) (by omega) hl
      rw [Ml (by omega), Ba (show (0 : Int) ≤ ((ja e.1.2.1 : Nat) : Int) by omega)]
      generalize (2 ^ e.1.2.1.length : Nat) = P2 at hp ⊢
      rw [Je (by omega) (by omega)]
      have e2 : ((2 : Int) == 0) = false := rfl
      rw [e2]
      simp only [cond_false, cond_true, jb]
      have e3 : decide (0 ≤ e.2.2.1 ∧ e.2.2.1 ≤ (P2 : Int) - 1) = decide (0 ≤ e.2.2.1 ∧ e.2.2.1 < (P2 : Int)) := by
       rw [decide_eq_decide]; omega
      rw [e3]
      cases decide (0 ≤ e.2.2.1 ∧ e.2.2.1 < (P2 : Int)) <;> cases Int.tmod e.2.2.1 2 == 0 <;> rfl
  ·rw [Ba (show ((ja e.2.1 : Nat) : Int) > 4 by omega), Aa h4]; rfl
def Vh (x : Ca) : Bool := decide (0 ≤ x.1 ∧ x.1 ≤ 1000000) && decide (0 ≤ x.2.1 ∧ x.2.1 ≤ 31)
theorem NN (x : Ca) : Vv x = some (Vh x, ()) := by
 unfold Vv Vh
 simp only [Kh, Lh]
 apply Zc
 simp only [Pd, decide_eq_true_eq, jq, and_false, or_false, jd]
 omega
theorem YO (x : Ca) : Rw x = some (Vh x, ()) := by
 unfold Rw Vh
 simp only [Oc, jb, Kh, Lh]
 apply Zc
 simp only [Pd, decide_eq_true_eq, jq, and_false, or_false, jd]
def Qv (s : Int × Int) (x : Ca) : Bool := Vh x && (!decide (s.1 > x.1) && !(x.2.2.1 == (Kd s.2 x.2.1 == 1)))
def Pv (s : Int × Int) (x : Ca) : (Int × Int) ⊕ Unit := cond (Qv s x) (.inl (x.1, Za .i64 s.2 (Ra .i64 1 x.2.1))) (.inr ())
def May (l : List Ca) (d : Int) : (Int × Int) ⊕ Unit := Tc (fun _ s x => Pv s x) 0 (0, d) l
def CQ (l : List Ca) (d : Int) : Int × Bool := cond (decide (l.length ≤ 64)) (match May l d with | .inl s => (s.2, true) | .inr _ => (0, false)) (0, false)
theorem Uk {x : Ca} (h : Vh x = true) : 0 ≤ x.1 ∧ x.1 ≤ 1000000 ∧ 0 ≤ x.2.1 ∧ x.2.1 ≤ 31 := by
 simp only [Vh, jd, decide_eq_true_eq] at h
 omega
theorem Iad (l : List Ca) (d : Int) (hn : l.length ≤ Ea) : FR l d = some ((CQ l d).1, (CQ l d).2, ()) := by
 have h20 : Ea = 1048576 := rfl
 unfold FR CQ
 by_cases h64 : l.length ≤ 64
 ·rw [Aa (show ¬ ((ja l : Nat) : Int) > 64 by omega), Ba h64]
  have hl := Mg (step := fun x => LC x.1.1 x.1.2.1 x.1.2.2.1 x.1.2.2.2.1 x.1.2.2.2.2.1) l (fun _ s x => Pv s x) (fun s i => ((l, s.2, l, ((ja l : Nat) : Int), i, ()), ()))
   (fun s => .inl ((s.2, ()), ())) (fun _ => .inr (((0 : Int), false, ()), ())) (fun k s => (k = 0 → s.1 = 0) ∧ ∀ hk : k - 1 < l.length, 0 < k → s.1 = l[k - 1].1) (by
    intro k hk s ⟨hs0, hs1⟩
    refine ⟨?_, ?_⟩
    ·simp only [LC]
     rw [Ba (show (k : Int) < ((ja l : Nat) : Int) by omega), Cb hk]
     simp only [cond_true, jb, NN, Pv, Qv]
     generalize hx : l[k] = x
     cases hev : Vh x with
     | false => rfl
     | true =>
      have hkey := Uk hev
      simp only [jg, cond_false, jk]
      rw [Ul s.2 hkey.2.2.1, Ba hkey.2.2.1]
      simp only [jb, cond_true]
      by_cases h0 : k = 0
      ·subst h0
       rw [Aa (show ¬ ((0 : Nat) : Int) > 0 by omega), Aa (show ¬ s.1 > x.1 by rw [hs0 rfl]; omega)]
       cases (x.2.2.1 == (Kd s.2 x.2.1 == 1)) <;> rfl
      ·rw [Ba (show (k : Int) > 0 by omega), Je (by omega) (by omega), show (k : Int) - 1 = ((k - 1 : Nat) : Int) by omega, Cb (show k - 1 < l.length by omega)]
       rw [hs1 (by omega) (by omega)]
       simp only [jb, cond_true]
       cases decide (l[k - 1].1 > x.1) <;> cases (x.2.2.1 == (Kd s.2 x.2.1 == 1)) <;> rfl
    ·intro s' h
     unfold Pv at h
     cases hc : Qv s l[k] with
     | false => rw [hc] at h; simp at h
     | true =>
      rw [hc] at h
      simp only [cond_true, Sum.inl.injEq] at h
      refine ⟨by omega, fun _ _ => ?_⟩
      rw [← h]
      simp only [Nat.add_sub_cancel])
   (by
    intro s _
    simp only [LC]
    rw [Aa (by omega)]; rfl) (by omega) (0, d) ⟨fun _ => rfl, fun _ h => absurd h (by omega)⟩
  unfold TE
  erw [hl]
  simp only [cond_false, jb, May, cond_true]
  cases Tc (fun x s x => Pv s x) 0 (0, d) l <;> rfl
 ·rw [Ba (show ((ja l : Nat) : Int) > 64 by omega), Aa h64]; rfl
def Eab (keys : Int) (l : List Ca) : Bool := Le (fun _ (x : Ca) => !decide (x.2.1 ≥ keys)) 0 l
def Ud (q : List Ca) (d keys : Int) : Bool := Eab keys q && (CQ q d).2
theorem Lu (q : List Ca) (d keys : Int) (hn : q.length ≤ Ea) : Ni q d keys = some (Ud q d keys, ()) := by
 have h20 : Ea = 1048576 := rfl
 have hl := Nf (step := fun x => Ur x.1.1 x.1.2.1 x.1.2.2.1 x.1.2.2.2.1 x.1.2.2.2.2.1 x.1.2.2.2.2.2.1) q (fun _ (x : Ca) => !decide (x.2.1 ≥ keys)) (fun i => ((q, d, keys, q, ((ja q : Nat) : Int), i, ()), ()))
  (.inl ((q, d, ()), ())) (.inr ((false, ()), ())) (by
   intro k hk
   simp only [Ur]
   rw [Ba (show (k : Int) < ((ja q : Nat) : Int) by omega), Cb hk]
   simp only [cond_true, jb]
   cases decide (q[k].2.1 ≥ keys) <;> rfl) (by
   simp only [Ur]
   rw [Aa (by omega)]; rfl) (by omega)
 unfold Ni Cw Ud Eab
 erw [hl]
 simp only [jb]
 cases Le (fun _ (x : Ca) => !decide (x.2.1 ≥ keys)) 0 q with
 | false => rfl
 | true => simp only [cond_true, ql, Iad q d hn, jb]; rfl
def U4 (keys : Int) (s : Int × Int) (x : Ca) : (Int × Int) ⊕ Unit := cond (Qv s x && !decide (x.2.1 ≥ keys)) (.inl (x.1, Za .i64 s.2 (Ra .i64 1 x.2.1))) (.inr ())
theorem J6 (keys : Int) : ∀ (l : List Ca) (k : Nat) (s : Int × Int), Hn (Tc (fun _ s x => U4 keys s x) k s l) = (Le (fun _ (x : Ca) => !decide (x.2.1 ≥ keys)) k l && Hn (Tc (fun _ s x => Pv s x) k s l))
 | [], _, _ => rfl
 | x :: l, k, s => by
  simp only [Tc, Le, U4, Pv]
  cases Qv s x with
  | false => simp [Hn]
  | true =>
   cases decide (x.2.1 ≥ keys) with
   | true => simp [Hn]
   | false => simp only [jk, qa, cond_true]; exact J6 keys l (k + 1) _
theorem Ws (q : List Ca) (d keys : Int) (hn : q.length ≤ Ea) : Ok q d keys 0 = some (Ud q d keys, ()) := by
 have h20 : Ea = 1048576 := rfl
 have hl := Mg (step := fun x => Jq x.1.1 x.1.2.1 x.1.2.2.1 x.1.2.2.2.1 x.1.2.2.2.2.1) q (fun _ s x => U4 keys s x) (fun s i => ((q, s.2, keys, s.1, i, ()), ()))
  (fun s => .inl ((q, ()), ())) (fun _ => .inr ((false, ()), ())) (fun _ _ => True) (by
   intro k hk s _
   refine ⟨?_, fun _ _ => trivial⟩
   simp only [Jq]
   rw [Ba (show (k : Int) < ((ja q : Nat) : Int) by omega), Cb hk]
   simp only [cond_true, jb, YO, U4, Qv]
   generalize q[k] = x
   cases hev : Vh x with
   | false => rfl
   | true =>
    have hkey := Uk hev
    simp only [jg, cond_false, jk, Kd]
    rw [Ba hkey.2.2.1]
    simp only [gt_iff_lt]
    cases decide (x.2.1 ≥ keys) <;> cases decide (x.1 < s.1) <;> cases (x.2.2.1 == (Wa .i64 (Wb .i64 s.2 x.2.1) 1 == 1)) <;> rfl)
  (by
   intro s _
   simp only [Jq]
   rw [Aa (by omega)]; rfl) (by omega) (0, d) trivial
 unfold Ok Ut
 erw [hl]
 have hsp := J6 keys q 0 (0, d)
 simp only [jb, Ud, Eab, CQ, May]
 by_cases h64 : q.length ≤ 64
 ·rw [Ba h64]
  cases h1 : Tc (fun _ s x => U4 keys s x) 0 (0, d) q with
  | inl s =>
   rw [h1] at hsp
   simp only [Hn] at hsp
   cases h2 : Tc (fun _ s x => Pv s x) 0 (0, d) q with
   | inl s2 =>
    rw [h2] at hsp
    simp only [Hn, Bool.and_true] at hsp
    rw [← hsp]
    simp only [ql]
    rw [Ba (show ((ja q : Nat) : Int) ≤ 64 by omega)]; rfl
   | inr u => rw [h2] at hsp; simp [Hn] at hsp
  | inr u =>
   rw [h1] at hsp
   simp only [Hn] at hsp
   cases h2 : Tc (fun _ s x => Pv s x) 0 (0, d) q with
   | inl s2 =>
    rw [h2] at hsp
    simp only [Hn, Bool.and_true] at hsp
    rw [← hsp]; rfl
   | inr u => cases Le (fun _ (x : Ca) => !decide (x.2.1 ≥ keys)) 0 q <;> rfl
 ·rw [Aa h64]
  cases h1 : Tc (fun _ s x => U4 keys s x) 0 (0, d) q with
  | inl s => simp only [ql]; rw [Aa (show ¬ ((ja q : Nat) : Int) ≤ 64 by omega)]; cases Le (fun _ (x : Ca) => !decide (x.2.1 ≥ keys)) 0 q <;> rfl
  | inr u => cases Le (fun _ (x : Ca) => !decide (x.2.1 ≥ keys)) 0 q <;> rfl
def Dm (t : SP) : Bool := decide (1 ≤ t.1 ∧ t.1 ≤ 1000) && (decide (0 ≤ t.2.1 ∧ t.2.1 ≤ 1000) && decide (0 ≤ t.2.2.1 ∧ t.2.2.1 ≤ 2))
theorem YS (t : SP) : EA t = some (Dm t, ()) := by
 unfold EA Dm
 simp only [Kh, Lh]
 apply Zc
 simp only [Pd, decide_eq_true_eq, jq, and_false, or_false, jd]
 omega
theorem BT (t : SP) : TA t = some (Dm t, ()) := by
 unfold TA Dm
 simp only [Oc, jb, Kh, Lh]
 apply Zc
 simp only [Pd, decide_eq_true_eq, jq, and_false, or_false, jd]
theorem AP (e : Jb) (hn : e.2.2.2.1.length ≤ Ea) (hx : ∀ x ∈ e.2.2.2.1, Jv x) : Vw e = some (Uu e.2.2.2.1, ()) := by
 have h20 : Ea = 1048576 := rfl
 have hl := (De (step := fun x => Jz x.1.1 x.1.2.1 x.1.2.2.1 x.2.1) e.2.2.2.1 (fun _ s (x : Sa) => Pc .i64 s (Ra .i64 1 x.1)) (fun s i => (((), s, i, ()), (e, ())))
  (fun s => .inl ((s, ()), ())) (fun _ _ => True) (by
   intro k hk s _
   refine ⟨?_, trivial⟩
   simp only [Jz]
   rw [Ba (show (k : Int) < ((ja e.2.2.2.1 : Nat) : Int) by omega), Cb hk]
   have hk' := hx _ (qt hk)
   simp only [cond_true, jb, Tt, Oc]
   rw [Ba (show 0 ≤ e.2.2.2.1[k].1 ∧ e.2.2.2.1[k].1 ≤ 31 from ⟨hk'.lo, hk'.hi⟩), Ba hk'.lo]; rfl)
  (by
   intro s _
   simp only [Jz]
   rw [Aa (by omega)]; rfl) (by omega) 0 trivial).1
 unfold Vw SB
 erw [hl]
 rfl
def Z4 (l : List Ca) : Int := (l.getD (l.length - 1) (0, 0, false, ())).1
def Sf (l : List Ca) (t : Int) : Bool := ((l.length : Int) == 0) || decide (Z4 l ≤ t)
theorem GU {l : List Ca} (h : 0 < l.length) (hn : l.length ≤ Ea) : ∃ x, Xa l (j5 .i64 (((ja l : Nat) : Int) - 1)) = some x ∧ x.1 = Z4 l := by
 have h20 : Ea = 1048576 := rfl
 refine ⟨l[l.length - 1], ?_, ?_⟩
 ·rw [Je (by omega) (by omega), show ((ja l : Nat) : Int) - 1 = ((l.length - 1 : Nat) : Int) by omega, Cb (by omega)]
 ·simp [Z4, List.getD, je (show l.length - 1 < l.length by omega)]
theorem Ku (l : List Ca) (t : Int) (hn : l.length ≤ Ea) : Li l t = some (Sf l t, ()) := by
 unfold Li Sf
 by_cases h0 : l.length = 0
 ·simp [h0]
 ·obtain ⟨x, h1, h2⟩ := GU (l := l) (by omega) hn
  rw [h1, show (((l.length : Nat) : Int) == 0) = false by simp; intro h; rw [h] at h0; simp at h0]
  simp only [cond_false, jb, h2, Bool.false_or]
noncomputable def Pf (d : Ib) : Bool :=
 Sj d.1 && (Dm d.2.1 && (decide (0 ≤ d.2.2.2.1 ∧ d.2.2.2.1 ≤ 1000000) && (decide (0 ≤ d.2.2.2.2.1 ∧ d.2.2.2.2.1 ≤ d.2.2.2.1) && (Ud d.2.2.1 (Uu d.1.2.2.2.1) d.1.1.1 && (Sf d.2.2.1 d.2.2.2.1 &&
  (decide (0 ≤ d.2.2.2.2.2.1 ∧ d.2.2.2.2.2.1 ≤ d.1.1.1) && decide (0 ≤ d.2.2.2.2.2.2.1 ∧ d.2.2.2.2.2.2.1 ≤ d.2.2.2.1)))))))
theorem LN (d : Ib) : Ha Ic d = Ha Gc d.1 + Ha (.sl Ab) d.2.2.1 := by
 simp only [Ha, Nat.add_zero, js]
theorem Uz (l : List Ca) : Ha (.sl Ab) l = l.length := Pk (e := Ab) rfl l
theorem ZA {e : Jb} (h : Sj e = true) : Rf e.2.2.2.1 = true := by
 simp only [Sj, jd] at h
 exact h.2.2.1
theorem XS (d : Ib) (hz : Ha Ic d ≤ Ea) : Uv d = some (Pf d, ()) := by
 have hz' := hz
 rw [LN, Uz] at hz'
 have hz2 := hz'
 rw [Bm, Pl] at hz2
 unfold Uv Pf
 rw [F8 _ (by omega)]
 cases he : Sj d.1 with
 | false => rfl
 | true =>
  have hh := Mo (ZA he)
  simp only [jb, jg, cond_false, jk, YS]
  cases Dm d.2.1 with
  | false => rfl
  | true =>
   rw [LL _ (by omega) hh]
   simp only [jb, jg, cond_false, jk]
   rw [Lu _ _ _ (by omega), Ku _ _ (by omega)]
   simp only [jb]
   have key : ∀ a b c e f g h i j k : Bool, cond a (some (false, ())) (cond b (some (false, ())) (cond c (some (false, ())) (cond e (some (false, ())) (cond (!f) (some (false, ())) (cond (!g) (some (false, ())) (cond h (cond i (cond j (some (k, ())) (some (false, ()))) (some (false, ()))) (some (false, ())))))))) =
    some ((((!a && !b) && ((!c && !e) && (f && (g && ((h && i) && (j && k)))))), ()) : Bool × Unit) := by
    intro a b c e f g h i j k
    cases a <;> cases b <;> cases c <;> cases e <;> cases f <;> cases g <;> cases h <;> cases i <;> cases j <;> cases k <;> rfl
   erw [key]
   apply Zc
   simp only [jd, Bool.not_eq_true', decide_eq_true_eq, decide_eq_false_iff_not]
   constructor
   ·rintro ⟨⟨h1, h2⟩, ⟨h3, h4⟩, h5, h6, ⟨h7, h8⟩, h9, h10⟩
    exact ⟨⟨by omega, by omega⟩, ⟨by omega, by omega⟩, h5, h6, ⟨h7, h8⟩, h9, h10⟩
   ·rintro ⟨⟨h1, h2⟩, ⟨h3, h4⟩, h5, h6, ⟨h7, h8⟩, h9, h10⟩
    exact ⟨⟨by omega, by omega⟩, ⟨by omega, by omega⟩, h5, h6, ⟨h7, h8⟩, h9, h10⟩
theorem AT (d : Ib) (hz : Ha Ic d ≤ Ea) : Qw d = some (Pf d, ()) := by
 have hz' := hz
 rw [LN, Uz] at hz'
 have hz2 := hz'
 rw [Bm, Pl] at hz2
 unfold Qw Pf
 rw [VL _ (by omega)]
 cases he : Sj d.1 with
 | false => rfl
 | true =>
  have hh := Mo (ZA he)
  simp only [jb, jg, cond_false, jk, BT, Oc]
  cases Dm d.2.1 with
  | false => rfl
  | true =>
   rw [AP _ (by omega) hh]
   simp only [jb, jg, cond_false, jk]
   rw [Ws _ _ _ (by omega)]
   simp only [jb, Sf]
   by_cases h0 : d.2.2.1.length = 0
   ·rw [Aa (show ¬ ((ja d.2.2.1 : Nat) : Int) > 0 by omega), show (((d.2.2.1.length : Nat) : Int) == 0) = true by simp [h0]]
    simp only [cond_false, Bool.true_or, jk]
    cases decide (0 ≤ d.2.2.2.1 ∧ d.2.2.2.1 ≤ 1000000) <;> cases decide (0 ≤ d.2.2.2.2.1 ∧ d.2.2.2.2.1 ≤ d.2.2.2.1) <;> cases Ud d.2.2.1 (Uu d.1.2.2.2.1) d.1.1.1 <;> cases decide (0 ≤ d.2.2.2.2.2.1 ∧ d.2.2.2.2.2.1 ≤ d.1.1.1) <;> rfl
   ·obtain ⟨x, h1, h2⟩ := GU (l := d.2.2.1) (by omega) (by omega)
    rw [Ba (show ((ja d.2.2.1 : Nat) : Int) > 0 by omega), h1, show (((d.2.2.1.length : Nat) : Int) == 0) = false by simp; intro h; rw [h] at h0; simp at h0]
    simp only [cond_true, jb, Bool.false_or, h2]
    have e1 : decide (Z4 d.2.2.1 > d.2.2.2.1) = !decide (Z4 d.2.2.1 ≤ d.2.2.2.1) := by
     rw [qz]; simp only [decide_eq_true_eq, Bool.not_eq_true', decide_eq_false_iff_not]; omega
    rw [e1]
    cases decide (0 ≤ d.2.2.2.1 ∧ d.2.2.2.1 ≤ 1000000) <;> cases decide (0 ≤ d.2.2.2.2.1 ∧ d.2.2.2.2.1 ≤ d.2.2.2.1) <;> cases Ud d.2.2.1 (Uu d.1.2.2.2.1) d.1.1.1 <;> cases decide (Z4 d.2.2.1 ≤ d.2.2.2.1) <;> cases decide (0 ≤ d.2.2.2.2.2.1 ∧ d.2.2.2.2.2.1 ≤ d.1.1.1) <;> rfl

def Ze {S : Type} (g : Nat → S → S) : Nat → S → S
 | 0, s => s
 | n + 1, s => g n (Ze g n s)
theorem Hh {X R S : Type} {step : X → Option (X ⊕ R)} (n : Nat) (hn : n < 9223372036854775807) (g : Nat → S → S) (s0 : S) (I : S → Int → X) (out : S → R)
 (h : ∀ k, k < n → step (I (Ze g k s0) (k : Int)) = some (.inl (I (g k (Ze g k s0)) (j5 .i64 ((k : Int) + 1))))) (he : step (I (Ze g n s0) (n : Int)) = some (.inr (out (Ze g n s0)))) :
 Ta step (I s0 0) = some (out (Ze g n s0)) := by
 have := Gx (step := step) (fun k => I (Ze g k s0) (k : Int)) n (out (Ze g n s0)) (fun k hk => by
  rw [h k hk, Kc (by omega)]; rfl) he
 exact this
theorem J0 {e : Ty} {c : Nat} : ∀ {w : List (T e)}, (∀ x ∈ w, Ha e x ≤ c) → Ha (.sl e) w ≤ (c + 1) * w.length
 | [], _ => by simp [Ha]
 | x :: r, h => by
  have h1 := h x (by simp)
  have h2 : Ha (.sl e) r ≤ (c + 1) * r.length := J0 fun y hy => h y (by simp [hy])
  have h3 : Ha (.sl e) r = ja r + (List.map (Ha e) r).sum := rfl
  have h4 : Ha (.sl e) (x :: r) = (ja r + 1) + (Ha e x + (List.map (Ha e) r).sum) := by simp [Ha]
  rw [h4, jw, Nat.mul_add]
  omega
theorem Ej {n : Nat} (h : n ≤ 1073741824) : jx n Qa = true := ji h
theorem Raa {α β : Type} (f : α → β) : ∀ (xs : List α) (k : Nat) (o : List β), Qd (fun _ o x => jf o [f x]) k o xs = o ++ xs.map f
 | [], _, o => by simp [Qd]
 | x :: r, k, o => by
  simp only [Qd]
  rw [Raa f r]
  simp
theorem FW {X R α β : Type} {step : X → Option (X ⊕ R)} (xs : List α) (f : α → β) (I : List β → Int → X) (out : List β → R) (hn : xs.length ≤ 1073741824)
 (h : ∀ k (hk : k < xs.length) (o : List β), ja o = k → step (I o (k : Int)) = some (.inl (I (jf o [f xs[k]]) (j5 .i64 ((k : Int) + 1)))))
 (he : ∀ o : List β, step (I o (xs.length : Int)) = some (.inr (out o))) : Ta step (I [] 0) = some (out (xs.map f)) := by
 have := (De (step := step) xs (fun _ o x => jf o [f x]) I out (fun k o => ja o = k) (fun k hk o ho => ⟨h k hk o ho, by simp [ho]⟩) (fun o _ => he o) (by omega) [] rfl).1
 rw [this, Raa]
 rfl
theorem CaE (a : List Int) : Ha (.sl int) a = a.length := Pk (e := int) rfl a
theorem Hac (a : List Db) : Ha (.sl Ub) a = a.length := Pk (e := Ub) rfl a
theorem GaI (r : Ka) : Ha Hc r = r.2.1.length := by
 show 0 + (Ha (.sl int) r.2.1 + 0) = _
 rw [CaE]; omega
theorem Gae (r : Ka) (h : r.2.1.length ≤ Ea) : OR r = some (r, ()) := by
 have h20 : Ea = 1048576 := rfl
 unfold OR
 rw [Ej (by simp; omega)]
 rfl
theorem KL (l : List Int) (h : l.length ≤ Ea) : Wq l = some (l, ()) := by
 have h20 : Ea = 1048576 := rfl
 unfold Wq
 rw [Ej (by simp; omega)]
 rfl

theorem Hx : (2 : Nat) ^ 63 = 9223372036854775808 := rfl
theorem CN {a : Nat} (ha : a < 2 ^ 63) : (BitVec.ofInt 64 (a : Int)).toNat = a := by
 rw [BitVec.ofInt_natCast, BitVec.toNat_ofNat, Nat.mod_eq_of_lt (by omega)]
theorem FQ {a b : Nat} (ha : a < 2 ^ 63) (hb : b < 2 ^ 63) : Wa .i64 (a : Int) (b : Int) = ((a &&& b : Nat) : Int) := by
 have h : (BitVec.ofInt (IntKind.bits .i64) (a : Int) &&& BitVec.ofInt (IntKind.bits .i64) (b : Int)).toNat = a &&& b := by
  rw [BitVec.toNat_and]; erw [CN ha, CN hb]
 unfold Wa
 rw [h]
 have h2 : a &&& b ≤ a := Nat.and_le_left
 have h3 := Hx
 exact Je (by omega) (by omega)
theorem Ew {a b : Nat} (ha : a < 2 ^ 63) (hb : b < 2 ^ 63) : Pc .i64 (a : Int) (b : Int) = ((a ||| b : Nat) : Int) := by
 have h : (BitVec.ofInt (IntKind.bits .i64) (a : Int) ||| BitVec.ofInt (IntKind.bits .i64) (b : Int)).toNat = a ||| b := by
  rw [BitVec.toNat_or]; erw [CN ha, CN hb]
 unfold Pc
 rw [h]
 have h2 : a ||| b < 2 ^ 63 := Nat.or_lt_two_pow ha hb
 have h3 := Hx
 exact Je (by omega) (by omega)
theorem OL {a b : Nat} (ha : a < 2 ^ 63) (hb : b < 2 ^ 63) : Za .i64 (a : Int) (b : Int) = ((a ^^^ b : Nat) : Int) := by
 have h : (BitVec.ofInt (IntKind.bits .i64) (a : Int) ^^^ BitVec.ofInt (IntKind.bits .i64) (b : Int)).toNat = a ^^^ b := by
  rw [BitVec.toNat_xor]; erw [CN ha, CN hb]
 unfold Za
 rw [h]
 have h2 : a ^^^ b < 2 ^ 63 := qs ha hb
 have h3 := Hx
 exact Je (by omega) (by omega)
theorem SaN {w : Nat} (x y : BitVec w) : x &&& ~~~y = x ^^^ (x &&& y) := by
 ext i hi
 simp only [BitVec.getElem_and, BitVec.getElem_not, BitVec.getElem_xor]
 cases x[i] <;> cases y[i] <;> rfl
theorem J2 {a b : Nat} (ha : a < 2 ^ 63) (hb : b < 2 ^ 63) : Mb .i64 (a : Int) (b : Int) = ((a ^^^ (a &&& b) : Nat) : Int) := by
 have h : (BitVec.ofInt (IntKind.bits .i64) (a : Int) &&& ~~~ BitVec.ofInt (IntKind.bits .i64) (b : Int)).toNat = a ^^^ (a &&& b) := by
  rw [SaN, BitVec.toNat_xor, BitVec.toNat_and]; erw [CN ha, CN hb]
 unfold Mb
 rw [h]
 have h1 : a &&& b ≤ a := Nat.and_le_left
 have h2 : a ^^^ (a &&& b) < 2 ^ 63 := qs ha (by omega)
 have h3 := Hx
 exact Je (by omega) (by omega)
theorem PU (a : Nat) {k : Nat} (hk : k ≤ 64) : Wb .i64 (a : Int) (k : Int) = ((a >>> k : Nat) : Int) := by
 unfold Wb
 have h1 : min (jy (k : Int)) (IntKind.bits .i64) = k := by
  show min (jy (k : Int)) 64 = k
  rw [jn]; omega
 rw [h1, Nat.shiftRight_eq_div_pow]
 have h2 : (2 : Int) ^ k = ((2 ^ k : Nat) : Int) := by simp
 rw [h2]
 exact (Int.fdiv_eq_ediv_of_nonneg _ (Int.natCast_nonneg _)).trans (by simp)
theorem L8 {a k : Nat} (h : a * 2 ^ k < 2 ^ 63) (hk : k ≤ 64) : Ra .i64 (a : Int) (k : Int) = ((a <<< k : Nat) : Int) := by
 unfold Ra
 have h1 : min (jy (k : Int)) (IntKind.bits .i64) = k := by
  show min (jy (k : Int)) 64 = k
  rw [jn]; omega
 have h2 : (2 : Int) ^ k = ((2 ^ k : Nat) : Int) := by simp
 have h4 : (a : Int) * ((2 ^ k : Nat) : Int) = ((a * 2 ^ k : Nat) : Int) := by simp
 rw [h1, qk, h2, h4]
 have h3 := Hx
 generalize a * 2 ^ k = z at *
 exact Je (by omega) (by omega)
theorem Ft {a k : Nat} (ha : a < 2 ^ 63) (hk : k ≤ 64) : (Kd (a : Int) (k : Int) == 1) = a.testBit k := by
 unfold Kd
 have h1 : a >>> k ≤ a := by rw [Nat.shiftRight_eq_div_pow]; exact Nat.div_le_self _ _
 have h3 := Hx
 rw [PU a hk]
 show (Wa .i64 ((a >>> k : Nat) : Int) ((1 : Nat) : Int) == 1) = _
 rw [FQ (by omega) (by omega), Nat.and_one_is_mod, Nat.testBit_eq_decide_div_mod_eq, Nat.shiftRight_eq_div_pow]
 have : a / 2 ^ k % 2 = 0 ∨ a / 2 ^ k % 2 = 1 := by omega
 rcases this with h | h <;> rw [h] <;> rfl
theorem Gj {k : Nat} (hk : k ≤ 62) : (2 : Nat) ^ k < 2 ^ 63 := Nat.pow_lt_pow_right (by omega) (by omega)
theorem PaX {a k : Nat} (ha : a < 2 ^ 63) (hk : k ≤ 62) (h : (Kd (a : Int) (k : Int) == 1) = false) :
 Pc .i64 (a : Int) (Ra .i64 1 (k : Int)) = Za .i64 (a : Int) (Ra .i64 1 (k : Int)) := by
 rw [Ft ha (by omega)] at h
 rw [Ml (by omega), Ew ha (Gj hk), OL ha (Gj hk)]
 congr 1
 apply Nat.eq_of_testBit_eq
 intro i
 rw [Nat.testBit_or, qo, qp]
 by_cases hi : k = i
 ·subst hi; rw [h, Ba rfl]; rfl
 ·rw [Aa hi]; cases a.testBit i <;> rfl
theorem TaF {a k : Nat} (ha : a < 2 ^ 63) (hk : k ≤ 62) (h : (Kd (a : Int) (k : Int) == 1) = true) :
 Mb .i64 (a : Int) (Ra .i64 1 (k : Int)) = Za .i64 (a : Int) (Ra .i64 1 (k : Int)) := by
 rw [Ft ha (by omega)] at h
 rw [Ml (by omega), J2 ha (Gj hk), OL ha (Gj hk)]
 congr 1
 apply Nat.eq_of_testBit_eq
 intro i
 rw [qo, qo, Nat.testBit_and, qp]
 by_cases hi : k = i
 ·subst hi; rw [h, Ba rfl]; rfl
 ·rw [Aa hi]; cases a.testBit i <;> rfl
theorem Ran {a k : Nat} (ha : a < 2 ^ 63) (hk : k ≤ 62) : ∃ b : Nat, Za .i64 (a : Int) (Ra .i64 1 (k : Int)) = (b : Int) ∧ b < 2 ^ 63 := by
 rw [Ml (by omega), OL ha (Gj hk)]
 exact ⟨_, rfl, qs ha (Gj hk)⟩
theorem UaV {a k n : Nat} (ha : a < 2 ^ 63) (hk : k ≤ 62) (hn : n ≤ 64) :
 (Kd (Pc .i64 (a : Int) (Ra .i64 1 (k : Int))) (n : Int) == 1) = ((Kd (a : Int) (n : Int) == 1) || decide (k = n)) := by
 rw [Ml (by omega), Ew ha (Gj hk), Ft (Nat.or_lt_two_pow ha (Gj hk)) hn, Ft ha hn, Nat.testBit_or, qp]
theorem Wan {a : Nat} (ha : a < 2 ^ 64) : (BitVec.ofInt 64 (a : Int)).toNat = a := by
 rw [BitVec.ofInt_natCast, BitVec.toNat_ofNat, Nat.mod_eq_of_lt (by omega)]
theorem TW {a : Nat} (h : a < 2 ^ 64) : j5 .u64 (a : Int) = (a : Int) := by
 have h2 : (2 : Nat) ^ 64 = 18446744073709551616 := by decide
 exact IntWalk.u64_in _ ⟨by omega, by omega⟩
theorem UaB {a b : Nat} (ha : a < 2 ^ 64) (hb : b < 2 ^ 64) : Wa .u64 (a : Int) (b : Int) = ((a &&& b : Nat) : Int) := by
 have h : (BitVec.ofInt (IntKind.bits .u64) (a : Int) &&& BitVec.ofInt (IntKind.bits .u64) (b : Int)).toNat = a &&& b := by
  rw [BitVec.toNat_and]; erw [Wan ha, Wan hb]
 unfold Wa
 rw [h]
 have h2 : a &&& b ≤ a := Nat.and_le_left
 exact TW (by omega)
theorem ZaB (a : Nat) {k : Nat} (hk : k ≤ 64) : Wb .u64 (a : Int) (k : Int) = ((a / 2 ^ k : Nat) : Int) := by
 unfold Wb
 have h1 : min (jy (k : Int)) (IntKind.bits .u64) = k := by
  show min (jy (k : Int)) 64 = k
  rw [jn]; omega
 rw [h1]
 have h2 : (2 : Int) ^ k = ((2 ^ k : Nat) : Int) := by simp
 rw [h2]
 exact (Int.fdiv_eq_ediv_of_nonneg _ (Int.natCast_nonneg _)).trans (by simp)
def cnt : Nat → Nat → Nat
 | 0, _ => 0
 | k + 1, n => n % 2 + cnt k (n / 2)
theorem Jaa : ∀ k n, cnt k n ≤ k
 | 0, _ => jo _
 | k + 1, n => by have := Jaa k (n / 2); simp only [cnt]; omega
theorem P4 : ∀ j k n, cnt (j + k) n = cnt j n + cnt k (n / 2 ^ j)
 | 0, k, n => by simp [cnt]
 | j + 1, k, n => by
  have h := P4 j k (n / 2)
  rw [show j + 1 + k = (j + k) + 1 by omega]
  simp only [cnt, h, Nat.div_div_eq_div_mul, Nat.pow_succ, Nat.mul_comm]
  omega
theorem Wac : ∀ j n, cnt j (n % 2 ^ j) = cnt j n
 | 0, _ => rfl
 | j + 1, n => by
  have h := Wac j (n / 2)
  have e1 : n % 2 ^ (j + 1) % 2 = n % 2 := Nat.mod_mod_of_dvd _ (by rw [Nat.pow_succ]; exact ⟨2 ^ j, Nat.mul_comm _ _⟩)
  have e2 : n % 2 ^ (j + 1) / 2 = n / 2 % 2 ^ j := by
   rw [Nat.pow_succ, Nat.mul_comm, Nat.mod_mul_right_div_self]
  simp only [cnt, e1, e2, h]
theorem Gaj : ∀ k, cnt k 0 = 0
 | 0 => rfl
 | k + 1 => by have := Gaj k; simp [cnt, this]
def u1 (a : Nat) : Nat := ((a / 2) &&& 85) + (a &&& 85)
def u2 (a : Nat) : Nat := ((a / 4) &&& 51) + (a &&& 51)
theorem CaA : ∀ a : Fin 256, u1 a.val < 256 := by decide +kernel
theorem DaA : ∀ a : Fin 256, u2 (u1 a.val) % 16 ≤ 4 ∧ u2 (u1 a.val) / 16 ≤ 4 := by decide +kernel
theorem EaA : ∀ a : Fin 256, (u2 (u1 a.val) / 16 + u2 (u1 a.val)) % 16 = cnt 8 a.val := by decide +kernel
theorem m5 : ∀ a : Fin 128, (a.val &&& 85) = (a.val + 128 * 1) &&& 85 := by decide +kernel
theorem m3 : ∀ a : Fin 64, ∀ c : Fin 4, (a.val &&& 51) = (a.val + 64 * c.val) &&& 51 := by decide +kernel
theorem m5' {a c : Nat} (h : a < 128) (hc : c < 2) : (a + 128 * c) &&& 85 = a &&& 85 := by
 have : c = 0 ∨ c = 1 := by omega
 rcases this with rfl | rfl
 ·rfl
 ·exact (m5 ⟨a, h⟩).symm
theorem m3' {a c : Nat} (h : a < 64) (hc : c < 4) : (a + 64 * c) &&& 51 = a &&& 51 := (m3 ⟨a, h⟩ ⟨c, hc⟩).symm
theorem P1 {a b m p : Nat} (ha : a < 256) (hp : p < 256) : (a + 256 * b) &&& (p + 256 * m) = (a &&& p) + 256 * (b &&& m) := by
 have h1 : ((a + 256 * b) &&& (p + 256 * m)) % 2 ^ 8 = a &&& p := by
  rw [Nat.and_mod_two_pow]
  congr 1 <;> omega
 have h2 : ((a + 256 * b) &&& (p + 256 * m)) / 2 ^ 8 = b &&& m := by
  rw [← Nat.shiftRight_eq_div_pow, Nat.shiftRight_and_distrib, Nat.shiftRight_eq_div_pow, Nat.shiftRight_eq_div_pow]
  congr 1 <;> omega
 generalize (a + 256 * b) &&& (p + 256 * m) = z at *
 rw [← h1, ← h2]
 omega
theorem Uai {a b c M m : Nat} (ha : a < 256) (hb : b < 256) (hc : c < 256) (hm : m < 256) (hM : M = m + 256 * (m + 256 * (m + 256 * (M / 16777216)))) :
 (a + 256 * (b + 256 * c)) &&& M = (a &&& m) + 256 * ((b &&& m) + 256 * (c &&& m)) := by
 rw [hM, show c = c + 256 * 0 by omega, P1 ha hm, P1 hb hm, P1 hc hm]
 simp
def M5 : Nat := 6148914691236517205
def M3 : Nat := 3689348814741910323
def MF : Nat := 1085102592571150095
def s1 (n : Nat) : Nat := (n / 2 &&& M5) + (n &&& M5)
def s2 (n : Nat) : Nat := (n / 4 &&& M3) + (n &&& M3)
def s3 (n : Nat) : Nat := (n / 16 + n) &&& MF
theorem Ua9 {a b c : Nat} (ha : a < 256) (hb : b < 256) (hc : c < 256) : s1 (a + 256 * (b + 256 * c)) = u1 a + 256 * (u1 b + 256 * u1 c) := by
 unfold s1
 have h : (a + 256 * (b + 256 * c)) / 2 = (a / 2 + 128 * (b % 2)) + 256 * ((b / 2 + 128 * (c % 2)) + 256 * (c / 2 + 128 * 0)) := by omega
 rw [h, Uai (m := 85) (by omega) (by omega) (by omega) (by omega) rfl, Uai (m := 85) ha hb hc (by omega) rfl, m5' (by omega) (by omega), m5' (by omega) (by omega), m5' (by omega) (by omega)]
 unfold u1
 omega
theorem Wa9 {a b c : Nat} (ha : a < 256) (hb : b < 256) (hc : c < 256) : s2 (a + 256 * (b + 256 * c)) = u2 a + 256 * (u2 b + 256 * u2 c) := by
 unfold s2
 have h : (a + 256 * (b + 256 * c)) / 4 = (a / 4 + 64 * (b % 4)) + 256 * ((b / 4 + 64 * (c % 4)) + 256 * (c / 4 + 64 * 0)) := by omega
 rw [h, Uai (m := 51) (by omega) (by omega) (by omega) (by omega) rfl, Uai (m := 51) ha hb hc (by omega) rfl, m3' (by omega) (by omega), m3' (by omega) (by omega), m3' (by omega) (by omega)]
 unfold u2
 omega
theorem Qax (x : Nat) : x &&& 15 = x % 16 := by
 have := Nat.and_two_pow_sub_one_eq_mod x 4
 exact this
theorem Ya9 {a b c : Nat} (ha : a % 16 ≤ 4 ∧ a / 16 ≤ 4) (hb : b % 16 ≤ 4 ∧ b / 16 ≤ 4) (hc : c % 16 ≤ 4 ∧ c / 16 ≤ 4) :
 s3 (a + 256 * (b + 256 * c)) = (a / 16 + a) % 16 + 256 * ((b / 16 + b) % 16 + 256 * ((c / 16 + c) % 16)) := by
 unfold s3
 have h : (a + 256 * (b + 256 * c)) / 16 + (a + 256 * (b + 256 * c)) = (a / 16 + a + 16 * (b % 16)) + 256 * ((b / 16 + b + 16 * (c % 16)) + 256 * (c / 16 + c)) := by omega
 rw [h, Uai (m := 15) (by omega) (by omega) (by omega) (by omega) rfl, Qax, Qax, Qax]
 omega
def NaH (z : Nat) : Nat := (z + z / 256 + (z + z / 256) / 65536 + (z + z / 256 + (z + z / 256) / 65536) / 4294967296) % 128
theorem QaX {n : Nat} (h : n < 16777216) : NaH (s3 (s2 (s1 n))) = cnt 32 n := by
 have e : n = n % 256 + 256 * (n / 256 % 256 + 256 * (n / 65536)) := by omega
 have ha : n % 256 < 256 := by omega
 have hb : n / 256 % 256 < 256 := by omega
 have hc : n / 65536 < 256 := by omega
 have hcnt : cnt 32 n = cnt 8 (n % 256) + (cnt 8 (n / 256 % 256) + cnt 8 (n / 65536)) := by
  rw [show (32 : Nat) = 8 + (8 + (8 + 8)) from rfl, P4, P4, P4]
  have e1 := Wac 8 n
  have e2 := Wac 8 (n / 2 ^ 8)
  rw [← e1, ← e2]
  have e3 : n / 2 ^ 8 / 2 ^ 8 = n / 65536 := by omega
  have e4 : n / 65536 / 2 ^ 8 = 0 := by omega
  rw [e3, e4, Gaj]
  simp
 rw [hcnt]
 generalize n % 256 = a at *
 generalize n / 256 % 256 = b at *
 generalize n / 65536 = c at *
 rw [e, Ua9 ha hb hc, Wa9 (CaA ⟨a, ha⟩) (CaA ⟨b, hb⟩) (CaA ⟨c, hc⟩), Ya9 (DaA ⟨a, ha⟩) (DaA ⟨b, hb⟩) (DaA ⟨c, hc⟩), EaA ⟨a, ha⟩, EaA ⟨b, hb⟩, EaA ⟨c, hc⟩]
 have h1 := Jaa 8 a
 have h2 := Jaa 8 b
 have h3 := Jaa 8 c
 show NaH (cnt 8 a + 256 * (cnt 8 b + 256 * cnt 8 c)) = _
 unfold NaH
 generalize cnt 8 a = i at *
 generalize cnt 8 b = j at *
 generalize cnt 8 c = k at *
 have g1 : (i + 256 * (j + 256 * k)) / 256 = j + 256 * k := by omega
 rw [g1]
 have g2 : (i + 256 * (j + 256 * k) + (j + 256 * k)) / 65536 = k := by omega
 rw [g2]
 have g3 : (i + 256 * (j + 256 * k) + (j + 256 * k) + k) / 4294967296 = 0 := by omega
 rw [g3]
 omega
theorem Ta9 {n : Nat} (h : n < 16777216) : s1 n < 33554432 := by
 have h1 : n / 2 &&& M5 ≤ n / 2 := Nat.and_le_left
 have h2 : n &&& M5 ≤ n := Nat.and_le_left
 unfold s1; omega
theorem Va9 {n : Nat} (h : n < 33554432) : s2 n < 67108864 := by
 have h1 : n / 4 &&& M3 ≤ n / 4 := Nat.and_le_left
 have h2 : n &&& M3 ≤ n := Nat.and_le_left
 unfold s2; omega
theorem Xa9 {n : Nat} (h : n < 67108864) : s3 n < 134217728 := by
 have h1 : (n / 16 + n) &&& MF ≤ n / 16 + n := Nat.and_le_left
 unfold s3; omega
theorem SaV (x : Nat) : x &&& 127 = x % 128 := by
 have := Nat.and_two_pow_sub_one_eq_mod x 7
 exact this
theorem Jai {n : Nat} (h : n < 16777216) : JG (n : Int) = some (((cnt 32 n : Nat) : Int), ()) := by
 unfold JG FL
 have p64 : (2 : Nat) ^ 64 = 18446744073709551616 := by decide
 have sh : ∀ (x : Nat) (k : Int) (j : Nat), k = (j : Int) → j ≤ 64 → Wb .u64 (x : Int) k = ((x / 2 ^ j : Nat) : Int) := fun x k j hk hj => by rw [hk]; exact ZaB x hj
 have an : ∀ (x : Nat) (k : Int) (j : Nat), x < 2 ^ 64 → k = (j : Int) → j < 2 ^ 64 → Wa .u64 (x : Int) k = ((x &&& j : Nat) : Int) := fun x k j hx hk hj => by rw [hk]; exact UaB hx hj
 have ad : ∀ x y : Nat, (x : Int) + (y : Int) = ((x + y : Nat) : Int) := fun x y => (Int.natCast_add x y).symm
 have b1 := Ta9 h
 have b2 := Va9 b1
 have b3 := Xa9 b2
 have h1 : j5 .u64 ((Wa .u64 (Wb .u64 (n : Int) 1) 6148914691236517205) + (Wa .u64 (n : Int) 6148914691236517205)) = ((s1 n : Nat) : Int) := by
  rw [sh n 1 1 rfl (by omega), an _ 6148914691236517205 M5 (by omega) rfl (by decide), an _ 6148914691236517205 M5 (by omega) rfl (by decide), ad]
  exact TW (a := s1 n) (by omega)
 rw [h1]
 have h2 : j5 .u64 ((Wa .u64 (Wb .u64 ((s1 n : Nat) : Int) 2) 3689348814741910323) + (Wa .u64 ((s1 n : Nat) : Int) 3689348814741910323)) = ((s2 (s1 n) : Nat) : Int) := by
  rw [sh _ 2 2 rfl (by omega), an _ 3689348814741910323 M3 (by omega) rfl (by decide), an _ 3689348814741910323 M3 (by omega) rfl (by decide), ad]
  exact TW (a := s2 (s1 n)) (by omega)
 rw [h2]
 have h3 : Wa .u64 (j5 .u64 ((Wb .u64 ((s2 (s1 n) : Nat) : Int) 4) + ((s2 (s1 n) : Nat) : Int))) 1085102592571150095 = ((s3 (s2 (s1 n)) : Nat) : Int) := by
  rw [sh _ 4 4 rfl (by omega), ad, TW (by omega), an _ 1085102592571150095 MF (by omega) rfl (by decide)]
  rfl
 rw [h3]
 have hp := QaX h
 generalize s3 (s2 (s1 n)) = z at *
 have g1 : j5 .u64 ((z : Int) + Wb .u64 (z : Int) 8) = ((z + z / 256 : Nat) : Int) := by
  rw [sh _ 8 8 rfl (by omega), ad, TW (by omega)]
 rw [g1]
 have g2 : j5 .u64 (((z + z / 256 : Nat) : Int) + Wb .u64 ((z + z / 256 : Nat) : Int) 16) = ((z + z / 256 + (z + z / 256) / 65536 : Nat) : Int) := by
  rw [sh _ 16 16 rfl (by omega), ad, TW (by omega)]
 rw [g2]
 have g3 : j5 .u64 (((z + z / 256 + (z + z / 256) / 65536 : Nat) : Int) + Wb .u64 ((z + z / 256 + (z + z / 256) / 65536 : Nat) : Int) 32) = ((z + z / 256 + (z + z / 256) / 65536 + (z + z / 256 + (z + z / 256) / 65536) / 4294967296 : Nat) : Int) := by
  rw [sh _ 32 32 rfl (by omega), ad, TW (by omega)]
 rw [g3, Je (by omega) (by omega)]
 show jz (some (Wa .i64 _ ((127 : Nat) : Int), ())) _ = _
 rw [FQ (by rw [Hx]; omega) (by decide), SaV]
 rw [← hp]
 rfl
theorem J9 {n : Nat} (h : n < 16777216) : VA (n : Int) = some (((cnt 32 n : Nat) : Int), ()) := by
 have hl := Hh (step := fun x => Gv x.1.1 x.1.2.1 x.1.2.2.1) 32 (by omega) (fun k s => j5 .i64 (s + Wa .i64 (Wb .i64 (n : Int) (k : Int)) 1)) 0 (fun s i => (((n : Int), s, i, ()), ())) (fun s => .inl ((s, ()), ()))
  (by
   intro k hk
   simp only [Gv]
   rw [Ba (show (k : Int) ≤ 31 by omega), Ba (show (0 : Int) ≤ (k : Int) by omega)]; rfl)
  (by
   simp only [Gv]
   rw [Aa (by decide)]; rfl)
 generalize hC : cnt 32 n = C
 have hi : ∀ k : Nat, k ≤ 32 → ∃ c : Nat, Ze (fun k s => j5 .i64 (s + Wa .i64 (Wb .i64 (n : Int) (k : Int)) 1)) k (0 : Int) = (c : Int) ∧ c ≤ k ∧ c + cnt (32 - k) (n / 2 ^ k) = C := by
  intro k
  induction k with
  | zero => intro _; exact ⟨0, rfl, jo _, by rw [← hC, Nat.sub_zero, Nat.pow_zero, Nat.div_one, js]⟩
  | succ k ih =>
   intro hk
   obtain ⟨c, h1, h2, h3⟩ := ih (by omega)
   refine ⟨c + n / 2 ^ k % 2, ?_, by omega, ?_⟩
   ·simp only [Ze, h1]
    rw [PU n (by omega), Nat.shiftRight_eq_div_pow]
    have hd : n / 2 ^ k ≤ n := Nat.div_le_self _ _
    have e : Wa .i64 ((n / 2 ^ k : Nat) : Int) 1 = ((n / 2 ^ k % 2 : Nat) : Int) := by
     show Wa .i64 ((n / 2 ^ k : Nat) : Int) ((1 : Nat) : Int) = _
     rw [FQ (by rw [Hx]; omega) (by decide), Nat.and_one_is_mod]
    rw [e, ← Int.natCast_add, Je (by omega) (by omega)]
   ·rw [show 32 - k = (32 - (k + 1)) + 1 by omega] at h3
    have h4 : cnt (32 - (k + 1) + 1) (n / 2 ^ k) = n / 2 ^ k % 2 + cnt (32 - (k + 1)) (n / 2 ^ k / 2) := rfl
    rw [h4] at h3
    rw [Nat.pow_succ, ← Nat.div_div_eq_div_mul]
    omega
 obtain ⟨c, h1, _, h3⟩ := hi 32 (jo _)
 have h4 : cnt (32 - 32) (n / 2 ^ 32) = 0 := rfl
 rw [h4, Nat.add_zero] at h3
 rw [h1] at hl
 unfold VA Lz
 erw [hl]
 rw [← h3]
 rfl
def Ig (m : Ce) : Bool := decide (1 ≤ m.1 ∧ m.1 ≤ 4 ∧ 1 ≤ m.2.1 ∧ m.2.1 ≤ 6)
theorem JL (m : Ce) : Vq m = some (Ig m, ()) := by
 unfold Vq Ig
 simp only [Kh, Lh]
 apply Zc
 simp only [Pd, decide_eq_true_eq, jq, and_false, or_false]
theorem EV (m : Ce) : SA m = some (Ig m, ()) := by
 unfold SA Ig
 simp only [Oc, jb, Kh, Lh]
 apply Zc
 simp only [Pd, decide_eq_true_eq, jq, and_false, or_false]
 omega
def Yc (m : Ce) : Int := cond (Ig m) (m.1 * m.2.1) 0
theorem B3 {m : Ce} (h : Ig m = true) : 1 ≤ m.1 * m.2.1 ∧ m.1 * m.2.1 ≤ 24 := by
 simp only [Ig, decide_eq_true_eq] at h
 obtain ⟨r, c, d, u⟩ := m
 obtain ⟨h1, h2, h3, h4⟩ := h
 simp only at h1 h2 h3 h4 ⊢
 have : r = 1 ∨ r = 2 ∨ r = 3 ∨ r = 4 := by omega
 rcases this with rfl | rfl | rfl | rfl <;> omega
theorem Fp (m : Ce) : Lj m = some (Yc m, ()) := by
 unfold Lj Yc
 rw [JL]
 cases h : Ig m with
 | false => rfl
 | true => simp only [jb, jg, cond_false, cond_true]; rw [Je (by have := B3 h; omega) (by have := B3 h; omega)]
theorem Qj (m : Ce) : Yk m = some (Yc m, ()) := by
 unfold Yk Yc
 rw [EV]
 cases h : Ig m with
 | false => rfl
 | true => simp only [jb, jg, cond_false, cond_true]; rw [Je (by have := B3 h; omega) (by have := B3 h; omega)]
theorem Vx {α : Type} (x lo hi : Int) (X r : α) : cond (decide (x < lo)) X (cond (decide (x > hi)) X r) = cond (decide (lo ≤ x ∧ x ≤ hi)) r X := by
 by_cases h1 : x < lo
 ·rw [Ba h1, Aa (show ¬ (lo ≤ x ∧ x ≤ hi) by omega)]; rfl
 ·rw [Aa h1]
  by_cases h2 : x > hi
  ·rw [Ba h2, Aa (show ¬ (lo ≤ x ∧ x ≤ hi) by omega)]; rfl
  ·rw [Aa h2, Ba (show lo ≤ x ∧ x ≤ hi by omega)]; rfl
theorem Hr {α : Type} (b : Bool) (x y : α) : cond (!b) x y = cond b y x := by cases b <;> rfl
theorem EaB (a b : Bool) : cond a (some (b, ())) (some (false, ())) = some ((a && b, ()) : Bool × Unit) := by cases a <;> rfl
theorem DY {k : Int} (h : 0 ≤ k ∧ k ≤ 62) : Ra .i64 1 k = ((2 ^ k.toNat : Nat) : Int) := by
 have : k = ((k.toNat : Nat) : Int) := by omega
 rw [this, Ml (by omega)]; rfl
theorem Hal {k : Nat} (h : k ≤ 62) : 1 ≤ 2 ^ k ∧ 2 ^ k ≤ 4611686018427387904 := by
 refine ⟨Nat.one_le_two_pow, ?_⟩
 have := qn (n := 2) (by omega) h
 exact this
def Oe (k x : Int) : Bool := decide (0 ≤ x ∧ x < ((2 ^ k.toNat : Nat) : Int))
def Jd (m : Ce) (x : Int) : Bool := Ig m && Oe (Yc m) x
theorem Dab {m : Ce} (h : Ig m = true) : 1 ≤ Yc m ∧ Yc m ≤ 24 := by
 unfold Yc; rw [h]; exact B3 h
theorem Wv (m : Ce) (x : Int) : Lo m x = some (Jd m x, ()) := by
 unfold Lo Jd
 rw [JL]
 cases h : Ig m with
 | false => rfl
 | true =>
  have := Dab h
  rw [Fp]
  simp only [jb, cond_true, jk]
  rw [Ba (show 0 ≤ Yc m by omega), DY (by omega)]
  simp only [cond_true, EaB, Oe]
  apply Zc
  simp only [jd, decide_eq_true_eq]
theorem RT (k x : Int) (h : 0 ≤ k ∧ k ≤ 62) : decide (0 ≤ x ∧ x ≤ j5 .i64 (Ra .i64 1 k - 1)) = Oe k x := by
 have hp := Hal (k := k.toNat) (by omega)
 rw [DY h]
 unfold Oe
 generalize 2 ^ k.toNat = z at hp
 rw [Je (by omega) (by omega)]
 rw [decide_eq_decide]
 omega
theorem Sw (m : Ce) (x : Int) : Oo m x = some (Jd m x, ()) := by
 unfold Oo Jd
 rw [EV]
 cases h : Ig m with
 | false => rfl
 | true =>
  have := Dab h
  rw [Qj]
  simp only [jb, cond_true, jk, Oc]
  rw [Ba (show 0 ≤ Yc m by omega), RT _ _ (by omega)]
  rfl
def Pax (l : List Int) : Bool := Le (fun _ x => decide ((0 : Int) ≤ x ∧ x ≤ 99)) 0 l
def Eh (d : Qb) : Bool :=
 decide (0 ≤ d.1 ∧ d.1 ≤ 2) && (decide (1 ≤ d.2.1 ∧ d.2.1 ≤ 20) && (decide (1 ≤ d.2.2.1 ∧ d.2.2.1 ≤ 24) && ((((ja d.2.2.2.2.2.1 : Nat) : Int) == d.2.2.1) && (Oe d.2.2.1 d.2.2.2.1 && (Oe d.2.2.1 d.2.2.2.2.1 && Pax d.2.2.2.2.2.1)))))
theorem GP (d : Qb) (hn : d.2.2.2.2.2.1.length ≤ Ea) : Dp d = some (Eh d, ()) := by
 have h20 : Ea = 1048576 := rfl
 have hl := Nf (step := fun x => Qn x.1.1 x.1.2.1 x.1.2.2.1) d.2.2.2.2.2.1 (fun _ x => decide ((0 : Int) ≤ x ∧ x ≤ 99)) (fun i => ((d.2.2.2.2.2.1, ((ja d.2.2.2.2.2.1 : Nat) : Int), i, ()), ()))
  (.inl ((), ())) (.inr ((false, ()), ())) (by
   intro k hk
   simp only [Qn]
   rw [Ba (show (k : Int) < ((ja d.2.2.2.2.2.1 : Nat) : Int) by omega), Cb hk]
   simp only [cond_true, jb, Vx]
   cases decide ((0 : Int) ≤ d.2.2.2.2.2.1[k] ∧ d.2.2.2.2.2.1[k] ≤ 99) <;> rfl) (by
   simp only [Qn]
   rw [Aa (by omega)]; rfl) (by omega)
 unfold Dp Qq Eh
 simp only [Vx]
 cases decide (0 ≤ d.1 ∧ d.1 ≤ 2) with
 | false => rfl
 | true =>
  cases decide (1 ≤ d.2.1 ∧ d.2.1 ≤ 20) with
  | false => rfl
  | true =>
   by_cases h3 : 1 ≤ d.2.2.1 ∧ d.2.2.1 ≤ 24
   ·have hp := Hal (k := d.2.2.1.toNat) (by omega)
    rw [Ba h3, Ba (show 0 ≤ d.2.2.1 by omega), DY (by omega)]
    simp only [cond_true, jk]
    simp only [bne, Hr]
    cases (((ja d.2.2.2.2.2.1 : Nat) : Int) == d.2.2.1) with
    | false => rfl
    | true =>
     simp only [cond_true, jk, Oe]
     have key : ∀ (s z : Int) (X r : Option (Bool × Unit)), cond (decide (s < 0)) X (cond (decide (s ≥ z)) X r) = cond (decide (0 ≤ s ∧ s < z)) r X := by
      intro s z X r
      by_cases h1 : s < 0
      ·rw [Ba h1, Aa (show ¬ (0 ≤ s ∧ s < z) by omega)]; rfl
      ·rw [Aa h1]
       by_cases h2 : s ≥ z
       ·rw [Ba h2, Aa (show ¬ (0 ≤ s ∧ s < z) by omega)]; rfl
       ·rw [Aa h2, Ba (show 0 ≤ s ∧ s < z by omega)]; rfl
     erw [key, key, hl]
     unfold Pax
     cases Le (fun _ x => decide ((0 : Int) ≤ x ∧ x ≤ 99)) 0 d.2.2.2.2.2.1 <;> cases decide (0 ≤ d.2.2.2.1 ∧ d.2.2.2.1 < ((2 ^ d.2.2.1.toNat : Nat) : Int)) <;> cases decide (0 ≤ d.2.2.2.2.1 ∧ d.2.2.2.2.1 < ((2 ^ d.2.2.1.toNat : Nat) : Int)) <;> rfl
   ·rw [Aa h3]; rfl
theorem OP (d : Qb) (hn : d.2.2.2.2.2.1.length ≤ Ea) : Mp d = some (Eh d, ()) := by
 have h20 : Ea = 1048576 := rfl
 have hl := Nf (step := fun x => Co x.1.1 x.1.2.1 x.2.1) d.2.2.2.2.2.1 (fun _ x => decide ((0 : Int) ≤ x ∧ x ≤ 99)) (fun i => (((), i, ()), (d, ())))
  (.inl (((), ()), (d, ()))) (.inr ((false, ()), ())) (by
   intro k hk
   simp only [Co]
   rw [Ba (show (k : Int) < ((ja d.2.2.2.2.2.1 : Nat) : Int) by omega), Cb hk]
   simp only [cond_true, jb, Oc]
   cases decide ((0 : Int) ≤ d.2.2.2.2.2.1[k] ∧ d.2.2.2.2.2.1[k] ≤ 99) <;> rfl) (by
   simp only [Co]
   rw [Aa (by omega)]; rfl) (by omega)
 unfold Mp Rq Eh
 simp only [Oc, jb, Hr]
 cases decide (0 ≤ d.1 ∧ d.1 ≤ 2) with
 | false => rfl
 | true =>
  cases decide (1 ≤ d.2.1 ∧ d.2.1 ≤ 20) with
  | false => rfl
  | true =>
   by_cases h3 : 1 ≤ d.2.2.1 ∧ d.2.2.1 ≤ 24
   ·rw [Ba h3]
    simp only [cond_true, jk]
    simp only [bne, Hr]
    cases (((ja d.2.2.2.2.2.1 : Nat) : Int) == d.2.2.1) with
    | false => rfl
    | true =>
     simp only [cond_true, jk]
     erw [hl]
     unfold Pax
     cases Le (fun _ x => decide ((0 : Int) ≤ x ∧ x ≤ 99)) 0 d.2.2.2.2.2.1 with
     | false => cases Oe d.2.2.1 d.2.2.2.1 <;> cases Oe d.2.2.1 d.2.2.2.2.1 <;> rfl
     | true =>
      simp only [cond_true, jb, ql]
      rw [Ba (show 0 ≤ d.2.2.1 by omega), RT _ _ (by omega), RT _ _ (by omega)]
      cases Oe d.2.2.1 d.2.2.2.1 <;> cases Oe d.2.2.1 d.2.2.2.2.1 <;> rfl
   ·rw [Aa h3]; rfl
def Ux (L : List Va) (i : Nat) (x : Va) : Bool :=
 decide (0 ≤ x.1 ∧ x.1 ≤ 16777215) && (decide (24 ≤ x.2.1 ∧ x.2.1 ≤ 31) && (decide (2 ≤ ((cnt 32 x.1.toNat : Nat) : Int) ∧ ((cnt 32 x.1.toNat : Nat) : Int) ≤ 4) && Le (fun _ (y : Va) => !(y.1 == x.1) && !(y.2.1 == x.2.1)) 0 (L.take i)))
def Mh (L : List Va) : Bool := decide (L.length ≤ 8) && Le (fun i x => Ux L i x) 0 L
theorem Maf {α : Type} {L : List α} {i k : Nat} (h : k < (L.take i).length) : (L.take i)[k] = L[k]'(by simp at h; omega) := by simp
theorem IU (L : List Va) (hn : L.length ≤ Ea) : BA L = some (Mh L, ()) := by
 have h20 : Ea = 1048576 := rfl
 have hl := Nf (step := fun x => Fu x.1.1 x.1.2.1 x.1.2.2.1 x.1.2.2.2.1) L (fun i x => Ux L i x) (fun i => ((L, L, ((ja L : Nat) : Int), i, ()), ()))
  (.inl ((), ())) (.inr ((false, ()), ())) (by
   intro k hk
   simp only [Fu]
   rw [Ba (show (k : Int) < ((ja L : Nat) : Int) by omega), Cb hk]
   simp only [cond_true, jb, Vx, Ux]
   generalize hx : L[k] = x
   by_cases h1 : 0 ≤ x.1 ∧ x.1 ≤ 16777215
   ·rw [Ba h1]
    cases decide (24 ≤ x.2.1 ∧ x.2.1 ≤ 31) with
    | false => rfl
    | true =>
     have e : j5 .u64 x.1 = ((x.1.toNat : Nat) : Int) := by
      have : x.1 = ((x.1.toNat : Nat) : Int) := by omega
      rw [this, TW (by
       have : (2 : Nat) ^ 64 = 18446744073709551616 := by decide
       omega)]
      simp
     rw [e, Jai (by omega)]
     simp only [cond_true, jb, jk, Vx]
     cases decide (2 ≤ ((cnt 32 x.1.toNat : Nat) : Int) ∧ ((cnt 32 x.1.toNat : Nat) : Int) ≤ 4) with
     | false => rfl
     | true =>
      have hcut : Ld (ja L) 0 (k : Int) = true := Bi (lo := 0) (Nat.zero_le _) (by omega)
      rw [hcut]
      simp only [cond_true, jk]
      have hin := Nf (step := fun y => Nr y.1.1 y.1.2.1 y.1.2.2.1 y.1.2.2.2.1 y.1.2.2.2.2.1 y.1.2.2.2.2.2.1 y.1.2.2.2.2.2.2.1 y.1.2.2.2.2.2.2.2.1 y.2.1) (L.take k) (fun _ (y : Va) => !(y.1 == x.1) && !(y.2.1 == x.2.1)) (fun i => ((L, (), L, ((ja L : Nat) : Int), (k : Int), L.take k, ((ja (L.take k) : Nat) : Int), i, ()), (x, ())))
       (.inl ((L, L, ((ja L : Nat) : Int), (k : Int), ()), ())) (.inr ((false, ()), ())) (by
        intro j hj
        simp only [Nr]
        rw [Ba (show (j : Int) < ((ja (L.take k) : Nat) : Int) by omega), Cb hj]
        simp only [cond_true, jb]
        cases ((L.take k)[j].1 == x.1) <;> cases ((L.take k)[j].2.1 == x.2.1) <;> rfl) (by
        simp only [Nr]
        rw [Aa (by omega)]; rfl) (by simp; omega)
      have hc : Gb L (jy (0 : Int)) (jy (k : Int)) = L.take k := by simp [Gb]
      rw [hc]
      unfold Tv
      erw [hin]
      cases Le (fun _ (y : Va) => !(y.1 == x.1) && !(y.2.1 == x.2.1)) 0 (L.take k) <;> rfl
   ·rw [Aa h1]; rfl) (by
   simp only [Fu]
   rw [Aa (by omega)]; rfl) (by omega)
 unfold BA Cy Mh
 by_cases h8 : L.length ≤ 8
 ·rw [Aa (show ¬ ((ja L : Nat) : Int) > 8 by omega), Ba h8]
  simp only [cond_false, jk]
  erw [hl]
  cases Le (fun i x => Ux L i x) 0 L <;> rfl
 ·rw [Ba (show ((ja L : Nat) : Int) > 8 by omega), Aa h8]; rfl
theorem BV (L : List Va) (hn : L.length ≤ Ea) : PA L = some (Mh L, ()) := by
 have h20 : Ea = 1048576 := rfl
 have hl := Nf (step := fun x => Yu x.1.1 x.1.2.1) L (fun i x => Ux L i x) (fun i => ((L, i, ()), ()))
  (.inl ((L, ()), ())) (.inr ((false, ()), ())) (by
   intro k hk
   simp only [Yu]
   rw [Ba (show (k : Int) < ((ja L : Nat) : Int) by omega), Cb hk]
   simp only [cond_true, jb, Oc, Hr, Ux]
   generalize hx : L[k] = x
   by_cases h1 : 0 ≤ x.1 ∧ x.1 ≤ 16777215
   ·rw [Ba h1]
    have e : VA x.1 = some (((cnt 32 x.1.toNat : Nat) : Int), ()) := by
     obtain ⟨n, hnn⟩ := jv h1.1
     rw [hnn, jn]
     exact J9 (by omega)
    rw [e]
    simp only [cond_true, jb, jk]
    cases decide (2 ≤ ((cnt 32 x.1.toNat : Nat) : Int) ∧ ((cnt 32 x.1.toNat : Nat) : Int) ≤ 4) with
    | false => cases decide (24 ≤ x.2.1 ∧ x.2.1 ≤ 31) <;> rfl
    | true =>
     cases decide (24 ≤ x.2.1 ∧ x.2.1 ≤ 31) with
     | false => rfl
     | true =>
      simp only [cond_true, jk]
      have hin := Nf (step := fun y => Zu y.1.1 y.1.2.1 y.1.2.2.1) (L.take k) (fun _ (y : Va) => !(y.1 == x.1) && !(y.2.1 == x.2.1)) (fun i => ((L, (k : Int), i, ()), ()))
       (.inl ((L, (k : Int), ()), ())) (.inr ((false, ()), ())) (by
        intro j hj
        have hj2 : j < k := by simp at hj; omega
        simp only [Zu]
        rw [Ba (show (j : Int) < (k : Int) by omega), Cb (show j < L.length by omega), Cb hk, hx, Maf hj]
        simp only [cond_true, jb]
        cases (L[j].1 == x.1) <;> cases (L[j].2.1 == x.2.1) <;> rfl) (by
        have : ((ja (L.take k) : Nat) : Int) = (k : Int) := by simp; omega
        simp only [Zu]
        rw [Aa (by omega)]; rfl) (by simp; omega)
      unfold Ez
      erw [hin]
      cases Le (fun _ (y : Va) => !(y.1 == x.1) && !(y.2.1 == x.2.1)) 0 (L.take k) <;> rfl
   ·rw [Aa h1]; rfl) (by
   simp only [Yu]
   rw [Aa (by omega)]; rfl) (by omega)
 unfold PA Dz Mh
 erw [hl]
 cases Le (fun i x => Ux L i x) 0 L with
 | true =>
  simp only [cond_true, jb, ql, Bool.and_true]
  apply Zc
  simp only [decide_eq_true_eq]; omega
 | false => cases decide (L.length ≤ 8) <;> rfl
def VJ : Va := (0, 0, ())
def Ik (L : List Va) (o : Int) : Option Va := L.find? (fun c => c.2.1 == o)
theorem OZ {α : Type} (p : α → Bool) : ∀ (xs : List α) (k : Nat), (Tc (fun _ (_ : Unit) x => cond (p x) (.inr x) (.inl ())) k () xs : Unit ⊕ α) = match xs.find? p with | some x => .inr x | none => .inl ()
 | [], _ => rfl
 | x :: xs, k => by
  rcases Bool.eq_false_or_eq_true (p x) with hp | hp
  ·simp only [Tc, hp, cond_true, List.find?_cons]
  ·simp only [Tc, hp, cond_false, List.find?_cons]; exact OZ p xs (k + 1)
theorem YV (L : List Va) (o : Int) (hn : L.length ≤ Ea) : RE L o = some ((Ik L o).getD VJ, (Ik L o).isSome, ()) := by
 have h20 : Ea = 1048576 := rfl
 have hl := Mg (step := fun x => Iy x.1.1 x.1.2.1 x.1.2.2.1 x.1.2.2.2.1 x.1.2.2.2.2.1 x.2.1) L (fun _ (_ : Unit) (x : Va) => cond (x.2.1 == o) (.inr x) (.inl ())) (fun _ i => ((o, (), L, ((ja L : Nat) : Int), i, ()), (((0 : Int), (0 : Int), ()), ())))
  (fun _ => .inl (((), ()), (((0 : Int), (0 : Int), ()), ()))) (fun x => .inr (((), true, ()), (x, ()))) (fun _ _ => True) (by
   intro k hk s _
   refine ⟨?_, fun _ _ => trivial⟩
   simp only [Iy]
   rw [Ba (show (k : Int) < ((ja L : Nat) : Int) by omega), Cb hk]
   simp only [cond_true, jb]
   cases (L[k].2.1 == o) <;> rfl) (by
   intro s _
   simp only [Iy]
   rw [Aa (by omega)]; rfl) (by omega) () trivial
 unfold RE NB Ik
 erw [hl, OZ]
 cases List.find? (fun c => c.2.1 == o) L <;> rfl
theorem OW (L : List Va) (o : Int) (hn : L.length ≤ Ea) : VF L o = some (((Ik L o).getD VJ).1, ()) := by
 have h20 : Ea = 1048576 := rfl
 have hl := Mg (step := fun x => Oz x.1.1 x.1.2.1 x.1.2.2.1) L (fun _ (_ : Unit) (x : Va) => cond (x.2.1 == o) (.inr x) (.inl ())) (fun _ i => ((L, o, i, ()), ()))
  (fun _ => .inl ((), ())) (fun x => .inr ((x.1, ()), ())) (fun _ _ => True) (by
   intro k hk s _
   refine ⟨?_, fun _ _ => trivial⟩
   simp only [Oz]
   rw [Ba (show (k : Int) < ((ja L : Nat) : Int) by omega), Cb hk]
   simp only [cond_true, jb]
   cases (L[k].2.1 == o) <;> rfl) (by
   intro s _
   simp only [Oz]
   rw [Aa (by omega)]; rfl) (by omega) () trivial
 unfold VF VB Ik
 erw [hl, OZ]
 cases List.find? (fun c => c.2.1 == o) L <;> rfl
theorem HZ {L : List Va} {o : Int} (h : Mh L = true) (hs : (Ik L o).isSome = true) : 24 ≤ o ∧ o ≤ 31 ∧ 0 ≤ ((Ik L o).getD VJ).1 ∧ ((Ik L o).getD VJ).1 ≤ 16777215 := by
 unfold Ik at *
 cases hc : List.find? (fun c => c.2.1 == o) L with
 | none => rw [hc] at hs; simp at hs
 | some c =>
  have h1 := List.find?_some hc
  have h2 := List.mem_of_find?_eq_some hc
  obtain ⟨i, hi, rfl⟩ := qv h2
  simp only [Mh, jd] at h
  have h3 := GE.1 h.2 i hi
  simp only [Ux, jd, decide_eq_true_eq] at h3
  simp only [beq_iff_eq] at h1
  simp only [Option.getD_some]
  omega
def okA (K : Int) (x : Ca) : Bool := !decide (x.2.1 ≤ 0) && (!(Mb .i64 x.2.1 K != 0) && !(x.2.2.1 != (x.2.1 == K)))
def VZ (L : List Va) (o : Int) : Int := ((Ik L o).getD VJ).1
def R6 (L : List Va) (x : Ca) : Bool := (Ik L x.1).isSome && okA (VZ L x.1) x
theorem SaA {x : Int} (h0 : 0 < x) (h1 : x ≤ 9223372036854775807) : Mb .i64 x 0 = x := by
 obtain ⟨n, rfl⟩ := jv (show 0 ≤ x by omega)
 show Mb .i64 (n : Int) ((0 : Nat) : Int) = _
 rw [J2 (by rw [Hx]; omega) (by decide), Nat.and_zero, Nat.xor_zero]
theorem Ra9 {L : List Va} {x : Ca} (h1 : x.2.1 ≤ 9223372036854775807) : okA (VZ L x.1) x = R6 L x := by
 unfold R6 VZ
 cases hc : Ik L x.1 with
 | some c => rfl
 | none =>
  simp only [Option.getD_none, Option.isSome_none, qq, okA, VJ]
  by_cases h0 : x.2.1 ≤ 0
  ·rw [Ba h0]; rfl
  ·rw [SaA (by omega) h1, Aa h0]
   have : (x.2.1 != 0) = true := by simp; omega
   rw [this]; rfl
def LF (pre : List Ca) (x : Ca) : Bool := Le (fun _ (y : Ca) => !(y.1 == x.1)) 0 pre
def SI (L : List Va) : List Ca → List Ca → Bool
 | _, [] => true
 | pre, x :: r => (R6 L x && LF pre x) && SI L (pre ++ [x]) r
def UP (c : Pa) : Bool := SI c.1 [] c.2.2.2.2.2.2.1
theorem Eaa {α : Type} (p : α → Bool) : ∀ (xs : List α) (k j : Nat), Le (fun _ x => p x) k xs = Le (fun _ x => p x) j xs
 | [], _, _ => rfl
 | x :: xs, k, j => by simp only [Le]; rw [Eaa p xs (k + 1) (j + 1)]
theorem Tai {α : Type} (p : α → Bool) : ∀ (xs ys : List α) (k : Nat), Le (fun _ x => p x) k (xs ++ ys) = (Le (fun _ x => p x) k xs && Le (fun _ x => p x) k ys)
 | [], ys, k => by simp [Le]
 | x :: xs, ys, k => by
  simp only [List.cons_append, Le]
  rw [Tai p xs ys (k + 1), Bool.and_assoc, Eaa p ys (k + 1) k]
theorem JaD (pre : List Ca) (y x : Ca) : LF (pre ++ [y]) x = (LF pre x && !(y.1 == x.1)) := by
 unfold LF
 rw [Tai]
 simp [Le]
def Qai (L : List Va) (s : Int) (x : Ca) : Int ⊕ Unit := cond (R6 L x && !(Kd s x.1 == 1)) (.inl (Pc .i64 s (Ra .i64 1 x.1))) (.inr ())
theorem Rai {L : List Va} (hL : Mh L = true) : ∀ (l pre : List Ca) (k : Nat) (s : Nat), s < 2 ^ 63 →
 (∀ x : Ca, 24 ≤ x.1 → x.1 ≤ 31 → (Kd (s : Int) x.1 == 1) = !LF pre x) → Hn (Tc (fun _ s x => Qai L s x) k (s : Int) l) = SI L pre l
 | [], _, _, _, _, _ => rfl
 | x :: l, pre, k, s, hs, hb => by
  simp only [Tc, SI, Qai]
  cases ho : R6 L x with
  | false => rfl
  | true =>
   have hk : 24 ≤ x.1 ∧ x.1 ≤ 31 := by
    simp only [R6, jd] at ho
    have := HZ hL ho.1
    omega
   rw [hb x hk.1 hk.2]
   simp only [Bool.not_not, jk]
   cases hn : LF pre x with
   | false => rfl
   | true =>
    simp only [cond_true, jk]
    obtain ⟨n, hn2⟩ := jv (show 0 ≤ x.1 by omega)
    have hor : Pc .i64 (s : Int) (Ra .i64 1 x.1) = ((s ||| 2 ^ n : Nat) : Int) := by
     rw [hn2, Ml (by omega), Ew hs (Gj (by omega))]
    rw [hor]
    refine Rai hL l (pre ++ [x]) (k + 1) _ (Nat.or_lt_two_pow hs (Gj (by omega))) fun y h1 h2 => ?_
    obtain ⟨m, hm⟩ := jv (show 0 ≤ y.1 by omega)
    rw [← hor, hm, hn2, UaV hs (by omega) (by omega), ← hm, hb y h1 h2, JaD]
    have : (x.1 == y.1) = decide (n = m) := by rw [hm, hn2, qz, beq_iff_eq, decide_eq_true_eq]; omega
    rw [this]
    cases LF pre y <;> cases decide (n = m) <;> rfl
theorem N2 (c : Pa) (hc : Mh c.1 = true) (hn : c.2.2.2.2.2.2.1.length ≤ Ea) (hn1 : c.1.length ≤ Ea) : IC c = some (UP c, ()) := by
 have h20 : Ea = 1048576 := rfl
 have hl := Mg (step := fun x => Sp x.1.1 x.1.2.1 x.1.2.2.1 x.1.2.2.2.1 x.1.2.2.2.2.1 x.2.1) c.2.2.2.2.2.2.1 (fun _ s x => Qai c.1 s x) (fun s i => (((), s, c.2.2.2.2.2.2.1, ((ja c.2.2.2.2.2.2.1 : Nat) : Int), i, ()), (c, ())))
  (fun _ => .inl ((), ())) (fun _ => .inr ((false, ()), ())) (fun _ _ => True) (by
   intro k hk s _
   refine ⟨?_, fun _ _ => trivial⟩
   simp only [Sp]
   rw [Ba (show (k : Int) < ((ja c.2.2.2.2.2.2.1 : Nat) : Int) by omega), Cb hk]
   simp only [cond_true, jb]
   generalize c.2.2.2.2.2.2.1[k] = x
   rw [YV _ _ hn1]
   simp only [jb, Qai, R6]
   cases hsome : (Ik c.1 x.1).isSome with
   | false => rfl
   | true =>
    have hk := HZ hc hsome
    simp only [jg, cond_false, jk]
    rw [Ul s (by omega), Ba (show 0 ≤ x.1 by omega)]
    simp only [jb, cond_true, okA, VZ]
    cases Kd s x.1 == 1 <;> cases decide (x.2.1 ≤ 0) <;> cases (Mb .i64 x.2.1 ((Ik c.1 x.1).getD VJ).1 != 0) <;> cases (x.2.2.1 != (x.2.1 == ((Ik c.1 x.1).getD VJ).1)) <;> rfl) (by
   intro s _
   simp only [Sp]
   rw [Aa (by omega)]; rfl) (by omega) 0 trivial
 unfold IC It UP
 erw [hl]
 rw [← Rai hc c.2.2.2.2.2.2.1 [] 0 0 (by decide) (fun x h1 h2 => by
  obtain ⟨m, hm⟩ := jv (show 0 ≤ x.1 by omega)
  rw [hm, Ft (by decide) (by omega), Nat.zero_testBit]; rfl)]
 show jz (some _) _ = _
 simp only [jb]
 show j7 _ _ _ = _
 cases Tc (fun x s x => Qai c.1 s x) 0 ((0 : Nat) : Int) c.2.2.2.2.2.2.1 <;> rfl
def swG (s : Int) (x : Ca) : Int ⊕ Unit := cond (Wa .i64 s x.2.1 != 0) (.inr ()) (.inl (Pc .i64 s x.2.1))
def swB (c : Pa) : Bool := Hn (Tc (fun _ s x => swG s x) 0 c.2.2.2.2.2.1 c.2.2.2.2.2.2.1)
def orK (k : Nat) (s : Int) (l : List Ca) : Int := Qd (fun _ s (x : Ca) => Pc .i64 s x.2.1) k s l
def Im (c : Pa) : Int := orK 0 c.2.2.2.2.2.1 c.2.2.2.2.2.2.1
theorem NaN : ∀ (l : List Ca) (k : Nat) (s : Int), Tc (fun _ s x => swG s x) k s l = cond (Hn (Tc (fun _ s x => swG s x) k s l)) (.inl (orK k s l)) (.inr ())
 | [], _, _ => rfl
 | x :: l, k, s => by
  simp only [Tc, orK, Qd, swG]
  cases Wa .i64 s x.2.1 != 0 with
  | true => rfl
  | false => simp only [cond_false]; exact NaN l (k + 1) _
theorem Ly (c : Pa) (hn : c.2.2.2.2.2.2.1.length ≤ Ea) : Si c = some (cond (swB c) (Im c) 0, swB c, ()) := by
 have h20 : Ea = 1048576 := rfl
 have hl := Mg (step := fun x => Mm x.1.1 x.1.2.1 x.1.2.2.1 x.1.2.2.2.1) c.2.2.2.2.2.2.1 (fun _ s x => swG s x) (fun s i => ((s, c.2.2.2.2.2.2.1, ((ja c.2.2.2.2.2.2.1 : Nat) : Int), i, ()), ()))
  (fun s => .inl ((s, ()), ())) (fun _ => .inr (((0 : Int), false, ()), ())) (fun _ _ => True) (by
   intro k hk s _
   refine ⟨?_, fun _ _ => trivial⟩
   simp only [Mm]
   rw [Ba (show (k : Int) < ((ja c.2.2.2.2.2.2.1 : Nat) : Int) by omega), Cb hk]
   simp only [cond_true, jb, swG]
   cases (Wa .i64 s c.2.2.2.2.2.2.1[k].2.1 != 0) <;> rfl) (by
   intro s _
   simp only [Mm]
   rw [Aa (by omega)]; rfl) (by omega) c.2.2.2.2.2.1 trivial
 unfold Si Hp swB Im
 erw [hl, NaN]
 show jz (some _) _ = _
 cases Hn (Tc (fun _ s x => swG s x) 0 c.2.2.2.2.2.1 c.2.2.2.2.2.2.1) <;> rfl
theorem BP (c : Pa) (hn : c.2.2.2.2.2.2.1.length ≤ Ea) : Yw c = some (Im c, ()) := by
 have h20 : Ea = 1048576 := rfl
 have hl := (De (step := fun x => Nz x.1.1 x.1.2.1 x.1.2.2.1 x.2.1) c.2.2.2.2.2.2.1 (fun _ s (x : Ca) => Pc .i64 s x.2.1) (fun s i => (((), s, i, ()), (c, ())))
  (fun s => .inl ((s, ()), ())) (fun _ _ => True) (by
   intro k hk s _
   refine ⟨?_, trivial⟩
   simp only [Nz]
   rw [Ba (show (k : Int) < ((ja c.2.2.2.2.2.2.1 : Nat) : Int) by omega), Cb hk]; rfl) (by
   intro s _
   simp only [Nz]
   rw [Aa (by omega)]; rfl) (by omega) c.2.2.2.2.2.1 trivial).1
 unfold Yw UB Im orK
 erw [hl]; rfl
def Sai (L : List Va) (l : List Ca) (k : Nat) (s : Int) (x : Ca) : Int ⊕ Unit :=
 cond (okA (VZ L x.1) x && (!(Wa .i64 x.2.1 s != 0) && LF (l.take k) x)) (.inl (Pc .i64 s x.2.1)) (.inr ())
theorem TaB (x y : Int) : Wa .i64 x y = Wa .i64 y x := by unfold Wa; rw [BitVec.and_comm]
theorem Aaa (L : List Va) (l : List Ca) : ∀ (r : List Ca) (k : Nat) (s : Int), l.drop k = r → k ≤ l.length → (∀ x ∈ r, x.2.1 ≤ 9223372036854775807) →
 Hn (Tc (Sai L l) k s r) = (SI L (l.take k) r && Hn (Tc (fun _ s x => swG s x) k s r))
 | [], _, _, _, _, _ => rfl
 | x :: r, k, s, hd, hle, hr => by
  obtain ⟨hk, hx, hd'⟩ := TR hd
  have ht : l.take (k + 1) = l.take k ++ [x] := by rw [Naf hk, hx]
  simp only [Tc, SI, Sai, swG]
  rw [Ra9 (hr x (by simp)), TaB x.2.1 s]
  cases R6 L x with
  | false => rfl
  | true =>
   cases (Wa .i64 s x.2.1 != 0) with
   | true => simp [Hn]
   | false =>
    cases LF (l.take k) x with
    | false => rfl
    | true =>
     simp only [qa, jk, cond_true, cond_false]
     rw [Aaa L l r (k + 1) _ hd' hk (fun y hy => hr y (by simp [hy])), ht]; rfl
theorem A6 (c : Pa) (hr : ∀ x ∈ c.2.2.2.2.2.2.1, x.2.1 ≤ 9223372036854775807) (hn : c.2.2.2.2.2.2.1.length ≤ Ea) (hn1 : c.1.length ≤ Ea) :
 PH c = some (decide (0 ≤ c.2.2.2.2.2.1 ∧ c.2.2.2.2.2.1 ≤ 16777215) && (UP c && swB c), ()) := by
 have h20 : Ea = 1048576 := rfl
 have hl := Mg (step := fun x => Xs x.1.1 x.1.2.1 x.1.2.2.1 x.2.1) c.2.2.2.2.2.2.1 (Sai c.1 c.2.2.2.2.2.2.1) (fun s i => (((), s, i, ()), (c, ())))
  (fun _ => .inl (((), ()), (c, ()))) (fun _ => .inr ((false, ()), ())) (fun _ _ => True) (by
   intro k hk s _
   refine ⟨?_, fun _ _ => trivial⟩
   simp only [Xs]
   rw [Ba (show (k : Int) < ((ja c.2.2.2.2.2.2.1 : Nat) : Int) by omega), Cb hk]
   simp only [cond_true, jb]
   rw [OW _ _ hn1]
   generalize hx : c.2.2.2.2.2.2.1[k] = x
   simp only [jb, Sai, okA, VZ]
   have hin := Nf (step := fun y => Kq y.1.1 y.1.2.1 y.1.2.2.1 y.1.2.2.2.1 y.1.2.2.2.2.1 y.2.1 y.2.2.1) (c.2.2.2.2.2.2.1.take k) (fun _ (y : Ca) => !(y.1 == x.1)) (fun i => (((), s, (k : Int), (), i, ()), (c, x, ())))
    (.inl (((), s, (k : Int), (), ()), (c, x, ()))) (.inr ((false, ()), ())) (by
     intro j hj
     have hj2 : j < k := by simp at hj; omega
     simp only [Kq]
     rw [Ba (show (j : Int) < (k : Int) by omega), Cb (show j < c.2.2.2.2.2.2.1.length by omega), Maf hj]
     simp only [cond_true, jb]
     cases (c.2.2.2.2.2.2.1[j].1 == x.1) <;> rfl) (by
     have : ((ja (c.2.2.2.2.2.2.1.take k) : Nat) : Int) = (k : Int) := by simp; omega
     simp only [Kq]
     rw [Aa (by omega)]; rfl) (by simp; omega)
   unfold Vt LF
   erw [hin]
   cases decide (x.2.1 ≤ 0) with
   | true => rfl
   | false =>
    cases (Mb .i64 x.2.1 ((Ik c.1 x.1).getD VJ).1 != 0) with
    | true => rfl
    | false =>
     cases (x.2.2.1 != (x.2.1 == ((Ik c.1 x.1).getD VJ).1)) with
     | true => rfl
     | false =>
      cases (Wa .i64 x.2.1 s != 0) with
      | true => rfl
      | false => cases Le (fun _ (y : Ca) => !(y.1 == x.1)) 0 (c.2.2.2.2.2.2.1.take k) <;> rfl) (by
   intro s _
   simp only [Xs]
   rw [Aa (by omega)]; rfl) (by omega) c.2.2.2.2.2.1 trivial
 unfold PH Ww UP swB
 erw [hl]
 have hs := Aaa c.1 c.2.2.2.2.2.2.1 c.2.2.2.2.2.2.1 0 c.2.2.2.2.2.1 rfl (Nat.zero_le _) hr
 rw [List.take_zero] at hs
 rw [← hs]
 show jz (some _) _ = _
 cases Tc (Sai c.1 c.2.2.2.2.2.2.1) 0 c.2.2.2.2.2.1 c.2.2.2.2.2.2.1 with
 | inl s =>
  simp only [jb, ql, Oc, Hn, Bool.and_true]
 | inr u => simp only [jb, Sum.elim_inr, Hn, Bool.and_false]
def Ae (c : Pa) : Bool :=
 Mh c.1 && (decide (1 ≤ c.2.1 ∧ c.2.1 ≤ 200) && (decide (0 ≤ c.2.2.2.1 ∧ c.2.2.2.1 ≤ 1000000) && (decide (0 ≤ c.2.2.2.2.1 ∧ c.2.2.2.2.1 ≤ c.2.2.2.1) && ((decide (0 ≤ c.2.2.2.2.2.1 ∧ c.2.2.2.2.2.1 ≤ 16777215) && (UP c && swB c)) &&
  (Ud c.2.2.1 (Im c) 24 && Sf c.2.2.1 c.2.2.2.1)))))
structure Hj (c : Pa) : Prop where
 a : c.1.length ≤ Ea
 q : c.2.2.1.length ≤ Ea
 e : c.2.2.2.2.2.2.1.length ≤ Ea
 r : ∀ x ∈ c.2.2.2.2.2.2.1, x.2.1 ≤ 9223372036854775807
theorem VR (c : Pa) (h : Hj c) : Mr c = some (Ae c, ()) := by
 unfold Mr Ae
 rw [IU _ h.a]
 cases hc : Mh c.1 with
 | false => rfl
 | true =>
  rw [N2 c hc h.e h.a, Ly c h.e]
  simp only [jb, Hr, cond_true, jk, Vx]
  cases decide (1 ≤ c.2.1 ∧ c.2.1 ≤ 200) with
  | false => rfl
  | true =>
   cases decide (0 ≤ c.2.2.2.1 ∧ c.2.2.2.1 ≤ 1000000) with
   | false => rfl
   | true =>
    cases decide (0 ≤ c.2.2.2.2.1 ∧ c.2.2.2.2.1 ≤ c.2.2.2.1) with
    | false => rfl
    | true =>
     cases decide (0 ≤ c.2.2.2.2.2.1 ∧ c.2.2.2.2.2.1 ≤ 16777215) with
     | false => rfl
     | true =>
      cases UP c with
      | false => rfl
      | true =>
       cases swB c with
       | false => rfl
       | true =>
        simp only [cond_true, jk]
        rw [Lu _ _ _ h.q, Ku _ _ h.q]
        cases Ud c.2.2.1 (Im c) 24 <;> rfl
theorem GS (c : Pa) (h : Hj c) : Ss c = some (Ae c, ()) := by
 have h20 : Ea = 1048576 := rfl
 unfold Ss Ae
 rw [BV _ h.a]
 cases hc : Mh c.1 with
 | false => rfl
 | true =>
  rw [A6 c h.r h.e h.a, BP c h.e]
  simp only [jb, Hr, cond_true, jk, Oc]
  cases decide (1 ≤ c.2.1 ∧ c.2.1 ≤ 200) with
  | false => rfl
  | true =>
   cases decide (0 ≤ c.2.2.2.1 ∧ c.2.2.2.1 ≤ 1000000) with
   | false => rfl
   | true =>
    cases decide (0 ≤ c.2.2.2.2.1 ∧ c.2.2.2.2.1 ≤ c.2.2.2.1) with
    | false => rfl
    | true =>
     cases (decide (0 ≤ c.2.2.2.2.2.1 ∧ c.2.2.2.2.2.1 ≤ 16777215) && (UP c && swB c)) with
     | false => rfl
     | true =>
      simp only [cond_true, jk]
      rw [Ws _ _ _ h.q]
      simp only [jb]
      cases Ud c.2.2.1 (Im c) 24 with
      | false => rfl
      | true =>
       simp only [cond_true, jk, Sf]
       by_cases h0 : c.2.2.1.length = 0
       ·have : (((c.2.2.1.length : Nat) : Int) == 0) = true := by simp [h0]
        rw [this]; rfl
       ·obtain ⟨x, h1, h2⟩ := GU (l := c.2.2.1) (by omega) h.q
        have : (((c.2.2.1.length : Nat) : Int) == 0) = false := by
         rw [beq_eq_false_iff_ne]; omega
        rw [this, h1]
        simp only [cond_false, jb, Bool.false_or, h2]
def qdG (s : Int) (x : Ca) : Int := cond x.2.2.1 (Pc .i64 s (Ra .i64 1 x.2.1)) (Mb .i64 s (Ra .i64 1 x.2.1))
def qdI (d : Int) (q : List Ca) : Int := Qd (fun _ s x => qdG s x) 0 d q
def tgG (s : Int) (x : Ca) : Int := Za .i64 s (Ra .i64 1 x.2.1)
def tgI (d : Int) (q : List Ca) : Int := Qd (fun _ s x => tgG s x) 0 d q
theorem ZS (d : Int) (q : List Ca) (hn : q.length ≤ Ea) (hx : ∀ x ∈ q, 0 ≤ x.2.1) : Aw d q = some (qdI d q, ()) := by
 have h20 : Ea = 1048576 := rfl
 have hl := (De (step := fun x => Tr x.1.1 x.1.2.1 x.1.2.2.1 x.1.2.2.2.1) q (fun _ s x => qdG s x) (fun s i => ((s, q, ((ja q : Nat) : Int), i, ()), ()))
  (fun s => .inl ((s, ()), ())) (fun _ _ => True) (by
   intro k hk s _
   refine ⟨?_, trivial⟩
   simp only [Tr]
   rw [Ba (show (k : Int) < ((ja q : Nat) : Int) by omega), Cb hk]
   simp only [cond_true, jb]
   rw [Ba (hx _ (qt hk))]
   unfold qdG
   cases q[k].2.2.1 <;> rfl) (by
   intro s _
   simp only [Tr]
   rw [Aa (by omega)]; rfl) (by omega) d trivial).1
 unfold Aw Bw qdI
 erw [hl]; rfl
theorem GY {k : Int} (h : 0 ≤ k ∧ k ≤ 31) : Tt k = some (Ra .i64 1 k, ()) := by
 unfold Tt
 rw [Oc, Ba h, Ba h.1]; rfl
theorem HS (d : Int) (q : List Ca) (hn : q.length ≤ Ea) (hx : ∀ x ∈ q, 0 ≤ x.2.1 ∧ x.2.1 ≤ 31) : Zs d q = some (tgI d q, ()) := by
 have h20 : Ea = 1048576 := rfl
 have hl := (De (step := fun x => Lq x.1.1 x.1.2.1 x.1.2.2.1) q (fun _ s x => tgG s x) (fun s i => ((s, q, i, ()), ()))
  (fun s => .inl ((s, ()), ())) (fun _ _ => True) (by
   intro k hk s _
   refine ⟨?_, trivial⟩
   simp only [Lq]
   rw [Ba (show (k : Int) < ((ja q : Nat) : Int) by omega), Cb hk]
   simp only [cond_true, jb]
   rw [GY (hx _ (qt hk))]; rfl) (by
   intro s _
   simp only [Lq]
   rw [Aa (by omega)]; rfl) (by omega) d trivial).1
 unfold Zs Wt tgI
 erw [hl]; rfl
theorem NZ : ∀ {q : List Ca} {k : Nat} {s : Int × Int}, Hn (Tc (fun _ s x => Pv s x) k s q) = true → ∀ x ∈ q, Vh x = true
 | [], _, _, _, x, hx => by simp at hx
 | y :: q, k, s, h, x, hx => by
  simp only [Tc, Pv] at h
  cases hc : Qv s y with
  | false => rw [hc] at h; simp [Hn] at h
  | true =>
   rw [hc] at h
   rcases jp.1 hx with rfl | hx
   ·simp only [Qv, jd] at hc; exact hc.1
   ·exact NZ h x hx
theorem KaN : ∀ (q : List Ca) (k : Nat) (t : Int) (d : Nat), d < 2 ^ 63 → Hn (Tc (fun _ s x => Pv s x) k (t, (d : Int)) q) = true →
 Qd (fun _ s x => qdG s x) k (d : Int) q = Qd (fun _ s x => tgG s x) k (d : Int) q
 | [], _, _, _, _, _ => rfl
 | x :: q, k, t, d, hd, h => by
  simp only [Tc, Pv] at h
  cases hc : Qv (t, (d : Int)) x with
  | false => rw [hc] at h; simp [Hn] at h
  | true =>
   rw [hc] at h
   simp only [cond_true] at h
   simp only [Qv, jd, Bool.not_eq_true'] at hc
   have hk := Uk hc.1
   obtain ⟨n, hn⟩ := jv hk.2.2.1
   have hn31 : n ≤ 31 := by omega
   have e : qdG (d : Int) x = tgG (d : Int) x := by
    unfold qdG tgG
    have hb := hc.2.2
    rw [hn] at hb ⊢
    cases hp : x.2.2.1 with
    | true =>
     rw [hp] at hb
     exact PaX hd (by omega) (by cases hz : (Kd (d : Int) (n : Int) == 1) with
      | false => rfl
      | true => rw [hz] at hb; simp at hb)
    | false =>
     rw [hp] at hb
     exact TaF hd (by omega) (by cases hz : (Kd (d : Int) (n : Int) == 1) with
      | true => rfl
      | false => rw [hz] at hb; simp at hb)
   obtain ⟨b, hb1, hb2⟩ := Ran (a := d) (k := n) hd (by omega)
   have hg : tgG (d : Int) x = (b : Int) := by unfold tgG; rw [hn]; exact hb1
   simp only [Qd]
   rw [e, hg]
   rw [hn, hb1] at h
   exact KaN q (k + 1) x.1 b hb2 h
theorem B8 {q : List Ca} {d keys : Int} (h : Ud q d keys = true) : Hn (Tc (fun _ s x => Pv s x) 0 (0, d) q) = true := by
 simp only [Ud, CQ, May, jd] at h
 have h2 := h.2
 cases hf : Tc (fun _ s x => Pv s x) 0 (0, d) q with
 | inl s => rfl
 | inr u => rw [hf] at h2; cases hd : decide (q.length ≤ 64) <;> rw [hd] at h2 <;> simp at h2
theorem T4 {q : List Ca} {d keys : Int} (hd : 0 ≤ d ∧ d ≤ 9223372036854775807) (h : Ud q d keys = true) : (∀ x ∈ q, 0 ≤ x.2.1 ∧ x.2.1 ≤ 31) ∧ qdI d q = tgI d q := by
 have hf := B8 h
 refine ⟨fun x hx => ?_, ?_⟩
 ·have := Uk (NZ hf x hx); omega
 ·obtain ⟨n, rfl⟩ := jv hd.1
  exact KaN q 0 0 n (by rw [Hx]; omega) hf
theorem S8 : ∀ (l : List Sa) (k : Nat) (s : Nat), s < 2 ^ 63 → (∀ x ∈ l, Jv x) → ∃ m : Nat, Qd (fun _ s (x : Sa) => Pc .i64 s (Ra .i64 1 x.1)) k (s : Int) l = (m : Int) ∧ m < 2 ^ 63
 | [], _, s, hs, _ => ⟨s, rfl, hs⟩
 | x :: l, k, s, hs, h => by
  have hx := h x (by simp)
  obtain ⟨n, hn⟩ := jv hx.lo
  have := hx.hi
  simp only [Qd]
  rw [hn, Ml (by omega), Ew hs (Gj (by omega))]
  exact S8 l (k + 1) _ (Nat.or_lt_two_pow hs (Gj (by omega))) (fun y hy => h y (by simp [hy]))
theorem OaD : ∀ (l : List Ca) (k : Nat) (s : Nat), s < 2 ^ 63 → (∀ x ∈ l, 0 ≤ x.2.1 ∧ x.2.1 ≤ 9223372036854775807) → ∃ m : Nat, orK k (s : Int) l = (m : Int) ∧ m < 2 ^ 63
 | [], _, s, hs, _ => ⟨s, rfl, hs⟩
 | x :: l, k, s, hs, h => by
  have hx := h x (by simp)
  obtain ⟨n, hn⟩ := jv hx.1
  have hn2 : n < 2 ^ 63 := by rw [Hx]; omega
  have := OaD l (k + 1) (s ||| n) (Nat.or_lt_two_pow hs hn2) (fun y hy => h y (by simp [hy]))
  simp only [orK, Qd] at this ⊢
  rw [hn, Ew hs hn2]
  exact this
theorem Uan {L : List Va} : ∀ {l pre : List Ca}, SI L pre l = true → ∀ x ∈ l, R6 L x = true
 | [], _, _, x, hx => by simp at hx
 | y :: l, pre, h, x, hx => by
  simp only [SI, jd] at h
  rcases jp.1 hx with rfl | hx
  ·exact h.1.1
  ·exact Uan h.2 x hx
structure Mat (x : Ca) : Prop where
 lo : 0 ≤ x.1
 hi : x.1 ≤ 31
 left : 0 ≤ x.2.1
theorem XJ {c : Pa} (h : Ae c = true) : ∀ x ∈ c.2.2.2.2.2.2.1, Mat x := by
 intro x hx
 simp only [Ae, jd] at h
 have h1 := Uan (l := c.2.2.2.2.2.2.1) h.2.2.2.2.1.2.1 x hx
 simp only [R6, jd] at h1
 have h2 := HZ h.1 h1.1
 have h3 := h1.2
 simp only [okA, jd, Bool.not_eq_true', decide_eq_false_iff_not] at h3
 exact ⟨by omega, by omega, by omega⟩
theorem T0 {c : Pa} (hz : Hj c) (h : Ae c = true) : 0 ≤ Im c ∧ Im c ≤ 9223372036854775807 := by
 have ha := XJ h
 simp only [Ae, jd, decide_eq_true_eq] at h
 have h1 := h.2.2.2.2.1.1
 obtain ⟨n, hn⟩ := jv h1.1
 obtain ⟨m, hm, hm2⟩ := OaD c.2.2.2.2.2.2.1 0 n (by rw [Hx]; omega) (fun x hx => ⟨(ha x hx).left, hz.r x hx⟩)
 rw [Hx] at hm2
 unfold Im
 rw [hn, hm]
 omega
def gvG (s : Int) (x : Ca) : Int := cond x.2.2.1 (Pc .i64 s (Ra .i64 1 x.1)) s
def gvI (c : Pa) : Int := Qd (fun _ s x => gvG s x) 0 c.2.2.2.2.2.1 c.2.2.2.2.2.2.1
theorem Eae (c : Pa) (hn : c.2.2.2.2.2.2.1.length ≤ Ea) (ha : ∀ x ∈ c.2.2.2.2.2.2.1, Mat x) : LR c = some (gvI c, ()) := by
 have h20 : Ea = 1048576 := rfl
 have hl := (De (step := fun x => RD x.1.1 x.1.2.1 x.1.2.2.1 x.2.1) c.2.2.2.2.2.2.1 (fun _ s x => gvG s x) (fun s i => (((), s, i, ()), (c, ())))
  (fun s => .inl ((s, ()), ())) (fun _ _ => True) (by
   intro k hk s _
   refine ⟨?_, trivial⟩
   have hx := ha _ (qt hk)
   simp only [RD]
   rw [Ba (show (k : Int) < ((ja c.2.2.2.2.2.2.1 : Nat) : Int) by omega), Cb hk]
   simp only [cond_true, jb]
   rw [GY ⟨hx.lo, hx.hi⟩]
   unfold gvG
   cases c.2.2.2.2.2.2.1[k].2.2.1 <;> rfl) (by
   intro s _
   simp only [RD]
   rw [Aa (by omega)]; rfl) (by omega) c.2.2.2.2.2.1 trivial).1
 unfold LR YF gvI
 erw [hl]; rfl
theorem Aag (b : Fd) (t : Int) (hn : b.2.2.1.2.2.2.2.2.2.1.length ≤ Ea) (ha : ∀ x ∈ b.2.2.1.2.2.2.2.2.2.1, Mat x) :
 Pn (((), t, b.2.2.1.2.2.2.2.2.1, b.2.2.1.2.2.2.2.2.2.1, ((ja b.2.2.1.2.2.2.2.2.2.1 : Nat) : Int), (0 : Int), ()), (b, ())) = some (.inl (((), t, gvI b.2.2.1, ()), (b, ()))) := by
 have h20 : Ea = 1048576 := rfl
 have hl := (De (step := fun x => Eu x.1.1 x.1.2.1 x.1.2.2.1 x.1.2.2.2.1 x.1.2.2.2.2.1 x.1.2.2.2.2.2.1 x.2.1) b.2.2.1.2.2.2.2.2.2.1 (fun _ s x => gvG s x) (fun s i => (((), t, s, b.2.2.1.2.2.2.2.2.2.1, ((ja b.2.2.1.2.2.2.2.2.2.1 : Nat) : Int), i, ()), (b, ())))
  (fun s => .inl (((), t, s, ()), (b, ()))) (fun _ _ => True) (by
   intro k hk s _
   refine ⟨?_, trivial⟩
   have hx := ha _ (qt hk)
   simp only [Eu]
   rw [Ba (show (k : Int) < ((ja b.2.2.1.2.2.2.2.2.2.1 : Nat) : Int) by omega), Cb hk]
   simp only [cond_true, jb]
   rw [Ba hx.lo]
   unfold gvG
   cases b.2.2.1.2.2.2.2.2.2.1[k].2.2.1 <;> rfl) (by
   intro s _
   simp only [Eu]
   rw [Aa (by omega)]; rfl) (by omega) b.2.2.1.2.2.2.2.2.1 trivial).1
 unfold Pn gvI
 exact hl
def K8 (m : Ce) (keys : Int) (L : List Va) : Bool := Le (fun _ (x : Va) => Jd m x.1 && !decide (x.2.1 ≥ keys)) 0 L
noncomputable def Zm (b : Fd) : Bool :=
 Ig b.1 && (Eh b.2.1 && (Ae b.2.2.1 && (Pf b.2.2.2.1 && ((b.2.1.2.2.1 == Yc b.1) && (!decide (b.2.2.2.1.1.1.1 < Yc b.1) && (Jd b.1 b.2.2.2.2.1 &&
  (K8 b.1 b.2.2.2.1.1.1.1 b.2.2.1.1 && (decide (0 ≤ b.2.2.2.2.2.1 ∧ b.2.2.2.2.2.1 ≤ 1000000) && (!decide (b.2.2.1.2.2.2.1 > b.2.2.2.2.2.1) && (!decide (b.2.2.2.1.2.2.2.1 > b.2.2.2.2.2.1) &&
  ((tgI (Im b.2.2.1) b.2.2.1.2.2.1 == b.2.1.2.2.2.1) && (tgI (Uu b.2.2.2.1.1.2.2.2.1) b.2.2.2.1.2.2.1 == gvI b.2.2.1))))))))))))
structure Ro (b : Fd) : Prop where
 d : b.2.1.2.2.2.2.2.1.length ≤ Ea
 c : Hj b.2.2.1
 x : Ha Ic b.2.2.2.1 ≤ Ea
theorem VV (b : Fd) (h : Ro b) : OE b = some (Zm b, ()) := by
 have h20 : Ea = 1048576 := rfl
 have hq := h.x
 rw [LN, Uz, Bm, Pl] at hq
 have hn1 := h.c.a
 have hl := Nf (step := fun x => Ay x.1.1 x.1.2.1 x.1.2.2.1 x.1.2.2.2.1 x.1.2.2.2.2.1 x.2.1) b.2.2.1.1 (fun _ (x : Va) => Jd b.1 x.1 && !decide (x.2.1 ≥ b.2.2.2.1.1.1.1)) (fun i => (((), b.2.2.2.1.1.1.1, b.2.2.1.1, ((ja b.2.2.1.1 : Nat) : Int), i, ()), (b, ())))
  (.inl (((), ()), (b, ()))) (.inr ((false, ()), ())) (by
   intro k hk
   simp only [Ay]
   rw [Ba (show (k : Int) < ((ja b.2.2.1.1 : Nat) : Int) by omega), Cb hk]
   simp only [cond_true, jb, Wv]
   cases Jd b.1 b.2.2.1.1[k].1 <;> cases decide (b.2.2.1.1[k].2.1 ≥ b.2.2.2.1.1.1.1) <;> rfl) (by
   simp only [Ay]
   rw [Aa (by omega)]; rfl) (by omega)
 unfold OE JB Zm
 rw [JL, GP _ h.d, VR _ h.c, XS _ h.x, Fp, Wv]
 simp only [jb, Hr, bne]
 cases Ig b.1 with
 | false => rfl
 | true =>
  cases Eh b.2.1 with
  | false => rfl
  | true =>
   cases hc : Ae b.2.2.1 with
   | false => rfl
   | true =>
    cases hd : Pf b.2.2.2.1 with
    | false => rfl
    | true =>
     cases b.2.1.2.2.1 == Yc b.1 with
     | false => rfl
     | true =>
      cases decide (b.2.2.2.1.1.1.1 < Yc b.1) with
      | true => rfl
      | false =>
       cases Jd b.1 b.2.2.2.2.1 with
       | false => rfl
       | true =>
        simp only [cond_true, cond_false, jk, qa]
        erw [hl]
        unfold K8
        cases Le (fun _ (x : Va) => Jd b.1 x.1 && !decide (x.2.1 ≥ b.2.2.2.1.1.1.1)) 0 b.2.2.1.1 with
        | false => rfl
        | true =>
         have ha := XJ hc
         have hdn := T0 h.c hc
         have hc2 := hc
         simp only [Ae, jd] at hc2
         have hf := T4 hdn hc2.2.2.2.2.2.1
         have hd2 := hd
         simp only [Pf, jd] at hd2
         have hh := Mo (ZA hd2.1)
         obtain ⟨m, hm, hm2⟩ := S8 b.2.2.2.1.1.2.2.2.1 0 0 (by decide) hh
         rw [Hx] at hm2
         have hm' : Uu b.2.2.2.1.1.2.2.2.1 = (m : Int) := hm
         have hf2 := T4 (by rw [hm']; omega) hd2.2.2.2.2.1
         simp only [cond_true, jb, ql, Vx]
         rw [Ly _ h.c.e, hc2.2.2.2.2.1.2.2]
         simp only [cond_true, jb]
         rw [Aag _ _ h.c.e ha]
         simp only [jb, ql]
         rw [ZS _ _ h.c.q (fun x hx => (hf.1 x hx).1), hf.2]
         simp only [jb]
         rw [LL _ (by omega) hh]
         simp only [jb]
         rw [ZS _ _ (by omega) (fun x hx => (hf2.1 x hx).1), hf2.2]
         simp only [jb, jk]
         cases decide (0 ≤ b.2.2.2.2.2.1 ∧ b.2.2.2.2.2.1 ≤ 1000000) <;> cases decide (b.2.2.1.2.2.2.1 > b.2.2.2.2.2.1) <;> cases decide (b.2.2.2.1.2.2.2.1 > b.2.2.2.2.2.1) <;> cases (tgI (Im b.2.2.1) b.2.2.1.2.2.1 == b.2.1.2.2.2.1) <;> rfl
theorem LW (b : Fd) (h : Ro b) : QF b = some (Zm b, ()) := by
 have h20 : Ea = 1048576 := rfl
 have hq := h.x
 rw [LN, Uz, Bm, Pl] at hq
 have hn1 := h.c.a
 have hl := Nf (step := fun x => Cz x.1.1 x.1.2.1 x.1.2.2.1 x.2.1) b.2.2.1.1 (fun _ (x : Va) => Jd b.1 x.1 && !decide (x.2.1 ≥ b.2.2.2.1.1.1.1)) (fun i => (((), b.2.2.2.1.1.1.1, i, ()), (b, ())))
  (.inl (((), ()), (b, ()))) (.inr ((false, ()), ())) (by
   intro k hk
   simp only [Cz]
   rw [Ba (show (k : Int) < ((ja b.2.2.1.1 : Nat) : Int) by omega), Cb hk]
   simp only [cond_true, jb, Sw]
   cases Jd b.1 b.2.2.1.1[k].1 <;> cases decide (b.2.2.1.1[k].2.1 ≥ b.2.2.2.1.1.1.1) <;> rfl) (by
   simp only [Cz]
   rw [Aa (by omega)]; rfl) (by omega)
 unfold QF QB Zm
 rw [OP _ h.d, GS _ h.c, AT _ h.x, Qj, Sw]
 simp only [jb, Hr, bne]
 cases hmat : Ig b.1 with
 | false =>
  have : Yc b.1 = 0 := by unfold Yc; rw [hmat]; rfl
  rw [this]; rfl
 | true =>
  have hk := Dab hmat
  have : (Yc b.1 == 0) = false := by rw [beq_eq_false_iff_ne]; omega
  rw [this]
  cases Eh b.2.1 with
  | false => rfl
  | true =>
   cases b.2.1.2.2.1 == Yc b.1 with
   | false => cases Ae b.2.2.1 <;> cases Pf b.2.2.2.1 <;> rfl
   | true =>
    cases Jd b.1 b.2.2.2.2.1 with
    | false => cases Ae b.2.2.1 <;> cases Pf b.2.2.2.1 <;> cases decide (b.2.2.2.1.1.1.1 < Yc b.1) <;> rfl
    | true =>
     cases hc : Ae b.2.2.1 with
     | false => rfl
     | true =>
      cases hd : Pf b.2.2.2.1 with
      | false => rfl
      | true =>
       cases decide (b.2.2.2.1.1.1.1 < Yc b.1) with
       | true => rfl
       | false =>
        simp only [cond_true, cond_false, jk, qa]
        erw [hl]
        unfold K8
        cases Le (fun _ (x : Va) => Jd b.1 x.1 && !decide (x.2.1 ≥ b.2.2.2.1.1.1.1)) 0 b.2.2.1.1 with
        | false => rfl
        | true =>
         have ha := XJ hc
         have hdn := T0 h.c hc
         have hc2 := hc
         simp only [Ae, jd] at hc2
         have hf := T4 hdn hc2.2.2.2.2.2.1
         have hd2 := hd
         simp only [Pf, jd] at hd2
         have hh := Mo (ZA hd2.1)
         obtain ⟨m, hm, hm2⟩ := S8 b.2.2.2.1.1.2.2.2.1 0 0 (by decide) hh
         rw [Hx] at hm2
         have hm' : Uu b.2.2.2.1.1.2.2.2.1 = (m : Int) := hm
         have hf2 := T4 (by rw [hm']; omega) hd2.2.2.2.2.1
         simp only [cond_true, jb, ql, Oc, Hr]
         rw [BP _ h.c.e]
         simp only [cond_true, jb]
         rw [HS _ _ h.c.q hf.1]
         simp only [jb]
         rw [AP _ (by omega) hh]
         simp only [jb]
         rw [HS _ _ (by omega) hf2.1, Eae _ h.c.e ha]
         simp only [jb, jk]
         cases decide (0 ≤ b.2.2.2.2.2.1 ∧ b.2.2.2.2.2.1 ≤ 1000000) <;> cases decide (b.2.2.1.2.2.2.1 > b.2.2.2.2.2.1) <;> cases decide (b.2.2.2.1.2.2.2.1 > b.2.2.2.2.2.1) <;> cases (tgI (Im b.2.2.1) b.2.2.1.2.2.1 == b.2.1.2.2.2.1) <;> rfl
theorem IaB (d : Qb) : Ha Nb d = d.2.2.2.2.2.1.length := by
 have := CaE d.2.2.2.2.2.1
 simp only [Ha, Nat.add_zero, js] at this ⊢
 exact this
theorem Zan (c : Pa) : Ha Pb c = c.1.length + (c.2.2.1.length + c.2.2.2.2.2.2.1.length) := by
 have h1 := Pk (e := Xb) rfl c.1
 have h2 := Pk (e := Ab) rfl c.2.2.1
 have h3 := Pk (e := Ab) rfl c.2.2.2.2.2.2.1
 simp only [Ha, Nat.add_zero, js] at h1 h2 h3 ⊢
 rw [h1, h2, h3]
theorem YaN (c : Pa) (hr : Oj Pb c) (hz : Ha Pb c ≤ Ea) : Hj c := by
 rw [Zan] at hz
 refine ⟨by omega, by omega, by omega, fun x hx => ?_⟩
 obtain ⟨i, hi, rfl⟩ := qv hx
 have h1 := hr.2.2.2.2.2.2.1.2 i hi
 exact h1.2.1.2
theorem Xai (b : Fd) : Ha Md b = Ha Nb b.2.1 + (Ha Pb b.2.2.1 + Ha Ic b.2.2.2.1) := by
 simp only [Ha, Nat.add_zero, js]
theorem VaF (b : Fd) (hr : Oj Md b) (hz : Ha Md b ≤ Ea) : Ro b := by
 rw [Xai, IaB] at hz
 exact ⟨by omega, YaN _ hr.2.2.1 (by omega), by omega⟩
theorem Gak {m : Ac} (hz : Ha Dc m ≤ Ea) : ja m.2.1 ≤ Ea ∧ ∀ k (hk : k < m.2.1.length), m.2.1[k].length ≤ Ea := by
 have h0 : Ha Dc m = 0 + (Ha (.sl (.sl Ub)) m.2.1 + 0) := rfl
 have h1 : Ha (.sl (.sl Ub)) m.2.1 = ja m.2.1 + (List.map (Ha (.sl Ub)) m.2.1).sum := rfl
 refine ⟨by omega, fun k hk => ?_⟩
 have h2 := Tz (f := Ha (.sl Ub)) hk
 rw [Hac] at h2
 omega
theorem Q2 (m : Ac) (hz : Ha Dc m ≤ Ea) : JC m = some (m, ()) := by
 have h20 : Ea = 1048576 := rfl
 obtain ⟨h1, h2⟩ := Gak hz
 have hl := FW (step := fun x : (Unit × Unit × List (List Db) × Int × Int × Unit) × Ac × Ac × Unit => Tp x.1.1 x.1.2.1 x.1.2.2.1 x.1.2.2.2.1 x.1.2.2.2.2.1 x.2.1 x.2.2.1) m.2.1 (fun x => x)
  (fun o k => (((), (), m.2.1, (m.2.1.length : Int), k, ()), ((0, [], ()), (m.1, o, ()), ()))) (fun o => .inl (((), (), ()), ((0, [], ()), (m.1, o, ()), ()))) (by omega) (fun k hk o ho => by
   have := h2 k hk
   simp only [Tp]
   rw [Ba (by omega), Cb hk]
   simp only [cond_true, jb]
   rw [Ej (by simp; omega), Ej (by simp only [jw, j8]; omega)]
   rfl) (fun o => by
   simp only [Tp]
   rw [Aa (by omega)]
   rfl)
 unfold JC Jt
 erw [hl]
 rw [List.map_id']
 rfl
theorem Fae (m : Ac) (hz : Ha Dc m ≤ Ea) : NR m = some (m, ()) := by
 have h20 : Ea = 1048576 := rfl
 obtain ⟨h1, h2⟩ := Gak hz
 have hl := FW (step := fun x : (Unit × Unit × Unit × Int × Unit) × Ac × Ac × Ac × Unit => VD x.1.1 x.1.2.1 x.1.2.2.1 x.1.2.2.2.1 x.2.1 x.2.2.1 x.2.2.2.1) m.2.1 (fun x => x)
  (fun o k => (((), (), (), k, ()), (m, (0, [], ()), (m.1, o, ()), ()))) (fun o => .inl (((), (), ()), ((0, [], ()), (m.1, o, ()), ()))) (by omega) (fun k hk o ho => by
   have := h2 k hk
   simp only [VD]
   rw [Ba (by omega), Cb hk]
   simp only [cond_true, jb]
   rw [Ej (by simp; omega), Ej (by simp only [jw, j8]; omega)]
   rfl) (fun o => by
   simp only [VD]
   rw [Aa (by omega)]
   rfl)
 unfold NR BG
 erw [hl]
 rw [List.map_id']
 rfl
def Lg (r : Sb) : Bool := decide (r.1.length < 6) && (decide (-1 ≤ r.2.1 ∧ r.2.1 ≤ 255) && (decide (0 ≤ r.2.2.1 ∧ r.2.2.1 ≤ 16777215) && decide (0 ≤ r.2.2.2.1 ∧ r.2.2.2.1 ≤ 20)))
theorem Qr (r : Sb) : Kk r = some (Lg r, ()) := by
 unfold Kk Lg
 simp only [Kh, Lh]
 apply Zc
 simp only [Pd, decide_eq_true_eq, jq, and_false, or_false, jd]
 omega
theorem Ts (r : Sb) : Nk r = some (Lg r, ()) := by
 unfold Nk Lg
 simp only [Oc, jb, Kh, Lh]
 apply Zc
 simp only [Pd, decide_eq_true_eq, jq, and_false, or_false, jd]
 omega
def Jj (m : Ce) : Int := cond (Int.tmod m.1 2 != 0) 0 (Int.tdiv (Yc m) 2)
theorem Fak (m : Ce) : 0 ≤ Yc m ∧ Yc m ≤ 24 := by
 cases h : Ig m with
 | true => have := Dab h; omega
 | false => unfold Yc; rw [h]; exact ⟨Int.le_refl _, by show (0 : Int) ≤ 24; decide⟩
theorem W4 (m : Ce) : 0 ≤ Jj m ∧ Jj m ≤ 12 := by
 have h := Fak m
 unfold Jj
 cases Int.tmod m.1 2 != 0 with
 | true => exact ⟨Int.le_refl _, by show (0 : Int) ≤ 12; decide⟩
 | false =>
  simp only [cond_false]
  rw [Int.tdiv_eq_ediv_of_nonneg h.1]
  omega
theorem AV (h : Zb) : OA h = some (Jj h.1.1, ()) := by
 have hb := Fak h.1.1
 unfold OA Jj
 rw [Qj]
 have e : j5 .i64 (Int.tdiv (Yc h.1.1) 2) = Int.tdiv (Yc h.1.1) 2 := by
  rw [Int.tdiv_eq_ediv_of_nonneg hb.1, Je (by omega) (by omega)]
 simp only [jb, e]
 cases Int.tmod h.1.1.1 2 != 0 <;> rfl
theorem HU (h : Zb) : AA h = some (Jj h.1.1, ()) := by
 have hb := Fak h.1.1
 unfold AA Jj
 rw [Fp]
 have e : j5 .i64 (Int.tdiv (Yc h.1.1) 2) = Int.tdiv (Yc h.1.1) 2 := by
  rw [Int.tdiv_eq_ediv_of_nonneg hb.1, Je (by omega) (by omega)]
 simp only [jb, e]
 cases Int.tmod h.1.1.1 2 != 0 <;> rfl
noncomputable def Di (h : Zb) : Bool := Zm h.1 && (decide (Jj h.1.1 > 0) && (Lg h.2.1 && decide (0 ≤ h.2.2.1 ∧ h.2.2.1 ≤ 255)))
theorem JU (h : Zb) (hb : Ro h.1) : CA h = some (Di h, ()) := by
 have hh := W4 h.1.1
 unfold CA Di
 rw [VV _ hb, Qr, HU]
 simp only [jb, Kh, Lh]
 apply Zc
 simp only [Pd, decide_eq_true_eq, jq, and_false, or_false, jd, YT]
 constructor
 ·rintro ⟨h1, h2, h3, h4, h5⟩; exact ⟨h1, by omega, h2, by omega, by omega⟩
 ·rintro ⟨h1, h2, h3, h4, h5⟩; exact ⟨h1, h3, by omega, by omega, by omega⟩
theorem CV (h : Zb) (hb : Ro h.1) : QA h = some (Di h, ()) := by
 unfold QA Di
 rw [LW _ hb, Ts, AV]
 simp only [jb, Oc]
 cases Zm h.1 <;> cases decide (Jj h.1.1 > 0) <;> cases Lg h.2.1 <;> rfl
theorem Baf (h : Zb) : Ha Bd h = Ha Md h.1 + Ha Wc h.2.1 := by
 simp only [Ha, Nat.add_zero, js]
theorem Jaf {L : List (List Ad)} (hz : Ha (.sl (.sl Mc)) L ≤ Ea) : ja L ≤ Ea ∧ ∀ k (hk : k < L.length), L[k].length ≤ Ea := by
 have h1 : Ha (.sl (.sl Mc)) L = ja L + (List.map (Ha (.sl Mc)) L).sum := rfl
 refine ⟨by omega, fun k hk => ?_⟩
 have h2 := Tz (f := Ha (.sl Mc)) hk
 rw [Mae] at h2
 omega
theorem R2 (L : List (List Ad)) (hz : Ha (.sl (.sl Mc)) L ≤ Ea) : KC L = some (L, ()) := by
 have h20 : Ea = 1048576 := rfl
 obtain ⟨h1, h2⟩ := Jaf hz
 have hl := FW (step := fun x => Up x.1.1 x.1.2.1 x.1.2.2.1 x.1.2.2.2.1) L (fun x => x)
  (fun o k => ((o, L, ((ja L : Nat) : Int), k, ()), ())) (fun o => .inl ((o, ()), ())) (by omega) (fun k hk o ho => by
   have := h2 k hk
   simp only [Up]
   rw [Ba (by omega), Cb hk]
   simp only [cond_true, jb]
   rw [Ej (by simp; omega), Ej (by simp only [jw, j8]; omega)]
   rfl) (fun o => by
   simp only [Up]
   rw [Aa (by omega)]
   rfl)
 unfold KC Kt
 erw [hl]
 rw [List.map_id']
 rfl
theorem SE (e : Jb) (hz : Ha Gc e ≤ Ea) : Lm e = some (e, ()) := by
 have h20 : Ea = 1048576 := rfl
 rw [Bm, Pl] at hz
 unfold Lm
 rw [Q2 _ (by omega), R2 _ (by omega), Ej (by simp; omega)]
 rfl
theorem HP (d : Ib) (hz : Ha Ic d ≤ Ea) : Kl d = some (d, ()) := by
 have h20 : Ea = 1048576 := rfl
 rw [LN, Uz] at hz
 unfold Kl
 rw [SE _ (by omega), Ej (by simp; omega)]
 rfl
theorem PN (c : Pa) (h : Hj c) : Sk c = some (c, ()) := by
 have h20 : Ea = 1048576 := rfl
 have h1 := h.a
 have h2 := h.q
 have h3 := h.e
 unfold Sk
 rw [Ej (by simp; omega), Ej (by simp; omega), Ej (by simp; omega)]
 rfl
theorem NW (c : Pa) (h : Hj c) : Xw c = some (c, ()) := by
 have h20 : Ea = 1048576 := rfl
 have h1 := h.a
 have h2 := h.q
 have h3 := h.e
 unfold Xw
 rw [Ej (by simp; omega), Ej (by simp; omega), Ej (by simp; omega)]
 rfl
theorem TH (e : Jb) (hz : Ha Gc e ≤ Ea) : Qo e = some (e, ()) := by
 have h20 : Ea = 1048576 := rfl
 rw [Bm, Pl] at hz
 obtain ⟨h1, h2⟩ := Jaf (L := e.2.1) (by omega)
 have hl := FW (step := fun x => XD x.1.1 x.1.2.1 x.1.2.2.1 x.1.2.2.2.1 x.2.1 x.2.2.1 x.2.2.2.1) e.2.1 (fun x => x)
  (fun o k => (((), (), (), k, ()), (e, (((0 : Int), ([] : List (List Db)), ()), ([] : List (List Ad)), (0 : Int), ([] : List Sa), (0 : Int), false, ()), (e.1, o, e.2.2), ())))
  (fun o => .inl (((), (), (), ()), (e, (((0 : Int), ([] : List (List Db)), ()), ([] : List (List Ad)), (0 : Int), ([] : List Sa), (0 : Int), false, ()), (e.1, o, e.2.2), ()))) (by omega) (fun k hk o ho => by
   have := h2 k hk
   simp only [XD]
   rw [Ba (by omega), Cb hk]
   simp only [cond_true, jb]
   rw [Ej (by simp; omega), Ej (by simp only [jw, j8]; omega)]
   rfl) (fun o => by
   simp only [XD]
   rw [Aa (by omega)]
   rfl)
 unfold Qo DG
 rw [Fae _ (by omega)]
 simp only [jb]
 erw [hl]
 rw [List.map_id']
 simp only [jb, ql]
 rw [Ej (by simp; omega)]
 rfl
theorem L5 (b : Fd) (h : Ro b) : NG b = some (b, ()) := by
 unfold NG
 rw [KL _ h.d, PN _ h.c, HP _ h.x]
 rfl
theorem Zab (b : Fd) (h : Ro b) : DP b = some (b, ()) := by
 have h20 : Ea = 1048576 := rfl
 have h1 := h.d
 have h2 := h.x
 rw [LN, Uz] at h2
 unfold DP
 rw [Ej (by simp; omega), NW _ h.c, TH _ (by omega)]
 simp only [cond_true, jb]
 rw [Ej (by simp; omega)]
 rfl
def KY : Fd := (((0 : Int), (0 : Int), false, ()), ((0 : Int), (0 : Int), (0 : Int), (0 : Int), (0 : Int), ([] : List Int), ()), (([] : List Va), (0 : Int), ([] : List Ca), (0 : Int), (0 : Int), (0 : Int), ([] : List Ca), ()), ((((0 : Int), ([] : List (List Db)), ()), ([] : List (List Ad)), (0 : Int), ([] : List Sa), (0 : Int), false, ()), ((0 : Int), (0 : Int), (0 : Int), ()), ([] : List Ca), (0 : Int), (0 : Int), (0 : Int), (0 : Int), ()), (0 : Int), (0 : Int), ())
theorem Bak : ∀ (a b : List Int), a.length = b.length → Le (fun k x => b.getD k 0 == x) 0 a = (b == a)
 | a, b, h => by
  rw [qz, GE, beq_iff_eq]
  constructor
  ·intro hj
   apply List.ext_getElem h.symm
   intro i h1 h2
   have := hj i h2
   rw [js, beq_iff_eq, qj, je h1] at this
   exact this
  ·rintro rfl i hi
   rw [js, beq_iff_eq, qj, je hi]; rfl
theorem J8 (a b : List Int) (hn : a.length ≤ Qa) : CK a b = some (a == b, ()) := by
 have hlim := Rd
 unfold CK
 by_cases h : a.length = b.length
 ·have hl := Nf (step := fun x => Mu x.1.1 x.1.2.1 x.1.2.2.1 x.1.2.2.2.1) a (fun k x => b.getD k 0 == x) (fun i => ((a, b, ((ja a : Nat) : Int), i, ()), ()))
   (.inl ((), ())) (.inr ((false, ()), ())) (by
    intro k hk
    simp only [Mu]
    rw [Ba (show (k : Int) < ((ja a : Nat) : Int) by omega), Cb hk, Cb (show k < b.length by omega), qj, je (show k < b.length by omega)]
    simp only [cond_true, jb, Option.getD_some, bne]
    rw [show (a[k] == b[k]) = (b[k] == a[k]) by rw [qz, beq_iff_eq, beq_iff_eq]; exact eq_comm]
    cases b[k] == a[k] <;> rfl) (by
    simp only [Mu]
    rw [Aa (by omega)]; rfl) (by omega)
  have e : (((ja a : Nat) : Int) != ((ja b : Nat) : Int)) = false := by simp [h]
  rw [e]
  simp only [cond_false]
  unfold Ky
  erw [hl]
  rw [Bak a b h, show (b == a) = (a == b) by rw [qz, beq_iff_eq, beq_iff_eq]; exact eq_comm]
  cases a == b <;> rfl
 ·have e : (((ja a : Nat) : Int) != ((ja b : Nat) : Int)) = true := by simp; omega
  have e2 : (a == b) = false := by rw [beq_eq_false_iff_ne]; intro hh; exact h (by rw [hh])
  rw [e, e2]; rfl
theorem XaH (a b : T Xg) (h1 : ja a.2.1 ≤ Qa) (_ : ja b.2.1 ≤ Qa) : (fun x : T (.p Xg (.p Xg .u)) => Rr x.1 x.2.1) (a, b, ()) = some (Dl a b, ()) := by
 show Rr a b = _
 unfold Rr
 rw [J8 _ _ h1]
 simp only [jb, Dl]
 cases (show Int from a.1) == (show Int from b.1) <;> rfl
theorem CaB (c : T Cf → T Cf → Option Bool) (l : List (T Cf)) (hl : ja l ≤ Qa) : ∀ (ys : List (T Cf)) (k : Nat) (out q : List (T Cf)) (a : T Cf), l.drop k = ys → k ≤ ja l → ja out + ja ys ≤ Qa →
 FZ c a ys = some q → XA c (((), out, l, ((ja l : Nat) : Int), (k : Int), ()), (a, ())) = some (.inl ((jf out q, ()), ())) := by
 have hlim := Rd
 intro ys
 induction ys with
 | nil =>
  intro k out q a hd hk _ hq
  have := LZ hd hk
  subst this
  simp only [FZ, jc] at hq
  subst hq
  have hs : AQ c () out l ((ja l : Nat) : Int) ((ja l : Nat) : Int) a = some (.inr (.inl ((out, ()), ()))) := by
   unfold AQ
   rw [Aa (by omega)]; rfl
  unfold XA
  rw [Dd hs]
  simp
 | cons y ys ih =>
  intro k out q a hd hk hlen hq
  obtain ⟨hk', hy, hd'⟩ := TR hd
  simp only [FZ] at hq
  cases hc : c a y with
  | none => rw [hc] at hq; simp at hq
  | some b =>
   rw [hc] at hq
   simp only [jb] at hq
   cases hq2 : FZ c y ys with
   | none => rw [hq2] at hq; simp at hq
   | some q2 =>
    rw [hq2] at hq
    simp only [jb, jc] at hq
    have hlc : ja (y :: ys) = ja ys + 1 := rfl
    have hs : AQ c () out l ((ja l : Nat) : Int) (k : Int) a = some (.inl (((), cond b out (jf out [y]), l, ((ja l : Nat) : Int), ((k + 1 : Nat) : Int), ()), (y, ()))) := by
     unfold AQ WaM
     rw [Ba (show (k : Int) < ((ja l : Nat) : Int) by omega), Cb hk', hy]
     simp only [cond_true, jb, hc]
     rw [Kc (by omega)]
     cases b with
     | true => rfl
     | false =>
      rw [show jx (ja out + ja ([y] : List (Int × ((T .o) × Unit)))) Qa = true from ji (by simp only [jw, j8]; omega)]
      rfl
    unfold XA
    rw [Dd hs]
    simp only [jb, ql]
    have := ih (k + 1) (cond b out (jf out [y])) q2 y hd' hk' (by cases b with
     | true => simp only [cond_true]; omega
     | false => simp only [cond_false, List.append_eq, qf, jw, j8]; omega) hq2
    unfold XA at this
    rw [this, ← hq]
    cases b with
    | true => rfl
    | false => simp
theorem TaN (c : T Cf → T Cf → Option Bool) : ∀ (a : T Cf) (l r : List (T Cf)), ja l ≤ Qa → FZ c a l = some r → (fun x : T (.p Cf (.p (.sl Cf) .u)) => Xax c x.1 x.2.1) (a, l, ()) = some (r, ()) := by
 intro a l r hl hq
 show Xax c a l = _
 unfold Xax
 have := CaB c l hl l 0 [] r a rfl (Nat.zero_le _) (by simpa using hl) hq
 erw [this]
 rfl
theorem Laf : ∀ {a b : List Int}, a.Pairwise (· < ·) → b.Pairwise (· < ·) → (∀ x, x ∈ a ↔ x ∈ b) → a = b
 | [], [], _, _, _ => rfl
 | [], y :: b, _, _, h => by have := (h y).2 (by simp); simp at this
 | x :: a, [], _, _, h => by have := (h x).1 (by simp); simp at this
 | x :: a, y :: b, ha, hb, h => by
  rw [List.pairwise_cons] at ha hb
  have hxy : x = y := by
   rcases jp.1 ((h x).1 (by simp)) with h1 | h1
   ·exact h1
   ·rcases jp.1 ((h y).2 (by simp)) with h2 | h2
    ·exact h2.symm
    ·have := hb.1 x h1; have := ha.1 y h2; omega
  subst hxy
  congr 1
  refine Laf ha.2 hb.2 fun z => ⟨fun hz => ?_, fun hz => ?_⟩
  ·rcases jp.1 ((h z).1 (by simp [hz])) with h1 | h1
   ·have := ha.1 z hz; omega
   ·exact h1
  ·rcases jp.1 ((h z).2 (by simp [hz])) with h1 | h1
   ·have := hb.1 z hz; omega
   ·exact h1
def U0 (o : List Int) (x : Int) : List Int := cond ((x != 0) && !o.any (fun y => y == x)) (jf o [x]) o
def ddK (k : Nat) (o l : List Int) : List Int := Qd (fun _ o x => U0 o x) k o l
theorem HaB : ∀ (l : List Int) (k : Nat) (o : List Int) (y : Int), y ∈ ddK k o l ↔ y ∈ o ∨ (y ∈ l ∧ y ≠ 0)
 | [], _, o, y => by simp [ddK, Qd]
 | x :: l, k, o, y => by
  have := HaB l (k + 1) (U0 o x) y
  simp only [ddK, Qd] at this ⊢
  rw [this]
  unfold U0
  by_cases h0 : x = 0
  ·subst h0
   simp only [bne_self_eq_false, qq, cond_false, jp]
   constructor
   ·rintro (h | ⟨h1, h2⟩)
    ·exact .inl h
    ·exact .inr ⟨.inr h1, h2⟩
   ·rintro (h | ⟨h1 | h1, h2⟩)
    ·exact .inl h
    ·exact absurd h1 h2
    ·exact .inr ⟨h1, h2⟩
  ·by_cases h1 : o.any (fun y => y == x) = true
   ·rw [h1]
    simp only [jg, Bool.and_false, cond_false, jp]
    have hx : x ∈ o := by
     obtain ⟨z, hz, e⟩ := List.any_eq_true.1 h1
     rw [beq_iff_eq] at e; rw [← e]; exact hz
    constructor
    ·rintro (h | ⟨h1, h2⟩)
     ·exact .inl h
     ·exact .inr ⟨.inr h1, h2⟩
    ·rintro (h | ⟨h1 | h1, h2⟩)
     ·exact .inl h
     ·exact .inl (h1 ▸ hx)
     ·exact .inr ⟨h1, h2⟩
   ·have e : ((x != 0) && !o.any (fun y => y == x)) = true := by
     simp only [qb] at h1
     rw [h1]; simp [h0]
    rw [e]
    simp only [cond_true, List.append_eq, jl, jp, List.not_mem_nil, or_false]
    constructor
    ·rintro ((h | h) | ⟨h1, h2⟩)
     ·exact .inl h
     ·exact .inr ⟨.inl h, by rw [h]; exact h0⟩
     ·exact .inr ⟨.inr h1, h2⟩
    ·rintro (h | ⟨h1 | h1, h2⟩)
     ·exact .inl (.inl h)
     ·exact .inl (.inr h1)
     ·exact .inr ⟨h1, h2⟩
theorem Uae : ∀ (l : List Int) (k : Nat) (o : List Int), o.Pairwise (· < ·) → l.Pairwise (· ≤ ·) → (∀ y ∈ o, ∀ x ∈ l, y ≤ x) → (ddK k o l).Pairwise (· < ·)
 | [], _, o, ho, _, _ => by simpa [ddK, Qd] using ho
 | x :: l, k, o, ho, hl, h => by
  rw [List.pairwise_cons] at hl
  have key : (U0 o x).Pairwise (· < ·) ∧ ∀ y ∈ U0 o x, ∀ z ∈ l, y ≤ z := by
   unfold U0
   cases hc : (x != 0) && !o.any (fun y => y == x) with
   | false => exact ⟨ho, fun y hy z hz => h y hy z (by simp [hz])⟩
   | true =>
    simp only [jd, Bool.not_eq_true', List.any_eq_false, beq_iff_eq] at hc
    simp only [cond_true, List.append_eq]
    refine ⟨?_, ?_⟩
    ·rw [List.pairwise_append]
     refine ⟨ho, by simp, fun y hy z hz => ?_⟩
     simp only [jp, List.not_mem_nil, or_false] at hz
     subst hz
     have h1 := h y hy z (by simp)
     have h2 := hc.2 y hy
     omega
    ·intro y hy z hz
     rcases jl.1 hy with hy | hy
     ·exact h y hy z (by simp [hz])
     ·simp only [jp, List.not_mem_nil, or_false] at hy
      subst hy
      exact hl.1 z hz
  have := Uae l (k + 1) (U0 o x) key.1 hl.2 key.2
  simpa [ddK, Qd] using this
def Fl (l : List Sa) : Nat → List Int
 | 0 => []
 | n + 1 => cond (l.any fun h => h.2.1.2.1 == ((n + 1 : Nat) : Int)) (Fl l n ++ [((n + 1 : Nat) : Int)]) (Fl l n)
theorem JN (l : List Sa) : ∀ (n : Nat) (x : Int), x ∈ Fl l n ↔ (1 ≤ x ∧ x ≤ (n : Int)) ∧ ∃ h ∈ l, h.2.1.2.1 = x
 | 0, x => by simp [Fl]; intro h1 h2; omega
 | n + 1, x => by
  simp only [Fl]
  cases hc : (l.any fun h => h.2.1.2.1 == ((n + 1 : Nat) : Int)) with
  | true =>
   simp only [cond_true, jl, JN l n x, jp, List.not_mem_nil, or_false]
   obtain ⟨h, hh, e⟩ := List.any_eq_true.1 hc
   rw [beq_iff_eq] at e
   constructor
   ·rintro (⟨h1, h2⟩ | rfl)
    ·exact ⟨by omega, h2⟩
    ·exact ⟨by omega, h, hh, e⟩
   ·rintro ⟨h1, h2⟩
    by_cases hx : x = ((n + 1 : Nat) : Int)
    ·exact .inr hx
    ·exact .inl ⟨by omega, h2⟩
  | false =>
   simp only [cond_false, JN l n x]
   rw [List.any_eq_false] at hc
   constructor
   ·rintro ⟨h1, h2⟩; exact ⟨by omega, h2⟩
   ·rintro ⟨h1, h, hh, e⟩
    refine ⟨?_, h, hh, e⟩
    have := hc h hh
    rw [beq_iff_eq] at this
    omega
theorem PS (l : List Sa) : ∀ n, (Fl l n).Pairwise (· < ·)
 | 0 => by simp [Fl]
 | n + 1 => by
  simp only [Fl]
  cases (l.any fun h => h.2.1.2.1 == ((n + 1 : Nat) : Int)) with
  | true =>
   simp only [cond_true]
   rw [List.pairwise_append]
   refine ⟨PS l n, by simp, fun y hy z hz => ?_⟩
   simp only [jp, List.not_mem_nil, or_false] at hz
   have := (JN l n y).1 hy
   omega
  | false => exact PS l n
theorem GZ (l : List Sa) : ∀ n, (Fl l n).length ≤ n
 | 0 => by simp [Fl]
 | n + 1 => by
  have := GZ l n
  simp only [Fl]
  cases (l.any fun h => h.2.1.2.1 == ((n + 1 : Nat) : Int)) <;> simp <;> omega
def Bai (l : List Sa) : Int := Qd (fun _ s (h : Sa) => cond (h.2.1.1 == 2 || h.2.1.1 == 8) (Pc .i64 s h.2.1.2.2.1) s) 0 0 l
def Gd (l : List Sa) : Ka := (Bai l, Fl l 56, ())
theorem AR {a : Db} (h : Vd a = true) : 0 ≤ a.2.1 ∧ a.2.1 ≤ 56 := by
 rw [Nc] at h
 unfold Ee at h
 omega
theorem Jad (l : List Int) (x : Int) (hn : l.length ≤ Qa) : GR l x = some (l.any (fun y => y == x), ()) := by
 have hlim := Rd
 have hl := Nf (step := fun y => MC y.1.1 y.1.2.1 y.1.2.2.1 y.1.2.2.2.1) l (fun _ y => !(y == x)) (fun i => ((x, l, ((ja l : Nat) : Int), i, ()), ()))
  (.inl ((), ())) (.inr ((true, ()), ())) (by
   intro k hk
   simp only [MC]
   rw [Ba (show (k : Int) < ((ja l : Nat) : Int) by omega), Cb hk]
   simp only [cond_true, jb]
   cases l[k] == x <;> rfl) (by
   simp only [MC]
   rw [Aa (by omega)]; rfl) (by omega)
 unfold GR UE
 erw [hl]
 have : ∀ (l : List Int) (k : Nat), Le (fun _ y => !(y == x)) k l = !l.any (fun y => y == x) := by
  intro l
  induction l with
  | nil => intro k; rfl
  | cons y l ih => intro k; simp only [Le, List.any_cons, ih, Bool.not_or]
 rw [this]
 cases l.any (fun y => y == x) <;> rfl
theorem XV (l : List Sa) (hn : l.length ≤ Ea) (hx : ∀ h ∈ l, 0 ≤ h.2.1.2.1 ∧ h.2.1.2.1 ≤ 56) : Yv (l.map fun h => h.2.1.2.1) = some (Fl l 56, ()) := by
 have h20 : Ea = 1048576 := rfl
 have hlim := Rd
 generalize hcs : (l.map fun h => h.2.1.2.1) = cs
 have hcl : cs.length = l.length := by rw [← hcs]; simp
 unfold Yv
 rw [KL _ (by omega)]
 simp only [jb, sort_Ints, srt]
 rw [show jx (ja cs) Qa = true from ji (by omega)]
 simp only [cond_true, jb]
 generalize hss : (List.mergeSort cs fun x y => decide (x ≤ y)) = ss
 have hsl : ss.length = cs.length := by rw [← hss]; exact List.length_mergeSort _
 have hsm : ∀ x, x ∈ ss ↔ x ∈ cs := fun x => by rw [← hss]; exact List.mem_mergeSort
 have hsp : ss.Pairwise (· ≤ ·) := by
  rw [← hss]
  have := List.pairwise_mergeSort (le := fun x y : Int => decide (x ≤ y)) (by intro a b c; simp; omega) (by intro a b; simp; omega) cs
  exact this.imp (by intro a b h; simpa using h)
 have hl := (De (step := fun x => Hy x.1.1 x.1.2.1 x.1.2.2.1 x.1.2.2.2.1) ss (fun _ o x => U0 o x) (fun o i => ((o, ss, ((ja ss : Nat) : Int), i, ()), ())) (fun o => .inl ((o, ()), ())) (fun k o => o.length ≤ k) (by
  intro k hk o ho
  have hd : (U0 o ss[k]).length ≤ k + 1 := by
   unfold U0
   cases (ss[k] != 0) && !o.any (fun y => y == ss[k]) <;> simp <;> omega
  refine ⟨?_, hd⟩
  simp only [Hy]
  rw [Ba (show (k : Int) < ((ja ss : Nat) : Int) by omega), show Af (ja ss) (k : Int) = true by rw [Ag]; exact Ba hk, jn, je hk]
  simp only [cond_true, jb]
  rw [Jad _ _ (by omega), show jx (ja o + ja ([ss[k]] : List Int)) Qa = true from ji (by simp only [jw, j8]; omega)]
  simp only [jb, U0]
  cases ss[k] != 0 <;> cases o.any (fun y => y == ss[k]) <;> rfl)
  (by
   intro o _
   simp only [Hy]
   rw [Aa (by omega)]; rfl) (by omega) [] (jo _)).1
 unfold MB
 erw [hl]
 simp only [jb, ql]
 congr 2
 refine Laf (Uae ss 0 [] (by simp) hsp (by simp)) (PS l 56) fun x => ?_
 rw [show Qd (fun _ o x => U0 o x) 0 [] ss = ddK 0 [] ss from rfl, HaB, JN, hsm, ← hcs]
 simp only [List.not_mem_nil, false_or, qw]
 constructor
 ·rintro ⟨⟨h, hh, rfl⟩, h0⟩
  have := hx h hh
  exact ⟨by omega, h, hh, rfl⟩
 ·rintro ⟨h1, h, hh, rfl⟩
  exact ⟨⟨h, hh, rfl⟩, by omega⟩
theorem Gy (l : List Sa) (hn : l.length ≤ Ea) (hv : Rf l = true) : Me l = some (Gd l, ()) := by
 have h20 : Ea = 1048576 := rfl
 have hlim := Rd
 have hh := Mo hv
 have hl := (De (step := fun x => Iu x.1.1 x.1.2.1 x.1.2.2.1 x.1.2.2.2.1 x.1.2.2.2.2.1 x.1.2.2.2.2.2.1 x.2.1 x.2.2.1) l
  (fun _ (s : Int × List Int) (h : Sa) => (cond (h.2.1.1 == 2 || h.2.1.1 == 8) (Pc .i64 s.1 h.2.1.2.2.1) s.1, jf s.2 [h.2.1.2.1])) (fun s i => (((), (), s.2, l, ((ja l : Nat) : Int), i, ()), (((0 : Int), ([] : List Int), ()), (s.1, ([] : List Int), ()), ())))
  (fun s => .inl (((), (), s.2, ()), (((0 : Int), ([] : List Int), ()), (s.1, ([] : List Int), ()), ()))) (fun k s => s.2.length = k) (by
   intro k hk s hs
   refine ⟨?_, by simp [hs]⟩
   simp only [Iu]
   rw [Ba (show (k : Int) < ((ja l : Nat) : Int) by omega), Cb hk]
   simp only [cond_true, jb]
   rw [show jx (ja s.2 + ja ([l[k].2.1.2.1] : List Int)) Qa = true from ji (by simp only [jw, j8]; omega)]
   cases l[k].2.1.1 == 2 <;> cases l[k].2.1.1 == 8 <;> rfl)
  (by
   intro s _
   simp only [Iu]
   rw [Aa (by omega)]; rfl) (by omega) (0, []) rfl).1
 have key : ∀ (l : List Sa) (k : Nat) (s : Int × List Int), Qd (fun _ (s : Int × List Int) (h : Sa) => (cond (h.2.1.1 == 2 || h.2.1.1 == 8) (Pc .i64 s.1 h.2.1.2.2.1) s.1, jf s.2 [h.2.1.2.1])) k s l =
  (Qd (fun _ s (h : Sa) => cond (h.2.1.1 == 2 || h.2.1.1 == 8) (Pc .i64 s h.2.1.2.2.1) s) k s.1 l, s.2 ++ l.map fun h => h.2.1.2.1) := by
  intro l
  induction l with
  | nil => intro k s; simp [Qd]
  | cons x l ih => intro k s; simp only [Qd]; rw [ih]; simp
 unfold Me Ey
 rw [LG _ hn, hv]
 simp only [jb, jg, cond_false]
 erw [hl]
 rw [key]
 simp only [jb, ql, List.nil_append]
 rw [XV l hn (fun h hm => AR (hh h hm).act)]
 rfl
theorem I9 (l : List Sa) (hn : l.length ≤ Ea) (c : Nat) (hc : c ≤ 56) (m : Int) (o : List Int) (ho : o.length ≤ 56) :
 Tm ((l, (), (), (c : Int), (0 : Int), ()), (((0 : Int), ([] : List Int), ()), (m, o, ()), ())) =
  some (.inl ((l, (), (), (c : Int), ()), (((0 : Int), ([] : List Int), ()), (m, cond (l.any fun h => h.2.1.2.1 == (c : Int)) (jf o [(c : Int)]) o, ()), ()))) := by
 have h20 : Ea = 1048576 := rfl
 have hl := Nf (step := fun x => Vs x.1.1 x.1.2.1 x.1.2.2.1 x.1.2.2.2.1 x.1.2.2.2.2.1 x.2.1 x.2.2.1) l (fun _ (h : Sa) => !(h.2.1.2.1 == (c : Int))) (fun i => ((l, (), (), (c : Int), i, ()), (((0 : Int), ([] : List Int), ()), (m, o, ()), ())))
  (.inl ((l, (), (), (c : Int), ()), (((0 : Int), ([] : List Int), ()), (m, o, ()), ()))) (.inl ((l, (), (), (c : Int), ()), (((0 : Int), ([] : List Int), ()), (m, jf o [(c : Int)], ()), ()))) (by
   intro k hk
   simp only [Vs]
   rw [Ba (show (k : Int) < ((ja l : Nat) : Int) by omega), Cb hk]
   simp only [cond_true, jb]
   rw [show jx (ja o + ja ([(c : Int)] : List Int)) Qa = true from ji (by simp only [jw, j8, Rd]; omega)]
   cases l[k].2.1.2.1 == (c : Int) <;> rfl) (by
   simp only [Vs]
   rw [Aa (by omega)]; rfl) (by omega)
 have e : ∀ (l : List Sa) (k : Nat), Le (fun _ (h : Sa) => !(h.2.1.2.1 == (c : Int))) k l = !l.any fun h => h.2.1.2.1 == (c : Int) := by
  intro l
  induction l with
  | nil => intro k; rfl
  | cons y l ih => intro k; simp only [Le, List.any_cons, ih, Bool.not_or]
 unfold Tm
 erw [hl]
 rw [e]
 cases l.any fun h => h.2.1.2.1 == (c : Int) <;> rfl
theorem Iz (l : List Sa) (hn : l.length ≤ Ea) (hv : Rf l = true) : Xe l = some (Gd l, ()) := by
 have h20 : Ea = 1048576 := rfl
 have h1 := (De (step := fun x => Fv x.1.1 x.1.2.1 x.1.2.2.1 x.1.2.2.2.1 x.2.1 x.2.2.1) l
  (fun _ s (h : Sa) => cond (h.2.1.1 == 2 || h.2.1.1 == 8) (Pc .i64 s h.2.1.2.2.1) s) (fun s i => ((l, (), (), i, ()), (((0 : Int), ([] : List Int), ()), (s, ([] : List Int), ()), ())))
  (fun s => .inl ((l, (), (), ()), (((0 : Int), ([] : List Int), ()), (s, ([] : List Int), ()), ()))) (fun _ _ => True) (by
   intro k hk s _
   refine ⟨?_, trivial⟩
   simp only [Fv]
   rw [Ba (show (k : Int) < ((ja l : Nat) : Int) by omega), Cb hk]
   simp only [cond_true, jb]
   cases l[k].2.1.1 == 2 <;> cases l[k].2.1.1 == 8 <;> rfl)
  (by
   intro s _
   simp only [Fv]
   rw [Aa (by omega)]; rfl) (by omega) 0 trivial).1
 have h2 := Gx (step := fun x => Us x.1.1 x.1.2.1 x.1.2.2.1 x.1.2.2.2.1 x.2.1 x.2.2.1) (fun k => ((l, (), (), ((k + 1 : Nat) : Int), ()), (((0 : Int), ([] : List Int), ()), (Bai l, Fl l k, ()), ()))) 56
  (.inl (((), (), ()), (((0 : Int), ([] : List Int), ()), (Bai l, Fl l 56, ()), ()))) (by
   intro k hk
   simp only [Us]
   have hlen := GZ l k
   rw [Ba (show ((k + 1 : Nat) : Int) ≤ 56 by omega), I9 l hn (k + 1) (by omega) (Bai l) (Fl l k) (by omega)]
   simp only [cond_true, jb, ql]
   rw [Kc (by omega)]
   rfl) (by
   simp only [Us]
   rw [Aa (by decide)]; rfl)
 unfold Xe Hz Tw
 rw [MH _ hn, hv]
 simp only [jb, jg, cond_false]
 erw [h1]
 simp only [jb, ql]
 erw [h2]
 rfl
def SG (c : Int) : Bool := decide (1 ≤ c ∧ c ≤ 36) || ((c == 39) || (c == 42))
theorem K2 (c : Int) : DC c = some (SG c, ()) := by
 unfold DC SG
 by_cases h1 : c ≥ 1
 ·by_cases h2 : c ≤ 36
  ·rw [Ba h1, Ba h2, Ba (show 1 ≤ c ∧ c ≤ 36 by omega)]; rfl
  ·rw [Ba h1, Aa h2, Aa (show ¬ (1 ≤ c ∧ c ≤ 36) by omega)]
   cases c == 39 <;> rfl
 ·rw [Aa h1, Aa (show ¬ (1 ≤ c ∧ c ≤ 36) by omega)]
  cases c == 39 <;> rfl
theorem O3 (c : Int) : JD c = some (SG c, ()) := by
 unfold JD SG
 rw [Oc]
 cases decide (1 ≤ c ∧ c ≤ 36) <;> cases c == 39 <;> rfl
def LI (f o : Int) (c : Bool) (a : Db) : Int × Int × Bool × Db :=
 cond (a.1 == 2) (cond (a.2.1 == 0) (f, o, c, a) (f, 0, c && SG a.2.1, a.1, a.2.1, cond ((c && SG a.2.1) && (decide (a.2.1 ≤ 26) && (Mb .i64 (Pc .i64 a.2.2.1 o) 2 == 0))) 2 (Pc .i64 a.2.2.1 o), a.2.2.2))
  (cond (a.1 == 4) (Za .i64 f (Ra .i64 1 a.2.2.2.1), o, c, a) (cond (a.1 == 5) (Mb .i64 (Ra .i64 1 a.2.2.2.1) 1, o, c, a)
   (cond (a.1 == 8) (f, cond (Wa .i64 o a.2.2.1 == a.2.2.1) (Mb .i64 o a.2.2.1) (Pc .i64 o a.2.2.1), c, a) (cond (a.1 == 10) (f, o, !c, a) (f, o, c, a)))))
theorem TP {a : Db} (h : Vd a = true) : 0 ≤ a.2.2.2.1 := by
 rw [Nc] at h
 unfold Ee at h
 omega
theorem SX (m : Ac) (M : List (List Ad)) (f o : Int) (h : List Sa) (c : Bool) (a : Db) (ha : Vd a = true) :
 Mt (m, M, f, h, o, c, ()) a = some ((m, M, (LI f o c a).1, h, (LI f o c a).2.1, (LI f o c a).2.2.1, ()), (LI f o c a).2.2.2, ()) := by
 have hn := TP ha
 unfold Mt LI
 rw [Ba hn]
 cases a.1 == 2 with
 | true =>
  cases a.2.1 == 0 with
  | true => rfl
  | false =>
   simp only [cond_true, cond_false, K2, jb]
   cases c with
   | false => rfl
   | true =>
    cases SG a.2.1 with
    | false => rfl
    | true => cases decide (a.2.1 ≤ 26) <;> cases Mb .i64 (Pc .i64 a.2.2.1 o) 2 == 0 <;> rfl
 | false =>
  cases a.1 == 4 with
  | true => rfl
  | false =>
   cases a.1 == 5 with
   | true => rfl
   | false =>
    cases a.1 == 8 with
    | true => cases Wa .i64 o a.2.2.1 == a.2.2.1 <;> rfl
    | false => cases a.1 == 10 <;> rfl
theorem HY (m : Ac) (M : List (List Ad)) (f o : Int) (h : List Sa) (c : Bool) (a : Db) (ha : Vd a = true) :
 Fn (m, M, f, h, o, c, ()) a = some ((m, M, (LI f o c a).1, h, (LI f o c a).2.1, (LI f o c a).2.2.1, ()), (LI f o c a).2.2.2, ()) := by
 have hn := TP ha
 have hcode := AR ha
 unfold Fn LI H0
 rw [Ba hn]
 cases a.1 == 2 with
 | true =>
  by_cases h0 : a.2.1 = 0
  ·rw [Aa (show ¬ a.2.1 > 0 by omega), show (a.2.1 == 0) = true by simp [h0]]; rfl
  ·rw [Ba (show a.2.1 > 0 by omega), show (a.2.1 == 0) = false by simp [h0]]
   simp only [cond_true, cond_false, O3, jb]
   cases SG a.2.1 with
   | false => cases c <;> rfl
   | true =>
    cases c with
    | false => rfl
    | true => cases decide (a.2.1 ≤ 26) <;> cases Mb .i64 (Pc .i64 a.2.2.1 o) 2 == 0 <;> rfl
 | false =>
  cases a.1 == 4 with
  | true => rfl
  | false =>
   cases a.1 == 5 with
   | true => rfl
   | false =>
    cases a.1 == 8 with
    | true => cases Wa .i64 o a.2.2.1 == a.2.2.1 <;> rfl
    | false => cases a.1 == 10 <;> rfl
theorem DaO : ∀ f : Fin 16, ∀ n : Fin 4, ∀ l : Fin 5, 1 ≤ n.val → n.val < l.val → f.val < 2 ^ l.val → f.val % 2 = 0 →
 0 ≤ Za .i64 (f.val : Int) (Ra .i64 1 (n.val : Int)) ∧ Za .i64 (f.val : Int) (Ra .i64 1 (n.val : Int)) < ((2 ^ l.val : Nat) : Int) ∧ (Za .i64 (f.val : Int) (Ra .i64 1 (n.val : Int))).tmod 2 = 0 := by decide +kernel
theorem NaT : ∀ n : Fin 4, ∀ l : Fin 5, n.val < l.val →
 0 ≤ Mb .i64 (Ra .i64 1 (n.val : Int)) 1 ∧ Mb .i64 (Ra .i64 1 (n.val : Int)) 1 < ((2 ^ l.val : Nat) : Int) ∧ (Mb .i64 (Ra .i64 1 (n.val : Int)) 1).tmod 2 = 0 := by decide +kernel
theorem Vas : ∀ o m : Fin 16, (0 ≤ Mb .i64 (o.val : Int) (m.val : Int) ∧ Mb .i64 (o.val : Int) (m.val : Int) ≤ 15) ∧ (0 ≤ Pc .i64 (o.val : Int) (m.val : Int) ∧ Pc .i64 (o.val : Int) (m.val : Int) ≤ 15) := by decide +kernel
structure Kai (nl : Nat) (f o : Int) : Prop where
 f0 : 0 ≤ f
 f1 : f < ((2 ^ nl : Nat) : Int)
 f2 : f.tmod 2 = 0
 o0 : 0 ≤ o
 o1 : o ≤ 15
structure F7 (nl : Nat) (a : Db) : Prop where
 act : Vd a = true
 n1 : a.1 ≠ 1
 n6 : a.1 ≠ 6
 n7 : a.1 ≠ 7
 n : a.1 ≠ 9 → a.2.2.2.1 < (nl : Int)
theorem OaX {a b : Int} (ha : 0 ≤ a ∧ a ≤ 15) (hb : 0 ≤ b ∧ b ≤ 15) : 0 ≤ Pc .i64 a b ∧ Pc .i64 a b ≤ 15 := by
 obtain ⟨n, rfl⟩ := jv ha.1
 obtain ⟨m, rfl⟩ := jv hb.1
 exact (Vas ⟨n, by omega⟩ ⟨m, by omega⟩).2
theorem TaV {a b : Int} (ha : 0 ≤ a ∧ a ≤ 15) (hb : 0 ≤ b ∧ b ≤ 15) : 0 ≤ Mb .i64 a b ∧ Mb .i64 a b ≤ 15 := by
 obtain ⟨n, rfl⟩ := jv ha.1
 obtain ⟨m, rfl⟩ := jv hb.1
 exact (Vas ⟨n, by omega⟩ ⟨m, by omega⟩).1
theorem RaX {nl : Nat} (h : nl ≤ 4) : 2 ^ nl ≤ 16 := qn (n := 2) (by omega) h
theorem UaX {nl : Nat} (hnl : nl ≤ 4) {f o : Int} {c : Bool} {a : Db} (hs : Kai nl f o) (ha : F7 nl a) :
 Kai nl (LI f o c a).1 (LI f o c a).2.1 ∧ F7 nl (LI f o c a).2.2.2 := by
 have hP := ha.act
 rw [Nc] at hP
 unfold Ee at hP
 have h16 := RaX hnl
 obtain ⟨k, code, mods, n, u⟩ := a
 have hn1 := ha.n1; have hn6 := ha.n6; have hn7 := ha.n7; have hnn := ha.n
 simp only at hP hn1 hn6 hn7 hnn
 have hf1 := hs.f1
 unfold LI
 simp only
 by_cases h2 : k = 2
 ·subst h2
  by_cases h0 : code = 0
  ·subst h0; exact ⟨hs, ha⟩
  ·rw [show ((2 : Int) == 2) = true from rfl, show (code == 0) = false by simp [h0]]
   simp only [cond_true, cond_false]
   refine ⟨⟨hs.f0, hs.f1, hs.f2, by decide, by decide⟩, ?_⟩
   have hm := OaX (a := mods) (b := o) (by omega) ⟨hs.o0, hs.o1⟩
   refine ⟨?_, hn1, hn6, hn7, hnn⟩
   have hn0 : n = 0 := by omega
   have hcd : 1 ≤ code ∧ code ≤ 56 := by omega
   rw [Nc]
   cases ((c && SG code) && (decide (code ≤ 26) && (Mb .i64 (Pc .i64 mods o) 2 == 0))) with
   | true => exact .inr (.inl ⟨rfl, hn0, .inr hcd, .inr ⟨by show (1 : Int) ≤ 2; decide, by show (2 : Int) ≤ 15; decide⟩, .inl (by show code ≠ 0; omega)⟩)
   | false =>
    refine .inr (.inl ⟨rfl, hn0, .inr hcd, ?_, .inl (by show code ≠ 0; omega)⟩)
    show Pc .i64 mods o = 0 ∨ 1 ≤ Pc .i64 mods o ∧ Pc .i64 mods o ≤ 15
    omega
 ·rw [show (k == 2) = false by simp [h2]]
  simp only [cond_false]
  by_cases h4 : k = 4
  ·subst h4
   have hr : 1 ≤ n ∧ n ≤ 3 := by omega
   have hlt := hnn (by omega)
   obtain ⟨fn, hfn⟩ := jv hs.f0
   obtain ⟨nn, hnn'⟩ := jv (show 0 ≤ n by omega)
   have hf2 := hs.f2
   rw [hfn] at hf1 hf2
   have hfl : fn < 2 ^ nl := Int.ofNat_lt.1 hf1
   have := DaO ⟨fn, by omega⟩ ⟨nn, by omega⟩ ⟨nl, by omega⟩ (by show 1 ≤ nn; omega) (by show nn < nl; omega) hfl (by
    rw [Int.tmod_eq_emod_of_nonneg (by omega)] at hf2; show fn % 2 = 0; omega)
   simp only [show ((4 : Int) == 4) = true from rfl, cond_true]
   rw [hfn, hnn']
   exact ⟨⟨this.1, this.2.1, this.2.2, hs.o0, hs.o1⟩, by rw [← hnn']; exact ha⟩
  ·rw [show (k == 4) = false by simp [h4]]
   simp only [cond_false]
   by_cases h5 : k = 5
   ·subst h5
    have hr : 0 ≤ n ∧ n ≤ 3 := by omega
    have hlt := hnn (by omega)
    obtain ⟨nn, hnn'⟩ := jv (show 0 ≤ n by omega)
    have := NaT ⟨nn, by omega⟩ ⟨nl, by omega⟩ (by show nn < nl; omega)
    simp only [show ((5 : Int) == 5) = true from rfl, cond_true]
    rw [hnn']
    exact ⟨⟨this.1, this.2.1, this.2.2, hs.o0, hs.o1⟩, by rw [← hnn']; exact ha⟩
   ·rw [show (k == 5) = false by simp [h5]]
    simp only [cond_false]
    by_cases h8 : k = 8
    ·subst h8
     have hm : 0 ≤ mods ∧ mods ≤ 15 := by omega
     simp only [show ((8 : Int) == 8) = true from rfl, cond_true]
     cases Wa .i64 o mods == mods with
     | true => have := TaV ⟨hs.o0, hs.o1⟩ hm; exact ⟨⟨hs.f0, hs.f1, hs.f2, this.1, this.2⟩, ha⟩
     | false => have := OaX ⟨hs.o0, hs.o1⟩ hm; exact ⟨⟨hs.f0, hs.f1, hs.f2, this.1, this.2⟩, ha⟩
    ·rw [show (k == 8) = false by simp [h8]]
     simp only [cond_false]
     cases k == 10 <;> exact ⟨hs, ha⟩
theorem EaD {m : Ac} (hm : QP m) (on : Int) {k : Nat} (hk : (k : Int) < m.1) : Gl m.2.1.length (Vj m on k) (Rl m.2.1 (Vj m on k) k) = true ∧ (Rl m.2.1 (Vj m on k) k).1 ≠ 1 := by
 have hl := CW hm on k
 have hrow := hm.row _ hl
 have hk' : k < m.2.1[Vj m on k].length := by omega
 have hact := hm.act _ hl k hk'
 rw [H7 hl hk']
 refine ⟨hact, ?_⟩
 have key : ∀ n, Jg m.2.1 on k n = 0 ∨ (Rl m.2.1 (Jg m.2.1 on k n) k).1 ≠ 1 := by
  intro n
  induction n with
  | zero => exact .inl rfl
  | succ n ih =>
   simp only [Jg]
   cases hc : ((Kd on ((n + 1 : Nat) : Int) == 1) && ((Rl m.2.1 (n + 1) k).1 != 1)) with
   | true =>
    simp only [jd, bne_iff_ne] at hc
    exact .inr hc.2
   | false => exact ih
 rcases key (m.2.1.length - 1) with h0 | h1
 ·have h0' : Vj m on k = 0 := h0
  intro h1
  simp only [Gl, jd, Bool.not_eq_true', Bool.and_eq_false_iff, beq_eq_false_iff_ne] at hact
  rcases hact.1.2 with h2 | h2
  ·exact h2 (by rw [h0']; rfl)
  ·exact h2 h1
 ·have e : Rl m.2.1 (Jg m.2.1 on k (m.2.1.length - 1)) k = m.2.1[Vj m on k][k] := H7 hl hk'
  rw [e] at h1
  exact h1
theorem LaT {nl i : Nat} {a : Db} (h : Gl nl i a = true) (h1 : a.1 ≠ 1) : F7 nl (IS a) := by
 have ha := D3 h
 have hP := ha
 rw [Nc] at hP
 unfold Ee at hP
 unfold IS Gg
 rw [ha]
 by_cases h67 : a.1 = 6 ∨ a.1 = 7
 ·have e : (true && ((a.1 == 6) || (a.1 == 7))) = true := by rcases h67 with h | h <;> rw [h] <;> rfl
  rw [e]
  simp only [cond_true]
  refine ⟨?_, by show (2 : Int) ≠ 1; decide, by show (2 : Int) ≠ 6; decide, by show (2 : Int) ≠ 7; decide, fun _ => ?_⟩
  ·rw [Nc]
   exact .inr (.inl ⟨rfl, rfl, .inr (by show 1 ≤ a.2.1 ∧ a.2.1 ≤ 56; omega), .inl rfl, .inl (by show a.2.1 ≠ 0; omega)⟩)
  ·show (0 : Int) < (nl : Int)
   have := C5 h (by omega)
   omega
 ·have e : (true && ((a.1 == 6) || (a.1 == 7))) = false := by
   rw [jk, Bool.or_eq_false_iff, beq_eq_false_iff_ne, beq_eq_false_iff_ne]; omega
  rw [e]
  exact ⟨ha, h1, fun h => h67 (.inl h), fun h => h67 (.inr h), fun hk => C5 h hk⟩
def FaG (m : Ac) (f o : Int) (c : Bool) (h : List Sa) : Jb := (m, [], f, h, o, c, ())
theorem AaO (m : Ac) (f o : Int) (c : Bool) (h : List Sa) : Ha Gc (FaG m f o c h) = Ha Dc m + h.length := by
 rw [Bm, Pl]
 have : Ha (.sl (.sl Mc)) (FaG m f o c h).2.1 = 0 := rfl
 rw [this, js]; rfl
theorem Jay {nl : Nat} (h4 : nl ≤ 4) {f o : Int} (hs : Kai nl f o) : 0 ≤ f ∧ f ≤ 15 := by
 have := RaX h4
 have h1 := hs.f1
 have h0 := hs.f0
 omega
theorem Fad (e : Jb) (k : Int) (hn : e.2.2.2.1.length ≤ Ea) : DR e k = some (Td (fun h => h.1 == k) 0 e.2.2.2.1, ()) := by
 have h20 : Ea = 1048576 := rfl
 have hl := BB (step := fun x => BC x.1.1 x.1.2.1 x.1.2.2.1 x.1.2.2.2.1) e.2.2.2.1 (fun h => h.1 == k) (fun i => ((k, e.2.2.2.1, ((ja e.2.2.2.1 : Nat) : Int), i, ()), ())) (.inl ((), ())) (fun i => .inr ((i, ()), ()))
  (by
   intro j hj
   simp only [BC]
   rw [Ba (show (j : Int) < ((ja e.2.2.2.1 : Nat) : Int) by omega), Cb hj]
   simp only [cond_true, jb]
   cases e.2.2.2.1[j].1 == k <;> rfl) (by
   simp only [BC]
   rw [Aa (by omega)]; rfl) (by omega)
 unfold DR NE
 erw [hl]
 simp only [jb]
 by_cases hc : Td (fun h : Sa => h.1 == k) 0 e.2.2.2.1 = -1
 ·rw [if_pos hc, hc]; rfl
 ·rw [if_neg hc]; rfl
theorem EY (e : Jb) (k : Int) (hn : e.2.2.2.1.length ≤ Ea) : QJ e k = some (Td (fun h => h.1 == k) 0 e.2.2.2.1, ()) := by
 have h20 : Ea = 1048576 := rfl
 have hl := BB (step := fun x => HD x.1.1 x.1.2.1 x.1.2.2.1 x.2.1) e.2.2.2.1 (fun h => h.1 == k) (fun i => ((k, (), i, ()), (e, ()))) (.inl ((), ())) (fun i => .inr ((i, ()), ()))
  (by
   intro j hj
   simp only [HD]
   rw [Ba (show (j : Int) < ((ja e.2.2.2.1 : Nat) : Int) by omega), Cb hj]
   simp only [cond_true, jb]
   cases e.2.2.2.1[j].1 == k <;> rfl) (by
   simp only [HD]
   rw [Aa (by omega)]; rfl) (by omega)
 unfold QJ PF
 erw [hl]
 simp only [jb]
 by_cases hc : Td (fun h : Sa => h.1 == k) 0 e.2.2.2.1 = -1
 ·rw [if_pos hc, hc]; rfl
 ·rw [if_neg hc]; rfl
theorem R3 (a b : Ka) (hn : a.2.1.length ≤ Qa) : OD a b = some (Dl a b, ()) := by
 have hlim := Rd
 unfold OD Dl
 simp only [bne]
 cases (show Int from a.1) == (show Int from b.1) with
 | false => rfl
 | true =>
  by_cases h : a.2.1.length = b.2.1.length
  ·have hl := Nf (step := fun x => Iq x.1.1 x.1.2.1 x.1.2.2.1 x.2.1 x.2.2.1) a.2.1 (fun k x => b.2.1.getD k 0 == x) (fun i => (((), (), i, ()), (a, b, ())))
    (.inl ((), ())) (.inr ((false, ()), ())) (by
     intro k hk
     simp only [Iq]
     rw [Ba (show (k : Int) < ((ja a.2.1 : Nat) : Int) by omega), Cb hk, Cb (show k < b.2.1.length by omega), qj, je (show k < b.2.1.length by omega)]
     simp only [cond_true, jb, Option.getD_some, bne]
     rw [show (a.2.1[k] == b.2.1[k]) = (b.2.1[k] == a.2.1[k]) by rw [qz, beq_iff_eq, beq_iff_eq]; exact eq_comm]
     cases b.2.1[k] == a.2.1[k] <;> rfl) (by
     simp only [Iq]
     rw [Aa (by omega)]; rfl) (by omega)
   have e : (((ja a.2.1 : Nat) : Int) == ((ja b.2.1 : Nat) : Int)) = true := by simp [h]
   rw [e]
   simp only [jg, cond_false, jk]
   unfold Rt
   erw [hl]
   rw [Bak a.2.1 b.2.1 h, show (b.2.1 == a.2.1) = (a.2.1 == b.2.1) by rw [qz, beq_iff_eq, beq_iff_eq]; exact eq_comm]
   cases a.2.1 == b.2.1 <;> rfl
  ·have e : (((ja a.2.1 : Nat) : Int) == ((ja b.2.1 : Nat) : Int)) = false := by simp; omega
   have e2 : (a.2.1 == b.2.1) = false := by rw [beq_eq_false_iff_ne]; intro hh; exact h (by rw [hh])
   rw [e, e2]; rfl
def chF (s : Ka × List Ka) (x : Ka) : Ka × List Ka := (x, cond (Dl s.1 x) s.2 (jf s.2 [x]))
theorem Eaj : ∀ (l : List Ka) (k : Nat) (a : Ka) (o : List Ka), (Qd (fun _ s x => chF s x) k (a, o) l).2 = jf o (Tx Dl a l)
 | [], _, _, o => by simp [Qd, Tx]
 | x :: l, k, a, o => by
  have ih := Eaj l (k + 1) x (cond (Dl a x) o (jf o [x]))
  show (Qd (fun _ s x => chF s x) (k + 1) (x, cond (Dl a x) o (jf o [x])) l).2 = _
  rw [ih]
  simp only [Tx]
  cases Dl a x <;> simp
theorem KW (a : Ka) (l : List Ka) (hn : l.length ≤ Ea) (ha : a.2.1.length ≤ Ea) (hx : ∀ x ∈ l, x.2.1.length ≤ Ea) : Fh a l = some (Tx Dl a l, ()) := by
 have h20 : Ea = 1048576 := rfl
 have hlim := Rd
 have hl := (De (step := fun x => Ct x.1.1 x.1.2.1 x.1.2.2.1 x.1.2.2.2.1 x.2.1) l (fun _ s x => chF s x) (fun s i => ((l, (), s.2, i, ()), (s.1, ()))) (fun s => .inl ((s.2, ()), ())) (fun k s => s.2.length ≤ k ∧ s.1.2.1.length ≤ Ea) (by
  intro k hk s ⟨hs1, hs2⟩
  have hxk := hx _ (qt hk)
  refine ⟨?_, ?_, hxk⟩
  ·simp only [Ct]
   rw [Ba (show (k : Int) < ((ja l : Nat) : Int) by omega), Cb hk]
   simp only [cond_true, jb]
   rw [R3 _ _ (by omega), Gae _ hxk]
   simp only [jb, chF]
   rw [show jx (ja s.2 + ja ([l[k]] : List Ka)) Qa = true from ji (by simp only [jw, j8]; omega)]
   cases Dl s.1 l[k] <;> rfl
  ·unfold chF
   cases Dl s.1 l[k] with
   | true => show s.2.length ≤ k + 1; omega
   | false => show (jf s.2 [l[k]]).length ≤ k + 1; simp; omega)
  (by
   intro s _
   simp only [Ct]
   rw [Aa (by omega)]; rfl) (by omega) (a, []) ⟨jo _, ha⟩).1
 unfold Fh Ax
 erw [hl]
 have := Eaj l 0 a []
 simp only [jb, ql]
 rw [this]; simp
theorem UV (a : Ka) (l : List Ka) (hn : l.length ≤ Ea) (ha : a.2.1.length ≤ Ea) (hx : ∀ x ∈ l, x.2.1.length ≤ Ea) : Kf a l = some (Tx Dl a l, ()) := by
 have h20 : Ea = 1048576 := rfl
 have hlim := Rd
 unfold Kf Wax
 have e : (jx (ja l) Qa && (YU a && l.all YU)) = true := by
  rw [jd, jd, List.all_eq_true]
  refine ⟨ji (by omega), ji (by show ja a.2.1 ≤ _; omega), fun x hm => ji ?_⟩
  have := hx x hm
  show ja x.2.1 ≤ _
  omega
 rw [e]; rfl
theorem Q7 : ∀ (l : List Ka) (a : Ka), (Tx Dl a l).length ≤ l.length
 | [], _ => by simp [Tx]
 | x :: l, a => by
  have := Q7 l x
  simp only [Tx]
  cases Dl a x <;> simp <;> omega
theorem XO (l : List Sa) : (Gd l).2.1.length ≤ 56 := GZ l 56
theorem EZ : ∀ (l : List Ka) (a x : Ka), x ∈ Tx Dl a l → x ∈ l
 | [], _, x, h => by simp [Tx] at h
 | y :: l, a, x, h => by
  simp only [Tx] at h
  cases hs : Dl a y with
  | true => rw [hs] at h; exact jr _ (EZ l y x h)
  | false =>
   rw [hs] at h
   rcases jp.1 h with h | h
   ·exact h ▸ q0 ..
   ·exact jr _ (EZ l y x h)
noncomputable def Kbm (m : Ac) (f : Int) (k : Nat) : Db := IS (Rl m.2.1 (Vj m (Pc .i64 1 f) k) k)
noncomputable def stK (m : Ac) (f o : Int) (c : Bool) (k : Nat) : Int × Int × Bool × Db := LI f o c (Kbm m f k)
noncomputable def hK (m : Ac) (f o : Int) (c : Bool) (k : Nat) : List Sa := [((k : Int), (stK m f o c k).2.2.2, ())]
structure VaM (m : Ac) : Prop where
 v : Ei m = true
 z : Ha Dc m ≤ Ea - 10
theorem z20 {m : Ac} (hM : VaM m) (f o : Int) (c : Bool) (h : List Sa) (hh : h.length ≤ 1) : Ha Gc (FaG m f o c h) ≤ Ea := by
 have h20 : Ea = 1048576 := rfl
 have := hM.z
 rw [AaO]; omega
theorem HW (l : List Sa) : (Gd l).2.1.length ≤ Ea := by
 have h20 : Ea = 1048576 := rfl
 have := XO l
 omega
theorem Hab {m : Ac} (hv : Ei m = true) : VaM m := by
 have hm := Uj hv
 refine ⟨hv, ?_⟩
 have h20 : Ea = 1048576 := rfl
 have h1 : Ha Dc m = 0 + (Ha (.sl (.sl Ub)) m.2.1 + 0) := rfl
 have h2 : Ha (.sl (.sl Ub)) m.2.1 ≤ (32 + 1) * ja m.2.1 := J0 (e := .sl Ub) (c := 32) fun x hx => by
  obtain ⟨i, hi, rfl⟩ := qv hx
  rw [Hac]
  have := hm.row i hi
  have := hm.k2
  omega
 have := hm.l2
 omega
abbrev St := (Int × Int × Bool) × List Ka
structure Cbq (m : Ac) (k : Nat) (s : St) : Prop where
 st : Kai m.2.1.length s.1.1 s.1.2.1
 len : s.2.length ≤ 2 * k
 rep : ∀ x ∈ s.2, x.2.1.length ≤ 56
def Nu (p : Int → Bool) : Nat → List Int
 | 0 => []
 | n + 1 => cond (p ((n + 1 : Nat) : Int)) (Nu p n ++ [((n + 1 : Nat) : Int)]) (Nu p n)
theorem T2 (p : Int → Bool) : ∀ n, (Nu p n).length ≤ n
 | 0 => by simp [Nu]
 | n + 1 => by
  have := T2 p n
  simp only [Nu]
  cases p ((n + 1 : Nat) : Int) <;> simp <;> omega
theorem U1 (l : List Sa) : ∀ n, Fl l n = Nu (fun c => l.any fun h => h.2.1.2.1 == c) n
 | 0 => rfl
 | n + 1 => by simp only [Fl, Nu, U1 l n]
theorem H8 (cs : List Int) (hn : cs.length ≤ Ea) (hx : ∀ c ∈ cs, 0 ≤ c ∧ c ≤ 56) : Yv cs = some (Nu (fun c => cs.any (fun y => y == c)) 56, ()) := by
 have := XV (cs.map fun c => ((0, (0, c, 0, 0, ()), ()) : Sa)) (by simpa using hn) (fun h hh => by
  obtain ⟨c, hc, rfl⟩ := qw.1 hh
  exact hx c hc)
 rw [List.map_map] at this
 have e : List.map ((fun h : Sa => h.2.1.2.1) ∘ fun c => ((0, (0, c, 0, 0, ()), ()) : Sa)) cs = cs := by
  rw [show ((fun h : Sa => h.2.1.2.1) ∘ fun c => ((0, (0, c, 0, 0, ()), ()) : Sa)) = id from rfl, List.map_id]
 rw [e] at this
 rw [this, U1]
 congr 3
 funext c
 rw [List.any_map]
 rfl
def Baz (s : Int) (D : List Va) : Int := Qd (fun _ s (p : Va) => Pc .i64 s p.2.1) 0 s D
def EP (b : Ka) (D : List Va) : Ka := (Baz b.1 D, Nu (fun c => b.2.1.any (fun y => y == c) || D.any (fun p => p.1 == c)) 56, ())
theorem N5 (b : Ka) (D : List Va) (hb : b.2.1.length ≤ 56) (hD : D.length ≤ 1000) (hbx : ∀ c ∈ b.2.1, 0 ≤ c ∧ c ≤ 56) (hDx : ∀ p ∈ D, 0 ≤ p.1 ∧ p.1 ≤ 56) :
 Zf b D = some (EP b D, ()) := by
 have h20 : Ea = 1048576 := rfl
 have hl := (De (step := fun x => Vr x.1.1 x.1.2.1 x.1.2.2.1 x.1.2.2.2.1 x.1.2.2.2.2.1 x.1.2.2.2.2.2.1 x.2.1 x.2.2.1) D
  (fun _ (s : Int × List Int) (p : Va) => (Pc .i64 s.1 p.2.1, jf s.2 [p.1])) (fun s i => (((), (), s.2, D, ((ja D : Nat) : Int), i, ()), (((0 : Int), ([] : List Int), ()), (s.1, ([] : List Int), ()), ())))
  (fun s => .inl (((), (), s.2, ()), (((0 : Int), ([] : List Int), ()), (s.1, ([] : List Int), ()), ()))) (fun k s => s.2.length = b.2.1.length + k) (by
   intro k hk s hs
   refine ⟨?_, by simp [hs]; omega⟩
   simp only [Vr]
   rw [Ba (show (k : Int) < ((ja D : Nat) : Int) by omega), Cb hk]
   simp only [cond_true, jb]
   rw [show jx (ja s.2 + ja ([D[k].1] : List Int)) Qa = true from ji (by simp only [jw, j8, Rd]; omega)]
   rfl)
  (by
   intro s _
   simp only [Vr]
   rw [Aa (by omega)]; rfl) (by omega) (b.1, b.2.1) (by simp)).1
 have key : ∀ (D : List Va) (k : Nat) (s : Int × List Int), Qd (fun _ (s : Int × List Int) (p : Va) => (Pc .i64 s.1 p.2.1, jf s.2 [p.1])) k s D =
  (Qd (fun _ s (p : Va) => Pc .i64 s p.2.1) k s.1 D, s.2 ++ D.map fun p => p.1) := by
  intro D
  induction D with
  | nil => intro k s; simp [Qd]
  | cons x D ih => intro k s; simp only [Qd]; rw [ih]; simp
 unfold Zf Dw
 rw [KL _ (by omega)]
 simp only [jb]
 erw [hl]
 rw [key]
 simp only [jb, ql]
 rw [H8 _ (by simp; omega) (fun c hc => by
  rcases jl.1 hc with h | h
  ·exact hbx c h
  ·obtain ⟨p, hp, rfl⟩ := qw.1 h
   exact hDx p hp)]
 simp only [jb, EP, Baz]
 congr 4
 apply congrArg (fun p => Nu p 56)
 funext c
 rw [List.any_append, List.any_map]
 rfl
abbrev zR : Ka := ((0 : Int), ([] : List Int), ())
theorem D2 {α : Type} (p : α → Bool) : ∀ (l : List α) (k : Nat) (b : Bool), Qd (fun _ b x => cond b true (p x)) k b l = (b || l.any p)
 | [], _, b => by simp [Qd]
 | x :: l, k, b => by
  simp only [Qd, List.any_cons]
  rw [D2 p l (k + 1)]
  cases b <;> cases p x <;> rfl
theorem Ral (D : List Sa) (b : Ka) (K : List Int) (c : Int) (has : Bool) (hb : b.2.1.length ≤ Ea) :
 Um ((D, (), (), K, c, has, (0 : Int), ()), (zR, b, ())) = some (.inl ((D, (), (), K, c, has || b.2.1.any (fun y => y == c), ()), (zR, b, ()))) := by
 have h20 : Ea = 1048576 := rfl
 have hl := (De (step := fun x => At x.1.1 x.1.2.1 x.1.2.2.1 x.1.2.2.2.1 x.1.2.2.2.2.1 x.1.2.2.2.2.2.1 x.1.2.2.2.2.2.2.1 x.2.1 x.2.2.1) b.2.1 (fun _ s y => cond s true (y == c)) (fun s i => ((D, (), (), K, c, s, i, ()), (zR, b, ())))
  (fun s => .inl ((D, (), (), K, c, s, ()), (zR, b, ()))) (fun _ _ => True) (by
   intro k hk s _
   refine ⟨?_, trivial⟩
   simp only [At]
   rw [Ba (show (k : Int) < ((ja b.2.1 : Nat) : Int) by omega), show Af (ja b.2.1) (k : Int) = true by rw [Ag]; exact Ba hk, jn, je hk]
   simp only [cond_true, jb]
   cases s <;> rfl)
  (by
   intro s _
   simp only [At]
   rw [Aa (by omega)]; rfl) (by omega) has trivial).1
 unfold Um
 erw [hl]
 rw [D2 (fun y : Int => y == c)]
theorem Qal (D : List Sa) (b : Ka) (K : List Int) (c : Int) (has : Bool) (hD : D.length ≤ Ea) :
 Vm ((D, (), (), K, c, has, (0 : Int), ()), (zR, b, ())) = some (.inl ((D, (), (), K, c, has || D.any (fun h => h.2.1.2.1 == c), ()), (zR, b, ()))) := by
 have h20 : Ea = 1048576 := rfl
 have hl := (De (step := fun x => Bt x.1.1 x.1.2.1 x.1.2.2.1 x.1.2.2.2.1 x.1.2.2.2.2.1 x.1.2.2.2.2.2.1 x.1.2.2.2.2.2.2.1 x.2.1 x.2.2.1) D (fun _ s (h : Sa) => cond s true (h.2.1.2.1 == c)) (fun s i => ((D, (), (), K, c, s, i, ()), (zR, b, ())))
  (fun s => .inl ((D, (), (), K, c, s, ()), (zR, b, ()))) (fun _ _ => True) (by
   intro k hk s _
   refine ⟨?_, trivial⟩
   simp only [Bt]
   rw [Ba (show (k : Int) < ((ja D : Nat) : Int) by omega), Cb hk]
   simp only [cond_true, jb]
   cases s <;> rfl)
  (by
   intro s _
   simp only [Bt]
   rw [Aa (by omega)]; rfl) (by omega) has trivial).1
 unfold Vm
 erw [hl]
 rw [D2 (fun h : Sa => h.2.1.2.1 == c)]
theorem XL (l D : List Sa) (hn : l.length ≤ Ea) (hv : Rf l = true) (hD : D.length ≤ 1000) : Gi l D = some (EP (Gd l) (D.map Ge), ()) := by
 have h20 : Ea = 1048576 := rfl
 have h1 := (De (step := fun x => Hv x.1.1 x.1.2.1 x.1.2.2.1 x.1.2.2.2.1 x.2.1 x.2.2.1) D (fun _ s (h : Sa) => Pc .i64 s h.2.1.2.2.1) (fun s i => ((D, (), (), i, ()), (zR, ((s, (Gd l).2.1, ()) : Ka), ())))
  (fun s => .inl ((D, (), (), ()), (zR, ((s, (Gd l).2.1, ()) : Ka), ()))) (fun _ _ => True) (by
   intro k hk s _
   refine ⟨?_, trivial⟩
   simp only [Hv]
   rw [Ba (show (k : Int) < ((ja D : Nat) : Int) by omega), Cb hk]; rfl)
  (by
   intro s _
   simp only [Hv]
   rw [Aa (by omega)]; rfl) (by omega) (Gd l).1 trivial).1
 have hm : ∀ (D : List Sa) (k : Nat) (s : Int), Qd (fun _ s (h : Sa) => Pc .i64 s h.2.1.2.2.1) k s D = Qd (fun _ s (p : Va) => Pc .i64 s p.2.1) k s (D.map Ge) := by
  intro D
  induction D with
  | nil => intro k s; rfl
  | cons x D ih => intro k s; simp only [Qd, List.map_cons]; exact ih _ _
 generalize hms : Qd (fun _ s (h : Sa) => Pc .i64 s h.2.1.2.2.1) 0 (Gd l).1 D = ms at h1
 have hms' : Baz (Gd l).1 (D.map Ge) = ms := by rw [← hms, hm]; rfl
 let pr : Int → Bool := fun c => (Gd l).2.1.any (fun y => y == c) || D.any (fun h => h.2.1.2.1 == c)
 have h2 := Gx (step := fun x => Iv x.1.1 x.1.2.1 x.1.2.2.1 x.1.2.2.2.1 x.1.2.2.2.2.1 x.2.1 x.2.2.1) (fun k => ((D, (), (), Nu pr k, ((k + 1 : Nat) : Int), ()), (zR, ((ms, (Gd l).2.1, ()) : Ka), ()))) 56
  (.inl (((), (), Nu pr 56, ()), (zR, ((ms, (Gd l).2.1, ()) : Ka), ()))) (by
   intro k hk
   simp only [Iv]
   have hlen := T2 pr k
   rw [Ba (show ((k + 1 : Nat) : Int) ≤ 56 by omega), Ral D _ _ _ _ (by have := XO l; show (Gd l).2.1.length ≤ _; omega)]
   simp only [cond_true, jb, ql]
   rw [Qal D _ _ _ _ (by omega)]
   simp only [jb, ql]
   rw [show jx (ja (Nu pr k) + ja ([((k + 1 : Nat) : Int)] : List Int)) Qa = true from ji (by simp only [jw, j8, Rd]; omega), Kc (by omega)]
   simp only [Nu, pr, Bool.false_or, cond_true]
   cases ((Gd l).2.1.any (fun y => y == ((k + 1 : Nat) : Int)) || D.any (fun h => h.2.1.2.1 == ((k + 1 : Nat) : Int))) <;> rfl) (by
   simp only [Iv]
   rw [Aa (by decide)]; rfl)
 unfold Gi Qz Rz
 rw [Iz l hn hv]
 simp only [jb]
 erw [h1]
 simp only [jb, ql]
 erw [h2]
 simp only [jb, ql]
 unfold EP
 rw [hms']
 congr 4
 apply congrArg (fun p => Nu p 56)
 funext c
 simp only [pr, List.any_map]
 rfl
noncomputable def rM (L : List Sa) (x : Ad) : Int := Td (Dj x.2.1 x.2.2.1) 0 L
noncomputable def E5 (b : Ka) (L : List Sa) (x : Ad) : List Ka :=
 cond (x.1 == 0) [EP b ((jf L [Qi x]).map Ge), EP b (L.map Ge)] [EP b ((TS x L (rM L x)).map Ge)]
noncomputable def mG (b : Ka) (s : List Ka × List Sa) (x : Ad) : List Ka × List Sa := (jf s.1 (E5 b s.2 x), TS x s.2 (rM s.2 x))
noncomputable def WX (b : Ka) (l : List Ad) : List Ka := (Qd (fun _ s x => mG b s x) 0 ([], []) l).1
theorem I6 {α : Type} (p : α → Bool) : ∀ (xs : List α) (k : Nat) (y : α), Td p k xs = -1 → p y = true → Td p k (xs ++ [y]) = ((k + xs.length : Nat) : Int)
 | [], k, y, _, hy => by simp only [List.nil_append, Td, hy, cond_true]; simp
 | x :: xs, k, y, h, hy => by
  simp only [Td] at h
  simp only [List.cons_append, Td]
  cases hx : p x with
  | true => rw [hx] at h; simp only [cond_true] at h; omega
  | false =>
   rw [hx] at h
   simp only [cond_false] at h ⊢
   rw [I6 p xs (k + 1) y h hy, jw]
   omega
structure Pac (l : List Ad) (k : Nat) (s : List Ka × List Sa) : Prop where
 ok : ∃ L', Tc (fun _ L x => Lw L x) k s.2 (l.drop k) = .inl L'
 len : s.2.length ≤ k
 out : s.1.length ≤ 2 * k
 cod : ∀ h ∈ s.2, 0 ≤ h.2.1.2.1 ∧ h.2.1.2.1 ≤ 56
theorem Cak {l : List Ad} {k : Nat} (hk : k < l.length) {b : Ka} {s : List Ka × List Sa} (hi : Pac l k s) : FB l[k] (rM s.2 l[k]) = true ∧ Pac l (k + 1) (mG b s l[k]) := by
 obtain ⟨L', hL⟩ := hi.ok
 rw [List.drop_eq_getElem_cons hk] at hL
 simp only [Tc] at hL
 unfold rM
 cases hc : FB l[k] (Td (Dj l[k].2.1 l[k].2.2.1) 0 s.2) with
 | false =>
  have : Lw s.2 l[k] = .inr () := by unfold Lw; rw [hc]; rfl
  rw [this] at hL; simp at hL
 | true =>
  have hm : Lw s.2 l[k] = .inl (TS l[k] s.2 (rM s.2 l[k])) := by unfold Lw rM; rw [hc]; rfl
  rw [hm] at hL
  refine ⟨rfl, ⟨L', hL⟩, ?_, ?_, ?_⟩
  ·have := Nad hm
   have := hi.len
   show (TS l[k] s.2 (rM s.2 l[k])).length ≤ k + 1
   omega
  ·have := hi.out
   show (jf s.1 (E5 b s.2 l[k])).length ≤ _
   unfold E5
   cases l[k].1 == 0 <;> simp <;> omega
  ·have hcode : 0 ≤ l[k].2.1 ∧ l[k].2.1 ≤ 56 := by
    simp only [FB, jd] at hc
    exact AR hc.1
   intro h hh
   have hh' : h ∈ TS l[k] s.2 (rM s.2 l[k]) := hh
   unfold TS at hh'
   cases h1 : l[k].1 == 1 with
   | true =>
    rw [h1] at hh'
    rcases jl.1 (show h ∈ s.2 ++ [Qi l[k]] from hh') with hh' | hh'
    ·exact hi.cod h hh'
    ·simp only [jp, List.not_mem_nil, or_false] at hh'
     rw [hh']; exact hcode
   | false =>
    rw [h1] at hh'
    cases h2 : l[k].1 == 2 with
    | true =>
     rw [h2] at hh'
     have hsub : h ∈ s.2 := by
      have hw : h ∈ Xh s.2 (rM s.2 l[k]).toNat := hh'
      unfold Xh Gb at hw
      rcases jl.1 (show h ∈ _ ++ _ from hw) with hw | hw
      ·exact List.mem_of_mem_take (qu hw)
      ·exact List.mem_of_mem_take (qu hw)
     exact hi.cod h hsub
    | false => rw [h2] at hh'; exact hi.cod h hh'
theorem Bal {x : Ad} {r : Int} (h : FB x r = true) : (x.1 = 0 ∧ r < 0) ∨ (x.1 = 1 ∧ r < 0) ∨ (x.1 = 2 ∧ r ≥ 0) := by
 simp only [FB, jd, Bool.or_eq_true, beq_iff_eq, Bool.not_eq_true', decide_eq_false_iff_not, decide_eq_true_eq] at h
 omega
theorem Oa {n m : Nat} (h : n ≤ 1000) (hm : m ≤ 10) : jx (n + m) Qa = true := ji (by rw [Rd]; omega)
theorem Cam (L : List Sa) (h : Sa) : Xh (jf L [h]) L.length = L := by
 simp [Xh, Gb]
theorem G0 (a : List Sa) (l : List Ad) (hn : a.length ≤ Ea) (ha : Rf a = true) (hm : Fg l = true) : Tk a l = some (WX (Gd a) l, ()) := by
 have h20 : Ea = 1048576 := rfl
 have hm' := hm
 simp only [Fg, jd, decide_eq_true_eq, Sak] at hm'
 have h0 : Pac l 0 ([], []) := ⟨by
  rw [List.drop_zero]
  cases hf : Tc (fun _ L x => Lw L x) 0 [] l with
  | inl L => exact ⟨L, rfl⟩
  | inr u => rw [hf] at hm'; simp at hm', jo _, jo _, by simp⟩
 have hl := (De (step := fun x => Sm x.1.1 x.1.2.1 x.1.2.2.1 x.1.2.2.2.1 x.1.2.2.2.2.1) l (fun _ s x => mG (Gd a) s x) (fun s i => ((a, l, s.1, s.2, i, ()), ())) (fun s => .inl ((s.1, ()), ())) (Pac l) (by
  intro k hk s hi
  obtain ⟨hok, hi'⟩ := Cak (b := Gd a) hk hi
  refine ⟨?_, hi'⟩
  have hlen := hi.len
  have hout := hi.out
  have hl8 := hm'.1
  simp only [Sm]
  rw [Ba (show (k : Int) < ((ja l : Nat) : Int) by omega), Cb hk]
  simp only [cond_true, jb, Cr]
  generalize hx : l[k] = x at *
  have e1 : jx (ja s.2 + ja ([((0 : Int), ((2 : Int), x.2.1, x.2.2.1, (0 : Int), ()), ())] : List Sa)) Qa = true := Oa (by omega) (by simp)
  have hR1 : Gi a (jf s.2 [Qi x]) = some (EP (Gd a) ((jf s.2 [Qi x]).map Ge), ()) := XL a _ hn ha (by simp; omega)
  have hR0 : Gi a s.2 = some (EP (Gd a) (s.2.map Ge), ()) := XL a _ hn ha (by omega)
  unfold mG E5 TS
  rcases Bal hok with ⟨h0, hr⟩ | ⟨h1, hr⟩ | ⟨h2, hr⟩
  ·rw [h0, e1]
   simp only [show ((0 : Int) != 2) = true from rfl, show ((0 : Int) != 1) = true from rfl, show ((0 : Int) == 0) = true from rfl, show ((0 : Int) == 1) = false from rfl, show ((0 : Int) == 2) = false from rfl, cond_true, cond_false]
   show jz (Gi a (jf s.2 [Qi x])) _ = _
   rw [hR1]
   simp only [jb]
   rw [show ∀ r : Ka, jx (ja s.1 + ja ([r] : List Ka)) Qa = true from fun r => Oa (by omega) (by simp)]
   simp only [cond_true]
   have hF : Po (jf s.2 [Qi x]) x = some (((s.2.length : Nat) : Int), ()) := by
    rw [QQ _ _ (by simp; omega)]
    have hm1 : Td (Dj x.2.1 x.2.2.1) 0 s.2 = -1 := by
     rcases Dx (Dj x.2.1 x.2.2.1) s.2 0 with h | ⟨j, _, h⟩
     ·exact h
     ·unfold rM at hr; omega
    have := I6 (Dj x.2.1 x.2.2.1) s.2 0 (Qi x) hm1 (by simp [Dj, Qi])
    rw [js] at this
    show some (Td _ 0 (s.2 ++ [Qi x]), ()) = _
    rw [this]
   have hW : Rg (jf s.2 [Qi x]) ((s.2.length : Nat) : Int) = some (s.2, ()) := by
    rw [PI _ (by simp) (by simp; omega), Cam]
   show jz (Po (jf s.2 [Qi x]) x) _ = _
   rw [hF]
   simp only [jb]
   show jz (Rg (jf s.2 [Qi x]) ((s.2.length : Nat) : Int)) _ = _
   rw [hW]
   simp only [jb]
   rw [hR0]
   simp only [jb]
   rw [show ∀ r r' : Ka, jx (ja (jf s.1 [r]) + ja ([r'] : List Ka)) Qa = true from fun r r' => Oa (by simp; omega) (by simp)]
   simp
  ·rw [h1, e1]
   simp only [show ((1 : Int) != 2) = true from rfl, show ((1 : Int) != 1) = false from rfl, show ((1 : Int) == 0) = false from rfl, show ((1 : Int) == 1) = true from rfl, cond_true, cond_false]
   show jz (Gi a (jf s.2 [Qi x])) _ = _
   rw [hR1]
   simp only [jb]
   rw [show ∀ r : Ka, jx (ja s.1 + ja ([r] : List Ka)) Qa = true from fun r => Oa (by omega) (by simp)]
   rfl
  ·rw [h2]
   simp only [show ((2 : Int) != 2) = false from rfl, show ((2 : Int) != 1) = true from rfl, show ((2 : Int) == 0) = false from rfl, show ((2 : Int) == 1) = false from rfl, show ((2 : Int) == 2) = true from rfl, cond_true, cond_false]
   rcases Dx (Dj x.2.1 x.2.2.1) s.2 0 with h | ⟨j, hj, h⟩
   ·unfold rM at hr; omega
   ·rw [js] at h
    rw [QQ _ _ (by omega), h]
    simp only [jb]
    rw [PI _ hj (by omega)]
    simp only [jb]
    rw [XL a _ hn ha (by rw [C7 hj]; omega)]
    simp only [jb]
    rw [show ∀ r : Ka, jx (ja s.1 + ja ([r] : List Ka)) Qa = true from fun r => Oa (by omega) (by simp)]
    unfold rM
    rw [h, jn]
    rfl)
  (by
   intro s _
   simp only [Sm]
   rw [Aa (by omega)]; rfl) (by omega) ([], []) h0).1
 unfold Tk Pp
 rw [MH _ hn, ha, MW _ (by omega), hm]
 simp only [jb, jg, cond_false]
 erw [hl]
 rfl
theorem SaH (a : List Sa) : ∀ c ∈ (Gd a).2.1, 0 ≤ c ∧ c ≤ 56 := by
 intro c hc
 have := (JN a 56 c).1 hc
 omega
theorem SZ (a : List Sa) (l : List Ad) (hn : a.length ≤ Ea) (ha : Rf a = true) (hm : Fg l = true) : Rk a l = some (WX (Gd a) l, ()) := by
 have h20 : Ea = 1048576 := rfl
 have hm' := hm
 simp only [Fg, jd, decide_eq_true_eq, Sak] at hm'
 have h0 : Pac l 0 ([], []) := ⟨by
  rw [List.drop_zero]
  cases hf : Tc (fun _ L x => Lw L x) 0 [] l with
  | inl L => exact ⟨L, rfl⟩
  | inr u => rw [hf] at hm'; simp at hm', jo _, jo _, by simp⟩
 have hl := (De (step := fun x => Km x.1.1 x.1.2.1 x.1.2.2.1 x.1.2.2.2.1 x.1.2.2.2.2.1 x.1.2.2.2.2.2.1 x.2.1) l (fun _ s x => mG (Gd a) s x) (fun s i => (((), s.1, s.2.map Ge, l, ((ja l : Nat) : Int), i, ()), (Gd a, ()))) (fun s => .inl ((s.1, ()), ())) (Pac l) (by
  intro k hk s hi
  obtain ⟨hok, hi'⟩ := Cak (b := Gd a) hk hi
  refine ⟨?_, hi'⟩
  have hlen := hi.len
  have hout := hi.out
  have hl8 := hm'.1
  have hcode : 0 ≤ l[k].2.1 ∧ l[k].2.1 ≤ 56 := by
   simp only [FB, jd] at hok
   exact AR hok.1
  simp only [Km]
  rw [Ba (show (k : Int) < ((ja l : Nat) : Int) by omega), Cb hk]
  simp only [cond_true, jb]
  generalize hx : l[k] = x at *
  have hW : ∀ L : List Sa, L.length ≤ 1000 → (∀ h ∈ L, 0 ≤ h.2.1.2.1 ∧ h.2.1.2.1 ≤ 56) → Zf (Gd a) (L.map Ge) = some (EP (Gd a) (L.map Ge), ()) := fun L h1 h2 =>
   N5 _ _ (XO a) (by simpa using h1) (SaH a) (fun p hp => by
    obtain ⟨h, hh, rfl⟩ := qw.1 hp
    exact h2 h hh)
  have hcs : ∀ h ∈ jf s.2 [Qi x], 0 ≤ h.2.1.2.1 ∧ h.2.1.2.1 ≤ 56 := by
   intro h hh
   rcases jl.1 (show h ∈ s.2 ++ [Qi x] from hh) with hh | hh
   ·exact hi.cod h hh
   ·simp only [jp, List.not_mem_nil, or_false] at hh
    rw [hh]; exact hcode
  have happ : jf (s.2.map Ge) ([(x.2.1, x.2.2.1, ())] : List Va) = (jf s.2 [Qi x]).map Ge := by
   show _ ++ _ = List.map Ge (_ ++ _)
   rw [List.map_append]; rfl
  have happ2 : jf (jf ([] : List Va) (s.2.map Ge)) ([(x.2.1, x.2.2.1, ())] : List Va) = (jf s.2 [Qi x]).map Ge := happ
  have hR1 := hW (jf s.2 [Qi x]) (by simp; omega) hcs
  have hR0 := hW s.2 (by omega) hi.cod
  have b1 : jx (ja (s.2.map Ge) + ja ([(x.2.1, x.2.2.1, ())] : List Va)) Qa = true := Oa (by simp; omega) (by simp)
  have b0 : jx (ja ([] : List Va) + ja (s.2.map Ge)) Qa = true := ji (by simp [Rd]; omega)
  unfold mG E5 TS
  rcases Bal hok with ⟨h0, hr⟩ | ⟨h1, hr⟩ | ⟨h2, hr⟩
  ·rw [h0, b0]
   simp only [show ((0 : Int) == 0) = true from rfl, show ((0 : Int) == 1) = false from rfl, show ((0 : Int) == 2) = false from rfl, cond_true, cond_false]
   show cond (jx (ja (s.2.map Ge) + ja ([(x.2.1, x.2.2.1, ())] : List Va)) Qa) _ _ = _
   rw [b1, happ2]
   simp only [cond_true]
   show jz (Zf (Gd a) _) _ = _
   rw [hR1]
   simp only [jb]
   rw [show ∀ r : Ka, jx (ja s.1 + ja ([r] : List Ka)) Qa = true from fun r => Oa (by omega) (by simp)]
   simp only [cond_true]
   show jz (Zf (Gd a) _) _ = _
   rw [hR0]
   simp only [jb]
   rw [show ∀ r r' : Ka, jx (ja (jf s.1 [r]) + ja ([r'] : List Ka)) Qa = true from fun r r' => Oa (by simp; omega) (by simp)]
   simp
  ·rw [h1, b1, happ]
   simp only [show ((1 : Int) == 0) = false from rfl, show ((1 : Int) == 1) = true from rfl, cond_true, cond_false]
   show jz (Zf (Gd a) _) _ = _
   rw [hR1]
   simp only [jb]
   rw [show ∀ r : Ka, jx (ja s.1 + ja ([r] : List Ka)) Qa = true from fun r => Oa (by omega) (by simp)]
   rfl
  ·rw [h2]
   simp only [show ((2 : Int) == 0) = false from rfl, show ((2 : Int) == 1) = false from rfl, show ((2 : Int) == 2) = true from rfl, cond_true, cond_false]
   rcases Dx (Dj x.2.1 x.2.2.1) s.2 0 with h | ⟨j, hj, h⟩
   ·unfold rM at hr; omega
   ·rw [js] at h
    rw [RX (s.2.map Ge) _ (by simp; omega), Oab, h]
    simp only [jb]
    have hj' : j < (s.2.map Ge).length := by simpa using hj
    have hc := Y1 hj'
    have e1 : jx (ja (Gb (s.2.map Ge) (jy 0) (jy (j : Int))) + ja (Gb (s.2.map Ge) (jy ((j + 1 : Nat) : Int)) (jy ((ja (s.2.map Ge) : Nat) : Int)))) Qa = true :=
     ji (by simp [Gb]; rw [Rd]; omega)
    have e2 : jf (Gb (s.2.map Ge) (jy 0) (jy (j : Int))) (Gb (s.2.map Ge) (jy ((j + 1 : Nat) : Int)) (jy ((ja (s.2.map Ge) : Nat) : Int))) = (Xh s.2 j).map Ge := by
     rw [← D7]
     simp [Xh]
    have hsub : ∀ h ∈ Xh s.2 j, 0 ≤ h.2.1.2.1 ∧ h.2.1.2.1 ≤ 56 := by
     intro h hw
     unfold Xh Gb at hw
     rcases jl.1 (show h ∈ _ ++ _ from hw) with hw | hw
     ·exact hi.cod h (List.mem_of_mem_take (qu hw))
     ·exact hi.cod h (List.mem_of_mem_take (qu hw))
    rw [Kc (k := j) (by omega), hc.1, hc.2, e1, e2]
    simp only [cond_true]
    show jz (Zf (Gd a) _) _ = _
    rw [hW (Xh s.2 j) (by rw [C7 hj]; omega) hsub]
    simp only [jb]
    rw [show ∀ r : Ka, jx (ja s.1 + ja ([r] : List Ka)) Qa = true from fun r => Oa (by omega) (by simp)]
    unfold rM
    rw [h, jn]
    rfl)
  (by
   intro s _
   simp only [Km]
   rw [Aa (by omega)]; rfl) (by omega) ([], []) h0).1
 unfold Rk Gp
 rw [LG _ hn, ha, WV _ (by omega), hm, Gy _ hn ha]
 simp only [jb, jg, cond_false]
 erw [hl]
 rfl
theorem Qaf (b : Ka) (D : List Va) : (EP b D).2.1.length ≤ 56 := by
 show (Nu (fun c => b.2.1.any (fun y => y == c) || D.any (fun p => p.1 == c)) 56).length ≤ 56
 exact T2 _ 56
theorem Tak (b : Ka) : ∀ (l : List Ad) (k : Nat) (s : List Ka × List Sa), (∀ x ∈ s.1, x.2.1.length ≤ 56) →
 (Qd (fun _ s x => mG b s x) k s l).1.length ≤ s.1.length + 2 * l.length ∧ ∀ x ∈ (Qd (fun _ s x => mG b s x) k s l).1, x.2.1.length ≤ 56
 | [], _, s, h => by simp only [Qd]; exact ⟨by omega, h⟩
 | x :: l, k, s, h => by
  have h1 : (mG b s x).1.length ≤ s.1.length + 2 ∧ ∀ y ∈ (mG b s x).1, y.2.1.length ≤ 56 := by
   unfold mG E5
   cases x.1 == 0 with
   | true =>
    refine ⟨by simp, fun y hy => ?_⟩
    rcases jl.1 (show y ∈ s.1 ++ _ from hy) with hy | hy
    ·exact h y hy
    ·simp only [cond_true, jp, List.not_mem_nil, or_false] at hy
     rcases hy with rfl | rfl <;> exact Qaf _ _
   | false =>
    refine ⟨by simp, fun y hy => ?_⟩
    rcases jl.1 (show y ∈ s.1 ++ _ from hy) with hy | hy
    ·exact h y hy
    ·simp only [cond_false, jp, List.not_mem_nil, or_false] at hy
     rw [hy]; exact Qaf _ _
  have := Tak b l (k + 1) (mG b s x) h1.2
  simp only [Qd, jw]
  exact ⟨by omega, this.2⟩
def Vo (f : Int) (l : List Sa) : Int := Qd (fun _ s (h : Sa) => cond (h.2.1.1 == 3) (Pc .i64 s (Ra .i64 1 h.2.1.2.2.2.1)) s) 0 (Pc .i64 1 f) l
theorem OX {f : Int} (hf : 0 ≤ f ∧ f ≤ 15) (l : List Sa) (hn : l.length ≤ Ea) (hv : Rf l = true) : FA f l = some (Vo f l, ()) := by
 have h20 : Ea = 1048576 := rfl
 have hh := Mo hv
 have hl := (De (step := fun x => Hu x.1.1 x.1.2.1 x.1.2.2.1 x.1.2.2.2.1) l
  (fun _ s (h : Sa) => cond (h.2.1.1 == 3) (Pc .i64 s (Ra .i64 1 h.2.1.2.2.2.1)) s) (fun s i => ((s, l, ((ja l : Nat) : Int), i, ()), ()))
  (fun s => .inl ((s, ()), ())) (fun _ _ => True) (by
   intro k hk s _
   refine ⟨?_, trivial⟩
   simp only [Hu]
   rw [Ba (show (k : Int) < (ja l : Int) by omega), Cb hk]
   simp only [cond_true, jb]
   rw [Ba (TP (hh _ (qt hk)).act)]
   cases l[k].2.1.1 == 3 <;> rfl)
  (by
   intro s _
   simp only [Hu]
   rw [Aa (by omega)]; rfl) (by omega) (Pc .i64 1 f) trivial).1
 unfold FA Lk
 rw [Ba (show f ≥ 0 by omega), Ba hf.2, LG _ hn, hv]
 simp only [cond_true, jb, jg, cond_false]
 erw [hl]
 rfl
theorem FY {f : Int} (hf : 0 ≤ f ∧ f ≤ 15) (l : List Sa) (hn : l.length ≤ Ea) (hv : Rf l = true) : UA f l = some (Vo f l, ()) := by
 have h20 : Ea = 1048576 := rfl
 have hh := Mo hv
 have hl := (De (step := fun x => Ev x.1.1 x.1.2.1 x.1.2.2.1) l
  (fun _ s (h : Sa) => cond (h.2.1.1 == 3) (Pc .i64 s (Ra .i64 1 h.2.1.2.2.2.1)) s) (fun s i => ((l, s, i, ()), ()))
  (fun s => .inl ((s, ()), ())) (fun _ _ => True) (by
   intro k hk s _
   refine ⟨?_, trivial⟩
   simp only [Ev]
   rw [Ba (show (k : Int) < ((ja l : Nat) : Int) by omega), Cb hk, MH _ hn, hv]
   simp only [cond_true, jb]
   rw [Ba (TP (hh _ (qt hk)).act)]
   cases l[k].2.1.1 == 3 <;> rfl)
  (by
   intro s _
   simp only [Ev]
   rw [Aa (by omega)]; rfl) (by omega) (Pc .i64 1 f) trivial).1
 unfold UA Jo
 rw [Oc, Ba hf]
 simp only [cond_true, jb]
 erw [hl]
 rfl
theorem Gad (a : Db) : ER a = some (EQ a, ()) := by
 unfold ER EQ
 rw [DI]
 cases Gg a <;> cases a.1 == 6 <;> rfl
theorem Nab {a : Nat} (ha : a < 2 ^ 63) (x : Sa) : GH (a : Int) x = true ↔ Jv x ∧ a.testBit x.1.toNat = false := by
 constructor
 ·intro h
  obtain ⟨h1, h2⟩ := KaD h
  refine ⟨h1, ?_⟩
  have hx : x.1 = ((x.1.toNat : Nat) : Int) := (Int.toNat_of_nonneg h1.lo).symm
  have := Ft (a := a) (k := x.1.toNat) ha (by have := h1.hi; omega)
  rw [← hx] at this
  rw [← this]
  simp [h2]
 ·rintro ⟨h1, h2⟩
  have hx : x.1 = ((x.1.toNat : Nat) : Int) := (Int.toNat_of_nonneg h1.lo).symm
  have := Ft (a := a) (k := x.1.toNat) ha (by have := h1.hi; omega)
  rw [← hx, h2] at this
  simp only [GH, jd, decide_eq_true_eq, Bool.not_eq_true', beq_eq_false_iff_ne]
  exact ⟨⟨h1.lo, h1.hi⟩, by rw [beq_eq_false_iff_ne] at this; exact this, h1.act, h1.n1, h1.n6, h1.n7⟩
theorem L6 : ∀ (l : List Sa) (k a : Nat), a < 2 ^ 63 → (Hn (Tc (fun _ s x => AC s x) k (a : Int) l) = true ↔
 (∀ x ∈ l, Jv x ∧ a.testBit x.1.toNat = false) ∧ l.Pairwise (fun x y => x.1 ≠ y.1))
 | [], k, a, ha => by simp [Tc, Hn]
 | y :: l, k, a, ha => by
  simp only [Tc]
  cases hc : GH (a : Int) y with
  | false =>
   rw [show AC (a : Int) y = .inr () by unfold AC; rw [hc]; rfl]
   simp only [Hn, jq, false_iff]
   rintro ⟨h, _⟩
   have := (Nab ha y).2 (h y (q0 ..))
   rw [hc] at this; cases this
  | true =>
   rw [show AC (a : Int) y = .inl (Pc .i64 (a : Int) (Ra .i64 1 y.1)) by unfold AC; rw [hc]; rfl]
   simp only []
   obtain ⟨hy, hb⟩ := (Nab ha y).1 hc
   have h1 := hy.lo; have h2 := hy.hi
   have hyx : y.1 = ((y.1.toNat : Nat) : Int) := (Int.toNat_of_nonneg h1).symm
   have e : Pc .i64 (a : Int) (Ra .i64 1 y.1) = ((a ||| 2 ^ y.1.toNat : Nat) : Int) := by
    conv => lhs; rw [hyx]
    rw [Ml (by omega), Ew ha (Gj (by omega))]
   rw [e, L6 l (k + 1) _ (Nat.or_lt_two_pow ha (Gj (by omega)))]
   have tb : ∀ n, (a ||| 2 ^ y.1.toNat).testBit n = false ↔ a.testBit n = false ∧ y.1.toNat ≠ n := by
    intro n
    rw [Nat.testBit_or, qp, Bool.or_eq_false_iff, decide_eq_false_iff_not]
   simp only [jp, List.pairwise_cons, forall_eq_or_imp]
   constructor
   ·rintro ⟨h, hp⟩
    refine ⟨⟨⟨hy, hb⟩, fun x hx => ⟨(h x hx).1, ((tb _).1 (h x hx).2).1⟩⟩, fun x hx hxy => ?_, hp⟩
    exact ((tb _).1 (h x hx).2).2 (by rw [hxy])
   ·rintro ⟨⟨_, h⟩, hq, hp⟩
    refine ⟨fun x hx => ⟨(h x hx).1, (tb _).2 ⟨(h x hx).2, fun hn => hq x hx ?_⟩⟩, hp⟩
    have := (h x hx).1.lo
    omega
theorem QZ (l : List Sa) : Rf l = true ↔ (∀ x ∈ l, Jv x) ∧ l.Pairwise (fun x y => x.1 ≠ y.1) := by
 have := L6 l 0 0 (by decide)
 unfold Rf Aai
 erw [this]
 simp
theorem RaB {l : List Sa} (h : Rf l = true) {x : Sa} (hx : Jv x) (hn : ∀ y ∈ l, y.1 ≠ x.1) : Rf (jf l [x]) = true := by
 rw [QZ] at h ⊢
 obtain ⟨h1, h2⟩ := h
 refine ⟨fun y hy => ?_, ?_⟩
 ·rcases jl.1 (show y ∈ l ++ [x] from hy) with hy | hy
  ·exact h1 y hy
  ·rw [qe.1 hy]; exact hx
 ·show (l ++ [x]).Pairwise _
  rw [List.pairwise_append]
  exact ⟨h2, List.pairwise_singleton _ _, fun y hy z hz => by rw [qe.1 hz]; exact hn y hy⟩
theorem C8 {l r : List Sa} (h : Rf l = true) (hs : r.Sublist l) : Rf r = true := by
 rw [QZ] at h ⊢
 exact ⟨fun y hy => h.1 y (hs.subset hy), h.2.sublist hs⟩
theorem V8 : ∀ (n : Nat) (l : List Nat), l.Nodup → (∀ x ∈ l, x < n) → l.length ≤ n
 | 0, l, _, h => by
  cases l with
  | nil => exact jo _
  | cons x l => exact absurd (h x (q0 ..)) (Nat.not_lt_zero _)
 | n + 1, l, hn, h => by
  have := V8 n (l.erase n) (hn.erase n) (fun x hx => by
   have h1 := (hn.mem_erase_iff).1 hx
   have := h x h1.2
   have := h1.1
   omega)
  have h2 := List.length_erase (a := n) (l := l)
  split at h2 <;> omega
theorem Uq {l : List Sa} (h : Rf l = true) : l.length ≤ 32 := by
 rw [QZ] at h
 have hn : (l.map fun x => x.1.toNat).Nodup := by
  rw [List.Nodup, List.pairwise_map]
  refine (List.Pairwise.and_mem.1 h.2).imp ?_
  rintro x y ⟨hx, hy, hxy⟩ he
  have h1 := (h.1 x hx).lo; have h2 := (h.1 y hy).lo
  omega
 have hs : ∀ y ∈ (l.map fun x => x.1.toNat), y < 32 := by
  intro y hy
  obtain ⟨x, hx, rfl⟩ := qw.1 hy
  have := (h.1 x hx).hi; have := (h.1 x hx).lo
  omega
 have := V8 32 _ hn hs
 simpa using this
structure Jx (e : Jb) : Prop where
 km : Ei e.1 = true
 m4 : e.2.1.length ≤ 4
 hd : Rf e.2.2.2.1 = true
 mac : ∀ x ∈ e.2.1, Fg x = true
 hin : ∀ x ∈ e.2.2.2.1, Tq e.1.1 e.1.2.1.length x = true
 st : Kai e.1.2.1.length e.2.2.1 e.2.2.2.2.1
theorem J7 {α : Type} {p : α → Bool} {l : List α} : Le (fun _ x => p x) 0 l = true ↔ ∀ x ∈ l, p x = true := by
 rw [GE]
 constructor
 ·intro h x hx
  obtain ⟨i, hi, rfl⟩ := qv hx
  exact h i hi
 ·intro h j hj
  exact h _ (qt hj)
theorem Zac (e : Jb) : Sj e = true ↔ Jx e := by
 unfold Sj
 simp only [jd, decide_eq_true_eq, beq_iff_eq, J7]
 constructor
 ·rintro ⟨h1, h2, h3, h4, h5, h6, h7, h8⟩
  exact ⟨h1, h2, h3, h4, h5, ⟨h6.1, h6.2, h7, h8.1, h8.2⟩⟩
 ·rintro ⟨h1, h2, h3, h4, h5, h6⟩
  exact ⟨h1, h2, h3, h4, h5, ⟨h6.f0, h6.f1⟩, h6.f2, h6.o0, h6.o1⟩
theorem R4 {e : Jb} (h : Jx e) : Ha Gc e ≤ Ea - 5 := by
 have h20 : Ea = 1048576 := rfl
 have h1 := (Hab h.km).z
 have hh := Uq h.hd
 have h2 : Ha (.sl (.sl Mc)) e.2.1 ≤ (8 + 1) * e.2.1.length := J0 (e := .sl Mc) (c := 8) fun x hx => by
  have := h.mac x hx
  simp only [Fg, jd, decide_eq_true_eq] at this
  have e2 : Ha (.sl Mc) x = x.length := Pk (e := Mc) rfl x
  omega
 have := h.m4
 have hm := Uj h.km
 have h3 : Ha Dc e.1 ≤ 200 := by
  have h1 : Ha Dc e.1 = 0 + (Ha (.sl (.sl Ub)) e.1.2.1 + 0) := rfl
  have h2 : Ha (.sl (.sl Ub)) e.1.2.1 ≤ (32 + 1) * ja e.1.2.1 := J0 (e := .sl Ub) (c := 32) fun x hx => by
   obtain ⟨i, hi, rfl⟩ := qv hx
   rw [Hac]
   have := hm.row i hi
   have := hm.k2
   omega
  have := hm.l2
  omega
 rw [Bm, Pl]
 omega
noncomputable def X8 (e : Jb) (k : Nat) (b : Bool) : Db :=
 cond b (EQ (Rl e.1.2.1 (Vj e.1 (Vo e.2.2.1 e.2.2.2.1) k) k)) (IS (Rl e.1.2.1 (Vj e.1 (Vo e.2.2.1 e.2.2.2.1) k) k))
noncomputable def Nq (e : Jb) (k : Nat) (b : Bool) : Int × Int × Bool × Db := LI e.2.2.1 e.2.2.2.2.1 e.2.2.2.2.2.1 (X8 e k b)
noncomputable def pH (e : Jb) (k : Nat) (b : Bool) : List Sa := jf e.2.2.2.1 [((k : Int), (Nq e k b).2.2.2, ())]
noncomputable def pE (e : Jb) (k : Nat) (b : Bool) : Jb := (e.1, e.2.1, (Nq e k b).1, pH e k b, (Nq e k b).2.1, (Nq e k b).2.2.1, ())
noncomputable def pM (e : Jb) (k : Nat) (b : Bool) : List Ka :=
 cond ((Nq e k b).2.2.2.1 == 9) (cond (decide ((Nq e k b).2.2.2.2.2.2.1 < ((ja e.2.1 : Nat) : Int))) (WX (Gd (pH e k b)) (e.2.1.getD (Nq e k b).2.2.2.2.2.2.1.toNat [])) []) []
noncomputable def pR (e : Jb) (k : Nat) (b : Bool) : List Ka := Tx Dl (Gd e.2.2.2.1) (jf (pM e k b) [Gd (pH e k b)])
theorem KaG {nl i : Nat} {a : Db} (h : Gl nl i a = true) (h1 : a.1 ≠ 1) : F7 nl (EQ a) := by
 have ha := D3 h
 have hP := ha
 rw [Nc] at hP
 unfold Ee at hP
 unfold EQ Gg
 rw [ha]
 by_cases h67 : a.1 = 6 ∨ a.1 = 7
 ·have e : (true && ((a.1 == 6) || (a.1 == 7))) = true := by rcases h67 with h | h <;> rw [h] <;> rfl
  rw [e]
  have hn := C5 h (by omega)
  rcases h67 with h6 | h7
  ·rw [h6]
   refine ⟨?_, by show (2 : Int) ≠ 1; decide, by show (2 : Int) ≠ 6; decide, by show (2 : Int) ≠ 7; decide, fun _ => ?_⟩
   ·rw [Nc]
    exact .inr (.inl ⟨rfl, rfl, .inl rfl, .inr (by show 1 ≤ a.2.2.1 ∧ a.2.2.1 ≤ 15; omega), .inr (by show a.2.2.1 ≠ 0; omega)⟩)
   ·show (0 : Int) < (nl : Int)
    omega
  ·rw [h7]
   refine ⟨?_, by show (3 : Int) ≠ 1; decide, by show (3 : Int) ≠ 6; decide, by show (3 : Int) ≠ 7; decide, fun _ => hn⟩
   rw [Nc]
   exact .inr (.inr (.inl ⟨.inl rfl, rfl, rfl, by show 1 ≤ a.2.2.2.1; omega, by show a.2.2.2.1 ≤ 3; omega⟩))
 ·have e : (true && ((a.1 == 6) || (a.1 == 7))) = false := by
   rw [jk, Bool.or_eq_false_iff, beq_eq_false_iff_ne, beq_eq_false_iff_ne]; omega
  rw [e]
  exact ⟨ha, h1, fun h => h67 (.inl h), fun h => h67 (.inr h), fun hk => C5 h hk⟩
structure JaA (e : Jb) (k : Nat) (b : Bool) : Prop where
 act : F7 e.1.2.1.length (X8 e k b)
 ah : F7 e.1.2.1.length (Nq e k b).2.2.2
 hd : Rf (pH e k b) = true
 ok : Jx (pE e k b)
 ml : (pM e k b).length ≤ 16
 mx : ∀ x ∈ pM e k b, x.2.1.length ≤ 56
theorem Uad {e : Jb} (h : Jx e) {k : Nat} (hk : (k : Int) < e.1.1) (hn : ∀ y ∈ e.2.2.2.1, y.1 ≠ (k : Int)) (b : Bool) : JaA e k b := by
 have hm := Uj h.km
 have h1 := EaD hm (Vo e.2.2.1 e.2.2.2.1) hk
 have h2 : F7 e.1.2.1.length (X8 e k b) := by
  cases b
  ·exact LaT h1.1 h1.2
  ·exact KaG h1.1 h1.2
 have h3 := UaX (c := e.2.2.2.2.2.1) hm.l2 h.st h2
 have h4 : Rf (pH e k b) = true := RaB h.hd (x := ((k : Int), (Nq e k b).2.2.2, ())) ⟨by show (0 : Int) ≤ (k : Int); omega, by have := hm.k2; show (k : Int) ≤ 31; omega, h3.2.act, h3.2.n1, h3.2.n6, h3.2.n7⟩ hn
 refine ⟨h2, h3.2, h4, ⟨h.km, h.m4, h4, h.mac, fun x hx => ?_, h3.1⟩, ?_, ?_⟩
 ·rcases jl.1 (show x ∈ e.2.2.2.1 ++ [((k : Int), (Nq e k b).2.2.2, ())] from hx) with hx | hx
  ·exact h.hin x hx
  ·simp only [jp, List.not_mem_nil, or_false] at hx
   subst hx
   simp only [Tq, jd, Bool.not_eq_true', Bool.and_eq_false_iff, decide_eq_false_iff_not]
   refine ⟨by show ¬ (k : Int) ≥ e.1.1; omega, ?_⟩
   by_cases h9 : (Nq e k b).2.2.2.1 = 9
   ·exact .inl (by show ((Nq e k b).2.2.2.1 != 9) = false; simp [h9])
   ·exact .inr (Int.not_le.2 (h3.2.n h9))
 all_goals
  unfold pM
  cases (Nq e k b).2.2.2.1 == 9 with
  | false => simp
  | true =>
   simp only [cond_true]
   by_cases hl : (Nq e k b).2.2.2.2.2.2.1 < ((ja e.2.1 : Nat) : Int)
   ·rw [Ba hl]
    have h0 := TP h3.2.act
    have hmem : (e.2.1.getD (Nq e k b).2.2.2.2.2.2.1.toNat []) ∈ e.2.1 := by
     have hlt : (Nq e k b).2.2.2.2.2.2.1.toNat < e.2.1.length := by
      have : (0 : Int) ≤ (Nq e k b).2.2.2.2.2.2.1 := h0
      omega
     rw [qj, je hlt, Option.getD_some]
     exact qt hlt
    have hmc := h.mac _ hmem
    simp only [Fg, jd, decide_eq_true_eq] at hmc
    have := Tak (Gd (pH e k b)) (e.2.1.getD (Nq e k b).2.2.2.2.2.2.1.toNat []) 0 ([], []) (by simp)
    simp only [cond_true]
    unfold WX
    first
     | exact this.2
     | (have h5 := this.1; simp only [j8] at h5; omega)
   ·rw [Aa hl]; simp
theorem Rab {β : Type} (MR : List Sa → List Ad → Option ((List Ka) × Unit)) (RO : List Sa → Option (Ka × Unit)) (CH : Ka → List Ka → Option ((List Ka) × Unit)) (K : List Ka → Option β)
 (hMR : ∀ a l, a.length ≤ Ea → Rf a = true → Fg l = true → MR a l = some (WX (Gd a) l, ()))
 (hRO : ∀ l, l.length ≤ Ea → Rf l = true → RO l = some (Gd l, ()))
 (hCH : ∀ (a : Ka) (l : List Ka), l.length ≤ Ea → a.2.1.length ≤ Ea → (∀ x ∈ l, x.2.1.length ≤ Ea) → CH a l = some (Tx Dl a l, ()))
 {e : Jb} (h : Jx e) {k : Nat} {b : Bool} (F : JaA e k b) :
 (cond (jx (ja e.2.2.2.1 + ja ([((k : Int), (Nq e k b).2.2.2, ())] : List Sa)) Qa)
  (cond ((Nq e k b).2.2.2.1 == (9 : Int))
   (cond (decide ((Nq e k b).2.2.2.2.2.2.1 < ((ja e.2.1 : Nat) : Int)))
    (jz (Xa e.2.1 (Nq e k b).2.2.2.2.2.2.1) fun x8 => jz (MR (pH e k b) x8) fun r9 => jz (RO (pH e k b)) fun r10 =>
     cond (jx (ja r9.1 + ja ([r10.1] : List Ka)) Qa) (jz (RO e.2.2.2.1) fun r11 => jz (CH r11.1 (jf r9.1 ([r10.1] : List Ka))) fun r12 => K r12.1) none)
    (jz (RO (pH e k b)) fun r13 => cond (jx (ja ([] : List Ka) + ja ([r13.1] : List Ka)) Qa)
     (jz (RO e.2.2.2.1) fun r14 => jz (CH r14.1 (jf ([] : List Ka) ([r13.1] : List Ka))) fun r15 => K r15.1) none))
   (jz (RO (pH e k b)) fun r16 => cond (jx (ja ([] : List Ka) + ja ([r16.1] : List Ka)) Qa)
    (jz (RO e.2.2.2.1) fun r17 => jz (CH r17.1 (jf ([] : List Ka) ([r16.1] : List Ka))) fun r18 => K r18.1) none))
  none) = K (pR e k b) := by
 have h20 : Ea = 1048576 := rfl
 have hlim := Rd
 have hl1 := Uq h.hd
 have hl2 := Uq F.hd
 have R1 := hRO (pH e k b) (by omega) F.hd
 have R0 := hRO e.2.2.2.1 (by omega) h.hd
 have hr : ∀ r : Ka, jx (ja ([] : List Ka) + ja ([r] : List Ka)) Qa = true := fun r => ji (by simp only [jw, j8]; omega)
 rw [show jx (ja e.2.2.2.1 + ja ([((k : Int), (Nq e k b).2.2.2, ())] : List Sa)) Qa = true from ji (by simp only [jw, j8]; omega)]
 have plain : pM e k b = [] → (jz (RO (pH e k b)) fun r13 => cond (jx (ja ([] : List Ka) + ja ([r13.1] : List Ka)) Qa)
  (jz (RO e.2.2.2.1) fun r14 => jz (CH r14.1 (jf ([] : List Ka) ([r13.1] : List Ka))) fun r15 => K r15.1) none) = K (pR e k b) := by
  intro hm
  rw [R1, R0]
  simp only [jb]
  rw [hr, hCH _ _ (by simp; omega) (HW _) (fun x hx => by rw [qe.1 (show x ∈ [Gd (pH e k b)] from hx)]; exact HW _)]
  simp only [cond_true, jb]
  unfold pR
  rw [hm]
 simp only [cond_true]
 cases h9 : (Nq e k b).2.2.2.1 == (9 : Int) with
 | false => exact plain (by unfold pM; rw [h9]; rfl)
 | true =>
  simp only [cond_true]
  by_cases hl : (Nq e k b).2.2.2.2.2.2.1 < ((ja e.2.1 : Nat) : Int)
  ·rw [Ba hl]
   simp only [cond_true]
   have h0 : (0 : Int) ≤ (Nq e k b).2.2.2.2.2.2.1 := TP F.ah.act
   have hlt : (Nq e k b).2.2.2.2.2.2.1.toNat < e.2.1.length := by omega
   have hi : Xa e.2.1 (Nq e k b).2.2.2.2.2.2.1 = some e.2.1[(Nq e k b).2.2.2.2.2.2.1.toNat] := by
    have := Cb (xs := e.2.1) hlt
    rw [Int.toNat_of_nonneg h0] at this
    exact this
   have hM : pM e k b = WX (Gd (pH e k b)) e.2.1[(Nq e k b).2.2.2.2.2.2.1.toNat] := by
    unfold pM
    rw [h9, Ba hl, qj, je hlt, Option.getD_some]
    rfl
   have ml := F.ml
   have mx := F.mx
   rw [hi]
   simp only [jb]
   rw [hMR _ _ (by omega) F.hd (h.mac _ (qt hlt)), R1, R0, ← hM]
   simp only [jb]
   rw [show jx (ja (pM e k b) + ja ([Gd (pH e k b)] : List Ka)) Qa = true from ji (by simp only [jw, j8]; omega)]
   simp only [cond_true]
   rw [hCH _ _ (by show (pM e k b ++ [Gd (pH e k b)]).length ≤ _; simp; omega) (HW _) (fun x hx => by
    rcases jl.1 (show x ∈ pM e k b ++ [Gd (pH e k b)] from hx) with hx | hx
    ·have := mx x hx; omega
    ·rw [qe.1 hx]; exact HW _)]
   rfl
  ·rw [Aa hl]
   exact plain (by unfold pM; rw [h9, Aa hl]; rfl)
theorem Kad {e : Jb} (h : Jx e) {k : Nat} (hk : (k : Int) < e.1.1) (hn : ∀ y ∈ e.2.2.2.1, y.1 ≠ (k : Int)) (b : Bool) :
 Mi e (k : Int) b = some (pE e k b, pR e k b, ()) := by
 have h20 : Ea = 1048576 := rfl
 have hm := Uj h.km
 have F := Uad h hk hn b
 have hz := R4 h
 have hle := Uq h.hd
 have hl := CW hm (Vo e.2.2.1 e.2.2.2.1) k
 have hrow := hm.row _ hl
 have tail := Rab Rk Me Kf (fun r => some (pE e k b, r, ())) SZ Gy UV h F
 unfold Mi
 rw [SE _ (by omega), OX (Jay hm.l2 h.st) _ (by omega) h.hd]
 simp only [jb]
 rw [AW hm _ hk]
 simp only [jb]
 show jz (Xa e.1.2.1 ((Vj e.1 (Vo e.2.2.1 e.2.2.2.1) k : Nat) : Int)) _ = _
 rw [Taj hl (by omega)]
 cases b with
 | true =>
  simp only [cond_true]
  rw [Gad]
  simp only [jb]
  show jz (Mt (e.1, e.2.1, e.2.2.1, e.2.2.2.1, e.2.2.2.2.1, e.2.2.2.2.2.1, ()) (X8 e k true)) _ = _
  rw [SX _ _ _ _ _ _ _ F.act.act]
  simp only [jb]
  exact tail
 | false =>
  simp only [cond_false]
  rw [Yaf]
  simp only [jb]
  show jz (Mt (e.1, e.2.1, e.2.2.1, e.2.2.2.1, e.2.2.2.2.1, e.2.2.2.2.2.1, ()) (X8 e k false)) _ = _
  rw [SX _ _ _ _ _ _ _ F.act.act]
  simp only [jb]
  exact tail
theorem Paa {l : List Sa} {k : Int} : Td (fun h : Sa => h.1 == k) 0 l = -1 ↔ ∀ y ∈ l, y.1 ≠ k := by
 have key : ∀ (l : List Sa) (n : Nat), Td (fun h : Sa => h.1 == k) n l = -1 ↔ ∀ y ∈ l, y.1 ≠ k := by
  intro l
  induction l with
  | nil => intro n; simp [Td]
  | cons x l ih =>
   intro n
   simp only [Td]
   cases hx : x.1 == k with
   | true =>
    simp only [cond_true, jp, forall_eq_or_imp]
    have hx := eq_of_beq hx
    constructor
    ·intro h; omega
    ·intro h; exact absurd hx h.1
   | false =>
    simp only [cond_false, jp, forall_eq_or_imp]
    rw [ih]
    exact ⟨fun h => ⟨beq_eq_false_iff_ne.1 hx, h⟩, fun h => h.2⟩
 exact key l 0
theorem Hae {e : Jb} (h : Jx e) {k : Nat} (hk : (k : Int) < e.1.1) (hn : ∀ y ∈ e.2.2.2.1, y.1 ≠ (k : Int)) (b : Bool) :
 Yl e (k : Int) b = some (pE e k b, pR e k b, true, ()) := by
 have h20 : Ea = 1048576 := rfl
 have hm := Uj h.km
 have hk2 := hm.k2
 have F := Uad h hk hn b
 have hz := R4 h
 have hle := Uq h.hd
 have hv := (Zac e).2 h
 have tail := Rab Tk Xe Fh (fun r => some (pE e k b, r, true, ())) G0 Iz KW h F
 unfold Yl
 rw [VL _ (by omega), hv, EY _ _ (by omega), Paa.2 hn, TH _ (by omega), FY (Jay hm.l2 h.st) _ (by omega) h.hd]
 simp only [jb, jg, cond_false, Oc]
 rw [Je (by omega) (by omega), Ba (show 0 ≤ (k : Int) ∧ (k : Int) ≤ e.1.1 - 1 by omega), Aa (show ¬ ((-1 : Int) ≥ 0) by decide)]
 simp only [jg, cond_false]
 rw [ZU (by have := (Hab h.km).z; omega) h.km _ hk]
 simp only [jb]
 cases b with
 | true =>
  simp only [cond_true]
  rw [Aae]
  simp only [jb]
  show jz (Fn (e.1, e.2.1, e.2.2.1, e.2.2.2.1, e.2.2.2.2.1, e.2.2.2.2.2.1, ()) (X8 e k true)) _ = _
  rw [HY _ _ _ _ _ _ _ F.act.act]
  simp only [jb]
  exact tail
 | false =>
  simp only [cond_false]
  rw [Nag]
  simp only [jb]
  show jz (Fn (e.1, e.2.1, e.2.2.1, e.2.2.2.1, e.2.2.2.2.1, e.2.2.2.2.2.1, ()) (X8 e k false)) _ = _
  rw [HY _ _ _ _ _ _ _ F.act.act]
  simp only [jb]
  exact tail
def wo (l : List Sa) (i : Nat) : List Sa := jf (l.take i) (l.drop (i + 1))
theorem Mac (l : List Sa) (i : Nat) : (wo l i).Sublist l := by
 have h : (l.drop (i + 1)).Sublist (l.drop i) := List.drop_sublist_drop_left l (Nat.le_succ i)
 have h2 := List.Sublist.append (List.Sublist.refl (l.take i)) h
 rw [List.take_append_drop] at h2
 exact h2
def rE (e : Jb) (i : Nat) : Jb := (e.1, e.2.1, e.2.2.1, wo e.2.2.2.1 i, e.2.2.2.2)
def rR (e : Jb) (i : Nat) : List Ka := Tx Dl (Gd e.2.2.2.1) [Gd (wo e.2.2.2.1 i)]
theorem Sa9 {e : Jb} (h : Jx e) (i : Nat) : Jx (rE e i) :=
 ⟨h.km, h.m4, C8 h.hd (Mac _ i), h.mac, fun x hx => h.hin x ((Mac _ i).subset hx), h.st⟩
theorem GaB {α : Type} (l : List α) (i : Nat) : Gb l (jy (0 : Int)) (jy (i : Int)) = l.take i := by
 simp [Gb]
theorem FaB {α : Type} (l : List α) (i : Nat) : Gb l (jy ((i + 1 : Nat) : Int)) (jy ((ja l : Nat) : Int)) = l.drop (i + 1) := by
 simp [Gb]
theorem I8 {e : Jb} (h : Jx e) {k : Int} {i : Nat} (hi : i < e.2.2.2.1.length) (hf : Td (fun h : Sa => h.1 == k) 0 e.2.2.2.1 = (i : Int)) :
 YE e k = some (rE e i, rR e i, ()) := by
 have h20 : Ea = 1048576 := rfl
 have hlim := Rd
 have hz := R4 h
 have hle := Uq h.hd
 have hw := C8 h.hd (Mac e.2.2.2.1 i)
 have hwl := Uq hw
 unfold YE
 rw [SE _ (by omega), Fad _ _ (by omega), hf]
 simp only [jb]
 rw [Kc (by omega)]
 rw [GaB, FaB]
 rw [show Ld (ja e.2.2.2.1) (0 : Int) ((i : Nat) : Int) = true from Bi (lo := 0) (by omega) (by omega), Bi (by omega) (by omega)]
 rw [show jx (ja (e.2.2.2.1.take i) + ja (e.2.2.2.1.drop (i + 1))) Qa = true from ji (by simp; omega)]
 simp only [cond_true]
 rw [Gy _ (by omega) h.hd]
 simp only [jb]
 show jz (Me (wo e.2.2.2.1 i)) _ = _
 rw [Gy _ (by omega) hw]
 simp only [jb]
 rw [UV _ _ (by simp; omega) (HW _) (fun x hx => by rw [qe.1 hx]; exact HW _)]
 rfl
theorem K9 {e : Jb} (h : Jx e) {k : Int} {i : Nat} (hi : i < e.2.2.2.1.length) (hf : Td (fun h : Sa => h.1 == k) 0 e.2.2.2.1 = (i : Int)) :
 TF e k = some (rE e i, rR e i, true, ()) := by
 have h20 : Ea = 1048576 := rfl
 have hlim := Rd
 have hz := R4 h
 have hle := Uq h.hd
 have hw := C8 h.hd (Mac e.2.2.2.1 i)
 have hwl := Uq hw
 have hv := (Zac e).2 h
 have hW : Rg e.2.2.2.1 (i : Int) = some (wo e.2.2.2.1 i, ()) := by
  unfold Rg
  rw [Kc (by omega), GaB, FaB]
  rw [show Ld (ja e.2.2.2.1) (0 : Int) ((i : Nat) : Int) = true from Bi (lo := 0) (by omega) (by omega), Bi (by omega) (by omega)]
  rw [show jx (ja ([] : List Sa) + ja (e.2.2.2.1.take i)) Qa = true from ji (by simp; omega)]
  rw [show jx (ja (jf ([] : List Sa) (e.2.2.2.1.take i)) + ja (e.2.2.2.1.drop (i + 1))) Qa = true from ji (by simp; omega)]
  rfl
 unfold TF
 rw [EY _ _ (by omega), VL _ (by omega), hv, TH _ (by omega), hf]
 simp only [jb, jg, cond_false]
 rw [Aa (show ¬ ((i : Int) < 0) by omega), hW]
 simp only [cond_false, jb]
 rw [Iz _ (by omega) h.hd]
 simp only [jb]
 rw [Iz _ (by omega) hw]
 simp only [jb]
 rw [KW _ _ (by simp; omega) (HW _) (fun x hx => by rw [qe.1 hx]; exact HW _)]
 rfl
def B6 (md key e : Int) (s : Int) (x : Ca) : Int ⊕ (Int × Int) :=
 cond (Vh x) (cond (decide (x.1 ≥ e)) (.inr (2, e)) (cond (x.2.1 == key) (cond x.2.2.1 (.inl s) (.inr (1, x.1)))
  (cond x.2.2.1 (cond (md == 1) (.inr (2, x.1)) (.inl (Pc .i64 s (Ra .i64 1 x.2.1))))
   (cond (md == 2) (cond (Kd s x.2.1 == 1) (.inr (2, x.1)) (.inl s)) (.inl s))))) (.inr (0, 0))
def chR (md key e : Int) (l : List Ca) : Int ⊕ (Int × Int) := Tc (fun _ s x => B6 md key e s x) 0 0 l
def Hm (t : SP) (key at_ : Int) (l : List Ca) (til : Int) : Va :=
 cond (Dm t && decide (0 ≤ at_ ∧ at_ ≤ 1000000)) (match chR t.2.2.1 key (j5 .i64 (at_ + t.1)) l with
  | .inl _ => cond (decide (til ≥ j5 .i64 (at_ + t.1))) (2, j5 .i64 (at_ + t.1), ()) (0, 0, ())
  | .inr r => (r.1, r.2, ())) (0, 0, ())
theorem E8 (t : SP) (key at_ : Int) (l : List Ca) (til : Int) (hn : l.length ≤ Ea) : Zz t key at_ l til = some (Hm t key at_ l til) := by
 have h20 : Ea = 1048576 := rfl
 have hl := Mg (step := fun x => Du x.1.1 x.1.2.1 x.1.2.2.1 x.1.2.2.2.1 x.1.2.2.2.2.1 x.1.2.2.2.2.2.1 x.1.2.2.2.2.2.2.1 x.1.2.2.2.2.2.2.2.1 x.2.1) l
  (fun _ s x => B6 t.2.2.1 key (j5 .i64 (at_ + t.1)) s x) (fun s i => ((key, at_, til, (), s, l, ((ja l : Nat) : Int), i, ()), (t, ())))
  (fun s => .inl ((at_, til, (), ()), (t, ()))) (fun r => .inr ((r.1, r.2, ()), ())) (fun _ _ => True) (by
   intro k hk s _
   refine ⟨?_, fun _ _ => trivial⟩
   simp only [Du]
   rw [Ba (show (k : Int) < ((ja l : Nat) : Int) by omega), Cb hk]
   simp only [cond_true, jb]
   rw [NN]
   unfold B6
   cases he : Vh l[k] with
   | false => rfl
   | true =>
    have hk' := Uk he
    rw [Ba hk'.2.2.1, Ul s hk'.2.2.1]
    simp only [cond_true, jb, jg, cond_false]
    cases decide (l[k].1 ≥ j5 .i64 (at_ + t.1)) <;> cases l[k].2.1 == key <;> cases l[k].2.2.1 <;> cases t.2.2.1 == 1 <;> cases t.2.2.1 == 2 <;> cases Kd s l[k].2.1 == 1 <;> rfl) (by
   intro s _
   simp only [Du]
   rw [Aa (by omega)]; rfl) (by omega) 0 trivial
 unfold Zz Yx Hm
 rw [YS]
 simp only [jb]
 cases Dm t with
 | false => rfl
 | true =>
  by_cases h1 : at_ < 0
  ·rw [Ba h1, Aa (show ¬ (0 ≤ at_ ∧ at_ ≤ 1000000) by omega)]; rfl
  ·by_cases h2 : at_ > 1000000
   ·rw [Aa h1, Ba h2, Aa (show ¬ (0 ≤ at_ ∧ at_ ≤ 1000000) by omega)]; rfl
   ·rw [Aa h1, Aa h2, Ba (show (0 ≤ at_ ∧ at_ ≤ 1000000) by omega)]
    simp only [jg, cond_false]
    erw [hl]
    unfold chR
    cases Tc (fun _ s x => B6 t.2.2.1 key (j5 .i64 (at_ + t.1)) s x) 0 0 l with
    | inl s =>
     simp only [jb, ql]
     cases decide (til ≥ j5 .i64 (at_ + t.1)) <;> rfl
    | inr r => rfl
theorem G9 (t : SP) (key at_ : Int) (l : List Ca) (til : Int) (hn : l.length ≤ Ea) : BL t key at_ l til = some (Hm t key at_ l til) := by
 have h20 : Ea = 1048576 := rfl
 have hl := Mg (step := fun x => Xu x.1.1 x.1.2.1 x.1.2.2.1 x.1.2.2.2.1 x.1.2.2.2.2.1 x.1.2.2.2.2.2.1 x.1.2.2.2.2.2.2.1 x.2.1) l
  (fun _ s x => B6 t.2.2.1 key (j5 .i64 (at_ + t.1)) s x) (fun s i => ((key, l, til, (), j5 .i64 (at_ + t.1), s, i, ()), (t, ())))
  (fun s => .inl ((til, j5 .i64 (at_ + t.1), ()), ())) (fun r => .inr ((r.1, r.2, ()), ())) (fun _ _ => True) (by
   intro k hk s _
   refine ⟨?_, fun _ _ => trivial⟩
   simp only [Xu]
   rw [Ba (show (k : Int) < ((ja l : Nat) : Int) by omega), Cb hk]
   simp only [cond_true, jb]
   rw [YO]
   unfold B6
   cases he : Vh l[k] with
   | false => rfl
   | true =>
    have hk' := Uk he
    rw [Ba hk'.2.2.1]
    simp only [cond_true, jb, jg, cond_false]
    unfold Kd
    cases decide (l[k].1 ≥ j5 .i64 (at_ + t.1)) <;> cases l[k].2.1 == key <;> cases l[k].2.2.1 <;> cases t.2.2.1 == 1 <;> cases t.2.2.1 == 2 <;> cases Wa .i64 (Wb .i64 s l[k].2.1) 1 == 1 <;> rfl) (by
   intro s _
   simp only [Xu]
   rw [Aa (by omega)]; rfl) (by omega) 0 trivial
 unfold BL Az Hm
 rw [BT, Oc]
 simp only [jb]
 cases Dm t with
 | false => rfl
 | true =>
  cases decide (0 ≤ at_ ∧ at_ ≤ 1000000) with
  | false => rfl
  | true =>
   simp only [jg, cond_false]
   erw [hl]
   unfold chR
   cases Tc (fun _ s x => B6 t.2.2.1 key (j5 .i64 (at_ + t.1)) s x) 0 0 l with
   | inl s =>
    simp only [jb, ql]
    cases decide (til ≥ j5 .i64 (at_ + t.1)) <;> rfl
   | inr r => rfl
def IL (l : List Sa) (j : Nat) : Bool := l.any (fun h => h.1 == (j : Int))
structure UT (l : List Sa) (m : Nat) : Prop where
 lt : m < 2 ^ 63
 bit : ∀ j, m.testBit j = IL l j
theorem Sas : ∀ (l : List Sa) (k : Nat) (s : Nat), s < 2 ^ 63 → (∀ x ∈ l, Jv x) →
 ∃ m : Nat, Qd (fun _ s (x : Sa) => Pc .i64 s (Ra .i64 1 x.1)) k (s : Int) l = (m : Int) ∧ m < 2 ^ 63 ∧ ∀ j, m.testBit j = (s.testBit j || IL l j)
 | [], _, s, hs, _ => ⟨s, rfl, hs, fun j => by simp [IL]⟩
 | x :: l, k, s, hs, h => by
  have hx := h x (by simp)
  obtain ⟨n, hn⟩ := jv hx.lo
  have := hx.hi
  simp only [Qd]
  rw [hn, Ml (by omega), Ew hs (Gj (by omega))]
  obtain ⟨m, h1, h2, h3⟩ := Sas l (k + 1) _ (Nat.or_lt_two_pow hs (Gj (show n ≤ 62 by omega))) (fun y hy => h y (by simp [hy]))
  refine ⟨m, h1, h2, fun j => ?_⟩
  rw [h3, Nat.testBit_or, qp]
  simp only [IL, List.any_cons, hn]
  rw [show (((n : Nat) : Int) == ((j : Nat) : Int)) = decide (n = j) by rw [qz]; simp [Int.ofNat_inj]]
  rw [Bool.or_assoc]
theorem TaS {l : List Sa} (h : Rf l = true) : ∃ m : Nat, Uu l = (m : Int) ∧ UT l m := by
 obtain ⟨m, h1, h2, h3⟩ := Sas l 0 0 (by decide) (Mo h)
 exact ⟨m, h1, h2, fun j => by rw [h3]; simp⟩
theorem Aaz {l : List Sa} {m k : Nat} (h : UT l m) (hk : k ≤ 62) (hb : IL l k = false) (a : Db) : UT (jf l [((k : Int), a, ())]) (m ^^^ 2 ^ k) := by
 refine ⟨qs h.lt (Gj hk), fun j => ?_⟩
 rw [qo, qp, h.bit]
 show _ = IL (l ++ [((k : Int), a, ())]) j
 simp only [IL, List.any_append, List.any_cons, List.any_nil, Bool.or_false]
 rw [show (((k : Nat) : Int) == ((j : Nat) : Int)) = decide (k = j) by rw [qz]; simp [Int.ofNat_inj]]
 by_cases hj : k = j
 ·subst hj
  simp only [IL] at hb
  rw [hb, Ba rfl]; rfl
 ·rw [Aa hj]; simp
theorem EaY {l : List Sa} (hp : l.Pairwise (fun x y => x.1 ≠ y.1)) {i : Nat} (hi : i < l.length) (j : Int) : (wo l i).any (fun h => h.1 == j) = (l.any (fun h => h.1 == j) && !(l[i].1 == j)) := by
 rw [qz]
 simp only [List.any_eq_true, jd, Bool.not_eq_true', beq_iff_eq, beq_eq_false_iff_ne, wo]
 rw [List.pairwise_iff_getElem] at hp
 constructor
 ·rintro ⟨x, hx, hj⟩
  rcases jl.1 (show x ∈ l.take i ++ l.drop (i + 1) from hx) with hx | hx
  ·obtain ⟨n, hn, rfl⟩ := qv hx
   rw [List.getElem_take] at hj
   have hn2 : n < i ∧ n < l.length := by rw [List.length_take] at hn; omega
   exact ⟨⟨_, qt hn2.2, hj⟩, fun h => hp n i hn2.2 hi hn2.1 (hj.trans h.symm)⟩
  ·obtain ⟨n, hn, rfl⟩ := qv hx
   rw [List.getElem_drop] at hj
   have hn2 : i + 1 + n < l.length := by rw [qy] at hn; omega
   exact ⟨⟨_, qt hn2, hj⟩, fun h => hp i (i + 1 + n) hi hn2 (by omega) (h.trans hj.symm)⟩
 ·rintro ⟨⟨x, hx, hj⟩, hne⟩
  obtain ⟨n, hn, rfl⟩ := qv hx
  refine ⟨l[n], jl.2 ?_, hj⟩
  rcases Nat.lt_trichotomy n i with h | h | h
  ·exact .inl (List.mem_take_iff_getElem.2 ⟨n, by omega, rfl⟩)
  ·subst h; exact absurd hj hne
  ·exact .inr (List.mem_drop_iff_getElem.2 ⟨n - (i + 1), by omega, by congr 1; omega⟩)
theorem Yak {l : List Sa} (hp : l.Pairwise (fun x y => x.1 ≠ y.1)) {m k i : Nat} (h : UT l m) (hk : k ≤ 62) (hi : i < l.length) (hb : l[i].1 = (k : Int)) : UT (wo l i) (m ^^^ 2 ^ k) := by
 refine ⟨qs h.lt (Gj hk), fun j => ?_⟩
 rw [qo, qp, h.bit]
 simp only [IL]
 rw [EaY hp hi, hb]
 rw [show (((k : Nat) : Int) == ((j : Nat) : Int)) = decide (k = j) by rw [qz]; simp [Int.ofNat_inj]]
 by_cases hj : k = j
 ·subst hj
  rw [Ba rfl]
  have : l.any (fun h => h.1 == (k : Int)) = true := List.any_eq_true.2 ⟨l[i], qt hi, by rw [hb]; simp⟩
  rw [this]; rfl
 ·rw [Aa hj]; simp
theorem K6 {α S R : Type} (g : S → α → S ⊕ R) : ∀ (l : List α) (k j : Nat) (s : S), Tc (fun _ s x => g s x) k s l = Tc (fun _ s x => g s x) j s l
 | [], _, _, _ => rfl
 | x :: l, k, j, s => by
  simp only [Tc]
  cases g s x with
  | inl s' => exact K6 g l (k + 1) (j + 1) s'
  | inr r => rfl
structure VT (d : Ib) : Prop where
 eng : Jx d.1
 len : d.2.2.1.length ≤ 64
 key : ∀ x ∈ d.2.2.1, x.2.1 < d.1.1.1
 fol : ∃ (m : Nat) (t : Int), UT d.1.2.2.2.1 m ∧ Hn (Tc (fun _ s x => Pv s x) 0 (t, (m : Int)) d.2.2.1) = true
def hIx (e : Jb) (k : Int) : Nat := (Td (fun h : Sa => h.1 == k) 0 e.2.2.2.1).toNat
noncomputable def Jn (d : Ib) (x : Ca) (r : List Ca) : Option (Ib × List Ka) :=
 cond (!x.2.2.1)
  (some ((rE d.1 (hIx d.1 x.2.1), d.2.1, r, d.2.2.2.1, max d.2.2.2.2.1 x.1, d.2.2.2.2.2.1, cond (d.2.2.2.2.2.1 == j5 .i64 (x.2.1 + 1)) x.1 d.2.2.2.2.2.2.1, ()), rR d.1 (hIx d.1 x.2.1)))
  (cond (Gg (Rl d.1.1.2.1 (Vj d.1.1 (Vo d.1.2.2.1 d.1.2.2.2.1) x.2.1.toNat) x.2.1.toNat))
   (
    let ch : Int × Int := cond ((d.2.2.2.2.2.1 == j5 .i64 (x.2.1 + 1)) && !decide (j5 .i64 (x.1 - d.2.2.2.2.2.2.1) ≥ d.2.1.2.1)) (1, x.1) ((Hm d.2.1 x.2.1 x.1 r d.2.2.2.1).1, (Hm d.2.1 x.2.1 x.1 r d.2.2.2.1).2.1)
    cond (ch.1 == 0) none
     (some ((pE d.1 x.2.1.toNat (ch.1 == 2), d.2.1, r, d.2.2.2.1, max (max d.2.2.2.2.1 x.1) ch.2, cond (ch.1 == 2) 0 (j5 .i64 (x.2.1 + 1)), cond (ch.1 == 2) d.2.2.2.2.2.2.1 x.1, ()), pR d.1 x.2.1.toNat (ch.1 == 2))))
   (some ((pE d.1 x.2.1.toNat false, d.2.1, r, d.2.2.2.1, max d.2.2.2.2.1 x.1, d.2.2.2.2.2.1, d.2.2.2.2.2.2.1, ()), pR d.1 x.2.1.toNat false)))
structure PaN (d : Ib) (x : Ca) (r : List Ca) : Prop where
 ev : Vh x = true
 key : x.2.1 < d.1.1.1
 up : x.2.2.1 = false → ∃ hi : hIx d.1 x.2.1 < d.1.2.2.2.1.length, Td (fun h : Sa => h.1 == x.2.1) 0 d.1.2.2.2.1 = ((hIx d.1 x.2.1 : Nat) : Int) ∧ (d.1.2.2.2.1[hIx d.1 x.2.1]'hi).1 = x.2.1
 down : x.2.2.1 = true → ∀ y ∈ d.1.2.2.2.1, y.1 ≠ x.2.1
theorem Yae {α : Type} (p : α → Bool) : ∀ (xs : List α) (k j : Nat), j < xs.length → Td p k xs = ((k + j : Nat) : Int) → ∃ h : j < xs.length, p xs[j] = true
 | [], _, _, hj, _ => absurd hj (by simp)
 | x :: xs, k, j, hj, h => by
  simp only [Td] at h
  cases hx : p x with
  | true =>
   rw [hx] at h
   simp only [cond_true] at h
   have : j = 0 := by omega
   subst this
   exact ⟨hj, hx⟩
  | false =>
   rw [hx] at h
   simp only [cond_false] at h
   cases j with
   | zero =>
    rcases Dx p xs (k + 1) with h1 | ⟨i, _, h1⟩ <;> (rw [h1] at h; omega)
   | succ j =>
    have hj' : j < xs.length := by simp at hj; omega
    obtain ⟨_, h2⟩ := Yae p xs (k + 1) j hj' (by rw [h]; omega)
    exact ⟨hj, h2⟩
theorem MZ {d : Ib} {x : Ca} {r : List Ca} (h : VT d) (hq : d.2.2.1 = x :: r) : PaN d x r := by
 obtain ⟨m, t, hm, hf⟩ := h.fol
 rw [hq] at hf
 simp only [Tc, Pv] at hf
 cases ho : Qv (t, (m : Int)) x with
 | false => rw [ho] at hf; exact absurd hf (by simp [Hn])
 | true =>
  simp only [Qv, jd] at ho
  obtain ⟨h1, h2, h3⟩ := ho
  have hk := Uk h1
  obtain ⟨n, hn⟩ := jv hk.2.2.1
  have hn' : x.2.1 = (n : Int) := hn
  rw [hn', Ft hm.lt (by omega), hm.bit] at h3
  refine ⟨h1, h.key x (by rw [hq]; simp), fun hu => ?_, fun hd => ?_⟩
  ·rw [hu] at h3
   have h4 : IL d.1.2.2.2.1 n = true := by
    cases hh : IL d.1.2.2.2.1 n with
    | true => rfl
    | false => rw [hh] at h3; exact absurd h3 (by decide)
   rcases Dx (fun h : Sa => h.1 == x.2.1) d.1.2.2.2.1 0 with h5 | ⟨j, hj, h5⟩
   ·rw [Paa] at h5
    simp only [IL, List.any_eq_true, beq_iff_eq] at h4
    obtain ⟨y, hy, hyk⟩ := h4
    exact absurd (hyk.trans hn'.symm) (h5 y hy)
   ·have e : hIx d.1 x.2.1 = j := by unfold hIx; rw [h5]; omega
    obtain ⟨h6, h7⟩ := Yae _ _ _ _ hj h5
    have h7' := eq_of_beq h7
    refine ⟨by omega, by rw [h5, e]; omega, ?_⟩
    simp only [e]
    exact h7'
  ·rw [hd] at h3
   intro y hy he
   have : IL d.1.2.2.2.1 n = true := List.any_eq_true.2 ⟨y, hy, by rw [he, hn']; simp⟩
   rw [this] at h3
   exact absurd h3 (by decide)
theorem Vad {d d' : Ib} {x : Ca} {r : List Ca} {l : List Ka} (h : VT d) (hq : d.2.2.1 = x :: r) (hs : Jn d x r = some (d', l)) :
 VT d' ∧ d'.2.2.1 = r ∧ l.length ≤ 17 ∧ (∀ y ∈ l, y.2.1.length ≤ 56) := by
 have hF := MZ h hq
 have hk := Uk hF.ev
 obtain ⟨n, hn⟩ := jv hk.2.2.1
 have hn' : x.2.1 = (n : Int) := hn
 obtain ⟨m, t, hm, hf⟩ := h.fol
 have hfol : Hn (Tc (fun _ s x => Pv s x) 0 (x.1, ((m ^^^ 2 ^ n : Nat) : Int)) r) = true := by
  rw [hq] at hf
  simp only [Tc, Pv] at hf
  cases ho : Qv (t, (m : Int)) x with
  | false => rw [ho] at hf; exact absurd hf (by simp [Hn])
  | true =>
   rw [ho] at hf
   simp only [cond_true, hn', Ml (show n ≤ 62 by omega)] at hf
   rw [OL hm.lt (Gj (by omega))] at hf
   rw [K6 Pv r 0 1]
   exact hf
 have hlen : r.length ≤ 64 := by have := h.len; rw [hq] at this; simp at this; omega
 have hkey : ∀ y ∈ r, y.2.1 < d.1.1.1 := fun y hy => h.key y (by rw [hq]; simp [hy])
 have hp := ((QZ d.1.2.2.2.1).1 h.eng.hd).2
 have press : ∀ b : Bool, x.2.2.1 = true → Jx (pE d.1 n b) ∧ UT (pE d.1 n b).2.2.2.1 (m ^^^ 2 ^ n) ∧ (pR d.1 n b).length ≤ 17 ∧ (∀ y ∈ pR d.1 n b, y.2.1.length ≤ 56) := by
  intro b hd
  have hn2 := hF.down hd
  rw [hn'] at hn2
  have F := Uad h.eng (k := n) (by have := hF.key; omega) hn2 b
  refine ⟨F.ok, Aaz hm (by omega) ?_ _, ?_, fun y hy => ?_⟩
  ·cases hh : IL d.1.2.2.2.1 n with
   | false => rfl
   | true =>
    simp only [IL, List.any_eq_true, beq_iff_eq] at hh
    obtain ⟨y, hy, hyk⟩ := hh
    exact absurd hyk (hn2 y hy)
  ·have := Q7 (jf (pM d.1 n b) [Gd (pH d.1 n b)]) (Gd d.1.2.2.2.1)
   have h9 := F.ml
   unfold pR
   have : (jf (pM d.1 n b) [Gd (pH d.1 n b)]).length = (pM d.1 n b).length + 1 := by simp
   omega
  ·have := EZ _ _ _ hy
   rcases jl.1 (show y ∈ pM d.1 n b ++ [Gd (pH d.1 n b)] from this) with h1 | h1
   ·exact F.mx y h1
   ·rw [qe.1 h1]; exact XO _
 unfold Jn at hs
 cases hd : x.2.2.1 with
 | false =>
  rw [hd] at hs
  simp only [qa, cond_true, jc, jh] at hs
  obtain ⟨rfl, rfl⟩ := hs
  obtain ⟨hi, hi1, hi2⟩ := hF.up hd
  refine ⟨⟨Sa9 h.eng _, hlen, hkey, _, _, Yak hp hm (by omega) hi (by rw [hi2, hn']), hfol⟩, rfl, ?_, fun y hy => ?_⟩
  ·have := Q7 [Gd (wo d.1.2.2.2.1 (hIx d.1 x.2.1))] (Gd d.1.2.2.2.1)
   unfold rR
   simp only [jw, j8] at this
   omega
  ·have := EZ _ _ _ hy
   rw [qe.1 this]; exact XO _
 | true =>
  rw [hd] at hs
  simp only [jg, cond_false, hn', jn] at hs
  cases ht : Gg (Rl d.1.1.2.1 (Vj d.1.1 (Vo d.1.2.2.1 d.1.2.2.2.1) n) n) with
  | false =>
   rw [ht] at hs
   simp only [cond_false, jc, jh] at hs
   obtain ⟨rfl, rfl⟩ := hs
   have P := press false hd
   exact ⟨⟨P.1, hlen, hkey, _, _, P.2.1, hfol⟩, rfl, P.2.2⟩
  | true =>
   rw [ht] at hs
   simp only [cond_true] at hs
   revert hs
   generalize (cond ((d.2.2.2.2.2.1 == j5 .i64 ((n : Int) + 1)) && !decide (j5 .i64 (x.1 - d.2.2.2.2.2.2.1) ≥ d.2.1.2.1)) ((1 : Int), x.1) ((Hm d.2.1 (n : Int) x.1 r d.2.2.2.1).1, (Hm d.2.1 (n : Int) x.1 r d.2.2.2.1).2.1)) = ch
   intro hs
   cases h0 : ch.1 == 0 with
   | true => rw [h0] at hs; simp at hs
   | false =>
    rw [h0] at hs
    simp only [cond_false, jc, jh] at hs
    obtain ⟨rfl, rfl⟩ := hs
    have P := press (ch.1 == 2) hd
    exact ⟨⟨P.1, hlen, hkey, _, _, P.2.1, hfol⟩, rfl, P.2.2⟩
theorem D8 {m : Ac} (hz : Ha Dc m ≤ Ea) (hv : Ei m = true) (on : Int) {k : Nat} (hk : (k : Int) < m.1) :
 YJ m on (k : Int) = some (Rl m.2.1 (Vj m on k) k, ()) := by
 have hm := Uj hv
 have hl := CW hm on k
 have hrow := hm.row _ hl
 unfold YJ LU
 rw [KU _ hz, hv, Aa (show ¬ (k : Int) < 0 by omega), Aa (show ¬ (k : Int) ≥ m.1 by omega), AW hm _ hk]
 simp only [jb, jg, cond_false]
 rw [Aa (by omega)]
 simp only [cond_false]
 show (jz (Xa m.2.1 ((Vj m on k : Nat) : Int)) _) = _
 rw [Taj hl (by omega)]
theorem Iaa (t : SP) (key at_ : Int) (l : List Ca) (til : Int) : (Hm t key at_ l til).1 = 0 ∨ (Hm t key at_ l til).1 = 1 ∨ (Hm t key at_ l til).1 = 2 := by
 have key2 : ∀ (md k' e : Int) (l : List Ca) (k : Nat) (s : Int) (r : Int × Int), Tc (fun _ s x => B6 md k' e s x) k s l = .inr r → r.1 = 0 ∨ r.1 = 1 ∨ r.1 = 2 := by
  intro md k' e l
  induction l with
  | nil => intro k s r h; simp [Tc] at h
  | cons x l ih =>
   intro k s r h
   simp only [Tc] at h
   revert h
   cases hg : B6 md k' e s x with
   | inl s' => intro h; exact ih _ _ _ h
   | inr r' =>
    intro h
    simp only [Sum.inr.injEq] at h
    subst h
    unfold B6 at hg
    revert hg
    cases Vh x <;> cases decide (x.1 ≥ e) <;> cases x.2.1 == k' <;> cases x.2.2.1 <;> cases md == 1 <;> cases md == 2 <;> cases Kd s x.2.1 == 1 <;> (intro hg; cases hg) <;> simp
 unfold Hm
 cases Dm t && decide (0 ≤ at_ ∧ at_ ≤ 1000000) with
 | false => exact .inl rfl
 | true =>
  simp only [cond_true]
  cases h : chR t.2.2.1 key (j5 .i64 (at_ + t.1)) l with
  | inl s => cases decide (til ≥ j5 .i64 (at_ + t.1)) <;> simp
  | inr r => exact key2 _ _ _ _ _ _ _ h
theorem CU {α : Type} (x : α) (r : List α) (hr : r.length ≤ 64) : Ld (ja (x :: r)) (1 : Int) ((ja (x :: r) : Nat) : Int) = true ∧ Gb (x :: r) (jy (1 : Int)) (jy ((ja (x :: r) : Nat) : Int)) = r := by
 refine ⟨Bi (lo := 1) (by simp) (by simp), ?_⟩
 show List.drop 1 (List.take _ (x :: r)) = r
 rw [jn, List.take_length]; rfl
def CaT (d : Ib) : Option (Ib × List Ka) → Ib × ((List Ka) × (Bool × Unit))
 | none => (d, ([], false, ()))
 | some (d', l) => (d', (l, true, ()))
theorem Zaa {d : Ib} {x : Ca} {r : List Ca} (h : VT d) (hq : d.2.2.1 = x :: r) : Ki d = some (CaT d (Jn d x r)) := by
 have h20 : Ea = 1048576 := rfl
 have hF := MZ h hq
 have hk := Uk hF.ev
 have hlen : r.length ≤ 64 := by have := h.len; rw [hq] at this; simp at this; omega
 have hz := R4 h.eng
 have hzm := (Hab h.eng.km).z
 have hle := Uq h.eng.hd
 obtain ⟨n, hn⟩ := jv hk.2.2.1
 have hn' : x.2.1 = (n : Int) := hn
 obtain ⟨e, t, q, now, clk, tp, ta, u⟩ := d
 obtain ⟨xt, xk, xd, xu⟩ := x
 cases u
 simp only at hq hn' hF hz hzm hle hk
 subst hq
 subst hn'
 have hc := CU ((xt, (n : Int), xd, xu) : Ca) r hlen
 have hb : jx (ja ([] : List Ca) + ja r) Qa = true := ji (by simp; rw [Rd]; omega)
 have i0 : Af (ja (((xt, (n : Int), xd, xu) : Ca) :: r)) (0 : Int) = true := by rw [show (0 : Int) = ((0 : Nat) : Int) from rfl, Ag]; exact Ba (by simp)
 have g0 : (((xt, (n : Int), xd, xu) : Ca) :: r)[(jy (0 : Int))]? = some (xt, (n : Int), xd, xu) := rfl
 unfold Ki
 simp only [i0, g0, hc.1, hc.2, hb, cond_true, jb]
 unfold Jn
 cases xd with
 | false =>
  obtain ⟨hi, hi1, hi2⟩ := hF.up rfl
  rw [I8 h.eng hi hi1]
  simp only [qa, cond_true, jb]
  cases tp == j5 .i64 ((n : Int) + 1) <;> rfl
 | true =>
  have hd := hF.down rfl
  have hkey := hF.key
  have hp := fun b => Kad h.eng (k := n) hkey hd b
  simp only at hp hkey hd
  have hly := OX (Jay (Uj h.eng.km).l2 h.eng.st) _ (show e.2.2.2.1.length ≤ Ea by omega) h.eng.hd
  simp only at hly
  rw [hly]
  have hch := E8 t (n : Int) xt r now (by omega)
  have hac := D8 (m := e.1) (by omega) h.eng.km (Vo e.2.2.1 e.2.2.2.1) hkey
  simp only [jb, jg, cond_false, jn, hac, DI, hch, hp]
  cases Gg (Rl e.1.2.1 (Vj e.1 (Vo e.2.2.1 e.2.2.2.1) n) n) with
  | false => rfl
  | true =>
   simp only [cond_true]
   have hv := Iaa t (n : Int) xt r now
   have hne : (tp != j5 .i64 ((n : Int) + 1)) = !(tp == j5 .i64 ((n : Int) + 1)) := rfl
   rw [hne]
   cases tp == j5 .i64 ((n : Int) + 1) with
   | false =>
    simp only [qa, cond_true, qq, cond_false]
    rcases hv with hv | hv | hv <;> (rw [hv]; rfl)
   | true =>
    simp only [jg, cond_false, jk]
    cases decide (j5 .i64 (xt - ta) ≥ t.2.1) with
    | true =>
     simp only [jg, cond_true, cond_false]
     rcases hv with hv | hv | hv <;> (rw [hv]; rfl)
    | false => rfl
theorem T3 {d : Ib} {x : Ca} {r : List Ca} (h : VT d) (hq : d.2.2.1 = x :: r) (hd : x.2.2.1 = true) :
 Uw d x (max d.2.2.2.2.1 x.1) = some (match Jn d x r with
  | none => (d, ([], max d.2.2.2.2.1 x.1, false, ()))
  | some (d', l) => ((d'.1, d.2.1, d.2.2.1, d.2.2.2.1, d.2.2.2.2.1, d'.2.2.2.2.2.1, d'.2.2.2.2.2.2.1, ()), (l, d'.2.2.2.2.1, true, ()))) := by
 have h20 : Ea = 1048576 := rfl
 have hF := MZ h hq
 have hk := Uk hF.ev
 have hlen : r.length ≤ 64 := by have := h.len; rw [hq] at this; simp at this; omega
 have hz := R4 h.eng
 have hzm := (Hab h.eng.km).z
 have hle := Uq h.eng.hd
 obtain ⟨n, hn⟩ := jv hk.2.2.1
 have hn' : x.2.1 = (n : Int) := hn
 obtain ⟨e, t, q, now, clk, tp, ta, u⟩ := d
 obtain ⟨xt, xk, xd, xu⟩ := x
 cases u
 simp only at hq hn' hF hz hzm hle hk hd
 subst hq
 subst hn'
 subst hd
 have hc := CU ((xt, (n : Int), true, xu) : Ca) r hlen
 have hdn := hF.down rfl
 have hkey := hF.key
 have hp := fun b => Hae h.eng (k := n) hkey hdn b
 simp only at hp hkey hdn
 have hly := FY (Jay (Uj h.eng.km).l2 h.eng.st) _ (show e.2.2.2.1.length ≤ Ea by omega) h.eng.hd
 simp only at hly
 unfold Uw
 simp only [hc.1, hc.2]
 unfold Jn
 rw [hly]
 have hch := G9 t (n : Int) xt r now (by omega)
 have hac := ZU (m := e.1) (by omega) h.eng.km (Vo e.2.2.1 e.2.2.2.1) hkey
 simp only [jb, jg, cond_false, jn, hac, Dv, hch, hp]
 cases Gg (Rl e.1.2.1 (Vj e.1 (Vo e.2.2.1 e.2.2.2.1) n) n) with
 | false => rfl
 | true =>
  simp only [cond_true]
  have hv := Iaa t (n : Int) xt r now
  have hlt : decide (j5 .i64 (xt - ta) < t.2.1) = !decide (j5 .i64 (xt - ta) ≥ t.2.1) := by
   rw [qz]; simp only [decide_eq_true_eq, Bool.not_eq_true', decide_eq_false_iff_not]; omega
  rw [hlt]
  cases tp == j5 .i64 ((n : Int) + 1) with
  | false =>
   simp only [qq, cond_false]
   rcases hv with hv | hv | hv <;> (rw [hv]; rfl)
  | true =>
   simp only [cond_true, jk]
   cases decide (j5 .i64 (xt - ta) ≥ t.2.1) with
   | true =>
    simp only [jg, cond_true, cond_false]
    rcases hv with hv | hv | hv <;> (rw [hv]; rfl)
   | false => rfl
end KF
