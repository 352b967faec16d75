/- An evaluator of Go functions on plain data, its soundness, and plain laws on what the functions compute, part 5 (conditions: as each lemma tells). -/
import Derived.Test.YtoncbegnhhcgmaaGreatD
set_option linter.unusedSimpArgs false
set_option linter.unusedVariables false
namespace KF
open Go
open List renaming length → ja, getElem?_eq_getElem → je, append → jf, mem_append → jl, mem_cons → jp, mem_cons_of_mem → jr, length_cons → jw, set → j6, length_nil → j8, length_set → j9, mem_singleton → qe, length_append → qf, getElem?_append_left → qh, getElem?_append_right → qi, getD_eq_getElem?_getD → qj, getElem_mem → qs, mem_of_mem_drop → qt, getElem_of_mem → qu, mem_map → qv, getElem?_set_self → qw, length_drop → qx, mem_cons_self → qz
open Option renaming bind_some → jb, bind → jz, map_some → qd, bind_eq_some_iff → qg
open Option.some renaming injEq → jc
open Bool renaming and_eq_true → jd, not_true → jg, true_and → jk, false_eq_true → jq, not_false → qa, not_eq_true → qb, false_and → qq, eq_iff_iff → qy
open Prod.mk renaming injEq → jh
open Nat renaming ble_eq_true_of_le → ji, mul_le_mul_right → jm, le_refl → jo, zero_add → js, add_assoc → jt, eq_of_beq_eq_true → ju, ble → jx, le_trans → qc, shiftLeft_eq → qk, lt_of_lt_of_le → qm, pow_le_pow_right → qn, testBit_xor → qo, testBit_two_pow → qp, xor_lt_two_pow → qr
open Int renaming toNat_natCast → jn, eq_ofNat_of_zero_le → jv, toNat → jy
open Go.IntKind renaming wrap → j5
open Sum renaming elim → j7, elim_inl → ql
open Result renaming andThen_ok → q0
open Sem renaming run_bind → q5
theorem Paa (a : (List Int)) (hz : Ha (.sl Uh) a ≤ Ea) : Xl a = some (a, ()) := by
 have h20 : Ea = 1048576 := rfl
 have hz' : ja a + (List.map (Ha Uh) a).sum ≤ Ea := hz
 have hl := D0 (step := fun x : (((List Int) × ((List Int) × (Int × Unit))) × Unit) => Wx x.1.1 x.1.2.1 x.1.2.2.1) a (zT Uh) (fun o i => ((a, o, i, ()), ())) (fun o => .inl ((o, ()), ())) (by
  intro k hk o ho
  simp only [Wx]
  rw [Ba (show (k : Int) < (ja a : Int) by omega), Jb hk]
  simp only [cond_true, jb]
  rw [Fg, Ba (show k < ja o by omega)]
  simp [je (show k < ja o by omega)]) (by
  intro o
  simp [Wx]) (by omega)
 unfold Xl UA
 rw [Tab (by rw [Ud]; omega)]
 simp only [cond_true]
 rw [show jy ((ja a : Nat) : Int) = ja a by simp]
 erw [hl]
 rfl
theorem T8 (a : (List Int)) (hz : Ha (.sl Uh) a ≤ Qc) : CE a a = some (true, ()) := by
 have h40 : Qc = 1099511627776 := rfl
 have hz' : ja a + (List.map (Ha Uh) a).sum ≤ Qc := hz
 have hl := Mw (step := fun x : (((List Int) × ((List Int) × (Int × Unit))) × Unit) => Rx x.1.1 x.1.2.1 x.1.2.2.1) (fun k => ((a, a, (k : Int), ()), ())) (ja a) (.inl ((), ())) (by
  intro k hk
  simp only [Rx]
  rw [Ba (show (k : Int) < (ja a : Int) by omega), Jb hk]
  simp only [cond_true, jb]
  rw [bne_self_eq_false']
  simp only [cond_false]
  rw [Jc (by omega)]) (by
  simp [Rx])
 unfold CE TA
 rw [bne_self_eq_false']
 simp only [cond_false]
 erw [hl]
 rfl
theorem XaB (a : (List Int)) (hr : Jj (.sl int) a) (l : Nat) (hl : l ≤ Ea) : CQ a (l : Int) = some (HF (Ha (.sl int) a) l, ()) := C2 (e := int) (F := CQ) a hr l hl rfl rfl
theorem BaC (a : (List Int)) (hz : Ha (.sl int) a ≤ Ea) : DQ a = some (a, ()) := by
 have h20 : Ea = 1048576 := rfl
 have hz' : ja a + (List.map (Ha int) a).sum ≤ Ea := hz
 have hl := D0 (step := fun x : (((List Int) × ((List Int) × (Int × Unit))) × Unit) => IC x.1.1 x.1.2.1 x.1.2.2.1) a (zT int) (fun o i => ((a, o, i, ()), ())) (fun o => .inl ((o, ()), ())) (by
  intro k hk o ho
  simp only [IC]
  rw [Ba (show (k : Int) < (ja a : Int) by omega), Jb hk]
  simp only [cond_true, jb]
  rw [Fg, Ba (show k < ja o by omega)]
  simp [je (show k < ja o by omega)]) (by
  intro o
  simp [IC]) (by omega)
 unfold DQ ME
 rw [Tab (by rw [Ud]; omega)]
 simp only [cond_true]
 rw [show jy ((ja a : Nat) : Int) = ja a by simp]
 erw [hl]
 rfl
theorem Bad (a : (List Int)) (hz : Ha (.sl int) a ≤ Qc) : FI a a = some (true, ()) := by
 have h40 : Qc = 1099511627776 := rfl
 have hz' : ja a + (List.map (Ha int) a).sum ≤ Qc := hz
 have hl := Mw (step := fun x : (((List Int) × ((List Int) × (Int × Unit))) × Unit) => WB x.1.1 x.1.2.1 x.1.2.2.1) (fun k => ((a, a, (k : Int), ()), ())) (ja a) (.inl ((), ())) (by
  intro k hk
  simp only [WB]
  rw [Ba (show (k : Int) < (ja a : Int) by omega), Jb hk]
  simp only [cond_true, jb]
  rw [bne_self_eq_false']
  simp only [cond_false]
  rw [Jc (by omega)]) (by
  simp [WB])
 unfold FI FE
 rw [bne_self_eq_false']
 simp only [cond_false]
 erw [hl]
 rfl
theorem Qak (a : Ka) (hz : Ha Ec a ≤ Qc) : LJ a a = some (true, ()) := by
 unfold LJ
 have hs : Ha Ec a = Ha (.sl int) a.2.1 := by simp only [Ha, Nat.add_zero, js, jt]
 simp only [bne_self_eq_false', cond_false, jg, jb, Bad a.2.1 (by omega)]
theorem Naz (a : Lf) (hz : Ha Wj a ≤ Qc) : GI a a = some (true, ()) := by
 unfold GI
 have hs : Ha Wj a = Ha Ec a.2.1 := by simp only [Ha, Nat.add_zero, js, jt]
 simp only [bne_self_eq_false', cond_false, jg, jb, Qak a.2.1 (by omega)]
theorem Haw (a : (List Lf)) (hz : Ha (.sl Wj) a ≤ Qc) : Uv a a = some (true, ()) := U8 (e := Wj) (f := GI) (F := Uv) a hz Naz rfl
theorem Xaj (a : (List Cb)) (hr : Jj (.sl Wb) a) (l : Nat) (hl : l ≤ Ea) : Vv a (l : Int) = some (HF (Ha (.sl Wb) a) l, ()) := C2 (e := Wb) (F := Vv) a hr l hl rfl rfl
theorem Xae (a : (List (List Cb))) (hr : Jj (.sl (.sl Wb)) a) (l : Nat) (hl : l ≤ Ea) : EC a (l : Int) = some (HF (Ha (.sl (.sl Wb)) a) l, ()) := szS (e := (.sl Wb)) (f := Vv) (F := EC) a hr l hl Xaj rfl
theorem Ial (a : Xb) (hr : Jj Bc a) (l : Nat) (hl : l ≤ Ea) : TJ a (l : Int) = some (HF (Ha Bc a) l, ()) := by
 unfold TJ
 have hs : Ha Bc a = Ha (.sl (.sl Wb)) a.2.1 := by simp only [Ha, Nat.add_zero, js, jt]
 rw [Xae a.2.1 hr.2.1 (l) (by omega)]
 simp only [jb]
 by_cases h0 : Ha (.sl (.sl Wb)) a.2.1 ≤ l
 case neg => rw [Gf h0, Gf (by omega)]; rfl
 rw [Tg h0, Aa (by omega)]
 simp only [cond_false]
 rw [Tg (by omega), hs]
 try simp only [Nat.sub_sub, jt]
theorem C5 (a : Cb) (hz : Ha Wb a ≤ Ea) : Oq a = some (a, ()) := by
 unfold Oq
 rfl
theorem Dak (a : (List Cb)) (hz : Ha (.sl Wb) a ≤ Ea) : HG a = some (a, ()) := toS (e := Wb) _ _ (f := Oq) a hz C5 rfl
theorem Aaf (a : (List (List Cb))) (hz : Ha (.sl (.sl Wb)) a ≤ Ea) : CN a = some (a, ()) := toS (e := (.sl Wb)) _ _ (f := HG) a hz Dak rfl
theorem Oal (a : Xb) (hz : Ha Bc a ≤ Ea) : XJ a = some (a, ()) := by
 unfold XJ
 have hs : Ha Bc a = Ha (.sl (.sl Wb)) a.2.1 := by simp only [Ha, Nat.add_zero, js, jt]
 rw [Aaf a.2.1 (by omega)]
 simp only [jb]
theorem H4 (a : Cb) (hz : Ha Wb a ≤ Qc) : Nq a a = some (true, ()) := by
 unfold Nq
 have hs : Ha Wb a = 0 := by simp only [Ha, Nat.add_zero, js, jt]
 simp only [bne_self_eq_false', cond_false, jg, jb]
theorem Qah (a : (List Cb)) (hz : Ha (.sl Wb) a ≤ Qc) : Tv a a = some (true, ()) := U8 (e := Wb) (f := Nq) (F := Tv) a hz H4 rfl
theorem Xad (a : (List (List Cb))) (hz : Ha (.sl (.sl Wb)) a ≤ Qc) : UB a a = some (true, ()) := U8 (e := (.sl Wb)) (f := Tv) (F := UB) a hz Qah rfl
theorem Oak (a : Xb) (hz : Ha Bc a ≤ Qc) : JJ a a = some (true, ()) := by
 unfold JJ
 have hs : Ha Bc a = Ha (.sl (.sl Wb)) a.2.1 := by simp only [Ha, Nat.add_zero, js, jt]
 simp only [bne_self_eq_false', cond_false, jg, jb, Xad a.2.1 (by omega)]
theorem Pal (a : Ca) (hz : Ha Bb a ≤ Ea) : YJ a = some (a, ()) := by
 unfold YJ
 rfl
theorem Sak (a : Zc) (hz : Ha Kc a ≤ Qc) : NJ a a = some (true, ()) := by
 unfold NJ
 have hs : Ha Kc a = 0 := by simp only [Ha, Nat.add_zero, js, jt]
 simp only [bne_self_eq_false', cond_false, jg, jb]
theorem Uax (a : (List Int)) (hr : Jj (.sl Uh) a) (l : Nat) (hl : l ≤ Ea) : ZM a (l : Int) = some (HF (Ha (.sl Uh) a) l, ()) := C2 (e := Uh) (F := ZM) a hr l hl rfl rfl
theorem Ral (a : Zc) (hz : Ha Kc a ≤ Ea) : ZJ a = some (a, ()) := by
 unfold ZJ
 rfl
theorem Faw (a : Ca) (hz : Ha Bb a ≤ Qc) : EE a a = some (true, ()) := by
 unfold EE
 have hs : Ha Bb a = 0 := by simp only [Ha, Nat.add_zero, js, jt]
 simp only [bne_self_eq_false', cond_false, jg, jb]
theorem I4 (a : (List Ca)) (hz : Ha (.sl Bb) a ≤ Qc) : Mz a a = some (true, ()) := U8 (e := Bb) (f := EE) (F := Mz) a hz Faw rfl
theorem Pac (a : Qb) (hr : Jj Nb a) (l : Nat) (hl : l ≤ Ea) : Vx a (l : Int) = some (HF (Ha Nb a) l, ()) := by
 unfold Vx
 have hs : Ha Nb a = Ha (.sl int) a.2.2.2.2.2.1 := by simp only [Ha, Nat.add_zero, js, jt]
 rw [XaB a.2.2.2.2.2.1 hr.2.2.2.2.2.1 (l) (by omega)]
 simp only [jb]
 by_cases h0 : Ha (.sl int) a.2.2.2.2.2.1 ≤ l
 case neg => rw [Gf h0, Gf (by omega)]; rfl
 rw [Tg h0, Aa (by omega)]
 simp only [cond_false]
 rw [Tg (by omega), hs]
 try simp only [Nat.sub_sub, jt]
theorem Fal (a : (List Wa)) (hr : Jj (.sl Zb) a) (l : Nat) (hl : l ≤ Ea) : QJ a (l : Int) = some (HF (Ha (.sl Zb) a) l, ()) := C2 (e := Zb) (F := QJ) a hr l hl rfl rfl
theorem B5 (a : (List Ca)) (hr : Jj (.sl Bb) a) (l : Nat) (hl : l ≤ Ea) : Nz a (l : Int) = some (HF (Ha (.sl Bb) a) l, ()) := C2 (e := Bb) (F := Nz) a hr l hl rfl rfl
theorem Yaj (a : (List Ca)) (hr : Jj (.sl Bb) a) (l : Nat) (hl : l ≤ Ea) : FG a (l : Int) = some (HF (Ha (.sl Bb) a) l, ()) := C2 (e := Bb) (F := FG) a hr l hl rfl rfl
theorem Yae (a : Pa) (hr : Jj Pb a) (l : Nat) (hl : l ≤ Ea) : FC a (l : Int) = some (HF (Ha Pb a) l, ()) := by
 unfold FC
 have hs : Ha Pb a = Ha (.sl Zb) a.1 + (Ha (.sl Bb) a.2.2.1 + (Ha (.sl Bb) a.2.2.2.2.2.2.1)) := by simp only [Ha, Nat.add_zero, js, jt]
 rw [Fal a.1 hr.1 (l) (by omega)]
 simp only [jb]
 by_cases h0 : Ha (.sl Zb) a.1 ≤ l
 case neg => rw [Gf h0, Gf (by omega)]; rfl
 rw [Tg h0, Aa (by omega)]
 simp only [cond_false]
 rw [B5 a.2.2.1 hr.2.2.1 (l - Ha (.sl Zb) a.1) (by omega)]
 simp only [jb]
 by_cases h1 : Ha (.sl Bb) a.2.2.1 ≤ l - Ha (.sl Zb) a.1
 case neg => rw [Gf h1, Gf (by omega)]; rfl
 rw [Tg h1, Aa (by omega)]
 simp only [cond_false]
 rw [Yaj a.2.2.2.2.2.2.1 hr.2.2.2.2.2.2.1 (l - Ha (.sl Zb) a.1 - Ha (.sl Bb) a.2.2.1) (by omega)]
 simp only [jb]
 by_cases h2 : Ha (.sl Bb) a.2.2.2.2.2.2.1 ≤ l - Ha (.sl Zb) a.1 - Ha (.sl Bb) a.2.2.1
 case neg => rw [Gf h2, Gf (by omega)]; rfl
 rw [Tg h2, Aa (by omega)]
 simp only [cond_false]
 rw [Tg (by omega), hs]
 try simp only [Nat.sub_sub, jt]
theorem Xax (a : (List Zc)) (hr : Jj (.sl Kc) a) (l : Nat) (hl : l ≤ Ea) : JE a (l : Int) = some (HF (Ha (.sl Kc) a) l, ()) := C2 (e := Kc) (F := JE) a hr l hl rfl rfl
theorem Jal (a : (List (List Zc))) (hr : Jj (.sl (.sl Kc)) a) (l : Nat) (hl : l ≤ Ea) : UJ a (l : Int) = some (HF (Ha (.sl (.sl Kc)) a) l, ()) := szS (e := (.sl Kc)) (f := JE) (F := UJ) a hr l hl Xax rfl
theorem Vax (a : (List Ra)) (hr : Jj (.sl Of) a) (l : Nat) (hl : l ≤ Ea) : AN a (l : Int) = some (HF (Ha (.sl Of) a) l, ()) := C2 (e := Of) (F := AN) a hr l hl rfl rfl
theorem Gal (a : Hb) (hr : Jj Dc a) (l : Nat) (hl : l ≤ Ea) : RJ a (l : Int) = some (HF (Ha Dc a) l, ()) := by
 unfold RJ
 have hs : Ha Dc a = Ha Bc a.1 + (Ha (.sl (.sl Kc)) a.2.1 + (Ha (.sl Of) a.2.2.2.1)) := by simp only [Ha, Nat.add_zero, js, jt]
 rw [Ial a.1 hr.1 (l) (by omega)]
 simp only [jb]
 by_cases h0 : Ha Bc a.1 ≤ l
 case neg => rw [Gf h0, Gf (by omega)]; rfl
 rw [Tg h0, Aa (by omega)]
 simp only [cond_false]
 rw [Jal a.2.1 hr.2.1 (l - Ha Bc a.1) (by omega)]
 simp only [jb]
 by_cases h1 : Ha (.sl (.sl Kc)) a.2.1 ≤ l - Ha Bc a.1
 case neg => rw [Gf h1, Gf (by omega)]; rfl
 rw [Tg h1, Aa (by omega)]
 simp only [cond_false]
 rw [Vax a.2.2.2.1 hr.2.2.2.1 (l - Ha Bc a.1 - Ha (.sl (.sl Kc)) a.2.1) (by omega)]
 simp only [jb]
 by_cases h2 : Ha (.sl Of) a.2.2.2.1 ≤ l - Ha Bc a.1 - Ha (.sl (.sl Kc)) a.2.1
 case neg => rw [Gf h2, Gf (by omega)]; rfl
 rw [Tg h2, Aa (by omega)]
 simp only [cond_false]
 rw [Tg (by omega), hs]
 try simp only [Nat.sub_sub, jt]
theorem Zaj (a : Gb) (hr : Jj Hc a) (l : Nat) (hl : l ≤ Ea) : GG a (l : Int) = some (HF (Ha Hc a) l, ()) := by
 unfold GG
 have hs : Ha Hc a = Ha Dc a.1 + (Ha (.sl Bb) a.2.2.1) := by simp only [Ha, Nat.add_zero, js, jt]
 rw [Gal a.1 hr.1 (l) (by omega)]
 simp only [jb]
 by_cases h0 : Ha Dc a.1 ≤ l
 case neg => rw [Gf h0, Gf (by omega)]; rfl
 rw [Tg h0, Aa (by omega)]
 simp only [cond_false]
 rw [B5 a.2.2.1 hr.2.2.1 (l - Ha Dc a.1) (by omega)]
 simp only [jb]
 by_cases h1 : Ha (.sl Bb) a.2.2.1 ≤ l - Ha Dc a.1
 case neg => rw [Gf h1, Gf (by omega)]; rfl
 rw [Tg h1, Aa (by omega)]
 simp only [cond_false]
 rw [Tg (by omega), hs]
 try simp only [Nat.sub_sub, jt]
theorem Tax (a : Jd) (hr : Jj Ed a) (l : Nat) (hl : l ≤ Ea) : YM a (l : Int) = some (HF (Ha Ed a) l, ()) := by
 unfold YM
 have hs : Ha Ed a = Ha Nb a.2.1 + (Ha Pb a.2.2.1 + (Ha Hc a.2.2.2.1)) := by simp only [Ha, Nat.add_zero, js, jt]
 rw [Pac a.2.1 hr.2.1 (l) (by omega)]
 simp only [jb]
 by_cases h0 : Ha Nb a.2.1 ≤ l
 case neg => rw [Gf h0, Gf (by omega)]; rfl
 rw [Tg h0, Aa (by omega)]
 simp only [cond_false]
 rw [Yae a.2.2.1 hr.2.2.1 (l - Ha Nb a.2.1) (by omega)]
 simp only [jb]
 by_cases h1 : Ha Pb a.2.2.1 ≤ l - Ha Nb a.2.1
 case neg => rw [Gf h1, Gf (by omega)]; rfl
 rw [Tg h1, Aa (by omega)]
 simp only [cond_false]
 rw [Zaj a.2.2.2.1 hr.2.2.2.1 (l - Ha Nb a.2.1 - Ha Pb a.2.2.1) (by omega)]
 simp only [jb]
 by_cases h2 : Ha Hc a.2.2.2.1 ≤ l - Ha Nb a.2.1 - Ha Pb a.2.2.1
 case neg => rw [Gf h2, Gf (by omega)]; rfl
 rw [Tg h2, Aa (by omega)]
 simp only [cond_false]
 rw [Tg (by omega), hs]
 try simp only [Nat.sub_sub, jt]
theorem Zae (a : Rb) (hr : Jj Tc a) (l : Nat) (hl : l ≤ Ea) : GC a (l : Int) = some (HF (Ha Tc a) l, ()) := by
 unfold GC
 have hs : Ha Tc a = Ha (.sl Uh) a.1 := by simp only [Ha, Nat.add_zero, js, jt]
 rw [Uax a.1 hr.1 (l) (by omega)]
 simp only [jb]
 by_cases h0 : Ha (.sl Uh) a.1 ≤ l
 case neg => rw [Gf h0, Gf (by omega)]; rfl
 rw [Tg h0, Aa (by omega)]
 simp only [cond_false]
 rw [Tg (by omega), hs]
 try simp only [Nat.sub_sub, jt]
theorem Hal (a : Gd) (hr : Jj Fe a) (l : Nat) (hl : l ≤ Ea) : SJ a (l : Int) = some (HF (Ha Fe a) l, ()) := by
 unfold SJ
 have hs : Ha Fe a = Ha Ed a.1 + (Ha Tc a.2.1) := by simp only [Ha, Nat.add_zero, js, jt]
 rw [Tax a.1 hr.1 (l) (by omega)]
 simp only [jb]
 by_cases h0 : Ha Ed a.1 ≤ l
 case neg => rw [Gf h0, Gf (by omega)]; rfl
 rw [Tg h0, Aa (by omega)]
 simp only [cond_false]
 rw [Zae a.2.1 hr.2.1 (l - Ha Ed a.1) (by omega)]
 simp only [jb]
 by_cases h1 : Ha Tc a.2.1 ≤ l - Ha Ed a.1
 case neg => rw [Gf h1, Gf (by omega)]; rfl
 rw [Tg h1, Aa (by omega)]
 simp only [cond_false]
 rw [Tg (by omega), hs]
 try simp only [Nat.sub_sub, jt]
theorem Rac (a : Qb) (hz : Ha Nb a ≤ Ea) : Xx a = some (a, ()) := by
 unfold Xx
 have hs : Ha Nb a = Ha (.sl int) a.2.2.2.2.2.1 := by simp only [Ha, Nat.add_zero, js, jt]
 rw [BaC a.2.2.2.2.2.1 (by omega)]
 simp only [jb]
theorem Aay (a : Wa) (hz : Ha Zb a ≤ Ea) : KE a = some (a, ()) := by
 unfold KE
 rfl
theorem Lal (a : (List Wa)) (hz : Ha (.sl Zb) a ≤ Ea) : KR a = some (a, ()) := toS (e := Zb) _ _ (f := KE) a hz Aay rfl
theorem Bay (a : Ca) (hz : Ha Bb a ≤ Ea) : LE a = some (a, ()) := by
 unfold LE
 rfl
theorem D5 (a : (List Ca)) (hz : Ha (.sl Bb) a ≤ Ea) : WJ a = some (a, ()) := toS (e := Bb) _ _ (f := LE) a hz Bay rfl
theorem Kal (a : Ca) (hz : Ha Bb a ≤ Ea) : Oz a = some (a, ()) := by
 unfold Oz
 rfl
theorem Eak (a : (List Ca)) (hz : Ha (.sl Bb) a ≤ Ea) : EP a = some (a, ()) := toS (e := Bb) _ _ (f := Oz) a hz Kal rfl
theorem Baf (a : Pa) (hz : Ha Pb a ≤ Ea) : HC a = some (a, ()) := by
 unfold HC
 have hs : Ha Pb a = Ha (.sl Zb) a.1 + (Ha (.sl Bb) a.2.2.1 + (Ha (.sl Bb) a.2.2.2.2.2.2.1)) := by simp only [Ha, Nat.add_zero, js, jt]
 rw [Lal a.1 (by omega)]
 simp only [jb]
 rw [D5 a.2.2.1 (by omega)]
 simp only [jb]
 rw [Eak a.2.2.2.2.2.2.1 (by omega)]
 simp only [jb]
theorem CaC (a : Zc) (hz : Ha Kc a ≤ Ea) : SI a = some (a, ()) := by
 unfold SI
 rfl
theorem Day (a : (List Zc)) (hz : Ha (.sl Kc) a ≤ Ea) : GN a = some (a, ()) := toS (e := Kc) _ _ (f := SI) a hz CaC rfl
theorem Qal (a : (List (List Zc))) (hz : Ha (.sl (.sl Kc)) a ≤ Ea) : LR a = some (a, ()) := toS (e := (.sl Kc)) _ _ (f := GN) a hz Day rfl
theorem AaC (a : Ra) (hz : Ha Of a ≤ Ea) : RI a = some (a, ()) := by
 unfold RI
 have hs : Ha Of a = 0 := by simp only [Ha, Nat.add_zero, js, jt]
 rw [C5 a.2.1 (by rw [Zy rfl]; exact Nat.zero_le _)]
 simp only [jb]
theorem Cay (a : (List Ra)) (hz : Ha (.sl Of) a ≤ Ea) : MT a = some (a, ()) := toS (e := Of) _ _ (f := RI) a hz AaC rfl
theorem Mal (a : Hb) (hz : Ha Dc a ≤ Ea) : VJ a = some (a, ()) := by
 unfold VJ
 have hs : Ha Dc a = Ha Bc a.1 + (Ha (.sl (.sl Kc)) a.2.1 + (Ha (.sl Of) a.2.2.2.1)) := by simp only [Ha, Nat.add_zero, js, jt]
 rw [Oal a.1 (by omega)]
 simp only [jb]
 rw [Qal a.2.1 (by omega)]
 simp only [jb]
 rw [Cay a.2.2.2.1 (by omega)]
 simp only [jb]
theorem Fak (a : Gb) (hz : Ha Hc a ≤ Ea) : IG a = some (a, ()) := by
 unfold IG
 have hs : Ha Hc a = Ha Dc a.1 + (Ha (.sl Bb) a.2.2.1) := by simp only [Ha, Nat.add_zero, js, jt]
 rw [Mal a.1 (by omega)]
 simp only [jb]
 rw [Ral a.2.1 (by rw [Zy rfl]; exact Nat.zero_le _)]
 simp only [jb]
 rw [D5 a.2.2.1 (by omega)]
 simp only [jb]
theorem Zax (a : Jd) (hz : Ha Ed a ≤ Ea) : DN a = some (a, ()) := by
 unfold DN
 have hs : Ha Ed a = Ha Nb a.2.1 + (Ha Pb a.2.2.1 + (Ha Hc a.2.2.2.1)) := by simp only [Ha, Nat.add_zero, js, jt]
 rw [Pal a.1 (by rw [Zy rfl]; exact Nat.zero_le _)]
 simp only [jb]
 rw [Rac a.2.1 (by omega)]
 simp only [jb]
 rw [Baf a.2.2.1 (by omega)]
 simp only [jb]
 rw [Fak a.2.2.2.1 (by omega)]
 simp only [jb]
theorem Caf (a : Rb) (hz : Ha Tc a ≤ Ea) : JC a = some (a, ()) := by
 unfold JC
 have hs : Ha Tc a = Ha (.sl Uh) a.1 := by simp only [Ha, Nat.add_zero, js, jt]
 rw [Paa a.1 (by omega)]
 simp only [jb]
theorem Nal (a : Gd) (hz : Ha Fe a ≤ Ea) : Vm a = some (a, ()) := by
 unfold Vm
 have hs : Ha Fe a = Ha Ed a.1 + (Ha Tc a.2.1) := by simp only [Ha, Nat.add_zero, js, jt]
 rw [Zax a.1 (by omega)]
 simp only [jb]
 rw [Caf a.2.1 (by omega)]
 simp only [jb]
theorem Pak (a : Ca) (hz : Ha Bb a ≤ Qc) : KJ a a = some (true, ()) := by
 unfold KJ
 have hs : Ha Bb a = 0 := by simp only [Ha, Nat.add_zero, js, jt]
 simp only [bne_self_eq_false', cond_false, jg, jb]
theorem Eab (a : Qb) (hz : Ha Nb a ≤ Qc) : Sx a a = some (true, ()) := by
 unfold Sx
 have hs : Ha Nb a = Ha (.sl int) a.2.2.2.2.2.1 := by simp only [Ha, Nat.add_zero, js, jt]
 simp only [bne_self_eq_false', cond_false, jg, jb, Bad a.2.2.2.2.2.1 (by omega)]
theorem Eaw (a : Wa) (hz : Ha Zb a ≤ Qc) : DE a a = some (true, ()) := by
 unfold DE
 have hs : Ha Zb a = 0 := by simp only [Ha, Nat.add_zero, js, jt]
 simp only [bne_self_eq_false', cond_false, jg, jb]
theorem Mak (a : (List Wa)) (hz : Ha (.sl Zb) a ≤ Qc) : HJ a a = some (true, ()) := U8 (e := Zb) (f := DE) (F := HJ) a hz Eaw rfl
theorem Lak (a : Ca) (hz : Ha Bb a ≤ Qc) : Lz a a = some (true, ()) := by
 unfold Lz
 have hs : Ha Bb a = 0 := by simp only [Ha, Nat.add_zero, js, jt]
 simp only [bne_self_eq_false', cond_false, jg, jb]
theorem Rah (a : (List Ca)) (hz : Ha (.sl Bb) a ≤ Qc) : ZF a a = some (true, ()) := U8 (e := Bb) (f := Lz) (F := ZF) a hz Lak rfl
theorem Yad (a : Pa) (hz : Ha Pb a ≤ Qc) : VB a a = some (true, ()) := by
 unfold VB
 have hs : Ha Pb a = Ha (.sl Zb) a.1 + (Ha (.sl Bb) a.2.2.1 + (Ha (.sl Bb) a.2.2.2.2.2.2.1)) := by simp only [Ha, Nat.add_zero, js, jt]
 simp only [bne_self_eq_false', cond_false, jg, jb, Mak a.1 (by omega), I4 a.2.2.1 (by omega), Rah a.2.2.2.2.2.2.1 (by omega)]
theorem Oaz (a : Zc) (hz : Ha Kc a ≤ Qc) : HI a a = some (true, ()) := by
 unfold HI
 have hs : Ha Kc a = 0 := by simp only [Ha, Nat.add_zero, js, jt]
 simp only [bne_self_eq_false', cond_false, jg, jb]
theorem Iaw (a : (List Zc)) (hz : Ha (.sl Kc) a ≤ Qc) : GE a a = some (true, ()) := U8 (e := Kc) (f := HI) (F := GE) a hz Oaz rfl
theorem Rak (a : (List (List Zc))) (hz : Ha (.sl (.sl Kc)) a ≤ Qc) : MJ a a = some (true, ()) := U8 (e := (.sl Kc)) (f := GE) (F := MJ) a hz Iaw rfl
theorem Maz (a : Ra) (hz : Ha Of a ≤ Qc) : EI a a = some (true, ()) := by
 unfold EI
 have hs : Ha Of a = 0 := by simp only [Ha, Nat.add_zero, js, jt]
 simp only [bne_self_eq_false', cond_false, jg, jb, H4 a.2.1 (by rw [Zy rfl]; exact Nat.zero_le _)]
theorem Gaw (a : (List Ra)) (hz : Ha (.sl Of) a ≤ Qc) : OM a a = some (true, ()) := U8 (e := Of) (f := EI) (F := OM) a hz Maz rfl
theorem Nak (a : Hb) (hz : Ha Dc a ≤ Qc) : IJ a a = some (true, ()) := by
 unfold IJ
 have hs : Ha Dc a = Ha Bc a.1 + (Ha (.sl (.sl Kc)) a.2.1 + (Ha (.sl Of) a.2.2.2.1)) := by simp only [Ha, Nat.add_zero, js, jt]
 simp only [bne_self_eq_false', cond_false, jg, jb, Oak a.1 (by omega), Rak a.2.1 (by omega), Gaw a.2.2.2.1 (by omega)]
theorem Sah (a : Gb) (hz : Ha Hc a ≤ Qc) : AG a a = some (true, ()) := by
 unfold AG
 have hs : Ha Hc a = Ha Dc a.1 + (Ha (.sl Bb) a.2.2.1) := by simp only [Ha, Nat.add_zero, js, jt]
 simp only [bne_self_eq_false', cond_false, jg, jb, Nak a.1 (by omega), Sak a.2.1 (by rw [Zy rfl]; exact Nat.zero_le _), I4 a.2.2.1 (by omega)]
theorem Daw (a : Jd) (hz : Ha Ed a ≤ Qc) : LM a a = some (true, ()) := by
 unfold LM
 have hs : Ha Ed a = Ha Nb a.2.1 + (Ha Pb a.2.2.1 + (Ha Hc a.2.2.2.1)) := by simp only [Ha, Nat.add_zero, js, jt]
 simp only [bne_self_eq_false', cond_false, jg, jb, Pak a.1 (by rw [Zy rfl]; exact Nat.zero_le _), Eab a.2.1 (by omega), Yad a.2.2.1 (by omega), Sah a.2.2.2.1 (by omega)]
theorem Zad (a : Rb) (hz : Ha Tc a ≤ Qc) : XB a a = some (true, ()) := by
 unfold XB
 have hs : Ha Tc a = Ha (.sl Uh) a.1 := by simp only [Ha, Nat.add_zero, js, jt]
 simp only [bne_self_eq_false', cond_false, jg, jb, T8 a.1 (by omega)]
theorem J4 (a : Gd) (hz : Ha Fe a ≤ Qc) : Um a a = some (true, ()) := by
 unfold Um
 have hs : Ha Fe a = Ha Ed a.1 + (Ha Tc a.2.1) := by simp only [Ha, Nat.add_zero, js, jt]
 simp only [bne_self_eq_false', cond_false, jg, jb, Daw a.1 (by omega), Zad a.2.1 (by omega)]
theorem H1 (a : (List Int)) (k : Nat) (hk : k + 8 * Ha (.sl Uh) a ≤ Qc) : ∃ (a' : (List Int)) (k' : Nat), k ≤ k' ∧ k' ≤ k + 8 * Ha (.sl Uh) a ∧ EG a (k : Int) = some (a', ((k' : Int), ())) ∧ YO a' (k : Int) = some ((k' : Int), ()) ∧ kf (.sl Uh) a a' := JN (e := Uh) (RM := Qr) (RH := Jr) (fun _ _ => rfl) (fun _ _ => rfl) (by
 have h40 : Qc = 1099511627776 := rfl
 intro o k i hi hB
 have hw : j5 .i64 (((k : Nat) : Int) + 1) = (((k + 1) : Nat) : Int) := Jc (by omega)
 refine ⟨(Go.IntKind.wrap .u8 ((k : Nat) : Int)), k + 1, by omega, by omega, ?_, ?_⟩
 ·simp only [Qr]
  rw [Ba (show (i : Int) < (ja o : Int) by omega)]
  simp only [hw, cond_true, Fg, j9, Ba hi, jn, je hi, qw hi, jb, List.set_set, z3, cond_false]
 ·intro o2 hi2 h2
  simp only [Jr]
  rw [Ba (show (i : Int) < (ja o2 : Int) by omega), Jb hi2, h2]
  simp only [hw, cond_true, jb, bne_self_eq_false', cond_false, z3]) (by
 intro o k
 simp only [Qr]
 rw [Aa (by omega)]
 rfl) (by
 intro o k
 simp only [Jr]
 rw [Aa (by omega)]
 rfl) a k hk
theorem U4 (a : (List Int)) (k : Nat) (hk : k + 8 * Ha (.sl int) a ≤ Qc) : ∃ (a' : (List Int)) (k' : Nat), k ≤ k' ∧ k' ≤ k + 8 * Ha (.sl int) a ∧ PJ a (k : Int) = some (a', ((k' : Int), ())) ∧ OJ a' (k : Int) = some ((k' : Int), ()) ∧ kf (.sl int) a a' := JN (e := int) (RM := Hu) (RH := Eu) (fun _ _ => rfl) (fun _ _ => rfl) (by
 have h40 : Qc = 1099511627776 := rfl
 intro o k i hi hB
 have hw : j5 .i64 (((k : Nat) : Int) + 1) = (((k + 1) : Nat) : Int) := Jc (by omega)
 refine ⟨((k : Nat) : Int), k + 1, by omega, by omega, ?_, ?_⟩
 ·simp only [Hu]
  rw [Ba (show (i : Int) < (ja o : Int) by omega)]
  simp only [hw, cond_true, Fg, j9, Ba hi, jn, je hi, qw hi, jb, List.set_set, z3, cond_false]
 ·intro o2 hi2 h2
  simp only [Eu]
  rw [Ba (show (i : Int) < (ja o2 : Int) by omega), Jb hi2, h2]
  simp only [hw, cond_true, jb, bne_self_eq_false', cond_false, z3]) (by
 intro o k
 simp only [Hu]
 rw [Aa (by omega)]
 rfl) (by
 intro o k
 simp only [Eu]
 rw [Aa (by omega)]
 rfl) a k hk
theorem Baj (a : (List Lf)) (k : Nat) (hk : k + 8 * Ha (.sl Wj) a ≤ Qc) : ∃ (a' : (List Lf)) (k' : Nat), k ≤ k' ∧ k' ≤ k + 8 * Ha (.sl Wj) a ∧ CP a (k : Int) = some (a', ((k' : Int), ())) ∧ CG a' (k : Int) = some ((k' : Int), ()) ∧ kf (.sl Wj) a a' := JN (e := Wj) (RM := Ur) (RH := Nr) (fun _ _ => rfl) (fun _ _ => rfl) (by
 have h40 : Qc = 1099511627776 := rfl
 intro o k i hi hB
 have hs : Ha Wj o[i] = Ha (.sl int) o[i].2.1.2.1 := by simp only [Ha, Nat.add_zero, js, jt]
 have w0 : j5 .i64 (((k : Nat) : Int) + 1) = (((k + 1) : Nat) : Int) := Jc (by omega)
 have w1 : j5 .i64 ((((k + 1) : Nat) : Int) + 1) = ((((k + 1) + 1) : Nat) : Int) := Jc (by omega)
 obtain ⟨y0, k0, g0, i0, m0, n0, _⟩ := U4 o[i].2.1.2.1 ((k + 1) + 1) (by omega)
 have d0 : decide ((k0 : Int) < 0) = false := Aa (by omega)
 refine ⟨(((k : Nat) : Int), ((((k + 1) : Nat) : Int), y0, ()), ()), k0, by omega, by omega, ?_, ?_⟩
 ·simp only [Ur]
  rw [Ba (show (i : Int) < (ja o : Int) by omega)]
  simp only [w0, w1, m0, cond_true, Fg, j9, Ba hi, jn, je hi, qw hi, jb, List.set_set, z3, cond_false]
 ·intro o2 hi2 h2
  simp only [Nr]
  rw [Ba (show (i : Int) < (ja o2 : Int) by omega), Jb hi2, h2]
  simp only [w0, w1, n0, d0, cond_true, jb, bne_self_eq_false', cond_false, z3]) (by
 intro o k
 simp only [Ur]
 rw [Aa (by omega)]
 rfl) (by
 intro o k
 simp only [Nr]
 rw [Aa (by omega)]
 rfl) a k hk
theorem Uab (a : (List Cb)) (k : Nat) (hk : k + 8 * Ha (.sl Wb) a ≤ Qc) : ∃ (a' : (List Cb)) (k' : Nat), k ≤ k' ∧ k' ≤ k + 8 * Ha (.sl Wb) a ∧ SK a (k : Int) = some (a', ((k' : Int), ())) ∧ QK a' (k : Int) = some ((k' : Int), ()) ∧ kf (.sl Wb) a a' := JN (e := Wb) (RM := Tn) (RH := Rn) (fun _ _ => rfl) (fun _ _ => rfl) (by
 have h40 : Qc = 1099511627776 := rfl
 intro o k i hi hB
 have hw : j5 .i64 (((k : Nat) : Int) + 1) = (((k + 1) : Nat) : Int) ∧ j5 .i64 ((((k + 1) : Nat) : Int) + 1) = (((k + 2) : Nat) : Int) ∧ j5 .i64 ((((k + 2) : Nat) : Int) + 1) = (((k + 3) : Nat) : Int) ∧ j5 .i64 ((((k + 3) : Nat) : Int) + 1) = (((k + 4) : Nat) : Int) := ⟨Jc (by omega), Jc (by omega), Jc (by omega), Jc (by omega)⟩
 obtain ⟨w0, w1, w2, w3⟩ := hw
 refine ⟨(((k : Nat) : Int), (((k + 1) : Nat) : Int), (((k + 2) : Nat) : Int), (((k + 3) : Nat) : Int), ()), k + 4, by omega, by omega, ?_, ?_⟩
 ·simp only [Tn]
  rw [Ba (show (i : Int) < (ja o : Int) by omega)]
  simp only [w0, w1, w2, w3, cond_true, Fg, j9, Ba hi, jn, je hi, qw hi, jb, List.set_set, z3, cond_false]
 ·intro o2 hi2 h2
  simp only [Rn]
  rw [Ba (show (i : Int) < (ja o2 : Int) by omega), Jb hi2, h2]
  simp only [w0, w1, w2, w3, cond_true, jb, bne_self_eq_false', cond_false, z3]) (by
 intro o k
 simp only [Tn]
 rw [Aa (by omega)]
 rfl) (by
 intro o k
 simp only [Rn]
 rw [Aa (by omega)]
 rfl) a k hk
theorem P9 (a : (List (List Cb))) (k : Nat) (hk : k + 8 * Ha (.sl (.sl Wb)) a ≤ Qc) : ∃ (a' : (List (List Cb))) (k' : Nat), k ≤ k' ∧ k' ≤ k + 8 * Ha (.sl (.sl Wb)) a ∧ MH a (k : Int) = some (a', ((k' : Int), ())) ∧ LH a' (k : Int) = some ((k' : Int), ()) ∧ kf (.sl (.sl Wb)) a a' := JN (e := (.sl Wb)) (RM := Km) (RH := Jm) (fun _ _ => rfl) (fun _ _ => rfl) (by
 have h40 : Qc = 1099511627776 := rfl
 intro o k i hi hB
 obtain ⟨y0, k0, g0, i0, m0, n0, _⟩ := Uab o[i] k (by omega)
 have d0 : decide ((k0 : Int) < 0) = false := Aa (by omega)
 refine ⟨y0, k0, by omega, by omega, ?_, ?_⟩
 ·simp only [Km]
  rw [Ba (show (i : Int) < (ja o : Int) by omega)]
  simp only [m0, cond_true, Fg, j9, Ba hi, jn, je hi, qw hi, jb, List.set_set, z3, cond_false]
 ·intro o2 hi2 h2
  simp only [Jm]
  rw [Ba (show (i : Int) < (ja o2 : Int) by omega), Jb hi2, h2]
  simp only [n0, d0, cond_true, jb, bne_self_eq_false', cond_false, z3]) (by
 intro o k
 simp only [Km]
 rw [Aa (by omega)]
 rfl) (by
 intro o k
 simp only [Jm]
 rw [Aa (by omega)]
 rfl) a k hk
theorem Lae (a : Xb) (k : Nat) (hk : k + 8 * Ha Bc a ≤ Qc) : ∃ (a' : Xb) (k' : Nat), k ≤ k' ∧ k' ≤ k + 8 * Ha Bc a ∧ DC a (k : Int) = some (a', ((k' : Int), ())) ∧ AC a' (k : Int) = some ((k' : Int), ()) ∧ kf Bc a a' := by
 have h40 : Qc = 1099511627776 := rfl
 have hs : Ha Bc a = Ha (.sl (.sl Wb)) a.2.1 := by simp only [Ha, Nat.add_zero, js, jt]
 obtain ⟨x0, k0, g0, i0, m0, n0, f0⟩ := P9 a.2.1 k (by omega)
 refine ⟨(a.1, x0, ()), k0, by omega, by omega, ?_, ?_, Yf _ _, f0, rfl⟩
 ·unfold DC
  simp only [m0, jb]
 ·unfold AC
  simp only [n0, jb]
  rw [Aa (by omega)]
  simp only [cond_false]
theorem JZ (a : (List Ca)) (k : Nat) (hk : k + 8 * Ha (.sl Bb) a ≤ Qc) : ∃ (a' : (List Ca)) (k' : Nat), k ≤ k' ∧ k' ≤ k + 8 * Ha (.sl Bb) a ∧ CC a (k : Int) = some (a', ((k' : Int), ())) ∧ ZB a' (k : Int) = some ((k' : Int), ()) ∧ kf (.sl Bb) a a' := JN (e := Bb) (RM := Up) (RH := Rp) (fun _ _ => rfl) (fun _ _ => rfl) (by
 have h40 : Qc = 1099511627776 := rfl
 intro o k i hi hB
 have hw : j5 .i64 (((k : Nat) : Int) + 1) = (((k + 1) : Nat) : Int) ∧ j5 .i64 ((((k + 1) : Nat) : Int) + 1) = (((k + 2) : Nat) : Int) ∧ j5 .i64 ((((k + 2) : Nat) : Int) + 1) = (((k + 3) : Nat) : Int) := ⟨Jc (by omega), Jc (by omega), Jc (by omega)⟩
 obtain ⟨w0, w1, w2⟩ := hw
 refine ⟨(((k : Nat) : Int), (((k + 1) : Nat) : Int), (Int.tmod (((k + 2) : Nat) : Int) 3 == 0), ()), k + 3, by omega, by omega, ?_, ?_⟩
 ·simp only [Up]
  rw [Ba (show (i : Int) < (ja o : Int) by omega)]
  simp only [w0, w1, w2, cond_true, Fg, j9, Ba hi, jn, je hi, qw hi, jb, List.set_set, z3, cond_false]
 ·intro o2 hi2 h2
  simp only [Rp]
  rw [Ba (show (i : Int) < (ja o2 : Int) by omega), Jb hi2, h2]
  simp only [w0, w1, w2, cond_true, jb, bne_self_eq_false', cond_false, z3]) (by
 intro o k
 simp only [Up]
 rw [Aa (by omega)]
 rfl) (by
 intro o k
 simp only [Rp]
 rw [Aa (by omega)]
 rfl) a k hk
theorem Z6 (a : Qb) (k : Nat) (hk : k + 8 * Ha Nb a ≤ Qc) : ∃ (a' : Qb) (k' : Nat), k ≤ k' ∧ k' ≤ k + 8 * Ha Nb a ∧ Rr a (k : Int) = some (a', ((k' : Int), ())) ∧ Kr a' (k : Int) = some ((k' : Int), ()) ∧ kf Nb a a' := by
 have h40 : Qc = 1099511627776 := rfl
 have hs : Ha Nb a = Ha (.sl int) a.2.2.2.2.2.1 := by simp only [Ha, Nat.add_zero, js, jt]
 obtain ⟨x0, k0, g0, i0, m0, n0, f0⟩ := U4 a.2.2.2.2.2.1 k (by omega)
 refine ⟨(a.1, a.2.1, a.2.2.1, a.2.2.2.1, a.2.2.2.2.1, x0, ()), k0, by omega, by omega, ?_, ?_, Yf _ _, Yf _ _, Yf _ _, Yf _ _, Yf _ _, f0, rfl⟩
 ·unfold Rr
  simp only [m0, jb]
 ·unfold Kr
  simp only [n0, jb]
  rw [Aa (by omega)]
  simp only [cond_false]
theorem Jae (a : (List Wa)) (k : Nat) (hk : k + 8 * Ha (.sl Zb) a ≤ Qc) : ∃ (a' : (List Wa)) (k' : Nat), k ≤ k' ∧ k' ≤ k + 8 * Ha (.sl Zb) a ∧ VM a (k : Int) = some (a', ((k' : Int), ())) ∧ SM a' (k : Int) = some ((k' : Int), ()) ∧ kf (.sl Zb) a a' := JN (e := Zb) (RM := Tp) (RH := Qp) (fun _ _ => rfl) (fun _ _ => rfl) (by
 have h40 : Qc = 1099511627776 := rfl
 intro o k i hi hB
 have hw : j5 .i64 (((k : Nat) : Int) + 1) = (((k + 1) : Nat) : Int) ∧ j5 .i64 ((((k + 1) : Nat) : Int) + 1) = (((k + 2) : Nat) : Int) := ⟨Jc (by omega), Jc (by omega)⟩
 obtain ⟨w0, w1⟩ := hw
 refine ⟨(((k : Nat) : Int), (((k + 1) : Nat) : Int), ()), k + 2, by omega, by omega, ?_, ?_⟩
 ·simp only [Tp]
  rw [Ba (show (i : Int) < (ja o : Int) by omega)]
  simp only [w0, w1, cond_true, Fg, j9, Ba hi, jn, je hi, qw hi, jb, List.set_set, z3, cond_false]
 ·intro o2 hi2 h2
  simp only [Qp]
  rw [Ba (show (i : Int) < (ja o2 : Int) by omega), Jb hi2, h2]
  simp only [w0, w1, cond_true, jb, bne_self_eq_false', cond_false, z3]) (by
 intro o k
 simp only [Tp]
 rw [Aa (by omega)]
 rfl) (by
 intro o k
 simp only [Qp]
 rw [Aa (by omega)]
 rfl) a k hk
theorem Vab (a : (List Ca)) (k : Nat) (hk : k + 8 * Ha (.sl Bb) a ≤ Qc) : ∃ (a' : (List Ca)) (k' : Nat), k ≤ k' ∧ k' ≤ k + 8 * Ha (.sl Bb) a ∧ TK a (k : Int) = some (a', ((k' : Int), ())) ∧ RK a' (k : Int) = some ((k' : Int), ()) ∧ kf (.sl Bb) a a' := JN (e := Bb) (RM := Un) (RH := Sn) (fun _ _ => rfl) (fun _ _ => rfl) (by
 have h40 : Qc = 1099511627776 := rfl
 intro o k i hi hB
 have hw : j5 .i64 (((k : Nat) : Int) + 1) = (((k + 1) : Nat) : Int) ∧ j5 .i64 ((((k + 1) : Nat) : Int) + 1) = (((k + 2) : Nat) : Int) ∧ j5 .i64 ((((k + 2) : Nat) : Int) + 1) = (((k + 3) : Nat) : Int) := ⟨Jc (by omega), Jc (by omega), Jc (by omega)⟩
 obtain ⟨w0, w1, w2⟩ := hw
 refine ⟨(((k : Nat) : Int), (((k + 1) : Nat) : Int), (Int.tmod (((k + 2) : Nat) : Int) 3 == 0), ()), k + 3, by omega, by omega, ?_, ?_⟩
 ·simp only [Un]
  rw [Ba (show (i : Int) < (ja o : Int) by omega)]
  simp only [w0, w1, w2, cond_true, Fg, j9, Ba hi, jn, je hi, qw hi, jb, List.set_set, z3, cond_false]
 ·intro o2 hi2 h2
  simp only [Sn]
  rw [Ba (show (i : Int) < (ja o2 : Int) by omega), Jb hi2, h2]
  simp only [w0, w1, w2, cond_true, jb, bne_self_eq_false', cond_false, z3]) (by
 intro o k
 simp only [Un]
 rw [Aa (by omega)]
 rfl) (by
 intro o k
 simp only [Sn]
 rw [Aa (by omega)]
 rfl) a k hk
theorem Q9 (a : Pa) (k : Nat) (hk : k + 8 * Ha Pb a ≤ Qc) : ∃ (a' : Pa) (k' : Nat), k ≤ k' ∧ k' ≤ k + 8 * Ha Pb a ∧ Gu a (k : Int) = some (a', ((k' : Int), ())) ∧ Du a' (k : Int) = some ((k' : Int), ()) ∧ kf Pb a a' := by
 have h40 : Qc = 1099511627776 := rfl
 have hs : Ha Pb a = Ha (.sl Zb) a.1 + (Ha (.sl Bb) a.2.2.1 + (Ha (.sl Bb) a.2.2.2.2.2.2.1)) := by simp only [Ha, Nat.add_zero, js, jt]
 obtain ⟨x0, k0, g0, i0, m0, n0, f0⟩ := Jae a.1 k (by omega)
 obtain ⟨x1, k1, g1, i1, m1, n1, f1⟩ := JZ a.2.2.1 k0 (by omega)
 obtain ⟨x2, k2, g2, i2, m2, n2, f2⟩ := Vab a.2.2.2.2.2.2.1 k1 (by omega)
 refine ⟨(x0, a.2.1, x1, a.2.2.2.1, a.2.2.2.2.1, a.2.2.2.2.2.1, x2, ()), k2, by omega, by omega, ?_, ?_, f0, Yf _ _, f1, Yf _ _, Yf _ _, Yf _ _, f2, rfl⟩
 ·unfold Gu
  simp only [m0, m1, m2, jb]
 ·unfold Du
  simp only [n0, jb]
  rw [Aa (by omega)]
  simp only [cond_false]
  simp only [n1, jb]
  rw [Aa (by omega)]
  simp only [cond_false]
  simp only [n2, jb]
  rw [Aa (by omega)]
  simp only [cond_false]
theorem Caj (a : (List Zc)) (k : Nat) (hk : k + 8 * Ha (.sl Kc) a ≤ Qc) : ∃ (a' : (List Zc)) (k' : Nat), k ≤ k' ∧ k' ≤ k + 8 * Ha (.sl Kc) a ∧ DP a (k : Int) = some (a', ((k' : Int), ())) ∧ AP a' (k : Int) = some ((k' : Int), ()) ∧ kf (.sl Kc) a a' := JN (e := Kc) (RM := Vr) (RH := Pr) (fun _ _ => rfl) (fun _ _ => rfl) (by
 have h40 : Qc = 1099511627776 := rfl
 intro o k i hi hB
 have hw : j5 .i64 (((k : Nat) : Int) + 1) = (((k + 1) : Nat) : Int) ∧ j5 .i64 ((((k + 1) : Nat) : Int) + 1) = (((k + 2) : Nat) : Int) ∧ j5 .i64 ((((k + 2) : Nat) : Int) + 1) = (((k + 3) : Nat) : Int) := ⟨Jc (by omega), Jc (by omega), Jc (by omega)⟩
 obtain ⟨w0, w1, w2⟩ := hw
 refine ⟨(((k : Nat) : Int), (((k + 1) : Nat) : Int), (((k + 2) : Nat) : Int), ()), k + 3, by omega, by omega, ?_, ?_⟩
 ·simp only [Vr]
  rw [Ba (show (i : Int) < (ja o : Int) by omega)]
  simp only [w0, w1, w2, cond_true, Fg, j9, Ba hi, jn, je hi, qw hi, jb, List.set_set, z3, cond_false]
 ·intro o2 hi2 h2
  simp only [Pr]
  rw [Ba (show (i : Int) < (ja o2 : Int) by omega), Jb hi2, h2]
  simp only [w0, w1, w2, cond_true, jb, bne_self_eq_false', cond_false, z3]) (by
 intro o k
 simp only [Vr]
 rw [Aa (by omega)]
 rfl) (by
 intro o k
 simp only [Pr]
 rw [Aa (by omega)]
 rfl) a k hk
theorem Mae (a : (List (List Zc))) (k : Nat) (hk : k + 8 * Ha (.sl (.sl Kc)) a ≤ Qc) : ∃ (a' : (List (List Zc))) (k' : Nat), k ≤ k' ∧ k' ≤ k + 8 * Ha (.sl (.sl Kc)) a ∧ XM a (k : Int) = some (a', ((k' : Int), ())) ∧ UM a' (k : Int) = some ((k' : Int), ()) ∧ kf (.sl (.sl Kc)) a a' := JN (e := (.sl Kc)) (RM := Vp) (RH := Sp) (fun _ _ => rfl) (fun _ _ => rfl) (by
 have h40 : Qc = 1099511627776 := rfl
 intro o k i hi hB
 obtain ⟨y0, k0, g0, i0, m0, n0, _⟩ := Caj o[i] k (by omega)
 have d0 : decide ((k0 : Int) < 0) = false := Aa (by omega)
 refine ⟨y0, k0, by omega, by omega, ?_, ?_⟩
 ·simp only [Vp]
  rw [Ba (show (i : Int) < (ja o : Int) by omega)]
  simp only [m0, cond_true, Fg, j9, Ba hi, jn, je hi, qw hi, jb, List.set_set, z3, cond_false]
 ·intro o2 hi2 h2
  simp only [Sp]
  rw [Ba (show (i : Int) < (ja o2 : Int) by omega), Jb hi2, h2]
  simp only [n0, d0, cond_true, jb, bne_self_eq_false', cond_false, z3]) (by
 intro o k
 simp only [Vp]
 rw [Aa (by omega)]
 rfl) (by
 intro o k
 simp only [Sp]
 rw [Aa (by omega)]
 rfl) a k hk
theorem Aaj (a : (List Ra)) (k : Nat) (hk : k + 8 * Ha (.sl Of) a ≤ Qc) : ∃ (a' : (List Ra)) (k' : Nat), k ≤ k' ∧ k' ≤ k + 8 * Ha (.sl Of) a ∧ BP a (k : Int) = some (a', ((k' : Int), ())) ∧ ZO a' (k : Int) = some ((k' : Int), ()) ∧ kf (.sl Of) a a' := JN (e := Of) (RM := Tr) (RH := Mr) (fun _ _ => rfl) (fun _ _ => rfl) (by
 have h40 : Qc = 1099511627776 := rfl
 intro o k i hi hB
 have hw : j5 .i64 (((k : Nat) : Int) + 1) = (((k + 1) : Nat) : Int) ∧ j5 .i64 ((((k + 1) : Nat) : Int) + 1) = (((k + 2) : Nat) : Int) ∧ j5 .i64 ((((k + 2) : Nat) : Int) + 1) = (((k + 3) : Nat) : Int) ∧ j5 .i64 ((((k + 3) : Nat) : Int) + 1) = (((k + 4) : Nat) : Int) ∧ j5 .i64 ((((k + 4) : Nat) : Int) + 1) = (((k + 5) : Nat) : Int) := ⟨Jc (by omega), Jc (by omega), Jc (by omega), Jc (by omega), Jc (by omega)⟩
 obtain ⟨w0, w1, w2, w3, w4⟩ := hw
 refine ⟨(((k : Nat) : Int), ((((k + 1) : Nat) : Int), (((k + 2) : Nat) : Int), (((k + 3) : Nat) : Int), (((k + 4) : Nat) : Int), ()), ()), k + 5, by omega, by omega, ?_, ?_⟩
 ·simp only [Tr]
  rw [Ba (show (i : Int) < (ja o : Int) by omega)]
  simp only [w0, w1, w2, w3, w4, cond_true, Fg, j9, Ba hi, jn, je hi, qw hi, jb, List.set_set, z3, cond_false]
 ·intro o2 hi2 h2
  simp only [Mr]
  rw [Ba (show (i : Int) < (ja o2 : Int) by omega), Jb hi2, h2]
  simp only [w0, w1, w2, w3, w4, cond_true, jb, bne_self_eq_false', cond_false, z3]) (by
 intro o k
 simp only [Tr]
 rw [Aa (by omega)]
 rfl) (by
 intro o k
 simp only [Mr]
 rw [Aa (by omega)]
 rfl) a k hk
theorem Kae (a : Hb) (k : Nat) (hk : k + 8 * Ha Dc a ≤ Qc) : ∃ (a' : Hb) (k' : Nat), k ≤ k' ∧ k' ≤ k + 8 * Ha Dc a ∧ BC a (k : Int) = some (a', ((k' : Int), ())) ∧ YB a' (k : Int) = some ((k' : Int), ()) ∧ kf Dc a a' := by
 have h40 : Qc = 1099511627776 := rfl
 have hs : Ha Dc a = Ha Bc a.1 + (Ha (.sl (.sl Kc)) a.2.1 + (Ha (.sl Of) a.2.2.2.1)) := by simp only [Ha, Nat.add_zero, js, jt]
 obtain ⟨x0, k0, g0, i0, m0, n0, f0⟩ := Lae a.1 k (by omega)
 obtain ⟨x1, k1, g1, i1, m1, n1, f1⟩ := Mae a.2.1 k0 (by omega)
 obtain ⟨x2, k2, g2, i2, m2, n2, f2⟩ := Aaj a.2.2.2.1 k1 (by omega)
 refine ⟨(x0, x1, a.2.2.1, x2, a.2.2.2.2.1, a.2.2.2.2.2.1, ()), k2, by omega, by omega, ?_, ?_, f0, f1, Yf _ _, f2, Yf _ _, Yf _ _, rfl⟩
 ·unfold BC
  simp only [kf, true_and, and_true] at f0
  simp only [m0, m1, m2, jb]
  simp only [jc, Prod.ext_iff, f0, and_self]
 ·unfold YB
  simp only [n0, jb]
  rw [Aa (by omega)]
  simp only [cond_false]
  simp only [n1, jb]
  rw [Aa (by omega)]
  simp only [cond_false]
  simp only [n2, jb]
  rw [Aa (by omega)]
  simp only [cond_false]
theorem Wab (a : Gb) (k : Nat) (hk : k + 8 * Ha Hc a ≤ Qc) : ∃ (a' : Gb) (k' : Nat), k ≤ k' ∧ k' ≤ k + 8 * Ha Hc a ∧ Ux a (k : Int) = some (a', ((k' : Int), ())) ∧ Tx a' (k : Int) = some ((k' : Int), ()) ∧ kf Hc a a' := by
 have h40 : Qc = 1099511627776 := rfl
 have hs : Ha Hc a = Ha Dc a.1 + (Ha (.sl Bb) a.2.2.1) := by simp only [Ha, Nat.add_zero, js, jt]
 obtain ⟨x0, k0, g0, i0, m0, n0, f0⟩ := Kae a.1 k (by omega)
 obtain ⟨x1, k1, g1, i1, m1, n1, f1⟩ := JZ a.2.2.1 k0 (by omega)
 refine ⟨(x0, a.2.1, x1, a.2.2.2.1, a.2.2.2.2.1, a.2.2.2.2.2.1, a.2.2.2.2.2.2.1, ()), k1, by omega, by omega, ?_, ?_, f0, Yf _ _, f1, Yf _ _, Yf _ _, Yf _ _, Yf _ _, rfl⟩
 ·unfold Ux
  simp only [kf, true_and, and_true] at f0
  simp only [m0, m1, jb]
  simp only [jc, Prod.ext_iff, f0, and_self]
 ·unfold Tx
  simp only [n0, jb]
  rw [Aa (by omega)]
  simp only [cond_false]
  simp only [n1, jb]
  rw [Aa (by omega)]
  simp only [cond_false]
theorem Zai (a : Jd) (k : Nat) (hk : k + 8 * Ha Ed a ≤ Qc) : ∃ (a' : Jd) (k' : Nat), k ≤ k' ∧ k' ≤ k + 8 * Ha Ed a ∧ DG a (k : Int) = some (a', ((k' : Int), ())) ∧ BG a' (k : Int) = some ((k' : Int), ()) ∧ kf Ed a a' := by
 have h40 : Qc = 1099511627776 := rfl
 have hs : Ha Ed a = Ha Nb a.2.1 + (Ha Pb a.2.2.1 + (Ha Hc a.2.2.2.1)) := by simp only [Ha, Nat.add_zero, js, jt]
 obtain ⟨x0, k0, g0, i0, m0, n0, f0⟩ := Z6 a.2.1 k (by omega)
 obtain ⟨x1, k1, g1, i1, m1, n1, f1⟩ := Q9 a.2.2.1 k0 (by omega)
 obtain ⟨x2, k2, g2, i2, m2, n2, f2⟩ := Wab a.2.2.2.1 k1 (by omega)
 refine ⟨(a.1, x0, x1, x2, a.2.2.2.2.1, a.2.2.2.2.2.1, ()), k2, by omega, by omega, ?_, ?_, Yf _ _, f0, f1, f2, Yf _ _, Yf _ _, rfl⟩
 ·unfold DG
  simp only [kf, true_and, and_true] at f0
  simp only [kf, true_and, and_true] at f1
  simp only [kf, true_and, and_true] at f2
  simp only [m0, m1, m2, jb]
  simp only [jc, Prod.ext_iff, f0, f1, f2, and_self]
 ·unfold BG
  simp only [n0, jb]
  rw [Aa (by omega)]
  simp only [cond_false]
  simp only [n1, jb]
  rw [Aa (by omega)]
  simp only [cond_false]
  simp only [n2, jb]
  rw [Aa (by omega)]
  simp only [cond_false]
theorem R9 (a : Rb) (k : Nat) (hk : k + 8 * Ha Tc a ≤ Qc) : ∃ (a' : Rb) (k' : Nat), k ≤ k' ∧ k' ≤ k + 8 * Ha Tc a ∧ Iu a (k : Int) = some (a', ((k' : Int), ())) ∧ Fu a' (k : Int) = some ((k' : Int), ()) ∧ kf Tc a a' := by
 have h40 : Qc = 1099511627776 := rfl
 have hs : Ha Tc a = Ha (.sl Uh) a.1 := by simp only [Ha, Nat.add_zero, js, jt]
 obtain ⟨x0, k0, g0, i0, m0, n0, f0⟩ := H1 a.1 k (by omega)
 refine ⟨(x0, a.2.1, a.2.2.1, a.2.2.2.1, ()), k0, by omega, by omega, ?_, ?_, f0, Yf _ _, Yf _ _, Yf _ _, rfl⟩
 ·unfold Iu
  simp only [m0, jb]
 ·unfold Fu
  simp only [n0, jb]
  rw [Aa (by omega)]
  simp only [cond_false]
theorem KZ (a : Gd) (k : Nat) (hk : k + 8 * Ha Fe a ≤ Qc) : ∃ (a' : Gd) (k' : Nat), k ≤ k' ∧ k' ≤ k + 8 * Ha Fe a ∧ Sr a (k : Int) = some (a', ((k' : Int), ())) ∧ Lr a' (k : Int) = some ((k' : Int), ()) ∧ kf Fe a a' := by
 have h40 : Qc = 1099511627776 := rfl
 have hs : Ha Fe a = Ha Ed a.1 + (Ha Tc a.2.1) := by simp only [Ha, Nat.add_zero, js, jt]
 obtain ⟨x0, k0, g0, i0, m0, n0, f0⟩ := Zai a.1 k (by omega)
 obtain ⟨x1, k1, g1, i1, m1, n1, f1⟩ := R9 a.2.1 k0 (by omega)
 refine ⟨(x0, x1, a.2.2.1, ()), k1, by omega, by omega, ?_, ?_, f0, f1, Yf _ _, rfl⟩
 ·unfold Sr
  simp only [kf, true_and, and_true] at f0
  simp only [kf, true_and, and_true] at f1
  simp only [m0, m1, jb]
  simp only [jc, Prod.ext_iff, f0, f1, and_self]
 ·unfold Lr
  simp only [n0, jb]
  rw [Aa (by omega)]
  simp only [cond_false]
  simp only [n1, jb]
  rw [Aa (by omega)]
  simp only [cond_false]
def De (k c m n : Int) : Prop :=
 ((k = 0 ∨ k = 1 ∨ k = 10) ∧ c = 0 ∧ m = 0 ∧ n = 0) ∨
 (k = 2 ∧ n = 0 ∧ (c = 0 ∨ 1 ≤ c ∧ c ≤ 56) ∧ (m = 0 ∨ 1 ≤ m ∧ m ≤ 15) ∧ (c ≠ 0 ∨ m ≠ 0)) ∨
 ((k = 3 ∨ k = 4) ∧ c = 0 ∧ m = 0 ∧ 1 ≤ n ∧ n ≤ 3) ∨
 ((k = 5 ∨ k = 9) ∧ c = 0 ∧ m = 0 ∧ 0 ≤ n ∧ n ≤ 3) ∨
 (k = 6 ∧ 1 ≤ c ∧ c ≤ 56 ∧ 1 ≤ m ∧ m ≤ 15 ∧ n = 0) ∨
 (k = 7 ∧ 1 ≤ c ∧ c ≤ 56 ∧ m = 0 ∧ 1 ≤ n ∧ n ≤ 3) ∨
 (k = 8 ∧ c = 0 ∧ 1 ≤ m ∧ m ≤ 15 ∧ n = 0)
noncomputable def Td (a : Cb) : Bool := open Classical in decide (De a.1 a.2.1 a.2.2.1 a.2.2.2.1)
theorem Lc (a : Cb) : Td a = true ↔ De a.1 a.2.1 a.2.2.1 a.2.2.2.1 := by simp [Td]
theorem FW (c : Int) : DA c = some (decide (1 ≤ c ∧ c ≤ 56), ()) := by
 simp only [DA, Gh, Hh]
 apply Yc; simp only [Od, decide_eq_true_eq, NX, TS, jq, and_false, false_and, or_false, false_or, and_true, true_and, not_true_eq_false, not_false_eq_true]; try omega
theorem GW (c : Int) : Zs c = some (decide (1 ≤ c ∧ c ≤ 15), ()) := by
 simp only [Zs, Gh, Hh]
 apply Yc; simp only [Od, decide_eq_true_eq, NX, TS, jq, and_false, false_and, or_false, false_or, and_true, true_and, not_true_eq_false, not_false_eq_true]; try omega
theorem SU (c : Int) : Nv c = some (decide (1 ≤ c ∧ c ≤ 3), ()) := by
 simp only [Nv, Gh, Hh]
 apply Yc; simp only [Od, decide_eq_true_eq, NX, TS, jq, and_false, false_and, or_false, false_or, and_true, true_and, not_true_eq_false, not_false_eq_true]; try omega
theorem Mc (c a b : Int) : Sb c a b = some (decide (a ≤ c ∧ c ≤ b), ()) := by
 simp only [Sb, Gh, Hh]
 apply Yc; simp only [Od, decide_eq_true_eq, NX, TS, jq, and_false, false_and, or_false, false_or, and_true, true_and, not_true_eq_false, not_false_eq_true]; try omega
theorem Dx (a : Cb) : Lk a = some (Td a, ()) := by
 obtain ⟨k, c, m, n, u⟩ := a
 have key : ∀ k c m n : Int, Lk (k, c, m, n, u) = some (Td (k, c, m, n, u), ()) := by
  intro k c m n
  simp only [Lk, FW, GW, SU, Mc, jb, Gh, Hh]
  by_cases h0 : k = 0
  ·subst h0; apply Yc; rw [Lc]; simp [De, Od]; try omega
  by_cases h1 : k = 1
  ·subst h1; apply Yc; rw [Lc]; simp [De, Od]; try omega
  by_cases h2 : k = 2
  ·subst h2; apply Yc; rw [Lc]; simp [De, Od]; intro hn; (repeat' split) <;> omega
  by_cases h3 : k = 3
  ·subst h3; apply Yc; rw [Lc]; simp [De, Od]; try omega
  by_cases h4 : k = 4
  ·subst h4; apply Yc; rw [Lc]; simp [De, Od]; try omega
  by_cases h5 : k = 5
  ·subst h5; apply Yc; rw [Lc]; simp [De, Od]; try omega
  by_cases h6 : k = 6
  ·subst h6; apply Yc; rw [Lc]; simp [De, Od]; try omega
  by_cases h7 : k = 7
  ·subst h7; apply Yc; rw [Lc]; simp [De, Od]; try omega
  by_cases h8 : k = 8
  ·subst h8; apply Yc; rw [Lc]; simp [De, Od]; try omega
  by_cases h9 : k = 9
  ·subst h9; apply Yc; rw [Lc]; simp [De, Od]; try omega
  by_cases h10 : k = 10
  ·subst h10; apply Yc; rw [Lc]; simp [De, Od]; try omega
  have g : ∀ j : Int, (k == j) = decide (k = j) := fun j => by rw [qy]; simp
  apply Yc; rw [Lc]; simp [De, Od, h0, h1, h2, h3, h4, h5, h6, h7, h8, h9, h10]
 exact key k c m n
theorem Gy (a : Cb) : Nk a = some (Td a, ()) := by
 obtain ⟨k, c, m, n, u⟩ := a
 have key : ∀ k c m n : Int, Nk (k, c, m, n, u) = some (Td (k, c, m, n, u), ()) := by
  intro k c m n
  simp only [Nk, FW, GW, SU, Mc, jb, Gh, Hh]
  by_cases h0 : k = 0
  ·subst h0; apply Yc; rw [Lc]; simp [De, Od]; try omega
  by_cases h1 : k = 1
  ·subst h1; apply Yc; rw [Lc]; simp [De, Od]; try omega
  by_cases h2 : k = 2
  ·subst h2; apply Yc; rw [Lc]; simp [De, Od]; intro hn; (repeat' split) <;> omega
  by_cases h3 : k = 3
  ·subst h3; apply Yc; rw [Lc]; simp [De, Od]; try omega
  by_cases h4 : k = 4
  ·subst h4; apply Yc; rw [Lc]; simp [De, Od]; try omega
  by_cases h5 : k = 5
  ·subst h5; apply Yc; rw [Lc]; simp [De, Od]; try omega
  by_cases h6 : k = 6
  ·subst h6; apply Yc; rw [Lc]; simp [De, Od]; try omega
  by_cases h7 : k = 7
  ·subst h7; apply Yc; rw [Lc]; simp [De, Od]; try omega
  by_cases h8 : k = 8
  ·subst h8; apply Yc; rw [Lc]; simp [De, Od]; try omega
  by_cases h9 : k = 9
  ·subst h9; apply Yc; rw [Lc]; simp [De, Od]; try omega
  by_cases h10 : k = 10
  ·subst h10; apply Yc; rw [Lc]; simp [De, Od]; try omega
  have g : ∀ j : Int, (k == j) = decide (k = j) := fun j => by rw [qy]; simp
  apply Yc; rw [Lc]; simp [De, Od, h0, h1, h2, h3, h4, h5, h6, h7, h8, h9, h10]
 exact key k c m n
noncomputable def Wk (nl : Nat) (i : Nat) (a : Cb) : Bool := Td a && !(((i : Int) == 0) && (a.1 == 1)) && !((a.1 != 9) && decide (a.2.2.2.1 ≥ (nl : Int)))
noncomputable def Dp (keys : Int) (nl : Nat) (i : Nat) (l : List Cb) : Bool := ((ja l : Int) == keys) && Le (fun _ a => Wk nl i a) 0 l
noncomputable def Bi (m : Xb) : Bool :=
 decide (1 ≤ m.1 ∧ m.1 ≤ 32) && decide (1 ≤ m.2.1.length ∧ m.2.1.length ≤ 4) && Le (fun i l => Dp m.1 m.2.1.length i l) 0 m.2.1
theorem O6 (m : Xb) (i : Nat) (l : List Cb) (L : List (List Cb)) (n : Int) (t : Int) (hl : l.length < 9223372036854775807) :
 On (((), (i : Int), L, n, t, l, (l.length : Int), (0 : Int), ()), (m, ())) =
  some (cond (Le (fun _ a => Wk m.2.1.length i a) 0 l) (.inl (((), L, n, t, ()), (m, ()))) (.inr ((false, ()), ()))) := by
 unfold On
 refine Jf (step := _) l (fun _ a => Wk m.2.1.length i a) (fun j => (((), (i : Int), L, n, t, l, (l.length : Int), j, ()), (m, ()))) _ _ ?_ ?_ hl
 ·intro k hk
  simp only [DH]
  rw [Ba (show (k : Int) < (l.length : Int) by omega), Jb hk]
  simp only [cond_true, jb, Wk, Dx]
  cases Td l[k] <;> cases ((i : Int) == 0) <;> cases (l[k].1 == 1) <;> cases (l[k].1 != 9) <;> cases decide (l[k].2.2.2.1 ≥ (m.2.1.length : Int)) <;> rfl
 ·simp [DH]
theorem ET (m : Xb) (hz : Ha Bc m ≤ Ea) : Hz m = some (Bi m, ()) := by
 have h20 : Ea = 1048576 := rfl
 have hz' : m.2.1.length + (List.map (Ha (.sl Wb)) m.2.1).sum ≤ Ea := by
  have : Ha Bc m = Ha (.sl (.sl Wb)) m.2.1 := by simp only [Ha, Nat.add_zero, js]
  rw [this] at hz; exact hz
 have hl : ∀ k (hk : k < m.2.1.length), m.2.1[k].length ≤ Ea := by
  intro k hk
  have := Yy (f := Ha (.sl Wb)) hk
  have h2 : m.2.1[k].length ≤ Ha (.sl Wb) m.2.1[k] := Nat.le_add_right _ _
  omega
 have hloop : Nn (((), m.2.1, ((ja m.2.1 : Nat) : Int), (0 : Int), ()), (m, ())) =
  some (cond (Le (fun i l => Dp m.1 m.2.1.length i l) 0 m.2.1) (.inl ((), ())) (.inr ((false, ()), ()))) := by
  unfold Nn
  refine Jf (step := _) m.2.1 (fun i l => Dp m.1 m.2.1.length i l) (fun j => (((), m.2.1, ((ja m.2.1 : Nat) : Int), j, ()), (m, ()))) _ _ ?_ ?_ (by omega)
  ·intro k hk
   have := hl k hk
   simp only [BH]
   rw [Ba (show (k : Int) < (m.2.1.length : Int) by omega), Jb hk]
   simp only [cond_true, jb, Dp]
   rw [O6 m k _ _ _ _ (by omega)]
   show (cond (!((m.2.1[k].length : Int) == m.1)) _ _) = _
   cases ((m.2.1[k].length : Int) == m.1) <;> cases Le (fun _ a => Wk m.2.1.length k a) 0 m.2.1[k] <;> rfl
  ·simp [BH]
 unfold Hz
 rw [hloop]
 simp only [jb, Zac, Gh, Hh]
 apply Yc
 simp only [Od, Bi, jd, decide_eq_true_eq, jq, and_false, false_or, and_true, or_false]
 generalize Le (fun i l => Dp m.1 m.2.1.length i l) 0 m.2.1 = b
 constructor
 ·rintro ⟨h1, h2, h3, h4, h5⟩; exact ⟨⟨by omega, by omega⟩, h5⟩
 ·rintro ⟨⟨h1, h2⟩, h5⟩; exact ⟨by omega, by omega, by omega, by omega, h5⟩
theorem P7 (m : Xb) (i : Nat) (hi : i < m.2.1.length) (hl : m.2.1[i].length < 9223372036854775807) :
 Bo (((), (i : Int), (0 : Int), ()), (m, ())) =
  some (cond (Le (fun _ a => Wk m.2.1.length i a) 0 m.2.1[i]) (.inl (((), (i : Int), ()), (m, ()))) (.inr ((false, ()), ()))) := by
 unfold Bo
 refine Jf (step := _) m.2.1[i] (fun _ a => Wk m.2.1.length i a) (fun j => (((), (i : Int), j, ()), (m, ()))) _ _ ?_ ?_ hl
 ·intro k hk
  simp only [PH]
  rw [Jb hi]
  simp only [jb]
  rw [Ba (show (k : Int) < (m.2.1[i].length : Int) by omega), Jb hk]
  simp only [cond_true, jb, Wk, Gy]
  cases Td m.2.1[i][k] <;> cases ((i : Int) == 0) <;> cases (m.2.1[i][k].1 == 1) <;> cases (m.2.1[i][k].1 != 9) <;> cases decide (m.2.1[i][k].2.2.2.1 ≥ (m.2.1.length : Int)) <;> rfl
 ·simp [PH, Jb hi]
theorem XT (m : Xb) (hz : Ha Bc m ≤ Ea) : Uz m = some (Bi m, ()) := by
 have h20 : Ea = 1048576 := rfl
 have hz' : m.2.1.length + (List.map (Ha (.sl Wb)) m.2.1).sum ≤ Ea := by
  have : Ha Bc m = Ha (.sl (.sl Wb)) m.2.1 := by simp only [Ha, Nat.add_zero, js]
  rw [this] at hz; exact hz
 have hl : ∀ k (hk : k < m.2.1.length), m.2.1[k].length ≤ Ea := by
  intro k hk
  have := Yy (f := Ha (.sl Wb)) hk
  have h2 : m.2.1[k].length ≤ Ha (.sl Wb) m.2.1[k] := Nat.le_add_right _ _
  omega
 have hloop : Ao (((), (0 : Int), ()), (m, ())) =
  some (cond (Le (fun i l => Dp m.1 m.2.1.length i l) 0 m.2.1) (.inl (((), ()), (m, ()))) (.inr ((false, ()), ()))) := by
  unfold Ao
  refine Jf (step := _) m.2.1 (fun i l => Dp m.1 m.2.1.length i l) (fun j => (((), j, ()), (m, ()))) _ _ ?_ ?_ (by omega)
  ·intro k hk
   have := hl k hk
   simp only [OH]
   rw [Ba (show (k : Int) < (m.2.1.length : Int) by omega), Jb hk]
   simp only [cond_true, jb, Dp]
   rw [P7 m k hk (by omega)]
   show (cond (!((m.2.1[k].length : Int) == m.1)) _ _) = _
   cases ((m.2.1[k].length : Int) == m.1) <;> cases Le (fun _ a => Wk m.2.1.length k a) 0 m.2.1[k] <;> rfl
  ·simp [OH]
 unfold Uz
 rw [hloop]
 simp only [jb, Zac, Gh, Hh, Mc]
 apply Yc
 simp only [Od, Bi, jd, decide_eq_true_eq, jq, and_false, false_or, and_true, or_false]
 generalize Le (fun i l => Dp m.1 m.2.1.length i l) 0 m.2.1 = b
 constructor
 ·rintro ⟨h1, h2, h3⟩; exact ⟨⟨by omega, by omega⟩, h1⟩
 ·rintro ⟨⟨h1, h2⟩, h5⟩; exact ⟨h5, by omega, by omega⟩
theorem Cl {n : Nat} (h : n ≤ 62) : Qa .i64 1 (n : Int) = ((2 ^ n : Nat) : Int) := by
 unfold Qa
 have h1 : min (jy (n : Int)) (IntKind.bits .i64) = n := by
  show min (jy (n : Int)) 64 = n
  rw [jn]; omega
 rw [h1, Int.one_mul]
 have h2 : (2 : Int) ^ n = ((2 ^ n : Nat) : Int) := by simp
 have h3 : 2 ^ n ≤ 2 ^ 62 := qn (by omega) h
 rw [h2]
 clear h1 h2
 generalize 2 ^ n = z at h3
 rw [Ie (by omega) (by omega)]
structure GO (m : Xb) : Prop where
 k1 : 1 ≤ m.1
 k2 : m.1 ≤ 32
 l1 : 1 ≤ m.2.1.length
 l2 : m.2.1.length ≤ 4
 row : ∀ i (h : i < m.2.1.length), (m.2.1[i].length : Int) = m.1
 act : ∀ i (h : i < m.2.1.length) k (hk : k < m.2.1[i].length), Wk m.2.1.length i m.2.1[i][k] = true
theorem Nj {m : Xb} (h : Bi m = true) : GO m := by
 simp only [Bi, jd, decide_eq_true_eq] at h
 obtain ⟨⟨h1, h2⟩, h3⟩ := h
 rw [ID] at h3
 refine ⟨h1.1, h1.2, h2.1, h2.2, fun i hi => ?_, fun i hi k hk => ?_⟩
 ·have := h3 i hi
  simp only [js, Dp, jd, beq_iff_eq] at this
  exact this.1
 ·have := h3 i hi
  simp only [js, Dp, jd, beq_iff_eq] at this
  have := ID.1 this.2 k hk
  simpa using this
theorem K1 {nl i : Nat} {a : Cb} (h : Wk nl i a = true) : Td a = true := by
 simp only [Wk, jd] at h
 exact h.1.1
theorem K3 {nl i : Nat} {a : Cb} (h : Wk nl i a = true) (hk : a.1 ≠ 9) : a.2.2.2.1 < (nl : Int) := by
 simp only [Wk, jd, Bool.not_eq_true', Bool.and_eq_false_iff] at h
 rcases h.2 with h | h
 ·simp at h; exact absurd h hk
 ·simpa using h
def Kd (m k : Int) : Int := Va .i64 (Vb .i64 m k) 1
theorem Ml (m : Int) {k : Int} (h : 0 ≤ k) : Xe m k = some (Kd m k, ()) := by
 unfold Xe
 rw [Ba h]; rfl
def Ybl : Cb := (0, 0, 0, 0, ())
def Jl (L : List (List Cb)) (i k : Nat) : Cb := (L.getD i []).getD k Ybl
theorem L5 {L : List (List Cb)} {i k : Nat} (hi : i < L.length) (hk : k < L[i].length) : Jl L i k = L[i][k] := by
 simp [Jl, qj, hi, hk]
theorem Zah {α : Type} {L : List (List Cb)} {i k : Nat} (hi : i < L.length) (hk : k < L[i].length) (K : Cb → Option α) :
 (jz (Ya L (i : Int)) fun x => jz (Ya x (k : Int)) K) = K (Jl L i k) := by
 rw [Jb hi]
 simp only [jb]
 rw [Jb hk, L5 hi hk]
 rfl
def Hg (L : List (List Cb)) (on : Int) (k : Nat) : Nat → Nat
 | 0 => 0
 | n + 1 => cond ((Kd on ((n + 1 : Nat) : Int) == 1) && ((Jl L (n + 1) k).1 != 1)) (n + 1) (Hg L on k n)
theorem D1 {L : List (List Cb)} {on : Int} {k : Nat} : ∀ n, Hg L on k n ≤ n
 | 0 => jo _
 | n + 1 => by
  simp only [Hg]
  cases ((Kd on ((n + 1 : Nat) : Int) == 1) && ((Jl L (n + 1) k).1 != 1)) with
  | true => exact jo _
  | false => exact Nat.le_succ_of_le (D1 n)
theorem UU {m : Xb} (hm : GO m) (on : Int) {k : Nat} (hk : (k : Int) < m.1) : ∀ n : Nat, n < m.2.1.length →
 Ti ((on, (k : Int), (), (n : Int), ()), (m, ())) = some (cond (Hg m.2.1 on k n == 0) (.inl ((), ())) (.inr ((((Hg m.2.1 on k n : Nat) : Int), ()), ())))
 | 0, _ => by
  unfold Ti
  rw [IN]
  rfl
 | n + 1, h => by
  have hrow := hm.row (n + 1) h
  unfold Ti
  rw [IN]
  simp only [IT]
  rw [Ba (show (((n + 1 : Nat) : Int)) > 0 by omega), Ml on (show (0 : Int) ≤ ((n + 1 : Nat) : Int) by omega)]
  simp only [cond_true, jb]
  rw [Zah h (by omega), Ie (by have := hm.l2; omega) (by have := hm.l2; omega), show (((n + 1 : Nat) : Int) - 1) = (n : Int) by omega]
  have ih := UU hm on hk n (by omega)
  unfold Ti at ih
  simp only [Hg]
  cases h1 : (Kd on ((n + 1 : Nat) : Int) == 1) with
  | false =>
   simp only [qq, cond_false, jb, ql]
   exact ih
  | true =>
   cases h2 : ((Jl m.2.1 (n + 1) k).1 != 1) with
   | true => rfl
   | false =>
    simp only [Bool.and_false, cond_true, cond_false, jb, ql]
    exact ih
theorem TU {m : Xb} (hm : GO m) (on : Int) {k : Nat} (hk : (k : Int) < m.1) :
 XD m on (k : Int) = some (((Hg m.2.1 on k (m.2.1.length - 1) : Nat) : Int), ()) := by
 have h1 := hm.l1
 have h2 := hm.l2
 unfold XD
 rw [Ie (by omega) (by omega), show ((m.2.1.length : Int) - 1) = ((m.2.1.length - 1 : Nat) : Int) by omega, UU hm on hk _ (by omega)]
 cases h : (Hg m.2.1 on k (m.2.1.length - 1) == 0) with
 | false => rfl
 | true =>
  have h' : Hg m.2.1 on k (m.2.1.length - 1) = 0 := by simpa using h
  rw [h']; rfl
theorem HV {m : Xb} (hm : GO m) (on : Int) {k : Nat} (hk : (k : Int) < m.1) : ∀ n : Nat, n < m.2.1.length →
 Ui ((on, (k : Int), (), (n : Int), ()), (m, ())) = some (cond (Hg m.2.1 on k n == 0) (.inl ((), ())) (.inr ((((Hg m.2.1 on k n : Nat) : Int), ()), ())))
 | 0, _ => by
  unfold Ui
  rw [IN]
  rfl
 | n + 1, h => by
  have hrow := hm.row (n + 1) h
  unfold Ui
  rw [IN]
  simp only [ZT]
  rw [Ba (show (((n + 1 : Nat) : Int)) > 0 by omega), Ba (show (0 : Int) ≤ ((n + 1 : Nat) : Int) by omega)]
  simp only [cond_true]
  rw [Zah h (by omega), Ie (by have := hm.l2; omega) (by have := hm.l2; omega), show (((n + 1 : Nat) : Int) - 1) = (n : Int) by omega]
  have ih := HV hm on hk n (by omega)
  unfold Ui at ih
  simp only [Hg]
  show jz (cond (Kd on ((n + 1 : Nat) : Int) == 1) _ _) _ = _
  cases h1 : (Kd on ((n + 1 : Nat) : Int) == 1) with
  | false =>
   simp only [qq, cond_false, jb, ql]
   exact ih
  | true =>
   cases h2 : ((Jl m.2.1 (n + 1) k).1 != 1) with
   | true => rfl
   | false =>
    simp only [Bool.and_false, cond_true, cond_false, jb, ql]
    exact ih
def Oj (m : Xb) (on : Int) (k : Nat) : Nat := Hg m.2.1 on k (m.2.1.length - 1)
theorem VU {m : Xb} (hm : GO m) (on : Int) (k : Nat) : Oj m on k < m.2.1.length := by
 have := D1 (L := m.2.1) (on := on) (k := k) (m.2.1.length - 1)
 have := hm.l1
 unfold Oj
 omega
theorem Caa {m : Xb} (hz : Ha Bc m ≤ Ea) (hv : Bi m = true) (on : Int) {k : Nat} (hk : (k : Int) < m.1) :
 QN m on (k : Int) = some (((Oj m on k : Nat) : Int), ()) := by
 have hm := Nj hv
 have h1 := hm.l1
 have h2 := hm.l2
 have h3 := hm.k2
 unfold QN
 rw [XT m hz, hv, Ie (n := m.1 - 1) (by omega) (by omega)]
 simp only [jb, jg, cond_false, Mc]
 rw [Ba (show (0 : Int) ≤ (k : Int) ∧ (k : Int) ≤ m.1 - 1 by omega), Ie (by omega) (by omega), show ((m.2.1.length : Int) - 1) = ((m.2.1.length - 1 : Nat) : Int) by omega, HV hm on hk _ (by omega)]
 simp only [jg, cond_false, jb]
 show _ = some (((Hg m.2.1 on k (m.2.1.length - 1) : Nat) : Int), ())
 cases h : (Hg m.2.1 on k (m.2.1.length - 1) == 0) with
 | false => rfl
 | true =>
  have h' : Hg m.2.1 on k (m.2.1.length - 1) = 0 := by simpa using h
  rw [h']; rfl
theorem UT {m : Xb} (hz : Ha Bc m ≤ Ea) (hv : Bi m = true) (on : Int) {k : Nat} (hk : (k : Int) < m.1) :
 Qz m on (k : Int) = some (Jl m.2.1 (Oj m on k) k, ()) := by
 have hm := Nj hv
 have hl := VU hm on k
 have hrow := hm.row _ hl
 unfold Qz
 rw [Caa hz hv on hk]
 simp only [jb]
 rw [Aa (by omega)]
 simp only [cond_false]
 rw [Zah hl (by omega)]
noncomputable def Dg (a : Cb) : Bool := Td a && ((a.1 == 6) || (a.1 == 7))
noncomputable def BR (a : Cb) : Cb := cond (Dg a) (2, a.2.1, 0, 0, ()) a
noncomputable def UO (a : Cb) : Cb := cond (Dg a) (cond (a.1 == 6) (2, 0, a.2.2.1, 0, ()) (3, 0, 0, a.2.2.2.1, ())) a
theorem FH (a : Cb) : Mo a = some (Dg a, ()) := by
 unfold Mo Dg
 rw [Dx]
 cases Td a <;> cases (a.1 == 6) <;> rfl
theorem Su (a : Cb) : Fl a = some (Dg a, ()) := by
 unfold Fl Dg
 rw [Gy]
 cases Td a <;> cases (a.1 == 6) <;> rfl
theorem Eae (a : Cb) : DS a = some (BR a, ()) := by
 unfold DS BR
 rw [FH]
 cases Dg a <;> rfl
theorem Sae (a : Cb) : HS a = some (BR a, ()) := by
 unfold HS BR
 rw [Su]
 cases Dg a <;> rfl
theorem Fac (a : Cb) : FQ a = some (UO a, ()) := by
 unfold FQ UO
 rw [Su]
 cases Dg a <;> cases (a.1 == 6) <;> rfl
def Qd {α : Type} (p : α → Bool) : Nat → List α → Int
 | _, [] => -1
 | k, x :: xs => cond (p x) (k : Int) (Qd p (k + 1) xs)
def Cn {α β : Type} : α ⊕ β → Bool
 | .inl _ => true
 | .inr _ => false
noncomputable def JG (s : Int) (x : Ra) : Bool := decide (0 ≤ x.1 ∧ x.1 ≤ 31) && (!(Kd s x.1 == 1) && (Td x.2.1 && (!(x.2.1.1 == 1) && (!(x.2.1.1 == 6) && !(x.2.1.1 == 7)))))
noncomputable def FB (s : Int) (x : Ra) : Int ⊕ Unit := cond (JG s x) (.inl (Nc .i64 s (Qa .i64 1 x.1))) (.inr ())
noncomputable def Gag (l : List Ra) : Int ⊕ Unit := Xc (fun _ s x => FB s x) 0 0 l
noncomputable def Qf (l : List Ra) : Bool := Cn (Gag l)
theorem RF (l : List Ra) (hn : l.length ≤ Ea) : Ll l = some (Qf l, ()) := by
 have h20 : Ea = 1048576 := rfl
 have hl := Dh (step := fun x => HB x.1.1 x.1.2.1 x.1.2.2.1 x.1.2.2.2.1) l (fun _ s x => FB s x) (fun s i => ((s, l, ((ja l : Nat) : Int), i, ()), ()))
  (fun _ => .inl ((), ())) (fun _ => .inr ((false, ()), ())) (fun _ _ => True) (by
   intro k hk s _
   refine ⟨?_, fun _ _ => trivial⟩
   simp only [HB]
   rw [Ba (show (k : Int) < (ja l : Int) by omega), Jb hk]
   simp only [cond_true, jb]
   generalize l[k] = x
   simp only [FB, JG, Dx, jb]
   by_cases h1 : 0 ≤ x.1
   ·rw [Aa (show ¬ x.1 < 0 by omega), Ml s h1]
    by_cases h2 : x.1 ≤ 31
    ·rw [Aa (show ¬ x.1 > 31 by omega), Ba (show 0 ≤ x.1 ∧ x.1 ≤ 31 from ⟨h1, h2⟩), Ba h1]
     simp only [jb, cond_false]
     cases Kd s x.1 == 1 <;> cases Td x.2.1 <;> cases x.2.1.1 == 1 <;> cases x.2.1.1 == 6 <;> cases x.2.1.1 == 7 <;> rfl
    ·rw [Ba (show x.1 > 31 by omega), Aa (show ¬ (0 ≤ x.1 ∧ x.1 ≤ 31) by omega)]; rfl
   ·rw [Ba (show x.1 < 0 by omega), Aa (show ¬ (0 ≤ x.1 ∧ x.1 ≤ 31) by omega)]; rfl)
  (by
   intro s _
   simp only [HB]
   rw [Aa (by omega)]; rfl) (by omega) 0 trivial
 unfold Ll QD
 erw [hl]
 show jz (some _) _ = _
 simp only [jb, Qf, Gag]
 cases Xc (fun x s x => FB s x) 0 0 l <;> rfl
theorem OG (l : List Ra) (hn : l.length ≤ Ea) : Ct l = some (Qf l, ()) := by
 have h20 : Ea = 1048576 := rfl
 have hl := Dh (step := fun x => NC x.1.1 x.1.2.1 x.1.2.2.1) l (fun _ s x => FB s x) (fun s i => ((l, s, i, ()), ()))
  (fun _ => .inl ((), ())) (fun _ => .inr ((false, ()), ())) (fun _ _ => True) (by
   intro k hk s _
   refine ⟨?_, fun _ _ => trivial⟩
   simp only [NC]
   rw [Ba (show (k : Int) < (ja l : Int) by omega), Jb hk]
   simp only [cond_true, jb]
   generalize l[k] = x
   simp only [FB, JG, Gy, Su, Mc, jb, Dg]
   by_cases h1 : 0 ≤ x.1 ∧ x.1 ≤ 31
   ·rw [Ba h1, Ba h1.1]
    simp only [Kd]
    cases Va .i64 (Vb .i64 s x.1) 1 == 1 <;> cases Td x.2.1 <;> cases x.2.1.1 == 1 <;> cases x.2.1.1 == 6 <;> cases x.2.1.1 == 7 <;> rfl
   ·rw [Aa h1]; rfl)
  (by
   intro s _
   simp only [NC]
   rw [Aa (by omega)]; rfl) (by omega) 0 trivial
 unfold Ct SE
 erw [hl]
 show jz (some _) _ = _
 simp only [jb, Qf, Gag]
 cases Xc (fun x s x => FB s x) 0 0 l <;> rfl
structure Zu (x : Ra) : Prop where
 lo : 0 ≤ x.1
 hi : x.1 ≤ 31
 act : Td x.2.1 = true
 n1 : x.2.1.1 ≠ 1
 n6 : x.2.1.1 ≠ 6
 n7 : x.2.1.1 ≠ 7
theorem GaB {s : Int} {x : Ra} (h : JG s x = true) : Zu x ∧ Kd s x.1 ≠ 1 := by
 simp only [JG, jd, decide_eq_true_eq, Bool.not_eq_true', beq_eq_false_iff_ne] at h
 exact ⟨⟨h.1.1, h.1.2, h.2.2.1, h.2.2.2.1, h.2.2.2.2.1, h.2.2.2.2.2⟩, h.2.1⟩
theorem Yah : ∀ {l : List Ra} {k : Nat} {s : Int}, Cn (Xc (fun _ s x => FB s x) k s l) = true → ∀ x ∈ l, Zu x
 | [], _, _, _, x, hx => by simp at hx
 | y :: l, k, s, h, x, hx => by
  simp only [Xc, FB] at h
  cases hc : JG s y with
  | false => rw [hc] at h; simp [Cn] at h
  | true =>
   rw [hc] at h
   simp only [cond_true] at h
   rcases jp.1 hx with rfl | hx
   ·exact (GaB hc).1
   ·exact Yah h x hx
theorem Ho {l : List Ra} (h : Qf l = true) : ∀ x ∈ l, Zu x := Yah h
def Ju (l : List Ra) : Int := Pd (fun _ s (x : Ra) => Nc .i64 s (Qa .i64 1 x.1)) 0 0 l
theorem MK (l : List Ra) (hn : l.length ≤ Ea) (hx : ∀ x ∈ l, Zu x) : Sm l = some (Ju l, ()) := by
 have h20 : Ea = 1048576 := rfl
 have hl := (Ce (step := fun x => Yt x.1.1 x.1.2.1 x.1.2.2.1 x.1.2.2.2.1) l (fun _ s (x : Ra) => Nc .i64 s (Qa .i64 1 x.1)) (fun s i => ((s, l, ((ja l : Nat) : Int), i, ()), ()))
  (fun s => .inl ((s, ()), ())) (fun _ _ => True) (by
   intro k hk s _
   refine ⟨?_, trivial⟩
   simp only [Yt]
   rw [Ba (show (k : Int) < (ja l : Int) by omega), Jb hk]
   simp only [cond_true, jb]
   rw [Ba (hx _ (qs hk)).lo]; rfl)
  (by
   intro s _
   simp only [Yt]
   rw [Aa (by omega)]; rfl) (by omega) 0 trivial).1
 unfold Sm Nx
 erw [hl]
 rfl
theorem W8 {α β : Type} (p : β → Bool) (f : α → β) : ∀ (xs : List α) (k : Nat), Qd p k (xs.map f) = Qd (fun x => p (f x)) k xs
 | [], _ => rfl
 | x :: xs, k => by simp only [List.map_cons, Qd, W8 p f xs]
theorem Lw {α : Type} (p : α → Bool) : ∀ (xs : List α) (k : Nat), Qd p k xs = -1 ∨ ∃ j : Nat, j < xs.length ∧ Qd p k xs = ((k + j : Nat) : Int)
 | [], _ => .inl rfl
 | x :: xs, k => by
  simp only [Qd]
  cases p x with
  | true => exact .inr ⟨0, by simp, by simp⟩
  | false =>
   rcases Lw p xs (k + 1) with h | ⟨j, h1, h2⟩
   ·exact .inl h
   ·exact .inr ⟨j + 1, by simp; omega, by simp only [cond_false]; rw [h2]; omega⟩
theorem L0 {α : Type} (p : α → Bool) : ∀ (xs : List α) (k : Nat), (Xc (fun k (_ : Unit) x => cond (p x) (.inr (k : Int)) (.inl ())) k () xs : Unit ⊕ Int) = if Qd p k xs = -1 then .inl () else .inr (Qd p k xs)
 | [], _ => rfl
 | x :: xs, k => by
  rcases Bool.eq_false_or_eq_true (p x) with hp | hp
  ·simp only [Xc, Qd, hp, cond_true]; rw [if_neg (by omega)]
  ·simp only [Xc, Qd, hp, cond_false]; exact L0 p xs (k + 1)
theorem EA {X R α : Type} {step : X → Option (X ⊕ R)} (xs : List α) (p : α → Bool) (I : Int → X) (no : R) (yes : Int → R)
 (h : ∀ k (hk : k < xs.length), step (I (k : Int)) = some (cond (p xs[k]) (.inr (yes (k : Int))) (.inl (I (j5 .i64 ((k : Int) + 1))))))
 (he : step (I (xs.length : Int)) = some (.inr no)) (hn : xs.length < 9223372036854775807) :
 Ua step (I 0) = some (if Qd p 0 xs = -1 then no else yes (Qd p 0 xs)) := by
 have := Dh (step := step) xs (fun k (_ : Unit) x => cond (p x) (.inr (k : Int)) (.inl ())) (fun _ i => I i) (fun _ => no) yes (fun _ _ => True) (fun k hk s _ => by
  refine ⟨?_, fun _ _ => trivial⟩
  rw [h k hk]
  cases p xs[k] <;> rfl) (fun _ _ => he) hn () trivial
 rw [this, L0]
 by_cases hc : Qd p 0 xs = -1
 ·rw [if_pos hc, if_pos hc]
 ·rw [if_neg hc, if_neg hc]
def Ee (h : Ra) : Wa := (h.2.1.2.1, h.2.1.2.2.1, ())
def Yi (c m : Int) (h : Ra) : Bool := (h.2.1.2.1 == c) && (h.2.1.2.2.1 == m)
theorem HW (l : List Wa) (c : Wa) (hn : l.length ≤ Ea) : BI l c = some (Qd (fun x => EB Zb x c) 0 l, ()) := by
 have h20 : Ea = 1048576 := rfl
 have hl := EA (step := fun x => SB x.1.1 x.1.2.1 x.1.2.2.1 x.1.2.2.2.1 x.2.1) l (fun x => EB Zb x c) (fun i => (((), l, ((ja l : Nat) : Int), i, ()), (c, ())))
  (.inl ((), ())) (fun i => .inr ((i, ()), ())) (by
   intro k hk
   simp only [SB]
   rw [Ba (show (k : Int) < (ja l : Int) by omega), Jb hk]
   simp only [cond_true, jb]
   cases EB Zb l[k] c <;> rfl) (by
   simp only [SB]
   rw [Aa (by omega)]; rfl) (by omega)
 unfold BI YD
 erw [hl]
 simp only [jb]
 by_cases hc : Qd (fun x => EB Zb x c) 0 l = -1
 ·rw [if_pos hc, hc]; rfl
 ·rw [if_neg hc]; rfl
theorem JP (l : List Ra) (x : Zc) (hn : l.length ≤ Ea) : Ko l x = some (Qd (Yi x.2.1 x.2.2.1) 0 l, ()) := by
 have h20 : Ea = 1048576 := rfl
 have hl := EA (step := fun y => AD y.1.1 y.1.2.1 y.1.2.2.1 y.2.1) l (Yi x.2.1 x.2.2.1) (fun i => ((l, (), i, ()), (x, ())))
  (.inl ((), ())) (fun i => .inr ((i, ()), ())) (by
   intro k hk
   simp only [AD]
   rw [Ba (show (k : Int) < (ja l : Int) by omega), Jb hk]
   simp only [cond_true, jb, Yi]
   cases l[k].2.1.2.1 == x.2.1 <;> cases l[k].2.1.2.2.1 == x.2.2.1 <;> rfl) (by
   simp only [AD]
   rw [Aa (by omega)]; rfl) (by omega)
 unfold Ko DF
 erw [hl]
 simp only [jb]
 by_cases hc : Qd (Yi x.2.1 x.2.2.1) 0 l = -1
 ·rw [if_pos hc, hc]; rfl
 ·rw [if_neg hc]; rfl
theorem V9 (L : List Ra) (c m : Int) : Qd (fun x => EB Zb x (c, m, ())) 0 (L.map Ee) = Qd (Yi c m) 0 L := by
 rw [W8]
 congr 1
 funext h
 simp only [Ee, EB, Yi, Bool.and_true]
def Wh {α : Type} (l : List α) (r : Nat) : List α := jf (Eb l 0 r) (Eb l (r + 1) l.length)
theorem H5 {α : Type} {l : List α} {r : Nat} (h : r < l.length) : (Wh l r).length = l.length - 1 := by
 simp [Wh, Eb]; omega
theorem I5 {α β : Type} (f : α → β) (l : List α) (r : Nat) : Wh (l.map f) r = (Wh l r).map f := by
 simp [Wh, Eb, List.map_take, List.map_drop]
 rw [List.take_of_length_le (by simp)]
theorem E0 {α : Type} {l : List α} {r : Nat} (h : r < l.length) : Ld (ja l) 0 (r : Int) = true ∧ Ld (ja l) ((r + 1 : Nat) : Int) ((ja l : Nat) : Int) = true := by
 simp only [Ld, jd, decide_eq_true_eq]
 omega
theorem SH (l : List Ra) {r : Nat} (h : r < l.length) (hn : l.length ≤ Ea) : Ng l (r : Int) = some (Wh l r, ()) := by
 have h20 : Ea = 1048576 := rfl
 have hc := E0 h
 unfold Ng
 rw [Jc (by omega), hc.1, hc.2]
 have e1 : jx (ja ([] : List Ra) + ja (Eb l (jy 0) (jy (r : Int)))) Sa = true := ji (by simp [Eb]; rw [Ud]; omega)
 have e2 : jx (ja (jf ([] : List Ra) (Eb l (jy 0) (jy (r : Int)))) + ja (Eb l (jy ((r + 1 : Nat) : Int)) (jy ((ja l : Nat) : Int)))) Sa = true :=
  ji (by simp [Eb]; rw [Ud]; omega)
 rw [e1, e2]
 simp only [cond_true]
 rfl
noncomputable def JA (x : Zc) (r : Int) : Bool := Td (2, x.2.1, x.2.2.1, 0, ()) && (((x.1 == 0) && !decide (r ≥ 0)) || (((x.1 == 1) && !decide (r ≥ 0)) || ((x.1 == 2) && decide (r ≥ 0))))
def Ki (x : Zc) : Ra := (0, (2, x.2.1, x.2.2.1, 0, ()), ())
def NR (x : Zc) (L : List Ra) (r : Int) : List Ra := cond (x.1 == 1) (jf L [Ki x]) (cond (x.1 == 2) (Wh L r.toNat) L)
noncomputable def Wv (L : List Ra) (x : Zc) : List Ra ⊕ Unit := cond (JA x (Qd (Yi x.2.1 x.2.2.1) 0 L)) (.inl (NR x L (Qd (Yi x.2.1 x.2.2.1) 0 L))) (.inr ())
theorem Sab {L L' : List Ra} {x : Zc} (h : Wv L x = .inl L') : L'.length ≤ L.length + 1 := by
 unfold Wv at h
 cases hc : JA x (Qd (Yi x.2.1 x.2.2.1) 0 L) with
 | false => rw [hc] at h; simp at h
 | true =>
  rw [hc] at h
  simp only [cond_true, Sum.inl.injEq] at h
  rw [← h]
  unfold NR
  cases x.1 == 1 with
  | true => simp
  | false =>
   cases x.1 == 2 with
   | true => simp [Wh, Eb]; omega
   | false => simp
theorem Vae (l : List Zc) (k : Nat) (hk : k < l.length) (L : List Ra) (hL : L.length ≤ k) (hn : l.length ≤ Ea) :
 Hp l L (k : Int) = some (match Wv L l[k] with | .inl L' => .inl ((l, L', j5 .i64 ((k : Int) + 1), ()), ()) | .inr _ => .inr (.inr ((false, ()), ()))) := by
 have h20 : Ea = 1048576 := rfl
 simp only [Hp]
 rw [Ba (show (k : Int) < (ja l : Int) by omega), Jb hk]
 simp only [cond_true, jb]
 rw [JP L l[k] (by omega)]
 simp only [jb, Mc, Qq, Gy, Wv, JA, NR, Ki]
 generalize hx : l[k] = x
 generalize hr : Qd (Yi x.2.1 x.2.2.1) 0 L = r
 have hble : jx (ja L + ja [Ki x]) Sa = true := ji (by simp [Ud]; omega)
 have hble' : jx (ja L + ja ([((0 : Int), ((2 : Int), x.2.1, x.2.2.1, (0 : Int), ()), ())] : List Ra)) Sa = true := hble
 have hw : decide (r ≥ 0) = true → Ng L r = some (Wh L r.toNat, ()) := by
  intro h
  rcases Lw (Yi x.2.1 x.2.2.1) L 0 with h1 | ⟨j, h1, h2⟩
  ·rw [hr] at h1; rw [h1] at h; simp at h
  ·rw [hr] at h2
   have : r = (j : Int) := by omega
   rw [this, SH L h1 (by omega)]
   simp
 by_cases k0 : x.1 = 0
 ·simp only [k0]
  cases Td ((2 : Int), x.2.1, x.2.2.1, (0 : Int), ()) <;> cases decide (r ≥ 0) <;> rfl
 by_cases k1 : x.1 = 1
 ·simp only [k1]
  rw [hble']
  cases Td ((2 : Int), x.2.1, x.2.2.1, (0 : Int), ()) <;> cases decide (r ≥ 0) <;> rfl
 by_cases k2 : x.1 = 2
 ·simp only [k2]
  cases hd : decide (r ≥ 0) with
  | false => cases Td ((2 : Int), x.2.1, x.2.2.1, (0 : Int), ()) <;> rfl
  | true =>
   rw [hw hd]
   cases Td ((2 : Int), x.2.1, x.2.2.1, (0 : Int), ()) <;> rfl
 ·have e0 : (x.1 == 0) = false := by simpa using k0
  have e1 : (x.1 == 1) = false := by simpa using k1
  have e2 : (x.1 == 2) = false := by simpa using k2
  rw [Aa (show ¬ (0 ≤ x.1 ∧ x.1 ≤ 2) by omega), e0, e1, e2]
  cases Td ((2 : Int), x.2.1, x.2.2.1, (0 : Int), ()) <;> rfl
theorem Hae (l : List Zc) (k : Nat) (hk : k < l.length) (L : List Ra) (hL : L.length ≤ k) (hn : l.length ≤ Ea) :
 Wo (L.map Ee) l ((ja l : Nat) : Int) (k : Int) =
  some (match Wv L l[k] with | .inl L' => .inl ((L'.map Ee, l, ((ja l : Nat) : Int), j5 .i64 ((k : Int) + 1), ()), ()) | .inr _ => .inr (.inr ((false, ()), ()))) := by
 have h20 : Ea = 1048576 := rfl
 simp only [Wo]
 rw [Ba (show (k : Int) < (ja l : Int) by omega), Jb hk]
 simp only [cond_true, jb]
 rw [HW (L.map Ee) _ (by simp; omega), V9]
 simp only [jb, Dx, Wv, JA, NR, Ki]
 generalize hx : l[k] = x
 generalize hr : Qd (Yi x.2.1 x.2.2.1) 0 L = r
 have hble : jx (ja (L.map Ee) + ja ([(x.2.1, x.2.2.1, ())] : List Wa)) Sa = true := ji (by simp [Ud]; omega)
 have happ : jf (L.map Ee) ([(x.2.1, x.2.2.1, ())] : List Wa) = (jf L [((0 : Int), ((2 : Int), x.2.1, x.2.2.1, (0 : Int), ()), ())]).map Ee := by
  show _ ++ _ = List.map Ee (_ ++ _)
  rw [List.map_append]; rfl
 by_cases k0 : x.1 = 0
 ·simp only [k0]
  cases Td ((2 : Int), x.2.1, x.2.2.1, (0 : Int), ()) <;> cases decide (r ≥ 0) <;> rfl
 by_cases k1 : x.1 = 1
 ·simp only [k1]
  rw [hble, happ]
  cases Td ((2 : Int), x.2.1, x.2.2.1, (0 : Int), ()) <;> cases decide (r ≥ 0) <;> rfl
 by_cases k2 : x.1 = 2
 ·simp only [k2]
  rcases Lw (Yi x.2.1 x.2.2.1) L 0 with h1 | ⟨j, h1, h2⟩
  ·rw [hr] at h1
   rw [h1]
   cases Td ((2 : Int), x.2.1, x.2.2.1, (0 : Int), ()) <;> rfl
  ·rw [hr] at h2
   have hrj : r = (j : Int) := by omega
   rw [hrj]
   have hj : j < (L.map Ee).length := by simpa using h1
   have hc := E0 hj
   rw [Jc (k := j) (by omega), hc.1, hc.2, Aa (show ¬ (j : Int) < 0 by omega), Ba (show (j : Int) ≥ 0 by omega)]
   have e1 : jx (ja (Eb (L.map Ee) (jy 0) (jy (j : Int))) + ja (Eb (L.map Ee) (jy ((j + 1 : Nat) : Int)) (jy ((ja (L.map Ee) : Nat) : Int)))) Sa = true :=
    ji (by simp [Eb]; rw [Ud]; omega)
   have e2 : jf (Eb (L.map Ee) (jy 0) (jy (j : Int))) (Eb (L.map Ee) (jy ((j + 1 : Nat) : Int)) (jy ((ja (L.map Ee) : Nat) : Int))) = (Wh L (jy (j : Int))).map Ee := by
    rw [← I5]
    simp [Wh]
   rw [e1, e2]
   cases Td ((2 : Int), x.2.1, x.2.2.1, (0 : Int), ()) <;> rfl
 ·have e0 : (x.1 == 0) = false := by simpa using k0
  have e1 : (x.1 == 1) = false := by simpa using k1
  have e2 : (x.1 == 2) = false := by simpa using k2
  rw [e0, e1, e2]
  cases Td ((2 : Int), x.2.1, x.2.2.1, (0 : Int), ()) <;> rfl
noncomputable def Xai (l : List Zc) : List Ra ⊕ Unit := Xc (fun _ L x => Wv L x) 0 [] l
noncomputable def Cg (l : List Zc) : Bool := decide (l.length ≤ 8) && (match Xai l with | .inl L => ((L.length : Int) == 0) | .inr _ => false)
theorem FV (l : List Zc) (hn : l.length ≤ Ea) : TE l = some (Cg l, ()) := by
 have h20 : Ea = 1048576 := rfl
 have hl := Dh (step := fun x => Hp x.1.1 x.1.2.1 x.1.2.2.1) l (fun _ L x => Wv L x) (fun L i => ((l, L, i, ()), ()))
  (fun L => .inl ((l, L, ()), ())) (fun _ => .inr ((false, ()), ())) (fun k L => L.length ≤ k) (by
   intro k hk L hL
   refine ⟨?_, fun L' h => by have := Sab h; omega⟩
   rw [Vae l k hk L hL hn]
   cases Wv L l[k] <;> rfl) (by
   intro s _
   simp only [Hp]
   rw [Aa (by omega)]; rfl) (by omega) [] (by simp)
 unfold TE WA
 erw [hl]
 simp only [jb, Cg, Xai]
 cases Xc (fun x L x => Wv L x) 0 [] l with
 | inl L =>
  simp only [ql]
  by_cases h : l.length ≤ 8
  ·rw [Ba (show ((ja l : Nat) : Int) ≤ 8 by omega), Ba h]; rfl
  ·rw [Aa (show ¬ ((ja l : Nat) : Int) ≤ 8 by omega), Aa h]; rfl
 | inr u => cases decide (l.length ≤ 8) <;> rfl
theorem OU (l : List Zc) (hn : l.length ≤ Ea) : RD l = some (Cg l, ()) := by
 have h20 : Ea = 1048576 := rfl
 unfold RD Cg
 by_cases h : l.length ≤ 8
 ·rw [Aa (show ¬ ((ja l : Nat) : Int) > 8 by omega), Ba h]
  have hl := Dh (step := fun x => Wo x.1.1 x.1.2.1 x.1.2.2.1 x.1.2.2.2.1) l (fun _ L x => Wv L x) (fun L i => ((L.map Ee, l, ((ja l : Nat) : Int), i, ()), ()))
   (fun L => .inl ((L.map Ee, ()), ())) (fun _ => .inr ((false, ()), ())) (fun k L => L.length ≤ k) (by
    intro k hk L hL
    refine ⟨?_, fun L' h => by have := Sab h; omega⟩
    rw [Hae l k hk L hL hn]
    cases Wv L l[k] <;> rfl) (by
    intro s _
    simp only [Wo]
    rw [Aa (by omega)]; rfl) (by omega) [] (by simp)
  unfold PA
  erw [hl]
  simp only [Xai]
  cases Xc (fun x L x => Wv L x) 0 [] l with
  | inl L =>
   show some _ = some _
   simp only [List.length_map]
   rfl
  | inr u => rfl
 ·rw [Ba (show ((ja l : Nat) : Int) > 8 by omega), Aa h]; rfl
noncomputable def Kq (keys : Int) (nl : Nat) (x : Ra) : Bool := !decide (x.1 ≥ keys) && !((x.2.1.1 != 9) && decide (x.2.1.2.2.2.1 ≥ (nl : Int)))
noncomputable def Lj (e : Hb) : Bool :=
 Bi e.1 && (decide (e.2.1.length ≤ 4) && (Qf e.2.2.2.1 && (Le (fun _ m => Cg m) 0 e.2.1 && (Le (fun _ x => Kq e.1.1 e.1.2.1.length x) 0 e.2.2.2.1 &&
  (decide (0 ≤ e.2.2.1 ∧ e.2.2.1 < ((2 ^ e.1.2.1.length : Nat) : Int)) && ((Int.tmod e.2.2.1 2 == 0) && decide (0 ≤ e.2.2.2.2.1 ∧ e.2.2.2.2.1 ≤ 15)))))))
theorem Ul (e : Hb) : Ha Dc e = Ha Bc e.1 + (Ha (.sl (.sl Kc)) e.2.1 + Ha (.sl Of) e.2.2.2.1) := by
 simp only [Ha, Nat.add_zero, js]
theorem Gl (l : List Ra) : Ha (.sl Of) l = l.length := Hl (e := Of) rfl l
theorem Qac (l : List Zc) : Ha (.sl Kc) l = l.length := Hl (e := Kc) rfl l
theorem Jar {e : Ty} (l : List (T e)) : ja l ≤ Ha (.sl e) l := Nat.le_add_right _ _
theorem ZaB {e : Ty} {l : List (T e)} {k : Nat} (hk : k < ja l) : Ha e (List.get l ⟨k, hk⟩) ≤ Ha (.sl e) l :=
 qc (Yy (f := Ha e) hk) (Nat.le_add_left _ _)
theorem F9 (e : Hb) (hz : Ha Dc e ≤ Ea) : Mn (((), e.2.1, ((ja e.2.1 : Nat) : Int), (0 : Int), ()), (e, ())) =
 some (cond (Le (fun _ m => Cg m) 0 e.2.1) (.inl (((), ()), (e, ()))) (.inr ((false, ()), ()))) := by
 have h20 : Ea = 1048576 := rfl
 rw [Ul] at hz
 have hl := Jar (e := .sl Kc) e.2.1
 unfold Mn
 refine Jf (step := fun x => Vt x.1.1 x.1.2.1 x.1.2.2.1 x.1.2.2.2.1 x.2.1) e.2.1 (fun _ m => Cg m) (fun i => (((), e.2.1, ((ja e.2.1 : Nat) : Int), i, ()), (e, ()))) _ _ ?_ ?_ (by omega)
 ·intro k hk
  simp only [Vt]
  have hk2 : (k : Int) < ((ja e.2.1 : Nat) : Int) := by omega
  rw [Ba hk2, Jb hk]
  simp only [cond_true, jb]
  have he := ZaB (e := .sl Kc) hk
  rw [Qac] at he
  rw [OU e.2.1[k] (by have : (List.get e.2.1 ⟨k, hk⟩) = e.2.1[k] := rfl; rw [this] at he; omega)]
  simp only [jb]
  cases Cg e.2.1[k] <;> rfl
 ·simp only [Vt]
  rw [Aa (by omega)]; rfl
theorem Faa (e : Hb) (hz : Ha Dc e ≤ Ea) : Yn (((), (0 : Int), ()), (e, ())) =
 some (cond (Le (fun _ m => Cg m) 0 e.2.1) (.inl (((), ()), (e, ()))) (.inr ((false, ()), ()))) := by
 have h20 : Ea = 1048576 := rfl
 rw [Ul] at hz
 have hl := Jar (e := .sl Kc) e.2.1
 unfold Yn
 refine Jf (step := fun x => Pu x.1.1 x.1.2.1 x.2.1) e.2.1 (fun _ m => Cg m) (fun i => (((), i, ()), (e, ()))) _ _ ?_ ?_ (by omega)
 ·intro k hk
  simp only [Pu]
  have hk2 : (k : Int) < ((ja e.2.1 : Nat) : Int) := by omega
  rw [Ba hk2, Jb hk]
  simp only [cond_true, jb]
  have he := ZaB (e := .sl Kc) hk
  rw [Qac] at he
  rw [FV e.2.1[k] (by have : (List.get e.2.1 ⟨k, hk⟩) = e.2.1[k] := rfl; rw [this] at he; omega)]
  simp only [jb]
  cases Cg e.2.1[k] <;> rfl
 ·simp only [Pu]
  rw [Aa (by omega)]; rfl
theorem Fae (e : Hb) (hz : Ha Dc e ≤ Ea) : Em (((), ((ja e.1.2.1 : Nat) : Int), e.2.2.2.1, ((ja e.2.2.2.1 : Nat) : Int), (0 : Int), ()), (e, ())) =
 some (cond (Le (fun _ x => Kq e.1.1 e.1.2.1.length x) 0 e.2.2.2.1) (.inl (((), ((ja e.1.2.1 : Nat) : Int), ()), (e, ()))) (.inr ((false, ()), ()))) := by
 have h20 : Ea = 1048576 := rfl
 rw [Ul, Gl] at hz
 unfold Em
 refine Jf (step := fun x => Ar x.1.1 x.1.2.1 x.1.2.2.1 x.1.2.2.2.1 x.1.2.2.2.2.1 x.2.1) e.2.2.2.1 (fun _ x => Kq e.1.1 e.1.2.1.length x)
  (fun i => (((), ((ja e.1.2.1 : Nat) : Int), e.2.2.2.1, ((ja e.2.2.2.1 : Nat) : Int), i, ()), (e, ()))) _ _ ?_ ?_ (by omega)
 ·intro k hk
  simp only [Ar]
  have hk2 : (k : Int) < ((ja e.2.2.2.1 : Nat) : Int) := by omega
  rw [Ba hk2, Jb hk]
  simp only [cond_true, jb, Kq]
  cases decide (e.2.2.2.1[k].1 ≥ e.1.1) <;> cases (e.2.2.2.1[k].2.1.1 != 9) <;> cases decide (e.2.2.2.1[k].2.1.2.2.2.1 ≥ ((ja e.1.2.1 : Nat) : Int)) <;> rfl
 ·simp only [Ar]
  rw [Aa (by omega)]; rfl
theorem Uae (e : Hb) (hz : Ha Dc e ≤ Ea) : Zn (((), (0 : Int), ()), (e, ())) =
 some (cond (Le (fun _ x => Kq e.1.1 e.1.2.1.length x) 0 e.2.2.2.1) (.inl (((), ()), (e, ()))) (.inr ((false, ()), ()))) := by
 have h20 : Ea = 1048576 := rfl
 rw [Ul, Gl] at hz
 unfold Zn
 refine Jf (step := fun x => Qu x.1.1 x.1.2.1 x.2.1) e.2.2.2.1 (fun _ x => Kq e.1.1 e.1.2.1.length x) (fun i => (((), i, ()), (e, ()))) _ _ ?_ ?_ (by omega)
 ·intro k hk
  simp only [Qu]
  have hk2 : (k : Int) < ((ja e.2.2.2.1 : Nat) : Int) := by omega
  rw [Ba hk2, Jb hk]
  simp only [cond_true, jb, Kq]
  cases decide (e.2.2.2.1[k].1 ≥ e.1.1) <;> cases (e.2.2.2.1[k].2.1.1 != 9) <;> cases decide (e.2.2.2.1[k].2.1.2.2.2.1 ≥ ((ja e.1.2.1 : Nat) : Int)) <;> rfl
 ·simp only [Qu]
  rw [Aa (by omega)]; rfl
theorem M6 (e : Hb) (hz : Ha Dc e ≤ Ea) : CJ e = some (Lj e, ()) := by
 have h20 : Ea = 1048576 := rfl
 have hz' := hz
 rw [Ul, Gl] at hz'
 unfold CJ Lj
 rw [ET e.1 (by omega)]
 cases hk : Bi e.1 with
 | false => rfl
 | true =>
  simp only [jb, jg, cond_false, jk]
  by_cases h4 : e.2.1.length ≤ 4
  ·rw [Aa (show ¬ ((ja e.2.1 : Nat) : Int) > 4 by omega), Ba h4, RF _ (by omega)]
   simp only [jb, cond_false, jk]
   cases hh : Qf e.2.2.2.1 with
   | false => rfl
   | true =>
    simp only [jg, cond_false, jk]
    rw [F9 e hz]
    have hl := (Nj hk).l2
    by_cases ho : 0 ≤ e.2.2.2.2.1 ∧ e.2.2.2.2.1 ≤ 15
    ·rw [Aa (show ¬ e.2.2.2.2.1 < 0 by omega), Aa (show ¬ e.2.2.2.2.1 > 15 by omega), Ba ho]
     simp only [cond_false, jb, Bool.and_true]
     cases Le (fun _ m => Cg m) 0 e.2.1 with
     | false => rfl
     | true =>
      simp only [cond_true, ql, jk]
      rw [Fae e hz]
      cases Le (fun _ x => Kq e.1.1 e.1.2.1.length x) 0 e.2.2.2.1 with
      | false => rfl
      | true =>
       simp only [cond_true, jb, ql, jk]
       rw [Cl (by omega), Ba (show (0 : Int) ≤ ((ja e.1.2.1 : Nat) : Int) by omega)]
       have e2 : ((2 : Int) == 0) = false := rfl
       rw [e2]
       simp only [cond_false, cond_true]
       by_cases hf : 0 ≤ e.2.2.1
       ·rw [Ba (show e.2.2.1 ≥ 0 from hf)]
        by_cases hf2 : e.2.2.1 < ((2 ^ e.1.2.1.length : Nat) : Int)
        ·rw [Ba hf2, Ba (show 0 ≤ e.2.2.1 ∧ e.2.2.1 < ((2 ^ e.1.2.1.length : Nat) : Int) from ⟨hf, hf2⟩)]
         cases Int.tmod e.2.2.1 2 == 0 <;> rfl
        ·rw [Aa hf2, Aa (show ¬ (0 ≤ e.2.2.1 ∧ e.2.2.1 < ((2 ^ e.1.2.1.length : Nat) : Int)) from fun h => hf2 h.2)]
         cases Int.tmod e.2.2.1 2 == 0 <;> rfl
       ·rw [Aa (show ¬ e.2.2.1 ≥ 0 from hf), Aa (show ¬ (0 ≤ e.2.2.1 ∧ e.2.2.1 < ((2 ^ e.1.2.1.length : Nat) : Int)) from fun h => hf h.1)]
        rfl
    ·have hr : (Le (fun _ m => Cg m) 0 e.2.1 && (Le (fun _ x => Kq e.1.1 e.1.2.1.length x) 0 e.2.2.2.1 && (decide (0 ≤ e.2.2.1 ∧ e.2.2.1 < ((2 ^ e.1.2.1.length : Nat) : Int)) && ((Int.tmod e.2.2.1 2 == 0) && decide (0 ≤ e.2.2.2.2.1 ∧ e.2.2.2.2.1 ≤ 15))))) = false := by
      rw [Aa ho]; simp
     rw [hr]
     by_cases h1 : e.2.2.2.2.1 < 0
     ·rw [Ba h1]; rfl
     ·rw [Aa h1, Ba (show e.2.2.2.2.1 > 15 by omega)]; rfl
  ·rw [Ba (show ((ja e.2.1 : Nat) : Int) > 4 by omega), Aa h4]; rfl
theorem WK (e : Hb) (hz : Ha Dc e ≤ Ea) : Pq e = some (Lj e, ()) := by
 have h20 : Ea = 1048576 := rfl
 have hz' := hz
 rw [Ul, Gl] at hz'
 unfold Pq Lj
 rw [XT e.1 (by omega)]
 cases hk : Bi e.1 with
 | false => rfl
 | true =>
  simp only [jb, jg, cond_false, jk]
  by_cases h4 : e.2.1.length ≤ 4
  ·rw [Aa (show ¬ ((ja e.2.1 : Nat) : Int) > 4 by omega), Ba h4, OG _ (by omega)]
   simp only [jb, cond_false, jk]
   cases hh : Qf e.2.2.2.1 with
   | false => rfl
   | true =>
    simp only [jg, cond_false, jk]
    rw [Faa e hz]
    have hl := (Nj hk).l2
    cases Le (fun _ m => Cg m) 0 e.2.1 with
    | false => rfl
    | true =>
     simp only [cond_true, jb, ql, jk]
     rw [Uae e hz]
     cases Le (fun _ x => Kq e.1.1 e.1.2.1.length x) 0 e.2.2.2.1 with
     | false => rfl
     | true =>
      simp only [cond_true, jb, ql, jk, Mc]
      have hp : (2 ^ e.1.2.1.length : Nat) ≤ 16 := qn (n := 2) (by omega) hl
      rw [Cl (by omega), Ba (show (0 : Int) ≤ ((ja e.1.2.1 : Nat) : Int) by omega)]
      generalize (2 ^ e.1.2.1.length : Nat) = P2 at hp ⊢
      rw [Ie (by omega) (by omega)]
      have e2 : ((2 : Int) == 0) = false := rfl
      rw [e2]
      simp only [cond_false, cond_true, jb]
      have e3 : decide (0 ≤ e.2.2.1 ∧ e.2.2.1 ≤ (P2 : Int) - 1) = decide (0 ≤ e.2.2.1 ∧ e.2.2.1 < (P2 : Int)) := by
       rw [decide_eq_decide]; omega
      rw [e3]
      cases decide (0 ≤ e.2.2.1 ∧ e.2.2.1 < (P2 : Int)) <;> cases Int.tmod e.2.2.1 2 == 0 <;> rfl
  ·rw [Ba (show ((ja e.2.1 : Nat) : Int) > 4 by omega), Aa h4]; rfl
def Sh (x : Ca) : Bool := decide (0 ≤ x.1 ∧ x.1 ≤ 1000000) && decide (0 ≤ x.2.1 ∧ x.2.1 ≤ 31)
theorem JM (x : Ca) : Jv x = some (Sh x, ()) := by
 unfold Jv Sh
 simp only [Gh, Hh]
 apply Yc
 simp only [Od, decide_eq_true_eq, jq, and_false, or_false, jd]
 omega
theorem PN (x : Ca) : Aw x = some (Sh x, ()) := by
 unfold Aw Sh
 simp only [Mc, jb, Gh, Hh]
 apply Yc
 simp only [Od, decide_eq_true_eq, jq, and_false, or_false, jd]
def Fv (s : Int × Int) (x : Ca) : Bool := Sh x && (!decide (s.1 > x.1) && !(x.2.2.1 == (Kd s.2 x.2.1 == 1)))
def Ev (s : Int × Int) (x : Ca) : (Int × Int) ⊕ Unit := cond (Fv s x) (.inl (x.1, Za .i64 s.2 (Qa .i64 1 x.2.1))) (.inr ())
def Naw (l : List Ca) (d : Int) : (Int × Int) ⊕ Unit := Xc (fun _ s x => Ev s x) 0 (0, d) l
def SO (l : List Ca) (d : Int) : Int × Bool := cond (decide (l.length ≤ 64)) (match Naw l d with | .inl s => (s.2, true) | .inr _ => (0, false)) (0, false)
theorem Kk {x : Ca} (h : Sh x = true) : 0 ≤ x.1 ∧ x.1 ≤ 1000000 ∧ 0 ≤ x.2.1 ∧ x.2.1 ≤ 31 := by
 simp only [Sh, jd, decide_eq_true_eq] at h
 omega
theorem Mab (l : List Ca) (d : Int) (hn : l.length ≤ Ea) : AQ l d = some ((SO l d).1, (SO l d).2, ()) := by
 have h20 : Ea = 1048576 := rfl
 unfold AQ SO
 by_cases h64 : l.length ≤ 64
 ·rw [Aa (show ¬ ((ja l : Nat) : Int) > 64 by omega), Ba h64]
  have hl := Dh (step := fun x => QB x.1.1 x.1.2.1 x.1.2.2.1 x.1.2.2.2.1 x.1.2.2.2.2.1) l (fun _ s x => Ev s x) (fun s i => ((l, s.2, l, ((ja l : Nat) : Int), i, ()), ()))
   (fun s => .inl ((s.2, ()), ())) (fun _ => .inr (((0 : Int), false, ()), ())) (fun k s => (k = 0 → s.1 = 0) ∧ ∀ hk : k - 1 < l.length, 0 < k → s.1 = l[k - 1].1) (by
    intro k hk s ⟨hs0, hs1⟩
    refine ⟨?_, ?_⟩
    ·simp only [QB]
     rw [Ba (show (k : Int) < ((ja l : Nat) : Int) by omega), Jb hk]
     simp only [cond_true, jb, JM, Ev, Fv]
     generalize hx : l[k] = x
     cases hev : Sh x with
     | false => rfl
     | true =>
      have hkey := Kk hev
      simp only [jg, cond_false, jk]
      rw [Ml s.2 hkey.2.2.1, Ba hkey.2.2.1]
      simp only [jb, cond_true]
      by_cases h0 : k = 0
      ·subst h0
       rw [Aa (show ¬ ((0 : Nat) : Int) > 0 by omega), Aa (show ¬ s.1 > x.1 by rw [hs0 rfl]; omega)]
       cases (x.2.2.1 == (Kd s.2 x.2.1 == 1)) <;> rfl
      ·rw [Ba (show (k : Int) > 0 by omega), Ie (by omega) (by omega), show (k : Int) - 1 = ((k - 1 : Nat) : Int) by omega, Jb (show k - 1 < l.length by omega)]
       rw [hs1 (by omega) (by omega)]
       simp only [jb, cond_true]
       cases decide (l[k - 1].1 > x.1) <;> cases (x.2.2.1 == (Kd s.2 x.2.1 == 1)) <;> rfl
    ·intro s' h
     unfold Ev at h
     cases hc : Fv s l[k] with
     | false => rw [hc] at h; simp at h
     | true =>
      rw [hc] at h
      simp only [cond_true, Sum.inl.injEq] at h
      refine ⟨by omega, fun _ _ => ?_⟩
      rw [← h]
      simp only [Nat.add_sub_cancel])
   (by
    intro s _
    simp only [QB]
    rw [Aa (by omega)]; rfl) (by omega) (0, d) ⟨fun _ => rfl, fun _ h => absurd h (by omega)⟩
  unfold VD
  erw [hl]
  simp only [cond_false, jb, Naw, cond_true]
  cases Xc (fun x s x => Ev s x) 0 (0, d) l <;> rfl
 ·rw [Ba (show ((ja l : Nat) : Int) > 64 by omega), Aa h64]; rfl
def M9 (keys : Int) (l : List Ca) : Bool := Le (fun _ (x : Ca) => !decide (x.2.1 ≥ keys)) 0 l
def Rd (q : List Ca) (d keys : Int) : Bool := M9 keys q && (SO q d).2
theorem Au (q : List Ca) (d keys : Int) (hn : q.length ≤ Ea) : Ii q d keys = some (Rd q d keys, ()) := by
 have h20 : Ea = 1048576 := rfl
 have hl := Jf (step := fun x => Gr x.1.1 x.1.2.1 x.1.2.2.1 x.1.2.2.2.1 x.1.2.2.2.2.1 x.1.2.2.2.2.2.1) q (fun _ (x : Ca) => !decide (x.2.1 ≥ keys)) (fun i => ((q, d, keys, q, ((ja q : Nat) : Int), i, ()), ()))
  (.inl ((q, d, ()), ())) (.inr ((false, ()), ())) (by
   intro k hk
   simp only [Gr]
   rw [Ba (show (k : Int) < ((ja q : Nat) : Int) by omega), Jb hk]
   simp only [cond_true, jb]
   cases decide (q[k].2.1 ≥ keys) <;> rfl) (by
   simp only [Gr]
   rw [Aa (by omega)]; rfl) (by omega)
 unfold Ii Qv Rd M9
 erw [hl]
 simp only [jb]
 cases Le (fun _ (x : Ca) => !decide (x.2.1 ≥ keys)) 0 q with
 | false => rfl
 | true => simp only [cond_true, ql, Mab q d hn, jb]; rfl
def B3 (keys : Int) (s : Int × Int) (x : Ca) : (Int × Int) ⊕ Unit := cond (Fv s x && !decide (x.2.1 ≥ keys)) (.inl (x.1, Za .i64 s.2 (Qa .i64 1 x.2.1))) (.inr ())
theorem N4 (keys : Int) : ∀ (l : List Ca) (k : Nat) (s : Int × Int), Cn (Xc (fun _ s x => B3 keys s x) k s l) = (Le (fun _ (x : Ca) => !decide (x.2.1 ≥ keys)) k l && Cn (Xc (fun _ s x => Ev s x) k s l))
 | [], _, _ => rfl
 | x :: l, k, s => by
  simp only [Xc, Le, B3, Ev]
  cases Fv s x with
  | false => simp [Cn]
  | true =>
   cases decide (x.2.1 ≥ keys) with
   | true => simp [Cn]
   | false => simp only [jk, qa, cond_true]; exact N4 keys l (k + 1) _
theorem Is (q : List Ca) (d keys : Int) (hn : q.length ≤ Ea) : Fk q d keys 0 = some (Rd q d keys, ()) := by
 have h20 : Ea = 1048576 := rfl
 have hl := Dh (step := fun x => Aq x.1.1 x.1.2.1 x.1.2.2.1 x.1.2.2.2.1 x.1.2.2.2.2.1) q (fun _ s x => B3 keys s x) (fun s i => ((q, s.2, keys, s.1, i, ()), ()))
  (fun s => .inl ((q, ()), ())) (fun _ => .inr ((false, ()), ())) (fun _ _ => True) (by
   intro k hk s _
   refine ⟨?_, fun _ _ => trivial⟩
   simp only [Aq]
   rw [Ba (show (k : Int) < ((ja q : Nat) : Int) by omega), Jb hk]
   simp only [cond_true, jb, PN, B3, Fv]
   generalize q[k] = x
   cases hev : Sh x with
   | false => rfl
   | true =>
    have hkey := Kk hev
    simp only [jg, cond_false, jk, Kd]
    rw [Ba hkey.2.2.1]
    simp only [gt_iff_lt]
    cases decide (x.2.1 ≥ keys) <;> cases decide (x.1 < s.1) <;> cases (x.2.2.1 == (Va .i64 (Vb .i64 s.2 x.2.1) 1 == 1)) <;> rfl)
  (by
   intro s _
   simp only [Aq]
   rw [Aa (by omega)]; rfl) (by omega) (0, d) trivial
 unfold Fk Gt
 erw [hl]
 have hsp := N4 keys q 0 (0, d)
 simp only [jb, Rd, M9, SO, Naw]
 by_cases h64 : q.length ≤ 64
 ·rw [Ba h64]
  cases h1 : Xc (fun _ s x => B3 keys s x) 0 (0, d) q with
  | inl s =>
   rw [h1] at hsp
   simp only [Cn] at hsp
   cases h2 : Xc (fun _ s x => Ev s x) 0 (0, d) q with
   | inl s2 =>
    rw [h2] at hsp
    simp only [Cn, Bool.and_true] at hsp
    rw [← hsp]
    simp only [ql]
    rw [Ba (show ((ja q : Nat) : Int) ≤ 64 by omega)]; rfl
   | inr u => rw [h2] at hsp; simp [Cn] at hsp
  | inr u =>
   rw [h1] at hsp
   simp only [Cn] at hsp
   cases h2 : Xc (fun _ s x => Ev s x) 0 (0, d) q with
   | inl s2 =>
    rw [h2] at hsp
    simp only [Cn, Bool.and_true] at hsp
    rw [← hsp]; rfl
   | inr u => cases Le (fun _ (x : Ca) => !decide (x.2.1 ≥ keys)) 0 q <;> rfl
 ·rw [Aa h64]
  cases h1 : Xc (fun _ s x => B3 keys s x) 0 (0, d) q with
  | inl s => simp only [ql]; rw [Aa (show ¬ ((ja q : Nat) : Int) ≤ 64 by omega)]; cases Le (fun _ (x : Ca) => !decide (x.2.1 ≥ keys)) 0 q <;> rfl
  | inr u => cases Le (fun _ (x : Ca) => !decide (x.2.1 ≥ keys)) 0 q <;> rfl
def Wl (t : JO) : Bool := decide (1 ≤ t.1 ∧ t.1 ≤ 1000) && (decide (0 ≤ t.2.1 ∧ t.2.1 ≤ 1000) && decide (0 ≤ t.2.2.1 ∧ t.2.2.1 ≤ 2))
theorem TR (t : JO) : Iz t = some (Wl t, ()) := by
 unfold Iz Wl
 simp only [Gh, Hh]
 apply Yc
 simp only [Od, decide_eq_true_eq, jq, and_false, or_false, jd]
 omega
theorem WR (t : JO) : Wz t = some (Wl t, ()) := by
 unfold Wz Wl
 simp only [Mc, jb, Gh, Hh]
 apply Yc
 simp only [Od, decide_eq_true_eq, jq, and_false, or_false, jd]
theorem RN (e : Hb) (hn : e.2.2.2.1.length ≤ Ea) (hx : ∀ x ∈ e.2.2.2.1, Zu x) : Ew e = some (Ju e.2.2.2.1, ()) := by
 have h20 : Ea = 1048576 := rfl
 have hl := (Ce (step := fun x => Ny x.1.1 x.1.2.1 x.1.2.2.1 x.2.1) e.2.2.2.1 (fun _ s (x : Ra) => Nc .i64 s (Qa .i64 1 x.1)) (fun s i => (((), s, i, ()), (e, ())))
  (fun s => .inl ((s, ()), ())) (fun _ _ => True) (by
   intro k hk s _
   refine ⟨?_, trivial⟩
   simp only [Ny]
   rw [Ba (show (k : Int) < ((ja e.2.2.2.1 : Nat) : Int) by omega), Jb hk]
   have hk' := hx _ (qs hk)
   simp only [cond_true, jb, Ft, Mc]
   rw [Ba (show 0 ≤ e.2.2.2.1[k].1 ∧ e.2.2.2.1[k].1 ≤ 31 from ⟨hk'.lo, hk'.hi⟩), Ba hk'.lo]; rfl)
  (by
   intro s _
   simp only [Ny]
   rw [Aa (by omega)]; rfl) (by omega) 0 trivial).1
 unfold Ew XA
 erw [hl]
 rfl
def H3 (l : List Ca) : Int := (l.getD (l.length - 1) (0, 0, false, ())).1
def Rf (l : List Ca) (t : Int) : Bool := ((l.length : Int) == 0) || decide (H3 l ≤ t)
theorem BT {l : List Ca} (h : 0 < l.length) (hn : l.length ≤ Ea) : ∃ x, Ya l (j5 .i64 (((ja l : Nat) : Int) - 1)) = some x ∧ x.1 = H3 l := by
 have h20 : Ea = 1048576 := rfl
 refine ⟨l[l.length - 1], ?_, ?_⟩
 ·rw [Ie (by omega) (by omega), show ((ja l : Nat) : Int) - 1 = ((l.length - 1 : Nat) : Int) by omega, Jb (by omega)]
 ·simp [H3, List.getD, je (show l.length - 1 < l.length by omega)]
theorem Zt (l : List Ca) (t : Int) (hn : l.length ≤ Ea) : Gi l t = some (Rf l t, ()) := by
 unfold Gi Rf
 by_cases h0 : l.length = 0
 ·simp [h0]
 ·obtain ⟨x, h1, h2⟩ := BT (l := l) (by omega) hn
  rw [h1, show (((l.length : Nat) : Int) == 0) = false by simp; intro h; rw [h] at h0; simp at h0]
  simp only [cond_false, jb, h2, Bool.false_or]
noncomputable def Nf (d : Gb) : Bool :=
 Lj d.1 && (Wl d.2.1 && (decide (0 ≤ d.2.2.2.1 ∧ d.2.2.2.1 ≤ 1000000) && (decide (0 ≤ d.2.2.2.2.1 ∧ d.2.2.2.2.1 ≤ d.2.2.2.1) && (Rd d.2.2.1 (Ju d.1.2.2.2.1) d.1.1.1 && (Rf d.2.2.1 d.2.2.2.1 &&
  (decide (0 ≤ d.2.2.2.2.2.1 ∧ d.2.2.2.2.2.1 ≤ d.1.1.1) && decide (0 ≤ d.2.2.2.2.2.2.1 ∧ d.2.2.2.2.2.2.1 ≤ d.2.2.2.1)))))))
theorem MQ (d : Gb) : Ha Hc d = Ha Dc d.1 + Ha (.sl Bb) d.2.2.1 := by
 simp only [Ha, Nat.add_zero, js]
theorem GF (l : List Ca) : Ha (.sl Bb) l = l.length := Hl (e := Bb) rfl l
theorem CA {e : Hb} (h : Lj e = true) : Qf e.2.2.2.1 = true := by
 simp only [Lj, jd] at h
 exact h.2.2.1
theorem RR (d : Gb) (hz : Ha Hc d ≤ Ea) : Iv d = some (Nf d, ()) := by
 have hz' := hz
 rw [MQ, GF] at hz'
 have hz2 := hz'
 rw [Ul, Gl] at hz2
 unfold Iv Nf
 rw [M6 _ (by omega)]
 cases he : Lj d.1 with
 | false => rfl
 | true =>
  have hh := Ho (CA he)
  simp only [jb, jg, cond_false, jk, TR]
  cases Wl d.2.1 with
  | false => rfl
  | true =>
   rw [MK _ (by omega) hh]
   simp only [jb, jg, cond_false, jk]
   rw [Au _ _ _ (by omega), Zt _ _ (by omega)]
   simp only [jb]
   have key : ∀ a b c e f g h i j k : Bool, cond a (some (false, ())) (cond b (some (false, ())) (cond c (some (false, ())) (cond e (some (false, ())) (cond (!f) (some (false, ())) (cond (!g) (some (false, ())) (cond h (cond i (cond j (some (k, ())) (some (false, ()))) (some (false, ()))) (some (false, ())))))))) =
    some ((((!a && !b) && ((!c && !e) && (f && (g && ((h && i) && (j && k)))))), ()) : Bool × Unit) := by
    intro a b c e f g h i j k
    cases a <;> cases b <;> cases c <;> cases e <;> cases f <;> cases g <;> cases h <;> cases i <;> cases j <;> cases k <;> rfl
   erw [key]
   apply Yc
   simp only [jd, Bool.not_eq_true', decide_eq_true_eq, decide_eq_false_iff_not]
   constructor
   ·rintro ⟨⟨h1, h2⟩, ⟨h3, h4⟩, h5, h6, ⟨h7, h8⟩, h9, h10⟩
    exact ⟨⟨by omega, by omega⟩, ⟨by omega, by omega⟩, h5, h6, ⟨h7, h8⟩, h9, h10⟩
   ·rintro ⟨⟨h1, h2⟩, ⟨h3, h4⟩, h5, h6, ⟨h7, h8⟩, h9, h10⟩
    exact ⟨⟨by omega, by omega⟩, ⟨by omega, by omega⟩, h5, h6, ⟨h7, h8⟩, h9, h10⟩
theorem VR (d : Gb) (hz : Ha Hc d ≤ Ea) : Zv d = some (Nf d, ()) := by
 have hz' := hz
 rw [MQ, GF] at hz'
 have hz2 := hz'
 rw [Ul, Gl] at hz2
 unfold Zv Nf
 rw [WK _ (by omega)]
 cases he : Lj d.1 with
 | false => rfl
 | true =>
  have hh := Ho (CA he)
  simp only [jb, jg, cond_false, jk, WR, Mc]
  cases Wl d.2.1 with
  | false => rfl
  | true =>
   rw [RN _ (by omega) hh]
   simp only [jb, jg, cond_false, jk]
   rw [Is _ _ _ (by omega)]
   simp only [jb, Rf]
   by_cases h0 : d.2.2.1.length = 0
   ·rw [Aa (show ¬ ((ja d.2.2.1 : Nat) : Int) > 0 by omega), show (((d.2.2.1.length : Nat) : Int) == 0) = true by simp [h0]]
    simp only [cond_false, Bool.true_or, jk]
    cases decide (0 ≤ d.2.2.2.1 ∧ d.2.2.2.1 ≤ 1000000) <;> cases decide (0 ≤ d.2.2.2.2.1 ∧ d.2.2.2.2.1 ≤ d.2.2.2.1) <;> cases Rd d.2.2.1 (Ju d.1.2.2.2.1) d.1.1.1 <;> cases decide (0 ≤ d.2.2.2.2.2.1 ∧ d.2.2.2.2.2.1 ≤ d.1.1.1) <;> rfl
   ·obtain ⟨x, h1, h2⟩ := BT (l := d.2.2.1) (by omega) (by omega)
    rw [Ba (show ((ja d.2.2.1 : Nat) : Int) > 0 by omega), h1, show (((d.2.2.1.length : Nat) : Int) == 0) = false by simp; intro h; rw [h] at h0; simp at h0]
    simp only [cond_true, jb, Bool.false_or, h2]
    have e1 : decide (H3 d.2.2.1 > d.2.2.2.1) = !decide (H3 d.2.2.1 ≤ d.2.2.2.1) := by
     rw [qy]; simp only [decide_eq_true_eq, Bool.not_eq_true', decide_eq_false_iff_not]; omega
    rw [e1]
    cases decide (0 ≤ d.2.2.2.1 ∧ d.2.2.2.1 ≤ 1000000) <;> cases decide (0 ≤ d.2.2.2.2.1 ∧ d.2.2.2.2.1 ≤ d.2.2.2.1) <;> cases Rd d.2.2.1 (Ju d.1.2.2.2.1) d.1.1.1 <;> cases decide (H3 d.2.2.1 ≤ d.2.2.2.1) <;> cases decide (0 ≤ d.2.2.2.2.2.1 ∧ d.2.2.2.2.2.1 ≤ d.1.1.1) <;> rfl

def Ye {S : Type} (g : Nat → S → S) : Nat → S → S
 | 0, s => s
 | n + 1, s => g n (Ye g n s)
theorem Ch {X R S : Type} {step : X → Option (X ⊕ R)} (n : Nat) (hn : n < 9223372036854775807) (g : Nat → S → S) (s0 : S) (I : S → Int → X) (out : S → R)
 (h : ∀ k, k < n → step (I (Ye g k s0) (k : Int)) = some (.inl (I (g k (Ye g k s0)) (j5 .i64 ((k : Int) + 1))))) (he : step (I (Ye g n s0) (n : Int)) = some (.inr (out (Ye g n s0)))) :
 Ua step (I s0 0) = some (out (Ye g n s0)) := by
 have := Mw (step := step) (fun k => I (Ye g k s0) (k : Int)) n (out (Ye g n s0)) (fun k hk => by
  rw [h k hk, Jc (by omega)]; rfl) he
 exact this
theorem WY {e : Ty} {c : Nat} : ∀ {w : List (T e)}, (∀ x ∈ w, Ha e x ≤ c) → Ha (.sl e) w ≤ (c + 1) * w.length
 | [], _ => by simp [Ha]
 | x :: r, h => by
  have h1 := h x (by simp)
  have h2 : Ha (.sl e) r ≤ (c + 1) * r.length := WY fun y hy => h y (by simp [hy])
  have h3 : Ha (.sl e) r = ja r + (List.map (Ha e) r).sum := rfl
  have h4 : Ha (.sl e) (x :: r) = (ja r + 1) + (Ha e x + (List.map (Ha e) r).sum) := by simp [Ha]
  rw [h4, jw, Nat.mul_add]
  omega
theorem Dk {n : Nat} (h : n ≤ 1073741824) : jx n Sa = true := ji h
theorem Z8 {α β : Type} (f : α → β) : ∀ (xs : List α) (k : Nat) (o : List β), Pd (fun _ o x => jf o [f x]) k o xs = o ++ xs.map f
 | [], _, o => by simp [Pd]
 | x :: r, k, o => by
  simp only [Pd]
  rw [Z8 f r]
  simp
theorem YU {X R α β : Type} {step : X → Option (X ⊕ R)} (xs : List α) (f : α → β) (I : List β → Int → X) (out : List β → R) (hn : xs.length ≤ 1073741824)
 (h : ∀ k (hk : k < xs.length) (o : List β), ja o = k → step (I o (k : Int)) = some (.inl (I (jf o [f xs[k]]) (j5 .i64 ((k : Int) + 1)))))
 (he : ∀ o : List β, step (I o (xs.length : Int)) = some (.inr (out o))) : Ua step (I [] 0) = some (out (xs.map f)) := by
 have := (Ce (step := step) xs (fun _ o x => jf o [f x]) I out (fun k o => ja o = k) (fun k hk o ho => ⟨h k hk o ho, by simp [ho]⟩) (fun o _ => he o) (by omega) [] rfl).1
 rw [this, Z8]
 rfl
theorem YaB (a : List Int) : Ha (.sl int) a = a.length := Hl (e := int) rfl a
theorem Oaa (a : List Cb) : Ha (.sl Wb) a = a.length := Hl (e := Wb) rfl a
theorem WaF (r : Ka) : Ha Ec r = r.2.1.length := by
 show 0 + (Ha (.sl int) r.2.1 + 0) = _
 rw [YaB]; omega
theorem Lac (r : Ka) (h : r.2.1.length ≤ Ea) : IQ r = some (r, ()) := by
 have h20 : Ea = 1048576 := rfl
 unfold IQ
 rw [Dk (by simp; omega)]
 rfl
theorem HT (l : List Int) (h : l.length ≤ Ea) : Kz l = some (l, ()) := by
 have h20 : Ea = 1048576 := rfl
 unfold Kz
 rw [Dk (by simp; omega)]
 rfl

theorem Nw : (2 : Nat) ^ 63 = 9223372036854775808 := rfl
theorem ZL {a : Nat} (ha : a < 2 ^ 63) : (BitVec.ofInt 64 (a : Int)).toNat = a := by
 rw [BitVec.ofInt_natCast, BitVec.toNat_ofNat, Nat.mod_eq_of_lt (by omega)]
theorem VO {a b : Nat} (ha : a < 2 ^ 63) (hb : b < 2 ^ 63) : Va .i64 (a : Int) (b : Int) = ((a &&& b : Nat) : Int) := by
 have h : (BitVec.ofInt (IntKind.bits .i64) (a : Int) &&& BitVec.ofInt (IntKind.bits .i64) (b : Int)).toNat = a &&& b := by
  rw [BitVec.toNat_and]; erw [ZL ha, ZL hb]
 unfold Va
 rw [h]
 have h2 : a &&& b ≤ a := Nat.and_le_left
 have h3 := Nw
 exact Ie (by omega) (by omega)
theorem Sv {a b : Nat} (ha : a < 2 ^ 63) (hb : b < 2 ^ 63) : Nc .i64 (a : Int) (b : Int) = ((a ||| b : Nat) : Int) := by
 have h : (BitVec.ofInt (IntKind.bits .i64) (a : Int) ||| BitVec.ofInt (IntKind.bits .i64) (b : Int)).toNat = a ||| b := by
  rw [BitVec.toNat_or]; erw [ZL ha, ZL hb]
 unfold Nc
 rw [h]
 have h2 : a ||| b < 2 ^ 63 := Nat.or_lt_two_pow ha hb
 have h3 := Nw
 exact Ie (by omega) (by omega)
theorem PK {a b : Nat} (ha : a < 2 ^ 63) (hb : b < 2 ^ 63) : Za .i64 (a : Int) (b : Int) = ((a ^^^ b : Nat) : Int) := by
 have h : (BitVec.ofInt (IntKind.bits .i64) (a : Int) ^^^ BitVec.ofInt (IntKind.bits .i64) (b : Int)).toNat = a ^^^ b := by
  rw [BitVec.toNat_xor]; erw [ZL ha, ZL hb]
 unfold Za
 rw [h]
 have h2 : a ^^^ b < 2 ^ 63 := qr ha hb
 have h3 := Nw
 exact Ie (by omega) (by omega)
theorem EaL {w : Nat} (x y : BitVec w) : x &&& ~~~y = x ^^^ (x &&& y) := by
 ext i hi
 simp only [BitVec.getElem_and, BitVec.getElem_not, BitVec.getElem_xor]
 cases x[i] <;> cases y[i] <;> rfl
theorem P0 {a b : Nat} (ha : a < 2 ^ 63) (hb : b < 2 ^ 63) : Mb .i64 (a : Int) (b : Int) = ((a ^^^ (a &&& b) : Nat) : Int) := by
 have h : (BitVec.ofInt (IntKind.bits .i64) (a : Int) &&& ~~~ BitVec.ofInt (IntKind.bits .i64) (b : Int)).toNat = a ^^^ (a &&& b) := by
  rw [EaL, BitVec.toNat_xor, BitVec.toNat_and]; erw [ZL ha, ZL hb]
 unfold Mb
 rw [h]
 have h1 : a &&& b ≤ a := Nat.and_le_left
 have h2 : a ^^^ (a &&& b) < 2 ^ 63 := qr ha (by omega)
 have h3 := Nw
 exact Ie (by omega) (by omega)
theorem LT (a : Nat) {k : Nat} (hk : k ≤ 64) : Vb .i64 (a : Int) (k : Int) = ((a >>> k : Nat) : Int) := by
 unfold Vb
 have h1 : min (jy (k : Int)) (IntKind.bits .i64) = k := by
  show min (jy (k : Int)) 64 = k
  rw [jn]; omega
 rw [h1, Nat.shiftRight_eq_div_pow]
 have h2 : (2 : Int) ^ k = ((2 ^ k : Nat) : Int) := by simp
 rw [h2]
 exact (Int.fdiv_eq_ediv_of_nonneg _ (Int.natCast_nonneg _)).trans (by simp)
theorem T6 {a k : Nat} (h : a * 2 ^ k < 2 ^ 63) (hk : k ≤ 64) : Qa .i64 (a : Int) (k : Int) = ((a <<< k : Nat) : Int) := by
 unfold Qa
 have h1 : min (jy (k : Int)) (IntKind.bits .i64) = k := by
  show min (jy (k : Int)) 64 = k
  rw [jn]; omega
 have h2 : (2 : Int) ^ k = ((2 ^ k : Nat) : Int) := by simp
 have h4 : (a : Int) * ((2 ^ k : Nat) : Int) = ((a * 2 ^ k : Nat) : Int) := by simp
 rw [h1, qk, h2, h4]
 have h3 := Nw
 generalize a * 2 ^ k = z at *
 exact Ie (by omega) (by omega)
theorem Ts {a k : Nat} (ha : a < 2 ^ 63) (hk : k ≤ 64) : (Kd (a : Int) (k : Int) == 1) = a.testBit k := by
 unfold Kd
 have h1 : a >>> k ≤ a := by rw [Nat.shiftRight_eq_div_pow]; exact Nat.div_le_self _ _
 have h3 := Nw
 rw [LT a hk]
 show (Va .i64 ((a >>> k : Nat) : Int) ((1 : Nat) : Int) == 1) = _
 rw [VO (by omega) (by omega), Nat.and_one_is_mod, Nat.testBit_eq_decide_div_mod_eq, Nat.shiftRight_eq_div_pow]
 have : a / 2 ^ k % 2 = 0 ∨ a / 2 ^ k % 2 = 1 := by omega
 rcases this with h | h <;> rw [h] <;> rfl
theorem Aj {k : Nat} (hk : k ≤ 62) : (2 : Nat) ^ k < 2 ^ 63 := Nat.pow_lt_pow_right (by omega) (by omega)
theorem SaU {a k : Nat} (ha : a < 2 ^ 63) (hk : k ≤ 62) (h : (Kd (a : Int) (k : Int) == 1) = false) :
 Nc .i64 (a : Int) (Qa .i64 1 (k : Int)) = Za .i64 (a : Int) (Qa .i64 1 (k : Int)) := by
 rw [Ts ha (by omega)] at h
 rw [Cl (by omega), Sv ha (Aj hk), PK ha (Aj hk)]
 congr 1
 apply Nat.eq_of_testBit_eq
 intro i
 rw [Nat.testBit_or, qo, qp]
 by_cases hi : k = i
 ·subst hi; rw [h, Ba rfl]; rfl
 ·rw [Aa hi]; cases a.testBit i <;> rfl
theorem KaD {a k : Nat} (ha : a < 2 ^ 63) (hk : k ≤ 62) (h : (Kd (a : Int) (k : Int) == 1) = true) :
 Mb .i64 (a : Int) (Qa .i64 1 (k : Int)) = Za .i64 (a : Int) (Qa .i64 1 (k : Int)) := by
 rw [Ts ha (by omega)] at h
 rw [Cl (by omega), P0 ha (Aj hk), PK ha (Aj hk)]
 congr 1
 apply Nat.eq_of_testBit_eq
 intro i
 rw [qo, qo, Nat.testBit_and, qp]
 by_cases hi : k = i
 ·subst hi; rw [h, Ba rfl]; rfl
 ·rw [Aa hi]; cases a.testBit i <;> rfl
theorem Sal {a k : Nat} (ha : a < 2 ^ 63) (hk : k ≤ 62) : ∃ b : Nat, Za .i64 (a : Int) (Qa .i64 1 (k : Int)) = (b : Int) ∧ b < 2 ^ 63 := by
 rw [Cl (by omega), PK ha (Aj hk)]
 exact ⟨_, rfl, qr ha (Aj hk)⟩
theorem DaT {a k n : Nat} (ha : a < 2 ^ 63) (hk : k ≤ 62) (hn : n ≤ 64) :
 (Kd (Nc .i64 (a : Int) (Qa .i64 1 (k : Int))) (n : Int) == 1) = ((Kd (a : Int) (n : Int) == 1) || decide (k = n)) := by
 rw [Cl (by omega), Sv ha (Aj hk), Ts (Nat.or_lt_two_pow ha (Aj hk)) hn, Ts ha hn, Nat.testBit_or, qp]
theorem Xal {a : Nat} (ha : a < 2 ^ 64) : (BitVec.ofInt 64 (a : Int)).toNat = a := by
 rw [BitVec.ofInt_natCast, BitVec.toNat_ofNat, Nat.mod_eq_of_lt (by omega)]
theorem LV {a : Nat} (h : a < 2 ^ 64) : j5 .u64 (a : Int) = (a : Int) := by
 have h2 : (2 : Nat) ^ 64 = 18446744073709551616 := by decide
 exact IntWalk.u64_in _ ⟨by omega, by omega⟩
theorem Waz {a b : Nat} (ha : a < 2 ^ 64) (hb : b < 2 ^ 64) : Va .u64 (a : Int) (b : Int) = ((a &&& b : Nat) : Int) := by
 have h : (BitVec.ofInt (IntKind.bits .u64) (a : Int) &&& BitVec.ofInt (IntKind.bits .u64) (b : Int)).toNat = a &&& b := by
  rw [BitVec.toNat_and]; erw [Xal ha, Xal hb]
 unfold Va
 rw [h]
 have h2 : a &&& b ≤ a := Nat.and_le_left
 exact LV (by omega)
theorem BaA (a : Nat) {k : Nat} (hk : k ≤ 64) : Vb .u64 (a : Int) (k : Int) = ((a / 2 ^ k : Nat) : Int) := by
 unfold Vb
 have h1 : min (jy (k : Int)) (IntKind.bits .u64) = k := by
  show min (jy (k : Int)) 64 = k
  rw [jn]; omega
 rw [h1]
 have h2 : (2 : Int) ^ k = ((2 ^ k : Nat) : Int) := by simp
 rw [h2]
 exact (Int.fdiv_eq_ediv_of_nonneg _ (Int.natCast_nonneg _)).trans (by simp)
def cnt : Nat → Nat → Nat
 | 0, _ => 0
 | k + 1, n => n % 2 + cnt k (n / 2)
theorem Q8 : ∀ k n, cnt k n ≤ k
 | 0, _ => jo _
 | k + 1, n => by have := Q8 k (n / 2); simp only [cnt]; omega
theorem W2 : ∀ j k n, cnt (j + k) n = cnt j n + cnt k (n / 2 ^ j)
 | 0, k, n => by simp [cnt]
 | j + 1, k, n => by
  have h := W2 j k (n / 2)
  rw [show j + 1 + k = (j + k) + 1 by omega]
  simp only [cnt, h, Nat.div_div_eq_div_mul, Nat.pow_succ, Nat.mul_comm]
  omega
theorem Aab : ∀ j n, cnt j (n % 2 ^ j) = cnt j n
 | 0, _ => rfl
 | j + 1, n => by
  have h := Aab j (n / 2)
  have e1 : n % 2 ^ (j + 1) % 2 = n % 2 := Nat.mod_mod_of_dvd _ (by rw [Nat.pow_succ]; exact ⟨2 ^ j, Nat.mul_comm _ _⟩)
  have e2 : n % 2 ^ (j + 1) / 2 = n / 2 % 2 ^ j := by
   rw [Nat.pow_succ, Nat.mul_comm, Nat.mod_mul_right_div_self]
  simp only [cnt, e1, e2, h]
theorem Mah : ∀ k, cnt k 0 = 0
 | 0 => rfl
 | k + 1 => by have := Mah k; simp [cnt, this]
def u1 (a : Nat) : Nat := ((a / 2) &&& 85) + (a &&& 85)
def u2 (a : Nat) : Nat := ((a / 4) &&& 51) + (a &&& 51)
theorem Eay : ∀ a : Fin 256, u1 a.val < 256 := by decide +kernel
theorem Fay : ∀ a : Fin 256, u2 (u1 a.val) % 16 ≤ 4 ∧ u2 (u1 a.val) / 16 ≤ 4 := by decide +kernel
theorem Gay : ∀ a : Fin 256, (u2 (u1 a.val) / 16 + u2 (u1 a.val)) % 16 = cnt 8 a.val := by decide +kernel
theorem m5 : ∀ a : Fin 128, (a.val &&& 85) = (a.val + 128 * 1) &&& 85 := by decide +kernel
theorem m3 : ∀ a : Fin 64, ∀ c : Fin 4, (a.val &&& 51) = (a.val + 64 * c.val) &&& 51 := by decide +kernel
theorem m5' {a c : Nat} (h : a < 128) (hc : c < 2) : (a + 128 * c) &&& 85 = a &&& 85 := by
 have : c = 0 ∨ c = 1 := by omega
 rcases this with rfl | rfl
 ·rfl
 ·exact (m5 ⟨a, h⟩).symm
theorem m3' {a c : Nat} (h : a < 64) (hc : c < 4) : (a + 64 * c) &&& 51 = a &&& 51 := (m3 ⟨a, h⟩ ⟨c, hc⟩).symm
theorem WZ {a b m p : Nat} (ha : a < 256) (hp : p < 256) : (a + 256 * b) &&& (p + 256 * m) = (a &&& p) + 256 * (b &&& m) := by
 have h1 : ((a + 256 * b) &&& (p + 256 * m)) % 2 ^ 8 = a &&& p := by
  rw [Nat.and_mod_two_pow]
  congr 1 <;> omega
 have h2 : ((a + 256 * b) &&& (p + 256 * m)) / 2 ^ 8 = b &&& m := by
  rw [← Nat.shiftRight_eq_div_pow, Nat.shiftRight_and_distrib, Nat.shiftRight_eq_div_pow, Nat.shiftRight_eq_div_pow]
  congr 1 <;> omega
 generalize (a + 256 * b) &&& (p + 256 * m) = z at *
 rw [← h1, ← h2]
 omega
theorem Aah {a b c M m : Nat} (ha : a < 256) (hb : b < 256) (hc : c < 256) (hm : m < 256) (hM : M = m + 256 * (m + 256 * (m + 256 * (M / 16777216)))) :
 (a + 256 * (b + 256 * c)) &&& M = (a &&& m) + 256 * ((b &&& m) + 256 * (c &&& m)) := by
 rw [hM, show c = c + 256 * 0 by omega, WZ ha hm, WZ hb hm, WZ hc hm]
 simp
def M5 : Nat := 6148914691236517205
def M3 : Nat := 3689348814741910323
def MF : Nat := 1085102592571150095
def s1 (n : Nat) : Nat := (n / 2 &&& M5) + (n &&& M5)
def s2 (n : Nat) : Nat := (n / 4 &&& M3) + (n &&& M3)
def s3 (n : Nat) : Nat := (n / 16 + n) &&& MF
theorem Va6 {a b c : Nat} (ha : a < 256) (hb : b < 256) (hc : c < 256) : s1 (a + 256 * (b + 256 * c)) = u1 a + 256 * (u1 b + 256 * u1 c) := by
 unfold s1
 have h : (a + 256 * (b + 256 * c)) / 2 = (a / 2 + 128 * (b % 2)) + 256 * ((b / 2 + 128 * (c % 2)) + 256 * (c / 2 + 128 * 0)) := by omega
 rw [h, Aah (m := 85) (by omega) (by omega) (by omega) (by omega) rfl, Aah (m := 85) ha hb hc (by omega) rfl, m5' (by omega) (by omega), m5' (by omega) (by omega), m5' (by omega) (by omega)]
 unfold u1
 omega
theorem Xa6 {a b c : Nat} (ha : a < 256) (hb : b < 256) (hc : c < 256) : s2 (a + 256 * (b + 256 * c)) = u2 a + 256 * (u2 b + 256 * u2 c) := by
 unfold s2
 have h : (a + 256 * (b + 256 * c)) / 4 = (a / 4 + 64 * (b % 4)) + 256 * ((b / 4 + 64 * (c % 4)) + 256 * (c / 4 + 64 * 0)) := by omega
 rw [h, Aah (m := 51) (by omega) (by omega) (by omega) (by omega) rfl, Aah (m := 51) ha hb hc (by omega) rfl, m3' (by omega) (by omega), m3' (by omega) (by omega), m3' (by omega) (by omega)]
 unfold u2
 omega
theorem Rav (x : Nat) : x &&& 15 = x % 16 := by
 have := Nat.and_two_pow_sub_one_eq_mod x 4
 exact this
theorem Za6 {a b c : Nat} (ha : a % 16 ≤ 4 ∧ a / 16 ≤ 4) (hb : b % 16 ≤ 4 ∧ b / 16 ≤ 4) (hc : c % 16 ≤ 4 ∧ c / 16 ≤ 4) :
 s3 (a + 256 * (b + 256 * c)) = (a / 16 + a) % 16 + 256 * ((b / 16 + b) % 16 + 256 * ((c / 16 + c) % 16)) := by
 unfold s3
 have h : (a + 256 * (b + 256 * c)) / 16 + (a + 256 * (b + 256 * c)) = (a / 16 + a + 16 * (b % 16)) + 256 * ((b / 16 + b + 16 * (c % 16)) + 256 * (c / 16 + c)) := by omega
 rw [h, Aah (m := 15) (by omega) (by omega) (by omega) (by omega) rfl, Rav, Rav, Rav]
 omega
def DaF (z : Nat) : Nat := (z + z / 256 + (z + z / 256) / 65536 + (z + z / 256 + (z + z / 256) / 65536) / 4294967296) % 128
theorem TaU {n : Nat} (h : n < 16777216) : DaF (s3 (s2 (s1 n))) = cnt 32 n := by
 have e : n = n % 256 + 256 * (n / 256 % 256 + 256 * (n / 65536)) := by omega
 have ha : n % 256 < 256 := by omega
 have hb : n / 256 % 256 < 256 := by omega
 have hc : n / 65536 < 256 := by omega
 have hcnt : cnt 32 n = cnt 8 (n % 256) + (cnt 8 (n / 256 % 256) + cnt 8 (n / 65536)) := by
  rw [show (32 : Nat) = 8 + (8 + (8 + 8)) from rfl, W2, W2, W2]
  have e1 := Aab 8 n
  have e2 := Aab 8 (n / 2 ^ 8)
  rw [← e1, ← e2]
  have e3 : n / 2 ^ 8 / 2 ^ 8 = n / 65536 := by omega
  have e4 : n / 65536 / 2 ^ 8 = 0 := by omega
  rw [e3, e4, Mah]
  simp
 rw [hcnt]
 generalize n % 256 = a at *
 generalize n / 256 % 256 = b at *
 generalize n / 65536 = c at *
 rw [e, Va6 ha hb hc, Xa6 (Eay ⟨a, ha⟩) (Eay ⟨b, hb⟩) (Eay ⟨c, hc⟩), Za6 (Fay ⟨a, ha⟩) (Fay ⟨b, hb⟩) (Fay ⟨c, hc⟩), Gay ⟨a, ha⟩, Gay ⟨b, hb⟩, Gay ⟨c, hc⟩]
 have h1 := Q8 8 a
 have h2 := Q8 8 b
 have h3 := Q8 8 c
 show DaF (cnt 8 a + 256 * (cnt 8 b + 256 * cnt 8 c)) = _
 unfold DaF
 generalize cnt 8 a = i at *
 generalize cnt 8 b = j at *
 generalize cnt 8 c = k at *
 have g1 : (i + 256 * (j + 256 * k)) / 256 = j + 256 * k := by omega
 rw [g1]
 have g2 : (i + 256 * (j + 256 * k) + (j + 256 * k)) / 65536 = k := by omega
 rw [g2]
 have g3 : (i + 256 * (j + 256 * k) + (j + 256 * k) + k) / 4294967296 = 0 := by omega
 rw [g3]
 omega
theorem Ua6 {n : Nat} (h : n < 16777216) : s1 n < 33554432 := by
 have h1 : n / 2 &&& M5 ≤ n / 2 := Nat.and_le_left
 have h2 : n &&& M5 ≤ n := Nat.and_le_left
 unfold s1; omega
theorem Wa6 {n : Nat} (h : n < 33554432) : s2 n < 67108864 := by
 have h1 : n / 4 &&& M3 ≤ n / 4 := Nat.and_le_left
 have h2 : n &&& M3 ≤ n := Nat.and_le_left
 unfold s2; omega
theorem Ya6 {n : Nat} (h : n < 67108864) : s3 n < 134217728 := by
 have h1 : (n / 16 + n) &&& MF ≤ n / 16 + n := Nat.and_le_left
 unfold s3; omega
theorem BaT (x : Nat) : x &&& 127 = x % 128 := by
 have := Nat.and_two_pow_sub_one_eq_mod x 7
 exact this
theorem Pag {n : Nat} (h : n < 16777216) : PF (n : Int) = some (((cnt 32 n : Nat) : Int), ()) := by
 unfold PF GK
 have p64 : (2 : Nat) ^ 64 = 18446744073709551616 := by decide
 have sh : ∀ (x : Nat) (k : Int) (j : Nat), k = (j : Int) → j ≤ 64 → Vb .u64 (x : Int) k = ((x / 2 ^ j : Nat) : Int) := fun x k j hk hj => by rw [hk]; exact BaA x hj
 have an : ∀ (x : Nat) (k : Int) (j : Nat), x < 2 ^ 64 → k = (j : Int) → j < 2 ^ 64 → Va .u64 (x : Int) k = ((x &&& j : Nat) : Int) := fun x k j hx hk hj => by rw [hk]; exact Waz hx hj
 have ad : ∀ x y : Nat, (x : Int) + (y : Int) = ((x + y : Nat) : Int) := fun x y => (Int.natCast_add x y).symm
 have b1 := Ua6 h
 have b2 := Wa6 b1
 have b3 := Ya6 b2
 have h1 : j5 .u64 ((Va .u64 (Vb .u64 (n : Int) 1) 6148914691236517205) + (Va .u64 (n : Int) 6148914691236517205)) = ((s1 n : Nat) : Int) := by
  rw [sh n 1 1 rfl (by omega), an _ 6148914691236517205 M5 (by omega) rfl (by decide), an _ 6148914691236517205 M5 (by omega) rfl (by decide), ad]
  exact LV (a := s1 n) (by omega)
 rw [h1]
 have h2 : j5 .u64 ((Va .u64 (Vb .u64 ((s1 n : Nat) : Int) 2) 3689348814741910323) + (Va .u64 ((s1 n : Nat) : Int) 3689348814741910323)) = ((s2 (s1 n) : Nat) : Int) := by
  rw [sh _ 2 2 rfl (by omega), an _ 3689348814741910323 M3 (by omega) rfl (by decide), an _ 3689348814741910323 M3 (by omega) rfl (by decide), ad]
  exact LV (a := s2 (s1 n)) (by omega)
 rw [h2]
 have h3 : Va .u64 (j5 .u64 ((Vb .u64 ((s2 (s1 n) : Nat) : Int) 4) + ((s2 (s1 n) : Nat) : Int))) 1085102592571150095 = ((s3 (s2 (s1 n)) : Nat) : Int) := by
  rw [sh _ 4 4 rfl (by omega), ad, LV (by omega), an _ 1085102592571150095 MF (by omega) rfl (by decide)]
  rfl
 rw [h3]
 have hp := TaU h
 generalize s3 (s2 (s1 n)) = z at *
 have g1 : j5 .u64 ((z : Int) + Vb .u64 (z : Int) 8) = ((z + z / 256 : Nat) : Int) := by
  rw [sh _ 8 8 rfl (by omega), ad, LV (by omega)]
 rw [g1]
 have g2 : j5 .u64 (((z + z / 256 : Nat) : Int) + Vb .u64 ((z + z / 256 : Nat) : Int) 16) = ((z + z / 256 + (z + z / 256) / 65536 : Nat) : Int) := by
  rw [sh _ 16 16 rfl (by omega), ad, LV (by omega)]
 rw [g2]
 have g3 : j5 .u64 (((z + z / 256 + (z + z / 256) / 65536 : Nat) : Int) + Vb .u64 ((z + z / 256 + (z + z / 256) / 65536 : Nat) : Int) 32) = ((z + z / 256 + (z + z / 256) / 65536 + (z + z / 256 + (z + z / 256) / 65536) / 4294967296 : Nat) : Int) := by
  rw [sh _ 32 32 rfl (by omega), ad, LV (by omega)]
 rw [g3, Ie (by omega) (by omega)]
 show jz (some (Va .i64 _ ((127 : Nat) : Int), ())) _ = _
 rw [VO (by rw [Nw]; omega) (by decide), BaT]
 rw [← hp]
 rfl
theorem R7 {n : Nat} (h : n < 16777216) : Yz (n : Int) = some (((cnt 32 n : Nat) : Int), ()) := by
 have hl := Ch (step := fun x => Vu x.1.1 x.1.2.1 x.1.2.2.1) 32 (by omega) (fun k s => j5 .i64 (s + Va .i64 (Vb .i64 (n : Int) (k : Int)) 1)) 0 (fun s i => (((n : Int), s, i, ()), ())) (fun s => .inl ((s, ()), ()))
  (by
   intro k hk
   simp only [Vu]
   rw [Ba (show (k : Int) ≤ 31 by omega), Ba (show (0 : Int) ≤ (k : Int) by omega)]; rfl)
  (by
   simp only [Vu]
   rw [Aa (by decide)]; rfl)
 generalize hC : cnt 32 n = C
 have hi : ∀ k : Nat, k ≤ 32 → ∃ c : Nat, Ye (fun k s => j5 .i64 (s + Va .i64 (Vb .i64 (n : Int) (k : Int)) 1)) k (0 : Int) = (c : Int) ∧ c ≤ k ∧ c + cnt (32 - k) (n / 2 ^ k) = C := by
  intro k
  induction k with
  | zero => intro _; exact ⟨0, rfl, jo _, by rw [← hC, Nat.sub_zero, Nat.pow_zero, Nat.div_one, js]⟩
  | succ k ih =>
   intro hk
   obtain ⟨c, h1, h2, h3⟩ := ih (by omega)
   refine ⟨c + n / 2 ^ k % 2, ?_, by omega, ?_⟩
   ·simp only [Ye, h1]
    rw [LT n (by omega), Nat.shiftRight_eq_div_pow]
    have hd : n / 2 ^ k ≤ n := Nat.div_le_self _ _
    have e : Va .i64 ((n / 2 ^ k : Nat) : Int) 1 = ((n / 2 ^ k % 2 : Nat) : Int) := by
     show Va .i64 ((n / 2 ^ k : Nat) : Int) ((1 : Nat) : Int) = _
     rw [VO (by rw [Nw]; omega) (by decide), Nat.and_one_is_mod]
    rw [e, ← Int.natCast_add, Ie (by omega) (by omega)]
   ·rw [show 32 - k = (32 - (k + 1)) + 1 by omega] at h3
    have h4 : cnt (32 - (k + 1) + 1) (n / 2 ^ k) = n / 2 ^ k % 2 + cnt (32 - (k + 1)) (n / 2 ^ k / 2) := rfl
    rw [h4] at h3
    rw [Nat.pow_succ, ← Nat.div_div_eq_div_mul]
    omega
 obtain ⟨c, h1, _, h3⟩ := hi 32 (jo _)
 have h4 : cnt (32 - 32) (n / 2 ^ 32) = 0 := rfl
 rw [h4, Nat.add_zero] at h3
 rw [h1] at hl
 unfold Yz Py
 erw [hl]
 rw [← h3]
 rfl
def Gg (m : Be) : Bool := decide (1 ≤ m.1 ∧ m.1 ≤ 4 ∧ 1 ≤ m.2.1 ∧ m.2.1 ≤ 6)
theorem LK (m : Be) : Mq m = some (Gg m, ()) := by
 unfold Mq Gg
 simp only [Gh, Hh]
 apply Yc
 simp only [Od, decide_eq_true_eq, jq, and_false, or_false]
theorem YT (m : Be) : Vz m = some (Gg m, ()) := by
 unfold Vz Gg
 simp only [Mc, jb, Gh, Hh]
 apply Yc
 simp only [Od, decide_eq_true_eq, jq, and_false, or_false]
 omega
def Vc (m : Be) : Int := cond (Gg m) (m.1 * m.2.1) 0
theorem I1 {m : Be} (h : Gg m = true) : 1 ≤ m.1 * m.2.1 ∧ m.1 * m.2.1 ≤ 24 := by
 simp only [Gg, decide_eq_true_eq] at h
 obtain ⟨r, c, d, u⟩ := m
 obtain ⟨h1, h2, h3, h4⟩ := h
 simp only at h1 h2 h3 h4 ⊢
 have : r = 1 ∨ r = 2 ∨ r = 3 ∨ r = 4 := by omega
 rcases this with rfl | rfl | rfl | rfl <;> omega
theorem Xo (m : Be) : Fj m = some (Vc m, ()) := by
 unfold Fj Vc
 rw [LK]
 cases h : Gg m with
 | false => rfl
 | true => simp only [jb, jg, cond_false, cond_true]; rw [Ie (by have := I1 h; omega) (by have := I1 h; omega)]
theorem Ij (m : Be) : Ok m = some (Vc m, ()) := by
 unfold Ok Vc
 rw [YT]
 cases h : Gg m with
 | false => rfl
 | true => simp only [jb, jg, cond_false, cond_true]; rw [Ie (by have := I1 h; omega) (by have := I1 h; omega)]
theorem Zw {α : Type} (x lo hi : Int) (X r : α) : cond (decide (x < lo)) X (cond (decide (x > hi)) X r) = cond (decide (lo ≤ x ∧ x ≤ hi)) r X := by
 by_cases h1 : x < lo
 ·rw [Ba h1, Aa (show ¬ (lo ≤ x ∧ x ≤ hi) by omega)]; rfl
 ·rw [Aa h1]
  by_cases h2 : x > hi
  ·rw [Ba h2, Aa (show ¬ (lo ≤ x ∧ x ≤ hi) by omega)]; rfl
  ·rw [Aa h2, Ba (show lo ≤ x ∧ x ≤ hi by omega)]; rfl
theorem Uq {α : Type} (b : Bool) (x y : α) : cond (!b) x y = cond b y x := by cases b <;> rfl
theorem Gaz (a b : Bool) : cond a (some (b, ())) (some (false, ())) = some ((a && b, ()) : Bool × Unit) := by cases a <;> rfl
theorem TW {k : Int} (h : 0 ≤ k ∧ k ≤ 62) : Qa .i64 1 k = ((2 ^ k.toNat : Nat) : Int) := by
 have : k = ((k.toNat : Nat) : Int) := by omega
 rw [this, Cl (by omega)]; rfl
theorem Maj {k : Nat} (h : k ≤ 62) : 1 ≤ 2 ^ k ∧ 2 ^ k ≤ 4611686018427387904 := by
 refine ⟨Nat.one_le_two_pow, ?_⟩
 have := qn (n := 2) (by omega) h
 exact this
def Oe (k x : Int) : Bool := decide (0 ≤ x ∧ x < ((2 ^ k.toNat : Nat) : Int))
def Fd (m : Be) (x : Int) : Bool := Gg m && Oe (Vc m) x
theorem L9 {m : Be} (h : Gg m = true) : 1 ≤ Vc m ∧ Vc m ≤ 24 := by
 unfold Vc; rw [h]; exact I1 h
theorem Kv (m : Be) (x : Int) : Fo m x = some (Fd m x, ()) := by
 unfold Fo Fd
 rw [LK]
 cases h : Gg m with
 | false => rfl
 | true =>
  have := L9 h
  rw [Xo]
  simp only [jb, cond_true, jk]
  rw [Ba (show 0 ≤ Vc m by omega), TW (by omega)]
  simp only [cond_true, Gaz, Oe]
  apply Yc
  simp only [jd, decide_eq_true_eq]
theorem LS (k x : Int) (h : 0 ≤ k ∧ k ≤ 62) : decide (0 ≤ x ∧ x ≤ j5 .i64 (Qa .i64 1 k - 1)) = Oe k x := by
 have hp := Maj (k := k.toNat) (by omega)
 rw [TW h]
 unfold Oe
 generalize 2 ^ k.toNat = z at hp
 rw [Ie (by omega) (by omega)]
 rw [decide_eq_decide]
 omega
theorem Bw (m : Be) (x : Int) : Jo m x = some (Fd m x, ()) := by
 unfold Jo Fd
 rw [YT]
 cases h : Gg m with
 | false => rfl
 | true =>
  have := L9 h
  rw [Ij]
  simp only [jb, cond_true, jk, Mc]
  rw [Ba (show 0 ≤ Vc m by omega), LS _ _ (by omega)]
  rfl
def Qav (l : List Int) : Bool := Le (fun _ x => decide ((0 : Int) ≤ x ∧ x ≤ 99)) 0 l
def Zg (d : Qb) : Bool :=
 decide (0 ≤ d.1 ∧ d.1 ≤ 2) && (decide (1 ≤ d.2.1 ∧ d.2.1 ≤ 20) && (decide (1 ≤ d.2.2.1 ∧ d.2.2.1 ≤ 24) && ((((ja d.2.2.2.2.2.1 : Nat) : Int) == d.2.2.1) && (Oe d.2.2.1 d.2.2.2.1 && (Oe d.2.2.1 d.2.2.2.2.1 && Qav d.2.2.2.2.2.1)))))
theorem WN (d : Qb) (hn : d.2.2.2.2.2.1.length ≤ Ea) : Vo d = some (Zg d, ()) := by
 have h20 : Ea = 1048576 := rfl
 have hl := Jf (step := fun x => Ln x.1.1 x.1.2.1 x.1.2.2.1) d.2.2.2.2.2.1 (fun _ x => decide ((0 : Int) ≤ x ∧ x ≤ 99)) (fun i => ((d.2.2.2.2.2.1, ((ja d.2.2.2.2.2.1 : Nat) : Int), i, ()), ()))
  (.inl ((), ())) (.inr ((false, ()), ())) (by
   intro k hk
   simp only [Ln]
   rw [Ba (show (k : Int) < ((ja d.2.2.2.2.2.1 : Nat) : Int) by omega), Jb hk]
   simp only [cond_true, jb, Zw]
   cases decide ((0 : Int) ≤ d.2.2.2.2.2.1[k] ∧ d.2.2.2.2.2.1[k] ≤ 99) <;> rfl) (by
   simp only [Ln]
   rw [Aa (by omega)]; rfl) (by omega)
 unfold Vo Hq Zg
 simp only [Zw]
 cases decide (0 ≤ d.1 ∧ d.1 ≤ 2) with
 | false => rfl
 | true =>
  cases decide (1 ≤ d.2.1 ∧ d.2.1 ≤ 20) with
  | false => rfl
  | true =>
   by_cases h3 : 1 ≤ d.2.2.1 ∧ d.2.2.1 ≤ 24
   ·have hp := Maj (k := d.2.2.1.toNat) (by omega)
    rw [Ba h3, Ba (show 0 ≤ d.2.2.1 by omega), TW (by omega)]
    simp only [cond_true, jk]
    simp only [bne, Uq]
    cases (((ja d.2.2.2.2.2.1 : Nat) : Int) == d.2.2.1) with
    | false => rfl
    | true =>
     simp only [cond_true, jk, Oe]
     have key : ∀ (s z : Int) (X r : Option (Bool × Unit)), cond (decide (s < 0)) X (cond (decide (s ≥ z)) X r) = cond (decide (0 ≤ s ∧ s < z)) r X := by
      intro s z X r
      by_cases h1 : s < 0
      ·rw [Ba h1, Aa (show ¬ (0 ≤ s ∧ s < z) by omega)]; rfl
      ·rw [Aa h1]
       by_cases h2 : s ≥ z
       ·rw [Ba h2, Aa (show ¬ (0 ≤ s ∧ s < z) by omega)]; rfl
       ·rw [Aa h2, Ba (show 0 ≤ s ∧ s < z by omega)]; rfl
     erw [key, key, hl]
     unfold Qav
     cases Le (fun _ x => decide ((0 : Int) ≤ x ∧ x ≤ 99)) 0 d.2.2.2.2.2.1 <;> cases decide (0 ≤ d.2.2.2.1 ∧ d.2.2.2.1 < ((2 ^ d.2.2.1.toNat : Nat) : Int)) <;> cases decide (0 ≤ d.2.2.2.2.1 ∧ d.2.2.2.2.1 < ((2 ^ d.2.2.1.toNat : Nat) : Int)) <;> rfl
   ·rw [Aa h3]; rfl
theorem DO (d : Qb) (hn : d.2.2.2.2.2.1.length ≤ Ea) : Gp d = some (Zg d, ()) := by
 have h20 : Ea = 1048576 := rfl
 have hl := Jf (step := fun x => Xn x.1.1 x.1.2.1 x.2.1) d.2.2.2.2.2.1 (fun _ x => decide ((0 : Int) ≤ x ∧ x ≤ 99)) (fun i => (((), i, ()), (d, ())))
  (.inl (((), ()), (d, ()))) (.inr ((false, ()), ())) (by
   intro k hk
   simp only [Xn]
   rw [Ba (show (k : Int) < ((ja d.2.2.2.2.2.1 : Nat) : Int) by omega), Jb hk]
   simp only [cond_true, jb, Mc]
   cases decide ((0 : Int) ≤ d.2.2.2.2.2.1[k] ∧ d.2.2.2.2.2.1[k] ≤ 99) <;> rfl) (by
   simp only [Xn]
   rw [Aa (by omega)]; rfl) (by omega)
 unfold Gp Iq Zg
 simp only [Mc, jb, Uq]
 cases decide (0 ≤ d.1 ∧ d.1 ≤ 2) with
 | false => rfl
 | true =>
  cases decide (1 ≤ d.2.1 ∧ d.2.1 ≤ 20) with
  | false => rfl
  | true =>
   by_cases h3 : 1 ≤ d.2.2.1 ∧ d.2.2.1 ≤ 24
   ·rw [Ba h3]
    simp only [cond_true, jk]
    simp only [bne, Uq]
    cases (((ja d.2.2.2.2.2.1 : Nat) : Int) == d.2.2.1) with
    | false => rfl
    | true =>
     simp only [cond_true, jk]
     erw [hl]
     unfold Qav
     cases Le (fun _ x => decide ((0 : Int) ≤ x ∧ x ≤ 99)) 0 d.2.2.2.2.2.1 with
     | false => cases Oe d.2.2.1 d.2.2.2.1 <;> cases Oe d.2.2.1 d.2.2.2.2.1 <;> rfl
     | true =>
      simp only [cond_true, jb, ql]
      rw [Ba (show 0 ≤ d.2.2.1 by omega), LS _ _ (by omega), LS _ _ (by omega)]
      cases Oe d.2.2.1 d.2.2.2.1 <;> cases Oe d.2.2.1 d.2.2.2.2.1 <;> rfl
   ·rw [Aa h3]; rfl
def Yw (L : List Wa) (i : Nat) (x : Wa) : Bool :=
 decide (0 ≤ x.1 ∧ x.1 ≤ 16777215) && (decide (24 ≤ x.2.1 ∧ x.2.1 ≤ 31) && (decide (2 ≤ ((cnt 32 x.1.toNat : Nat) : Int) ∧ ((cnt 32 x.1.toNat : Nat) : Int) ≤ 4) && Le (fun _ (y : Wa) => !(y.1 == x.1) && !(y.2.1 == x.2.1)) 0 (L.take i)))
def Ih (L : List Wa) : Bool := decide (L.length ≤ 8) && Le (fun i x => Yw L i x) 0 L
theorem Qad {α : Type} {L : List α} {i k : Nat} (h : k < (L.take i).length) : (L.take i)[k] = L[k]'(by simp at h; omega) := by simp
theorem DT (L : List Wa) (hn : L.length ≤ Ea) : Gz L = some (Ih L, ()) := by
 have h20 : Ea = 1048576 := rfl
 have hl := Jf (step := fun x => Ut x.1.1 x.1.2.1 x.1.2.2.1 x.1.2.2.2.1) L (fun i x => Yw L i x) (fun i => ((L, L, ((ja L : Nat) : Int), i, ()), ()))
  (.inl ((), ())) (.inr ((false, ()), ())) (by
   intro k hk
   simp only [Ut]
   rw [Ba (show (k : Int) < ((ja L : Nat) : Int) by omega), Jb hk]
   simp only [cond_true, jb, Zw, Yw]
   generalize hx : L[k] = x
   by_cases h1 : 0 ≤ x.1 ∧ x.1 ≤ 16777215
   ·rw [Ba h1]
    cases decide (24 ≤ x.2.1 ∧ x.2.1 ≤ 31) with
    | false => rfl
    | true =>
     have e : j5 .u64 x.1 = ((x.1.toNat : Nat) : Int) := by
      have : x.1 = ((x.1.toNat : Nat) : Int) := by omega
      rw [this, LV (by
       have : (2 : Nat) ^ 64 = 18446744073709551616 := by decide
       omega)]
      simp
     rw [e, Pag (by omega)]
     simp only [cond_true, jb, jk, Zw]
     cases decide (2 ≤ ((cnt 32 x.1.toNat : Nat) : Int) ∧ ((cnt 32 x.1.toNat : Nat) : Int) ≤ 4) with
     | false => rfl
     | true =>
      have hcut : Ld (ja L) 0 (k : Int) = true := Zh (lo := 0) (Nat.zero_le _) (by omega)
      rw [hcut]
      simp only [cond_true, jk]
      have hin := Jf (step := fun y => Zq y.1.1 y.1.2.1 y.1.2.2.1 y.1.2.2.2.1 y.1.2.2.2.2.1 y.1.2.2.2.2.2.1 y.1.2.2.2.2.2.2.1 y.1.2.2.2.2.2.2.2.1 y.2.1) (L.take k) (fun _ (y : Wa) => !(y.1 == x.1) && !(y.2.1 == x.2.1)) (fun i => ((L, (), L, ((ja L : Nat) : Int), (k : Int), L.take k, ((ja (L.take k) : Nat) : Int), i, ()), (x, ())))
       (.inl ((L, L, ((ja L : Nat) : Int), (k : Int), ()), ())) (.inr ((false, ()), ())) (by
        intro j hj
        simp only [Zq]
        rw [Ba (show (j : Int) < ((ja (L.take k) : Nat) : Int) by omega), Jb hj]
        simp only [cond_true, jb]
        cases ((L.take k)[j].1 == x.1) <;> cases ((L.take k)[j].2.1 == x.2.1) <;> rfl) (by
        simp only [Zq]
        rw [Aa (by omega)]; rfl) (by simp; omega)
      have hc : Eb L (jy (0 : Int)) (jy (k : Int)) = L.take k := by simp [Eb]
      rw [hc]
      unfold Hv
      erw [hin]
      cases Le (fun _ (y : Wa) => !(y.1 == x.1) && !(y.2.1 == x.2.1)) 0 (L.take k) <;> rfl
   ·rw [Aa h1]; rfl) (by
   simp only [Ut]
   rw [Aa (by omega)]; rfl) (by omega)
 unfold Gz Hx Ih
 by_cases h8 : L.length ≤ 8
 ·rw [Aa (show ¬ ((ja L : Nat) : Int) > 8 by omega), Ba h8]
  simp only [cond_false, jk]
  erw [hl]
  cases Le (fun i x => Yw L i x) 0 L <;> rfl
 ·rw [Ba (show ((ja L : Nat) : Int) > 8 by omega), Aa h8]; rfl
theorem WT (L : List Wa) (hn : L.length ≤ Ea) : Tz L = some (Ih L, ()) := by
 have h20 : Ea = 1048576 := rfl
 have hl := Jf (step := fun x => Nu x.1.1 x.1.2.1) L (fun i x => Yw L i x) (fun i => ((L, i, ()), ()))
  (.inl ((L, ()), ())) (.inr ((false, ()), ())) (by
   intro k hk
   simp only [Nu]
   rw [Ba (show (k : Int) < ((ja L : Nat) : Int) by omega), Jb hk]
   simp only [cond_true, jb, Mc, Uq, Yw]
   generalize hx : L[k] = x
   by_cases h1 : 0 ≤ x.1 ∧ x.1 ≤ 16777215
   ·rw [Ba h1]
    have e : Yz x.1 = some (((cnt 32 x.1.toNat : Nat) : Int), ()) := by
     obtain ⟨n, hnn⟩ := jv h1.1
     rw [hnn, jn]
     exact R7 (by omega)
    rw [e]
    simp only [cond_true, jb, jk]
    cases decide (2 ≤ ((cnt 32 x.1.toNat : Nat) : Int) ∧ ((cnt 32 x.1.toNat : Nat) : Int) ≤ 4) with
    | false => cases decide (24 ≤ x.2.1 ∧ x.2.1 ≤ 31) <;> rfl
    | true =>
     cases decide (24 ≤ x.2.1 ∧ x.2.1 ≤ 31) with
     | false => rfl
     | true =>
      simp only [cond_true, jk]
      have hin := Jf (step := fun y => Ou y.1.1 y.1.2.1 y.1.2.2.1) (L.take k) (fun _ (y : Wa) => !(y.1 == x.1) && !(y.2.1 == x.2.1)) (fun i => ((L, (k : Int), i, ()), ()))
       (.inl ((L, (k : Int), ()), ())) (.inr ((false, ()), ())) (by
        intro j hj
        have hj2 : j < k := by simp at hj; omega
        simp only [Ou]
        rw [Ba (show (j : Int) < (k : Int) by omega), Jb (show j < L.length by omega), Jb hk, hx, Qad hj]
        simp only [cond_true, jb]
        cases (L[j].1 == x.1) <;> cases (L[j].2.1 == x.2.1) <;> rfl) (by
        have : ((ja (L.take k) : Nat) : Int) = (k : Int) := by simp; omega
        simp only [Ou]
        rw [Aa (by omega)]; rfl) (by simp; omega)
      unfold Jy
      erw [hin]
      cases Le (fun _ (y : Wa) => !(y.1 == x.1) && !(y.2.1 == x.2.1)) 0 (L.take k) <;> rfl
   ·rw [Aa h1]; rfl) (by
   simp only [Nu]
   rw [Aa (by omega)]; rfl) (by omega)
 unfold Tz Iy Ih
 erw [hl]
 cases Le (fun i x => Yw L i x) 0 L with
 | true =>
  simp only [cond_true, jb, ql, Bool.and_true]
  apply Yc
  simp only [decide_eq_true_eq]; omega
 | false => cases decide (L.length ≤ 8) <;> rfl
def YI : Wa := (0, 0, ())
def Ak (L : List Wa) (o : Int) : Option Wa := L.find? (fun c => c.2.1 == o)
theorem CY {α : Type} (p : α → Bool) : ∀ (xs : List α) (k : Nat), (Xc (fun _ (_ : Unit) x => cond (p x) (.inr x) (.inl ())) k () xs : Unit ⊕ α) = match xs.find? p with | some x => .inr x | none => .inl ()
 | [], _ => rfl
 | x :: xs, k => by
  rcases Bool.eq_false_or_eq_true (p x) with hp | hp
  ·simp only [Xc, hp, cond_true, List.find?_cons]
  ·simp only [Xc, hp, cond_false, List.find?_cons]; exact CY p xs (k + 1)
theorem QU (L : List Wa) (o : Int) (hn : L.length ≤ Ea) : SD L o = some ((Ak L o).getD YI, (Ak L o).isSome, ()) := by
 have h20 : Ea = 1048576 := rfl
 have hl := Dh (step := fun x => Mx x.1.1 x.1.2.1 x.1.2.2.1 x.1.2.2.2.1 x.1.2.2.2.2.1 x.2.1) L (fun _ (_ : Unit) (x : Wa) => cond (x.2.1 == o) (.inr x) (.inl ())) (fun _ i => ((o, (), L, ((ja L : Nat) : Int), i, ()), (((0 : Int), (0 : Int), ()), ())))
  (fun _ => .inl (((), ()), (((0 : Int), (0 : Int), ()), ()))) (fun x => .inr (((), true, ()), (x, ()))) (fun _ _ => True) (by
   intro k hk s _
   refine ⟨?_, fun _ _ => trivial⟩
   simp only [Mx]
   rw [Ba (show (k : Int) < ((ja L : Nat) : Int) by omega), Jb hk]
   simp only [cond_true, jb]
   cases (L[k].2.1 == o) <;> rfl) (by
   intro s _
   simp only [Mx]
   rw [Aa (by omega)]; rfl) (by omega) () trivial
 unfold SD SA Ak
 erw [hl, CY]
 cases List.find? (fun c => c.2.1 == o) L <;> rfl
theorem GV (L : List Wa) (o : Int) (hn : L.length ≤ Ea) : XE L o = some (((Ak L o).getD YI).1, ()) := by
 have h20 : Ea = 1048576 := rfl
 have hl := Dh (step := fun x => Sy x.1.1 x.1.2.1 x.1.2.2.1) L (fun _ (_ : Unit) (x : Wa) => cond (x.2.1 == o) (.inr x) (.inl ())) (fun _ i => ((L, o, i, ()), ()))
  (fun _ => .inl ((), ())) (fun x => .inr ((x.1, ()), ())) (fun _ _ => True) (by
   intro k hk s _
   refine ⟨?_, fun _ _ => trivial⟩
   simp only [Sy]
   rw [Ba (show (k : Int) < ((ja L : Nat) : Int) by omega), Jb hk]
   simp only [cond_true, jb]
   cases (L[k].2.1 == o) <;> rfl) (by
   intro s _
   simp only [Sy]
   rw [Aa (by omega)]; rfl) (by omega) () trivial
 unfold XE AB Ak
 erw [hl, CY]
 cases List.find? (fun c => c.2.1 == o) L <;> rfl
theorem VX {L : List Wa} {o : Int} (h : Ih L = true) (hs : (Ak L o).isSome = true) : 24 ≤ o ∧ o ≤ 31 ∧ 0 ≤ ((Ak L o).getD YI).1 ∧ ((Ak L o).getD YI).1 ≤ 16777215 := by
 unfold Ak at *
 cases hc : List.find? (fun c => c.2.1 == o) L with
 | none => rw [hc] at hs; simp at hs
 | some c =>
  have h1 := List.find?_some hc
  have h2 := List.mem_of_find?_eq_some hc
  obtain ⟨i, hi, rfl⟩ := qu h2
  simp only [Ih, jd] at h
  have h3 := ID.1 h.2 i hi
  simp only [Yw, jd, decide_eq_true_eq] at h3
  simp only [beq_iff_eq] at h1
  simp only [Option.getD_some]
  omega
def okA (K : Int) (x : Ca) : Bool := !decide (x.2.1 ≤ 0) && (!(Mb .i64 x.2.1 K != 0) && !(x.2.2.1 != (x.2.1 == K)))
def KY (L : List Wa) (o : Int) : Int := ((Ak L o).getD YI).1
def W4 (L : List Wa) (x : Ca) : Bool := (Ak L x.1).isSome && okA (KY L x.1) x
theorem Uay {x : Int} (h0 : 0 < x) (h1 : x ≤ 9223372036854775807) : Mb .i64 x 0 = x := by
 obtain ⟨n, rfl⟩ := jv (show 0 ≤ x by omega)
 show Mb .i64 (n : Int) ((0 : Nat) : Int) = _
 rw [P0 (by rw [Nw]; omega) (by decide), Nat.and_zero, Nat.xor_zero]
theorem Sa6 {L : List Wa} {x : Ca} (h1 : x.2.1 ≤ 9223372036854775807) : okA (KY L x.1) x = W4 L x := by
 unfold W4 KY
 cases hc : Ak L x.1 with
 | some c => rfl
 | none =>
  simp only [Option.getD_none, Option.isSome_none, qq, okA, YI]
  by_cases h0 : x.2.1 ≤ 0
  ·rw [Ba h0]; rfl
  ·rw [Uay (by omega) h1, Aa h0]
   have : (x.2.1 != 0) = true := by simp; omega
   rw [this]; rfl
def NE (pre : List Ca) (x : Ca) : Bool := Le (fun _ (y : Ca) => !(y.1 == x.1)) 0 pre
def VH (L : List Wa) : List Ca → List Ca → Bool
 | _, [] => true
 | pre, x :: r => (W4 L x && NE pre x) && VH L (pre ++ [x]) r
def LO (c : Pa) : Bool := VH c.1 [] c.2.2.2.2.2.2.1
theorem L8 {α : Type} (p : α → Bool) : ∀ (xs : List α) (k j : Nat), Le (fun _ x => p x) k xs = Le (fun _ x => p x) j xs
 | [], _, _ => rfl
 | x :: xs, k, j => by simp only [Le]; rw [L8 p xs (k + 1) (j + 1)]
theorem Zag {α : Type} (p : α → Bool) : ∀ (xs ys : List α) (k : Nat), Le (fun _ x => p x) k (xs ++ ys) = (Le (fun _ x => p x) k xs && Le (fun _ x => p x) k ys)
 | [], ys, k => by simp [Le]
 | x :: xs, ys, k => by
  simp only [List.cons_append, Le]
  rw [Zag p xs ys (k + 1), Bool.and_assoc, L8 p ys (k + 1) k]
theorem FaB (pre : List Ca) (y x : Ca) : NE (pre ++ [y]) x = (NE pre x && !(y.1 == x.1)) := by
 unfold NE
 rw [Zag]
 simp [Le]
def Wag (L : List Wa) (s : Int) (x : Ca) : Int ⊕ Unit := cond (W4 L x && !(Kd s x.1 == 1)) (.inl (Nc .i64 s (Qa .i64 1 x.1))) (.inr ())
theorem Xag {L : List Wa} (hL : Ih L = true) : ∀ (l pre : List Ca) (k : Nat) (s : Nat), s < 2 ^ 63 →
 (∀ x : Ca, 24 ≤ x.1 → x.1 ≤ 31 → (Kd (s : Int) x.1 == 1) = !NE pre x) → Cn (Xc (fun _ s x => Wag L s x) k (s : Int) l) = VH L pre l
 | [], _, _, _, _, _ => rfl
 | x :: l, pre, k, s, hs, hb => by
  simp only [Xc, VH, Wag]
  cases ho : W4 L x with
  | false => rfl
  | true =>
   have hk : 24 ≤ x.1 ∧ x.1 ≤ 31 := by
    simp only [W4, jd] at ho
    have := VX hL ho.1
    omega
   rw [hb x hk.1 hk.2]
   simp only [Bool.not_not, jk]
   cases hn : NE pre x with
   | false => rfl
   | true =>
    simp only [cond_true, jk]
    obtain ⟨n, hn2⟩ := jv (show 0 ≤ x.1 by omega)
    have hor : Nc .i64 (s : Int) (Qa .i64 1 x.1) = ((s ||| 2 ^ n : Nat) : Int) := by
     rw [hn2, Cl (by omega), Sv hs (Aj (by omega))]
    rw [hor]
    refine Xag hL l (pre ++ [x]) (k + 1) _ (Nat.or_lt_two_pow hs (Aj (by omega))) fun y h1 h2 => ?_
    obtain ⟨m, hm⟩ := jv (show 0 ≤ y.1 by omega)
    rw [← hor, hm, hn2, DaT hs (by omega) (by omega), ← hm, hb y h1 h2, FaB]
    have : (x.1 == y.1) = decide (n = m) := by rw [hm, hn2, qy, beq_iff_eq, decide_eq_true_eq]; omega
    rw [this]
    cases NE pre y <;> cases decide (n = m) <;> rfl
theorem U0 (c : Pa) (hc : Ih c.1 = true) (hn : c.2.2.2.2.2.2.1.length ≤ Ea) (hn1 : c.1.length ≤ Ea) : NB c = some (LO c, ()) := by
 have h20 : Ea = 1048576 := rfl
 have hl := Dh (step := fun x => Lp x.1.1 x.1.2.1 x.1.2.2.1 x.1.2.2.2.1 x.1.2.2.2.2.1 x.2.1) c.2.2.2.2.2.2.1 (fun _ s x => Wag c.1 s x) (fun s i => (((), s, c.2.2.2.2.2.2.1, ((ja c.2.2.2.2.2.2.1 : Nat) : Int), i, ()), (c, ())))
  (fun _ => .inl ((), ())) (fun _ => .inr ((false, ()), ())) (fun _ _ => True) (by
   intro k hk s _
   refine ⟨?_, fun _ _ => trivial⟩
   simp only [Lp]
   rw [Ba (show (k : Int) < ((ja c.2.2.2.2.2.2.1 : Nat) : Int) by omega), Jb hk]
   simp only [cond_true, jb]
   generalize c.2.2.2.2.2.2.1[k] = x
   rw [QU _ _ hn1]
   simp only [jb, Wag, W4]
   cases hsome : (Ak c.1 x.1).isSome with
   | false => rfl
   | true =>
    have hk := VX hc hsome
    simp only [jg, cond_false, jk]
    rw [Ml s (by omega), Ba (show 0 ≤ x.1 by omega)]
    simp only [jb, cond_true, okA, KY]
    cases Kd s x.1 == 1 <;> cases decide (x.2.1 ≤ 0) <;> cases (Mb .i64 x.2.1 ((Ak c.1 x.1).getD YI).1 != 0) <;> cases (x.2.2.1 != (x.2.1 == ((Ak c.1 x.1).getD YI).1)) <;> rfl) (by
   intro s _
   simp only [Lp]
   rw [Aa (by omega)]; rfl) (by omega) 0 trivial
 unfold NB Ws LO
 erw [hl]
 rw [← Xag hc c.2.2.2.2.2.2.1 [] 0 0 (by decide) (fun x h1 h2 => by
  obtain ⟨m, hm⟩ := jv (show 0 ≤ x.1 by omega)
  rw [hm, Ts (by decide) (by omega), Nat.zero_testBit]; rfl)]
 show jz (some _) _ = _
 simp only [jb]
 show j7 _ _ _ = _
 cases Xc (fun x s x => Wag c.1 s x) 0 ((0 : Nat) : Int) c.2.2.2.2.2.2.1 <;> rfl
def swG (s : Int) (x : Ca) : Int ⊕ Unit := cond (Va .i64 s x.2.1 != 0) (.inr ()) (.inl (Nc .i64 s x.2.1))
def swB (c : Pa) : Bool := Cn (Xc (fun _ s x => swG s x) 0 c.2.2.2.2.2.1 c.2.2.2.2.2.2.1)
def orK (k : Nat) (s : Int) (l : List Ca) : Int := Pd (fun _ s (x : Ca) => Nc .i64 s x.2.1) k s l
def Cm (c : Pa) : Int := orK 0 c.2.2.2.2.2.1 c.2.2.2.2.2.2.1
theorem ZaK : ∀ (l : List Ca) (k : Nat) (s : Int), Xc (fun _ s x => swG s x) k s l = cond (Cn (Xc (fun _ s x => swG s x) k s l)) (.inl (orK k s l)) (.inr ())
 | [], _, _ => rfl
 | x :: l, k, s => by
  simp only [Xc, orK, Pd, swG]
  cases Va .i64 s x.2.1 != 0 with
  | true => rfl
  | false => simp only [cond_false]; exact ZaK l (k + 1) _
theorem Px (c : Pa) (hn : c.2.2.2.2.2.2.1.length ≤ Ea) : Mi c = some (cond (swB c) (Cm c) 0, swB c, ()) := by
 have h20 : Ea = 1048576 := rfl
 have hl := Dh (step := fun x => Hm x.1.1 x.1.2.1 x.1.2.2.1 x.1.2.2.2.1) c.2.2.2.2.2.2.1 (fun _ s x => swG s x) (fun s i => ((s, c.2.2.2.2.2.2.1, ((ja c.2.2.2.2.2.2.1 : Nat) : Int), i, ()), ()))
  (fun s => .inl ((s, ()), ())) (fun _ => .inr (((0 : Int), false, ()), ())) (fun _ _ => True) (by
   intro k hk s _
   refine ⟨?_, fun _ _ => trivial⟩
   simp only [Hm]
   rw [Ba (show (k : Int) < ((ja c.2.2.2.2.2.2.1 : Nat) : Int) by omega), Jb hk]
   simp only [cond_true, jb, swG]
   cases (Va .i64 s c.2.2.2.2.2.2.1[k].2.1 != 0) <;> rfl) (by
   intro s _
   simp only [Hm]
   rw [Aa (by omega)]; rfl) (by omega) c.2.2.2.2.2.1 trivial
 unfold Mi Ap swB Cm
 erw [hl, ZaK]
 show jz (some _) _ = _
 cases Cn (Xc (fun _ s x => swG s x) 0 c.2.2.2.2.2.1 c.2.2.2.2.2.2.1) <;> rfl
theorem SN (c : Pa) (hn : c.2.2.2.2.2.2.1.length ≤ Ea) : Gw c = some (Cm c, ()) := by
 have h20 : Ea = 1048576 := rfl
 have hl := (Ce (step := fun x => Ry x.1.1 x.1.2.1 x.1.2.2.1 x.2.1) c.2.2.2.2.2.2.1 (fun _ s (x : Ca) => Nc .i64 s x.2.1) (fun s i => (((), s, i, ()), (c, ())))
  (fun s => .inl ((s, ()), ())) (fun _ _ => True) (by
   intro k hk s _
   refine ⟨?_, trivial⟩
   simp only [Ry]
   rw [Ba (show (k : Int) < ((ja c.2.2.2.2.2.2.1 : Nat) : Int) by omega), Jb hk]; rfl) (by
   intro s _
   simp only [Ry]
   rw [Aa (by omega)]; rfl) (by omega) c.2.2.2.2.2.1 trivial).1
 unfold Gw ZA Cm orK
 erw [hl]; rfl
def Yag (L : List Wa) (l : List Ca) (k : Nat) (s : Int) (x : Ca) : Int ⊕ Unit :=
 cond (okA (KY L x.1) x && (!(Va .i64 x.2.1 s != 0) && NE (l.take k) x)) (.inl (Nc .i64 s x.2.1)) (.inr ())
theorem Vaz (x y : Int) : Va .i64 x y = Va .i64 y x := by unfold Va; rw [BitVec.and_comm]
theorem H8 (L : List Wa) (l : List Ca) : ∀ (r : List Ca) (k : Nat) (s : Int), l.drop k = r → k ≤ l.length → (∀ x ∈ r, x.2.1 ≤ 9223372036854775807) →
 Cn (Xc (Yag L l) k s r) = (VH L (l.take k) r && Cn (Xc (fun _ s x => swG s x) k s r))
 | [], _, _, _, _, _ => rfl
 | x :: r, k, s, hd, hle, hr => by
  obtain ⟨hk, hx, hd'⟩ := NQ hd
  have ht : l.take (k + 1) = l.take k ++ [x] := by rw [Rad hk, hx]
  simp only [Xc, VH, Yag, swG]
  rw [Sa6 (hr x (by simp)), Vaz x.2.1 s]
  cases W4 L x with
  | false => rfl
  | true =>
   cases (Va .i64 s x.2.1 != 0) with
   | true => simp [Cn]
   | false =>
    cases NE (l.take k) x with
    | false => rfl
    | true =>
     simp only [qa, jk, cond_true, cond_false]
     rw [H8 L l r (k + 1) _ hd' hk (fun y hy => hr y (by simp [hy])), ht]; rfl
theorem E4 (c : Pa) (hr : ∀ x ∈ c.2.2.2.2.2.2.1, x.2.1 ≤ 9223372036854775807) (hn : c.2.2.2.2.2.2.1.length ≤ Ea) (hn1 : c.1.length ≤ Ea) :
 RG c = some (decide (0 ≤ c.2.2.2.2.2.1 ∧ c.2.2.2.2.2.1 ≤ 16777215) && (LO c && swB c), ()) := by
 have h20 : Ea = 1048576 := rfl
 have hl := Dh (step := fun x => Js x.1.1 x.1.2.1 x.1.2.2.1 x.2.1) c.2.2.2.2.2.2.1 (Yag c.1 c.2.2.2.2.2.2.1) (fun s i => (((), s, i, ()), (c, ())))
  (fun _ => .inl (((), ()), (c, ()))) (fun _ => .inr ((false, ()), ())) (fun _ _ => True) (by
   intro k hk s _
   refine ⟨?_, fun _ _ => trivial⟩
   simp only [Js]
   rw [Ba (show (k : Int) < ((ja c.2.2.2.2.2.2.1 : Nat) : Int) by omega), Jb hk]
   simp only [cond_true, jb]
   rw [GV _ _ hn1]
   generalize hx : c.2.2.2.2.2.2.1[k] = x
   simp only [jb, Yag, okA, KY]
   have hin := Jf (step := fun y => Bq y.1.1 y.1.2.1 y.1.2.2.1 y.1.2.2.2.1 y.1.2.2.2.2.1 y.2.1 y.2.2.1) (c.2.2.2.2.2.2.1.take k) (fun _ (y : Ca) => !(y.1 == x.1)) (fun i => (((), s, (k : Int), (), i, ()), (c, x, ())))
    (.inl (((), s, (k : Int), (), ()), (c, x, ()))) (.inr ((false, ()), ())) (by
     intro j hj
     have hj2 : j < k := by simp at hj; omega
     simp only [Bq]
     rw [Ba (show (j : Int) < (k : Int) by omega), Jb (show j < c.2.2.2.2.2.2.1.length by omega), Qad hj]
     simp only [cond_true, jb]
     cases (c.2.2.2.2.2.2.1[j].1 == x.1) <;> rfl) (by
     have : ((ja (c.2.2.2.2.2.2.1.take k) : Nat) : Int) = (k : Int) := by simp; omega
     simp only [Bq]
     rw [Aa (by omega)]; rfl) (by simp; omega)
   unfold Ht NE
   erw [hin]
   cases decide (x.2.1 ≤ 0) with
   | true => rfl
   | false =>
    cases (Mb .i64 x.2.1 ((Ak c.1 x.1).getD YI).1 != 0) with
    | true => rfl
    | false =>
     cases (x.2.2.1 != (x.2.1 == ((Ak c.1 x.1).getD YI).1)) with
     | true => rfl
     | false =>
      cases (Va .i64 x.2.1 s != 0) with
      | true => rfl
      | false => cases Le (fun _ (y : Ca) => !(y.1 == x.1)) 0 (c.2.2.2.2.2.2.1.take k) <;> rfl) (by
   intro s _
   simp only [Js]
   rw [Aa (by omega)]; rfl) (by omega) c.2.2.2.2.2.1 trivial
 unfold RG Fw LO swB
 erw [hl]
 have hs := H8 c.1 c.2.2.2.2.2.2.1 c.2.2.2.2.2.2.1 0 c.2.2.2.2.2.1 rfl (Nat.zero_le _) hr
 rw [List.take_zero] at hs
 rw [← hs]
 show jz (some _) _ = _
 cases Xc (Yag c.1 c.2.2.2.2.2.2.1) 0 c.2.2.2.2.2.1 c.2.2.2.2.2.2.1 with
 | inl s =>
  simp only [jb, ql, Mc, Cn, Bool.and_true]
 | inr u => simp only [jb, Sum.elim_inr, Cn, Bool.and_false]
def Zd (c : Pa) : Bool :=
 Ih c.1 && (decide (1 ≤ c.2.1 ∧ c.2.1 ≤ 200) && (decide (0 ≤ c.2.2.2.1 ∧ c.2.2.2.1 ≤ 1000000) && (decide (0 ≤ c.2.2.2.2.1 ∧ c.2.2.2.2.1 ≤ c.2.2.2.1) && ((decide (0 ≤ c.2.2.2.2.2.1 ∧ c.2.2.2.2.2.1 ≤ 16777215) && (LO c && swB c)) &&
  (Rd c.2.2.1 (Cm c) 24 && Rf c.2.2.1 c.2.2.2.1)))))
structure Bj (c : Pa) : Prop where
 a : c.1.length ≤ Ea
 q : c.2.2.1.length ≤ Ea
 e : c.2.2.2.2.2.2.1.length ≤ Ea
 r : ∀ x ∈ c.2.2.2.2.2.2.1, x.2.1 ≤ 9223372036854775807
theorem PQ (c : Pa) (h : Bj c) : Yq c = some (Zd c, ()) := by
 unfold Yq Zd
 rw [DT _ h.a]
 cases hc : Ih c.1 with
 | false => rfl
 | true =>
  rw [U0 c hc h.e h.a, Px c h.e]
  simp only [jb, Uq, cond_true, jk, Zw]
  cases decide (1 ≤ c.2.1 ∧ c.2.1 ≤ 200) with
  | false => rfl
  | true =>
   cases decide (0 ≤ c.2.2.2.1 ∧ c.2.2.2.1 ≤ 1000000) with
   | false => rfl
   | true =>
    cases decide (0 ≤ c.2.2.2.2.1 ∧ c.2.2.2.2.1 ≤ c.2.2.2.1) with
    | false => rfl
    | true =>
     cases decide (0 ≤ c.2.2.2.2.2.1 ∧ c.2.2.2.2.2.1 ≤ 16777215) with
     | false => rfl
     | true =>
      cases LO c with
      | false => rfl
      | true =>
       cases swB c with
       | false => rfl
       | true =>
        simp only [cond_true, jk]
        rw [Au _ _ _ h.q, Zt _ _ h.q]
        cases Rd c.2.2.1 (Cm c) 24 <;> rfl
theorem ZQ (c : Pa) (h : Bj c) : Cs c = some (Zd c, ()) := by
 have h20 : Ea = 1048576 := rfl
 unfold Cs Zd
 rw [WT _ h.a]
 cases hc : Ih c.1 with
 | false => rfl
 | true =>
  rw [E4 c h.r h.e h.a, SN c h.e]
  simp only [jb, Uq, cond_true, jk, Mc]
  cases decide (1 ≤ c.2.1 ∧ c.2.1 ≤ 200) with
  | false => rfl
  | true =>
   cases decide (0 ≤ c.2.2.2.1 ∧ c.2.2.2.1 ≤ 1000000) with
   | false => rfl
   | true =>
    cases decide (0 ≤ c.2.2.2.2.1 ∧ c.2.2.2.2.1 ≤ c.2.2.2.1) with
    | false => rfl
    | true =>
     cases (decide (0 ≤ c.2.2.2.2.2.1 ∧ c.2.2.2.2.2.1 ≤ 16777215) && (LO c && swB c)) with
     | false => rfl
     | true =>
      simp only [cond_true, jk]
      rw [Is _ _ _ h.q]
      simp only [jb]
      cases Rd c.2.2.1 (Cm c) 24 with
      | false => rfl
      | true =>
       simp only [cond_true, jk, Rf]
       by_cases h0 : c.2.2.1.length = 0
       ·have : (((c.2.2.1.length : Nat) : Int) == 0) = true := by simp [h0]
        rw [this]; rfl
       ·obtain ⟨x, h1, h2⟩ := BT (l := c.2.2.1) (by omega) h.q
        have : (((c.2.2.1.length : Nat) : Int) == 0) = false := by
         rw [beq_eq_false_iff_ne]; omega
        rw [this, h1]
        simp only [cond_false, jb, Bool.false_or, h2]
def qdG (s : Int) (x : Ca) : Int := cond x.2.2.1 (Nc .i64 s (Qa .i64 1 x.2.1)) (Mb .i64 s (Qa .i64 1 x.2.1))
def qdI (d : Int) (q : List Ca) : Int := Pd (fun _ s x => qdG s x) 0 d q
def tgG (s : Int) (x : Ca) : Int := Za .i64 s (Qa .i64 1 x.2.1)
def tgI (d : Int) (q : List Ca) : Int := Pd (fun _ s x => tgG s x) 0 d q
theorem UR (d : Int) (q : List Ca) (hn : q.length ≤ Ea) (hx : ∀ x ∈ q, 0 ≤ x.2.1) : Ov d q = some (qdI d q, ()) := by
 have h20 : Ea = 1048576 := rfl
 have hl := (Ce (step := fun x => Er x.1.1 x.1.2.1 x.1.2.2.1 x.1.2.2.2.1) q (fun _ s x => qdG s x) (fun s i => ((s, q, ((ja q : Nat) : Int), i, ()), ()))
  (fun s => .inl ((s, ()), ())) (fun _ _ => True) (by
   intro k hk s _
   refine ⟨?_, trivial⟩
   simp only [Er]
   rw [Ba (show (k : Int) < ((ja q : Nat) : Int) by omega), Jb hk]
   simp only [cond_true, jb]
   rw [Ba (hx _ (qs hk))]
   unfold qdG
   cases q[k].2.2.1 <;> rfl) (by
   intro s _
   simp only [Er]
   rw [Aa (by omega)]; rfl) (by omega) d trivial).1
 unfold Ov Pv qdI
 erw [hl]; rfl
theorem WW {k : Int} (h : 0 ≤ k ∧ k ≤ 31) : Ft k = some (Qa .i64 1 k, ()) := by
 unfold Ft
 rw [Mc, Ba h, Ba h.1]; rfl
theorem AR (d : Int) (q : List Ca) (hn : q.length ≤ Ea) (hx : ∀ x ∈ q, 0 ≤ x.2.1 ∧ x.2.1 ≤ 31) : Ms d q = some (tgI d q, ()) := by
 have h20 : Ea = 1048576 := rfl
 have hl := (Ce (step := fun x => Cq x.1.1 x.1.2.1 x.1.2.2.1) q (fun _ s x => tgG s x) (fun s i => ((s, q, i, ()), ()))
  (fun s => .inl ((s, ()), ())) (fun _ _ => True) (by
   intro k hk s _
   refine ⟨?_, trivial⟩
   simp only [Cq]
   rw [Ba (show (k : Int) < ((ja q : Nat) : Int) by omega), Jb hk]
   simp only [cond_true, jb]
   rw [WW (hx _ (qs hk))]; rfl) (by
   intro s _
   simp only [Cq]
   rw [Aa (by omega)]; rfl) (by omega) d trivial).1
 unfold Ms It tgI
 erw [hl]; rfl
theorem BY : ∀ {q : List Ca} {k : Nat} {s : Int × Int}, Cn (Xc (fun _ s x => Ev s x) k s q) = true → ∀ x ∈ q, Sh x = true
 | [], _, _, _, x, hx => by simp at hx
 | y :: q, k, s, h, x, hx => by
  simp only [Xc, Ev] at h
  cases hc : Fv s y with
  | false => rw [hc] at h; simp [Cn] at h
  | true =>
   rw [hc] at h
   rcases jp.1 hx with rfl | hx
   ·simp only [Fv, jd] at hc; exact hc.1
   ·exact BY h x hx
theorem WaK : ∀ (q : List Ca) (k : Nat) (t : Int) (d : Nat), d < 2 ^ 63 → Cn (Xc (fun _ s x => Ev s x) k (t, (d : Int)) q) = true →
 Pd (fun _ s x => qdG s x) k (d : Int) q = Pd (fun _ s x => tgG s x) k (d : Int) q
 | [], _, _, _, _, _ => rfl
 | x :: q, k, t, d, hd, h => by
  simp only [Xc, Ev] at h
  cases hc : Fv (t, (d : Int)) x with
  | false => rw [hc] at h; simp [Cn] at h
  | true =>
   rw [hc] at h
   simp only [cond_true] at h
   simp only [Fv, jd, Bool.not_eq_true'] at hc
   have hk := Kk hc.1
   obtain ⟨n, hn⟩ := jv hk.2.2.1
   have hn31 : n ≤ 31 := by omega
   have e : qdG (d : Int) x = tgG (d : Int) x := by
    unfold qdG tgG
    have hb := hc.2.2
    rw [hn] at hb ⊢
    cases hp : x.2.2.1 with
    | true =>
     rw [hp] at hb
     exact SaU hd (by omega) (by cases hz : (Kd (d : Int) (n : Int) == 1) with
      | false => rfl
      | true => rw [hz] at hb; simp at hb)
    | false =>
     rw [hp] at hb
     exact KaD hd (by omega) (by cases hz : (Kd (d : Int) (n : Int) == 1) with
      | true => rfl
      | false => rw [hz] at hb; simp at hb)
   obtain ⟨b, hb1, hb2⟩ := Sal (a := d) (k := n) hd (by omega)
   have hg : tgG (d : Int) x = (b : Int) := by unfold tgG; rw [hn]; exact hb1
   simp only [Pd]
   rw [e, hg]
   rw [hn, hb1] at h
   exact WaK q (k + 1) x.1 b hb2 h
theorem I6 {q : List Ca} {d keys : Int} (h : Rd q d keys = true) : Cn (Xc (fun _ s x => Ev s x) 0 (0, d) q) = true := by
 simp only [Rd, SO, Naw, jd] at h
 have h2 := h.2
 cases hf : Xc (fun _ s x => Ev s x) 0 (0, d) q with
 | inl s => rfl
 | inr u => rw [hf] at h2; cases hd : decide (q.length ≤ 64) <;> rw [hd] at h2 <;> simp at h2
theorem A3 {q : List Ca} {d keys : Int} (hd : 0 ≤ d ∧ d ≤ 9223372036854775807) (h : Rd q d keys = true) : (∀ x ∈ q, 0 ≤ x.2.1 ∧ x.2.1 ≤ 31) ∧ qdI d q = tgI d q := by
 have hf := I6 h
 refine ⟨fun x hx => ?_, ?_⟩
 ·have := Kk (BY hf x hx); omega
 ·obtain ⟨n, rfl⟩ := jv hd.1
  exact WaK q 0 0 n (by rw [Nw]; omega) hf
theorem A7 : ∀ (l : List Ra) (k : Nat) (s : Nat), s < 2 ^ 63 → (∀ x ∈ l, Zu x) → ∃ m : Nat, Pd (fun _ s (x : Ra) => Nc .i64 s (Qa .i64 1 x.1)) k (s : Int) l = (m : Int) ∧ m < 2 ^ 63
 | [], _, s, hs, _ => ⟨s, rfl, hs⟩
 | x :: l, k, s, hs, h => by
  have hx := h x (by simp)
  obtain ⟨n, hn⟩ := jv hx.lo
  have := hx.hi
  simp only [Pd]
  rw [hn, Cl (by omega), Sv hs (Aj (by omega))]
  exact A7 l (k + 1) _ (Nat.or_lt_two_pow hs (Aj (by omega))) (fun y hy => h y (by simp [hy]))
theorem KaB : ∀ (l : List Ca) (k : Nat) (s : Nat), s < 2 ^ 63 → (∀ x ∈ l, 0 ≤ x.2.1 ∧ x.2.1 ≤ 9223372036854775807) → ∃ m : Nat, orK k (s : Int) l = (m : Int) ∧ m < 2 ^ 63
 | [], _, s, hs, _ => ⟨s, rfl, hs⟩
 | x :: l, k, s, hs, h => by
  have hx := h x (by simp)
  obtain ⟨n, hn⟩ := jv hx.1
  have hn2 : n < 2 ^ 63 := by rw [Nw]; omega
  have := KaB l (k + 1) (s ||| n) (Nat.or_lt_two_pow hs hn2) (fun y hy => h y (by simp [hy]))
  simp only [orK, Pd] at this ⊢
  rw [hn, Sv hs hn2]
  exact this
theorem Val {L : List Wa} : ∀ {l pre : List Ca}, VH L pre l = true → ∀ x ∈ l, W4 L x = true
 | [], _, _, x, hx => by simp at hx
 | y :: l, pre, h, x, hx => by
  simp only [VH, jd] at h
  rcases jp.1 hx with rfl | hx
  ·exact h.1.1
  ·exact Val h.2 x hx
structure Nar (x : Ca) : Prop where
 lo : 0 ≤ x.1
 hi : x.1 ≤ 31
 left : 0 ≤ x.2.1
theorem ZI {c : Pa} (h : Zd c = true) : ∀ x ∈ c.2.2.2.2.2.2.1, Nar x := by
 intro x hx
 simp only [Zd, jd] at h
 have h1 := Val (l := c.2.2.2.2.2.2.1) h.2.2.2.2.1.2.1 x hx
 simp only [W4, jd] at h1
 have h2 := VX h.1 h1.1
 have h3 := h1.2
 simp only [okA, jd, Bool.not_eq_true', decide_eq_false_iff_not] at h3
 exact ⟨by omega, by omega, by omega⟩
theorem EZ {c : Pa} (hz : Bj c) (h : Zd c = true) : 0 ≤ Cm c ∧ Cm c ≤ 9223372036854775807 := by
 have ha := ZI h
 simp only [Zd, jd, decide_eq_true_eq] at h
 have h1 := h.2.2.2.2.1.1
 obtain ⟨n, hn⟩ := jv h1.1
 obtain ⟨m, hm, hm2⟩ := KaB c.2.2.2.2.2.2.1 0 n (by rw [Nw]; omega) (fun x hx => ⟨(ha x hx).left, hz.r x hx⟩)
 rw [Nw] at hm2
 unfold Cm
 rw [hn, hm]
 omega
def gvG (s : Int) (x : Ca) : Int := cond x.2.2.1 (Nc .i64 s (Qa .i64 1 x.1)) s
def gvI (c : Pa) : Int := Pd (fun _ s x => gvG s x) 0 c.2.2.2.2.2.1 c.2.2.2.2.2.2.1
theorem Jac (c : Pa) (hn : c.2.2.2.2.2.2.1.length ≤ Ea) (ha : ∀ x ∈ c.2.2.2.2.2.2.1, Nar x) : GQ c = some (gvI c, ()) := by
 have h20 : Ea = 1048576 := rfl
 have hl := (Ce (step := fun x => WC x.1.1 x.1.2.1 x.1.2.2.1 x.2.1) c.2.2.2.2.2.2.1 (fun _ s x => gvG s x) (fun s i => (((), s, i, ()), (c, ())))
  (fun s => .inl ((s, ()), ())) (fun _ _ => True) (by
   intro k hk s _
   refine ⟨?_, trivial⟩
   have hx := ha _ (qs hk)
   simp only [WC]
   rw [Ba (show (k : Int) < ((ja c.2.2.2.2.2.2.1 : Nat) : Int) by omega), Jb hk]
   simp only [cond_true, jb]
   rw [WW ⟨hx.lo, hx.hi⟩]
   unfold gvG
   cases c.2.2.2.2.2.2.1[k].2.2.1 <;> rfl) (by
   intro s _
   simp only [WC]
   rw [Aa (by omega)]; rfl) (by omega) c.2.2.2.2.2.1 trivial).1
 unfold GQ ZE gvI
 erw [hl]; rfl
theorem Gae (b : Jd) (t : Int) (hn : b.2.2.1.2.2.2.2.2.2.1.length ≤ Ea) (ha : ∀ x ∈ b.2.2.1.2.2.2.2.2.2.1, Nar x) :
 Kn (((), t, b.2.2.1.2.2.2.2.2.1, b.2.2.1.2.2.2.2.2.2.1, ((ja b.2.2.1.2.2.2.2.2.2.1 : Nat) : Int), (0 : Int), ()), (b, ())) = some (.inl (((), t, gvI b.2.2.1, ()), (b, ()))) := by
 have h20 : Ea = 1048576 := rfl
 have hl := (Ce (step := fun x => Tt x.1.1 x.1.2.1 x.1.2.2.1 x.1.2.2.2.1 x.1.2.2.2.2.1 x.1.2.2.2.2.2.1 x.2.1) b.2.2.1.2.2.2.2.2.2.1 (fun _ s x => gvG s x) (fun s i => (((), t, s, b.2.2.1.2.2.2.2.2.2.1, ((ja b.2.2.1.2.2.2.2.2.2.1 : Nat) : Int), i, ()), (b, ())))
  (fun s => .inl (((), t, s, ()), (b, ()))) (fun _ _ => True) (by
   intro k hk s _
   refine ⟨?_, trivial⟩
   have hx := ha _ (qs hk)
   simp only [Tt]
   rw [Ba (show (k : Int) < ((ja b.2.2.1.2.2.2.2.2.2.1 : Nat) : Int) by omega), Jb hk]
   simp only [cond_true, jb]
   rw [Ba hx.lo]
   unfold gvG
   cases b.2.2.1.2.2.2.2.2.2.1[k].2.2.1 <;> rfl) (by
   intro s _
   simp only [Tt]
   rw [Aa (by omega)]; rfl) (by omega) b.2.2.1.2.2.2.2.2.1 trivial).1
 unfold Kn gvI
 exact hl
def S6 (m : Be) (keys : Int) (L : List Wa) : Bool := Le (fun _ (x : Wa) => Fd m x.1 && !decide (x.2.1 ≥ keys)) 0 L
noncomputable def Tm (b : Jd) : Bool :=
 Gg b.1 && (Zg b.2.1 && (Zd b.2.2.1 && (Nf b.2.2.2.1 && ((b.2.1.2.2.1 == Vc b.1) && (!decide (b.2.2.2.1.1.1.1 < Vc b.1) && (Fd b.1 b.2.2.2.2.1 &&
  (S6 b.1 b.2.2.2.1.1.1.1 b.2.2.1.1 && (decide (0 ≤ b.2.2.2.2.2.1 ∧ b.2.2.2.2.2.1 ≤ 1000000) && (!decide (b.2.2.1.2.2.2.1 > b.2.2.2.2.2.1) && (!decide (b.2.2.2.1.2.2.2.1 > b.2.2.2.2.2.1) &&
  ((tgI (Cm b.2.2.1) b.2.2.1.2.2.1 == b.2.1.2.2.2.1) && (tgI (Ju b.2.2.2.1.1.2.2.2.1) b.2.2.2.1.2.2.1 == gvI b.2.2.1))))))))))))
structure Yu (b : Jd) : Prop where
 d : b.2.1.2.2.2.2.2.1.length ≤ Ea
 c : Bj b.2.2.1
 x : Ha Hc b.2.2.2.1 ≤ Ea
theorem NU (b : Jd) (h : Yu b) : PD b = some (Tm b, ()) := by
 have h20 : Ea = 1048576 := rfl
 have hq := h.x
 rw [MQ, GF, Ul, Gl] at hq
 have hn1 := h.c.a
 have hl := Jf (step := fun x => Gx x.1.1 x.1.2.1 x.1.2.2.1 x.1.2.2.2.1 x.1.2.2.2.2.1 x.2.1) b.2.2.1.1 (fun _ (x : Wa) => Fd b.1 x.1 && !decide (x.2.1 ≥ b.2.2.2.1.1.1.1)) (fun i => (((), b.2.2.2.1.1.1.1, b.2.2.1.1, ((ja b.2.2.1.1 : Nat) : Int), i, ()), (b, ())))
  (.inl (((), ()), (b, ()))) (.inr ((false, ()), ())) (by
   intro k hk
   simp only [Gx]
   rw [Ba (show (k : Int) < ((ja b.2.2.1.1 : Nat) : Int) by omega), Jb hk]
   simp only [cond_true, jb, Kv]
   cases Fd b.1 b.2.2.1.1[k].1 <;> cases decide (b.2.2.1.1[k].2.1 ≥ b.2.2.2.1.1.1.1) <;> rfl) (by
   simp only [Gx]
   rw [Aa (by omega)]; rfl) (by omega)
 unfold PD OA Tm
 rw [LK, WN _ h.d, PQ _ h.c, RR _ h.x, Xo, Kv]
 simp only [jb, Uq, bne]
 cases Gg b.1 with
 | false => rfl
 | true =>
  cases Zg b.2.1 with
  | false => rfl
  | true =>
   cases hc : Zd b.2.2.1 with
   | false => rfl
   | true =>
    cases hd : Nf b.2.2.2.1 with
    | false => rfl
    | true =>
     cases b.2.1.2.2.1 == Vc b.1 with
     | false => rfl
     | true =>
      cases decide (b.2.2.2.1.1.1.1 < Vc b.1) with
      | true => rfl
      | false =>
       cases Fd b.1 b.2.2.2.2.1 with
       | false => rfl
       | true =>
        simp only [cond_true, cond_false, jk, qa]
        erw [hl]
        unfold S6
        cases Le (fun _ (x : Wa) => Fd b.1 x.1 && !decide (x.2.1 ≥ b.2.2.2.1.1.1.1)) 0 b.2.2.1.1 with
        | false => rfl
        | true =>
         have ha := ZI hc
         have hdn := EZ h.c hc
         have hc2 := hc
         simp only [Zd, jd] at hc2
         have hf := A3 hdn hc2.2.2.2.2.2.1
         have hd2 := hd
         simp only [Nf, jd] at hd2
         have hh := Ho (CA hd2.1)
         obtain ⟨m, hm, hm2⟩ := A7 b.2.2.2.1.1.2.2.2.1 0 0 (by decide) hh
         rw [Nw] at hm2
         have hm' : Ju b.2.2.2.1.1.2.2.2.1 = (m : Int) := hm
         have hf2 := A3 (by rw [hm']; omega) hd2.2.2.2.2.1
         simp only [cond_true, jb, ql, Zw]
         rw [Px _ h.c.e, hc2.2.2.2.2.1.2.2]
         simp only [cond_true, jb]
         rw [Gae _ _ h.c.e ha]
         simp only [jb, ql]
         rw [UR _ _ h.c.q (fun x hx => (hf.1 x hx).1), hf.2]
         simp only [jb]
         rw [MK _ (by omega) hh]
         simp only [jb]
         rw [UR _ _ (by omega) (fun x hx => (hf2.1 x hx).1), hf2.2]
         simp only [jb, jk]
         cases decide (0 ≤ b.2.2.2.2.2.1 ∧ b.2.2.2.2.2.1 ≤ 1000000) <;> cases decide (b.2.2.1.2.2.2.1 > b.2.2.2.2.2.1) <;> cases decide (b.2.2.2.1.2.2.2.1 > b.2.2.2.2.2.1) <;> cases (tgI (Cm b.2.2.1) b.2.2.1.2.2.1 == b.2.1.2.2.2.1) <;> rfl
theorem EV (b : Jd) (h : Yu b) : RE b = some (Tm b, ()) := by
 have h20 : Ea = 1048576 := rfl
 have hq := h.x
 rw [MQ, GF, Ul, Gl] at hq
 have hn1 := h.c.a
 have hl := Jf (step := fun x => Hy x.1.1 x.1.2.1 x.1.2.2.1 x.2.1) b.2.2.1.1 (fun _ (x : Wa) => Fd b.1 x.1 && !decide (x.2.1 ≥ b.2.2.2.1.1.1.1)) (fun i => (((), b.2.2.2.1.1.1.1, i, ()), (b, ())))
  (.inl (((), ()), (b, ()))) (.inr ((false, ()), ())) (by
   intro k hk
   simp only [Hy]
   rw [Ba (show (k : Int) < ((ja b.2.2.1.1 : Nat) : Int) by omega), Jb hk]
   simp only [cond_true, jb, Bw]
   cases Fd b.1 b.2.2.1.1[k].1 <;> cases decide (b.2.2.1.1[k].2.1 ≥ b.2.2.2.1.1.1.1) <;> rfl) (by
   simp only [Hy]
   rw [Aa (by omega)]; rfl) (by omega)
 unfold RE VA Tm
 rw [DO _ h.d, ZQ _ h.c, VR _ h.x, Ij, Bw]
 simp only [jb, Uq, bne]
 cases hmat : Gg b.1 with
 | false =>
  have : Vc b.1 = 0 := by unfold Vc; rw [hmat]; rfl
  rw [this]; rfl
 | true =>
  have hk := L9 hmat
  have : (Vc b.1 == 0) = false := by rw [beq_eq_false_iff_ne]; omega
  rw [this]
  cases Zg b.2.1 with
  | false => rfl
  | true =>
   cases b.2.1.2.2.1 == Vc b.1 with
   | false => cases Zd b.2.2.1 <;> cases Nf b.2.2.2.1 <;> rfl
   | true =>
    cases Fd b.1 b.2.2.2.2.1 with
    | false => cases Zd b.2.2.1 <;> cases Nf b.2.2.2.1 <;> cases decide (b.2.2.2.1.1.1.1 < Vc b.1) <;> rfl
    | true =>
     cases hc : Zd b.2.2.1 with
     | false => rfl
     | true =>
      cases hd : Nf b.2.2.2.1 with
      | false => rfl
      | true =>
       cases decide (b.2.2.2.1.1.1.1 < Vc b.1) with
       | true => rfl
       | false =>
        simp only [cond_true, cond_false, jk, qa]
        erw [hl]
        unfold S6
        cases Le (fun _ (x : Wa) => Fd b.1 x.1 && !decide (x.2.1 ≥ b.2.2.2.1.1.1.1)) 0 b.2.2.1.1 with
        | false => rfl
        | true =>
         have ha := ZI hc
         have hdn := EZ h.c hc
         have hc2 := hc
         simp only [Zd, jd] at hc2
         have hf := A3 hdn hc2.2.2.2.2.2.1
         have hd2 := hd
         simp only [Nf, jd] at hd2
         have hh := Ho (CA hd2.1)
         obtain ⟨m, hm, hm2⟩ := A7 b.2.2.2.1.1.2.2.2.1 0 0 (by decide) hh
         rw [Nw] at hm2
         have hm' : Ju b.2.2.2.1.1.2.2.2.1 = (m : Int) := hm
         have hf2 := A3 (by rw [hm']; omega) hd2.2.2.2.2.1
         simp only [cond_true, jb, ql, Mc, Uq]
         rw [SN _ h.c.e]
         simp only [cond_true, jb]
         rw [AR _ _ h.c.q hf.1]
         simp only [jb]
         rw [RN _ (by omega) hh]
         simp only [jb]
         rw [AR _ _ (by omega) hf2.1, Jac _ h.c.e ha]
         simp only [jb, jk]
         cases decide (0 ≤ b.2.2.2.2.2.1 ∧ b.2.2.2.2.2.1 ≤ 1000000) <;> cases decide (b.2.2.1.2.2.2.1 > b.2.2.2.2.2.1) <;> cases decide (b.2.2.2.1.2.2.2.1 > b.2.2.2.2.2.1) <;> cases (tgI (Cm b.2.2.1) b.2.2.1.2.2.1 == b.2.1.2.2.2.1) <;> rfl
theorem Kaz (d : Qb) : Ha Nb d = d.2.2.2.2.2.1.length := by
 have := YaB d.2.2.2.2.2.1
 simp only [Ha, Nat.add_zero, js] at this ⊢
 exact this
theorem Zal (c : Pa) : Ha Pb c = c.1.length + (c.2.2.1.length + c.2.2.2.2.2.2.1.length) := by
 have h1 := Hl (e := Zb) rfl c.1
 have h2 := Hl (e := Bb) rfl c.2.2.1
 have h3 := Hl (e := Bb) rfl c.2.2.2.2.2.2.1
 simp only [Ha, Nat.add_zero, js] at h1 h2 h3 ⊢
 rw [h1, h2, h3]
theorem KaL (c : Pa) (hr : Jj Pb c) (hz : Ha Pb c ≤ Ea) : Bj c := by
 rw [Zal] at hz
 refine ⟨by omega, by omega, by omega, fun x hx => ?_⟩
 obtain ⟨i, hi, rfl⟩ := qu hx
 have h1 := hr.2.2.2.2.2.2.1.2 i hi
 exact h1.2.1.2
theorem Dah (b : Jd) : Ha Ed b = Ha Nb b.2.1 + (Ha Pb b.2.2.1 + Ha Hc b.2.2.2.1) := by
 simp only [Ha, Nat.add_zero, js]
theorem MaD (b : Jd) (hr : Jj Ed b) (hz : Ha Ed b ≤ Ea) : Yu b := by
 rw [Dah, Kaz] at hz
 exact ⟨by omega, KaL _ hr.2.2.1 (by omega), by omega⟩
theorem Lai {m : Xb} (hz : Ha Bc m ≤ Ea) : ja m.2.1 ≤ Ea ∧ ∀ k (hk : k < m.2.1.length), m.2.1[k].length ≤ Ea := by
 have h0 : Ha Bc m = 0 + (Ha (.sl (.sl Wb)) m.2.1 + 0) := rfl
 have h1 : Ha (.sl (.sl Wb)) m.2.1 = ja m.2.1 + (List.map (Ha (.sl Wb)) m.2.1).sum := rfl
 refine ⟨by omega, fun k hk => ?_⟩
 have h2 := Yy (f := Ha (.sl Wb)) hk
 rw [Oaa] at h2
 omega
theorem V0 (m : Xb) (hz : Ha Bc m ≤ Ea) : OB m = some (m, ()) := by
 have h20 : Ea = 1048576 := rfl
 obtain ⟨h1, h2⟩ := Lai hz
 have hl := YU (step := fun x : (Unit × Unit × List (List Cb) × Int × Int × Unit) × Xb × Xb × Unit => Mp x.1.1 x.1.2.1 x.1.2.2.1 x.1.2.2.2.1 x.1.2.2.2.2.1 x.2.1 x.2.2.1) m.2.1 (fun x => x)
  (fun o k => (((), (), m.2.1, (m.2.1.length : Int), k, ()), ((0, [], ()), (m.1, o, ()), ()))) (fun o => .inl (((), (), ()), ((0, [], ()), (m.1, o, ()), ()))) (by omega) (fun k hk o ho => by
   have := h2 k hk
   simp only [Mp]
   rw [Ba (by omega), Jb hk]
   simp only [cond_true, jb]
   rw [Dk (by simp; omega), Dk (by simp only [jw, j8]; omega)]
   rfl) (fun o => by
   simp only [Mp]
   rw [Aa (by omega)]
   rfl)
 unfold OB Xs
 erw [hl]
 rw [List.map_id']
 rfl
theorem Kac (m : Xb) (hz : Ha Bc m ≤ Ea) : HQ m = some (m, ()) := by
 have h20 : Ea = 1048576 := rfl
 obtain ⟨h1, h2⟩ := Lai hz
 have hl := YU (step := fun x : (Unit × Unit × Unit × Int × Unit) × Xb × Xb × Xb × Unit => ZC x.1.1 x.1.2.1 x.1.2.2.1 x.1.2.2.2.1 x.2.1 x.2.2.1 x.2.2.2.1) m.2.1 (fun x => x)
  (fun o k => (((), (), (), k, ()), (m, (0, [], ()), (m.1, o, ()), ()))) (fun o => .inl (((), (), ()), ((0, [], ()), (m.1, o, ()), ()))) (by omega) (fun k hk o ho => by
   have := h2 k hk
   simp only [ZC]
   rw [Ba (by omega), Jb hk]
   simp only [cond_true, jb]
   rw [Dk (by simp; omega), Dk (by simp only [jw, j8]; omega)]
   rfl) (fun o => by
   simp only [ZC]
   rw [Aa (by omega)]
   rfl)
 unfold HQ CF
 erw [hl]
 rw [List.map_id']
 rfl
def Oh (r : Rb) : Bool := decide (r.1.length < 6) && (decide (-1 ≤ r.2.1 ∧ r.2.1 ≤ 255) && (decide (0 ≤ r.2.2.1 ∧ r.2.2.1 ≤ 16777215) && decide (0 ≤ r.2.2.2.1 ∧ r.2.2.2.1 ≤ 20)))
theorem Br (r : Rb) : Bk r = some (Oh r, ()) := by
 unfold Bk Oh
 simp only [Gh, Hh]
 apply Yc
 simp only [Od, decide_eq_true_eq, jq, and_false, or_false, jd]
 omega
theorem Ds (r : Rb) : Ek r = some (Oh r, ()) := by
 unfold Ek Oh
 simp only [Mc, jb, Gh, Hh]
 apply Yc
 simp only [Od, decide_eq_true_eq, jq, and_false, or_false, jd]
 omega
def Dj (m : Be) : Int := cond (Int.tmod m.1 2 != 0) 0 (Int.tdiv (Vc m) 2)
theorem Kai (m : Be) : 0 ≤ Vc m ∧ Vc m ≤ 24 := by
 cases h : Gg m with
 | true => have := L9 h; omega
 | false => unfold Vc; rw [h]; exact ⟨Int.le_refl _, by show (0 : Int) ≤ 24; decide⟩
theorem D3 (m : Be) : 0 ≤ Dj m ∧ Dj m ≤ 12 := by
 have h := Kai m
 unfold Dj
 cases Int.tmod m.1 2 != 0 with
 | true => exact ⟨Int.le_refl _, by show (0 : Int) ≤ 12; decide⟩
 | false =>
  simp only [cond_false]
  rw [Int.tdiv_eq_ediv_of_nonneg h.1]
  omega
theorem VT (h : Gd) : Sz h = some (Dj h.1.1, ()) := by
 have hb := Kai h.1.1
 unfold Sz Dj
 rw [Ij]
 have e : j5 .i64 (Int.tdiv (Vc h.1.1) 2) = Int.tdiv (Vc h.1.1) 2 := by
  rw [Int.tdiv_eq_ediv_of_nonneg hb.1, Ie (by omega) (by omega)]
 simp only [jb, e]
 cases Int.tmod h.1.1.1 2 != 0 <;> rfl
theorem CT (h : Gd) : Ez h = some (Dj h.1.1, ()) := by
 have hb := Kai h.1.1
 unfold Ez Dj
 rw [Xo]
 have e : j5 .i64 (Int.tdiv (Vc h.1.1) 2) = Int.tdiv (Vc h.1.1) 2 := by
  rw [Int.tdiv_eq_ediv_of_nonneg hb.1, Ie (by omega) (by omega)]
 simp only [jb, e]
 cases Int.tmod h.1.1.1 2 != 0 <;> rfl
noncomputable def Ir (h : Gd) : Bool := Tm h.1 && (decide (Dj h.1.1 > 0) && (Oh h.2.1 && decide (0 ≤ h.2.2.1 ∧ h.2.2.1 ≤ 255)))
theorem N6 (h : Gd) (hb : Yu h.1) : DJ h = some (Ir h, ()) := by
 have hh := D3 h.1.1
 unfold DJ Ir
 rw [NU _ hb, Br, CT]
 simp only [jb, Gh, Hh]
 apply Yc
 simp only [Od, decide_eq_true_eq, jq, and_false, or_false, jd, TS]
 constructor
 ·rintro ⟨h1, h2, h3, h4, h5⟩; exact ⟨h1, by omega, h2, by omega, by omega⟩
 ·rintro ⟨h1, h2, h3, h4, h5⟩; exact ⟨h1, h3, by omega, by omega, by omega⟩
theorem O7 (h : Gd) (hb : Yu h.1) : DK h = some (Ir h, ()) := by
 unfold DK Ir
 rw [EV _ hb, Ds, VT]
 simp only [jb, Mc]
 cases Tm h.1 <;> cases decide (Dj h.1.1 > 0) <;> cases Oh h.2.1 <;> rfl
theorem Fad (h : Gd) : Ha Fe h = Ha Ed h.1 + Ha Tc h.2.1 := by
 simp only [Ha, Nat.add_zero, js]
theorem Nad {L : List (List Zc)} (hz : Ha (.sl (.sl Kc)) L ≤ Ea) : ja L ≤ Ea ∧ ∀ k (hk : k < L.length), L[k].length ≤ Ea := by
 have h1 : Ha (.sl (.sl Kc)) L = ja L + (List.map (Ha (.sl Kc)) L).sum := rfl
 refine ⟨by omega, fun k hk => ?_⟩
 have h2 := Yy (f := Ha (.sl Kc)) hk
 rw [Qac] at h2
 omega
theorem W0 (L : List (List Zc)) (hz : Ha (.sl (.sl Kc)) L ≤ Ea) : PB L = some (L, ()) := by
 have h20 : Ea = 1048576 := rfl
 obtain ⟨h1, h2⟩ := Nad hz
 have hl := YU (step := fun x => Np x.1.1 x.1.2.1 x.1.2.2.1 x.1.2.2.2.1) L (fun x => x)
  (fun o k => ((o, L, ((ja L : Nat) : Int), k, ()), ())) (fun o => .inl ((o, ()), ())) (by omega) (fun k hk o ho => by
   have := h2 k hk
   simp only [Np]
   rw [Ba (by omega), Jb hk]
   simp only [cond_true, jb]
   rw [Dk (by simp; omega), Dk (by simp only [jw, j8]; omega)]
   rfl) (fun o => by
   simp only [Np]
   rw [Aa (by omega)]
   rfl)
 unfold PB Ys
 erw [hl]
 rw [List.map_id']
 rfl
theorem UD (e : Hb) (hz : Ha Dc e ≤ Ea) : Gm e = some (e, ()) := by
 have h20 : Ea = 1048576 := rfl
 rw [Ul, Gl] at hz
 unfold Gm
 rw [V0 _ (by omega), W0 _ (by omega), Dk (by simp; omega)]
 rfl
theorem OZ (d : Gb) (hz : Ha Hc d ≤ Ea) : Zo d = some (d, ()) := by
 have h20 : Ea = 1048576 := rfl
 rw [MQ, GF] at hz
 unfold Zo
 rw [UD _ (by omega), Dk (by simp; omega)]
 rfl
theorem HY (c : Pa) (h : Bj c) : Bn c = some (c, ()) := by
 have h20 : Ea = 1048576 := rfl
 have h1 := h.a
 have h2 := h.q
 have h3 := h.e
 unfold Bn
 rw [Dk (by simp; omega), Dk (by simp; omega), Dk (by simp; omega)]
 rfl
theorem Gaa (c : Pa) (h : Bj c) : VE c = some (c, ()) := by
 have h20 : Ea = 1048576 := rfl
 have h1 := h.a
 have h2 := h.q
 have h3 := h.e
 unfold VE
 rw [Dk (by simp; omega), Dk (by simp; omega), Dk (by simp; omega)]
 rfl
theorem KP (e : Hb) (hz : Ha Dc e ≤ Ea) : Kt e = some (e, ()) := by
 have h20 : Ea = 1048576 := rfl
 rw [Ul, Gl] at hz
 obtain ⟨h1, h2⟩ := Nad (L := e.2.1) (by omega)
 have hl := YU (step := fun x => BD x.1.1 x.1.2.1 x.1.2.2.1 x.1.2.2.2.1 x.2.1 x.2.2.1 x.2.2.2.1) e.2.1 (fun x => x)
  (fun o k => (((), (), (), k, ()), (e, (((0 : Int), ([] : List (List Cb)), ()), ([] : List (List Zc)), (0 : Int), ([] : List Ra), (0 : Int), false, ()), (e.1, o, e.2.2), ())))
  (fun o => .inl (((), (), (), ()), (e, (((0 : Int), ([] : List (List Cb)), ()), ([] : List (List Zc)), (0 : Int), ([] : List Ra), (0 : Int), false, ()), (e.1, o, e.2.2), ()))) (by omega) (fun k hk o ho => by
   have := h2 k hk
   simp only [BD]
   rw [Ba (by omega), Jb hk]
   simp only [cond_true, jb]
   rw [Dk (by simp; omega), Dk (by simp only [jw, j8]; omega)]
   rfl) (fun o => by
   simp only [BD]
   rw [Aa (by omega)]
   rfl)
 unfold Kt EF
 rw [Kac _ (by omega)]
 simp only [jb]
 erw [hl]
 rw [List.map_id']
 simp only [jb, ql]
 rw [Dk (by simp; omega)]
 rfl
def AX : Jd := (((0 : Int), (0 : Int), false, ()), ((0 : Int), (0 : Int), (0 : Int), (0 : Int), (0 : Int), ([] : List Int), ()), (([] : List Wa), (0 : Int), ([] : List Ca), (0 : Int), (0 : Int), (0 : Int), ([] : List Ca), ()), ((((0 : Int), ([] : List (List Cb)), ()), ([] : List (List Zc)), (0 : Int), ([] : List Ra), (0 : Int), false, ()), ((0 : Int), (0 : Int), (0 : Int), ()), ([] : List Ca), (0 : Int), (0 : Int), (0 : Int), (0 : Int), ()), (0 : Int), (0 : Int), ())
theorem Gai : ∀ (a b : List Int), a.length = b.length → Le (fun k x => b.getD k 0 == x) 0 a = (b == a)
 | a, b, h => by
  rw [qy, ID, beq_iff_eq]
  constructor
  ·intro hj
   apply List.ext_getElem h.symm
   intro i h1 h2
   have := hj i h2
   rw [js, beq_iff_eq, qj, je h1] at this
   exact this
  ·rintro rfl i hi
   rw [js, beq_iff_eq, qj, je hi]; rfl
theorem R6 (a b : List Int) (hn : a.length ≤ Sa) : FJ a b = some (a == b, ()) := by
 have hlim := Ud
 unfold FJ
 by_cases h : a.length = b.length
 ·have hl := Jf (step := fun x => Bu x.1.1 x.1.2.1 x.1.2.2.1 x.1.2.2.2.1) a (fun k x => b.getD k 0 == x) (fun i => ((a, b, ((ja a : Nat) : Int), i, ()), ()))
   (.inl ((), ())) (.inr ((false, ()), ())) (by
    intro k hk
    simp only [Bu]
    rw [Ba (show (k : Int) < ((ja a : Nat) : Int) by omega), Jb hk, Jb (show k < b.length by omega), qj, je (show k < b.length by omega)]
    simp only [cond_true, jb, Option.getD_some, bne]
    rw [show (a[k] == b[k]) = (b[k] == a[k]) by rw [qy, beq_iff_eq, beq_iff_eq]; exact eq_comm]
    cases b[k] == a[k] <;> rfl) (by
    simp only [Bu]
    rw [Aa (by omega)]; rfl) (by omega)
  have e : (((ja a : Nat) : Int) != ((ja b : Nat) : Int)) = false := by simp [h]
  rw [e]
  simp only [cond_false]
  unfold Ox
  erw [hl]
  rw [Gai a b h, show (b == a) = (a == b) by rw [qy, beq_iff_eq, beq_iff_eq]; exact eq_comm]
  cases a == b <;> rfl
 ·have e : (((ja a : Nat) : Int) != ((ja b : Nat) : Int)) = true := by simp; omega
  have e2 : (a == b) = false := by rw [beq_eq_false_iff_ne]; intro hh; exact h (by rw [hh])
  rw [e, e2]; rfl
theorem NaF (a b : T Sg) (h1 : ja a.2.1 ≤ Sa) (_ : ja b.2.1 ≤ Sa) : (fun x : T (.p Sg (.p Sg .u)) => Cr x.1 x.2.1) (a, b, ()) = some (Uk a b, ()) := by
 show Cr a b = _
 unfold Cr
 rw [R6 _ _ h1]
 simp only [jb, Uk]
 cases (show Int from a.1) == (show Int from b.1) <;> rfl
theorem Eaz (c : T Bf → T Bf → Option Bool) (l : List (T Bf)) (hl : ja l ≤ Sa) : ∀ (ys : List (T Bf)) (k : Nat) (out q : List (T Bf)) (a : T Bf), l.drop k = ys → k ≤ ja l → ja out + ja ys ≤ Sa →
 TX c a ys = some q → AA c (((), out, l, ((ja l : Nat) : Int), (k : Int), ()), (a, ())) = some (.inl ((jf out q, ()), ())) := by
 have hlim := Ud
 intro ys
 induction ys with
 | nil =>
  intro k out q a hd hk _ hq
  have := ZX hd hk
  subst this
  simp only [TX, jc] at hq
  subst hq
  have hs : PO c () out l ((ja l : Nat) : Int) ((ja l : Nat) : Int) a = some (.inr (.inl ((out, ()), ()))) := by
   unfold PO
   rw [Aa (by omega)]; rfl
  unfold AA
  rw [Bd hs]
  simp
 | cons y ys ih =>
  intro k out q a hd hk hlen hq
  obtain ⟨hk', hy, hd'⟩ := NQ hd
  simp only [TX] at hq
  cases hc : c a y with
  | none => rw [hc] at hq; simp at hq
  | some b =>
   rw [hc] at hq
   simp only [jb] at hq
   cases hq2 : TX c y ys with
   | none => rw [hq2] at hq; simp at hq
   | some q2 =>
    rw [hq2] at hq
    simp only [jb, jc] at hq
    have hlc : ja (y :: ys) = ja ys + 1 := rfl
    have hs : PO c () out l ((ja l : Nat) : Int) (k : Int) a = some (.inl (((), cond b out (jf out [y]), l, ((ja l : Nat) : Int), ((k + 1 : Nat) : Int), ()), (y, ()))) := by
     unfold PO LaK
     rw [Ba (show (k : Int) < ((ja l : Nat) : Int) by omega), Jb hk', hy]
     simp only [cond_true, jb, hc]
     rw [Jc (by omega)]
     cases b with
     | true => rfl
     | false =>
      rw [show jx (ja out + ja ([y] : List (Int × ((T .o) × Unit)))) Sa = true from ji (by simp only [jw, j8]; omega)]
      rfl
    unfold AA
    rw [Bd hs]
    simp only [jb, ql]
    have := ih (k + 1) (cond b out (jf out [y])) q2 y hd' hk' (by cases b with
     | true => simp only [cond_true]; omega
     | false => simp only [cond_false, List.append_eq, qf, jw, j8]; omega) hq2
    unfold AA at this
    rw [this, ← hq]
    cases b with
    | true => rfl
    | false => simp
theorem FaL (c : T Bf → T Bf → Option Bool) : ∀ (a : T Bf) (l r : List (T Bf)), ja l ≤ Sa → TX c a l = some r → (fun x : T (.p Bf (.p (.sl Bf) .u)) => Yav c x.1 x.2.1) (a, l, ()) = some (r, ()) := by
 intro a l r hl hq
 show Yav c a l = _
 unfold Yav
 have := Eaz c l hl l 0 [] r a rfl (Nat.zero_le _) (by simpa using hl) hq
 erw [this]
 rfl
theorem Pad : ∀ {a b : List Int}, a.Pairwise (· < ·) → b.Pairwise (· < ·) → (∀ x, x ∈ a ↔ x ∈ b) → a = b
 | [], [], _, _, _ => rfl
 | [], y :: b, _, _, h => by have := (h y).2 (by simp); simp at this
 | x :: a, [], _, _, h => by have := (h x).1 (by simp); simp at this
 | x :: a, y :: b, ha, hb, h => by
  rw [List.pairwise_cons] at ha hb
  have hxy : x = y := by
   rcases jp.1 ((h x).1 (by simp)) with h1 | h1
   ·exact h1
   ·rcases jp.1 ((h y).2 (by simp)) with h2 | h2
    ·exact h2.symm
    ·have := hb.1 x h1; have := ha.1 y h2; omega
  subst hxy
  congr 1
  refine Pad ha.2 hb.2 fun z => ⟨fun hz => ?_, fun hz => ?_⟩
  ·rcases jp.1 ((h z).1 (by simp [hz])) with h1 | h1
   ·have := ha.1 z hz; omega
   ·exact h1
  ·rcases jp.1 ((h z).2 (by simp [hz])) with h1 | h1
   ·have := hb.1 z hz; omega
   ·exact h1
def FZ (o : List Int) (x : Int) : List Int := cond ((x != 0) && !o.any (fun y => y == x)) (jf o [x]) o
def ddK (k : Nat) (o l : List Int) : List Int := Pd (fun _ o x => FZ o x) k o l
theorem Jaz : ∀ (l : List Int) (k : Nat) (o : List Int) (y : Int), y ∈ ddK k o l ↔ y ∈ o ∨ (y ∈ l ∧ y ≠ 0)
 | [], _, o, y => by simp [ddK, Pd]
 | x :: l, k, o, y => by
  have := Jaz l (k + 1) (FZ o x) y
  simp only [ddK, Pd] at this ⊢
  rw [this]
  unfold FZ
  by_cases h0 : x = 0
  ·subst h0
   simp only [bne_self_eq_false, qq, cond_false, jp]
   constructor
   ·rintro (h | ⟨h1, h2⟩)
    ·exact .inl h
    ·exact .inr ⟨.inr h1, h2⟩
   ·rintro (h | ⟨h1 | h1, h2⟩)
    ·exact .inl h
    ·exact absurd h1 h2
    ·exact .inr ⟨h1, h2⟩
  ·by_cases h1 : o.any (fun y => y == x) = true
   ·rw [h1]
    simp only [jg, Bool.and_false, cond_false, jp]
    have hx : x ∈ o := by
     obtain ⟨z, hz, e⟩ := List.any_eq_true.1 h1
     rw [beq_iff_eq] at e; rw [← e]; exact hz
    constructor
    ·rintro (h | ⟨h1, h2⟩)
     ·exact .inl h
     ·exact .inr ⟨.inr h1, h2⟩
    ·rintro (h | ⟨h1 | h1, h2⟩)
     ·exact .inl h
     ·exact .inl (h1 ▸ hx)
     ·exact .inr ⟨h1, h2⟩
   ·have e : ((x != 0) && !o.any (fun y => y == x)) = true := by
     simp only [qb] at h1
     rw [h1]; simp [h0]
    rw [e]
    simp only [cond_true, List.append_eq, jl, jp, List.not_mem_nil, or_false]
    constructor
    ·rintro ((h | h) | ⟨h1, h2⟩)
     ·exact .inl h
     ·exact .inr ⟨.inl h, by rw [h]; exact h0⟩
     ·exact .inr ⟨.inr h1, h2⟩
    ·rintro (h | ⟨h1 | h1, h2⟩)
     ·exact .inl (.inl h)
     ·exact .inl (.inr h1)
     ·exact .inr ⟨h1, h2⟩
theorem Yac : ∀ (l : List Int) (k : Nat) (o : List Int), o.Pairwise (· < ·) → l.Pairwise (· ≤ ·) → (∀ y ∈ o, ∀ x ∈ l, y ≤ x) → (ddK k o l).Pairwise (· < ·)
 | [], _, o, ho, _, _ => by simpa [ddK, Pd] using ho
 | x :: l, k, o, ho, hl, h => by
  rw [List.pairwise_cons] at hl
  have key : (FZ o x).Pairwise (· < ·) ∧ ∀ y ∈ FZ o x, ∀ z ∈ l, y ≤ z := by
   unfold FZ
   cases hc : (x != 0) && !o.any (fun y => y == x) with
   | false => exact ⟨ho, fun y hy z hz => h y hy z (by simp [hz])⟩
   | true =>
    simp only [jd, Bool.not_eq_true', List.any_eq_false, beq_iff_eq] at hc
    simp only [cond_true, List.append_eq]
    refine ⟨?_, ?_⟩
    ·rw [List.pairwise_append]
     refine ⟨ho, by simp, fun y hy z hz => ?_⟩
     simp only [jp, List.not_mem_nil, or_false] at hz
     subst hz
     have h1 := h y hy z (by simp)
     have h2 := hc.2 y hy
     omega
    ·intro y hy z hz
     rcases jl.1 hy with hy | hy
     ·exact h y hy z (by simp [hz])
     ·simp only [jp, List.not_mem_nil, or_false] at hy
      subst hy
      exact hl.1 z hz
  have := Yac l (k + 1) (FZ o x) key.1 hl.2 key.2
  simpa [ddK, Pd] using this
def Vk (l : List Ra) : Nat → List Int
 | 0 => []
 | n + 1 => cond (l.any fun h => h.2.1.2.1 == ((n + 1 : Nat) : Int)) (Vk l n ++ [((n + 1 : Nat) : Int)]) (Vk l n)
theorem FM (l : List Ra) : ∀ (n : Nat) (x : Int), x ∈ Vk l n ↔ (1 ≤ x ∧ x ≤ (n : Int)) ∧ ∃ h ∈ l, h.2.1.2.1 = x
 | 0, x => by simp [Vk]; intro h1 h2; omega
 | n + 1, x => by
  simp only [Vk]
  cases hc : (l.any fun h => h.2.1.2.1 == ((n + 1 : Nat) : Int)) with
  | true =>
   simp only [cond_true, jl, FM l n x, jp, List.not_mem_nil, or_false]
   obtain ⟨h, hh, e⟩ := List.any_eq_true.1 hc
   rw [beq_iff_eq] at e
   constructor
   ·rintro (⟨h1, h2⟩ | rfl)
    ·exact ⟨by omega, h2⟩
    ·exact ⟨by omega, h, hh, e⟩
   ·rintro ⟨h1, h2⟩
    by_cases hx : x = ((n + 1 : Nat) : Int)
    ·exact .inr hx
    ·exact .inl ⟨by omega, h2⟩
  | false =>
   simp only [cond_false, FM l n x]
   rw [List.any_eq_false] at hc
   constructor
   ·rintro ⟨h1, h2⟩; exact ⟨by omega, h2⟩
   ·rintro ⟨h1, h, hh, e⟩
    refine ⟨?_, h, hh, e⟩
    have := hc h hh
    rw [beq_iff_eq] at this
    omega
theorem HR (l : List Ra) : ∀ n, (Vk l n).Pairwise (· < ·)
 | 0 => by simp [Vk]
 | n + 1 => by
  simp only [Vk]
  cases (l.any fun h => h.2.1.2.1 == ((n + 1 : Nat) : Int)) with
  | true =>
   simp only [cond_true]
   rw [List.pairwise_append]
   refine ⟨HR l n, by simp, fun y hy z hz => ?_⟩
   simp only [jp, List.not_mem_nil, or_false] at hz
   have := (FM l n y).1 hy
   omega
  | false => exact HR l n
theorem UX (l : List Ra) : ∀ n, (Vk l n).length ≤ n
 | 0 => by simp [Vk]
 | n + 1 => by
  have := UX l n
  simp only [Vk]
  cases (l.any fun h => h.2.1.2.1 == ((n + 1 : Nat) : Int)) <;> simp <;> omega
def Hag (l : List Ra) : Int := Pd (fun _ s (h : Ra) => cond (h.2.1.1 == 2 || h.2.1.1 == 8) (Nc .i64 s h.2.1.2.2.1) s) 0 0 l
def Dd (l : List Ra) : Ka := (Hag l, Vk l 56, ())
theorem UP {a : Cb} (h : Td a = true) : 0 ≤ a.2.1 ∧ a.2.1 ≤ 56 := by
 rw [Lc] at h
 unfold De at h
 omega
theorem Nab (l : List Int) (x : Int) (hn : l.length ≤ Sa) : BQ l x = some (l.any (fun y => y == x), ()) := by
 have hlim := Ud
 have hl := Jf (step := fun y => RB y.1.1 y.1.2.1 y.1.2.2.1 y.1.2.2.2.1) l (fun _ y => !(y == x)) (fun i => ((x, l, ((ja l : Nat) : Int), i, ()), ()))
  (.inl ((), ())) (.inr ((true, ()), ())) (by
   intro k hk
   simp only [RB]
   rw [Ba (show (k : Int) < ((ja l : Nat) : Int) by omega), Jb hk]
   simp only [cond_true, jb]
   cases l[k] == x <;> rfl) (by
   simp only [RB]
   rw [Aa (by omega)]; rfl) (by omega)
 unfold BQ WD
 erw [hl]
 have : ∀ (l : List Int) (k : Nat), Le (fun _ y => !(y == x)) k l = !l.any (fun y => y == x) := by
  intro l
  induction l with
  | nil => intro k; rfl
  | cons y l ih => intro k; simp only [Le, List.any_cons, ih, Bool.not_or]
 rw [this]
 cases l.any (fun y => y == x) <;> rfl
theorem PU (l : List Ra) (hn : l.length ≤ Ea) (hx : ∀ h ∈ l, 0 ≤ h.2.1.2.1 ∧ h.2.1.2.1 ≤ 56) : Mv (l.map fun h => h.2.1.2.1) = some (Vk l 56, ()) := by
 have h20 : Ea = 1048576 := rfl
 have hlim := Ud
 generalize hcs : (l.map fun h => h.2.1.2.1) = cs
 have hcl : cs.length = l.length := by rw [← hcs]; simp
 unfold Mv
 rw [HT _ (by omega)]
 simp only [jb, sort_Ints, srt]
 rw [show jx (ja cs) Sa = true from ji (by omega)]
 simp only [cond_true, jb]
 generalize hss : (List.mergeSort cs fun x y => decide (x ≤ y)) = ss
 have hsl : ss.length = cs.length := by rw [← hss]; exact List.length_mergeSort _
 have hsm : ∀ x, x ∈ ss ↔ x ∈ cs := fun x => by rw [← hss]; exact List.mem_mergeSort
 have hsp : ss.Pairwise (· ≤ ·) := by
  rw [← hss]
  have := List.pairwise_mergeSort (le := fun x y : Int => decide (x ≤ y)) (by intro a b c; simp; omega) (by intro a b; simp; omega) cs
  exact this.imp (by intro a b h; simpa using h)
 have hl := (Ce (step := fun x => Lx x.1.1 x.1.2.1 x.1.2.2.1 x.1.2.2.2.1) ss (fun _ o x => FZ o x) (fun o i => ((o, ss, ((ja ss : Nat) : Int), i, ()), ())) (fun o => .inl ((o, ()), ())) (fun k o => o.length ≤ k) (by
  intro k hk o ho
  have hd : (FZ o ss[k]).length ≤ k + 1 := by
   unfold FZ
   cases (ss[k] != 0) && !o.any (fun y => y == ss[k]) <;> simp <;> omega
  refine ⟨?_, hd⟩
  simp only [Lx]
  rw [Ba (show (k : Int) < ((ja ss : Nat) : Int) by omega), show Af (ja ss) (k : Int) = true by rw [Fg]; exact Ba hk, jn, je hk]
  simp only [cond_true, jb]
  rw [Nab _ _ (by omega), show jx (ja o + ja ([ss[k]] : List Int)) Sa = true from ji (by simp only [jw, j8]; omega)]
  simp only [jb, FZ]
  cases ss[k] != 0 <;> cases o.any (fun y => y == ss[k]) <;> rfl)
  (by
   intro o _
   simp only [Lx]
   rw [Aa (by omega)]; rfl) (by omega) [] (jo _)).1
 unfold RA
 erw [hl]
 simp only [jb, ql]
 congr 2
 refine Pad (Yac ss 0 [] (by simp) hsp (by simp)) (HR l 56) fun x => ?_
 rw [show Pd (fun _ o x => FZ o x) 0 [] ss = ddK 0 [] ss from rfl, Jaz, FM, hsm, ← hcs]
 simp only [List.not_mem_nil, false_or, qv]
 constructor
 ·rintro ⟨⟨h, hh, rfl⟩, h0⟩
  have := hx h hh
  exact ⟨by omega, h, hh, rfl⟩
 ·rintro ⟨h1, h, hh, rfl⟩
  exact ⟨⟨h, hh, rfl⟩, by omega⟩
theorem Kx (l : List Ra) (hn : l.length ≤ Ea) (hv : Qf l = true) : Me l = some (Dd l, ()) := by
 have h20 : Ea = 1048576 := rfl
 have hlim := Ud
 have hh := Ho hv
 have hl := (Ce (step := fun x => Xt x.1.1 x.1.2.1 x.1.2.2.1 x.1.2.2.2.1 x.1.2.2.2.2.1 x.1.2.2.2.2.2.1 x.2.1 x.2.2.1) l
  (fun _ (s : Int × List Int) (h : Ra) => (cond (h.2.1.1 == 2 || h.2.1.1 == 8) (Nc .i64 s.1 h.2.1.2.2.1) s.1, jf s.2 [h.2.1.2.1])) (fun s i => (((), (), s.2, l, ((ja l : Nat) : Int), i, ()), (((0 : Int), ([] : List Int), ()), (s.1, ([] : List Int), ()), ())))
  (fun s => .inl (((), (), s.2, ()), (((0 : Int), ([] : List Int), ()), (s.1, ([] : List Int), ()), ()))) (fun k s => s.2.length = k) (by
   intro k hk s hs
   refine ⟨?_, by simp [hs]⟩
   simp only [Xt]
   rw [Ba (show (k : Int) < ((ja l : Nat) : Int) by omega), Jb hk]
   simp only [cond_true, jb]
   rw [show jx (ja s.2 + ja ([l[k].2.1.2.1] : List Int)) Sa = true from ji (by simp only [jw, j8]; omega)]
   cases l[k].2.1.1 == 2 <;> cases l[k].2.1.1 == 8 <;> rfl)
  (by
   intro s _
   simp only [Xt]
   rw [Aa (by omega)]; rfl) (by omega) (0, []) rfl).1
 have key : ∀ (l : List Ra) (k : Nat) (s : Int × List Int), Pd (fun _ (s : Int × List Int) (h : Ra) => (cond (h.2.1.1 == 2 || h.2.1.1 == 8) (Nc .i64 s.1 h.2.1.2.2.1) s.1, jf s.2 [h.2.1.2.1])) k s l =
  (Pd (fun _ s (h : Ra) => cond (h.2.1.1 == 2 || h.2.1.1 == 8) (Nc .i64 s h.2.1.2.2.1) s) k s.1 l, s.2 ++ l.map fun h => h.2.1.2.1) := by
  intro l
  induction l with
  | nil => intro k s; simp [Pd]
  | cons x l ih => intro k s; simp only [Pd]; rw [ih]; simp
 unfold Me Jx
 rw [RF _ hn, hv]
 simp only [jb, jg, cond_false]
 erw [hl]
 rw [key]
 simp only [jb, ql, List.nil_append]
 rw [PU l hn (fun h hm => UP (hh h hm).act)]
 rfl
theorem Q7 (l : List Ra) (hn : l.length ≤ Ea) (c : Nat) (hc : c ≤ 56) (m : Int) (o : List Int) (ho : o.length ≤ 56) :
 Nm ((l, (), (), (c : Int), (0 : Int), ()), (((0 : Int), ([] : List Int), ()), (m, o, ()), ())) =
  some (.inl ((l, (), (), (c : Int), ()), (((0 : Int), ([] : List Int), ()), (m, cond (l.any fun h => h.2.1.2.1 == (c : Int)) (jf o [(c : Int)]) o, ()), ()))) := by
 have h20 : Ea = 1048576 := rfl
 have hl := Jf (step := fun x => Hs x.1.1 x.1.2.1 x.1.2.2.1 x.1.2.2.2.1 x.1.2.2.2.2.1 x.2.1 x.2.2.1) l (fun _ (h : Ra) => !(h.2.1.2.1 == (c : Int))) (fun i => ((l, (), (), (c : Int), i, ()), (((0 : Int), ([] : List Int), ()), (m, o, ()), ())))
  (.inl ((l, (), (), (c : Int), ()), (((0 : Int), ([] : List Int), ()), (m, o, ()), ()))) (.inl ((l, (), (), (c : Int), ()), (((0 : Int), ([] : List Int), ()), (m, jf o [(c : Int)], ()), ()))) (by
   intro k hk
   simp only [Hs]
   rw [Ba (show (k : Int) < ((ja l : Nat) : Int) by omega), Jb hk]
   simp only [cond_true, jb]
   rw [show jx (ja o + ja ([(c : Int)] : List Int)) Sa = true from ji (by simp only [jw, j8, Ud]; omega)]
   cases l[k].2.1.2.1 == (c : Int) <;> rfl) (by
   simp only [Hs]
   rw [Aa (by omega)]; rfl) (by omega)
 have e : ∀ (l : List Ra) (k : Nat), Le (fun _ (h : Ra) => !(h.2.1.2.1 == (c : Int))) k l = !l.any fun h => h.2.1.2.1 == (c : Int) := by
  intro l
  induction l with
  | nil => intro k; rfl
  | cons y l ih => intro k; simp only [Le, List.any_cons, ih, Bool.not_or]
 unfold Nm
 erw [hl]
 rw [e]
 cases l.any fun h => h.2.1.2.1 == (c : Int) <;> rfl
theorem My (l : List Ra) (hn : l.length ≤ Ea) (hv : Qf l = true) : We l = some (Dd l, ()) := by
 have h20 : Ea = 1048576 := rfl
 have h1 := (Ce (step := fun x => Uu x.1.1 x.1.2.1 x.1.2.2.1 x.1.2.2.2.1 x.2.1 x.2.2.1) l
  (fun _ s (h : Ra) => cond (h.2.1.1 == 2 || h.2.1.1 == 8) (Nc .i64 s h.2.1.2.2.1) s) (fun s i => ((l, (), (), i, ()), (((0 : Int), ([] : List Int), ()), (s, ([] : List Int), ()), ())))
  (fun s => .inl ((l, (), (), ()), (((0 : Int), ([] : List Int), ()), (s, ([] : List Int), ()), ()))) (fun _ _ => True) (by
   intro k hk s _
   refine ⟨?_, trivial⟩
   simp only [Uu]
   rw [Ba (show (k : Int) < ((ja l : Nat) : Int) by omega), Jb hk]
   simp only [cond_true, jb]
   cases l[k].2.1.1 == 2 <;> cases l[k].2.1.1 == 8 <;> rfl)
  (by
   intro s _
   simp only [Uu]
   rw [Aa (by omega)]; rfl) (by omega) 0 trivial).1
 have h2 := Mw (step := fun x => Es x.1.1 x.1.2.1 x.1.2.2.1 x.1.2.2.2.1 x.2.1 x.2.2.1) (fun k => ((l, (), (), ((k + 1 : Nat) : Int), ()), (((0 : Int), ([] : List Int), ()), (Hag l, Vk l k, ()), ()))) 56
  (.inl (((), (), ()), (((0 : Int), ([] : List Int), ()), (Hag l, Vk l 56, ()), ()))) (by
   intro k hk
   simp only [Es]
   have hlen := UX l k
   rw [Ba (show ((k + 1 : Nat) : Int) ≤ 56 by omega), Q7 l hn (k + 1) (by omega) (Hag l) (Vk l k) (by omega)]
   simp only [cond_true, jb, ql]
   rw [Jc (by omega)]
   rfl) (by
   simp only [Es]
   rw [Aa (by decide)]; rfl)
 unfold We Ly Cw
 rw [OG _ hn, hv]
 simp only [jb, jg, cond_false]
 erw [h1]
 simp only [jb, ql]
 erw [h2]
 rfl
def YF (c : Int) : Bool := decide (1 ≤ c ∧ c ≤ 36) || ((c == 39) || (c == 42))
theorem Q0 (c : Int) : IB c = some (YF c, ()) := by
 unfold IB YF
 by_cases h1 : c ≥ 1
 ·by_cases h2 : c ≤ 36
  ·rw [Ba h1, Ba h2, Ba (show 1 ≤ c ∧ c ≤ 36 by omega)]; rfl
  ·rw [Ba h1, Aa h2, Aa (show ¬ (1 ≤ c ∧ c ≤ 36) by omega)]
   cases c == 39 <;> rfl
 ·rw [Aa h1, Aa (show ¬ (1 ≤ c ∧ c ≤ 36) by omega)]
  cases c == 39 <;> rfl
theorem U1 (c : Int) : OC c = some (YF c, ()) := by
 unfold OC YF
 rw [Mc]
 cases decide (1 ≤ c ∧ c ≤ 36) <;> cases c == 39 <;> rfl
def NH (f o : Int) (c : Bool) (a : Cb) : Int × Int × Bool × Cb :=
 cond (a.1 == 2) (cond (a.2.1 == 0) (f, o, c, a) (f, 0, c && YF a.2.1, a.1, a.2.1, cond ((c && YF a.2.1) && (decide (a.2.1 ≤ 26) && (Mb .i64 (Nc .i64 a.2.2.1 o) 2 == 0))) 2 (Nc .i64 a.2.2.1 o), a.2.2.2))
  (cond (a.1 == 4) (Za .i64 f (Qa .i64 1 a.2.2.2.1), o, c, a) (cond (a.1 == 5) (Mb .i64 (Qa .i64 1 a.2.2.2.1) 1, o, c, a)
   (cond (a.1 == 8) (f, cond (Va .i64 o a.2.2.1 == a.2.2.1) (Mb .i64 o a.2.2.1) (Nc .i64 o a.2.2.1), c, a) (cond (a.1 == 10) (f, o, !c, a) (f, o, c, a)))))
theorem KO {a : Cb} (h : Td a = true) : 0 ≤ a.2.2.2.1 := by
 rw [Lc] at h
 unfold De at h
 omega
theorem IW (m : Xb) (M : List (List Zc)) (f o : Int) (h : List Ra) (c : Bool) (a : Cb) (ha : Td a = true) :
 At (m, M, f, h, o, c, ()) a = some ((m, M, (NH f o c a).1, h, (NH f o c a).2.1, (NH f o c a).2.2.1, ()), (NH f o c a).2.2.2, ()) := by
 have hn := KO ha
 unfold At NH
 rw [Ba hn]
 cases a.1 == 2 with
 | true =>
  cases a.2.1 == 0 with
  | true => rfl
  | false =>
   simp only [cond_true, cond_false, Q0, jb]
   cases c with
   | false => rfl
   | true =>
    cases YF a.2.1 with
    | false => rfl
    | true => cases decide (a.2.1 ≤ 26) <;> cases Mb .i64 (Nc .i64 a.2.2.1 o) 2 == 0 <;> rfl
 | false =>
  cases a.1 == 4 with
  | true => rfl
  | false =>
   cases a.1 == 5 with
   | true => rfl
   | false =>
    cases a.1 == 8 with
    | true => cases Va .i64 o a.2.2.1 == a.2.2.1 <;> rfl
    | false => cases a.1 == 10 <;> rfl
theorem XW (m : Xb) (M : List (List Zc)) (f o : Int) (h : List Ra) (c : Bool) (a : Cb) (ha : Td a = true) :
 Zm (m, M, f, h, o, c, ()) a = some ((m, M, (NH f o c a).1, h, (NH f o c a).2.1, (NH f o c a).2.2.1, ()), (NH f o c a).2.2.2, ()) := by
 have hn := KO ha
 have hcode := UP ha
 unfold Zm NH UY
 rw [Ba hn]
 cases a.1 == 2 with
 | true =>
  by_cases h0 : a.2.1 = 0
  ·rw [Aa (show ¬ a.2.1 > 0 by omega), show (a.2.1 == 0) = true by simp [h0]]; rfl
  ·rw [Ba (show a.2.1 > 0 by omega), show (a.2.1 == 0) = false by simp [h0]]
   simp only [cond_true, cond_false, U1, jb]
   cases YF a.2.1 with
   | false => cases c <;> rfl
   | true =>
    cases c with
    | false => rfl
    | true => cases decide (a.2.1 ≤ 26) <;> cases Mb .i64 (Nc .i64 a.2.2.1 o) 2 == 0 <;> rfl
 | false =>
  cases a.1 == 4 with
  | true => rfl
  | false =>
   cases a.1 == 5 with
   | true => rfl
   | false =>
    cases a.1 == 8 with
    | true => cases Va .i64 o a.2.2.1 == a.2.2.1 <;> rfl
    | false => cases a.1 == 10 <;> rfl
theorem PaL : ∀ f : Fin 16, ∀ n : Fin 4, ∀ l : Fin 5, 1 ≤ n.val → n.val < l.val → f.val < 2 ^ l.val → f.val % 2 = 0 →
 0 ≤ Za .i64 (f.val : Int) (Qa .i64 1 (n.val : Int)) ∧ Za .i64 (f.val : Int) (Qa .i64 1 (n.val : Int)) < ((2 ^ l.val : Nat) : Int) ∧ (Za .i64 (f.val : Int) (Qa .i64 1 (n.val : Int))).tmod 2 = 0 := by decide +kernel
theorem YaQ : ∀ n : Fin 4, ∀ l : Fin 5, n.val < l.val →
 0 ≤ Mb .i64 (Qa .i64 1 (n.val : Int)) 1 ∧ Mb .i64 (Qa .i64 1 (n.val : Int)) 1 < ((2 ^ l.val : Nat) : Int) ∧ (Mb .i64 (Qa .i64 1 (n.val : Int)) 1).tmod 2 = 0 := by decide +kernel
theorem Vaq : ∀ o m : Fin 16, (0 ≤ Mb .i64 (o.val : Int) (m.val : Int) ∧ Mb .i64 (o.val : Int) (m.val : Int) ≤ 15) ∧ (0 ≤ Nc .i64 (o.val : Int) (m.val : Int) ∧ Nc .i64 (o.val : Int) (m.val : Int) ≤ 15) := by decide +kernel
structure Qag (nl : Nat) (f o : Int) : Prop where
 f0 : 0 ≤ f
 f1 : f < ((2 ^ nl : Nat) : Int)
 f2 : f.tmod 2 = 0
 o0 : 0 ≤ o
 o1 : o ≤ 15
structure K5 (nl : Nat) (a : Cb) : Prop where
 act : Td a = true
 n1 : a.1 ≠ 1
 n6 : a.1 ≠ 6
 n7 : a.1 ≠ 7
 n : a.1 ≠ 9 → a.2.2.2.1 < (nl : Int)
theorem RaU {a b : Int} (ha : 0 ≤ a ∧ a ≤ 15) (hb : 0 ≤ b ∧ b ≤ 15) : 0 ≤ Nc .i64 a b ∧ Nc .i64 a b ≤ 15 := by
 obtain ⟨n, rfl⟩ := jv ha.1
 obtain ⟨m, rfl⟩ := jv hb.1
 exact (Vaq ⟨n, by omega⟩ ⟨m, by omega⟩).2
theorem CaT {a b : Int} (ha : 0 ≤ a ∧ a ≤ 15) (hb : 0 ≤ b ∧ b ≤ 15) : 0 ≤ Mb .i64 a b ∧ Mb .i64 a b ≤ 15 := by
 obtain ⟨n, rfl⟩ := jv ha.1
 obtain ⟨m, rfl⟩ := jv hb.1
 exact (Vaq ⟨n, by omega⟩ ⟨m, by omega⟩).1
theorem UaU {nl : Nat} (h : nl ≤ 4) : 2 ^ nl ≤ 16 := qn (n := 2) (by omega) h
theorem XaU {nl : Nat} (hnl : nl ≤ 4) {f o : Int} {c : Bool} {a : Cb} (hs : Qag nl f o) (ha : K5 nl a) :
 Qag nl (NH f o c a).1 (NH f o c a).2.1 ∧ K5 nl (NH f o c a).2.2.2 := by
 have hP := ha.act
 rw [Lc] at hP
 unfold De at hP
 have h16 := UaU hnl
 obtain ⟨k, code, mods, n, u⟩ := a
 have hn1 := ha.n1; have hn6 := ha.n6; have hn7 := ha.n7; have hnn := ha.n
 simp only at hP hn1 hn6 hn7 hnn
 have hf1 := hs.f1
 unfold NH
 simp only
 by_cases h2 : k = 2
 ·subst h2
  by_cases h0 : code = 0
  ·subst h0; exact ⟨hs, ha⟩
  ·rw [show ((2 : Int) == 2) = true from rfl, show (code == 0) = false by simp [h0]]
   simp only [cond_true, cond_false]
   refine ⟨⟨hs.f0, hs.f1, hs.f2, by decide, by decide⟩, ?_⟩
   have hm := RaU (a := mods) (b := o) (by omega) ⟨hs.o0, hs.o1⟩
   refine ⟨?_, hn1, hn6, hn7, hnn⟩
   have hn0 : n = 0 := by omega
   have hcd : 1 ≤ code ∧ code ≤ 56 := by omega
   rw [Lc]
   cases ((c && YF code) && (decide (code ≤ 26) && (Mb .i64 (Nc .i64 mods o) 2 == 0))) with
   | true => exact .inr (.inl ⟨rfl, hn0, .inr hcd, .inr ⟨by show (1 : Int) ≤ 2; decide, by show (2 : Int) ≤ 15; decide⟩, .inl (by show code ≠ 0; omega)⟩)
   | false =>
    refine .inr (.inl ⟨rfl, hn0, .inr hcd, ?_, .inl (by show code ≠ 0; omega)⟩)
    show Nc .i64 mods o = 0 ∨ 1 ≤ Nc .i64 mods o ∧ Nc .i64 mods o ≤ 15
    omega
 ·rw [show (k == 2) = false by simp [h2]]
  simp only [cond_false]
  by_cases h4 : k = 4
  ·subst h4
   have hr : 1 ≤ n ∧ n ≤ 3 := by omega
   have hlt := hnn (by omega)
   obtain ⟨fn, hfn⟩ := jv hs.f0
   obtain ⟨nn, hnn'⟩ := jv (show 0 ≤ n by omega)
   have hf2 := hs.f2
   rw [hfn] at hf1 hf2
   have hfl : fn < 2 ^ nl := Int.ofNat_lt.1 hf1
   have := PaL ⟨fn, by omega⟩ ⟨nn, by omega⟩ ⟨nl, by omega⟩ (by show 1 ≤ nn; omega) (by show nn < nl; omega) hfl (by
    rw [Int.tmod_eq_emod_of_nonneg (by omega)] at hf2; show fn % 2 = 0; omega)
   simp only [show ((4 : Int) == 4) = true from rfl, cond_true]
   rw [hfn, hnn']
   exact ⟨⟨this.1, this.2.1, this.2.2, hs.o0, hs.o1⟩, by rw [← hnn']; exact ha⟩
  ·rw [show (k == 4) = false by simp [h4]]
   simp only [cond_false]
   by_cases h5 : k = 5
   ·subst h5
    have hr : 0 ≤ n ∧ n ≤ 3 := by omega
    have hlt := hnn (by omega)
    obtain ⟨nn, hnn'⟩ := jv (show 0 ≤ n by omega)
    have := YaQ ⟨nn, by omega⟩ ⟨nl, by omega⟩ (by show nn < nl; omega)
    simp only [show ((5 : Int) == 5) = true from rfl, cond_true]
    rw [hnn']
    exact ⟨⟨this.1, this.2.1, this.2.2, hs.o0, hs.o1⟩, by rw [← hnn']; exact ha⟩
   ·rw [show (k == 5) = false by simp [h5]]
    simp only [cond_false]
    by_cases h8 : k = 8
    ·subst h8
     have hm : 0 ≤ mods ∧ mods ≤ 15 := by omega
     simp only [show ((8 : Int) == 8) = true from rfl, cond_true]
     cases Va .i64 o mods == mods with
     | true => have := CaT ⟨hs.o0, hs.o1⟩ hm; exact ⟨⟨hs.f0, hs.f1, hs.f2, this.1, this.2⟩, ha⟩
     | false => have := RaU ⟨hs.o0, hs.o1⟩ hm; exact ⟨⟨hs.f0, hs.f1, hs.f2, this.1, this.2⟩, ha⟩
    ·rw [show (k == 8) = false by simp [h8]]
     simp only [cond_false]
     cases k == 10 <;> exact ⟨hs, ha⟩
theorem AaB {m : Xb} (hm : GO m) (on : Int) {k : Nat} (hk : (k : Int) < m.1) : Wk m.2.1.length (Oj m on k) (Jl m.2.1 (Oj m on k) k) = true ∧ (Jl m.2.1 (Oj m on k) k).1 ≠ 1 := by
 have hl := VU hm on k
 have hrow := hm.row _ hl
 have hk' : k < m.2.1[Oj m on k].length := by omega
 have hact := hm.act _ hl k hk'
 rw [L5 hl hk']
 refine ⟨hact, ?_⟩
 have key : ∀ n, Hg m.2.1 on k n = 0 ∨ (Jl m.2.1 (Hg m.2.1 on k n) k).1 ≠ 1 := by
  intro n
  induction n with
  | zero => exact .inl rfl
  | succ n ih =>
   simp only [Hg]
   cases hc : ((Kd on ((n + 1 : Nat) : Int) == 1) && ((Jl m.2.1 (n + 1) k).1 != 1)) with
   | true =>
    simp only [jd, bne_iff_ne] at hc
    exact .inr hc.2
   | false => exact ih
 rcases key (m.2.1.length - 1) with h0 | h1
 ·have h0' : Oj m on k = 0 := h0
  intro h1
  simp only [Wk, jd, Bool.not_eq_true', Bool.and_eq_false_iff, beq_eq_false_iff_ne] at hact
  rcases hact.1.2 with h2 | h2
  ·exact h2 (by rw [h0']; rfl)
  ·exact h2 h1
 ·have e : Jl m.2.1 (Hg m.2.1 on k (m.2.1.length - 1)) k = m.2.1[Oj m on k][k] := L5 hl hk'
  rw [e] at h1
  exact h1
theorem WaQ {nl i : Nat} {a : Cb} (h : Wk nl i a = true) (h1 : a.1 ≠ 1) : K5 nl (BR a) := by
 have ha := K1 h
 have hP := ha
 rw [Lc] at hP
 unfold De at hP
 unfold BR Dg
 rw [ha]
 by_cases h67 : a.1 = 6 ∨ a.1 = 7
 ·have e : (true && ((a.1 == 6) || (a.1 == 7))) = true := by rcases h67 with h | h <;> rw [h] <;> rfl
  rw [e]
  simp only [cond_true]
  refine ⟨?_, by show (2 : Int) ≠ 1; decide, by show (2 : Int) ≠ 6; decide, by show (2 : Int) ≠ 7; decide, fun _ => ?_⟩
  ·rw [Lc]
   exact .inr (.inl ⟨rfl, rfl, .inr (by show 1 ≤ a.2.1 ∧ a.2.1 ≤ 56; omega), .inl rfl, .inl (by show a.2.1 ≠ 0; omega)⟩)
  ·show (0 : Int) < (nl : Int)
   have := K3 h (by omega)
   omega
 ·have e : (true && ((a.1 == 6) || (a.1 == 7))) = false := by
   rw [jk, Bool.or_eq_false_iff, beq_eq_false_iff_ne, beq_eq_false_iff_ne]; omega
  rw [e]
  exact ⟨ha, h1, fun h => h67 (.inl h), fun h => h67 (.inr h), fun hk => K3 h hk⟩
def VaD (m : Xb) (f o : Int) (c : Bool) (h : List Ra) : Hb := (m, [], f, h, o, c, ())
theorem MaL (m : Xb) (f o : Int) (c : Bool) (h : List Ra) : Ha Dc (VaD m f o c h) = Ha Bc m + h.length := by
 rw [Ul, Gl]
 have : Ha (.sl (.sl Kc)) (VaD m f o c h).2.1 = 0 := rfl
 rw [this, js]; rfl
theorem Kaw {nl : Nat} (h4 : nl ≤ 4) {f o : Int} (hs : Qag nl f o) : 0 ≤ f ∧ f ≤ 15 := by
 have := UaU h4
 have h1 := hs.f1
 have h0 := hs.f0
 omega
theorem Jab (e : Hb) (k : Int) (hn : e.2.2.2.1.length ≤ Ea) : YP e k = some (Qd (fun h => h.1 == k) 0 e.2.2.2.1, ()) := by
 have h20 : Ea = 1048576 := rfl
 have hl := EA (step := fun x => GB x.1.1 x.1.2.1 x.1.2.2.1 x.1.2.2.2.1) e.2.2.2.1 (fun h => h.1 == k) (fun i => ((k, e.2.2.2.1, ((ja e.2.2.2.1 : Nat) : Int), i, ()), ())) (.inl ((), ())) (fun i => .inr ((i, ()), ()))
  (by
   intro j hj
   simp only [GB]
   rw [Ba (show (j : Int) < ((ja e.2.2.2.1 : Nat) : Int) by omega), Jb hj]
   simp only [cond_true, jb]
   cases e.2.2.2.1[j].1 == k <;> rfl) (by
   simp only [GB]
   rw [Aa (by omega)]; rfl) (by omega)
 unfold YP OD
 erw [hl]
 simp only [jb]
 by_cases hc : Qd (fun h : Ra => h.1 == k) 0 e.2.2.2.1 = -1
 ·rw [if_pos hc, hc]; rfl
 ·rw [if_neg hc]; rfl
theorem UW (e : Hb) (k : Int) (hn : e.2.2.2.1.length ≤ Ea) : TI e k = some (Qd (fun h => h.1 == k) 0 e.2.2.2.1, ()) := by
 have h20 : Ea = 1048576 := rfl
 have hl := EA (step := fun x => MC x.1.1 x.1.2.1 x.1.2.2.1 x.2.1) e.2.2.2.1 (fun h => h.1 == k) (fun i => ((k, (), i, ()), (e, ()))) (.inl ((), ())) (fun i => .inr ((i, ()), ()))
  (by
   intro j hj
   simp only [MC]
   rw [Ba (show (j : Int) < ((ja e.2.2.2.1 : Nat) : Int) by omega), Jb hj]
   simp only [cond_true, jb]
   cases e.2.2.2.1[j].1 == k <;> rfl) (by
   simp only [MC]
   rw [Aa (by omega)]; rfl) (by omega)
 unfold TI QE
 erw [hl]
 simp only [jb]
 by_cases hc : Qd (fun h : Ra => h.1 == k) 0 e.2.2.2.1 = -1
 ·rw [if_pos hc, hc]; rfl
 ·rw [if_neg hc]; rfl
theorem X1 (a b : Ka) (hn : a.2.1.length ≤ Sa) : TC a b = some (Uk a b, ()) := by
 have hlim := Ud
 unfold TC Uk
 simp only [bne]
 cases (show Int from a.1) == (show Int from b.1) with
 | false => rfl
 | true =>
  by_cases h : a.2.1.length = b.2.1.length
  ·have hl := Jf (step := fun x => Zp x.1.1 x.1.2.1 x.1.2.2.1 x.2.1 x.2.2.1) a.2.1 (fun k x => b.2.1.getD k 0 == x) (fun i => (((), (), i, ()), (a, b, ())))
    (.inl ((), ())) (.inr ((false, ()), ())) (by
     intro k hk
     simp only [Zp]
     rw [Ba (show (k : Int) < ((ja a.2.1 : Nat) : Int) by omega), Jb hk, Jb (show k < b.2.1.length by omega), qj, je (show k < b.2.1.length by omega)]
     simp only [cond_true, jb, Option.getD_some, bne]
     rw [show (a.2.1[k] == b.2.1[k]) = (b.2.1[k] == a.2.1[k]) by rw [qy, beq_iff_eq, beq_iff_eq]; exact eq_comm]
     cases b.2.1[k] == a.2.1[k] <;> rfl) (by
     simp only [Zp]
     rw [Aa (by omega)]; rfl) (by omega)
   have e : (((ja a.2.1 : Nat) : Int) == ((ja b.2.1 : Nat) : Int)) = true := by simp [h]
   rw [e]
   simp only [jg, cond_false, jk]
   unfold Et
   erw [hl]
   rw [Gai a.2.1 b.2.1 h, show (b.2.1 == a.2.1) = (a.2.1 == b.2.1) by rw [qy, beq_iff_eq, beq_iff_eq]; exact eq_comm]
   cases a.2.1 == b.2.1 <;> rfl
  ·have e : (((ja a.2.1 : Nat) : Int) == ((ja b.2.1 : Nat) : Int)) = false := by simp; omega
   have e2 : (a.2.1 == b.2.1) = false := by rw [beq_eq_false_iff_ne]; intro hh; exact h (by rw [hh])
   rw [e, e2]; rfl
def chF (s : Ka × List Ka) (x : Ka) : Ka × List Ka := (x, cond (Uk s.1 x) s.2 (jf s.2 [x]))
theorem Kah : ∀ (l : List Ka) (k : Nat) (a : Ka) (o : List Ka), (Pd (fun _ s x => chF s x) k (a, o) l).2 = jf o (Xw Uk a l)
 | [], _, _, o => by simp [Pd, Xw]
 | x :: l, k, a, o => by
  have ih := Kah l (k + 1) x (cond (Uk a x) o (jf o [x]))
  show (Pd (fun _ s x => chF s x) (k + 1) (x, cond (Uk a x) o (jf o [x])) l).2 = _
  rw [ih]
  simp only [Xw]
  cases Uk a x <;> simp
theorem DV (a : Ka) (l : List Ka) (hn : l.length ≤ Ea) (ha : a.2.1.length ≤ Ea) (hx : ∀ x ∈ l, x.2.1.length ≤ Ea) : Ah a l = some (Xw Uk a l, ()) := by
 have h20 : Ea = 1048576 := rfl
 have hlim := Ud
 have hl := (Ce (step := fun x => Qs x.1.1 x.1.2.1 x.1.2.2.1 x.1.2.2.2.1 x.2.1) l (fun _ s x => chF s x) (fun s i => ((l, (), s.2, i, ()), (s.1, ()))) (fun s => .inl ((s.2, ()), ())) (fun k s => s.2.length ≤ k ∧ s.1.2.1.length ≤ Ea) (by
  intro k hk s ⟨hs1, hs2⟩
  have hxk := hx _ (qs hk)
  refine ⟨?_, ?_, hxk⟩
  ·simp only [Qs]
   rw [Ba (show (k : Int) < ((ja l : Nat) : Int) by omega), Jb hk]
   simp only [cond_true, jb]
   rw [X1 _ _ (by omega), Lac _ hxk]
   simp only [jb, chF]
   rw [show jx (ja s.2 + ja ([l[k]] : List Ka)) Sa = true from ji (by simp only [jw, j8]; omega)]
   cases Uk s.1 l[k] <;> rfl
  ·unfold chF
   cases Uk s.1 l[k] with
   | true => show s.2.length ≤ k + 1; omega
   | false => show (jf s.2 [l[k]]).length ≤ k + 1; simp; omega)
  (by
   intro s _
   simp only [Qs]
   rw [Aa (by omega)]; rfl) (by omega) (a, []) ⟨jo _, ha⟩).1
 unfold Ah Iw
 erw [hl]
 have := Kah l 0 a []
 simp only [jb, ql]
 rw [this]; simp
theorem MU (a : Ka) (l : List Ka) (hn : l.length ≤ Ea) (ha : a.2.1.length ≤ Ea) (hx : ∀ x ∈ l, x.2.1.length ≤ Ea) : Ff a l = some (Xw Uk a l, ()) := by
 have h20 : Ea = 1048576 := rfl
 have hlim := Ud
 unfold Ff Xav
 have e : (jx (ja l) Sa && (TT a && l.all TT)) = true := by
  rw [jd, jd, List.all_eq_true]
  refine ⟨ji (by omega), ji (by show ja a.2.1 ≤ _; omega), fun x hm => ji ?_⟩
  have := hx x hm
  show ja x.2.1 ≤ _
  omega
 rw [e]; rfl
theorem X5 : ∀ (l : List Ka) (a : Ka), (Xw Uk a l).length ≤ l.length
 | [], _ => by simp [Xw]
 | x :: l, a => by
  have := X5 l x
  simp only [Xw]
  cases Uk a x <;> simp <;> omega
theorem ON (l : List Ra) : (Dd l).2.1.length ≤ 56 := UX l 56
theorem SX : ∀ (l : List Ka) (a x : Ka), x ∈ Xw Uk a l → x ∈ l
 | [], _, x, h => by simp [Xw] at h
 | y :: l, a, x, h => by
  simp only [Xw] at h
  cases hs : Uk a y with
  | true => rw [hs] at h; exact jr _ (SX l y x h)
  | false =>
   rw [hs] at h
   rcases jp.1 h with h | h
   ·exact h ▸ qz ..
   ·exact jr _ (SX l y x h)
noncomputable def Wbi (m : Xb) (f : Int) (k : Nat) : Cb := BR (Jl m.2.1 (Oj m (Nc .i64 1 f) k) k)
noncomputable def stK (m : Xb) (f o : Int) (c : Bool) (k : Nat) : Int × Int × Bool × Cb := NH f o c (Wbi m f k)
noncomputable def hK (m : Xb) (f o : Int) (c : Bool) (k : Nat) : List Ra := [((k : Int), (stK m f o c k).2.2.2, ())]
structure KaK (m : Xb) : Prop where
 v : Bi m = true
 z : Ha Bc m ≤ Ea - 10
theorem z20 {m : Xb} (hM : KaK m) (f o : Int) (c : Bool) (h : List Ra) (hh : h.length ≤ 1) : Ha Dc (VaD m f o c h) ≤ Ea := by
 have h20 : Ea = 1048576 := rfl
 have := hM.z
 rw [MaL]; omega
theorem AV (l : List Ra) : (Dd l).2.1.length ≤ Ea := by
 have h20 : Ea = 1048576 := rfl
 have := ON l
 omega
theorem O9 {m : Xb} (hv : Bi m = true) : KaK m := by
 have hm := Nj hv
 refine ⟨hv, ?_⟩
 have h20 : Ea = 1048576 := rfl
 have h1 : Ha Bc m = 0 + (Ha (.sl (.sl Wb)) m.2.1 + 0) := rfl
 have h2 : Ha (.sl (.sl Wb)) m.2.1 ≤ (32 + 1) * ja m.2.1 := WY (e := .sl Wb) (c := 32) fun x hx => by
  obtain ⟨i, hi, rfl⟩ := qu hx
  rw [Oaa]
  have := hm.row i hi
  have := hm.k2
  omega
 have := hm.l2
 omega
abbrev St := (Int × Int × Bool) × List Ka
structure Ibm (m : Xb) (k : Nat) (s : St) : Prop where
 st : Qag m.2.1.length s.1.1 s.1.2.1
 len : s.2.length ≤ 2 * k
 rep : ∀ x ∈ s.2, x.2.1.length ≤ 56
def Cu (p : Int → Bool) : Nat → List Int
 | 0 => []
 | n + 1 => cond (p ((n + 1 : Nat) : Int)) (Cu p n ++ [((n + 1 : Nat) : Int)]) (Cu p n)
theorem Y0 (p : Int → Bool) : ∀ n, (Cu p n).length ≤ n
 | 0 => by simp [Cu]
 | n + 1 => by
  have := Y0 p n
  simp only [Cu]
  cases p ((n + 1 : Nat) : Int) <;> simp <;> omega
theorem A0 (l : List Ra) : ∀ n, Vk l n = Cu (fun c => l.any fun h => h.2.1.2.1 == c) n
 | 0 => rfl
 | n + 1 => by simp only [Vk, Cu, A0 l n]
theorem P6 (cs : List Int) (hn : cs.length ≤ Ea) (hx : ∀ c ∈ cs, 0 ≤ c ∧ c ≤ 56) : Mv cs = some (Cu (fun c => cs.any (fun y => y == c)) 56, ()) := by
 have := PU (cs.map fun c => ((0, (0, c, 0, 0, ()), ()) : Ra)) (by simpa using hn) (fun h hh => by
  obtain ⟨c, hc, rfl⟩ := qv.1 hh
  exact hx c hc)
 rw [List.map_map] at this
 have e : List.map ((fun h : Ra => h.2.1.2.1) ∘ fun c => ((0, (0, c, 0, 0, ()), ()) : Ra)) cs = cs := by
  rw [show ((fun h : Ra => h.2.1.2.1) ∘ fun c => ((0, (0, c, 0, 0, ()), ()) : Ra)) = id from rfl, List.map_id]
 rw [e] at this
 rw [this, A0]
 congr 3
 funext c
 rw [List.any_map]
 rfl
def Cax (s : Int) (D : List Wa) : Int := Pd (fun _ s (p : Wa) => Nc .i64 s p.2.1) 0 s D
def VN (b : Ka) (D : List Wa) : Ka := (Cax b.1 D, Cu (fun c => b.2.1.any (fun y => y == c) || D.any (fun p => p.1 == c)) 56, ())
theorem U3 (b : Ka) (D : List Wa) (hb : b.2.1.length ≤ 56) (hD : D.length ≤ 1000) (hbx : ∀ c ∈ b.2.1, 0 ≤ c ∧ c ≤ 56) (hDx : ∀ p ∈ D, 0 ≤ p.1 ∧ p.1 ≤ 56) :
 Xf b D = some (VN b D, ()) := by
 have h20 : Ea = 1048576 := rfl
 have hl := (Ce (step := fun x => Hr x.1.1 x.1.2.1 x.1.2.2.1 x.1.2.2.2.1 x.1.2.2.2.2.1 x.1.2.2.2.2.2.1 x.2.1 x.2.2.1) D
  (fun _ (s : Int × List Int) (p : Wa) => (Nc .i64 s.1 p.2.1, jf s.2 [p.1])) (fun s i => (((), (), s.2, D, ((ja D : Nat) : Int), i, ()), (((0 : Int), ([] : List Int), ()), (s.1, ([] : List Int), ()), ())))
  (fun s => .inl (((), (), s.2, ()), (((0 : Int), ([] : List Int), ()), (s.1, ([] : List Int), ()), ()))) (fun k s => s.2.length = b.2.1.length + k) (by
   intro k hk s hs
   refine ⟨?_, by simp [hs]; omega⟩
   simp only [Hr]
   rw [Ba (show (k : Int) < ((ja D : Nat) : Int) by omega), Jb hk]
   simp only [cond_true, jb]
   rw [show jx (ja s.2 + ja ([D[k].1] : List Int)) Sa = true from ji (by simp only [jw, j8, Ud]; omega)]
   rfl)
  (by
   intro s _
   simp only [Hr]
   rw [Aa (by omega)]; rfl) (by omega) (b.1, b.2.1) (by simp)).1
 have key : ∀ (D : List Wa) (k : Nat) (s : Int × List Int), Pd (fun _ (s : Int × List Int) (p : Wa) => (Nc .i64 s.1 p.2.1, jf s.2 [p.1])) k s D =
  (Pd (fun _ s (p : Wa) => Nc .i64 s p.2.1) k s.1 D, s.2 ++ D.map fun p => p.1) := by
  intro D
  induction D with
  | nil => intro k s; simp [Pd]
  | cons x D ih => intro k s; simp only [Pd]; rw [ih]; simp
 unfold Xf Rv
 rw [HT _ (by omega)]
 simp only [jb]
 erw [hl]
 rw [key]
 simp only [jb, ql]
 rw [P6 _ (by simp; omega) (fun c hc => by
  rcases jl.1 hc with h | h
  ·exact hbx c h
  ·obtain ⟨p, hp, rfl⟩ := qv.1 h
   exact hDx p hp)]
 simp only [jb, VN, Cax]
 congr 4
 apply congrArg (fun p => Cu p 56)
 funext c
 rw [List.any_append, List.any_map]
 rfl
abbrev zR : Ka := ((0 : Int), ([] : List Int), ())
theorem K0 {α : Type} (p : α → Bool) : ∀ (l : List α) (k : Nat) (b : Bool), Pd (fun _ b x => cond b true (p x)) k b l = (b || l.any p)
 | [], _, b => by simp [Pd]
 | x :: l, k, b => by
  simp only [Pd, List.any_cons]
  rw [K0 p l (k + 1)]
  cases b <;> cases p x <;> rfl
theorem Vaj (D : List Ra) (b : Ka) (K : List Int) (c : Int) (has : Bool) (hb : b.2.1.length ≤ Ea) :
 Om ((D, (), (), K, c, has, (0 : Int), ()), (zR, b, ())) = some (.inl ((D, (), (), K, c, has || b.2.1.any (fun y => y == c), ()), (zR, b, ()))) := by
 have h20 : Ea = 1048576 := rfl
 have hl := (Ce (step := fun x => Ns x.1.1 x.1.2.1 x.1.2.2.1 x.1.2.2.2.1 x.1.2.2.2.2.1 x.1.2.2.2.2.2.1 x.1.2.2.2.2.2.2.1 x.2.1 x.2.2.1) b.2.1 (fun _ s y => cond s true (y == c)) (fun s i => ((D, (), (), K, c, s, i, ()), (zR, b, ())))
  (fun s => .inl ((D, (), (), K, c, s, ()), (zR, b, ()))) (fun _ _ => True) (by
   intro k hk s _
   refine ⟨?_, trivial⟩
   simp only [Ns]
   rw [Ba (show (k : Int) < ((ja b.2.1 : Nat) : Int) by omega), show Af (ja b.2.1) (k : Int) = true by rw [Fg]; exact Ba hk, jn, je hk]
   simp only [cond_true, jb]
   cases s <;> rfl)
  (by
   intro s _
   simp only [Ns]
   rw [Aa (by omega)]; rfl) (by omega) has trivial).1
 unfold Om
 erw [hl]
 rw [K0 (fun y : Int => y == c)]
theorem Uaj (D : List Ra) (b : Ka) (K : List Int) (c : Int) (has : Bool) (hD : D.length ≤ Ea) :
 Pm ((D, (), (), K, c, has, (0 : Int), ()), (zR, b, ())) = some (.inl ((D, (), (), K, c, has || D.any (fun h => h.2.1.2.1 == c), ()), (zR, b, ()))) := by
 have h20 : Ea = 1048576 := rfl
 have hl := (Ce (step := fun x => Ps x.1.1 x.1.2.1 x.1.2.2.1 x.1.2.2.2.1 x.1.2.2.2.2.1 x.1.2.2.2.2.2.1 x.1.2.2.2.2.2.2.1 x.2.1 x.2.2.1) D (fun _ s (h : Ra) => cond s true (h.2.1.2.1 == c)) (fun s i => ((D, (), (), K, c, s, i, ()), (zR, b, ())))
  (fun s => .inl ((D, (), (), K, c, s, ()), (zR, b, ()))) (fun _ _ => True) (by
   intro k hk s _
   refine ⟨?_, trivial⟩
   simp only [Ps]
   rw [Ba (show (k : Int) < ((ja D : Nat) : Int) by omega), Jb hk]
   simp only [cond_true, jb]
   cases s <;> rfl)
  (by
   intro s _
   simp only [Ps]
   rw [Aa (by omega)]; rfl) (by omega) has trivial).1
 unfold Pm
 erw [hl]
 rw [K0 (fun h : Ra => h.2.1.2.1 == c)]
theorem XK (l D : List Ra) (hn : l.length ≤ Ea) (hv : Qf l = true) (hD : D.length ≤ 1000) : Ci l D = some (VN (Dd l) (D.map Ee), ()) := by
 have h20 : Ea = 1048576 := rfl
 have h1 := (Ce (step := fun x => Wu x.1.1 x.1.2.1 x.1.2.2.1 x.1.2.2.2.1 x.2.1 x.2.2.1) D (fun _ s (h : Ra) => Nc .i64 s h.2.1.2.2.1) (fun s i => ((D, (), (), i, ()), (zR, ((s, (Dd l).2.1, ()) : Ka), ())))
  (fun s => .inl ((D, (), (), ()), (zR, ((s, (Dd l).2.1, ()) : Ka), ()))) (fun _ _ => True) (by
   intro k hk s _
   refine ⟨?_, trivial⟩
   simp only [Wu]
   rw [Ba (show (k : Int) < ((ja D : Nat) : Int) by omega), Jb hk]; rfl)
  (by
   intro s _
   simp only [Wu]
   rw [Aa (by omega)]; rfl) (by omega) (Dd l).1 trivial).1
 have hm : ∀ (D : List Ra) (k : Nat) (s : Int), Pd (fun _ s (h : Ra) => Nc .i64 s h.2.1.2.2.1) k s D = Pd (fun _ s (p : Wa) => Nc .i64 s p.2.1) k s (D.map Ee) := by
  intro D
  induction D with
  | nil => intro k s; rfl
  | cons x D ih => intro k s; simp only [Pd, List.map_cons]; exact ih _ _
 generalize hms : Pd (fun _ s (h : Ra) => Nc .i64 s h.2.1.2.2.1) 0 (Dd l).1 D = ms at h1
 have hms' : Cax (Dd l).1 (D.map Ee) = ms := by rw [← hms, hm]; rfl
 let pr : Int → Bool := fun c => (Dd l).2.1.any (fun y => y == c) || D.any (fun h => h.2.1.2.1 == c)
 have h2 := Mw (step := fun x => Xu x.1.1 x.1.2.1 x.1.2.2.1 x.1.2.2.2.1 x.1.2.2.2.2.1 x.2.1 x.2.2.1) (fun k => ((D, (), (), Cu pr k, ((k + 1 : Nat) : Int), ()), (zR, ((ms, (Dd l).2.1, ()) : Ka), ()))) 56
  (.inl (((), (), Cu pr 56, ()), (zR, ((ms, (Dd l).2.1, ()) : Ka), ()))) (by
   intro k hk
   simp only [Xu]
   have hlen := Y0 pr k
   rw [Ba (show ((k + 1 : Nat) : Int) ≤ 56 by omega), Vaj D _ _ _ _ (by have := ON l; show (Dd l).2.1.length ≤ _; omega)]
   simp only [cond_true, jb, ql]
   rw [Uaj D _ _ _ _ (by omega)]
   simp only [jb, ql]
   rw [show jx (ja (Cu pr k) + ja ([((k + 1 : Nat) : Int)] : List Int)) Sa = true from ji (by simp only [jw, j8, Ud]; omega), Jc (by omega)]
   simp only [Cu, pr, Bool.false_or, cond_true]
   cases ((Dd l).2.1.any (fun y => y == ((k + 1 : Nat) : Int)) || D.any (fun h => h.2.1.2.1 == ((k + 1 : Nat) : Int))) <;> rfl) (by
   simp only [Xu]
   rw [Aa (by decide)]; rfl)
 unfold Ci Vy Wy
 rw [My l hn hv]
 simp only [jb]
 erw [h1]
 simp only [jb, ql]
 erw [h2]
 simp only [jb, ql]
 unfold VN
 rw [hms']
 congr 4
 apply congrArg (fun p => Cu p 56)
 funext c
 simp only [pr, List.any_map]
 rfl
noncomputable def rM (L : List Ra) (x : Zc) : Int := Qd (Yi x.2.1 x.2.2.1) 0 L
noncomputable def N3 (b : Ka) (L : List Ra) (x : Zc) : List Ka :=
 cond (x.1 == 0) [VN b ((jf L [Ki x]).map Ee), VN b (L.map Ee)] [VN b ((NR x L (rM L x)).map Ee)]
noncomputable def mG (b : Ka) (s : List Ka × List Ra) (x : Zc) : List Ka × List Ra := (jf s.1 (N3 b s.2 x), NR x s.2 (rM s.2 x))
noncomputable def MW (b : Ka) (l : List Zc) : List Ka := (Pd (fun _ s x => mG b s x) 0 ([], []) l).1
theorem M4 {α : Type} (p : α → Bool) : ∀ (xs : List α) (k : Nat) (y : α), Qd p k xs = -1 → p y = true → Qd p k (xs ++ [y]) = ((k + xs.length : Nat) : Int)
 | [], k, y, _, hy => by simp only [List.nil_append, Qd, hy, cond_true]; simp
 | x :: xs, k, y, h, hy => by
  simp only [Qd] at h
  simp only [List.cons_append, Qd]
  cases hx : p x with
  | true => rw [hx] at h; simp only [cond_true] at h; omega
  | false =>
   rw [hx] at h
   simp only [cond_false] at h ⊢
   rw [M4 p xs (k + 1) y h hy, jw]
   omega
structure Taa (l : List Zc) (k : Nat) (s : List Ka × List Ra) : Prop where
 ok : ∃ L', Xc (fun _ L x => Wv L x) k s.2 (l.drop k) = .inl L'
 len : s.2.length ≤ k
 out : s.1.length ≤ 2 * k
 cod : ∀ h ∈ s.2, 0 ≤ h.2.1.2.1 ∧ h.2.1.2.1 ≤ 56
theorem Hai {l : List Zc} {k : Nat} (hk : k < l.length) {b : Ka} {s : List Ka × List Ra} (hi : Taa l k s) : JA l[k] (rM s.2 l[k]) = true ∧ Taa l (k + 1) (mG b s l[k]) := by
 obtain ⟨L', hL⟩ := hi.ok
 rw [List.drop_eq_getElem_cons hk] at hL
 simp only [Xc] at hL
 unfold rM
 cases hc : JA l[k] (Qd (Yi l[k].2.1 l[k].2.2.1) 0 s.2) with
 | false =>
  have : Wv s.2 l[k] = .inr () := by unfold Wv; rw [hc]; rfl
  rw [this] at hL; simp at hL
 | true =>
  have hm : Wv s.2 l[k] = .inl (NR l[k] s.2 (rM s.2 l[k])) := by unfold Wv rM; rw [hc]; rfl
  rw [hm] at hL
  refine ⟨rfl, ⟨L', hL⟩, ?_, ?_, ?_⟩
  ·have := Sab hm
   have := hi.len
   show (NR l[k] s.2 (rM s.2 l[k])).length ≤ k + 1
   omega
  ·have := hi.out
   show (jf s.1 (N3 b s.2 l[k])).length ≤ _
   unfold N3
   cases l[k].1 == 0 <;> simp <;> omega
  ·have hcode : 0 ≤ l[k].2.1 ∧ l[k].2.1 ≤ 56 := by
    simp only [JA, jd] at hc
    exact UP hc.1
   intro h hh
   have hh' : h ∈ NR l[k] s.2 (rM s.2 l[k]) := hh
   unfold NR at hh'
   cases h1 : l[k].1 == 1 with
   | true =>
    rw [h1] at hh'
    rcases jl.1 (show h ∈ s.2 ++ [Ki l[k]] from hh') with hh' | hh'
    ·exact hi.cod h hh'
    ·simp only [jp, List.not_mem_nil, or_false] at hh'
     rw [hh']; exact hcode
   | false =>
    rw [h1] at hh'
    cases h2 : l[k].1 == 2 with
    | true =>
     rw [h2] at hh'
     have hsub : h ∈ s.2 := by
      have hw : h ∈ Wh s.2 (rM s.2 l[k]).toNat := hh'
      unfold Wh Eb at hw
      rcases jl.1 (show h ∈ _ ++ _ from hw) with hw | hw
      ·exact List.mem_of_mem_take (qt hw)
      ·exact List.mem_of_mem_take (qt hw)
     exact hi.cod h hsub
    | false => rw [h2] at hh'; exact hi.cod h hh'
theorem Gaj {x : Zc} {r : Int} (h : JA x r = true) : (x.1 = 0 ∧ r < 0) ∨ (x.1 = 1 ∧ r < 0) ∨ (x.1 = 2 ∧ r ≥ 0) := by
 simp only [JA, jd, Bool.or_eq_true, beq_iff_eq, Bool.not_eq_true', decide_eq_false_iff_not, decide_eq_true_eq] at h
 omega
theorem Na {n m : Nat} (h : n ≤ 1000) (hm : m ≤ 10) : jx (n + m) Sa = true := ji (by rw [Ud]; omega)
theorem Gak (L : List Ra) (h : Ra) : Wh (jf L [h]) L.length = L := by
 simp [Wh, Eb]
theorem TY (a : List Ra) (l : List Zc) (hn : a.length ≤ Ea) (ha : Qf a = true) (hm : Cg l = true) : Ik a l = some (MW (Dd a) l, ()) := by
 have h20 : Ea = 1048576 := rfl
 have hm' := hm
 simp only [Cg, jd, decide_eq_true_eq, Xai] at hm'
 have h0 : Taa l 0 ([], []) := ⟨by
  rw [List.drop_zero]
  cases hf : Xc (fun _ L x => Wv L x) 0 [] l with
  | inl L => exact ⟨L, rfl⟩
  | inr u => rw [hf] at hm'; simp at hm', jo _, jo _, by simp⟩
 have hl := (Ce (step := fun x => Mm x.1.1 x.1.2.1 x.1.2.2.1 x.1.2.2.2.1 x.1.2.2.2.2.1) l (fun _ s x => mG (Dd a) s x) (fun s i => ((a, l, s.1, s.2, i, ()), ())) (fun s => .inl ((s.1, ()), ())) (Taa l) (by
  intro k hk s hi
  obtain ⟨hok, hi'⟩ := Hai (b := Dd a) hk hi
  refine ⟨?_, hi'⟩
  have hlen := hi.len
  have hout := hi.out
  have hl8 := hm'.1
  simp only [Mm]
  rw [Ba (show (k : Int) < ((ja l : Nat) : Int) by omega), Jb hk]
  simp only [cond_true, jb, Qq]
  generalize hx : l[k] = x at *
  have e1 : jx (ja s.2 + ja ([((0 : Int), ((2 : Int), x.2.1, x.2.2.1, (0 : Int), ()), ())] : List Ra)) Sa = true := Na (by omega) (by simp)
  have hR1 : Ci a (jf s.2 [Ki x]) = some (VN (Dd a) ((jf s.2 [Ki x]).map Ee), ()) := XK a _ hn ha (by simp; omega)
  have hR0 : Ci a s.2 = some (VN (Dd a) (s.2.map Ee), ()) := XK a _ hn ha (by omega)
  unfold mG N3 NR
  rcases Gaj hok with ⟨h0, hr⟩ | ⟨h1, hr⟩ | ⟨h2, hr⟩
  ·rw [h0, e1]
   simp only [show ((0 : Int) != 2) = true from rfl, show ((0 : Int) != 1) = true from rfl, show ((0 : Int) == 0) = true from rfl, show ((0 : Int) == 1) = false from rfl, show ((0 : Int) == 2) = false from rfl, cond_true, cond_false]
   show jz (Ci a (jf s.2 [Ki x])) _ = _
   rw [hR1]
   simp only [jb]
   rw [show ∀ r : Ka, jx (ja s.1 + ja ([r] : List Ka)) Sa = true from fun r => Na (by omega) (by simp)]
   simp only [cond_true]
   have hF : Ko (jf s.2 [Ki x]) x = some (((s.2.length : Nat) : Int), ()) := by
    rw [JP _ _ (by simp; omega)]
    have hm1 : Qd (Yi x.2.1 x.2.2.1) 0 s.2 = -1 := by
     rcases Lw (Yi x.2.1 x.2.2.1) s.2 0 with h | ⟨j, _, h⟩
     ·exact h
     ·unfold rM at hr; omega
    have := M4 (Yi x.2.1 x.2.2.1) s.2 0 (Ki x) hm1 (by simp [Yi, Ki])
    rw [js] at this
    show some (Qd _ 0 (s.2 ++ [Ki x]), ()) = _
    rw [this]
   have hW : Ng (jf s.2 [Ki x]) ((s.2.length : Nat) : Int) = some (s.2, ()) := by
    rw [SH _ (by simp) (by simp; omega), Gak]
   show jz (Ko (jf s.2 [Ki x]) x) _ = _
   rw [hF]
   simp only [jb]
   show jz (Ng (jf s.2 [Ki x]) ((s.2.length : Nat) : Int)) _ = _
   rw [hW]
   simp only [jb]
   rw [hR0]
   simp only [jb]
   rw [show ∀ r r' : Ka, jx (ja (jf s.1 [r]) + ja ([r'] : List Ka)) Sa = true from fun r r' => Na (by simp; omega) (by simp)]
   simp
  ·rw [h1, e1]
   simp only [show ((1 : Int) != 2) = true from rfl, show ((1 : Int) != 1) = false from rfl, show ((1 : Int) == 0) = false from rfl, show ((1 : Int) == 1) = true from rfl, cond_true, cond_false]
   show jz (Ci a (jf s.2 [Ki x])) _ = _
   rw [hR1]
   simp only [jb]
   rw [show ∀ r : Ka, jx (ja s.1 + ja ([r] : List Ka)) Sa = true from fun r => Na (by omega) (by simp)]
   rfl
  ·rw [h2]
   simp only [show ((2 : Int) != 2) = false from rfl, show ((2 : Int) != 1) = true from rfl, show ((2 : Int) == 0) = false from rfl, show ((2 : Int) == 1) = false from rfl, show ((2 : Int) == 2) = true from rfl, cond_true, cond_false]
   rcases Lw (Yi x.2.1 x.2.2.1) s.2 0 with h | ⟨j, hj, h⟩
   ·unfold rM at hr; omega
   ·rw [js] at h
    rw [JP _ _ (by omega), h]
    simp only [jb]
    rw [SH _ hj (by omega)]
    simp only [jb]
    rw [XK a _ hn ha (by rw [H5 hj]; omega)]
    simp only [jb]
    rw [show ∀ r : Ka, jx (ja s.1 + ja ([r] : List Ka)) Sa = true from fun r => Na (by omega) (by simp)]
    unfold rM
    rw [h, jn]
    rfl)
  (by
   intro s _
   simp only [Mm]
   rw [Aa (by omega)]; rfl) (by omega) ([], []) h0).1
 unfold Ik Ip
 rw [OG _ hn, ha, FV _ (by omega), hm]
 simp only [jb, jg, cond_false]
 erw [hl]
 rfl
theorem IaF (a : List Ra) : ∀ c ∈ (Dd a).2.1, 0 ≤ c ∧ c ≤ 56 := by
 intro c hc
 have := (FM a 56 c).1 hc
 omega
theorem GY (a : List Ra) (l : List Zc) (hn : a.length ≤ Ea) (ha : Qf a = true) (hm : Cg l = true) : Hk a l = some (MW (Dd a) l, ()) := by
 have h20 : Ea = 1048576 := rfl
 have hm' := hm
 simp only [Cg, jd, decide_eq_true_eq, Xai] at hm'
 have h0 : Taa l 0 ([], []) := ⟨by
  rw [List.drop_zero]
  cases hf : Xc (fun _ L x => Wv L x) 0 [] l with
  | inl L => exact ⟨L, rfl⟩
  | inr u => rw [hf] at hm'; simp at hm', jo _, jo _, by simp⟩
 have hl := (Ce (step := fun x => Fm x.1.1 x.1.2.1 x.1.2.2.1 x.1.2.2.2.1 x.1.2.2.2.2.1 x.1.2.2.2.2.2.1 x.2.1) l (fun _ s x => mG (Dd a) s x) (fun s i => (((), s.1, s.2.map Ee, l, ((ja l : Nat) : Int), i, ()), (Dd a, ()))) (fun s => .inl ((s.1, ()), ())) (Taa l) (by
  intro k hk s hi
  obtain ⟨hok, hi'⟩ := Hai (b := Dd a) hk hi
  refine ⟨?_, hi'⟩
  have hlen := hi.len
  have hout := hi.out
  have hl8 := hm'.1
  have hcode : 0 ≤ l[k].2.1 ∧ l[k].2.1 ≤ 56 := by
   simp only [JA, jd] at hok
   exact UP hok.1
  simp only [Fm]
  rw [Ba (show (k : Int) < ((ja l : Nat) : Int) by omega), Jb hk]
  simp only [cond_true, jb]
  generalize hx : l[k] = x at *
  have hW : ∀ L : List Ra, L.length ≤ 1000 → (∀ h ∈ L, 0 ≤ h.2.1.2.1 ∧ h.2.1.2.1 ≤ 56) → Xf (Dd a) (L.map Ee) = some (VN (Dd a) (L.map Ee), ()) := fun L h1 h2 =>
   U3 _ _ (ON a) (by simpa using h1) (IaF a) (fun p hp => by
    obtain ⟨h, hh, rfl⟩ := qv.1 hp
    exact h2 h hh)
  have hcs : ∀ h ∈ jf s.2 [Ki x], 0 ≤ h.2.1.2.1 ∧ h.2.1.2.1 ≤ 56 := by
   intro h hh
   rcases jl.1 (show h ∈ s.2 ++ [Ki x] from hh) with hh | hh
   ·exact hi.cod h hh
   ·simp only [jp, List.not_mem_nil, or_false] at hh
    rw [hh]; exact hcode
  have happ : jf (s.2.map Ee) ([(x.2.1, x.2.2.1, ())] : List Wa) = (jf s.2 [Ki x]).map Ee := by
   show _ ++ _ = List.map Ee (_ ++ _)
   rw [List.map_append]; rfl
  have happ2 : jf (jf ([] : List Wa) (s.2.map Ee)) ([(x.2.1, x.2.2.1, ())] : List Wa) = (jf s.2 [Ki x]).map Ee := happ
  have hR1 := hW (jf s.2 [Ki x]) (by simp; omega) hcs
  have hR0 := hW s.2 (by omega) hi.cod
  have b1 : jx (ja (s.2.map Ee) + ja ([(x.2.1, x.2.2.1, ())] : List Wa)) Sa = true := Na (by simp; omega) (by simp)
  have b0 : jx (ja ([] : List Wa) + ja (s.2.map Ee)) Sa = true := ji (by simp [Ud]; omega)
  unfold mG N3 NR
  rcases Gaj hok with ⟨h0, hr⟩ | ⟨h1, hr⟩ | ⟨h2, hr⟩
  ·rw [h0, b0]
   simp only [show ((0 : Int) == 0) = true from rfl, show ((0 : Int) == 1) = false from rfl, show ((0 : Int) == 2) = false from rfl, cond_true, cond_false]
   show cond (jx (ja (s.2.map Ee) + ja ([(x.2.1, x.2.2.1, ())] : List Wa)) Sa) _ _ = _
   rw [b1, happ2]
   simp only [cond_true]
   show jz (Xf (Dd a) _) _ = _
   rw [hR1]
   simp only [jb]
   rw [show ∀ r : Ka, jx (ja s.1 + ja ([r] : List Ka)) Sa = true from fun r => Na (by omega) (by simp)]
   simp only [cond_true]
   show jz (Xf (Dd a) _) _ = _
   rw [hR0]
   simp only [jb]
   rw [show ∀ r r' : Ka, jx (ja (jf s.1 [r]) + ja ([r'] : List Ka)) Sa = true from fun r r' => Na (by simp; omega) (by simp)]
   simp
  ·rw [h1, b1, happ]
   simp only [show ((1 : Int) == 0) = false from rfl, show ((1 : Int) == 1) = true from rfl, cond_true, cond_false]
   show jz (Xf (Dd a) _) _ = _
   rw [hR1]
   simp only [jb]
   rw [show ∀ r : Ka, jx (ja s.1 + ja ([r] : List Ka)) Sa = true from fun r => Na (by omega) (by simp)]
   rfl
  ·rw [h2]
   simp only [show ((2 : Int) == 0) = false from rfl, show ((2 : Int) == 1) = false from rfl, show ((2 : Int) == 2) = true from rfl, cond_true, cond_false]
   rcases Lw (Yi x.2.1 x.2.2.1) s.2 0 with h | ⟨j, hj, h⟩
   ·unfold rM at hr; omega
   ·rw [js] at h
    rw [HW (s.2.map Ee) _ (by simp; omega), V9, h]
    simp only [jb]
    have hj' : j < (s.2.map Ee).length := by simpa using hj
    have hc := E0 hj'
    have e1 : jx (ja (Eb (s.2.map Ee) (jy 0) (jy (j : Int))) + ja (Eb (s.2.map Ee) (jy ((j + 1 : Nat) : Int)) (jy ((ja (s.2.map Ee) : Nat) : Int)))) Sa = true :=
     ji (by simp [Eb]; rw [Ud]; omega)
    have e2 : jf (Eb (s.2.map Ee) (jy 0) (jy (j : Int))) (Eb (s.2.map Ee) (jy ((j + 1 : Nat) : Int)) (jy ((ja (s.2.map Ee) : Nat) : Int))) = (Wh s.2 j).map Ee := by
     rw [← I5]
     simp [Wh]
    have hsub : ∀ h ∈ Wh s.2 j, 0 ≤ h.2.1.2.1 ∧ h.2.1.2.1 ≤ 56 := by
     intro h hw
     unfold Wh Eb at hw
     rcases jl.1 (show h ∈ _ ++ _ from hw) with hw | hw
     ·exact hi.cod h (List.mem_of_mem_take (qt hw))
     ·exact hi.cod h (List.mem_of_mem_take (qt hw))
    rw [Jc (k := j) (by omega), hc.1, hc.2, e1, e2]
    simp only [cond_true]
    show jz (Xf (Dd a) _) _ = _
    rw [hW (Wh s.2 j) (by rw [H5 hj]; omega) hsub]
    simp only [jb]
    rw [show ∀ r : Ka, jx (ja s.1 + ja ([r] : List Ka)) Sa = true from fun r => Na (by omega) (by simp)]
    unfold rM
    rw [h, jn]
    rfl)
  (by
   intro s _
   simp only [Fm]
   rw [Aa (by omega)]; rfl) (by omega) ([], []) h0).1
 unfold Hk Yo
 rw [RF _ hn, ha, OU _ (by omega), hm, Kx _ hn ha]
 simp only [jb, jg, cond_false]
 erw [hl]
 rfl
theorem Vad (b : Ka) (D : List Wa) : (VN b D).2.1.length ≤ 56 := by
 show (Cu (fun c => b.2.1.any (fun y => y == c) || D.any (fun p => p.1 == c)) 56).length ≤ 56
 exact Y0 _ 56
theorem Yai (b : Ka) : ∀ (l : List Zc) (k : Nat) (s : List Ka × List Ra), (∀ x ∈ s.1, x.2.1.length ≤ 56) →
 (Pd (fun _ s x => mG b s x) k s l).1.length ≤ s.1.length + 2 * l.length ∧ ∀ x ∈ (Pd (fun _ s x => mG b s x) k s l).1, x.2.1.length ≤ 56
 | [], _, s, h => by simp only [Pd]; exact ⟨by omega, h⟩
 | x :: l, k, s, h => by
  have h1 : (mG b s x).1.length ≤ s.1.length + 2 ∧ ∀ y ∈ (mG b s x).1, y.2.1.length ≤ 56 := by
   unfold mG N3
   cases x.1 == 0 with
   | true =>
    refine ⟨by simp, fun y hy => ?_⟩
    rcases jl.1 (show y ∈ s.1 ++ _ from hy) with hy | hy
    ·exact h y hy
    ·simp only [cond_true, jp, List.not_mem_nil, or_false] at hy
     rcases hy with rfl | rfl <;> exact Vad _ _
   | false =>
    refine ⟨by simp, fun y hy => ?_⟩
    rcases jl.1 (show y ∈ s.1 ++ _ from hy) with hy | hy
    ·exact h y hy
    ·simp only [cond_false, jp, List.not_mem_nil, or_false] at hy
     rw [hy]; exact Vad _ _
  have := Yai b l (k + 1) (mG b s x) h1.2
  simp only [Pd, jw]
  exact ⟨by omega, this.2⟩
def No (f : Int) (l : List Ra) : Int := Pd (fun _ s (h : Ra) => cond (h.2.1.1 == 3) (Nc .i64 s (Qa .i64 1 h.2.1.2.2.2.1)) s) 0 (Nc .i64 1 f) l
theorem EW {f : Int} (hf : 0 ≤ f ∧ f ≤ 15) (l : List Ra) (hn : l.length ≤ Ea) (hv : Qf l = true) : Jz f l = some (No f l, ()) := by
 have h20 : Ea = 1048576 := rfl
 have hh := Ho hv
 have hl := (Ce (step := fun x => Wt x.1.1 x.1.2.1 x.1.2.2.1 x.1.2.2.2.1) l
  (fun _ s (h : Ra) => cond (h.2.1.1 == 3) (Nc .i64 s (Qa .i64 1 h.2.1.2.2.2.1)) s) (fun s i => ((s, l, ((ja l : Nat) : Int), i, ()), ()))
  (fun s => .inl ((s, ()), ())) (fun _ _ => True) (by
   intro k hk s _
   refine ⟨?_, trivial⟩
   simp only [Wt]
   rw [Ba (show (k : Int) < (ja l : Int) by omega), Jb hk]
   simp only [cond_true, jb]
   rw [Ba (KO (hh _ (qs hk)).act)]
   cases l[k].2.1.1 == 3 <;> rfl)
  (by
   intro s _
   simp only [Wt]
   rw [Aa (by omega)]; rfl) (by omega) (Nc .i64 1 f) trivial).1
 unfold Jz Ck
 rw [Ba (show f ≥ 0 by omega), Ba hf.2, RF _ hn, hv]
 simp only [cond_true, jb, jg, cond_false]
 erw [hl]
 rfl
theorem VW {f : Int} (hf : 0 ≤ f ∧ f ≤ 15) (l : List Ra) (hn : l.length ≤ Ea) (hv : Qf l = true) : Xz f l = some (No f l, ()) := by
 have h20 : Ea = 1048576 := rfl
 have hh := Ho hv
 have hl := (Ce (step := fun x => Tu x.1.1 x.1.2.1 x.1.2.2.1) l
  (fun _ s (h : Ra) => cond (h.2.1.1 == 3) (Nc .i64 s (Qa .i64 1 h.2.1.2.2.2.1)) s) (fun s i => ((l, s, i, ()), ()))
  (fun s => .inl ((s, ()), ())) (fun _ _ => True) (by
   intro k hk s _
   refine ⟨?_, trivial⟩
   simp only [Tu]
   rw [Ba (show (k : Int) < ((ja l : Nat) : Int) by omega), Jb hk, OG _ hn, hv]
   simp only [cond_true, jb]
   rw [Ba (KO (hh _ (qs hk)).act)]
   cases l[k].2.1.1 == 3 <;> rfl)
  (by
   intro s _
   simp only [Tu]
   rw [Aa (by omega)]; rfl) (by omega) (Nc .i64 1 f) trivial).1
 unfold Xz Co
 rw [Mc, Ba hf]
 simp only [cond_true, jb]
 erw [hl]
 rfl
theorem Kab (a : Cb) : ZP a = some (UO a, ()) := by
 unfold ZP UO
 rw [FH]
 cases Dg a <;> cases a.1 == 6 <;> rfl
theorem U9 {a : Nat} (ha : a < 2 ^ 63) (x : Ra) : JG (a : Int) x = true ↔ Zu x ∧ a.testBit x.1.toNat = false := by
 constructor
 ·intro h
  obtain ⟨h1, h2⟩ := GaB h
  refine ⟨h1, ?_⟩
  have hx : x.1 = ((x.1.toNat : Nat) : Int) := (Int.toNat_of_nonneg h1.lo).symm
  have := Ts (a := a) (k := x.1.toNat) ha (by have := h1.hi; omega)
  rw [← hx] at this
  rw [← this]
  simp [h2]
 ·rintro ⟨h1, h2⟩
  have hx : x.1 = ((x.1.toNat : Nat) : Int) := (Int.toNat_of_nonneg h1.lo).symm
  have := Ts (a := a) (k := x.1.toNat) ha (by have := h1.hi; omega)
  rw [← hx, h2] at this
  simp only [JG, jd, decide_eq_true_eq, Bool.not_eq_true', beq_eq_false_iff_ne]
  exact ⟨⟨h1.lo, h1.hi⟩, by rw [beq_eq_false_iff_ne] at this; exact this, h1.act, h1.n1, h1.n6, h1.n7⟩
theorem P4 : ∀ (l : List Ra) (k a : Nat), a < 2 ^ 63 → (Cn (Xc (fun _ s x => FB s x) k (a : Int) l) = true ↔
 (∀ x ∈ l, Zu x ∧ a.testBit x.1.toNat = false) ∧ l.Pairwise (fun x y => x.1 ≠ y.1))
 | [], k, a, ha => by simp [Xc, Cn]
 | y :: l, k, a, ha => by
  simp only [Xc]
  cases hc : JG (a : Int) y with
  | false =>
   rw [show FB (a : Int) y = .inr () by unfold FB; rw [hc]; rfl]
   simp only [Cn, jq, false_iff]
   rintro ⟨h, _⟩
   have := (U9 ha y).2 (h y (qz ..))
   rw [hc] at this; cases this
  | true =>
   rw [show FB (a : Int) y = .inl (Nc .i64 (a : Int) (Qa .i64 1 y.1)) by unfold FB; rw [hc]; rfl]
   simp only []
   obtain ⟨hy, hb⟩ := (U9 ha y).1 hc
   have h1 := hy.lo; have h2 := hy.hi
   have hyx : y.1 = ((y.1.toNat : Nat) : Int) := (Int.toNat_of_nonneg h1).symm
   have e : Nc .i64 (a : Int) (Qa .i64 1 y.1) = ((a ||| 2 ^ y.1.toNat : Nat) : Int) := by
    conv => lhs; rw [hyx]
    rw [Cl (by omega), Sv ha (Aj (by omega))]
   rw [e, P4 l (k + 1) _ (Nat.or_lt_two_pow ha (Aj (by omega)))]
   have tb : ∀ n, (a ||| 2 ^ y.1.toNat).testBit n = false ↔ a.testBit n = false ∧ y.1.toNat ≠ n := by
    intro n
    rw [Nat.testBit_or, qp, Bool.or_eq_false_iff, decide_eq_false_iff_not]
   simp only [jp, List.pairwise_cons, forall_eq_or_imp]
   constructor
   ·rintro ⟨h, hp⟩
    refine ⟨⟨⟨hy, hb⟩, fun x hx => ⟨(h x hx).1, ((tb _).1 (h x hx).2).1⟩⟩, fun x hx hxy => ?_, hp⟩
    exact ((tb _).1 (h x hx).2).2 (by rw [hxy])
   ·rintro ⟨⟨_, h⟩, hq, hp⟩
    refine ⟨fun x hx => ⟨(h x hx).1, (tb _).2 ⟨(h x hx).2, fun hn => hq x hx ?_⟩⟩, hp⟩
    have := (h x hx).1.lo
    omega
theorem EY (l : List Ra) : Qf l = true ↔ (∀ x ∈ l, Zu x) ∧ l.Pairwise (fun x y => x.1 ≠ y.1) := by
 have := P4 l 0 0 (by decide)
 unfold Qf Gag
 erw [this]
 simp
theorem Taz {l : List Ra} (h : Qf l = true) {x : Ra} (hx : Zu x) (hn : ∀ y ∈ l, y.1 ≠ x.1) : Qf (jf l [x]) = true := by
 rw [EY] at h ⊢
 obtain ⟨h1, h2⟩ := h
 refine ⟨fun y hy => ?_, ?_⟩
 ·rcases jl.1 (show y ∈ l ++ [x] from hy) with hy | hy
  ·exact h1 y hy
  ·rw [qe.1 hy]; exact hx
 ·show (l ++ [x]).Pairwise _
  rw [List.pairwise_append]
  exact ⟨h2, List.pairwise_singleton _ _, fun y hy z hz => by rw [qe.1 hz]; exact hn y hy⟩
theorem J6 {l r : List Ra} (h : Qf l = true) (hs : r.Sublist l) : Qf r = true := by
 rw [EY] at h ⊢
 exact ⟨fun y hy => h.1 y (hs.subset hy), h.2.sublist hs⟩
theorem D7 : ∀ (n : Nat) (l : List Nat), l.Nodup → (∀ x ∈ l, x < n) → l.length ≤ n
 | 0, l, _, h => by
  cases l with
  | nil => exact jo _
  | cons x l => exact absurd (h x (qz ..)) (Nat.not_lt_zero _)
 | n + 1, l, hn, h => by
  have := D7 n (l.erase n) (hn.erase n) (fun x hx => by
   have h1 := (hn.mem_erase_iff).1 hx
   have := h x h1.2
   have := h1.1
   omega)
  have h2 := List.length_erase (a := n) (l := l)
  split at h2 <;> omega
theorem Lq {l : List Ra} (h : Qf l = true) : l.length ≤ 32 := by
 rw [EY] at h
 have hn : (l.map fun x => x.1.toNat).Nodup := by
  rw [List.Nodup, List.pairwise_map]
  refine (List.Pairwise.and_mem.1 h.2).imp ?_
  rintro x y ⟨hx, hy, hxy⟩ he
  have h1 := (h.1 x hx).lo; have h2 := (h.1 y hy).lo
  omega
 have hs : ∀ y ∈ (l.map fun x => x.1.toNat), y < 32 := by
  intro y hy
  obtain ⟨x, hx, rfl⟩ := qv.1 hy
  have := (h.1 x hx).hi; have := (h.1 x hx).lo
  omega
 have := D7 32 _ hn hs
 simpa using this
structure Pw (e : Hb) : Prop where
 km : Bi e.1 = true
 m4 : e.2.1.length ≤ 4
 hd : Qf e.2.2.2.1 = true
 mac : ∀ x ∈ e.2.1, Cg x = true
 hin : ∀ x ∈ e.2.2.2.1, Kq e.1.1 e.1.2.1.length x = true
 st : Qag e.1.2.1.length e.2.2.1 e.2.2.2.2.1
theorem O5 {α : Type} {p : α → Bool} {l : List α} : Le (fun _ x => p x) 0 l = true ↔ ∀ x ∈ l, p x = true := by
 rw [ID]
 constructor
 ·intro h x hx
  obtain ⟨i, hi, rfl⟩ := qu hx
  exact h i hi
 ·intro h j hj
  exact h _ (qs hj)
theorem Dab (e : Hb) : Lj e = true ↔ Pw e := by
 unfold Lj
 simp only [jd, decide_eq_true_eq, beq_iff_eq, O5]
 constructor
 ·rintro ⟨h1, h2, h3, h4, h5, h6, h7, h8⟩
  exact ⟨h1, h2, h3, h4, h5, ⟨h6.1, h6.2, h7, h8.1, h8.2⟩⟩
 ·rintro ⟨h1, h2, h3, h4, h5, h6⟩
  exact ⟨h1, h2, h3, h4, h5, ⟨h6.f0, h6.f1⟩, h6.f2, h6.o0, h6.o1⟩
theorem Y2 {e : Hb} (h : Pw e) : Ha Dc e ≤ Ea - 5 := by
 have h20 : Ea = 1048576 := rfl
 have h1 := (O9 h.km).z
 have hh := Lq h.hd
 have h2 : Ha (.sl (.sl Kc)) e.2.1 ≤ (8 + 1) * e.2.1.length := WY (e := .sl Kc) (c := 8) fun x hx => by
  have := h.mac x hx
  simp only [Cg, jd, decide_eq_true_eq] at this
  have e2 : Ha (.sl Kc) x = x.length := Hl (e := Kc) rfl x
  omega
 have := h.m4
 have hm := Nj h.km
 have h3 : Ha Bc e.1 ≤ 200 := by
  have h1 : Ha Bc e.1 = 0 + (Ha (.sl (.sl Wb)) e.1.2.1 + 0) := rfl
  have h2 : Ha (.sl (.sl Wb)) e.1.2.1 ≤ (32 + 1) * ja e.1.2.1 := WY (e := .sl Wb) (c := 32) fun x hx => by
   obtain ⟨i, hi, rfl⟩ := qu hx
   rw [Oaa]
   have := hm.row i hi
   have := hm.k2
   omega
  have := hm.l2
  omega
 rw [Ul, Gl]
 omega
noncomputable def F7 (e : Hb) (k : Nat) (b : Bool) : Cb :=
 cond b (UO (Jl e.1.2.1 (Oj e.1 (No e.2.2.1 e.2.2.2.1) k) k)) (BR (Jl e.1.2.1 (Oj e.1 (No e.2.2.1 e.2.2.2.1) k) k))
noncomputable def Fq (e : Hb) (k : Nat) (b : Bool) : Int × Int × Bool × Cb := NH e.2.2.1 e.2.2.2.2.1 e.2.2.2.2.2.1 (F7 e k b)
noncomputable def pH (e : Hb) (k : Nat) (b : Bool) : List Ra := jf e.2.2.2.1 [((k : Int), (Fq e k b).2.2.2, ())]
noncomputable def pE (e : Hb) (k : Nat) (b : Bool) : Hb := (e.1, e.2.1, (Fq e k b).1, pH e k b, (Fq e k b).2.1, (Fq e k b).2.2.1, ())
noncomputable def pM (e : Hb) (k : Nat) (b : Bool) : List Ka :=
 cond ((Fq e k b).2.2.2.1 == 9) (cond (decide ((Fq e k b).2.2.2.2.2.2.1 < ((ja e.2.1 : Nat) : Int))) (MW (Dd (pH e k b)) (e.2.1.getD (Fq e k b).2.2.2.2.2.2.1.toNat [])) []) []
noncomputable def pR (e : Hb) (k : Nat) (b : Bool) : List Ka := Xw Uk (Dd e.2.2.2.1) (jf (pM e k b) [Dd (pH e k b)])
theorem AaE {nl i : Nat} {a : Cb} (h : Wk nl i a = true) (h1 : a.1 ≠ 1) : K5 nl (UO a) := by
 have ha := K1 h
 have hP := ha
 rw [Lc] at hP
 unfold De at hP
 unfold UO Dg
 rw [ha]
 by_cases h67 : a.1 = 6 ∨ a.1 = 7
 ·have e : (true && ((a.1 == 6) || (a.1 == 7))) = true := by rcases h67 with h | h <;> rw [h] <;> rfl
  rw [e]
  have hn := K3 h (by omega)
  rcases h67 with h6 | h7
  ·rw [h6]
   refine ⟨?_, by show (2 : Int) ≠ 1; decide, by show (2 : Int) ≠ 6; decide, by show (2 : Int) ≠ 7; decide, fun _ => ?_⟩
   ·rw [Lc]
    exact .inr (.inl ⟨rfl, rfl, .inl rfl, .inr (by show 1 ≤ a.2.2.1 ∧ a.2.2.1 ≤ 15; omega), .inr (by show a.2.2.1 ≠ 0; omega)⟩)
   ·show (0 : Int) < (nl : Int)
    omega
  ·rw [h7]
   refine ⟨?_, by show (3 : Int) ≠ 1; decide, by show (3 : Int) ≠ 6; decide, by show (3 : Int) ≠ 7; decide, fun _ => hn⟩
   rw [Lc]
   exact .inr (.inr (.inl ⟨.inl rfl, rfl, rfl, by show 1 ≤ a.2.2.2.1; omega, by show a.2.2.2.1 ≤ 3; omega⟩))
 ·have e : (true && ((a.1 == 6) || (a.1 == 7))) = false := by
   rw [jk, Bool.or_eq_false_iff, beq_eq_false_iff_ne, beq_eq_false_iff_ne]; omega
  rw [e]
  exact ⟨ha, h1, fun h => h67 (.inl h), fun h => h67 (.inr h), fun hk => K3 h hk⟩
structure May (e : Hb) (k : Nat) (b : Bool) : Prop where
 act : K5 e.1.2.1.length (F7 e k b)
 ah : K5 e.1.2.1.length (Fq e k b).2.2.2
 hd : Qf (pH e k b) = true
 ok : Pw (pE e k b)
 ml : (pM e k b).length ≤ 16
 mx : ∀ x ∈ pM e k b, x.2.1.length ≤ 56
theorem Zab {e : Hb} (h : Pw e) {k : Nat} (hk : (k : Int) < e.1.1) (hn : ∀ y ∈ e.2.2.2.1, y.1 ≠ (k : Int)) (b : Bool) : May e k b := by
 have hm := Nj h.km
 have h1 := AaB hm (No e.2.2.1 e.2.2.2.1) hk
 have h2 : K5 e.1.2.1.length (F7 e k b) := by
  cases b
  ·exact WaQ h1.1 h1.2
  ·exact AaE h1.1 h1.2
 have h3 := XaU (c := e.2.2.2.2.2.1) hm.l2 h.st h2
 have h4 : Qf (pH e k b) = true := Taz h.hd (x := ((k : Int), (Fq e k b).2.2.2, ())) ⟨by show (0 : Int) ≤ (k : Int); omega, by have := hm.k2; show (k : Int) ≤ 31; omega, h3.2.act, h3.2.n1, h3.2.n6, h3.2.n7⟩ hn
 refine ⟨h2, h3.2, h4, ⟨h.km, h.m4, h4, h.mac, fun x hx => ?_, h3.1⟩, ?_, ?_⟩
 ·rcases jl.1 (show x ∈ e.2.2.2.1 ++ [((k : Int), (Fq e k b).2.2.2, ())] from hx) with hx | hx
  ·exact h.hin x hx
  ·simp only [jp, List.not_mem_nil, or_false] at hx
   subst hx
   simp only [Kq, jd, Bool.not_eq_true', Bool.and_eq_false_iff, decide_eq_false_iff_not]
   refine ⟨by show ¬ (k : Int) ≥ e.1.1; omega, ?_⟩
   by_cases h9 : (Fq e k b).2.2.2.1 = 9
   ·exact .inl (by show ((Fq e k b).2.2.2.1 != 9) = false; simp [h9])
   ·exact .inr (Int.not_le.2 (h3.2.n h9))
 all_goals
  unfold pM
  cases (Fq e k b).2.2.2.1 == 9 with
  | false => simp
  | true =>
   simp only [cond_true]
   by_cases hl : (Fq e k b).2.2.2.2.2.2.1 < ((ja e.2.1 : Nat) : Int)
   ·rw [Ba hl]
    have h0 := KO h3.2.act
    have hmem : (e.2.1.getD (Fq e k b).2.2.2.2.2.2.1.toNat []) ∈ e.2.1 := by
     have hlt : (Fq e k b).2.2.2.2.2.2.1.toNat < e.2.1.length := by
      have : (0 : Int) ≤ (Fq e k b).2.2.2.2.2.2.1 := h0
      omega
     rw [qj, je hlt, Option.getD_some]
     exact qs hlt
    have hmc := h.mac _ hmem
    simp only [Cg, jd, decide_eq_true_eq] at hmc
    have := Yai (Dd (pH e k b)) (e.2.1.getD (Fq e k b).2.2.2.2.2.2.1.toNat []) 0 ([], []) (by simp)
    simp only [cond_true]
    unfold MW
    first
     | exact this.2
     | (have h5 := this.1; simp only [j8] at h5; omega)
   ·rw [Aa hl]; simp
theorem Y9 {β : Type} (MR : List Ra → List Zc → Option ((List Ka) × Unit)) (RO : List Ra → Option (Ka × Unit)) (CH : Ka → List Ka → Option ((List Ka) × Unit)) (K : List Ka → Option β)
 (hMR : ∀ a l, a.length ≤ Ea → Qf a = true → Cg l = true → MR a l = some (MW (Dd a) l, ()))
 (hRO : ∀ l, l.length ≤ Ea → Qf l = true → RO l = some (Dd l, ()))
 (hCH : ∀ (a : Ka) (l : List Ka), l.length ≤ Ea → a.2.1.length ≤ Ea → (∀ x ∈ l, x.2.1.length ≤ Ea) → CH a l = some (Xw Uk a l, ()))
 {e : Hb} (h : Pw e) {k : Nat} {b : Bool} (F : May e k b) :
 (cond (jx (ja e.2.2.2.1 + ja ([((k : Int), (Fq e k b).2.2.2, ())] : List Ra)) Sa)
  (cond ((Fq e k b).2.2.2.1 == (9 : Int))
   (cond (decide ((Fq e k b).2.2.2.2.2.2.1 < ((ja e.2.1 : Nat) : Int)))
    (jz (Ya e.2.1 (Fq e k b).2.2.2.2.2.2.1) fun x8 => jz (MR (pH e k b) x8) fun r9 => jz (RO (pH e k b)) fun r10 =>
     cond (jx (ja r9.1 + ja ([r10.1] : List Ka)) Sa) (jz (RO e.2.2.2.1) fun r11 => jz (CH r11.1 (jf r9.1 ([r10.1] : List Ka))) fun r12 => K r12.1) none)
    (jz (RO (pH e k b)) fun r13 => cond (jx (ja ([] : List Ka) + ja ([r13.1] : List Ka)) Sa)
     (jz (RO e.2.2.2.1) fun r14 => jz (CH r14.1 (jf ([] : List Ka) ([r13.1] : List Ka))) fun r15 => K r15.1) none))
   (jz (RO (pH e k b)) fun r16 => cond (jx (ja ([] : List Ka) + ja ([r16.1] : List Ka)) Sa)
    (jz (RO e.2.2.2.1) fun r17 => jz (CH r17.1 (jf ([] : List Ka) ([r16.1] : List Ka))) fun r18 => K r18.1) none))
  none) = K (pR e k b) := by
 have h20 : Ea = 1048576 := rfl
 have hlim := Ud
 have hl1 := Lq h.hd
 have hl2 := Lq F.hd
 have R1 := hRO (pH e k b) (by omega) F.hd
 have R0 := hRO e.2.2.2.1 (by omega) h.hd
 have hr : ∀ r : Ka, jx (ja ([] : List Ka) + ja ([r] : List Ka)) Sa = true := fun r => ji (by simp only [jw, j8]; omega)
 rw [show jx (ja e.2.2.2.1 + ja ([((k : Int), (Fq e k b).2.2.2, ())] : List Ra)) Sa = true from ji (by simp only [jw, j8]; omega)]
 have plain : pM e k b = [] → (jz (RO (pH e k b)) fun r13 => cond (jx (ja ([] : List Ka) + ja ([r13.1] : List Ka)) Sa)
  (jz (RO e.2.2.2.1) fun r14 => jz (CH r14.1 (jf ([] : List Ka) ([r13.1] : List Ka))) fun r15 => K r15.1) none) = K (pR e k b) := by
  intro hm
  rw [R1, R0]
  simp only [jb]
  rw [hr, hCH _ _ (by simp; omega) (AV _) (fun x hx => by rw [qe.1 (show x ∈ [Dd (pH e k b)] from hx)]; exact AV _)]
  simp only [cond_true, jb]
  unfold pR
  rw [hm]
 simp only [cond_true]
 cases h9 : (Fq e k b).2.2.2.1 == (9 : Int) with
 | false => exact plain (by unfold pM; rw [h9]; rfl)
 | true =>
  simp only [cond_true]
  by_cases hl : (Fq e k b).2.2.2.2.2.2.1 < ((ja e.2.1 : Nat) : Int)
  ·rw [Ba hl]
   simp only [cond_true]
   have h0 : (0 : Int) ≤ (Fq e k b).2.2.2.2.2.2.1 := KO F.ah.act
   have hlt : (Fq e k b).2.2.2.2.2.2.1.toNat < e.2.1.length := by omega
   have hi : Ya e.2.1 (Fq e k b).2.2.2.2.2.2.1 = some e.2.1[(Fq e k b).2.2.2.2.2.2.1.toNat] := by
    have := Jb (xs := e.2.1) hlt
    rw [Int.toNat_of_nonneg h0] at this
    exact this
   have hM : pM e k b = MW (Dd (pH e k b)) e.2.1[(Fq e k b).2.2.2.2.2.2.1.toNat] := by
    unfold pM
    rw [h9, Ba hl, qj, je hlt, Option.getD_some]
    rfl
   have ml := F.ml
   have mx := F.mx
   rw [hi]
   simp only [jb]
   rw [hMR _ _ (by omega) F.hd (h.mac _ (qs hlt)), R1, R0, ← hM]
   simp only [jb]
   rw [show jx (ja (pM e k b) + ja ([Dd (pH e k b)] : List Ka)) Sa = true from ji (by simp only [jw, j8]; omega)]
   simp only [cond_true]
   rw [hCH _ _ (by show (pM e k b ++ [Dd (pH e k b)]).length ≤ _; simp; omega) (AV _) (fun x hx => by
    rcases jl.1 (show x ∈ pM e k b ++ [Dd (pH e k b)] from hx) with hx | hx
    ·have := mx x hx; omega
    ·rw [qe.1 hx]; exact AV _)]
   rfl
  ·rw [Aa hl]
   exact plain (by unfold pM; rw [h9, Aa hl]; rfl)
theorem Oab {e : Hb} (h : Pw e) {k : Nat} (hk : (k : Int) < e.1.1) (hn : ∀ y ∈ e.2.2.2.1, y.1 ≠ (k : Int)) (b : Bool) :
 Hi e (k : Int) b = some (pE e k b, pR e k b, ()) := by
 have h20 : Ea = 1048576 := rfl
 have hm := Nj h.km
 have F := Zab h hk hn b
 have hz := Y2 h
 have hle := Lq h.hd
 have hl := VU hm (No e.2.2.1 e.2.2.2.1) k
 have hrow := hm.row _ hl
 have tail := Y9 Hk Me Ff (fun r => some (pE e k b, r, ())) GY Kx MU h F
 unfold Hi
 rw [UD _ (by omega), EW (Kaw hm.l2 h.st) _ (by omega) h.hd]
 simp only [jb]
 rw [TU hm _ hk]
 simp only [jb]
 show jz (Ya e.1.2.1 ((Oj e.1 (No e.2.2.1 e.2.2.2.1) k : Nat) : Int)) _ = _
 rw [Zah hl (by omega)]
 cases b with
 | true =>
  simp only [cond_true]
  rw [Kab]
  simp only [jb]
  show jz (At (e.1, e.2.1, e.2.2.1, e.2.2.2.1, e.2.2.2.2.1, e.2.2.2.2.2.1, ()) (F7 e k true)) _ = _
  rw [IW _ _ _ _ _ _ _ F.act.act]
  simp only [jb]
  exact tail
 | false =>
  simp only [cond_false]
  rw [Eae]
  simp only [jb]
  show jz (At (e.1, e.2.1, e.2.2.1, e.2.2.2.1, e.2.2.2.2.1, e.2.2.2.2.2.1, ()) (F7 e k false)) _ = _
  rw [IW _ _ _ _ _ _ _ F.act.act]
  simp only [jb]
  exact tail
theorem X8 {l : List Ra} {k : Int} : Qd (fun h : Ra => h.1 == k) 0 l = -1 ↔ ∀ y ∈ l, y.1 ≠ k := by
 have key : ∀ (l : List Ra) (n : Nat), Qd (fun h : Ra => h.1 == k) n l = -1 ↔ ∀ y ∈ l, y.1 ≠ k := by
  intro l
  induction l with
  | nil => intro n; simp [Qd]
  | cons x l ih =>
   intro n
   simp only [Qd]
   cases hx : x.1 == k with
   | true =>
    simp only [cond_true, jp, forall_eq_or_imp]
    have hx := eq_of_beq hx
    constructor
    ·intro h; omega
    ·intro h; exact absurd hx h.1
   | false =>
    simp only [cond_false, jp, forall_eq_or_imp]
    rw [ih]
    exact ⟨fun h => ⟨beq_eq_false_iff_ne.1 hx, h⟩, fun h => h.2⟩
 exact key l 0
theorem Mac {e : Hb} (h : Pw e) {k : Nat} (hk : (k : Int) < e.1.1) (hn : ∀ y ∈ e.2.2.2.1, y.1 ≠ (k : Int)) (b : Bool) :
 Rl e (k : Int) b = some (pE e k b, pR e k b, true, ()) := by
 have h20 : Ea = 1048576 := rfl
 have hm := Nj h.km
 have hk2 := hm.k2
 have F := Zab h hk hn b
 have hz := Y2 h
 have hle := Lq h.hd
 have hv := (Dab e).2 h
 have tail := Y9 Ik We Ah (fun r => some (pE e k b, r, true, ())) TY My DV h F
 unfold Rl
 rw [WK _ (by omega), hv, UW _ _ (by omega), X8.2 hn, KP _ (by omega), VW (Kaw hm.l2 h.st) _ (by omega) h.hd]
 simp only [jb, jg, cond_false, Mc]
 rw [Ie (by omega) (by omega), Ba (show 0 ≤ (k : Int) ∧ (k : Int) ≤ e.1.1 - 1 by omega), Aa (show ¬ ((-1 : Int) ≥ 0) by decide)]
 simp only [jg, cond_false]
 rw [UT (by have := (O9 h.km).z; omega) h.km _ hk]
 simp only [jb]
 cases b with
 | true =>
  simp only [cond_true]
  rw [Fac]
  simp only [jb]
  show jz (Zm (e.1, e.2.1, e.2.2.1, e.2.2.2.1, e.2.2.2.2.1, e.2.2.2.2.2.1, ()) (F7 e k true)) _ = _
  rw [XW _ _ _ _ _ _ _ F.act.act]
  simp only [jb]
  exact tail
 | false =>
  simp only [cond_false]
  rw [Sae]
  simp only [jb]
  show jz (Zm (e.1, e.2.1, e.2.2.1, e.2.2.2.1, e.2.2.2.2.1, e.2.2.2.2.2.1, ()) (F7 e k false)) _ = _
  rw [XW _ _ _ _ _ _ _ F.act.act]
  simp only [jb]
  exact tail
def wo (l : List Ra) (i : Nat) : List Ra := jf (l.take i) (l.drop (i + 1))
theorem Raa (l : List Ra) (i : Nat) : (wo l i).Sublist l := by
 have h : (l.drop (i + 1)).Sublist (l.drop i) := List.drop_sublist_drop_left l (Nat.le_succ i)
 have h2 := List.Sublist.append (List.Sublist.refl (l.take i)) h
 rw [List.take_append_drop] at h2
 exact h2
def rE (e : Hb) (i : Nat) : Hb := (e.1, e.2.1, e.2.2.1, wo e.2.2.2.1 i, e.2.2.2.2)
def rR (e : Hb) (i : Nat) : List Ka := Xw Uk (Dd e.2.2.2.1) [Dd (wo e.2.2.2.1 i)]
theorem Ta6 {e : Hb} (h : Pw e) (i : Nat) : Pw (rE e i) :=
 ⟨h.km, h.m4, J6 h.hd (Raa _ i), h.mac, fun x hx => h.hin x ((Raa _ i).subset hx), h.st⟩
theorem Iaz {α : Type} (l : List α) (i : Nat) : Eb l (jy (0 : Int)) (jy (i : Int)) = l.take i := by
 simp [Eb]
theorem Haz {α : Type} (l : List α) (i : Nat) : Eb l (jy ((i + 1 : Nat) : Int)) (jy ((ja l : Nat) : Int)) = l.drop (i + 1) := by
 simp [Eb]
theorem Q6 {e : Hb} (h : Pw e) {k : Int} {i : Nat} (hi : i < e.2.2.2.1.length) (hf : Qd (fun h : Ra => h.1 == k) 0 e.2.2.2.1 = (i : Int)) :
 AE e k = some (rE e i, rR e i, ()) := by
 have h20 : Ea = 1048576 := rfl
 have hlim := Ud
 have hz := Y2 h
 have hle := Lq h.hd
 have hw := J6 h.hd (Raa e.2.2.2.1 i)
 have hwl := Lq hw
 unfold AE
 rw [UD _ (by omega), Jab _ _ (by omega), hf]
 simp only [jb]
 rw [Jc (by omega)]
 rw [Iaz, Haz]
 rw [show Ld (ja e.2.2.2.1) (0 : Int) ((i : Nat) : Int) = true from Zh (lo := 0) (by omega) (by omega), Zh (by omega) (by omega)]
 rw [show jx (ja (e.2.2.2.1.take i) + ja (e.2.2.2.1.drop (i + 1))) Sa = true from ji (by simp; omega)]
 simp only [cond_true]
 rw [Kx _ (by omega) h.hd]
 simp only [jb]
 show jz (Me (wo e.2.2.2.1 i)) _ = _
 rw [Kx _ (by omega) hw]
 simp only [jb]
 rw [MU _ _ (by simp; omega) (AV _) (fun x hx => by rw [qe.1 hx]; exact AV _)]
 rfl
theorem S7 {e : Hb} (h : Pw e) {k : Int} {i : Nat} (hi : i < e.2.2.2.1.length) (hf : Qd (fun h : Ra => h.1 == k) 0 e.2.2.2.1 = (i : Int)) :
 UE e k = some (rE e i, rR e i, true, ()) := by
 have h20 : Ea = 1048576 := rfl
 have hlim := Ud
 have hz := Y2 h
 have hle := Lq h.hd
 have hw := J6 h.hd (Raa e.2.2.2.1 i)
 have hwl := Lq hw
 have hv := (Dab e).2 h
 have hW : Ng e.2.2.2.1 (i : Int) = some (wo e.2.2.2.1 i, ()) := by
  unfold Ng
  rw [Jc (by omega), Iaz, Haz]
  rw [show Ld (ja e.2.2.2.1) (0 : Int) ((i : Nat) : Int) = true from Zh (lo := 0) (by omega) (by omega), Zh (by omega) (by omega)]
  rw [show jx (ja ([] : List Ra) + ja (e.2.2.2.1.take i)) Sa = true from ji (by simp; omega)]
  rw [show jx (ja (jf ([] : List Ra) (e.2.2.2.1.take i)) + ja (e.2.2.2.1.drop (i + 1))) Sa = true from ji (by simp; omega)]
  rfl
 unfold UE
 rw [UW _ _ (by omega), WK _ (by omega), hv, KP _ (by omega), hf]
 simp only [jb, jg, cond_false]
 rw [Aa (show ¬ ((i : Int) < 0) by omega), hW]
 simp only [cond_false, jb]
 rw [My _ (by omega) h.hd]
 simp only [jb]
 rw [My _ (by omega) hw]
 simp only [jb]
 rw [DV _ _ (by simp; omega) (AV _) (fun x hx => by rw [qe.1 hx]; exact AV _)]
 rfl
def G4 (md key e : Int) (s : Int) (x : Ca) : Int ⊕ (Int × Int) :=
 cond (Sh x) (cond (decide (x.1 ≥ e)) (.inr (2, e)) (cond (x.2.1 == key) (cond x.2.2.1 (.inl s) (.inr (1, x.1)))
  (cond x.2.2.1 (cond (md == 1) (.inr (2, x.1)) (.inl (Nc .i64 s (Qa .i64 1 x.2.1))))
   (cond (md == 2) (cond (Kd s x.2.1 == 1) (.inr (2, x.1)) (.inl s)) (.inl s))))) (.inr (0, 0))
def chR (md key e : Int) (l : List Ca) : Int ⊕ (Int × Int) := Xc (fun _ s x => G4 md key e s x) 0 0 l
def Bm (t : JO) (key at_ : Int) (l : List Ca) (til : Int) : Wa :=
 cond (Wl t && decide (0 ≤ at_ ∧ at_ ≤ 1000000)) (match chR t.2.2.1 key (j5 .i64 (at_ + t.1)) l with
  | .inl _ => cond (decide (til ≥ j5 .i64 (at_ + t.1))) (2, j5 .i64 (at_ + t.1), ()) (0, 0, ())
  | .inr r => (r.1, r.2, ())) (0, 0, ())
theorem L6 (t : JO) (key at_ : Int) (l : List Ca) (til : Int) (hn : l.length ≤ Ea) : Dz t key at_ l til = some (Bm t key at_ l til) := by
 have h20 : Ea = 1048576 := rfl
 have hl := Dh (step := fun x => Rt x.1.1 x.1.2.1 x.1.2.2.1 x.1.2.2.2.1 x.1.2.2.2.2.1 x.1.2.2.2.2.2.1 x.1.2.2.2.2.2.2.1 x.1.2.2.2.2.2.2.2.1 x.2.1) l
  (fun _ s x => G4 t.2.2.1 key (j5 .i64 (at_ + t.1)) s x) (fun s i => ((key, at_, til, (), s, l, ((ja l : Nat) : Int), i, ()), (t, ())))
  (fun s => .inl ((at_, til, (), ()), (t, ()))) (fun r => .inr ((r.1, r.2, ()), ())) (fun _ _ => True) (by
   intro k hk s _
   refine ⟨?_, fun _ _ => trivial⟩
   simp only [Rt]
   rw [Ba (show (k : Int) < ((ja l : Nat) : Int) by omega), Jb hk]
   simp only [cond_true, jb]
   rw [JM]
   unfold G4
   cases he : Sh l[k] with
   | false => rfl
   | true =>
    have hk' := Kk he
    rw [Ba hk'.2.2.1, Ml s hk'.2.2.1]
    simp only [cond_true, jb, jg, cond_false]
    cases decide (l[k].1 ≥ j5 .i64 (at_ + t.1)) <;> cases l[k].2.1 == key <;> cases l[k].2.2.1 <;> cases t.2.2.1 == 1 <;> cases t.2.2.1 == 2 <;> cases Kd s l[k].2.1 == 1 <;> rfl) (by
   intro s _
   simp only [Rt]
   rw [Aa (by omega)]; rfl) (by omega) 0 trivial
 unfold Dz Cx Bm
 rw [TR]
 simp only [jb]
 cases Wl t with
 | false => rfl
 | true =>
  by_cases h1 : at_ < 0
  ·rw [Ba h1, Aa (show ¬ (0 ≤ at_ ∧ at_ ≤ 1000000) by omega)]; rfl
  ·by_cases h2 : at_ > 1000000
   ·rw [Aa h1, Ba h2, Aa (show ¬ (0 ≤ at_ ∧ at_ ≤ 1000000) by omega)]; rfl
   ·rw [Aa h1, Aa h2, Ba (show (0 ≤ at_ ∧ at_ ≤ 1000000) by omega)]
    simp only [jg, cond_false]
    erw [hl]
    unfold chR
    cases Xc (fun _ s x => G4 t.2.2.1 key (j5 .i64 (at_ + t.1)) s x) 0 0 l with
    | inl s =>
     simp only [jb, ql]
     cases decide (til ≥ j5 .i64 (at_ + t.1)) <;> rfl
    | inr r => rfl
theorem N7 (t : JO) (key at_ : Int) (l : List Ca) (til : Int) (hn : l.length ≤ Ea) : CK t key at_ l til = some (Bm t key at_ l til) := by
 have h20 : Ea = 1048576 := rfl
 have hl := Dh (step := fun x => Mu x.1.1 x.1.2.1 x.1.2.2.1 x.1.2.2.2.1 x.1.2.2.2.2.1 x.1.2.2.2.2.2.1 x.1.2.2.2.2.2.2.1 x.2.1) l
  (fun _ s x => G4 t.2.2.1 key (j5 .i64 (at_ + t.1)) s x) (fun s i => ((key, l, til, (), j5 .i64 (at_ + t.1), s, i, ()), (t, ())))
  (fun s => .inl ((til, j5 .i64 (at_ + t.1), ()), ())) (fun r => .inr ((r.1, r.2, ()), ())) (fun _ _ => True) (by
   intro k hk s _
   refine ⟨?_, fun _ _ => trivial⟩
   simp only [Mu]
   rw [Ba (show (k : Int) < ((ja l : Nat) : Int) by omega), Jb hk]
   simp only [cond_true, jb]
   rw [PN]
   unfold G4
   cases he : Sh l[k] with
   | false => rfl
   | true =>
    have hk' := Kk he
    rw [Ba hk'.2.2.1]
    simp only [cond_true, jb, jg, cond_false]
    unfold Kd
    cases decide (l[k].1 ≥ j5 .i64 (at_ + t.1)) <;> cases l[k].2.1 == key <;> cases l[k].2.2.1 <;> cases t.2.2.1 == 1 <;> cases t.2.2.1 == 2 <;> cases Va .i64 (Vb .i64 s l[k].2.1) 1 == 1 <;> rfl) (by
   intro s _
   simp only [Mu]
   rw [Aa (by omega)]; rfl) (by omega) 0 trivial
 unfold CK Ey Bm
 rw [WR, Mc]
 simp only [jb]
 cases Wl t with
 | false => rfl
 | true =>
  cases decide (0 ≤ at_ ∧ at_ ≤ 1000000) with
  | false => rfl
  | true =>
   simp only [jg, cond_false]
   erw [hl]
   unfold chR
   cases Xc (fun _ s x => G4 t.2.2.1 key (j5 .i64 (at_ + t.1)) s x) 0 0 l with
   | inl s =>
    simp only [jb, ql]
    cases decide (til ≥ j5 .i64 (at_ + t.1)) <;> rfl
   | inr r => rfl
def KK (l : List Ra) (j : Nat) : Bool := l.any (fun h => h.1 == (j : Int))
structure PS (l : List Ra) (m : Nat) : Prop where
 lt : m < 2 ^ 63
 bit : ∀ j, m.testBit j = KK l j
theorem Saq : ∀ (l : List Ra) (k : Nat) (s : Nat), s < 2 ^ 63 → (∀ x ∈ l, Zu x) →
 ∃ m : Nat, Pd (fun _ s (x : Ra) => Nc .i64 s (Qa .i64 1 x.1)) k (s : Int) l = (m : Int) ∧ m < 2 ^ 63 ∧ ∀ j, m.testBit j = (s.testBit j || KK l j)
 | [], _, s, hs, _ => ⟨s, rfl, hs, fun j => by simp [KK]⟩
 | x :: l, k, s, hs, h => by
  have hx := h x (by simp)
  obtain ⟨n, hn⟩ := jv hx.lo
  have := hx.hi
  simp only [Pd]
  rw [hn, Cl (by omega), Sv hs (Aj (by omega))]
  obtain ⟨m, h1, h2, h3⟩ := Saq l (k + 1) _ (Nat.or_lt_two_pow hs (Aj (show n ≤ 62 by omega))) (fun y hy => h y (by simp [hy]))
  refine ⟨m, h1, h2, fun j => ?_⟩
  rw [h3, Nat.testBit_or, qp]
  simp only [KK, List.any_cons, hn]
  rw [show (((n : Nat) : Int) == ((j : Nat) : Int)) = decide (n = j) by rw [qy]; simp [Int.ofNat_inj]]
  rw [Bool.or_assoc]
theorem FaQ {l : List Ra} (h : Qf l = true) : ∃ m : Nat, Ju l = (m : Int) ∧ PS l m := by
 obtain ⟨m, h1, h2, h3⟩ := Saq l 0 0 (by decide) (Ho h)
 exact ⟨m, h1, h2, fun j => by rw [h3]; simp⟩
theorem Bax {l : List Ra} {m k : Nat} (h : PS l m) (hk : k ≤ 62) (hb : KK l k = false) (a : Cb) : PS (jf l [((k : Int), a, ())]) (m ^^^ 2 ^ k) := by
 refine ⟨qr h.lt (Aj hk), fun j => ?_⟩
 rw [qo, qp, h.bit]
 show _ = KK (l ++ [((k : Int), a, ())]) j
 simp only [KK, List.any_append, List.any_cons, List.any_nil, Bool.or_false]
 rw [show (((k : Nat) : Int) == ((j : Nat) : Int)) = decide (k = j) by rw [qy]; simp [Int.ofNat_inj]]
 by_cases hj : k = j
 ·subst hj
  simp only [KK] at hb
  rw [hb, Ba rfl]; rfl
 ·rw [Aa hj]; simp
theorem GaV {l : List Ra} (hp : l.Pairwise (fun x y => x.1 ≠ y.1)) {i : Nat} (hi : i < l.length) (j : Int) : (wo l i).any (fun h => h.1 == j) = (l.any (fun h => h.1 == j) && !(l[i].1 == j)) := by
 rw [qy]
 simp only [List.any_eq_true, jd, Bool.not_eq_true', beq_iff_eq, beq_eq_false_iff_ne, wo]
 rw [List.pairwise_iff_getElem] at hp
 constructor
 ·rintro ⟨x, hx, hj⟩
  rcases jl.1 (show x ∈ l.take i ++ l.drop (i + 1) from hx) with hx | hx
  ·obtain ⟨n, hn, rfl⟩ := qu hx
   rw [List.getElem_take] at hj
   have hn2 : n < i ∧ n < l.length := by rw [List.length_take] at hn; omega
   exact ⟨⟨_, qs hn2.2, hj⟩, fun h => hp n i hn2.2 hi hn2.1 (hj.trans h.symm)⟩
  ·obtain ⟨n, hn, rfl⟩ := qu hx
   rw [List.getElem_drop] at hj
   have hn2 : i + 1 + n < l.length := by rw [qx] at hn; omega
   exact ⟨⟨_, qs hn2, hj⟩, fun h => hp i (i + 1 + n) hi hn2 (by omega) (h.trans hj.symm)⟩
 ·rintro ⟨⟨x, hx, hj⟩, hne⟩
  obtain ⟨n, hn, rfl⟩ := qu hx
  refine ⟨l[n], jl.2 ?_, hj⟩
  rcases Nat.lt_trichotomy n i with h | h | h
  ·exact .inl (List.mem_take_iff_getElem.2 ⟨n, by omega, rfl⟩)
  ·subst h; exact absurd hj hne
  ·exact .inr (List.mem_drop_iff_getElem.2 ⟨n - (i + 1), by omega, by congr 1; omega⟩)
theorem Daj {l : List Ra} (hp : l.Pairwise (fun x y => x.1 ≠ y.1)) {m k i : Nat} (h : PS l m) (hk : k ≤ 62) (hi : i < l.length) (hb : l[i].1 = (k : Int)) : PS (wo l i) (m ^^^ 2 ^ k) := by
 refine ⟨qr h.lt (Aj hk), fun j => ?_⟩
 rw [qo, qp, h.bit]
 simp only [KK]
 rw [GaV hp hi, hb]
 rw [show (((k : Nat) : Int) == ((j : Nat) : Int)) = decide (k = j) by rw [qy]; simp [Int.ofNat_inj]]
 by_cases hj : k = j
 ·subst hj
  rw [Ba rfl]
  have : l.any (fun h => h.1 == (k : Int)) = true := List.any_eq_true.2 ⟨l[i], qs hi, by rw [hb]; simp⟩
  rw [this]; rfl
 ·rw [Aa hj]; simp
theorem O4 {α S R : Type} (g : S → α → S ⊕ R) : ∀ (l : List α) (k j : Nat) (s : S), Xc (fun _ s x => g s x) k s l = Xc (fun _ s x => g s x) j s l
 | [], _, _, _ => rfl
 | x :: l, k, j, s => by
  simp only [Xc]
  cases g s x with
  | inl s' => exact O4 g l (k + 1) (j + 1) s'
  | inr r => rfl
structure QS (d : Gb) : Prop where
 eng : Pw d.1
 len : d.2.2.1.length ≤ 64
 key : ∀ x ∈ d.2.2.1, x.2.1 < d.1.1.1
 fol : ∃ (m : Nat) (t : Int), PS d.1.2.2.2.1 m ∧ Cn (Xc (fun _ s x => Ev s x) 0 (t, (m : Int)) d.2.2.1) = true
def hIx (e : Hb) (k : Int) : Nat := (Qd (fun h : Ra => h.1 == k) 0 e.2.2.2.1).toNat
noncomputable def Dn (d : Gb) (x : Ca) (r : List Ca) : Option (Gb × List Ka) :=
 cond (!x.2.2.1)
  (some ((rE d.1 (hIx d.1 x.2.1), d.2.1, r, d.2.2.2.1, max d.2.2.2.2.1 x.1, d.2.2.2.2.2.1, cond (d.2.2.2.2.2.1 == j5 .i64 (x.2.1 + 1)) x.1 d.2.2.2.2.2.2.1, ()), rR d.1 (hIx d.1 x.2.1)))
  (cond (Dg (Jl d.1.1.2.1 (Oj d.1.1 (No d.1.2.2.1 d.1.2.2.2.1) x.2.1.toNat) x.2.1.toNat))
   (
    let ch : Int × Int := cond ((d.2.2.2.2.2.1 == j5 .i64 (x.2.1 + 1)) && !decide (j5 .i64 (x.1 - d.2.2.2.2.2.2.1) ≥ d.2.1.2.1)) (1, x.1) ((Bm d.2.1 x.2.1 x.1 r d.2.2.2.1).1, (Bm d.2.1 x.2.1 x.1 r d.2.2.2.1).2.1)
    cond (ch.1 == 0) none
     (some ((pE d.1 x.2.1.toNat (ch.1 == 2), d.2.1, r, d.2.2.2.1, max (max d.2.2.2.2.1 x.1) ch.2, cond (ch.1 == 2) 0 (j5 .i64 (x.2.1 + 1)), cond (ch.1 == 2) d.2.2.2.2.2.2.1 x.1, ()), pR d.1 x.2.1.toNat (ch.1 == 2))))
   (some ((pE d.1 x.2.1.toNat false, d.2.1, r, d.2.2.2.1, max d.2.2.2.2.1 x.1, d.2.2.2.2.2.1, d.2.2.2.2.2.2.1, ()), pR d.1 x.2.1.toNat false)))
structure BaL (d : Gb) (x : Ca) (r : List Ca) : Prop where
 ev : Sh x = true
 key : x.2.1 < d.1.1.1
 up : x.2.2.1 = false → ∃ hi : hIx d.1 x.2.1 < d.1.2.2.2.1.length, Qd (fun h : Ra => h.1 == x.2.1) 0 d.1.2.2.2.1 = ((hIx d.1 x.2.1 : Nat) : Int) ∧ (d.1.2.2.2.1[hIx d.1 x.2.1]'hi).1 = x.2.1
 down : x.2.2.1 = true → ∀ y ∈ d.1.2.2.2.1, y.1 ≠ x.2.1
theorem Dad {α : Type} (p : α → Bool) : ∀ (xs : List α) (k j : Nat), j < xs.length → Qd p k xs = ((k + j : Nat) : Int) → ∃ h : j < xs.length, p xs[j] = true
 | [], _, _, hj, _ => absurd hj (by simp)
 | x :: xs, k, j, hj, h => by
  simp only [Qd] at h
  cases hx : p x with
  | true =>
   rw [hx] at h
   simp only [cond_true] at h
   have : j = 0 := by omega
   subst this
   exact ⟨hj, hx⟩
  | false =>
   rw [hx] at h
   simp only [cond_false] at h
   cases j with
   | zero =>
    rcases Lw p xs (k + 1) with h1 | ⟨i, _, h1⟩ <;> (rw [h1] at h; omega)
   | succ j =>
    have hj' : j < xs.length := by simp at hj; omega
    obtain ⟨_, h2⟩ := Dad p xs (k + 1) j hj' (by rw [h]; omega)
    exact ⟨hj, h2⟩
theorem AY {d : Gb} {x : Ca} {r : List Ca} (h : QS d) (hq : d.2.2.1 = x :: r) : BaL d x r := by
 obtain ⟨m, t, hm, hf⟩ := h.fol
 rw [hq] at hf
 simp only [Xc, Ev] at hf
 cases ho : Fv (t, (m : Int)) x with
 | false => rw [ho] at hf; exact absurd hf (by simp [Cn])
 | true =>
  simp only [Fv, jd] at ho
  obtain ⟨h1, h2, h3⟩ := ho
  have hk := Kk h1
  obtain ⟨n, hn⟩ := jv hk.2.2.1
  have hn' : x.2.1 = (n : Int) := hn
  rw [hn', Ts hm.lt (by omega), hm.bit] at h3
  refine ⟨h1, h.key x (by rw [hq]; simp), fun hu => ?_, fun hd => ?_⟩
  ·rw [hu] at h3
   have h4 : KK d.1.2.2.2.1 n = true := by
    cases hh : KK d.1.2.2.2.1 n with
    | true => rfl
    | false => rw [hh] at h3; exact absurd h3 (by decide)
   rcases Lw (fun h : Ra => h.1 == x.2.1) d.1.2.2.2.1 0 with h5 | ⟨j, hj, h5⟩
   ·rw [X8] at h5
    simp only [KK, List.any_eq_true, beq_iff_eq] at h4
    obtain ⟨y, hy, hyk⟩ := h4
    exact absurd (hyk.trans hn'.symm) (h5 y hy)
   ·have e : hIx d.1 x.2.1 = j := by unfold hIx; rw [h5]; omega
    obtain ⟨h6, h7⟩ := Dad _ _ _ _ hj h5
    have h7' := eq_of_beq h7
    refine ⟨by omega, by rw [h5, e]; omega, ?_⟩
    simp only [e]
    exact h7'
  ·rw [hd] at h3
   intro y hy he
   have : KK d.1.2.2.2.1 n = true := List.any_eq_true.2 ⟨y, hy, by rw [he, hn']; simp⟩
   rw [this] at h3
   exact absurd h3 (by decide)
theorem Aac {d d' : Gb} {x : Ca} {r : List Ca} {l : List Ka} (h : QS d) (hq : d.2.2.1 = x :: r) (hs : Dn d x r = some (d', l)) :
 QS d' ∧ d'.2.2.1 = r ∧ l.length ≤ 17 ∧ (∀ y ∈ l, y.2.1.length ≤ 56) := by
 have hF := AY h hq
 have hk := Kk hF.ev
 obtain ⟨n, hn⟩ := jv hk.2.2.1
 have hn' : x.2.1 = (n : Int) := hn
 obtain ⟨m, t, hm, hf⟩ := h.fol
 have hfol : Cn (Xc (fun _ s x => Ev s x) 0 (x.1, ((m ^^^ 2 ^ n : Nat) : Int)) r) = true := by
  rw [hq] at hf
  simp only [Xc, Ev] at hf
  cases ho : Fv (t, (m : Int)) x with
  | false => rw [ho] at hf; exact absurd hf (by simp [Cn])
  | true =>
   rw [ho] at hf
   simp only [cond_true, hn', Cl (show n ≤ 62 by omega)] at hf
   rw [PK hm.lt (Aj (by omega))] at hf
   rw [O4 Ev r 0 1]
   exact hf
 have hlen : r.length ≤ 64 := by have := h.len; rw [hq] at this; simp at this; omega
 have hkey : ∀ y ∈ r, y.2.1 < d.1.1.1 := fun y hy => h.key y (by rw [hq]; simp [hy])
 have hp := ((EY d.1.2.2.2.1).1 h.eng.hd).2
 have press : ∀ b : Bool, x.2.2.1 = true → Pw (pE d.1 n b) ∧ PS (pE d.1 n b).2.2.2.1 (m ^^^ 2 ^ n) ∧ (pR d.1 n b).length ≤ 17 ∧ (∀ y ∈ pR d.1 n b, y.2.1.length ≤ 56) := by
  intro b hd
  have hn2 := hF.down hd
  rw [hn'] at hn2
  have F := Zab h.eng (k := n) (by have := hF.key; omega) hn2 b
  refine ⟨F.ok, Bax hm (by omega) ?_ _, ?_, fun y hy => ?_⟩
  ·cases hh : KK d.1.2.2.2.1 n with
   | false => rfl
   | true =>
    simp only [KK, List.any_eq_true, beq_iff_eq] at hh
    obtain ⟨y, hy, hyk⟩ := hh
    exact absurd hyk (hn2 y hy)
  ·have := X5 (jf (pM d.1 n b) [Dd (pH d.1 n b)]) (Dd d.1.2.2.2.1)
   have h9 := F.ml
   unfold pR
   have : (jf (pM d.1 n b) [Dd (pH d.1 n b)]).length = (pM d.1 n b).length + 1 := by simp
   omega
  ·have := SX _ _ _ hy
   rcases jl.1 (show y ∈ pM d.1 n b ++ [Dd (pH d.1 n b)] from this) with h1 | h1
   ·exact F.mx y h1
   ·rw [qe.1 h1]; exact ON _
 unfold Dn at hs
 cases hd : x.2.2.1 with
 | false =>
  rw [hd] at hs
  simp only [qa, cond_true, jc, jh] at hs
  obtain ⟨rfl, rfl⟩ := hs
  obtain ⟨hi, hi1, hi2⟩ := hF.up hd
  refine ⟨⟨Ta6 h.eng _, hlen, hkey, _, _, Daj hp hm (by omega) hi (by rw [hi2, hn']), hfol⟩, rfl, ?_, fun y hy => ?_⟩
  ·have := X5 [Dd (wo d.1.2.2.2.1 (hIx d.1 x.2.1))] (Dd d.1.2.2.2.1)
   unfold rR
   simp only [jw, j8] at this
   omega
  ·have := SX _ _ _ hy
   rw [qe.1 this]; exact ON _
 | true =>
  rw [hd] at hs
  simp only [jg, cond_false, hn', jn] at hs
  cases ht : Dg (Jl d.1.1.2.1 (Oj d.1.1 (No d.1.2.2.1 d.1.2.2.2.1) n) n) with
  | false =>
   rw [ht] at hs
   simp only [cond_false, jc, jh] at hs
   obtain ⟨rfl, rfl⟩ := hs
   have P := press false hd
   exact ⟨⟨P.1, hlen, hkey, _, _, P.2.1, hfol⟩, rfl, P.2.2⟩
  | true =>
   rw [ht] at hs
   simp only [cond_true] at hs
   revert hs
   generalize (cond ((d.2.2.2.2.2.1 == j5 .i64 ((n : Int) + 1)) && !decide (j5 .i64 (x.1 - d.2.2.2.2.2.2.1) ≥ d.2.1.2.1)) ((1 : Int), x.1) ((Bm d.2.1 (n : Int) x.1 r d.2.2.2.1).1, (Bm d.2.1 (n : Int) x.1 r d.2.2.2.1).2.1)) = ch
   intro hs
   cases h0 : ch.1 == 0 with
   | true => rw [h0] at hs; simp at hs
   | false =>
    rw [h0] at hs
    simp only [cond_false, jc, jh] at hs
    obtain ⟨rfl, rfl⟩ := hs
    have P := press (ch.1 == 2) hd
    exact ⟨⟨P.1, hlen, hkey, _, _, P.2.1, hfol⟩, rfl, P.2.2⟩
theorem K6 {m : Xb} (hz : Ha Bc m ≤ Ea) (hv : Bi m = true) (on : Int) {k : Nat} (hk : (k : Int) < m.1) :
 AJ m on (k : Int) = some (Jl m.2.1 (Oj m on k) k, ()) := by
 have hm := Nj hv
 have hl := VU hm on k
 have hrow := hm.row _ hl
 unfold AJ FT
 rw [ET _ hz, hv, Aa (show ¬ (k : Int) < 0 by omega), Aa (show ¬ (k : Int) ≥ m.1 by omega), TU hm _ hk]
 simp only [jb, jg, cond_false]
 rw [Aa (by omega)]
 simp only [cond_false]
 show (jz (Ya m.2.1 ((Oj m on k : Nat) : Int)) _) = _
 rw [Zah hl (by omega)]
theorem P8 (t : JO) (key at_ : Int) (l : List Ca) (til : Int) : (Bm t key at_ l til).1 = 0 ∨ (Bm t key at_ l til).1 = 1 ∨ (Bm t key at_ l til).1 = 2 := by
 have key2 : ∀ (md k' e : Int) (l : List Ca) (k : Nat) (s : Int) (r : Int × Int), Xc (fun _ s x => G4 md k' e s x) k s l = .inr r → r.1 = 0 ∨ r.1 = 1 ∨ r.1 = 2 := by
  intro md k' e l
  induction l with
  | nil => intro k s r h; simp [Xc] at h
  | cons x l ih =>
   intro k s r h
   simp only [Xc] at h
   revert h
   cases hg : G4 md k' e s x with
   | inl s' => intro h; exact ih _ _ _ h
   | inr r' =>
    intro h
    simp only [Sum.inr.injEq] at h
    subst h
    unfold G4 at hg
    revert hg
    cases Sh x <;> cases decide (x.1 ≥ e) <;> cases x.2.1 == k' <;> cases x.2.2.1 <;> cases md == 1 <;> cases md == 2 <;> cases Kd s x.2.1 == 1 <;> (intro hg; cases hg) <;> simp
 unfold Bm
 cases Wl t && decide (0 ≤ at_ ∧ at_ ≤ 1000000) with
 | false => exact .inl rfl
 | true =>
  simp only [cond_true]
  cases h : chR t.2.2.1 key (j5 .i64 (at_ + t.1)) l with
  | inl s => cases decide (til ≥ j5 .i64 (at_ + t.1)) <;> simp
  | inr r => exact key2 _ _ _ _ _ _ _ h
theorem XS {α : Type} (x : α) (r : List α) (hr : r.length ≤ 64) : Ld (ja (x :: r)) (1 : Int) ((ja (x :: r) : Nat) : Int) = true ∧ Eb (x :: r) (jy (1 : Int)) (jy ((ja (x :: r) : Nat) : Int)) = r := by
 refine ⟨Zh (lo := 1) (by simp) (by simp), ?_⟩
 show List.drop 1 (List.take _ (x :: r)) = r
 rw [jn, List.take_length]; rfl
def OaQ (d : Gb) : Option (Gb × List Ka) → Gb × ((List Ka) × (Bool × Unit))
 | none => (d, ([], false, ()))
 | some (d', l) => (d', (l, true, ()))
theorem H9 {d : Gb} {x : Ca} {r : List Ca} (h : QS d) (hq : d.2.2.1 = x :: r) : Fi d = some (OaQ d (Dn d x r)) := by
 have h20 : Ea = 1048576 := rfl
 have hF := AY h hq
 have hk := Kk hF.ev
 have hlen : r.length ≤ 64 := by have := h.len; rw [hq] at this; simp at this; omega
 have hz := Y2 h.eng
 have hzm := (O9 h.eng.km).z
 have hle := Lq h.eng.hd
 obtain ⟨n, hn⟩ := jv hk.2.2.1
 have hn' : x.2.1 = (n : Int) := hn
 obtain ⟨e, t, q, now, clk, tp, ta, u⟩ := d
 obtain ⟨xt, xk, xd, xu⟩ := x
 cases u
 simp only at hq hn' hF hz hzm hle hk
 subst hq
 subst hn'
 have hc := XS ((xt, (n : Int), xd, xu) : Ca) r hlen
 have hb : jx (ja ([] : List Ca) + ja r) Sa = true := ji (by simp; rw [Ud]; omega)
 have i0 : Af (ja (((xt, (n : Int), xd, xu) : Ca) :: r)) (0 : Int) = true := by rw [show (0 : Int) = ((0 : Nat) : Int) from rfl, Fg]; exact Ba (by simp)
 have g0 : (((xt, (n : Int), xd, xu) : Ca) :: r)[(jy (0 : Int))]? = some (xt, (n : Int), xd, xu) := rfl
 unfold Fi
 simp only [i0, g0, hc.1, hc.2, hb, cond_true, jb]
 unfold Dn
 cases xd with
 | false =>
  obtain ⟨hi, hi1, hi2⟩ := hF.up rfl
  rw [Q6 h.eng hi hi1]
  simp only [qa, cond_true, jb]
  cases tp == j5 .i64 ((n : Int) + 1) <;> rfl
 | true =>
  have hd := hF.down rfl
  have hkey := hF.key
  have hp := fun b => Oab h.eng (k := n) hkey hd b
  simp only at hp hkey hd
  have hly := EW (Kaw (Nj h.eng.km).l2 h.eng.st) _ (show e.2.2.2.1.length ≤ Ea by omega) h.eng.hd
  simp only at hly
  rw [hly]
  have hch := L6 t (n : Int) xt r now (by omega)
  have hac := K6 (m := e.1) (by omega) h.eng.km (No e.2.2.1 e.2.2.2.1) hkey
  simp only [jb, jg, cond_false, jn, hac, FH, hch, hp]
  cases Dg (Jl e.1.2.1 (Oj e.1 (No e.2.2.1 e.2.2.2.1) n) n) with
  | false => rfl
  | true =>
   simp only [cond_true]
   have hv := P8 t (n : Int) xt r now
   have hne : (tp != j5 .i64 ((n : Int) + 1)) = !(tp == j5 .i64 ((n : Int) + 1)) := rfl
   rw [hne]
   cases tp == j5 .i64 ((n : Int) + 1) with
   | false =>
    simp only [qa, cond_true, qq, cond_false]
    rcases hv with hv | hv | hv <;> (rw [hv]; rfl)
   | true =>
    simp only [jg, cond_false, jk]
    cases decide (j5 .i64 (xt - ta) ≥ t.2.1) with
    | true =>
     simp only [jg, cond_true, cond_false]
     rcases hv with hv | hv | hv <;> (rw [hv]; rfl)
    | false => rfl
theorem Z1 {d : Gb} {x : Ca} {r : List Ca} (h : QS d) (hq : d.2.2.1 = x :: r) (hd : x.2.2.1 = true) :
 Dw d x (max d.2.2.2.2.1 x.1) = some (match Dn d x r with
  | none => (d, ([], max d.2.2.2.2.1 x.1, false, ()))
  | some (d', l) => ((d'.1, d.2.1, d.2.2.1, d.2.2.2.1, d.2.2.2.2.1, d'.2.2.2.2.2.1, d'.2.2.2.2.2.2.1, ()), (l, d'.2.2.2.2.1, true, ()))) := by
 have h20 : Ea = 1048576 := rfl
 have hF := AY h hq
 have hk := Kk hF.ev
 have hlen : r.length ≤ 64 := by have := h.len; rw [hq] at this; simp at this; omega
 have hz := Y2 h.eng
 have hzm := (O9 h.eng.km).z
 have hle := Lq h.eng.hd
 obtain ⟨n, hn⟩ := jv hk.2.2.1
 have hn' : x.2.1 = (n : Int) := hn
 obtain ⟨e, t, q, now, clk, tp, ta, u⟩ := d
 obtain ⟨xt, xk, xd, xu⟩ := x
 cases u
 simp only at hq hn' hF hz hzm hle hk hd
 subst hq
 subst hn'
 subst hd
 have hc := XS ((xt, (n : Int), true, xu) : Ca) r hlen
 have hdn := hF.down rfl
 have hkey := hF.key
 have hp := fun b => Mac h.eng (k := n) hkey hdn b
 simp only at hp hkey hdn
 have hly := VW (Kaw (Nj h.eng.km).l2 h.eng.st) _ (show e.2.2.2.1.length ≤ Ea by omega) h.eng.hd
 simp only at hly
 unfold Dw
 simp only [hc.1, hc.2]
 unfold Dn
 rw [hly]
 have hch := N7 t (n : Int) xt r now (by omega)
 have hac := UT (m := e.1) (by omega) h.eng.km (No e.2.2.1 e.2.2.2.1) hkey
 simp only [jb, jg, cond_false, jn, hac, Su, hch, hp]
 cases Dg (Jl e.1.2.1 (Oj e.1 (No e.2.2.1 e.2.2.2.1) n) n) with
 | false => rfl
 | true =>
  simp only [cond_true]
  have hv := P8 t (n : Int) xt r now
  have hlt : decide (j5 .i64 (xt - ta) < t.2.1) = !decide (j5 .i64 (xt - ta) ≥ t.2.1) := by
   rw [qy]; simp only [decide_eq_true_eq, Bool.not_eq_true', decide_eq_false_iff_not]; omega
  rw [hlt]
  cases tp == j5 .i64 ((n : Int) + 1) with
  | false =>
   simp only [qq, cond_false]
   rcases hv with hv | hv | hv <;> (rw [hv]; rfl)
  | true =>
   simp only [cond_true, jk]
   cases decide (j5 .i64 (xt - ta) ≥ t.2.1) with
   | true =>
    simp only [jg, cond_true, cond_false]
    rcases hv with hv | hv | hv <;> (rw [hv]; rfl)
   | false => rfl
end KF
