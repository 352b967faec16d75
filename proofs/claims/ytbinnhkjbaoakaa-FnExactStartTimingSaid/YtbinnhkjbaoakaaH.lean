/- Lemmas on the helpers of the laws: sizes, copies, comparisons, marks (conditions: as each lemma tells). -/
import Derived.Test.YtbinnhkjbaoakaaPl
import Derived.Test.YtbinnhkjbaoakaaFns
namespace KF
open Go
theorem szIntS_ok (a : (List Int)) (hr : Rng (.sl int) a) (l : Nat) (hl : l ≤ big20) : laws_szIntS a (l : Int) = some (szR (szT (.sl int) a) l, ()) := by
  have h20 : big20 = 1048576 := rfl
  have hlen : List.length a ≤ 9223372036854775807 := hr.1
  unfold laws_szIntS
  rw [wrap64 (by omega) (by omega)]
  rw [show szT (.sl int) a = List.length a from szT_flat (e := int) rfl a]
  by_cases h : List.length a ≤ l
  · rw [szR_le h, dec_false (by omega), show (l : Int) - (List.length a : Int) = ((l - List.length a : Nat) : Int) by omega]; rfl
  · rw [szR_gt h, dec_true (by omega)]; rfl

theorem toIntS_ok (a : (List Int)) (hz : szT (.sl int) a ≤ big20) : laws_toIntS a = some (a, ()) := by
  have h20 : big20 = 1048576 := rfl
  have hz' : List.length a + (List.map (szT int) a).sum ≤ big20 := hz
  have hl := copy_loop (step := fun x : (((List Int) × ((List Int) × (Int × Unit))) × Unit) => laws_toIntS_3_R x.1.1 x.1.2.1 x.1.2.2.1) a (zT int) (fun o i => ((a, o, i, ()), ())) (fun o => .inl ((o, ()), ())) (by
      intro k hk o ho
      simp only [laws_toIntS_3_R]
      rw [dec_true (show (k : Int) < (List.length a : Int) by omega), idx_lt hk]
      simp only [cond_true, Option.bind_some]
      rw [inb_nat, dec_true (show k < List.length o by omega)]
      simp [List.getElem?_eq_getElem (show k < List.length o by omega)]) (by
      intro o
      simp [laws_toIntS_3_R]) (by omega)
  unfold laws_toIntS laws_toIntS_3_loop
  rw [make_ok (by rw [lim_eq]; omega)]
  simp only [cond_true]
  rw [show Int.toNat ((List.length a : Nat) : Int) = List.length a by simp]
  erw [hl]
  rfl

theorem eqIntS_ok (a : (List Int)) (hz : szT (.sl int) a ≤ big40) : laws_eqIntS a a = some (true, ()) := by
  have h40 : big40 = 1099511627776 := rfl
  have hz' : List.length a + (List.map (szT int) a).sum ≤ big40 := hz
  have hl := loopF_run (step := fun x : (((List Int) × ((List Int) × (Int × Unit))) × Unit) => laws_eqIntS_4_R x.1.1 x.1.2.1 x.1.2.2.1) (fun k => ((a, a, (k : Int), ()), ())) (List.length a) (.inl ((), ())) (by
      intro k hk
      simp only [laws_eqIntS_4_R]
      rw [dec_true (show (k : Int) < (List.length a : Int) by omega), idx_lt hk]
      simp only [cond_true, Option.bind_some]
      rw [bne_self_eq_false']
      simp only [cond_false]
      rw [wrap_succ (by omega)]) (by
      simp [laws_eqIntS_4_R])
  unfold laws_eqIntS laws_eqIntS_4_loop
  rw [bne_self_eq_false']
  simp only [cond_false]
  erw [hl]
  rfl

theorem szIntSS_ok (a : (List (List Int))) (hr : Rng (.sl (.sl int)) a) (l : Nat) (hl : l ≤ big20) : laws_szIntSS a (l : Int) = some (szR (szT (.sl (.sl int)) a) l, ()) := by
  have h20 : big20 = 1048576 := rfl
  have hlen : List.length a ≤ 9223372036854775807 := hr.1
  unfold laws_szIntSS
  rw [wrap64 (by omega) (by omega)]
  by_cases h : List.length a ≤ l
  · rw [dec_false (by omega), show (l : Int) - (List.length a : Int) = ((l - List.length a : Nat) : Int) by omega]
    simp only [cond_false, laws_szIntSS_5_loop]
    have hx := sz_loop (step := fun x : (((List (List Int)) × TCombo) × Unit) => laws_szIntSS_5_R x.1.1 x.1.2.1 x.1.2.2.1) a (szT (.sl int)) (fun l i => ((a, l, i, ()), ())) (fun l => .inl ((l, ()), ())) (.inr (((-1 : Int), ()), ())) (by
      intro k hk l hl
      simp only [laws_szIntSS_5_R]
      rw [dec_true (show (k : Int) < (List.length a : Int) by omega), idx_lt hk]
      simp only [cond_true, Option.bind_some]
      rw [szIntS_ok a[k] (hr.2 k hk) l hl]
      simp only [Option.bind_some]
      by_cases hc : szT (.sl int) a[k] ≤ l
      · rw [szR_le hc, dec_false (by omega), if_pos hc]; rfl
      · rw [szR_gt hc, if_neg hc]; rfl) (by
      intro l
      simp [laws_szIntSS_5_R]) (by omega) (l - List.length a) (by omega)
    rw [hx]
    simp only [Option.bind_some]
    have hs : szT (.sl (.sl int)) a = List.length a + (List.map (szT (.sl int)) a).sum := rfl
    rw [hs]
    by_cases h2 : (List.map (szT (.sl int)) a).sum ≤ l - List.length a
    · rw [if_pos h2, szR_le (by omega)]; simp only [Sum.elim_inl]; rw [show l - List.length a - (List.map (szT (.sl int)) a).sum = l - (List.length a + (List.map (szT (.sl int)) a).sum) by omega]
    · rw [if_neg h2, szR_gt (by omega)]; rfl
  · rw [szR_gt (show ¬ szT (.sl (.sl int)) a ≤ l by have hs : szT (.sl (.sl int)) a = List.length a + (List.map (szT (.sl int)) a).sum := rfl; omega), dec_true (by omega)]; rfl

theorem szFlash_ok (a : TFlash) (hr : Rng tFlash a) (l : Nat) (hl : l ≤ big20) : laws_szFlash a (l : Int) = some (szR (szT tFlash a) l, ()) := by
  unfold laws_szFlash
  have hs : szT tFlash a = szT (.sl (.sl int)) a.1 + (szT (.sl int) a.2.1) := by simp only [szT, Nat.add_zero, Nat.zero_add, Nat.add_assoc]
  rw [szIntSS_ok a.1 hr.1 (l) (by omega)]
  simp only [Option.bind_some]
  by_cases h0 : szT (.sl (.sl int)) a.1 ≤ l
  case neg => rw [szR_gt h0, szR_gt (by omega)]; rfl
  rw [szR_le h0, dec_false (by omega)]
  simp only [cond_false]
  rw [szIntS_ok a.2.1 hr.2.1 (l - szT (.sl (.sl int)) a.1) (by omega)]
  simp only [Option.bind_some]
  by_cases h1 : szT (.sl int) a.2.1 ≤ l - szT (.sl (.sl int)) a.1
  case neg => rw [szR_gt h1, szR_gt (by omega)]; rfl
  rw [szR_le h1, dec_false (by omega)]
  simp only [cond_false]
  rw [szR_le (by omega), hs]
  try simp only [Nat.sub_sub, Nat.add_assoc]

theorem toIntSS_ok (a : (List (List Int))) (hz : szT (.sl (.sl int)) a ≤ big20) : laws_toIntSS a = some (a, ()) := by
  have h20 : big20 = 1048576 := rfl
  have hz' : List.length a + (List.map (szT (.sl int)) a).sum ≤ big20 := hz
  have hl := copy_loop (step := fun x : (((List (List Int)) × ((List (List Int)) × (Int × Unit))) × Unit) => laws_toIntSS_3_R x.1.1 x.1.2.1 x.1.2.2.1) a (zT (.sl int)) (fun o i => ((a, o, i, ()), ())) (fun o => .inl ((o, ()), ())) (by
      intro k hk o ho
      simp only [laws_toIntSS_3_R]
      rw [dec_true (show (k : Int) < (List.length a : Int) by omega), idx_lt hk]
      have hk' := sum_map_le (f := szT (.sl int)) hk
      simp only [cond_true, Option.bind_some]
      rw [toIntS_ok a[k] (by omega)]
      simp only [cond_true, Option.bind_some]
      rw [inb_nat, dec_true (show k < List.length o by omega)]
      simp [List.getElem?_eq_getElem (show k < List.length o by omega)]) (by
      intro o
      simp [laws_toIntSS_3_R]) (by omega)
  unfold laws_toIntSS laws_toIntSS_3_loop
  rw [make_ok (by rw [lim_eq]; omega)]
  simp only [cond_true]
  rw [show Int.toNat ((List.length a : Nat) : Int) = List.length a by simp]
  erw [hl]
  rfl

theorem toFlash_ok (a : TFlash) (hz : szT tFlash a ≤ big20) : laws_toFlash a = some (a, ()) := by
  unfold laws_toFlash
  have hs : szT tFlash a = szT (.sl (.sl int)) a.1 + (szT (.sl int) a.2.1) := by simp only [szT, Nat.add_zero, Nat.zero_add, Nat.add_assoc]
  rw [toIntSS_ok a.1 (by omega)]
  simp only [Option.bind_some]
  rw [toIntS_ok a.2.1 (by omega)]
  simp only [Option.bind_some]

theorem eqTiming_ok (a : TStep) (hz : szT tStep a ≤ big40) : laws_eqTiming a a = some (true, ()) := by
  unfold laws_eqTiming
  have hs : szT tStep a = 0 := by simp only [szT, Nat.add_zero, Nat.zero_add, Nat.add_assoc]
  simp only [bne_self_eq_false', cond_false, Bool.not_true, Option.bind_some]

theorem eqIntSS_ok (a : (List (List Int))) (hz : szT (.sl (.sl int)) a ≤ big40) : laws_eqIntSS a a = some (true, ()) := by
  have h40 : big40 = 1099511627776 := rfl
  have hz' : List.length a + (List.map (szT (.sl int)) a).sum ≤ big40 := hz
  have hl := loopF_run (step := fun x : (((List (List Int)) × ((List (List Int)) × (Int × Unit))) × Unit) => laws_eqIntSS_4_R x.1.1 x.1.2.1 x.1.2.2.1) (fun k => ((a, a, (k : Int), ()), ())) (List.length a) (.inl ((), ())) (by
      intro k hk
      simp only [laws_eqIntSS_4_R]
      rw [dec_true (show (k : Int) < (List.length a : Int) by omega), idx_lt hk]
      simp only [cond_true, Option.bind_some]
      have hk' := sum_map_le (f := szT (.sl int)) hk
      rw [eqIntS_ok a[k] (by omega)]
      simp only [Option.bind_some, Bool.not_true, cond_false]
      rw [wrap_succ (by omega)]) (by
      simp [laws_eqIntSS_4_R])
  unfold laws_eqIntSS laws_eqIntSS_4_loop
  rw [bne_self_eq_false']
  simp only [cond_false]
  erw [hl]
  rfl

theorem eqFlash_ok (a : TFlash) (hz : szT tFlash a ≤ big40) : laws_eqFlash a a = some (true, ()) := by
  unfold laws_eqFlash
  have hs : szT tFlash a = szT (.sl (.sl int)) a.1 + (szT (.sl int) a.2.1) := by simp only [szT, Nat.add_zero, Nat.zero_add, Nat.add_assoc]
  simp only [bne_self_eq_false', cond_false, Bool.not_true, Option.bind_some, eqIntSS_ok a.1 (by omega), eqIntS_ok a.2.1 (by omega)]
end KF
