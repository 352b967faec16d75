/- Lemmas on the helpers of the laws: sizes, copies, comparisons, marks (conditions: as each lemma tells). -/
import Derived.Test.YtjijklfhnlfpjaaGreatPl
import Derived.Test.YtjijklfhnlfpjaaGreatFns
set_option linter.unusedSimpArgs false
set_option linter.unusedVariables false
namespace KF
open Go
theorem eqByteS_ok (a : (List Int)) (hz : szT (.sl byte) a ≤ big40) : laws_eqByteS a a = some (true, ()) := by
  have h40 : big40 = 1099511627776 := rfl
  have hz' : List.length a + (List.map (szT byte) a).sum ≤ big40 := hz
  have hl := loopF_run (step := fun x : (((List Int) × ((List Int) × (Int × Unit))) × Unit) => laws_eqByteS_4_R x.1.1 x.1.2.1 x.1.2.2.1) (fun k => ((a, a, (k : Int), ()), ())) (List.length a) (.inl ((), ())) (by
      intro k hk
      simp only [laws_eqByteS_4_R]
      rw [dec_true (show (k : Int) < (List.length a : Int) by omega), idx_lt hk]
      simp only [cond_true, Option.bind_some]
      rw [bne_self_eq_false']
      simp only [cond_false]
      rw [wrap_succ (by omega)]) (by
      simp [laws_eqByteS_4_R])
  unfold laws_eqByteS laws_eqByteS_4_loop
  rw [bne_self_eq_false']
  simp only [cond_false]
  erw [hl]
  rfl

theorem szIntS_ok (a : (List Int)) (hr : Rng (.sl int) a) (l : Nat) (hl : l ≤ big20) : laws_szIntS a (l : Int) = some (szR (szT (.sl int) a) l, ()) := by
  have h20 : big20 = 1048576 := rfl
  have hlen : List.length a ≤ 9223372036854775807 := hr.1
  unfold laws_szIntS
  rw [wrap64 (by omega) (by omega)]
  rw [show szT (.sl int) a = List.length a from szT_flat (e := int) rfl a]
  by_cases h : List.length a ≤ l
  · rw [szR_le h, dec_false (by omega), show (l : Int) - (List.length a : Int) = ((l - List.length a : Nat) : Int) by omega]; rfl
  · rw [szR_gt h, dec_true (by omega)]; rfl

theorem toIntS_ok (a : (List Int)) (hz : szT (.sl int) a ≤ big20) : laws_toIntS a = some (a, ()) := by
  have h20 : big20 = 1048576 := rfl
  have hz' : List.length a + (List.map (szT int) a).sum ≤ big20 := hz
  have hl := copy_loop (step := fun x : (((List Int) × ((List Int) × (Int × Unit))) × Unit) => laws_toIntS_3_R x.1.1 x.1.2.1 x.1.2.2.1) a (zT int) (fun o i => ((a, o, i, ()), ())) (fun o => .inl ((o, ()), ())) (by
      intro k hk o ho
      simp only [laws_toIntS_3_R]
      rw [dec_true (show (k : Int) < (List.length a : Int) by omega), idx_lt hk]
      simp only [cond_true, Option.bind_some]
      rw [inb_nat, dec_true (show k < List.length o by omega)]
      simp [List.getElem?_eq_getElem (show k < List.length o by omega)]) (by
      intro o
      simp [laws_toIntS_3_R]) (by omega)
  unfold laws_toIntS laws_toIntS_3_loop
  rw [make_ok (by rw [lim_eq]; omega)]
  simp only [cond_true]
  rw [show Int.toNat ((List.length a : Nat) : Int) = List.length a by simp]
  erw [hl]
  rfl

theorem eqIntS_ok (a : (List Int)) (hz : szT (.sl int) a ≤ big40) : laws_eqIntS a a = some (true, ()) := by
  have h40 : big40 = 1099511627776 := rfl
  have hz' : List.length a + (List.map (szT int) a).sum ≤ big40 := hz
  have hl := loopF_run (step := fun x : (((List Int) × ((List Int) × (Int × Unit))) × Unit) => laws_eqIntS_4_R x.1.1 x.1.2.1 x.1.2.2.1) (fun k => ((a, a, (k : Int), ()), ())) (List.length a) (.inl ((), ())) (by
      intro k hk
      simp only [laws_eqIntS_4_R]
      rw [dec_true (show (k : Int) < (List.length a : Int) by omega), idx_lt hk]
      simp only [cond_true, Option.bind_some]
      rw [bne_self_eq_false']
      simp only [cond_false]
      rw [wrap_succ (by omega)]) (by
      simp [laws_eqIntS_4_R])
  unfold laws_eqIntS laws_eqIntS_4_loop
  rw [bne_self_eq_false']
  simp only [cond_false]
  erw [hl]
  rfl

theorem szActionS_ok (a : (List TAction)) (hr : Rng (.sl tAction) a) (l : Nat) (hl : l ≤ big20) : laws_szActionS a (l : Int) = some (szR (szT (.sl tAction) a) l, ()) := by
  have h20 : big20 = 1048576 := rfl
  have hlen : List.length a ≤ 9223372036854775807 := hr.1
  unfold laws_szActionS
  rw [wrap64 (by omega) (by omega)]
  rw [show szT (.sl tAction) a = List.length a from szT_flat (e := tAction) rfl a]
  by_cases h : List.length a ≤ l
  · rw [szR_le h, dec_false (by omega), show (l : Int) - (List.length a : Int) = ((l - List.length a : Nat) : Int) by omega]; rfl
  · rw [szR_gt h, dec_true (by omega)]; rfl

theorem szActionSS_ok (a : (List (List TAction))) (hr : Rng (.sl (.sl tAction)) a) (l : Nat) (hl : l ≤ big20) : laws_szActionSS a (l : Int) = some (szR (szT (.sl (.sl tAction)) a) l, ()) := by
  have h20 : big20 = 1048576 := rfl
  have hlen : List.length a ≤ 9223372036854775807 := hr.1
  unfold laws_szActionSS
  rw [wrap64 (by omega) (by omega)]
  by_cases h : List.length a ≤ l
  · rw [dec_false (by omega), show (l : Int) - (List.length a : Int) = ((l - List.length a : Nat) : Int) by omega]
    simp only [cond_false, laws_szActionSS_5_loop]
    have hx := sz_loop (step := fun x : (((List (List TAction)) × TCombo) × Unit) => laws_szActionSS_5_R x.1.1 x.1.2.1 x.1.2.2.1) a (szT (.sl tAction)) (fun l i => ((a, l, i, ()), ())) (fun l => .inl ((l, ()), ())) (.inr (((-1 : Int), ()), ())) (by
      intro k hk l hl
      simp only [laws_szActionSS_5_R]
      rw [dec_true (show (k : Int) < (List.length a : Int) by omega), idx_lt hk]
      simp only [cond_true, Option.bind_some]
      rw [szActionS_ok a[k] (hr.2 k hk) l hl]
      simp only [Option.bind_some]
      by_cases hc : szT (.sl tAction) a[k] ≤ l
      · rw [szR_le hc, dec_false (by omega), if_pos hc]; rfl
      · rw [szR_gt hc, if_neg hc]; rfl) (by
      intro l
      simp [laws_szActionSS_5_R]) (by omega) (l - List.length a) (by omega)
    rw [hx]
    simp only [Option.bind_some]
    have hs : szT (.sl (.sl tAction)) a = List.length a + (List.map (szT (.sl tAction)) a).sum := rfl
    rw [hs]
    by_cases h2 : (List.map (szT (.sl tAction)) a).sum ≤ l - List.length a
    · rw [if_pos h2, szR_le (by omega)]; simp only [Sum.elim_inl]; rw [show l - List.length a - (List.map (szT (.sl tAction)) a).sum = l - (List.length a + (List.map (szT (.sl tAction)) a).sum) by omega]
    · rw [if_neg h2, szR_gt (by omega)]; rfl
  · rw [szR_gt (show ¬ szT (.sl (.sl tAction)) a ≤ l by have hs : szT (.sl (.sl tAction)) a = List.length a + (List.map (szT (.sl tAction)) a).sum := rfl; omega), dec_true (by omega)]; rfl

theorem szKeymap_ok (a : TKeymap) (hr : Rng tKeymap a) (l : Nat) (hl : l ≤ big20) : laws_szKeymap a (l : Int) = some (szR (szT tKeymap a) l, ()) := by
  unfold laws_szKeymap
  have hs : szT tKeymap a = szT (.sl (.sl tAction)) a.2.1 := by simp only [szT, Nat.add_zero, Nat.zero_add, Nat.add_assoc]
  rw [szActionSS_ok a.2.1 hr.2.1 (l) (by omega)]
  simp only [Option.bind_some]
  by_cases h0 : szT (.sl (.sl tAction)) a.2.1 ≤ l
  case neg => rw [szR_gt h0, szR_gt (by omega)]; rfl
  rw [szR_le h0, dec_false (by omega)]
  simp only [cond_false]
  rw [szR_le (by omega), hs]
  try simp only [Nat.sub_sub, Nat.add_assoc]

theorem toAction_ok (a : TAction) (hz : szT tAction a ≤ big20) : laws_toAction a = some (a, ()) := by
  unfold laws_toAction
  rfl

theorem toActionS_ok (a : (List TAction)) (hz : szT (.sl tAction) a ≤ big20) : laws_toActionS a = some (a, ()) := by
  have h20 : big20 = 1048576 := rfl
  have hz' : List.length a + (List.map (szT tAction) a).sum ≤ big20 := hz
  have hl := copy_loop (step := fun x : (((List TAction) × ((List TAction) × (Int × Unit))) × Unit) => laws_toActionS_3_R x.1.1 x.1.2.1 x.1.2.2.1) a (zT tAction) (fun o i => ((a, o, i, ()), ())) (fun o => .inl ((o, ()), ())) (by
      intro k hk o ho
      simp only [laws_toActionS_3_R]
      rw [dec_true (show (k : Int) < (List.length a : Int) by omega), idx_lt hk]
      have hk' := sum_map_le (f := szT tAction) hk
      simp only [cond_true, Option.bind_some]
      rw [toAction_ok a[k] (by omega)]
      simp only [cond_true, Option.bind_some]
      rw [inb_nat, dec_true (show k < List.length o by omega)]
      simp [List.getElem?_eq_getElem (show k < List.length o by omega)]) (by
      intro o
      simp [laws_toActionS_3_R]) (by omega)
  unfold laws_toActionS laws_toActionS_3_loop
  rw [make_ok (by rw [lim_eq]; omega)]
  simp only [cond_true]
  rw [show Int.toNat ((List.length a : Nat) : Int) = List.length a by simp]
  erw [hl]
  rfl

theorem toActionSS_ok (a : (List (List TAction))) (hz : szT (.sl (.sl tAction)) a ≤ big20) : laws_toActionSS a = some (a, ()) := by
  have h20 : big20 = 1048576 := rfl
  have hz' : List.length a + (List.map (szT (.sl tAction)) a).sum ≤ big20 := hz
  have hl := copy_loop (step := fun x : (((List (List TAction)) × ((List (List TAction)) × (Int × Unit))) × Unit) => laws_toActionSS_3_R x.1.1 x.1.2.1 x.1.2.2.1) a (zT (.sl tAction)) (fun o i => ((a, o, i, ()), ())) (fun o => .inl ((o, ()), ())) (by
      intro k hk o ho
      simp only [laws_toActionSS_3_R]
      rw [dec_true (show (k : Int) < (List.length a : Int) by omega), idx_lt hk]
      have hk' := sum_map_le (f := szT (.sl tAction)) hk
      simp only [cond_true, Option.bind_some]
      rw [toActionS_ok a[k] (by omega)]
      simp only [cond_true, Option.bind_some]
      rw [inb_nat, dec_true (show k < List.length o by omega)]
      simp [List.getElem?_eq_getElem (show k < List.length o by omega)]) (by
      intro o
      simp [laws_toActionSS_3_R]) (by omega)
  unfold laws_toActionSS laws_toActionSS_3_loop
  rw [make_ok (by rw [lim_eq]; omega)]
  simp only [cond_true]
  rw [show Int.toNat ((List.length a : Nat) : Int) = List.length a by simp]
  erw [hl]
  rfl

theorem toKeymap_ok (a : TKeymap) (hz : szT tKeymap a ≤ big20) : laws_toKeymap a = some (a, ()) := by
  unfold laws_toKeymap
  have hs : szT tKeymap a = szT (.sl (.sl tAction)) a.2.1 := by simp only [szT, Nat.add_zero, Nat.zero_add, Nat.add_assoc]
  rw [toActionSS_ok a.2.1 (by omega)]
  simp only [Option.bind_some]

theorem eqAction_ok (a : TAction) (hz : szT tAction a ≤ big40) : laws_eqAction a a = some (true, ()) := by
  unfold laws_eqAction
  have hs : szT tAction a = 0 := by simp only [szT, Nat.add_zero, Nat.zero_add, Nat.add_assoc]
  simp only [bne_self_eq_false', cond_false, Bool.not_true, Option.bind_some]

theorem eqActionS_ok (a : (List TAction)) (hz : szT (.sl tAction) a ≤ big40) : laws_eqActionS a a = some (true, ()) := by
  have h40 : big40 = 1099511627776 := rfl
  have hz' : List.length a + (List.map (szT tAction) a).sum ≤ big40 := hz
  have hl := loopF_run (step := fun x : (((List TAction) × ((List TAction) × (Int × Unit))) × Unit) => laws_eqActionS_4_R x.1.1 x.1.2.1 x.1.2.2.1) (fun k => ((a, a, (k : Int), ()), ())) (List.length a) (.inl ((), ())) (by
      intro k hk
      simp only [laws_eqActionS_4_R]
      rw [dec_true (show (k : Int) < (List.length a : Int) by omega), idx_lt hk]
      simp only [cond_true, Option.bind_some]
      have hk' := sum_map_le (f := szT tAction) hk
      rw [eqAction_ok a[k] (by omega)]
      simp only [Option.bind_some, Bool.not_true, cond_false]
      rw [wrap_succ (by omega)]) (by
      simp [laws_eqActionS_4_R])
  unfold laws_eqActionS laws_eqActionS_4_loop
  rw [bne_self_eq_false']
  simp only [cond_false]
  erw [hl]
  rfl

theorem eqActionSS_ok (a : (List (List TAction))) (hz : szT (.sl (.sl tAction)) a ≤ big40) : laws_eqActionSS a a = some (true, ()) := by
  have h40 : big40 = 1099511627776 := rfl
  have hz' : List.length a + (List.map (szT (.sl tAction)) a).sum ≤ big40 := hz
  have hl := loopF_run (step := fun x : (((List (List TAction)) × ((List (List TAction)) × (Int × Unit))) × Unit) => laws_eqActionSS_4_R x.1.1 x.1.2.1 x.1.2.2.1) (fun k => ((a, a, (k : Int), ()), ())) (List.length a) (.inl ((), ())) (by
      intro k hk
      simp only [laws_eqActionSS_4_R]
      rw [dec_true (show (k : Int) < (List.length a : Int) by omega), idx_lt hk]
      simp only [cond_true, Option.bind_some]
      have hk' := sum_map_le (f := szT (.sl tAction)) hk
      rw [eqActionS_ok a[k] (by omega)]
      simp only [Option.bind_some, Bool.not_true, cond_false]
      rw [wrap_succ (by omega)]) (by
      simp [laws_eqActionSS_4_R])
  unfold laws_eqActionSS laws_eqActionSS_4_loop
  rw [bne_self_eq_false']
  simp only [cond_false]
  erw [hl]
  rfl

theorem eqKeymap_ok (a : TKeymap) (hz : szT tKeymap a ≤ big40) : laws_eqKeymap a a = some (true, ()) := by
  unfold laws_eqKeymap
  have hs : szT tKeymap a = szT (.sl (.sl tAction)) a.2.1 := by simp only [szT, Nat.add_zero, Nat.zero_add, Nat.add_assoc]
  simp only [bne_self_eq_false', cond_false, Bool.not_true, Option.bind_some, eqActionSS_ok a.2.1 (by omega)]

theorem toMatrix_ok (a : TEvent) (hz : szT tEvent a ≤ big20) : laws_toMatrix a = some (a, ()) := by
  unfold laws_toMatrix
  rfl

theorem eqTiming_ok (a : TStep) (hz : szT tStep a ≤ big40) : laws_eqTiming a a = some (true, ()) := by
  unfold laws_eqTiming
  have hs : szT tStep a = 0 := by simp only [szT, Nat.add_zero, Nat.zero_add, Nat.add_assoc]
  simp only [bne_self_eq_false', cond_false, Bool.not_true, Option.bind_some]

theorem toTiming_ok (a : TStep) (hz : szT tStep a ≤ big20) : laws_toTiming a = some (a, ()) := by
  unfold laws_toTiming
  rfl

theorem eqEvent_ok (a : TEvent) (hz : szT tEvent a ≤ big40) : laws_eqEvent a a = some (true, ()) := by
  unfold laws_eqEvent
  have hs : szT tEvent a = 0 := by simp only [szT, Nat.add_zero, Nat.zero_add, Nat.add_assoc]
  simp only [bne_self_eq_false', cond_false, Bool.not_true, Option.bind_some]

theorem eqEventS_ok (a : (List TEvent)) (hz : szT (.sl tEvent) a ≤ big40) : laws_eqEventS a a = some (true, ()) := by
  have h40 : big40 = 1099511627776 := rfl
  have hz' : List.length a + (List.map (szT tEvent) a).sum ≤ big40 := hz
  have hl := loopF_run (step := fun x : (((List TEvent) × ((List TEvent) × (Int × Unit))) × Unit) => laws_eqEventS_4_R x.1.1 x.1.2.1 x.1.2.2.1) (fun k => ((a, a, (k : Int), ()), ())) (List.length a) (.inl ((), ())) (by
      intro k hk
      simp only [laws_eqEventS_4_R]
      rw [dec_true (show (k : Int) < (List.length a : Int) by omega), idx_lt hk]
      simp only [cond_true, Option.bind_some]
      have hk' := sum_map_le (f := szT tEvent) hk
      rw [eqEvent_ok a[k] (by omega)]
      simp only [Option.bind_some, Bool.not_true, cond_false]
      rw [wrap_succ (by omega)]) (by
      simp [laws_eqEventS_4_R])
  unfold laws_eqEventS laws_eqEventS_4_loop
  rw [bne_self_eq_false']
  simp only [cond_false]
  erw [hl]
  rfl

theorem szDebouncer_ok (a : TDebouncer) (hr : Rng tDebouncer a) (l : Nat) (hl : l ≤ big20) : laws_szDebouncer a (l : Int) = some (szR (szT tDebouncer a) l, ()) := by
  unfold laws_szDebouncer
  have hs : szT tDebouncer a = szT (.sl int) a.2.2.2.2.2.1 := by simp only [szT, Nat.add_zero, Nat.zero_add, Nat.add_assoc]
  rw [szIntS_ok a.2.2.2.2.2.1 hr.2.2.2.2.2.1 (l) (by omega)]
  simp only [Option.bind_some]
  by_cases h0 : szT (.sl int) a.2.2.2.2.2.1 ≤ l
  case neg => rw [szR_gt h0, szR_gt (by omega)]; rfl
  rw [szR_le h0, dec_false (by omega)]
  simp only [cond_false]
  rw [szR_le (by omega), hs]
  try simp only [Nat.sub_sub, Nat.add_assoc]

theorem szComboS_ok (a : (List TCombo)) (hr : Rng (.sl tCombo) a) (l : Nat) (hl : l ≤ big20) : laws_szComboS a (l : Int) = some (szR (szT (.sl tCombo) a) l, ()) := by
  have h20 : big20 = 1048576 := rfl
  have hlen : List.length a ≤ 9223372036854775807 := hr.1
  unfold laws_szComboS
  rw [wrap64 (by omega) (by omega)]
  rw [show szT (.sl tCombo) a = List.length a from szT_flat (e := tCombo) rfl a]
  by_cases h : List.length a ≤ l
  · rw [szR_le h, dec_false (by omega), show (l : Int) - (List.length a : Int) = ((l - List.length a : Nat) : Int) by omega]; rfl
  · rw [szR_gt h, dec_true (by omega)]; rfl

theorem szEventS_ok (a : (List TEvent)) (hr : Rng (.sl tEvent) a) (l : Nat) (hl : l ≤ big20) : laws_szEventS a (l : Int) = some (szR (szT (.sl tEvent) a) l, ()) := by
  have h20 : big20 = 1048576 := rfl
  have hlen : List.length a ≤ 9223372036854775807 := hr.1
  unfold laws_szEventS
  rw [wrap64 (by omega) (by omega)]
  rw [show szT (.sl tEvent) a = List.length a from szT_flat (e := tEvent) rfl a]
  by_cases h : List.length a ≤ l
  · rw [szR_le h, dec_false (by omega), show (l : Int) - (List.length a : Int) = ((l - List.length a : Nat) : Int) by omega]; rfl
  · rw [szR_gt h, dec_true (by omega)]; rfl

theorem szActiveS_ok (a : (List TEvent)) (hr : Rng (.sl tEvent) a) (l : Nat) (hl : l ≤ big20) : laws_szActiveS a (l : Int) = some (szR (szT (.sl tEvent) a) l, ()) := by
  have h20 : big20 = 1048576 := rfl
  have hlen : List.length a ≤ 9223372036854775807 := hr.1
  unfold laws_szActiveS
  rw [wrap64 (by omega) (by omega)]
  rw [show szT (.sl tEvent) a = List.length a from szT_flat (e := tEvent) rfl a]
  by_cases h : List.length a ≤ l
  · rw [szR_le h, dec_false (by omega), show (l : Int) - (List.length a : Int) = ((l - List.length a : Nat) : Int) by omega]; rfl
  · rw [szR_gt h, dec_true (by omega)]; rfl

theorem szCombiner_ok (a : TCombiner) (hr : Rng tCombiner a) (l : Nat) (hl : l ≤ big20) : laws_szCombiner a (l : Int) = some (szR (szT tCombiner a) l, ()) := by
  unfold laws_szCombiner
  have hs : szT tCombiner a = szT (.sl tCombo) a.1 + (szT (.sl tEvent) a.2.2.1 + (szT (.sl tEvent) a.2.2.2.2.2.2.1)) := by simp only [szT, Nat.add_zero, Nat.zero_add, Nat.add_assoc]
  rw [szComboS_ok a.1 hr.1 (l) (by omega)]
  simp only [Option.bind_some]
  by_cases h0 : szT (.sl tCombo) a.1 ≤ l
  case neg => rw [szR_gt h0, szR_gt (by omega)]; rfl
  rw [szR_le h0, dec_false (by omega)]
  simp only [cond_false]
  rw [szEventS_ok a.2.2.1 hr.2.2.1 (l - szT (.sl tCombo) a.1) (by omega)]
  simp only [Option.bind_some]
  by_cases h1 : szT (.sl tEvent) a.2.2.1 ≤ l - szT (.sl tCombo) a.1
  case neg => rw [szR_gt h1, szR_gt (by omega)]; rfl
  rw [szR_le h1, dec_false (by omega)]
  simp only [cond_false]
  rw [szActiveS_ok a.2.2.2.2.2.2.1 hr.2.2.2.2.2.2.1 (l - szT (.sl tCombo) a.1 - szT (.sl tEvent) a.2.2.1) (by omega)]
  simp only [Option.bind_some]
  by_cases h2 : szT (.sl tEvent) a.2.2.2.2.2.2.1 ≤ l - szT (.sl tCombo) a.1 - szT (.sl tEvent) a.2.2.1
  case neg => rw [szR_gt h2, szR_gt (by omega)]; rfl
  rw [szR_le h2, dec_false (by omega)]
  simp only [cond_false]
  rw [szR_le (by omega), hs]
  try simp only [Nat.sub_sub, Nat.add_assoc]

theorem szStepS_ok (a : (List TStep)) (hr : Rng (.sl tStep) a) (l : Nat) (hl : l ≤ big20) : laws_szStepS a (l : Int) = some (szR (szT (.sl tStep) a) l, ()) := by
  have h20 : big20 = 1048576 := rfl
  have hlen : List.length a ≤ 9223372036854775807 := hr.1
  unfold laws_szStepS
  rw [wrap64 (by omega) (by omega)]
  rw [show szT (.sl tStep) a = List.length a from szT_flat (e := tStep) rfl a]
  by_cases h : List.length a ≤ l
  · rw [szR_le h, dec_false (by omega), show (l : Int) - (List.length a : Int) = ((l - List.length a : Nat) : Int) by omega]; rfl
  · rw [szR_gt h, dec_true (by omega)]; rfl

theorem szStepSS_ok (a : (List (List TStep))) (hr : Rng (.sl (.sl tStep)) a) (l : Nat) (hl : l ≤ big20) : laws_szStepSS a (l : Int) = some (szR (szT (.sl (.sl tStep)) a) l, ()) := by
  have h20 : big20 = 1048576 := rfl
  have hlen : List.length a ≤ 9223372036854775807 := hr.1
  unfold laws_szStepSS
  rw [wrap64 (by omega) (by omega)]
  by_cases h : List.length a ≤ l
  · rw [dec_false (by omega), show (l : Int) - (List.length a : Int) = ((l - List.length a : Nat) : Int) by omega]
    simp only [cond_false, laws_szStepSS_5_loop]
    have hx := sz_loop (step := fun x : (((List (List TStep)) × TCombo) × Unit) => laws_szStepSS_5_R x.1.1 x.1.2.1 x.1.2.2.1) a (szT (.sl tStep)) (fun l i => ((a, l, i, ()), ())) (fun l => .inl ((l, ()), ())) (.inr (((-1 : Int), ()), ())) (by
      intro k hk l hl
      simp only [laws_szStepSS_5_R]
      rw [dec_true (show (k : Int) < (List.length a : Int) by omega), idx_lt hk]
      simp only [cond_true, Option.bind_some]
      rw [szStepS_ok a[k] (hr.2 k hk) l hl]
      simp only [Option.bind_some]
      by_cases hc : szT (.sl tStep) a[k] ≤ l
      · rw [szR_le hc, dec_false (by omega), if_pos hc]; rfl
      · rw [szR_gt hc, if_neg hc]; rfl) (by
      intro l
      simp [laws_szStepSS_5_R]) (by omega) (l - List.length a) (by omega)
    rw [hx]
    simp only [Option.bind_some]
    have hs : szT (.sl (.sl tStep)) a = List.length a + (List.map (szT (.sl tStep)) a).sum := rfl
    rw [hs]
    by_cases h2 : (List.map (szT (.sl tStep)) a).sum ≤ l - List.length a
    · rw [if_pos h2, szR_le (by omega)]; simp only [Sum.elim_inl]; rw [show l - List.length a - (List.map (szT (.sl tStep)) a).sum = l - (List.length a + (List.map (szT (.sl tStep)) a).sum) by omega]
    · rw [if_neg h2, szR_gt (by omega)]; rfl
  · rw [szR_gt (show ¬ szT (.sl (.sl tStep)) a ≤ l by have hs : szT (.sl (.sl tStep)) a = List.length a + (List.map (szT (.sl tStep)) a).sum := rfl; omega), dec_true (by omega)]; rfl

theorem szHeldS_ok (a : (List THeld)) (hr : Rng (.sl tHeld) a) (l : Nat) (hl : l ≤ big20) : laws_szHeldS a (l : Int) = some (szR (szT (.sl tHeld) a) l, ()) := by
  have h20 : big20 = 1048576 := rfl
  have hlen : List.length a ≤ 9223372036854775807 := hr.1
  unfold laws_szHeldS
  rw [wrap64 (by omega) (by omega)]
  rw [show szT (.sl tHeld) a = List.length a from szT_flat (e := tHeld) rfl a]
  by_cases h : List.length a ≤ l
  · rw [szR_le h, dec_false (by omega), show (l : Int) - (List.length a : Int) = ((l - List.length a : Nat) : Int) by omega]; rfl
  · rw [szR_gt h, dec_true (by omega)]; rfl

theorem szEngine_ok (a : TEngine) (hr : Rng tEngine a) (l : Nat) (hl : l ≤ big20) : laws_szEngine a (l : Int) = some (szR (szT tEngine a) l, ()) := by
  unfold laws_szEngine
  have hs : szT tEngine a = szT tKeymap a.1 + (szT (.sl (.sl tStep)) a.2.1 + (szT (.sl tHeld) a.2.2.2.1)) := by simp only [szT, Nat.add_zero, Nat.zero_add, Nat.add_assoc]
  rw [szKeymap_ok a.1 hr.1 (l) (by omega)]
  simp only [Option.bind_some]
  by_cases h0 : szT tKeymap a.1 ≤ l
  case neg => rw [szR_gt h0, szR_gt (by omega)]; rfl
  rw [szR_le h0, dec_false (by omega)]
  simp only [cond_false]
  rw [szStepSS_ok a.2.1 hr.2.1 (l - szT tKeymap a.1) (by omega)]
  simp only [Option.bind_some]
  by_cases h1 : szT (.sl (.sl tStep)) a.2.1 ≤ l - szT tKeymap a.1
  case neg => rw [szR_gt h1, szR_gt (by omega)]; rfl
  rw [szR_le h1, dec_false (by omega)]
  simp only [cond_false]
  rw [szHeldS_ok a.2.2.2.1 hr.2.2.2.1 (l - szT tKeymap a.1 - szT (.sl (.sl tStep)) a.2.1) (by omega)]
  simp only [Option.bind_some]
  by_cases h2 : szT (.sl tHeld) a.2.2.2.1 ≤ l - szT tKeymap a.1 - szT (.sl (.sl tStep)) a.2.1
  case neg => rw [szR_gt h2, szR_gt (by omega)]; rfl
  rw [szR_le h2, dec_false (by omega)]
  simp only [cond_false]
  rw [szR_le (by omega), hs]
  try simp only [Nat.sub_sub, Nat.add_assoc]

theorem szDecider_ok (a : TDecider) (hr : Rng tDecider a) (l : Nat) (hl : l ≤ big20) : laws_szDecider a (l : Int) = some (szR (szT tDecider a) l, ()) := by
  unfold laws_szDecider
  have hs : szT tDecider a = szT tEngine a.1 + (szT (.sl tEvent) a.2.2.1) := by simp only [szT, Nat.add_zero, Nat.zero_add, Nat.add_assoc]
  rw [szEngine_ok a.1 hr.1 (l) (by omega)]
  simp only [Option.bind_some]
  by_cases h0 : szT tEngine a.1 ≤ l
  case neg => rw [szR_gt h0, szR_gt (by omega)]; rfl
  rw [szR_le h0, dec_false (by omega)]
  simp only [cond_false]
  rw [szEventS_ok a.2.2.1 hr.2.2.1 (l - szT tEngine a.1) (by omega)]
  simp only [Option.bind_some]
  by_cases h1 : szT (.sl tEvent) a.2.2.1 ≤ l - szT tEngine a.1
  case neg => rw [szR_gt h1, szR_gt (by omega)]; rfl
  rw [szR_le h1, dec_false (by omega)]
  simp only [cond_false]
  rw [szR_le (by omega), hs]
  try simp only [Nat.sub_sub, Nat.add_assoc]

theorem szBoard_ok (a : TBoard) (hr : Rng tBoard a) (l : Nat) (hl : l ≤ big20) : laws_szBoard a (l : Int) = some (szR (szT tBoard a) l, ()) := by
  unfold laws_szBoard
  have hs : szT tBoard a = szT tDebouncer a.2.1 + (szT tCombiner a.2.2.1 + (szT tDecider a.2.2.2.1)) := by simp only [szT, Nat.add_zero, Nat.zero_add, Nat.add_assoc]
  rw [szDebouncer_ok a.2.1 hr.2.1 (l) (by omega)]
  simp only [Option.bind_some]
  by_cases h0 : szT tDebouncer a.2.1 ≤ l
  case neg => rw [szR_gt h0, szR_gt (by omega)]; rfl
  rw [szR_le h0, dec_false (by omega)]
  simp only [cond_false]
  rw [szCombiner_ok a.2.2.1 hr.2.2.1 (l - szT tDebouncer a.2.1) (by omega)]
  simp only [Option.bind_some]
  by_cases h1 : szT tCombiner a.2.2.1 ≤ l - szT tDebouncer a.2.1
  case neg => rw [szR_gt h1, szR_gt (by omega)]; rfl
  rw [szR_le h1, dec_false (by omega)]
  simp only [cond_false]
  rw [szDecider_ok a.2.2.2.1 hr.2.2.2.1 (l - szT tDebouncer a.2.1 - szT tCombiner a.2.2.1) (by omega)]
  simp only [Option.bind_some]
  by_cases h2 : szT tDecider a.2.2.2.1 ≤ l - szT tDebouncer a.2.1 - szT tCombiner a.2.2.1
  case neg => rw [szR_gt h2, szR_gt (by omega)]; rfl
  rw [szR_le h2, dec_false (by omega)]
  simp only [cond_false]
  rw [szR_le (by omega), hs]
  try simp only [Nat.sub_sub, Nat.add_assoc]

theorem toDebouncer_ok (a : TDebouncer) (hz : szT tDebouncer a ≤ big20) : laws_toDebouncer a = some (a, ()) := by
  unfold laws_toDebouncer
  have hs : szT tDebouncer a = szT (.sl int) a.2.2.2.2.2.1 := by simp only [szT, Nat.add_zero, Nat.zero_add, Nat.add_assoc]
  rw [toIntS_ok a.2.2.2.2.2.1 (by omega)]
  simp only [Option.bind_some]

theorem toCombo_ok (a : TCombo) (hz : szT tCombo a ≤ big20) : laws_toCombo a = some (a, ()) := by
  unfold laws_toCombo
  rfl

theorem toComboS_ok (a : (List TCombo)) (hz : szT (.sl tCombo) a ≤ big20) : laws_toComboS a = some (a, ()) := by
  have h20 : big20 = 1048576 := rfl
  have hz' : List.length a + (List.map (szT tCombo) a).sum ≤ big20 := hz
  have hl := copy_loop (step := fun x : (((List TCombo) × ((List TCombo) × (Int × Unit))) × Unit) => laws_toComboS_3_R x.1.1 x.1.2.1 x.1.2.2.1) a (zT tCombo) (fun o i => ((a, o, i, ()), ())) (fun o => .inl ((o, ()), ())) (by
      intro k hk o ho
      simp only [laws_toComboS_3_R]
      rw [dec_true (show (k : Int) < (List.length a : Int) by omega), idx_lt hk]
      have hk' := sum_map_le (f := szT tCombo) hk
      simp only [cond_true, Option.bind_some]
      rw [toCombo_ok a[k] (by omega)]
      simp only [cond_true, Option.bind_some]
      rw [inb_nat, dec_true (show k < List.length o by omega)]
      simp [List.getElem?_eq_getElem (show k < List.length o by omega)]) (by
      intro o
      simp [laws_toComboS_3_R]) (by omega)
  unfold laws_toComboS laws_toComboS_3_loop
  rw [make_ok (by rw [lim_eq]; omega)]
  simp only [cond_true]
  rw [show Int.toNat ((List.length a : Nat) : Int) = List.length a by simp]
  erw [hl]
  rfl

theorem toEvent_ok (a : TEvent) (hz : szT tEvent a ≤ big20) : laws_toEvent a = some (a, ()) := by
  unfold laws_toEvent
  rfl

theorem toEventS_ok (a : (List TEvent)) (hz : szT (.sl tEvent) a ≤ big20) : laws_toEventS a = some (a, ()) := by
  have h20 : big20 = 1048576 := rfl
  have hz' : List.length a + (List.map (szT tEvent) a).sum ≤ big20 := hz
  have hl := copy_loop (step := fun x : (((List TEvent) × ((List TEvent) × (Int × Unit))) × Unit) => laws_toEventS_3_R x.1.1 x.1.2.1 x.1.2.2.1) a (zT tEvent) (fun o i => ((a, o, i, ()), ())) (fun o => .inl ((o, ()), ())) (by
      intro k hk o ho
      simp only [laws_toEventS_3_R]
      rw [dec_true (show (k : Int) < (List.length a : Int) by omega), idx_lt hk]
      have hk' := sum_map_le (f := szT tEvent) hk
      simp only [cond_true, Option.bind_some]
      rw [toEvent_ok a[k] (by omega)]
      simp only [cond_true, Option.bind_some]
      rw [inb_nat, dec_true (show k < List.length o by omega)]
      simp [List.getElem?_eq_getElem (show k < List.length o by omega)]) (by
      intro o
      simp [laws_toEventS_3_R]) (by omega)
  unfold laws_toEventS laws_toEventS_3_loop
  rw [make_ok (by rw [lim_eq]; omega)]
  simp only [cond_true]
  rw [show Int.toNat ((List.length a : Nat) : Int) = List.length a by simp]
  erw [hl]
  rfl

theorem toActive_ok (a : TEvent) (hz : szT tEvent a ≤ big20) : laws_toActive a = some (a, ()) := by
  unfold laws_toActive
  rfl

theorem toActiveS_ok (a : (List TEvent)) (hz : szT (.sl tEvent) a ≤ big20) : laws_toActiveS a = some (a, ()) := by
  have h20 : big20 = 1048576 := rfl
  have hz' : List.length a + (List.map (szT tEvent) a).sum ≤ big20 := hz
  have hl := copy_loop (step := fun x : (((List TEvent) × ((List TEvent) × (Int × Unit))) × Unit) => laws_toActiveS_3_R x.1.1 x.1.2.1 x.1.2.2.1) a (zT tEvent) (fun o i => ((a, o, i, ()), ())) (fun o => .inl ((o, ()), ())) (by
      intro k hk o ho
      simp only [laws_toActiveS_3_R]
      rw [dec_true (show (k : Int) < (List.length a : Int) by omega), idx_lt hk]
      have hk' := sum_map_le (f := szT tEvent) hk
      simp only [cond_true, Option.bind_some]
      rw [toActive_ok a[k] (by omega)]
      simp only [cond_true, Option.bind_some]
      rw [inb_nat, dec_true (show k < List.length o by omega)]
      simp [List.getElem?_eq_getElem (show k < List.length o by omega)]) (by
      intro o
      simp [laws_toActiveS_3_R]) (by omega)
  unfold laws_toActiveS laws_toActiveS_3_loop
  rw [make_ok (by rw [lim_eq]; omega)]
  simp only [cond_true]
  rw [show Int.toNat ((List.length a : Nat) : Int) = List.length a by simp]
  erw [hl]
  rfl

theorem toCombiner_ok (a : TCombiner) (hz : szT tCombiner a ≤ big20) : laws_toCombiner a = some (a, ()) := by
  unfold laws_toCombiner
  have hs : szT tCombiner a = szT (.sl tCombo) a.1 + (szT (.sl tEvent) a.2.2.1 + (szT (.sl tEvent) a.2.2.2.2.2.2.1)) := by simp only [szT, Nat.add_zero, Nat.zero_add, Nat.add_assoc]
  rw [toComboS_ok a.1 (by omega)]
  simp only [Option.bind_some]
  rw [toEventS_ok a.2.2.1 (by omega)]
  simp only [Option.bind_some]
  rw [toActiveS_ok a.2.2.2.2.2.2.1 (by omega)]
  simp only [Option.bind_some]

theorem toStep_ok (a : TStep) (hz : szT tStep a ≤ big20) : laws_toStep a = some (a, ()) := by
  unfold laws_toStep
  rfl

theorem toStepS_ok (a : (List TStep)) (hz : szT (.sl tStep) a ≤ big20) : laws_toStepS a = some (a, ()) := by
  have h20 : big20 = 1048576 := rfl
  have hz' : List.length a + (List.map (szT tStep) a).sum ≤ big20 := hz
  have hl := copy_loop (step := fun x : (((List TStep) × ((List TStep) × (Int × Unit))) × Unit) => laws_toStepS_3_R x.1.1 x.1.2.1 x.1.2.2.1) a (zT tStep) (fun o i => ((a, o, i, ()), ())) (fun o => .inl ((o, ()), ())) (by
      intro k hk o ho
      simp only [laws_toStepS_3_R]
      rw [dec_true (show (k : Int) < (List.length a : Int) by omega), idx_lt hk]
      have hk' := sum_map_le (f := szT tStep) hk
      simp only [cond_true, Option.bind_some]
      rw [toStep_ok a[k] (by omega)]
      simp only [cond_true, Option.bind_some]
      rw [inb_nat, dec_true (show k < List.length o by omega)]
      simp [List.getElem?_eq_getElem (show k < List.length o by omega)]) (by
      intro o
      simp [laws_toStepS_3_R]) (by omega)
  unfold laws_toStepS laws_toStepS_3_loop
  rw [make_ok (by rw [lim_eq]; omega)]
  simp only [cond_true]
  rw [show Int.toNat ((List.length a : Nat) : Int) = List.length a by simp]
  erw [hl]
  rfl

theorem toStepSS_ok (a : (List (List TStep))) (hz : szT (.sl (.sl tStep)) a ≤ big20) : laws_toStepSS a = some (a, ()) := by
  have h20 : big20 = 1048576 := rfl
  have hz' : List.length a + (List.map (szT (.sl tStep)) a).sum ≤ big20 := hz
  have hl := copy_loop (step := fun x : (((List (List TStep)) × ((List (List TStep)) × (Int × Unit))) × Unit) => laws_toStepSS_3_R x.1.1 x.1.2.1 x.1.2.2.1) a (zT (.sl tStep)) (fun o i => ((a, o, i, ()), ())) (fun o => .inl ((o, ()), ())) (by
      intro k hk o ho
      simp only [laws_toStepSS_3_R]
      rw [dec_true (show (k : Int) < (List.length a : Int) by omega), idx_lt hk]
      have hk' := sum_map_le (f := szT (.sl tStep)) hk
      simp only [cond_true, Option.bind_some]
      rw [toStepS_ok a[k] (by omega)]
      simp only [cond_true, Option.bind_some]
      rw [inb_nat, dec_true (show k < List.length o by omega)]
      simp [List.getElem?_eq_getElem (show k < List.length o by omega)]) (by
      intro o
      simp [laws_toStepSS_3_R]) (by omega)
  unfold laws_toStepSS laws_toStepSS_3_loop
  rw [make_ok (by rw [lim_eq]; omega)]
  simp only [cond_true]
  rw [show Int.toNat ((List.length a : Nat) : Int) = List.length a by simp]
  erw [hl]
  rfl

theorem toHeld_ok (a : THeld) (hz : szT tHeld a ≤ big20) : laws_toHeld a = some (a, ()) := by
  unfold laws_toHeld
  have hs : szT tHeld a = 0 := by simp only [szT, Nat.add_zero, Nat.zero_add, Nat.add_assoc]
  rw [toAction_ok a.2.1 (by rw [szT_zero rfl]; exact Nat.zero_le _)]
  simp only [Option.bind_some]

theorem toHeldS_ok (a : (List THeld)) (hz : szT (.sl tHeld) a ≤ big20) : laws_toHeldS a = some (a, ()) := by
  have h20 : big20 = 1048576 := rfl
  have hz' : List.length a + (List.map (szT tHeld) a).sum ≤ big20 := hz
  have hl := copy_loop (step := fun x : (((List THeld) × ((List THeld) × (Int × Unit))) × Unit) => laws_toHeldS_3_R x.1.1 x.1.2.1 x.1.2.2.1) a (zT tHeld) (fun o i => ((a, o, i, ()), ())) (fun o => .inl ((o, ()), ())) (by
      intro k hk o ho
      simp only [laws_toHeldS_3_R]
      rw [dec_true (show (k : Int) < (List.length a : Int) by omega), idx_lt hk]
      have hk' := sum_map_le (f := szT tHeld) hk
      simp only [cond_true, Option.bind_some]
      rw [toHeld_ok a[k] (by omega)]
      simp only [cond_true, Option.bind_some]
      rw [inb_nat, dec_true (show k < List.length o by omega)]
      simp [List.getElem?_eq_getElem (show k < List.length o by omega)]) (by
      intro o
      simp [laws_toHeldS_3_R]) (by omega)
  unfold laws_toHeldS laws_toHeldS_3_loop
  rw [make_ok (by rw [lim_eq]; omega)]
  simp only [cond_true]
  rw [show Int.toNat ((List.length a : Nat) : Int) = List.length a by simp]
  erw [hl]
  rfl

theorem toEngine_ok (a : TEngine) (hz : szT tEngine a ≤ big20) : laws_toEngine a = some (a, ()) := by
  unfold laws_toEngine
  have hs : szT tEngine a = szT tKeymap a.1 + (szT (.sl (.sl tStep)) a.2.1 + (szT (.sl tHeld) a.2.2.2.1)) := by simp only [szT, Nat.add_zero, Nat.zero_add, Nat.add_assoc]
  rw [toKeymap_ok a.1 (by omega)]
  simp only [Option.bind_some]
  rw [toStepSS_ok a.2.1 (by omega)]
  simp only [Option.bind_some]
  rw [toHeldS_ok a.2.2.2.1 (by omega)]
  simp only [Option.bind_some]

theorem toDecider_ok (a : TDecider) (hz : szT tDecider a ≤ big20) : laws_toDecider a = some (a, ()) := by
  unfold laws_toDecider
  have hs : szT tDecider a = szT tEngine a.1 + (szT (.sl tEvent) a.2.2.1) := by simp only [szT, Nat.add_zero, Nat.zero_add, Nat.add_assoc]
  rw [toEngine_ok a.1 (by omega)]
  simp only [Option.bind_some]
  rw [toTiming_ok a.2.1 (by rw [szT_zero rfl]; exact Nat.zero_le _)]
  simp only [Option.bind_some]
  rw [toEventS_ok a.2.2.1 (by omega)]
  simp only [Option.bind_some]

theorem toBoard_ok (a : TBoard) (hz : szT tBoard a ≤ big20) : laws_toBoard a = some (a, ()) := by
  unfold laws_toBoard
  have hs : szT tBoard a = szT tDebouncer a.2.1 + (szT tCombiner a.2.2.1 + (szT tDecider a.2.2.2.1)) := by simp only [szT, Nat.add_zero, Nat.zero_add, Nat.add_assoc]
  rw [toMatrix_ok a.1 (by rw [szT_zero rfl]; exact Nat.zero_le _)]
  simp only [Option.bind_some]
  rw [toDebouncer_ok a.2.1 (by omega)]
  simp only [Option.bind_some]
  rw [toCombiner_ok a.2.2.1 (by omega)]
  simp only [Option.bind_some]
  rw [toDecider_ok a.2.2.2.1 (by omega)]
  simp only [Option.bind_some]

theorem eqMatrix_ok (a : TEvent) (hz : szT tEvent a ≤ big40) : laws_eqMatrix a a = some (true, ()) := by
  unfold laws_eqMatrix
  have hs : szT tEvent a = 0 := by simp only [szT, Nat.add_zero, Nat.zero_add, Nat.add_assoc]
  simp only [bne_self_eq_false', cond_false, Bool.not_true, Option.bind_some]

theorem eqDebouncer_ok (a : TDebouncer) (hz : szT tDebouncer a ≤ big40) : laws_eqDebouncer a a = some (true, ()) := by
  unfold laws_eqDebouncer
  have hs : szT tDebouncer a = szT (.sl int) a.2.2.2.2.2.1 := by simp only [szT, Nat.add_zero, Nat.zero_add, Nat.add_assoc]
  simp only [bne_self_eq_false', cond_false, Bool.not_true, Option.bind_some, eqIntS_ok a.2.2.2.2.2.1 (by omega)]

theorem eqCombo_ok (a : TCombo) (hz : szT tCombo a ≤ big40) : laws_eqCombo a a = some (true, ()) := by
  unfold laws_eqCombo
  have hs : szT tCombo a = 0 := by simp only [szT, Nat.add_zero, Nat.zero_add, Nat.add_assoc]
  simp only [bne_self_eq_false', cond_false, Bool.not_true, Option.bind_some]

theorem eqComboS_ok (a : (List TCombo)) (hz : szT (.sl tCombo) a ≤ big40) : laws_eqComboS a a = some (true, ()) := by
  have h40 : big40 = 1099511627776 := rfl
  have hz' : List.length a + (List.map (szT tCombo) a).sum ≤ big40 := hz
  have hl := loopF_run (step := fun x : (((List TCombo) × ((List TCombo) × (Int × Unit))) × Unit) => laws_eqComboS_4_R x.1.1 x.1.2.1 x.1.2.2.1) (fun k => ((a, a, (k : Int), ()), ())) (List.length a) (.inl ((), ())) (by
      intro k hk
      simp only [laws_eqComboS_4_R]
      rw [dec_true (show (k : Int) < (List.length a : Int) by omega), idx_lt hk]
      simp only [cond_true, Option.bind_some]
      have hk' := sum_map_le (f := szT tCombo) hk
      rw [eqCombo_ok a[k] (by omega)]
      simp only [Option.bind_some, Bool.not_true, cond_false]
      rw [wrap_succ (by omega)]) (by
      simp [laws_eqComboS_4_R])
  unfold laws_eqComboS laws_eqComboS_4_loop
  rw [bne_self_eq_false']
  simp only [cond_false]
  erw [hl]
  rfl

theorem eqActive_ok (a : TEvent) (hz : szT tEvent a ≤ big40) : laws_eqActive a a = some (true, ()) := by
  unfold laws_eqActive
  have hs : szT tEvent a = 0 := by simp only [szT, Nat.add_zero, Nat.zero_add, Nat.add_assoc]
  simp only [bne_self_eq_false', cond_false, Bool.not_true, Option.bind_some]

theorem eqActiveS_ok (a : (List TEvent)) (hz : szT (.sl tEvent) a ≤ big40) : laws_eqActiveS a a = some (true, ()) := by
  have h40 : big40 = 1099511627776 := rfl
  have hz' : List.length a + (List.map (szT tEvent) a).sum ≤ big40 := hz
  have hl := loopF_run (step := fun x : (((List TEvent) × ((List TEvent) × (Int × Unit))) × Unit) => laws_eqActiveS_4_R x.1.1 x.1.2.1 x.1.2.2.1) (fun k => ((a, a, (k : Int), ()), ())) (List.length a) (.inl ((), ())) (by
      intro k hk
      simp only [laws_eqActiveS_4_R]
      rw [dec_true (show (k : Int) < (List.length a : Int) by omega), idx_lt hk]
      simp only [cond_true, Option.bind_some]
      have hk' := sum_map_le (f := szT tEvent) hk
      rw [eqActive_ok a[k] (by omega)]
      simp only [Option.bind_some, Bool.not_true, cond_false]
      rw [wrap_succ (by omega)]) (by
      simp [laws_eqActiveS_4_R])
  unfold laws_eqActiveS laws_eqActiveS_4_loop
  rw [bne_self_eq_false']
  simp only [cond_false]
  erw [hl]
  rfl

theorem eqCombiner_ok (a : TCombiner) (hz : szT tCombiner a ≤ big40) : laws_eqCombiner a a = some (true, ()) := by
  unfold laws_eqCombiner
  have hs : szT tCombiner a = szT (.sl tCombo) a.1 + (szT (.sl tEvent) a.2.2.1 + (szT (.sl tEvent) a.2.2.2.2.2.2.1)) := by simp only [szT, Nat.add_zero, Nat.zero_add, Nat.add_assoc]
  simp only [bne_self_eq_false', cond_false, Bool.not_true, Option.bind_some, eqComboS_ok a.1 (by omega), eqEventS_ok a.2.2.1 (by omega), eqActiveS_ok a.2.2.2.2.2.2.1 (by omega)]

theorem eqStep_ok (a : TStep) (hz : szT tStep a ≤ big40) : laws_eqStep a a = some (true, ()) := by
  unfold laws_eqStep
  have hs : szT tStep a = 0 := by simp only [szT, Nat.add_zero, Nat.zero_add, Nat.add_assoc]
  simp only [bne_self_eq_false', cond_false, Bool.not_true, Option.bind_some]

theorem eqStepS_ok (a : (List TStep)) (hz : szT (.sl tStep) a ≤ big40) : laws_eqStepS a a = some (true, ()) := by
  have h40 : big40 = 1099511627776 := rfl
  have hz' : List.length a + (List.map (szT tStep) a).sum ≤ big40 := hz
  have hl := loopF_run (step := fun x : (((List TStep) × ((List TStep) × (Int × Unit))) × Unit) => laws_eqStepS_4_R x.1.1 x.1.2.1 x.1.2.2.1) (fun k => ((a, a, (k : Int), ()), ())) (List.length a) (.inl ((), ())) (by
      intro k hk
      simp only [laws_eqStepS_4_R]
      rw [dec_true (show (k : Int) < (List.length a : Int) by omega), idx_lt hk]
      simp only [cond_true, Option.bind_some]
      have hk' := sum_map_le (f := szT tStep) hk
      rw [eqStep_ok a[k] (by omega)]
      simp only [Option.bind_some, Bool.not_true, cond_false]
      rw [wrap_succ (by omega)]) (by
      simp [laws_eqStepS_4_R])
  unfold laws_eqStepS laws_eqStepS_4_loop
  rw [bne_self_eq_false']
  simp only [cond_false]
  erw [hl]
  rfl

theorem eqStepSS_ok (a : (List (List TStep))) (hz : szT (.sl (.sl tStep)) a ≤ big40) : laws_eqStepSS a a = some (true, ()) := by
  have h40 : big40 = 1099511627776 := rfl
  have hz' : List.length a + (List.map (szT (.sl tStep)) a).sum ≤ big40 := hz
  have hl := loopF_run (step := fun x : (((List (List TStep)) × ((List (List TStep)) × (Int × Unit))) × Unit) => laws_eqStepSS_4_R x.1.1 x.1.2.1 x.1.2.2.1) (fun k => ((a, a, (k : Int), ()), ())) (List.length a) (.inl ((), ())) (by
      intro k hk
      simp only [laws_eqStepSS_4_R]
      rw [dec_true (show (k : Int) < (List.length a : Int) by omega), idx_lt hk]
      simp only [cond_true, Option.bind_some]
      have hk' := sum_map_le (f := szT (.sl tStep)) hk
      rw [eqStepS_ok a[k] (by omega)]
      simp only [Option.bind_some, Bool.not_true, cond_false]
      rw [wrap_succ (by omega)]) (by
      simp [laws_eqStepSS_4_R])
  unfold laws_eqStepSS laws_eqStepSS_4_loop
  rw [bne_self_eq_false']
  simp only [cond_false]
  erw [hl]
  rfl

theorem eqHeld_ok (a : THeld) (hz : szT tHeld a ≤ big40) : laws_eqHeld a a = some (true, ()) := by
  unfold laws_eqHeld
  have hs : szT tHeld a = 0 := by simp only [szT, Nat.add_zero, Nat.zero_add, Nat.add_assoc]
  simp only [bne_self_eq_false', cond_false, Bool.not_true, Option.bind_some, eqAction_ok a.2.1 (by rw [szT_zero rfl]; exact Nat.zero_le _)]

theorem eqHeldS_ok (a : (List THeld)) (hz : szT (.sl tHeld) a ≤ big40) : laws_eqHeldS a a = some (true, ()) := by
  have h40 : big40 = 1099511627776 := rfl
  have hz' : List.length a + (List.map (szT tHeld) a).sum ≤ big40 := hz
  have hl := loopF_run (step := fun x : (((List THeld) × ((List THeld) × (Int × Unit))) × Unit) => laws_eqHeldS_4_R x.1.1 x.1.2.1 x.1.2.2.1) (fun k => ((a, a, (k : Int), ()), ())) (List.length a) (.inl ((), ())) (by
      intro k hk
      simp only [laws_eqHeldS_4_R]
      rw [dec_true (show (k : Int) < (List.length a : Int) by omega), idx_lt hk]
      simp only [cond_true, Option.bind_some]
      have hk' := sum_map_le (f := szT tHeld) hk
      rw [eqHeld_ok a[k] (by omega)]
      simp only [Option.bind_some, Bool.not_true, cond_false]
      rw [wrap_succ (by omega)]) (by
      simp [laws_eqHeldS_4_R])
  unfold laws_eqHeldS laws_eqHeldS_4_loop
  rw [bne_self_eq_false']
  simp only [cond_false]
  erw [hl]
  rfl

theorem eqEngine_ok (a : TEngine) (hz : szT tEngine a ≤ big40) : laws_eqEngine a a = some (true, ()) := by
  unfold laws_eqEngine
  have hs : szT tEngine a = szT tKeymap a.1 + (szT (.sl (.sl tStep)) a.2.1 + (szT (.sl tHeld) a.2.2.2.1)) := by simp only [szT, Nat.add_zero, Nat.zero_add, Nat.add_assoc]
  simp only [bne_self_eq_false', cond_false, Bool.not_true, Option.bind_some, eqKeymap_ok a.1 (by omega), eqStepSS_ok a.2.1 (by omega), eqHeldS_ok a.2.2.2.1 (by omega)]

theorem eqDecider_ok (a : TDecider) (hz : szT tDecider a ≤ big40) : laws_eqDecider a a = some (true, ()) := by
  unfold laws_eqDecider
  have hs : szT tDecider a = szT tEngine a.1 + (szT (.sl tEvent) a.2.2.1) := by simp only [szT, Nat.add_zero, Nat.zero_add, Nat.add_assoc]
  simp only [bne_self_eq_false', cond_false, Bool.not_true, Option.bind_some, eqEngine_ok a.1 (by omega), eqTiming_ok a.2.1 (by rw [szT_zero rfl]; exact Nat.zero_le _), eqEventS_ok a.2.2.1 (by omega)]

theorem eqBoard_ok (a : TBoard) (hz : szT tBoard a ≤ big40) : laws_eqBoard a a = some (true, ()) := by
  unfold laws_eqBoard
  have hs : szT tBoard a = szT tDebouncer a.2.1 + (szT tCombiner a.2.2.1 + (szT tDecider a.2.2.2.1)) := by simp only [szT, Nat.add_zero, Nat.zero_add, Nat.add_assoc]
  simp only [bne_self_eq_false', cond_false, Bool.not_true, Option.bind_some, eqMatrix_ok a.1 (by rw [szT_zero rfl]; exact Nat.zero_le _), eqDebouncer_ok a.2.1 (by omega), eqCombiner_ok a.2.2.1 (by omega), eqDecider_ok a.2.2.2.1 (by omega)]

theorem eqReceiver_ok (a : TReceiver) (hz : szT tReceiver a ≤ big40) : laws_eqReceiver a a = some (true, ()) := by
  unfold laws_eqReceiver
  have hs : szT tReceiver a = szT (.sl byte) a.1 := by simp only [szT, Nat.add_zero, Nat.zero_add, Nat.add_assoc]
  simp only [bne_self_eq_false', cond_false, Bool.not_true, Option.bind_some, eqByteS_ok a.1 (by omega)]

theorem eqHalves_ok (a : THalves) (hz : szT tHalves a ≤ big40) : laws_eqHalves a a = some (true, ()) := by
  unfold laws_eqHalves
  have hs : szT tHalves a = szT tBoard a.1 + (szT tReceiver a.2.1) := by simp only [szT, Nat.add_zero, Nat.zero_add, Nat.add_assoc]
  simp only [bne_self_eq_false', cond_false, Bool.not_true, Option.bind_some, eqBoard_ok a.1 (by omega), eqReceiver_ok a.2.1 (by omega)]

theorem markByteS_ok (a : (List Int)) (k : Nat) (hk : k + 8 * szT (.sl byte) a ≤ big40) : ∃ (a' : (List Int)) (k' : Nat), k ≤ k' ∧ k' ≤ k + 8 * szT (.sl byte) a ∧ laws_markByteS a (k : Int) = some (a', ((k' : Int), ())) ∧ laws_heldByteS a' (k : Int) = some ((k' : Int), ()) ∧ kf (.sl byte) a a' := by
  have h40 : big40 = 1099511627776 := rfl
  by_cases hlen : List.length a < 9223372036854775807
  case neg => exfalso; have h1 : List.length a ≤ szT (.sl byte) a := Nat.le_add_right _ _; omega
  have hsum : (List.map (fun x => 8 + 8 * szT byte x) a).sum = 8 * szT (.sl byte) a := sum8 _ _
  have hx := mark_held (stepM := fun x : (TL1Cur × Unit) => laws_markByteS_2_R x.1.1 x.1.2.1 x.1.2.2.1) (stepH := fun x : (TL1Cur × Unit) => laws_heldByteS_2_R x.1.1 x.1.2.1 x.1.2.2.1) (fun x => 8 + 8 * szT byte x) big40 (fun o k i => ((o, k, i, ()), ())) (fun o k => .inl ((o, k, ()), ())) (fun o k i => ((o, k, i, ()), ())) (fun _ k => .inl ((k, ()), ())) (by
      intro o k i hi hB
      have hw : IntKind.wrap .i64 (((k : Nat) : Int) + 1) = (((k + 1) : Nat) : Int) := wrap_succ (by omega)
      refine ⟨(Go.IntKind.wrap .u8 ((k : Nat) : Int)), k + 1, by omega, by omega, ?_, ?_⟩
      · simp only [laws_markByteS_2_R]
        rw [dec_true (show (i : Int) < (List.length o : Int) by omega)]
        simp only [hw, cond_true, inb_nat, List.length_set, dec_true hi, Int.toNat_natCast, List.getElem?_eq_getElem hi, List.getElem?_set_self hi, Option.bind_some, List.set_set, z3, cond_false]
      · intro o2 hi2 h2
        simp only [laws_heldByteS_2_R]
        rw [dec_true (show (i : Int) < (List.length o2 : Int) by omega), idx_lt hi2, h2]
        simp only [hw, cond_true, Option.bind_some, bne_self_eq_false', cond_false, z3]) (by
      intro o k
      simp only [laws_markByteS_2_R]
      rw [dec_false (by omega)]
      rfl) (by
      intro o k
      simp only [laws_heldByteS_2_R]
      rw [dec_false (by omega)]
      rfl) a k (by rw [hsum]; exact hk) hlen
  obtain ⟨o, k1, h1, h2, _, h4, h5⟩ := hx
  rw [hsum] at h2
  refine ⟨o, k1, h1, h2, ?_, ?_, trivial⟩
  · unfold laws_markByteS laws_markByteS_2_loop
    erw [h4]
    rfl
  · unfold laws_heldByteS laws_heldByteS_2_loop
    erw [h5]
    rfl

theorem markIntS_ok (a : (List Int)) (k : Nat) (hk : k + 8 * szT (.sl int) a ≤ big40) : ∃ (a' : (List Int)) (k' : Nat), k ≤ k' ∧ k' ≤ k + 8 * szT (.sl int) a ∧ laws_markIntS a (k : Int) = some (a', ((k' : Int), ())) ∧ laws_heldIntS a' (k : Int) = some ((k' : Int), ()) ∧ kf (.sl int) a a' := by
  have h40 : big40 = 1099511627776 := rfl
  by_cases hlen : List.length a < 9223372036854775807
  case neg => exfalso; have h1 : List.length a ≤ szT (.sl int) a := Nat.le_add_right _ _; omega
  have hsum : (List.map (fun x => 8 + 8 * szT int x) a).sum = 8 * szT (.sl int) a := sum8 _ _
  have hx := mark_held (stepM := fun x : (((List Int) × TCombo) × Unit) => laws_markIntS_2_R x.1.1 x.1.2.1 x.1.2.2.1) (stepH := fun x : (((List Int) × TCombo) × Unit) => laws_heldIntS_2_R x.1.1 x.1.2.1 x.1.2.2.1) (fun x => 8 + 8 * szT int x) big40 (fun o k i => ((o, k, i, ()), ())) (fun o k => .inl ((o, k, ()), ())) (fun o k i => ((o, k, i, ()), ())) (fun _ k => .inl ((k, ()), ())) (by
      intro o k i hi hB
      have hw : IntKind.wrap .i64 (((k : Nat) : Int) + 1) = (((k + 1) : Nat) : Int) := wrap_succ (by omega)
      refine ⟨((k : Nat) : Int), k + 1, by omega, by omega, ?_, ?_⟩
      · simp only [laws_markIntS_2_R]
        rw [dec_true (show (i : Int) < (List.length o : Int) by omega)]
        simp only [hw, cond_true, inb_nat, List.length_set, dec_true hi, Int.toNat_natCast, List.getElem?_eq_getElem hi, List.getElem?_set_self hi, Option.bind_some, List.set_set, z3, cond_false]
      · intro o2 hi2 h2
        simp only [laws_heldIntS_2_R]
        rw [dec_true (show (i : Int) < (List.length o2 : Int) by omega), idx_lt hi2, h2]
        simp only [hw, cond_true, Option.bind_some, bne_self_eq_false', cond_false, z3]) (by
      intro o k
      simp only [laws_markIntS_2_R]
      rw [dec_false (by omega)]
      rfl) (by
      intro o k
      simp only [laws_heldIntS_2_R]
      rw [dec_false (by omega)]
      rfl) a k (by rw [hsum]; exact hk) hlen
  obtain ⟨o, k1, h1, h2, _, h4, h5⟩ := hx
  rw [hsum] at h2
  refine ⟨o, k1, h1, h2, ?_, ?_, trivial⟩
  · unfold laws_markIntS laws_markIntS_2_loop
    erw [h4]
    rfl
  · unfold laws_heldIntS laws_heldIntS_2_loop
    erw [h5]
    rfl

theorem markActionS_ok (a : (List TAction)) (k : Nat) (hk : k + 8 * szT (.sl tAction) a ≤ big40) : ∃ (a' : (List TAction)) (k' : Nat), k ≤ k' ∧ k' ≤ k + 8 * szT (.sl tAction) a ∧ laws_markActionS a (k : Int) = some (a', ((k' : Int), ())) ∧ laws_heldActionS a' (k : Int) = some ((k' : Int), ()) ∧ kf (.sl tAction) a a' := by
  have h40 : big40 = 1099511627776 := rfl
  by_cases hlen : List.length a < 9223372036854775807
  case neg => exfalso; have h1 : List.length a ≤ szT (.sl tAction) a := Nat.le_add_right _ _; omega
  have hsum : (List.map (fun x => 8 + 8 * szT tAction x) a).sum = 8 * szT (.sl tAction) a := sum8 _ _
  have hx := mark_held (stepM := fun x : (((List TAction) × TCombo) × Unit) => laws_markActionS_2_R x.1.1 x.1.2.1 x.1.2.2.1) (stepH := fun x : (((List TAction) × TCombo) × Unit) => laws_heldActionS_2_R x.1.1 x.1.2.1 x.1.2.2.1) (fun x => 8 + 8 * szT tAction x) big40 (fun o k i => ((o, k, i, ()), ())) (fun o k => .inl ((o, k, ()), ())) (fun o k i => ((o, k, i, ()), ())) (fun _ k => .inl ((k, ()), ())) (by
      intro o k i hi hB
      have hw : IntKind.wrap .i64 (((k : Nat) : Int) + 1) = (((k + 1) : Nat) : Int) ∧ IntKind.wrap .i64 ((((k + 1) : Nat) : Int) + 1) = (((k + 2) : Nat) : Int) ∧ IntKind.wrap .i64 ((((k + 2) : Nat) : Int) + 1) = (((k + 3) : Nat) : Int) ∧ IntKind.wrap .i64 ((((k + 3) : Nat) : Int) + 1) = (((k + 4) : Nat) : Int) := ⟨wrap_succ (show k < 9223372036854775807 by omega), wrap_succ (show (k + 1) < 9223372036854775807 by omega), wrap_succ (show (k + 2) < 9223372036854775807 by omega), wrap_succ (show (k + 3) < 9223372036854775807 by omega)⟩
      obtain ⟨w0, w1, w2, w3⟩ := hw
      refine ⟨(((k : Nat) : Int), (((k + 1) : Nat) : Int), (((k + 2) : Nat) : Int), (((k + 3) : Nat) : Int), ()), k + 4, by omega, by omega, ?_, ?_⟩
      · simp only [laws_markActionS_2_R]
        rw [dec_true (show (i : Int) < (List.length o : Int) by omega)]
        simp only [w0, w1, w2, w3, cond_true, inb_nat, List.length_set, dec_true hi, Int.toNat_natCast, List.getElem?_eq_getElem hi, List.getElem?_set_self hi, Option.bind_some, List.set_set, z3, cond_false]
      · intro o2 hi2 h2
        simp only [laws_heldActionS_2_R]
        rw [dec_true (show (i : Int) < (List.length o2 : Int) by omega), idx_lt hi2, h2]
        simp only [w0, w1, w2, w3, cond_true, Option.bind_some, bne_self_eq_false', cond_false, z3]) (by
      intro o k
      simp only [laws_markActionS_2_R]
      rw [dec_false (by omega)]
      rfl) (by
      intro o k
      simp only [laws_heldActionS_2_R]
      rw [dec_false (by omega)]
      rfl) a k (by rw [hsum]; exact hk) hlen
  obtain ⟨o, k1, h1, h2, _, h4, h5⟩ := hx
  rw [hsum] at h2
  refine ⟨o, k1, h1, h2, ?_, ?_, trivial⟩
  · unfold laws_markActionS laws_markActionS_2_loop
    erw [h4]
    rfl
  · unfold laws_heldActionS laws_heldActionS_2_loop
    erw [h5]
    rfl

theorem markActionSS_ok (a : (List (List TAction))) (k : Nat) (hk : k + 8 * szT (.sl (.sl tAction)) a ≤ big40) : ∃ (a' : (List (List TAction))) (k' : Nat), k ≤ k' ∧ k' ≤ k + 8 * szT (.sl (.sl tAction)) a ∧ laws_markActionSS a (k : Int) = some (a', ((k' : Int), ())) ∧ laws_heldActionSS a' (k : Int) = some ((k' : Int), ()) ∧ kf (.sl (.sl tAction)) a a' := by
  have h40 : big40 = 1099511627776 := rfl
  by_cases hlen : List.length a < 9223372036854775807
  case neg => exfalso; have h1 : List.length a ≤ szT (.sl (.sl tAction)) a := Nat.le_add_right _ _; omega
  have hsum : (List.map (fun x => 8 + 8 * szT (.sl tAction) x) a).sum = 8 * szT (.sl (.sl tAction)) a := sum8 _ _
  have hx := mark_held (stepM := fun x : (((List (List TAction)) × TCombo) × Unit) => laws_markActionSS_2_R x.1.1 x.1.2.1 x.1.2.2.1) (stepH := fun x : (((List (List TAction)) × TCombo) × Unit) => laws_heldActionSS_2_R x.1.1 x.1.2.1 x.1.2.2.1) (fun x => 8 + 8 * szT (.sl tAction) x) big40 (fun o k i => ((o, k, i, ()), ())) (fun o k => .inl ((o, k, ()), ())) (fun o k i => ((o, k, i, ()), ())) (fun _ k => .inl ((k, ()), ())) (by
      intro o k i hi hB
      obtain ⟨y0, k0, g0, i0, m0, n0, _⟩ := markActionS_ok o[i] k (by omega)
      have d0 : decide ((k0 : Int) < 0) = false := dec_false (by omega)
      refine ⟨y0, k0, by omega, by omega, ?_, ?_⟩
      · simp only [laws_markActionSS_2_R]
        rw [dec_true (show (i : Int) < (List.length o : Int) by omega)]
        simp only [m0, cond_true, inb_nat, List.length_set, dec_true hi, Int.toNat_natCast, List.getElem?_eq_getElem hi, List.getElem?_set_self hi, Option.bind_some, List.set_set, z3, cond_false]
      · intro o2 hi2 h2
        simp only [laws_heldActionSS_2_R]
        rw [dec_true (show (i : Int) < (List.length o2 : Int) by omega), idx_lt hi2, h2]
        simp only [n0, d0, cond_true, Option.bind_some, bne_self_eq_false', cond_false, z3]) (by
      intro o k
      simp only [laws_markActionSS_2_R]
      rw [dec_false (by omega)]
      rfl) (by
      intro o k
      simp only [laws_heldActionSS_2_R]
      rw [dec_false (by omega)]
      rfl) a k (by rw [hsum]; exact hk) hlen
  obtain ⟨o, k1, h1, h2, _, h4, h5⟩ := hx
  rw [hsum] at h2
  refine ⟨o, k1, h1, h2, ?_, ?_, trivial⟩
  · unfold laws_markActionSS laws_markActionSS_2_loop
    erw [h4]
    rfl
  · unfold laws_heldActionSS laws_heldActionSS_2_loop
    erw [h5]
    rfl

theorem markKeymap_ok (a : TKeymap) (k : Nat) (hk : k + 8 * szT tKeymap a ≤ big40) : ∃ (a' : TKeymap) (k' : Nat), k ≤ k' ∧ k' ≤ k + 8 * szT tKeymap a ∧ laws_markKeymap a (k : Int) = some (a', ((k' : Int), ())) ∧ laws_heldKeymap a' (k : Int) = some ((k' : Int), ()) ∧ kf tKeymap a a' := by
  have h40 : big40 = 1099511627776 := rfl
  have hs : szT tKeymap a = szT (.sl (.sl tAction)) a.2.1 := by simp only [szT, Nat.add_zero, Nat.zero_add, Nat.add_assoc]
  obtain ⟨x0, k0, g0, i0, m0, n0, f0⟩ := markActionSS_ok a.2.1 k (by omega)
  refine ⟨(a.1, x0, ()), k0, by omega, by omega, ?_, ?_, kf_refl _ _, f0, rfl⟩
  · unfold laws_markKeymap
    simp only [m0, Option.bind_some]
  · unfold laws_heldKeymap
    simp only [n0, Option.bind_some]
    rw [dec_false (by omega)]
    simp only [cond_false]

theorem markEventS_ok (a : (List TEvent)) (k : Nat) (hk : k + 8 * szT (.sl tEvent) a ≤ big40) : ∃ (a' : (List TEvent)) (k' : Nat), k ≤ k' ∧ k' ≤ k + 8 * szT (.sl tEvent) a ∧ laws_markEventS a (k : Int) = some (a', ((k' : Int), ())) ∧ laws_heldEventS a' (k : Int) = some ((k' : Int), ()) ∧ kf (.sl tEvent) a a' := by
  have h40 : big40 = 1099511627776 := rfl
  by_cases hlen : List.length a < 9223372036854775807
  case neg => exfalso; have h1 : List.length a ≤ szT (.sl tEvent) a := Nat.le_add_right _ _; omega
  have hsum : (List.map (fun x => 8 + 8 * szT tEvent x) a).sum = 8 * szT (.sl tEvent) a := sum8 _ _
  have hx := mark_held (stepM := fun x : (((List TEvent) × TCombo) × Unit) => laws_markEventS_2_R x.1.1 x.1.2.1 x.1.2.2.1) (stepH := fun x : (((List TEvent) × TCombo) × Unit) => laws_heldEventS_2_R x.1.1 x.1.2.1 x.1.2.2.1) (fun x => 8 + 8 * szT tEvent x) big40 (fun o k i => ((o, k, i, ()), ())) (fun o k => .inl ((o, k, ()), ())) (fun o k i => ((o, k, i, ()), ())) (fun _ k => .inl ((k, ()), ())) (by
      intro o k i hi hB
      have hw : IntKind.wrap .i64 (((k : Nat) : Int) + 1) = (((k + 1) : Nat) : Int) ∧ IntKind.wrap .i64 ((((k + 1) : Nat) : Int) + 1) = (((k + 2) : Nat) : Int) ∧ IntKind.wrap .i64 ((((k + 2) : Nat) : Int) + 1) = (((k + 3) : Nat) : Int) := ⟨wrap_succ (show k < 9223372036854775807 by omega), wrap_succ (show (k + 1) < 9223372036854775807 by omega), wrap_succ (show (k + 2) < 9223372036854775807 by omega)⟩
      obtain ⟨w0, w1, w2⟩ := hw
      refine ⟨(((k : Nat) : Int), (((k + 1) : Nat) : Int), (Int.tmod (((k + 2) : Nat) : Int) 3 == 0), ()), k + 3, by omega, by omega, ?_, ?_⟩
      · simp only [laws_markEventS_2_R]
        rw [dec_true (show (i : Int) < (List.length o : Int) by omega)]
        simp only [w0, w1, w2, cond_true, inb_nat, List.length_set, dec_true hi, Int.toNat_natCast, List.getElem?_eq_getElem hi, List.getElem?_set_self hi, Option.bind_some, List.set_set, z3, cond_false]
      · intro o2 hi2 h2
        simp only [laws_heldEventS_2_R]
        rw [dec_true (show (i : Int) < (List.length o2 : Int) by omega), idx_lt hi2, h2]
        simp only [w0, w1, w2, cond_true, Option.bind_some, bne_self_eq_false', cond_false, z3]) (by
      intro o k
      simp only [laws_markEventS_2_R]
      rw [dec_false (by omega)]
      rfl) (by
      intro o k
      simp only [laws_heldEventS_2_R]
      rw [dec_false (by omega)]
      rfl) a k (by rw [hsum]; exact hk) hlen
  obtain ⟨o, k1, h1, h2, _, h4, h5⟩ := hx
  rw [hsum] at h2
  refine ⟨o, k1, h1, h2, ?_, ?_, trivial⟩
  · unfold laws_markEventS laws_markEventS_2_loop
    erw [h4]
    rfl
  · unfold laws_heldEventS laws_heldEventS_2_loop
    erw [h5]
    rfl

theorem markDebouncer_ok (a : TDebouncer) (k : Nat) (hk : k + 8 * szT tDebouncer a ≤ big40) : ∃ (a' : TDebouncer) (k' : Nat), k ≤ k' ∧ k' ≤ k + 8 * szT tDebouncer a ∧ laws_markDebouncer a (k : Int) = some (a', ((k' : Int), ())) ∧ laws_heldDebouncer a' (k : Int) = some ((k' : Int), ()) ∧ kf tDebouncer a a' := by
  have h40 : big40 = 1099511627776 := rfl
  have hs : szT tDebouncer a = szT (.sl int) a.2.2.2.2.2.1 := by simp only [szT, Nat.add_zero, Nat.zero_add, Nat.add_assoc]
  obtain ⟨x0, k0, g0, i0, m0, n0, f0⟩ := markIntS_ok a.2.2.2.2.2.1 k (by omega)
  refine ⟨(a.1, a.2.1, a.2.2.1, a.2.2.2.1, a.2.2.2.2.1, x0, ()), k0, by omega, by omega, ?_, ?_, kf_refl _ _, kf_refl _ _, kf_refl _ _, kf_refl _ _, kf_refl _ _, f0, rfl⟩
  · unfold laws_markDebouncer
    simp only [m0, Option.bind_some]
  · unfold laws_heldDebouncer
    simp only [n0, Option.bind_some]
    rw [dec_false (by omega)]
    simp only [cond_false]

theorem markComboS_ok (a : (List TCombo)) (k : Nat) (hk : k + 8 * szT (.sl tCombo) a ≤ big40) : ∃ (a' : (List TCombo)) (k' : Nat), k ≤ k' ∧ k' ≤ k + 8 * szT (.sl tCombo) a ∧ laws_markComboS a (k : Int) = some (a', ((k' : Int), ())) ∧ laws_heldComboS a' (k : Int) = some ((k' : Int), ()) ∧ kf (.sl tCombo) a a' := by
  have h40 : big40 = 1099511627776 := rfl
  by_cases hlen : List.length a < 9223372036854775807
  case neg => exfalso; have h1 : List.length a ≤ szT (.sl tCombo) a := Nat.le_add_right _ _; omega
  have hsum : (List.map (fun x => 8 + 8 * szT tCombo x) a).sum = 8 * szT (.sl tCombo) a := sum8 _ _
  have hx := mark_held (stepM := fun x : (((List TCombo) × TCombo) × Unit) => laws_markComboS_2_R x.1.1 x.1.2.1 x.1.2.2.1) (stepH := fun x : (((List TCombo) × TCombo) × Unit) => laws_heldComboS_2_R x.1.1 x.1.2.1 x.1.2.2.1) (fun x => 8 + 8 * szT tCombo x) big40 (fun o k i => ((o, k, i, ()), ())) (fun o k => .inl ((o, k, ()), ())) (fun o k i => ((o, k, i, ()), ())) (fun _ k => .inl ((k, ()), ())) (by
      intro o k i hi hB
      have hw : IntKind.wrap .i64 (((k : Nat) : Int) + 1) = (((k + 1) : Nat) : Int) ∧ IntKind.wrap .i64 ((((k + 1) : Nat) : Int) + 1) = (((k + 2) : Nat) : Int) := ⟨wrap_succ (show k < 9223372036854775807 by omega), wrap_succ (show (k + 1) < 9223372036854775807 by omega)⟩
      obtain ⟨w0, w1⟩ := hw
      refine ⟨(((k : Nat) : Int), (((k + 1) : Nat) : Int), ()), k + 2, by omega, by omega, ?_, ?_⟩
      · simp only [laws_markComboS_2_R]
        rw [dec_true (show (i : Int) < (List.length o : Int) by omega)]
        simp only [w0, w1, cond_true, inb_nat, List.length_set, dec_true hi, Int.toNat_natCast, List.getElem?_eq_getElem hi, List.getElem?_set_self hi, Option.bind_some, List.set_set, z3, cond_false]
      · intro o2 hi2 h2
        simp only [laws_heldComboS_2_R]
        rw [dec_true (show (i : Int) < (List.length o2 : Int) by omega), idx_lt hi2, h2]
        simp only [w0, w1, cond_true, Option.bind_some, bne_self_eq_false', cond_false, z3]) (by
      intro o k
      simp only [laws_markComboS_2_R]
      rw [dec_false (by omega)]
      rfl) (by
      intro o k
      simp only [laws_heldComboS_2_R]
      rw [dec_false (by omega)]
      rfl) a k (by rw [hsum]; exact hk) hlen
  obtain ⟨o, k1, h1, h2, _, h4, h5⟩ := hx
  rw [hsum] at h2
  refine ⟨o, k1, h1, h2, ?_, ?_, trivial⟩
  · unfold laws_markComboS laws_markComboS_2_loop
    erw [h4]
    rfl
  · unfold laws_heldComboS laws_heldComboS_2_loop
    erw [h5]
    rfl

theorem markActiveS_ok (a : (List TEvent)) (k : Nat) (hk : k + 8 * szT (.sl tEvent) a ≤ big40) : ∃ (a' : (List TEvent)) (k' : Nat), k ≤ k' ∧ k' ≤ k + 8 * szT (.sl tEvent) a ∧ laws_markActiveS a (k : Int) = some (a', ((k' : Int), ())) ∧ laws_heldActiveS a' (k : Int) = some ((k' : Int), ()) ∧ kf (.sl tEvent) a a' := by
  have h40 : big40 = 1099511627776 := rfl
  by_cases hlen : List.length a < 9223372036854775807
  case neg => exfalso; have h1 : List.length a ≤ szT (.sl tEvent) a := Nat.le_add_right _ _; omega
  have hsum : (List.map (fun x => 8 + 8 * szT tEvent x) a).sum = 8 * szT (.sl tEvent) a := sum8 _ _
  have hx := mark_held (stepM := fun x : (((List TEvent) × TCombo) × Unit) => laws_markActiveS_2_R x.1.1 x.1.2.1 x.1.2.2.1) (stepH := fun x : (((List TEvent) × TCombo) × Unit) => laws_heldActiveS_2_R x.1.1 x.1.2.1 x.1.2.2.1) (fun x => 8 + 8 * szT tEvent x) big40 (fun o k i => ((o, k, i, ()), ())) (fun o k => .inl ((o, k, ()), ())) (fun o k i => ((o, k, i, ()), ())) (fun _ k => .inl ((k, ()), ())) (by
      intro o k i hi hB
      have hw : IntKind.wrap .i64 (((k : Nat) : Int) + 1) = (((k + 1) : Nat) : Int) ∧ IntKind.wrap .i64 ((((k + 1) : Nat) : Int) + 1) = (((k + 2) : Nat) : Int) ∧ IntKind.wrap .i64 ((((k + 2) : Nat) : Int) + 1) = (((k + 3) : Nat) : Int) := ⟨wrap_succ (show k < 9223372036854775807 by omega), wrap_succ (show (k + 1) < 9223372036854775807 by omega), wrap_succ (show (k + 2) < 9223372036854775807 by omega)⟩
      obtain ⟨w0, w1, w2⟩ := hw
      refine ⟨(((k : Nat) : Int), (((k + 1) : Nat) : Int), (Int.tmod (((k + 2) : Nat) : Int) 3 == 0), ()), k + 3, by omega, by omega, ?_, ?_⟩
      · simp only [laws_markActiveS_2_R]
        rw [dec_true (show (i : Int) < (List.length o : Int) by omega)]
        simp only [w0, w1, w2, cond_true, inb_nat, List.length_set, dec_true hi, Int.toNat_natCast, List.getElem?_eq_getElem hi, List.getElem?_set_self hi, Option.bind_some, List.set_set, z3, cond_false]
      · intro o2 hi2 h2
        simp only [laws_heldActiveS_2_R]
        rw [dec_true (show (i : Int) < (List.length o2 : Int) by omega), idx_lt hi2, h2]
        simp only [w0, w1, w2, cond_true, Option.bind_some, bne_self_eq_false', cond_false, z3]) (by
      intro o k
      simp only [laws_markActiveS_2_R]
      rw [dec_false (by omega)]
      rfl) (by
      intro o k
      simp only [laws_heldActiveS_2_R]
      rw [dec_false (by omega)]
      rfl) a k (by rw [hsum]; exact hk) hlen
  obtain ⟨o, k1, h1, h2, _, h4, h5⟩ := hx
  rw [hsum] at h2
  refine ⟨o, k1, h1, h2, ?_, ?_, trivial⟩
  · unfold laws_markActiveS laws_markActiveS_2_loop
    erw [h4]
    rfl
  · unfold laws_heldActiveS laws_heldActiveS_2_loop
    erw [h5]
    rfl

theorem markCombiner_ok (a : TCombiner) (k : Nat) (hk : k + 8 * szT tCombiner a ≤ big40) : ∃ (a' : TCombiner) (k' : Nat), k ≤ k' ∧ k' ≤ k + 8 * szT tCombiner a ∧ laws_markCombiner a (k : Int) = some (a', ((k' : Int), ())) ∧ laws_heldCombiner a' (k : Int) = some ((k' : Int), ()) ∧ kf tCombiner a a' := by
  have h40 : big40 = 1099511627776 := rfl
  have hs : szT tCombiner a = szT (.sl tCombo) a.1 + (szT (.sl tEvent) a.2.2.1 + (szT (.sl tEvent) a.2.2.2.2.2.2.1)) := by simp only [szT, Nat.add_zero, Nat.zero_add, Nat.add_assoc]
  obtain ⟨x0, k0, g0, i0, m0, n0, f0⟩ := markComboS_ok a.1 k (by omega)
  obtain ⟨x1, k1, g1, i1, m1, n1, f1⟩ := markEventS_ok a.2.2.1 k0 (by omega)
  obtain ⟨x2, k2, g2, i2, m2, n2, f2⟩ := markActiveS_ok a.2.2.2.2.2.2.1 k1 (by omega)
  refine ⟨(x0, a.2.1, x1, a.2.2.2.1, a.2.2.2.2.1, a.2.2.2.2.2.1, x2, ()), k2, by omega, by omega, ?_, ?_, f0, kf_refl _ _, f1, kf_refl _ _, kf_refl _ _, kf_refl _ _, f2, rfl⟩
  · unfold laws_markCombiner
    simp only [m0, m1, m2, Option.bind_some]
  · unfold laws_heldCombiner
    simp only [n0, Option.bind_some]
    rw [dec_false (by omega)]
    simp only [cond_false]
    simp only [n1, Option.bind_some]
    rw [dec_false (by omega)]
    simp only [cond_false]
    simp only [n2, Option.bind_some]
    rw [dec_false (by omega)]
    simp only [cond_false]

theorem markStepS_ok (a : (List TStep)) (k : Nat) (hk : k + 8 * szT (.sl tStep) a ≤ big40) : ∃ (a' : (List TStep)) (k' : Nat), k ≤ k' ∧ k' ≤ k + 8 * szT (.sl tStep) a ∧ laws_markStepS a (k : Int) = some (a', ((k' : Int), ())) ∧ laws_heldStepS a' (k : Int) = some ((k' : Int), ()) ∧ kf (.sl tStep) a a' := by
  have h40 : big40 = 1099511627776 := rfl
  by_cases hlen : List.length a < 9223372036854775807
  case neg => exfalso; have h1 : List.length a ≤ szT (.sl tStep) a := Nat.le_add_right _ _; omega
  have hsum : (List.map (fun x => 8 + 8 * szT tStep x) a).sum = 8 * szT (.sl tStep) a := sum8 _ _
  have hx := mark_held (stepM := fun x : (((List TStep) × TCombo) × Unit) => laws_markStepS_2_R x.1.1 x.1.2.1 x.1.2.2.1) (stepH := fun x : (((List TStep) × TCombo) × Unit) => laws_heldStepS_2_R x.1.1 x.1.2.1 x.1.2.2.1) (fun x => 8 + 8 * szT tStep x) big40 (fun o k i => ((o, k, i, ()), ())) (fun o k => .inl ((o, k, ()), ())) (fun o k i => ((o, k, i, ()), ())) (fun _ k => .inl ((k, ()), ())) (by
      intro o k i hi hB
      have hw : IntKind.wrap .i64 (((k : Nat) : Int) + 1) = (((k + 1) : Nat) : Int) ∧ IntKind.wrap .i64 ((((k + 1) : Nat) : Int) + 1) = (((k + 2) : Nat) : Int) ∧ IntKind.wrap .i64 ((((k + 2) : Nat) : Int) + 1) = (((k + 3) : Nat) : Int) := ⟨wrap_succ (show k < 9223372036854775807 by omega), wrap_succ (show (k + 1) < 9223372036854775807 by omega), wrap_succ (show (k + 2) < 9223372036854775807 by omega)⟩
      obtain ⟨w0, w1, w2⟩ := hw
      refine ⟨(((k : Nat) : Int), (((k + 1) : Nat) : Int), (((k + 2) : Nat) : Int), ()), k + 3, by omega, by omega, ?_, ?_⟩
      · simp only [laws_markStepS_2_R]
        rw [dec_true (show (i : Int) < (List.length o : Int) by omega)]
        simp only [w0, w1, w2, cond_true, inb_nat, List.length_set, dec_true hi, Int.toNat_natCast, List.getElem?_eq_getElem hi, List.getElem?_set_self hi, Option.bind_some, List.set_set, z3, cond_false]
      · intro o2 hi2 h2
        simp only [laws_heldStepS_2_R]
        rw [dec_true (show (i : Int) < (List.length o2 : Int) by omega), idx_lt hi2, h2]
        simp only [w0, w1, w2, cond_true, Option.bind_some, bne_self_eq_false', cond_false, z3]) (by
      intro o k
      simp only [laws_markStepS_2_R]
      rw [dec_false (by omega)]
      rfl) (by
      intro o k
      simp only [laws_heldStepS_2_R]
      rw [dec_false (by omega)]
      rfl) a k (by rw [hsum]; exact hk) hlen
  obtain ⟨o, k1, h1, h2, _, h4, h5⟩ := hx
  rw [hsum] at h2
  refine ⟨o, k1, h1, h2, ?_, ?_, trivial⟩
  · unfold laws_markStepS laws_markStepS_2_loop
    erw [h4]
    rfl
  · unfold laws_heldStepS laws_heldStepS_2_loop
    erw [h5]
    rfl

theorem markStepSS_ok (a : (List (List TStep))) (k : Nat) (hk : k + 8 * szT (.sl (.sl tStep)) a ≤ big40) : ∃ (a' : (List (List TStep))) (k' : Nat), k ≤ k' ∧ k' ≤ k + 8 * szT (.sl (.sl tStep)) a ∧ laws_markStepSS a (k : Int) = some (a', ((k' : Int), ())) ∧ laws_heldStepSS a' (k : Int) = some ((k' : Int), ()) ∧ kf (.sl (.sl tStep)) a a' := by
  have h40 : big40 = 1099511627776 := rfl
  by_cases hlen : List.length a < 9223372036854775807
  case neg => exfalso; have h1 : List.length a ≤ szT (.sl (.sl tStep)) a := Nat.le_add_right _ _; omega
  have hsum : (List.map (fun x => 8 + 8 * szT (.sl tStep) x) a).sum = 8 * szT (.sl (.sl tStep)) a := sum8 _ _
  have hx := mark_held (stepM := fun x : (((List (List TStep)) × TCombo) × Unit) => laws_markStepSS_2_R x.1.1 x.1.2.1 x.1.2.2.1) (stepH := fun x : (((List (List TStep)) × TCombo) × Unit) => laws_heldStepSS_2_R x.1.1 x.1.2.1 x.1.2.2.1) (fun x => 8 + 8 * szT (.sl tStep) x) big40 (fun o k i => ((o, k, i, ()), ())) (fun o k => .inl ((o, k, ()), ())) (fun o k i => ((o, k, i, ()), ())) (fun _ k => .inl ((k, ()), ())) (by
      intro o k i hi hB
      obtain ⟨y0, k0, g0, i0, m0, n0, _⟩ := markStepS_ok o[i] k (by omega)
      have d0 : decide ((k0 : Int) < 0) = false := dec_false (by omega)
      refine ⟨y0, k0, by omega, by omega, ?_, ?_⟩
      · simp only [laws_markStepSS_2_R]
        rw [dec_true (show (i : Int) < (List.length o : Int) by omega)]
        simp only [m0, cond_true, inb_nat, List.length_set, dec_true hi, Int.toNat_natCast, List.getElem?_eq_getElem hi, List.getElem?_set_self hi, Option.bind_some, List.set_set, z3, cond_false]
      · intro o2 hi2 h2
        simp only [laws_heldStepSS_2_R]
        rw [dec_true (show (i : Int) < (List.length o2 : Int) by omega), idx_lt hi2, h2]
        simp only [n0, d0, cond_true, Option.bind_some, bne_self_eq_false', cond_false, z3]) (by
      intro o k
      simp only [laws_markStepSS_2_R]
      rw [dec_false (by omega)]
      rfl) (by
      intro o k
      simp only [laws_heldStepSS_2_R]
      rw [dec_false (by omega)]
      rfl) a k (by rw [hsum]; exact hk) hlen
  obtain ⟨o, k1, h1, h2, _, h4, h5⟩ := hx
  rw [hsum] at h2
  refine ⟨o, k1, h1, h2, ?_, ?_, trivial⟩
  · unfold laws_markStepSS laws_markStepSS_2_loop
    erw [h4]
    rfl
  · unfold laws_heldStepSS laws_heldStepSS_2_loop
    erw [h5]
    rfl

theorem markHeldS_ok (a : (List THeld)) (k : Nat) (hk : k + 8 * szT (.sl tHeld) a ≤ big40) : ∃ (a' : (List THeld)) (k' : Nat), k ≤ k' ∧ k' ≤ k + 8 * szT (.sl tHeld) a ∧ laws_markHeldS a (k : Int) = some (a', ((k' : Int), ())) ∧ laws_heldHeldS a' (k : Int) = some ((k' : Int), ()) ∧ kf (.sl tHeld) a a' := by
  have h40 : big40 = 1099511627776 := rfl
  by_cases hlen : List.length a < 9223372036854775807
  case neg => exfalso; have h1 : List.length a ≤ szT (.sl tHeld) a := Nat.le_add_right _ _; omega
  have hsum : (List.map (fun x => 8 + 8 * szT tHeld x) a).sum = 8 * szT (.sl tHeld) a := sum8 _ _
  have hx := mark_held (stepM := fun x : (((List THeld) × TCombo) × Unit) => laws_markHeldS_2_R x.1.1 x.1.2.1 x.1.2.2.1) (stepH := fun x : (((List THeld) × TCombo) × Unit) => laws_heldHeldS_2_R x.1.1 x.1.2.1 x.1.2.2.1) (fun x => 8 + 8 * szT tHeld x) big40 (fun o k i => ((o, k, i, ()), ())) (fun o k => .inl ((o, k, ()), ())) (fun o k i => ((o, k, i, ()), ())) (fun _ k => .inl ((k, ()), ())) (by
      intro o k i hi hB
      have hw : IntKind.wrap .i64 (((k : Nat) : Int) + 1) = (((k + 1) : Nat) : Int) ∧ IntKind.wrap .i64 ((((k + 1) : Nat) : Int) + 1) = (((k + 2) : Nat) : Int) ∧ IntKind.wrap .i64 ((((k + 2) : Nat) : Int) + 1) = (((k + 3) : Nat) : Int) ∧ IntKind.wrap .i64 ((((k + 3) : Nat) : Int) + 1) = (((k + 4) : Nat) : Int) ∧ IntKind.wrap .i64 ((((k + 4) : Nat) : Int) + 1) = (((k + 5) : Nat) : Int) := ⟨wrap_succ (show k < 9223372036854775807 by omega), wrap_succ (show (k + 1) < 9223372036854775807 by omega), wrap_succ (show (k + 2) < 9223372036854775807 by omega), wrap_succ (show (k + 3) < 9223372036854775807 by omega), wrap_succ (show (k + 4) < 9223372036854775807 by omega)⟩
      obtain ⟨w0, w1, w2, w3, w4⟩ := hw
      refine ⟨(((k : Nat) : Int), ((((k + 1) : Nat) : Int), (((k + 2) : Nat) : Int), (((k + 3) : Nat) : Int), (((k + 4) : Nat) : Int), ()), ()), k + 5, by omega, by omega, ?_, ?_⟩
      · simp only [laws_markHeldS_2_R]
        rw [dec_true (show (i : Int) < (List.length o : Int) by omega)]
        simp only [w0, w1, w2, w3, w4, cond_true, inb_nat, List.length_set, dec_true hi, Int.toNat_natCast, List.getElem?_eq_getElem hi, List.getElem?_set_self hi, Option.bind_some, List.set_set, z3, cond_false]
      · intro o2 hi2 h2
        simp only [laws_heldHeldS_2_R]
        rw [dec_true (show (i : Int) < (List.length o2 : Int) by omega), idx_lt hi2, h2]
        simp only [w0, w1, w2, w3, w4, cond_true, Option.bind_some, bne_self_eq_false', cond_false, z3]) (by
      intro o k
      simp only [laws_markHeldS_2_R]
      rw [dec_false (by omega)]
      rfl) (by
      intro o k
      simp only [laws_heldHeldS_2_R]
      rw [dec_false (by omega)]
      rfl) a k (by rw [hsum]; exact hk) hlen
  obtain ⟨o, k1, h1, h2, _, h4, h5⟩ := hx
  rw [hsum] at h2
  refine ⟨o, k1, h1, h2, ?_, ?_, trivial⟩
  · unfold laws_markHeldS laws_markHeldS_2_loop
    erw [h4]
    rfl
  · unfold laws_heldHeldS laws_heldHeldS_2_loop
    erw [h5]
    rfl

theorem markEngine_ok (a : TEngine) (k : Nat) (hk : k + 8 * szT tEngine a ≤ big40) : ∃ (a' : TEngine) (k' : Nat), k ≤ k' ∧ k' ≤ k + 8 * szT tEngine a ∧ laws_markEngine a (k : Int) = some (a', ((k' : Int), ())) ∧ laws_heldEngine a' (k : Int) = some ((k' : Int), ()) ∧ kf tEngine a a' := by
  have h40 : big40 = 1099511627776 := rfl
  have hs : szT tEngine a = szT tKeymap a.1 + (szT (.sl (.sl tStep)) a.2.1 + (szT (.sl tHeld) a.2.2.2.1)) := by simp only [szT, Nat.add_zero, Nat.zero_add, Nat.add_assoc]
  obtain ⟨x0, k0, g0, i0, m0, n0, f0⟩ := markKeymap_ok a.1 k (by omega)
  obtain ⟨x1, k1, g1, i1, m1, n1, f1⟩ := markStepSS_ok a.2.1 k0 (by omega)
  obtain ⟨x2, k2, g2, i2, m2, n2, f2⟩ := markHeldS_ok a.2.2.2.1 k1 (by omega)
  refine ⟨(x0, x1, a.2.2.1, x2, a.2.2.2.2.1, a.2.2.2.2.2.1, ()), k2, by omega, by omega, ?_, ?_, f0, f1, kf_refl _ _, f2, kf_refl _ _, kf_refl _ _, rfl⟩
  · unfold laws_markEngine
    simp only [kf, true_and, and_true] at f0
    simp only [m0, m1, m2, Option.bind_some]
    simp only [Option.some.injEq, Prod.ext_iff, f0, and_self]
  · unfold laws_heldEngine
    simp only [n0, Option.bind_some]
    rw [dec_false (by omega)]
    simp only [cond_false]
    simp only [n1, Option.bind_some]
    rw [dec_false (by omega)]
    simp only [cond_false]
    simp only [n2, Option.bind_some]
    rw [dec_false (by omega)]
    simp only [cond_false]

theorem markDecider_ok (a : TDecider) (k : Nat) (hk : k + 8 * szT tDecider a ≤ big40) : ∃ (a' : TDecider) (k' : Nat), k ≤ k' ∧ k' ≤ k + 8 * szT tDecider a ∧ laws_markDecider a (k : Int) = some (a', ((k' : Int), ())) ∧ laws_heldDecider a' (k : Int) = some ((k' : Int), ()) ∧ kf tDecider a a' := by
  have h40 : big40 = 1099511627776 := rfl
  have hs : szT tDecider a = szT tEngine a.1 + (szT (.sl tEvent) a.2.2.1) := by simp only [szT, Nat.add_zero, Nat.zero_add, Nat.add_assoc]
  obtain ⟨x0, k0, g0, i0, m0, n0, f0⟩ := markEngine_ok a.1 k (by omega)
  obtain ⟨x1, k1, g1, i1, m1, n1, f1⟩ := markEventS_ok a.2.2.1 k0 (by omega)
  refine ⟨(x0, a.2.1, x1, a.2.2.2.1, a.2.2.2.2.1, a.2.2.2.2.2.1, a.2.2.2.2.2.2.1, ()), k1, by omega, by omega, ?_, ?_, f0, kf_refl _ _, f1, kf_refl _ _, kf_refl _ _, kf_refl _ _, kf_refl _ _, rfl⟩
  · unfold laws_markDecider
    simp only [kf, true_and, and_true] at f0
    simp only [m0, m1, Option.bind_some]
    simp only [Option.some.injEq, Prod.ext_iff, f0, and_self]
  · unfold laws_heldDecider
    simp only [n0, Option.bind_some]
    rw [dec_false (by omega)]
    simp only [cond_false]
    simp only [n1, Option.bind_some]
    rw [dec_false (by omega)]
    simp only [cond_false]

theorem markBoard_ok (a : TBoard) (k : Nat) (hk : k + 8 * szT tBoard a ≤ big40) : ∃ (a' : TBoard) (k' : Nat), k ≤ k' ∧ k' ≤ k + 8 * szT tBoard a ∧ laws_markBoard a (k : Int) = some (a', ((k' : Int), ())) ∧ laws_heldBoard a' (k : Int) = some ((k' : Int), ()) ∧ kf tBoard a a' := by
  have h40 : big40 = 1099511627776 := rfl
  have hs : szT tBoard a = szT tDebouncer a.2.1 + (szT tCombiner a.2.2.1 + (szT tDecider a.2.2.2.1)) := by simp only [szT, Nat.add_zero, Nat.zero_add, Nat.add_assoc]
  obtain ⟨x0, k0, g0, i0, m0, n0, f0⟩ := markDebouncer_ok a.2.1 k (by omega)
  obtain ⟨x1, k1, g1, i1, m1, n1, f1⟩ := markCombiner_ok a.2.2.1 k0 (by omega)
  obtain ⟨x2, k2, g2, i2, m2, n2, f2⟩ := markDecider_ok a.2.2.2.1 k1 (by omega)
  refine ⟨(a.1, x0, x1, x2, a.2.2.2.2.1, a.2.2.2.2.2.1, ()), k2, by omega, by omega, ?_, ?_, kf_refl _ _, f0, f1, f2, kf_refl _ _, kf_refl _ _, rfl⟩
  · unfold laws_markBoard
    simp only [kf, true_and, and_true] at f0
    simp only [kf, true_and, and_true] at f1
    simp only [kf, true_and, and_true] at f2
    simp only [m0, m1, m2, Option.bind_some]
    simp only [Option.some.injEq, Prod.ext_iff, f0, f1, f2, and_self]
  · unfold laws_heldBoard
    simp only [n0, Option.bind_some]
    rw [dec_false (by omega)]
    simp only [cond_false]
    simp only [n1, Option.bind_some]
    rw [dec_false (by omega)]
    simp only [cond_false]
    simp only [n2, Option.bind_some]
    rw [dec_false (by omega)]
    simp only [cond_false]

theorem markReceiver_ok (a : TReceiver) (k : Nat) (hk : k + 8 * szT tReceiver a ≤ big40) : ∃ (a' : TReceiver) (k' : Nat), k ≤ k' ∧ k' ≤ k + 8 * szT tReceiver a ∧ laws_markReceiver a (k : Int) = some (a', ((k' : Int), ())) ∧ laws_heldReceiver a' (k : Int) = some ((k' : Int), ()) ∧ kf tReceiver a a' := by
  have h40 : big40 = 1099511627776 := rfl
  have hs : szT tReceiver a = szT (.sl byte) a.1 := by simp only [szT, Nat.add_zero, Nat.zero_add, Nat.add_assoc]
  obtain ⟨x0, k0, g0, i0, m0, n0, f0⟩ := markByteS_ok a.1 k (by omega)
  refine ⟨(x0, a.2.1, a.2.2.1, a.2.2.2.1, ()), k0, by omega, by omega, ?_, ?_, f0, kf_refl _ _, kf_refl _ _, kf_refl _ _, rfl⟩
  · unfold laws_markReceiver
    simp only [m0, Option.bind_some]
  · unfold laws_heldReceiver
    simp only [n0, Option.bind_some]
    rw [dec_false (by omega)]
    simp only [cond_false]

theorem markHalves_ok (a : THalves) (k : Nat) (hk : k + 8 * szT tHalves a ≤ big40) : ∃ (a' : THalves) (k' : Nat), k ≤ k' ∧ k' ≤ k + 8 * szT tHalves a ∧ laws_markHalves a (k : Int) = some (a', ((k' : Int), ())) ∧ laws_heldHalves a' (k : Int) = some ((k' : Int), ()) ∧ kf tHalves a a' := by
  have h40 : big40 = 1099511627776 := rfl
  have hs : szT tHalves a = szT tBoard a.1 + (szT tReceiver a.2.1) := by simp only [szT, Nat.add_zero, Nat.zero_add, Nat.add_assoc]
  obtain ⟨x0, k0, g0, i0, m0, n0, f0⟩ := markBoard_ok a.1 k (by omega)
  obtain ⟨x1, k1, g1, i1, m1, n1, f1⟩ := markReceiver_ok a.2.1 k0 (by omega)
  refine ⟨(x0, x1, a.2.2.1, ()), k1, by omega, by omega, ?_, ?_, f0, f1, kf_refl _ _, rfl⟩
  · unfold laws_markHalves
    simp only [kf, true_and, and_true] at f0
    simp only [kf, true_and, and_true] at f1
    simp only [m0, m1, Option.bind_some]
    simp only [Option.some.injEq, Prod.ext_iff, f0, f1, and_self]
  · unfold laws_heldHalves
    simp only [n0, Option.bind_some]
    rw [dec_false (by omega)]
    simp only [cond_false]
    simp only [n1, Option.bind_some]
    rw [dec_false (by omega)]
    simp only [cond_false]
end KF
