/- Lemmas on the helpers of the laws: sizes, copies, comparisons, marks (conditions: as each lemma tells). -/
import Derived.Test.YtoncbegnhhcgmaaGreatPl
import Derived.Test.YtoncbegnhhcgmaaGreatFns
set_option linter.unusedSimpArgs false
set_option linter.unusedVariables false
namespace KF
open Go
theorem toIntS_ok (a : (List Int)) (hz : szT (.sl int) a ≤ big20) : laws_toIntS a = some (a, ()) := by
  have h20 : big20 = 1048576 := rfl
  have hz' : List.length a + (List.map (szT int) a).sum ≤ big20 := hz
  have hl := copy_loop (step := fun x : (((List Int) × ((List Int) × (Int × Unit))) × Unit) => laws_toIntS_3_R x.1.1 x.1.2.1 x.1.2.2.1) a (zT int) (fun o i => ((a, o, i, ()), ())) (fun o => .inl ((o, ()), ())) (by
      intro k hk o ho
      simp only [laws_toIntS_3_R]
      rw [dec_true (show (k : Int) < (List.length a : Int) by omega), idx_lt hk]
      simp only [cond_true, Option.bind_some]
      rw [inb_nat, dec_true (show k < List.length o by omega)]
      simp [List.getElem?_eq_getElem (show k < List.length o by omega)]) (by
      intro o
      simp [laws_toIntS_3_R]) (by omega)
  unfold laws_toIntS laws_toIntS_3_loop
  rw [make_ok (by rw [lim_eq]; omega)]
  simp only [cond_true]
  rw [show Int.toNat ((List.length a : Nat) : Int) = List.length a by simp]
  erw [hl]
  rfl

theorem eqIntS_ok (a : (List Int)) (hz : szT (.sl int) a ≤ big40) : laws_eqIntS a a = some (true, ()) := by
  have h40 : big40 = 1099511627776 := rfl
  have hz' : List.length a + (List.map (szT int) a).sum ≤ big40 := hz
  have hl := loopF_run (step := fun x : (((List Int) × ((List Int) × (Int × Unit))) × Unit) => laws_eqIntS_4_R x.1.1 x.1.2.1 x.1.2.2.1) (fun k => ((a, a, (k : Int), ()), ())) (List.length a) (.inl ((), ())) (by
      intro k hk
      simp only [laws_eqIntS_4_R]
      rw [dec_true (show (k : Int) < (List.length a : Int) by omega), idx_lt hk]
      simp only [cond_true, Option.bind_some]
      rw [bne_self_eq_false']
      simp only [cond_false]
      rw [wrap_succ (by omega)]) (by
      simp [laws_eqIntS_4_R])
  unfold laws_eqIntS laws_eqIntS_4_loop
  rw [bne_self_eq_false']
  simp only [cond_false]
  erw [hl]
  rfl

theorem eqReport_ok (a : TReport) (hz : szT tReport a ≤ big40) : laws_eqReport a a = some (true, ()) := by
  unfold laws_eqReport
  have hs : szT tReport a = szT (.sl int) a.2.1 := by simp only [szT, Nat.add_zero, Nat.zero_add, Nat.add_assoc]
  simp only [bne_self_eq_false', cond_false, Bool.not_true, Option.bind_some, eqIntS_ok a.2.1 (by omega)]

theorem eqReportS_ok (a : (List TReport)) (hz : szT (.sl tReport) a ≤ big40) : laws_eqReportS a a = some (true, ()) := by
  have h40 : big40 = 1099511627776 := rfl
  have hz' : List.length a + (List.map (szT tReport) a).sum ≤ big40 := hz
  have hl := loopF_run (step := fun x : (((List TReport) × ((List TReport) × (Int × Unit))) × Unit) => laws_eqReportS_4_R x.1.1 x.1.2.1 x.1.2.2.1) (fun k => ((a, a, (k : Int), ()), ())) (List.length a) (.inl ((), ())) (by
      intro k hk
      simp only [laws_eqReportS_4_R]
      rw [dec_true (show (k : Int) < (List.length a : Int) by omega), idx_lt hk]
      simp only [cond_true, Option.bind_some]
      have hk' := sum_map_le (f := szT tReport) hk
      rw [eqReport_ok a[k] (by omega)]
      simp only [Option.bind_some, Bool.not_true, cond_false]
      rw [wrap_succ (by omega)]) (by
      simp [laws_eqReportS_4_R])
  unfold laws_eqReportS laws_eqReportS_4_loop
  rw [bne_self_eq_false']
  simp only [cond_false]
  erw [hl]
  rfl

theorem szActionS_ok (a : (List TAction)) (hr : Rng (.sl tAction) a) (l : Nat) (hl : l ≤ big20) : laws_szActionS a (l : Int) = some (szR (szT (.sl tAction) a) l, ()) := by
  have h20 : big20 = 1048576 := rfl
  have hlen : List.length a ≤ 9223372036854775807 := hr.1
  unfold laws_szActionS
  rw [wrap64 (by omega) (by omega)]
  rw [show szT (.sl tAction) a = List.length a from szT_flat (e := tAction) rfl a]
  by_cases h : List.length a ≤ l
  · rw [szR_le h, dec_false (by omega), show (l : Int) - (List.length a : Int) = ((l - List.length a : Nat) : Int) by omega]; rfl
  · rw [szR_gt h, dec_true (by omega)]; rfl

theorem szActionSS_ok (a : (List (List TAction))) (hr : Rng (.sl (.sl tAction)) a) (l : Nat) (hl : l ≤ big20) : laws_szActionSS a (l : Int) = some (szR (szT (.sl (.sl tAction)) a) l, ()) := by
  have h20 : big20 = 1048576 := rfl
  have hlen : List.length a ≤ 9223372036854775807 := hr.1
  unfold laws_szActionSS
  rw [wrap64 (by omega) (by omega)]
  by_cases h : List.length a ≤ l
  · rw [dec_false (by omega), show (l : Int) - (List.length a : Int) = ((l - List.length a : Nat) : Int) by omega]
    simp only [cond_false, laws_szActionSS_5_loop]
    have hx := sz_loop (step := fun x : (((List (List TAction)) × TCombo) × Unit) => laws_szActionSS_5_R x.1.1 x.1.2.1 x.1.2.2.1) a (szT (.sl tAction)) (fun l i => ((a, l, i, ()), ())) (fun l => .inl ((l, ()), ())) (.inr (((-1 : Int), ()), ())) (by
      intro k hk l hl
      simp only [laws_szActionSS_5_R]
      rw [dec_true (show (k : Int) < (List.length a : Int) by omega), idx_lt hk]
      simp only [cond_true, Option.bind_some]
      rw [szActionS_ok a[k] (hr.2 k hk) l hl]
      simp only [Option.bind_some]
      by_cases hc : szT (.sl tAction) a[k] ≤ l
      · rw [szR_le hc, dec_false (by omega), if_pos hc]; rfl
      · rw [szR_gt hc, if_neg hc]; rfl) (by
      intro l
      simp [laws_szActionSS_5_R]) (by omega) (l - List.length a) (by omega)
    rw [hx]
    simp only [Option.bind_some]
    have hs : szT (.sl (.sl tAction)) a = List.length a + (List.map (szT (.sl tAction)) a).sum := rfl
    rw [hs]
    by_cases h2 : (List.map (szT (.sl tAction)) a).sum ≤ l - List.length a
    · rw [if_pos h2, szR_le (by omega)]; simp only [Sum.elim_inl]; rw [show l - List.length a - (List.map (szT (.sl tAction)) a).sum = l - (List.length a + (List.map (szT (.sl tAction)) a).sum) by omega]
    · rw [if_neg h2, szR_gt (by omega)]; rfl
  · rw [szR_gt (show ¬ szT (.sl (.sl tAction)) a ≤ l by have hs : szT (.sl (.sl tAction)) a = List.length a + (List.map (szT (.sl tAction)) a).sum := rfl; omega), dec_true (by omega)]; rfl

theorem szKeymap_ok (a : TKeymap) (hr : Rng tKeymap a) (l : Nat) (hl : l ≤ big20) : laws_szKeymap a (l : Int) = some (szR (szT tKeymap a) l, ()) := by
  unfold laws_szKeymap
  have hs : szT tKeymap a = szT (.sl (.sl tAction)) a.2.1 := by simp only [szT, Nat.add_zero, Nat.zero_add, Nat.add_assoc]
  rw [szActionSS_ok a.2.1 hr.2.1 (l) (by omega)]
  simp only [Option.bind_some]
  by_cases h0 : szT (.sl (.sl tAction)) a.2.1 ≤ l
  case neg => rw [szR_gt h0, szR_gt (by omega)]; rfl
  rw [szR_le h0, dec_false (by omega)]
  simp only [cond_false]
  rw [szR_le (by omega), hs]
  try simp only [Nat.sub_sub, Nat.add_assoc]

theorem toAction_ok (a : TAction) (hz : szT tAction a ≤ big20) : laws_toAction a = some (a, ()) := by
  unfold laws_toAction
  rfl

theorem toActionS_ok (a : (List TAction)) (hz : szT (.sl tAction) a ≤ big20) : laws_toActionS a = some (a, ()) := by
  have h20 : big20 = 1048576 := rfl
  have hz' : List.length a + (List.map (szT tAction) a).sum ≤ big20 := hz
  have hl := copy_loop (step := fun x : (((List TAction) × ((List TAction) × (Int × Unit))) × Unit) => laws_toActionS_3_R x.1.1 x.1.2.1 x.1.2.2.1) a (zT tAction) (fun o i => ((a, o, i, ()), ())) (fun o => .inl ((o, ()), ())) (by
      intro k hk o ho
      simp only [laws_toActionS_3_R]
      rw [dec_true (show (k : Int) < (List.length a : Int) by omega), idx_lt hk]
      have hk' := sum_map_le (f := szT tAction) hk
      simp only [cond_true, Option.bind_some]
      rw [toAction_ok a[k] (by omega)]
      simp only [cond_true, Option.bind_some]
      rw [inb_nat, dec_true (show k < List.length o by omega)]
      simp [List.getElem?_eq_getElem (show k < List.length o by omega)]) (by
      intro o
      simp [laws_toActionS_3_R]) (by omega)
  unfold laws_toActionS laws_toActionS_3_loop
  rw [make_ok (by rw [lim_eq]; omega)]
  simp only [cond_true]
  rw [show Int.toNat ((List.length a : Nat) : Int) = List.length a by simp]
  erw [hl]
  rfl

theorem toActionSS_ok (a : (List (List TAction))) (hz : szT (.sl (.sl tAction)) a ≤ big20) : laws_toActionSS a = some (a, ()) := by
  have h20 : big20 = 1048576 := rfl
  have hz' : List.length a + (List.map (szT (.sl tAction)) a).sum ≤ big20 := hz
  have hl := copy_loop (step := fun x : (((List (List TAction)) × ((List (List TAction)) × (Int × Unit))) × Unit) => laws_toActionSS_3_R x.1.1 x.1.2.1 x.1.2.2.1) a (zT (.sl tAction)) (fun o i => ((a, o, i, ()), ())) (fun o => .inl ((o, ()), ())) (by
      intro k hk o ho
      simp only [laws_toActionSS_3_R]
      rw [dec_true (show (k : Int) < (List.length a : Int) by omega), idx_lt hk]
      have hk' := sum_map_le (f := szT (.sl tAction)) hk
      simp only [cond_true, Option.bind_some]
      rw [toActionS_ok a[k] (by omega)]
      simp only [cond_true, Option.bind_some]
      rw [inb_nat, dec_true (show k < List.length o by omega)]
      simp [List.getElem?_eq_getElem (show k < List.length o by omega)]) (by
      intro o
      simp [laws_toActionSS_3_R]) (by omega)
  unfold laws_toActionSS laws_toActionSS_3_loop
  rw [make_ok (by rw [lim_eq]; omega)]
  simp only [cond_true]
  rw [show Int.toNat ((List.length a : Nat) : Int) = List.length a by simp]
  erw [hl]
  rfl

theorem toKeymap_ok (a : TKeymap) (hz : szT tKeymap a ≤ big20) : laws_toKeymap a = some (a, ()) := by
  unfold laws_toKeymap
  have hs : szT tKeymap a = szT (.sl (.sl tAction)) a.2.1 := by simp only [szT, Nat.add_zero, Nat.zero_add, Nat.add_assoc]
  rw [toActionSS_ok a.2.1 (by omega)]
  simp only [Option.bind_some]

theorem eqAction_ok (a : TAction) (hz : szT tAction a ≤ big40) : laws_eqAction a a = some (true, ()) := by
  unfold laws_eqAction
  have hs : szT tAction a = 0 := by simp only [szT, Nat.add_zero, Nat.zero_add, Nat.add_assoc]
  simp only [bne_self_eq_false', cond_false, Bool.not_true, Option.bind_some]

theorem eqActionS_ok (a : (List TAction)) (hz : szT (.sl tAction) a ≤ big40) : laws_eqActionS a a = some (true, ()) := by
  have h40 : big40 = 1099511627776 := rfl
  have hz' : List.length a + (List.map (szT tAction) a).sum ≤ big40 := hz
  have hl := loopF_run (step := fun x : (((List TAction) × ((List TAction) × (Int × Unit))) × Unit) => laws_eqActionS_4_R x.1.1 x.1.2.1 x.1.2.2.1) (fun k => ((a, a, (k : Int), ()), ())) (List.length a) (.inl ((), ())) (by
      intro k hk
      simp only [laws_eqActionS_4_R]
      rw [dec_true (show (k : Int) < (List.length a : Int) by omega), idx_lt hk]
      simp only [cond_true, Option.bind_some]
      have hk' := sum_map_le (f := szT tAction) hk
      rw [eqAction_ok a[k] (by omega)]
      simp only [Option.bind_some, Bool.not_true, cond_false]
      rw [wrap_succ (by omega)]) (by
      simp [laws_eqActionS_4_R])
  unfold laws_eqActionS laws_eqActionS_4_loop
  rw [bne_self_eq_false']
  simp only [cond_false]
  erw [hl]
  rfl

theorem eqActionSS_ok (a : (List (List TAction))) (hz : szT (.sl (.sl tAction)) a ≤ big40) : laws_eqActionSS a a = some (true, ()) := by
  have h40 : big40 = 1099511627776 := rfl
  have hz' : List.length a + (List.map (szT (.sl tAction)) a).sum ≤ big40 := hz
  have hl := loopF_run (step := fun x : (((List (List TAction)) × ((List (List TAction)) × (Int × Unit))) × Unit) => laws_eqActionSS_4_R x.1.1 x.1.2.1 x.1.2.2.1) (fun k => ((a, a, (k : Int), ()), ())) (List.length a) (.inl ((), ())) (by
      intro k hk
      simp only [laws_eqActionSS_4_R]
      rw [dec_true (show (k : Int) < (List.length a : Int) by omega), idx_lt hk]
      simp only [cond_true, Option.bind_some]
      have hk' := sum_map_le (f := szT (.sl tAction)) hk
      rw [eqActionS_ok a[k] (by omega)]
      simp only [Option.bind_some, Bool.not_true, cond_false]
      rw [wrap_succ (by omega)]) (by
      simp [laws_eqActionSS_4_R])
  unfold laws_eqActionSS laws_eqActionSS_4_loop
  rw [bne_self_eq_false']
  simp only [cond_false]
  erw [hl]
  rfl

theorem eqKeymap_ok (a : TKeymap) (hz : szT tKeymap a ≤ big40) : laws_eqKeymap a a = some (true, ()) := by
  unfold laws_eqKeymap
  have hs : szT tKeymap a = szT (.sl (.sl tAction)) a.2.1 := by simp only [szT, Nat.add_zero, Nat.zero_add, Nat.add_assoc]
  simp only [bne_self_eq_false', cond_false, Bool.not_true, Option.bind_some, eqActionSS_ok a.2.1 (by omega)]

theorem markIntS_ok (a : (List Int)) (k : Nat) (hk : k + 8 * szT (.sl int) a ≤ big40) : ∃ (a' : (List Int)) (k' : Nat), k ≤ k' ∧ k' ≤ k + 8 * szT (.sl int) a ∧ laws_markIntS a (k : Int) = some (a', ((k' : Int), ())) ∧ laws_heldIntS a' (k : Int) = some ((k' : Int), ()) ∧ kf (.sl int) a a' := by
  have h40 : big40 = 1099511627776 := rfl
  by_cases hlen : List.length a < 9223372036854775807
  case neg => exfalso; have h1 : List.length a ≤ szT (.sl int) a := Nat.le_add_right _ _; omega
  have hsum : (List.map (fun x => 8 + 8 * szT int x) a).sum = 8 * szT (.sl int) a := sum8 _ _
  have hx := mark_held (stepM := fun x : (((List Int) × TCombo) × Unit) => laws_markIntS_2_R x.1.1 x.1.2.1 x.1.2.2.1) (stepH := fun x : (((List Int) × TCombo) × Unit) => laws_heldIntS_2_R x.1.1 x.1.2.1 x.1.2.2.1) (fun x => 8 + 8 * szT int x) big40 (fun o k i => ((o, k, i, ()), ())) (fun o k => .inl ((o, k, ()), ())) (fun o k i => ((o, k, i, ()), ())) (fun _ k => .inl ((k, ()), ())) (by
      intro o k i hi hB
      have hw : IntKind.wrap .i64 (((k : Nat) : Int) + 1) = (((k + 1) : Nat) : Int) := wrap_succ (by omega)
      refine ⟨((k : Nat) : Int), k + 1, by omega, by omega, ?_, ?_⟩
      · simp only [laws_markIntS_2_R]
        rw [dec_true (show (i : Int) < (List.length o : Int) by omega)]
        simp only [hw, cond_true, inb_nat, List.length_set, dec_true hi, Int.toNat_natCast, List.getElem?_eq_getElem hi, List.getElem?_set_self hi, Option.bind_some, List.set_set, z3, cond_false]
      · intro o2 hi2 h2
        simp only [laws_heldIntS_2_R]
        rw [dec_true (show (i : Int) < (List.length o2 : Int) by omega), idx_lt hi2, h2]
        simp only [hw, cond_true, Option.bind_some, bne_self_eq_false', cond_false, z3]) (by
      intro o k
      simp only [laws_markIntS_2_R]
      rw [dec_false (by omega)]
      rfl) (by
      intro o k
      simp only [laws_heldIntS_2_R]
      rw [dec_false (by omega)]
      rfl) a k (by rw [hsum]; exact hk) hlen
  obtain ⟨o, k1, h1, h2, _, h4, h5⟩ := hx
  rw [hsum] at h2
  refine ⟨o, k1, h1, h2, ?_, ?_, trivial⟩
  · unfold laws_markIntS laws_markIntS_2_loop
    erw [h4]
    rfl
  · unfold laws_heldIntS laws_heldIntS_2_loop
    erw [h5]
    rfl

theorem markReportS_ok (a : (List TReport)) (k : Nat) (hk : k + 8 * szT (.sl tReport) a ≤ big40) : ∃ (a' : (List TReport)) (k' : Nat), k ≤ k' ∧ k' ≤ k + 8 * szT (.sl tReport) a ∧ laws_markReportS a (k : Int) = some (a', ((k' : Int), ())) ∧ laws_heldReportS a' (k : Int) = some ((k' : Int), ()) ∧ kf (.sl tReport) a a' := by
  have h40 : big40 = 1099511627776 := rfl
  by_cases hlen : List.length a < 9223372036854775807
  case neg => exfalso; have h1 : List.length a ≤ szT (.sl tReport) a := Nat.le_add_right _ _; omega
  have hsum : (List.map (fun x => 8 + 8 * szT tReport x) a).sum = 8 * szT (.sl tReport) a := sum8 _ _
  have hx := mark_held (stepM := fun x : (((List TReport) × TCombo) × Unit) => laws_markReportS_2_R x.1.1 x.1.2.1 x.1.2.2.1) (stepH := fun x : (((List TReport) × TCombo) × Unit) => laws_heldReportS_2_R x.1.1 x.1.2.1 x.1.2.2.1) (fun x => 8 + 8 * szT tReport x) big40 (fun o k i => ((o, k, i, ()), ())) (fun o k => .inl ((o, k, ()), ())) (fun o k i => ((o, k, i, ()), ())) (fun _ k => .inl ((k, ()), ())) (by
      intro o k i hi hB
      have hs : szT tReport o[i] = szT (.sl int) o[i].2.1 := by simp only [szT, Nat.add_zero, Nat.zero_add, Nat.add_assoc]
      have w0 : IntKind.wrap .i64 (((k : Nat) : Int) + 1) = (((k + 1) : Nat) : Int) := wrap_succ (by omega)
      obtain ⟨y0, k0, g0, i0, m0, n0, _⟩ := markIntS_ok o[i].2.1 (k + 1) (by omega)
      have d0 : decide ((k0 : Int) < 0) = false := dec_false (by omega)
      refine ⟨(((k : Nat) : Int), y0, ()), k0, by omega, by omega, ?_, ?_⟩
      · simp only [laws_markReportS_2_R]
        rw [dec_true (show (i : Int) < (List.length o : Int) by omega)]
        simp only [w0, m0, cond_true, inb_nat, List.length_set, dec_true hi, Int.toNat_natCast, List.getElem?_eq_getElem hi, List.getElem?_set_self hi, Option.bind_some, List.set_set, z3, cond_false]
      · intro o2 hi2 h2
        simp only [laws_heldReportS_2_R]
        rw [dec_true (show (i : Int) < (List.length o2 : Int) by omega), idx_lt hi2, h2]
        simp only [w0, n0, d0, cond_true, Option.bind_some, bne_self_eq_false', cond_false, z3]) (by
      intro o k
      simp only [laws_markReportS_2_R]
      rw [dec_false (by omega)]
      rfl) (by
      intro o k
      simp only [laws_heldReportS_2_R]
      rw [dec_false (by omega)]
      rfl) a k (by rw [hsum]; exact hk) hlen
  obtain ⟨o, k1, h1, h2, _, h4, h5⟩ := hx
  rw [hsum] at h2
  refine ⟨o, k1, h1, h2, ?_, ?_, trivial⟩
  · unfold laws_markReportS laws_markReportS_2_loop
    erw [h4]
    rfl
  · unfold laws_heldReportS laws_heldReportS_2_loop
    erw [h5]
    rfl

theorem markActionS_ok (a : (List TAction)) (k : Nat) (hk : k + 8 * szT (.sl tAction) a ≤ big40) : ∃ (a' : (List TAction)) (k' : Nat), k ≤ k' ∧ k' ≤ k + 8 * szT (.sl tAction) a ∧ laws_markActionS a (k : Int) = some (a', ((k' : Int), ())) ∧ laws_heldActionS a' (k : Int) = some ((k' : Int), ()) ∧ kf (.sl tAction) a a' := by
  have h40 : big40 = 1099511627776 := rfl
  by_cases hlen : List.length a < 9223372036854775807
  case neg => exfalso; have h1 : List.length a ≤ szT (.sl tAction) a := Nat.le_add_right _ _; omega
  have hsum : (List.map (fun x => 8 + 8 * szT tAction x) a).sum = 8 * szT (.sl tAction) a := sum8 _ _
  have hx := mark_held (stepM := fun x : (((List TAction) × TCombo) × Unit) => laws_markActionS_2_R x.1.1 x.1.2.1 x.1.2.2.1) (stepH := fun x : (((List TAction) × TCombo) × Unit) => laws_heldActionS_2_R x.1.1 x.1.2.1 x.1.2.2.1) (fun x => 8 + 8 * szT tAction x) big40 (fun o k i => ((o, k, i, ()), ())) (fun o k => .inl ((o, k, ()), ())) (fun o k i => ((o, k, i, ()), ())) (fun _ k => .inl ((k, ()), ())) (by
      intro o k i hi hB
      have hw : IntKind.wrap .i64 (((k : Nat) : Int) + 1) = (((k + 1) : Nat) : Int) ∧ IntKind.wrap .i64 ((((k + 1) : Nat) : Int) + 1) = (((k + 2) : Nat) : Int) ∧ IntKind.wrap .i64 ((((k + 2) : Nat) : Int) + 1) = (((k + 3) : Nat) : Int) ∧ IntKind.wrap .i64 ((((k + 3) : Nat) : Int) + 1) = (((k + 4) : Nat) : Int) := ⟨wrap_succ (show k < 9223372036854775807 by omega), wrap_succ (show (k + 1) < 9223372036854775807 by omega), wrap_succ (show (k + 2) < 9223372036854775807 by omega), wrap_succ (show (k + 3) < 9223372036854775807 by omega)⟩
      obtain ⟨w0, w1, w2, w3⟩ := hw
      refine ⟨(((k : Nat) : Int), (((k + 1) : Nat) : Int), (((k + 2) : Nat) : Int), (((k + 3) : Nat) : Int), ()), k + 4, by omega, by omega, ?_, ?_⟩
      · simp only [laws_markActionS_2_R]
        rw [dec_true (show (i : Int) < (List.length o : Int) by omega)]
        simp only [w0, w1, w2, w3, cond_true, inb_nat, List.length_set, dec_true hi, Int.toNat_natCast, List.getElem?_eq_getElem hi, List.getElem?_set_self hi, Option.bind_some, List.set_set, z3, cond_false]
      · intro o2 hi2 h2
        simp only [laws_heldActionS_2_R]
        rw [dec_true (show (i : Int) < (List.length o2 : Int) by omega), idx_lt hi2, h2]
        simp only [w0, w1, w2, w3, cond_true, Option.bind_some, bne_self_eq_false', cond_false, z3]) (by
      intro o k
      simp only [laws_markActionS_2_R]
      rw [dec_false (by omega)]
      rfl) (by
      intro o k
      simp only [laws_heldActionS_2_R]
      rw [dec_false (by omega)]
      rfl) a k (by rw [hsum]; exact hk) hlen
  obtain ⟨o, k1, h1, h2, _, h4, h5⟩ := hx
  rw [hsum] at h2
  refine ⟨o, k1, h1, h2, ?_, ?_, trivial⟩
  · unfold laws_markActionS laws_markActionS_2_loop
    erw [h4]
    rfl
  · unfold laws_heldActionS laws_heldActionS_2_loop
    erw [h5]
    rfl

theorem markActionSS_ok (a : (List (List TAction))) (k : Nat) (hk : k + 8 * szT (.sl (.sl tAction)) a ≤ big40) : ∃ (a' : (List (List TAction))) (k' : Nat), k ≤ k' ∧ k' ≤ k + 8 * szT (.sl (.sl tAction)) a ∧ laws_markActionSS a (k : Int) = some (a', ((k' : Int), ())) ∧ laws_heldActionSS a' (k : Int) = some ((k' : Int), ()) ∧ kf (.sl (.sl tAction)) a a' := by
  have h40 : big40 = 1099511627776 := rfl
  by_cases hlen : List.length a < 9223372036854775807
  case neg => exfalso; have h1 : List.length a ≤ szT (.sl (.sl tAction)) a := Nat.le_add_right _ _; omega
  have hsum : (List.map (fun x => 8 + 8 * szT (.sl tAction) x) a).sum = 8 * szT (.sl (.sl tAction)) a := sum8 _ _
  have hx := mark_held (stepM := fun x : (((List (List TAction)) × TCombo) × Unit) => laws_markActionSS_2_R x.1.1 x.1.2.1 x.1.2.2.1) (stepH := fun x : (((List (List TAction)) × TCombo) × Unit) => laws_heldActionSS_2_R x.1.1 x.1.2.1 x.1.2.2.1) (fun x => 8 + 8 * szT (.sl tAction) x) big40 (fun o k i => ((o, k, i, ()), ())) (fun o k => .inl ((o, k, ()), ())) (fun o k i => ((o, k, i, ()), ())) (fun _ k => .inl ((k, ()), ())) (by
      intro o k i hi hB
      obtain ⟨y0, k0, g0, i0, m0, n0, _⟩ := markActionS_ok o[i] k (by omega)
      have d0 : decide ((k0 : Int) < 0) = false := dec_false (by omega)
      refine ⟨y0, k0, by omega, by omega, ?_, ?_⟩
      · simp only [laws_markActionSS_2_R]
        rw [dec_true (show (i : Int) < (List.length o : Int) by omega)]
        simp only [m0, cond_true, inb_nat, List.length_set, dec_true hi, Int.toNat_natCast, List.getElem?_eq_getElem hi, List.getElem?_set_self hi, Option.bind_some, List.set_set, z3, cond_false]
      · intro o2 hi2 h2
        simp only [laws_heldActionSS_2_R]
        rw [dec_true (show (i : Int) < (List.length o2 : Int) by omega), idx_lt hi2, h2]
        simp only [n0, d0, cond_true, Option.bind_some, bne_self_eq_false', cond_false, z3]) (by
      intro o k
      simp only [laws_markActionSS_2_R]
      rw [dec_false (by omega)]
      rfl) (by
      intro o k
      simp only [laws_heldActionSS_2_R]
      rw [dec_false (by omega)]
      rfl) a k (by rw [hsum]; exact hk) hlen
  obtain ⟨o, k1, h1, h2, _, h4, h5⟩ := hx
  rw [hsum] at h2
  refine ⟨o, k1, h1, h2, ?_, ?_, trivial⟩
  · unfold laws_markActionSS laws_markActionSS_2_loop
    erw [h4]
    rfl
  · unfold laws_heldActionSS laws_heldActionSS_2_loop
    erw [h5]
    rfl

theorem markKeymap_ok (a : TKeymap) (k : Nat) (hk : k + 8 * szT tKeymap a ≤ big40) : ∃ (a' : TKeymap) (k' : Nat), k ≤ k' ∧ k' ≤ k + 8 * szT tKeymap a ∧ laws_markKeymap a (k : Int) = some (a', ((k' : Int), ())) ∧ laws_heldKeymap a' (k : Int) = some ((k' : Int), ()) ∧ kf tKeymap a a' := by
  have h40 : big40 = 1099511627776 := rfl
  have hs : szT tKeymap a = szT (.sl (.sl tAction)) a.2.1 := by simp only [szT, Nat.add_zero, Nat.zero_add, Nat.add_assoc]
  obtain ⟨x0, k0, g0, i0, m0, n0, f0⟩ := markActionSS_ok a.2.1 k (by omega)
  refine ⟨(a.1, x0, ()), k0, by omega, by omega, ?_, ?_, kf_refl _ _, f0, rfl⟩
  · unfold laws_markKeymap
    simp only [m0, Option.bind_some]
  · unfold laws_heldKeymap
    simp only [n0, Option.bind_some]
    rw [dec_false (by omega)]
    simp only [cond_false]
end KF
