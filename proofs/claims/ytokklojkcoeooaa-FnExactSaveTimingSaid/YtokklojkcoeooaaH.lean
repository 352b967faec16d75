/- Lemmas on the helpers of the laws: sizes, copies, comparisons, marks (conditions: as each lemma tells). -/
import Derived.Test.YtokklojkcoeooaaPl
import Derived.Test.YtokklojkcoeooaaFns
namespace KF
open Go
theorem szIntS_ok (a : (List Int)) (hr : Rng (.sl int) a) (l : Nat) (hl : l ≤ big20) : laws_szIntS a (l : Int) = some (szR (szT (.sl int) a) l, ()) := by
  have h20 : big20 = 1048576 := rfl
  have hlen : List.length a ≤ 9223372036854775807 := hr.1
  unfold laws_szIntS
  rw [wrap64 (by omega) (by omega)]
  rw [show szT (.sl int) a = List.length a from szT_flat (e := int) rfl a]
  by_cases h : List.length a ≤ l
  · rw [szR_le h, dec_false (by omega), show (l : Int) - (List.length a : Int) = ((l - List.length a : Nat) : Int) by omega]; rfl
  · rw [szR_gt h, dec_true (by omega)]; rfl

theorem toIntS_ok (a : (List Int)) (hz : szT (.sl int) a ≤ big20) : laws_toIntS a = some (a, ()) := by
  have h20 : big20 = 1048576 := rfl
  have hz' : List.length a + (List.map (szT int) a).sum ≤ big20 := hz
  have hl := copy_loop (step := fun x : (((List Int) × ((List Int) × (Int × Unit))) × Unit) => laws_toIntS_3_R x.1.1 x.1.2.1 x.1.2.2.1) a (zT int) (fun o i => ((a, o, i, ()), ())) (fun o => .inl ((o, ()), ())) (by
      intro k hk o ho
      simp only [laws_toIntS_3_R]
      rw [dec_true (show (k : Int) < (List.length a : Int) by omega), idx_lt hk]
      simp only [cond_true, Option.bind_some]
      rw [inb_nat, dec_true (show k < List.length o by omega)]
      simp [List.getElem?_eq_getElem (show k < List.length o by omega)]) (by
      intro o
      simp [laws_toIntS_3_R]) (by omega)
  unfold laws_toIntS laws_toIntS_3_loop
  rw [make_ok (by rw [lim_eq]; omega)]
  simp only [cond_true]
  rw [show Int.toNat ((List.length a : Nat) : Int) = List.length a by simp]
  erw [hl]
  rfl

theorem eqIntS_ok (a : (List Int)) (hz : szT (.sl int) a ≤ big40) : laws_eqIntS a a = some (true, ()) := by
  have h40 : big40 = 1099511627776 := rfl
  have hz' : List.length a + (List.map (szT int) a).sum ≤ big40 := hz
  have hl := loopF_run (step := fun x : (((List Int) × ((List Int) × (Int × Unit))) × Unit) => laws_eqIntS_4_R x.1.1 x.1.2.1 x.1.2.2.1) (fun k => ((a, a, (k : Int), ()), ())) (List.length a) (.inl ((), ())) (by
      intro k hk
      simp only [laws_eqIntS_4_R]
      rw [dec_true (show (k : Int) < (List.length a : Int) by omega), idx_lt hk]
      simp only [cond_true, Option.bind_some]
      rw [bne_self_eq_false']
      simp only [cond_false]
      rw [wrap_succ (by omega)]) (by
      simp [laws_eqIntS_4_R])
  unfold laws_eqIntS laws_eqIntS_4_loop
  rw [bne_self_eq_false']
  simp only [cond_false]
  erw [hl]
  rfl

theorem szIntSS_ok (a : (List (List Int))) (hr : Rng (.sl (.sl int)) a) (l : Nat) (hl : l ≤ big20) : laws_szIntSS a (l : Int) = some (szR (szT (.sl (.sl int)) a) l, ()) := by
  have h20 : big20 = 1048576 := rfl
  have hlen : List.length a ≤ 9223372036854775807 := hr.1
  unfold laws_szIntSS
  rw [wrap64 (by omega) (by omega)]
  by_cases h : List.length a ≤ l
  · rw [dec_false (by omega), show (l : Int) - (List.length a : Int) = ((l - List.length a : Nat) : Int) by omega]
    simp only [cond_false, laws_szIntSS_5_loop]
    have hx := sz_loop (step := fun x : (((List (List Int)) × TCombo) × Unit) => laws_szIntSS_5_R x.1.1 x.1.2.1 x.1.2.2.1) a (szT (.sl int)) (fun l i => ((a, l, i, ()), ())) (fun l => .inl ((l, ()), ())) (.inr (((-1 : Int), ()), ())) (by
      intro k hk l hl
      simp only [laws_szIntSS_5_R]
      rw [dec_true (show (k : Int) < (List.length a : Int) by omega), idx_lt hk]
      simp only [cond_true, Option.bind_some]
      rw [szIntS_ok a[k] (hr.2 k hk) l hl]
      simp only [Option.bind_some]
      by_cases hc : szT (.sl int) a[k] ≤ l
      · rw [szR_le hc, dec_false (by omega), if_pos hc]; rfl
      · rw [szR_gt hc, if_neg hc]; rfl) (by
      intro l
      simp [laws_szIntSS_5_R]) (by omega) (l - List.length a) (by omega)
    rw [hx]
    simp only [Option.bind_some]
    have hs : szT (.sl (.sl int)) a = List.length a + (List.map (szT (.sl int)) a).sum := rfl
    rw [hs]
    by_cases h2 : (List.map (szT (.sl int)) a).sum ≤ l - List.length a
    · rw [if_pos h2, szR_le (by omega)]; simp only [Sum.elim_inl]; rw [show l - List.length a - (List.map (szT (.sl int)) a).sum = l - (List.length a + (List.map (szT (.sl int)) a).sum) by omega]
    · rw [if_neg h2, szR_gt (by omega)]; rfl
  · rw [szR_gt (show ¬ szT (.sl (.sl int)) a ≤ l by have hs : szT (.sl (.sl int)) a = List.length a + (List.map (szT (.sl int)) a).sum := rfl; omega), dec_true (by omega)]; rfl

theorem szFlash_ok (a : TFlash) (hr : Rng tFlash a) (l : Nat) (hl : l ≤ big20) : laws_szFlash a (l : Int) = some (szR (szT tFlash a) l, ()) := by
  unfold laws_szFlash
  have hs : szT tFlash a = szT (.sl (.sl int)) a.1 + (szT (.sl int) a.2.1) := by simp only [szT, Nat.add_zero, Nat.zero_add, Nat.add_assoc]
  rw [szIntSS_ok a.1 hr.1 (l) (by omega)]
  simp only [Option.bind_some]
  by_cases h0 : szT (.sl (.sl int)) a.1 ≤ l
  case neg => rw [szR_gt h0, szR_gt (by omega)]; rfl
  rw [szR_le h0, dec_false (by omega)]
  simp only [cond_false]
  rw [szIntS_ok a.2.1 hr.2.1 (l - szT (.sl (.sl int)) a.1) (by omega)]
  simp only [Option.bind_some]
  by_cases h1 : szT (.sl int) a.2.1 ≤ l - szT (.sl (.sl int)) a.1
  case neg => rw [szR_gt h1, szR_gt (by omega)]; rfl
  rw [szR_le h1, dec_false (by omega)]
  simp only [cond_false]
  rw [szR_le (by omega), hs]
  try simp only [Nat.sub_sub, Nat.add_assoc]

theorem toIntSS_ok (a : (List (List Int))) (hz : szT (.sl (.sl int)) a ≤ big20) : laws_toIntSS a = some (a, ()) := by
  have h20 : big20 = 1048576 := rfl
  have hz' : List.length a + (List.map (szT (.sl int)) a).sum ≤ big20 := hz
  have hl := copy_loop (step := fun x : (((List (List Int)) × ((List (List Int)) × (Int × Unit))) × Unit) => laws_toIntSS_3_R x.1.1 x.1.2.1 x.1.2.2.1) a (zT (.sl int)) (fun o i => ((a, o, i, ()), ())) (fun o => .inl ((o, ()), ())) (by
      intro k hk o ho
      simp only [laws_toIntSS_3_R]
      rw [dec_true (show (k : Int) < (List.length a : Int) by omega), idx_lt hk]
      have hk' := sum_map_le (f := szT (.sl int)) hk
      simp only [cond_true, Option.bind_some]
      rw [toIntS_ok a[k] (by omega)]
      simp only [cond_true, Option.bind_some]
      rw [inb_nat, dec_true (show k < List.length o by omega)]
      simp [List.getElem?_eq_getElem (show k < List.length o by omega)]) (by
      intro o
      simp [laws_toIntSS_3_R]) (by omega)
  unfold laws_toIntSS laws_toIntSS_3_loop
  rw [make_ok (by rw [lim_eq]; omega)]
  simp only [cond_true]
  rw [show Int.toNat ((List.length a : Nat) : Int) = List.length a by simp]
  erw [hl]
  rfl

theorem toFlash_ok (a : TFlash) (hz : szT tFlash a ≤ big20) : laws_toFlash a = some (a, ()) := by
  unfold laws_toFlash
  have hs : szT tFlash a = szT (.sl (.sl int)) a.1 + (szT (.sl int) a.2.1) := by simp only [szT, Nat.add_zero, Nat.zero_add, Nat.add_assoc]
  rw [toIntSS_ok a.1 (by omega)]
  simp only [Option.bind_some]
  rw [toIntS_ok a.2.1 (by omega)]
  simp only [Option.bind_some]

theorem eqIntSS_ok (a : (List (List Int))) (hz : szT (.sl (.sl int)) a ≤ big40) : laws_eqIntSS a a = some (true, ()) := by
  have h40 : big40 = 1099511627776 := rfl
  have hz' : List.length a + (List.map (szT (.sl int)) a).sum ≤ big40 := hz
  have hl := loopF_run (step := fun x : (((List (List Int)) × ((List (List Int)) × (Int × Unit))) × Unit) => laws_eqIntSS_4_R x.1.1 x.1.2.1 x.1.2.2.1) (fun k => ((a, a, (k : Int), ()), ())) (List.length a) (.inl ((), ())) (by
      intro k hk
      simp only [laws_eqIntSS_4_R]
      rw [dec_true (show (k : Int) < (List.length a : Int) by omega), idx_lt hk]
      simp only [cond_true, Option.bind_some]
      have hk' := sum_map_le (f := szT (.sl int)) hk
      rw [eqIntS_ok a[k] (by omega)]
      simp only [Option.bind_some, Bool.not_true, cond_false]
      rw [wrap_succ (by omega)]) (by
      simp [laws_eqIntSS_4_R])
  unfold laws_eqIntSS laws_eqIntSS_4_loop
  rw [bne_self_eq_false']
  simp only [cond_false]
  erw [hl]
  rfl

theorem eqFlash_ok (a : TFlash) (hz : szT tFlash a ≤ big40) : laws_eqFlash a a = some (true, ()) := by
  unfold laws_eqFlash
  have hs : szT tFlash a = szT (.sl (.sl int)) a.1 + (szT (.sl int) a.2.1) := by simp only [szT, Nat.add_zero, Nat.zero_add, Nat.add_assoc]
  simp only [bne_self_eq_false', cond_false, Bool.not_true, Option.bind_some, eqIntSS_ok a.1 (by omega), eqIntS_ok a.2.1 (by omega)]

theorem toTiming_ok (a : TStep) (hz : szT tStep a ≤ big20) : laws_toTiming a = some (a, ()) := by
  unfold laws_toTiming
  rfl

theorem markIntS_ok (a : (List Int)) (k : Nat) (hk : k + 8 * szT (.sl int) a ≤ big40) : ∃ (a' : (List Int)) (k' : Nat), k ≤ k' ∧ k' ≤ k + 8 * szT (.sl int) a ∧ laws_markIntS a (k : Int) = some (a', ((k' : Int), ())) ∧ laws_heldIntS a' (k : Int) = some ((k' : Int), ()) ∧ kf (.sl int) a a' := by
  have h40 : big40 = 1099511627776 := rfl
  by_cases hlen : List.length a < 9223372036854775807
  case neg => exfalso; have h1 : List.length a ≤ szT (.sl int) a := Nat.le_add_right _ _; omega
  have hsum : (List.map (fun x => 8 + 8 * szT int x) a).sum = 8 * szT (.sl int) a := sum8 _ _
  have hx := mark_held (stepM := fun x : (((List Int) × TCombo) × Unit) => laws_markIntS_2_R x.1.1 x.1.2.1 x.1.2.2.1) (stepH := fun x : (((List Int) × TCombo) × Unit) => laws_heldIntS_2_R x.1.1 x.1.2.1 x.1.2.2.1) (fun x => 8 + 8 * szT int x) big40 (fun o k i => ((o, k, i, ()), ())) (fun o k => .inl ((o, k, ()), ())) (fun o k i => ((o, k, i, ()), ())) (fun _ k => .inl ((k, ()), ())) (by
      intro o k i hi hB
      have hw : IntKind.wrap .i64 (((k : Nat) : Int) + 1) = (((k + 1) : Nat) : Int) := wrap_succ (by omega)
      refine ⟨((k : Nat) : Int), k + 1, by omega, by omega, ?_, ?_⟩
      · simp only [laws_markIntS_2_R]
        rw [dec_true (show (i : Int) < (List.length o : Int) by omega)]
        simp only [hw, cond_true, inb_nat, List.length_set, dec_true hi, Int.toNat_natCast, List.getElem?_eq_getElem hi, List.getElem?_set_self hi, Option.bind_some, List.set_set, z3, cond_false]
      · intro o2 hi2 h2
        simp only [laws_heldIntS_2_R]
        rw [dec_true (show (i : Int) < (List.length o2 : Int) by omega), idx_lt hi2, h2]
        simp only [hw, cond_true, Option.bind_some, bne_self_eq_false', cond_false, z3]) (by
      intro o k
      simp only [laws_markIntS_2_R]
      rw [dec_false (by omega)]
      rfl) (by
      intro o k
      simp only [laws_heldIntS_2_R]
      rw [dec_false (by omega)]
      rfl) a k (by rw [hsum]; exact hk) hlen
  obtain ⟨o, k1, h1, h2, _, h4, h5⟩ := hx
  rw [hsum] at h2
  refine ⟨o, k1, h1, h2, ?_, ?_, trivial⟩
  · unfold laws_markIntS laws_markIntS_2_loop
    erw [h4]
    rfl
  · unfold laws_heldIntS laws_heldIntS_2_loop
    erw [h5]
    rfl

theorem markIntSS_ok (a : (List (List Int))) (k : Nat) (hk : k + 8 * szT (.sl (.sl int)) a ≤ big40) : ∃ (a' : (List (List Int))) (k' : Nat), k ≤ k' ∧ k' ≤ k + 8 * szT (.sl (.sl int)) a ∧ laws_markIntSS a (k : Int) = some (a', ((k' : Int), ())) ∧ laws_heldIntSS a' (k : Int) = some ((k' : Int), ()) ∧ kf (.sl (.sl int)) a a' := by
  have h40 : big40 = 1099511627776 := rfl
  by_cases hlen : List.length a < 9223372036854775807
  case neg => exfalso; have h1 : List.length a ≤ szT (.sl (.sl int)) a := Nat.le_add_right _ _; omega
  have hsum : (List.map (fun x => 8 + 8 * szT (.sl int) x) a).sum = 8 * szT (.sl (.sl int)) a := sum8 _ _
  have hx := mark_held (stepM := fun x : (((List (List Int)) × TCombo) × Unit) => laws_markIntSS_2_R x.1.1 x.1.2.1 x.1.2.2.1) (stepH := fun x : (((List (List Int)) × TCombo) × Unit) => laws_heldIntSS_2_R x.1.1 x.1.2.1 x.1.2.2.1) (fun x => 8 + 8 * szT (.sl int) x) big40 (fun o k i => ((o, k, i, ()), ())) (fun o k => .inl ((o, k, ()), ())) (fun o k i => ((o, k, i, ()), ())) (fun _ k => .inl ((k, ()), ())) (by
      intro o k i hi hB
      obtain ⟨y0, k0, g0, i0, m0, n0, _⟩ := markIntS_ok o[i] k (by omega)
      have d0 : decide ((k0 : Int) < 0) = false := dec_false (by omega)
      refine ⟨y0, k0, by omega, by omega, ?_, ?_⟩
      · simp only [laws_markIntSS_2_R]
        rw [dec_true (show (i : Int) < (List.length o : Int) by omega)]
        simp only [m0, cond_true, inb_nat, List.length_set, dec_true hi, Int.toNat_natCast, List.getElem?_eq_getElem hi, List.getElem?_set_self hi, Option.bind_some, List.set_set, z3, cond_false]
      · intro o2 hi2 h2
        simp only [laws_heldIntSS_2_R]
        rw [dec_true (show (i : Int) < (List.length o2 : Int) by omega), idx_lt hi2, h2]
        simp only [n0, d0, cond_true, Option.bind_some, bne_self_eq_false', cond_false, z3]) (by
      intro o k
      simp only [laws_markIntSS_2_R]
      rw [dec_false (by omega)]
      rfl) (by
      intro o k
      simp only [laws_heldIntSS_2_R]
      rw [dec_false (by omega)]
      rfl) a k (by rw [hsum]; exact hk) hlen
  obtain ⟨o, k1, h1, h2, _, h4, h5⟩ := hx
  rw [hsum] at h2
  refine ⟨o, k1, h1, h2, ?_, ?_, trivial⟩
  · unfold laws_markIntSS laws_markIntSS_2_loop
    erw [h4]
    rfl
  · unfold laws_heldIntSS laws_heldIntSS_2_loop
    erw [h5]
    rfl

theorem markFlash_ok (a : TFlash) (k : Nat) (hk : k + 8 * szT tFlash a ≤ big40) : ∃ (a' : TFlash) (k' : Nat), k ≤ k' ∧ k' ≤ k + 8 * szT tFlash a ∧ laws_markFlash a (k : Int) = some (a', ((k' : Int), ())) ∧ laws_heldFlash a' (k : Int) = some ((k' : Int), ()) ∧ kf tFlash a a' := by
  have h40 : big40 = 1099511627776 := rfl
  have hs : szT tFlash a = szT (.sl (.sl int)) a.1 + (szT (.sl int) a.2.1) := by simp only [szT, Nat.add_zero, Nat.zero_add, Nat.add_assoc]
  obtain ⟨x0, k0, g0, i0, m0, n0, f0⟩ := markIntSS_ok a.1 k (by omega)
  obtain ⟨x1, k1, g1, i1, m1, n1, f1⟩ := markIntS_ok a.2.1 k0 (by omega)
  refine ⟨(x0, x1, ()), k1, by omega, by omega, ?_, ?_, f0, f1, rfl⟩
  · unfold laws_markFlash
    simp only [m0, m1, Option.bind_some]
  · unfold laws_heldFlash
    simp only [n0, Option.bind_some]
    rw [dec_false (by omega)]
    simp only [cond_false]
    simp only [n1, Option.bind_some]
    rw [dec_false (by omega)]
    simp only [cond_false]
end KF
