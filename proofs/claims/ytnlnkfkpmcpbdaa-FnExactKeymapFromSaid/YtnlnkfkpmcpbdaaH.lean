/- Lemmas on the helpers of the laws: sizes, copies, comparisons, marks (conditions: as each lemma tells). -/
import Derived.Test.YtnlnkfkpmcpbdaaPl
import Derived.Test.YtnlnkfkpmcpbdaaFns
namespace KF
open Go
theorem toByteS_ok (a : (List Int)) (hz : szT (.sl byte) a ≤ big20) : laws_toByteS a = some (a, ()) := by
  have h20 : big20 = 1048576 := rfl
  have hz' : List.length a + (List.map (szT byte) a).sum ≤ big20 := hz
  have hl := copy_loop (step := fun x : (((List Int) × ((List Int) × (Int × Unit))) × Unit) => laws_toByteS_3_R x.1.1 x.1.2.1 x.1.2.2.1) a (zT byte) (fun o i => ((a, o, i, ()), ())) (fun o => .inl ((o, ()), ())) (by
      intro k hk o ho
      simp only [laws_toByteS_3_R]
      rw [dec_true (show (k : Int) < (List.length a : Int) by omega), idx_lt hk]
      simp only [cond_true, Option.bind_some]
      rw [inb_nat, dec_true (show k < List.length o by omega)]
      simp [List.getElem?_eq_getElem (show k < List.length o by omega)]) (by
      intro o
      simp [laws_toByteS_3_R]) (by omega)
  unfold laws_toByteS laws_toByteS_3_loop
  rw [make_ok (by rw [lim_eq]; omega)]
  simp only [cond_true]
  rw [show Int.toNat ((List.length a : Nat) : Int) = List.length a by simp]
  erw [hl]
  rfl

theorem eqByteS_ok (a : (List Int)) (hz : szT (.sl byte) a ≤ big40) : laws_eqByteS a a = some (true, ()) := by
  have h40 : big40 = 1099511627776 := rfl
  have hz' : List.length a + (List.map (szT byte) a).sum ≤ big40 := hz
  have hl := loopF_run (step := fun x : (((List Int) × ((List Int) × (Int × Unit))) × Unit) => laws_eqByteS_4_R x.1.1 x.1.2.1 x.1.2.2.1) (fun k => ((a, a, (k : Int), ()), ())) (List.length a) (.inl ((), ())) (by
      intro k hk
      simp only [laws_eqByteS_4_R]
      rw [dec_true (show (k : Int) < (List.length a : Int) by omega), idx_lt hk]
      simp only [cond_true, Option.bind_some]
      rw [bne_self_eq_false']
      simp only [cond_false]
      rw [wrap_succ (by omega)]) (by
      simp [laws_eqByteS_4_R])
  unfold laws_eqByteS laws_eqByteS_4_loop
  rw [bne_self_eq_false']
  simp only [cond_false]
  erw [hl]
  rfl

theorem eqByteSS_ok (a : (List (List Int))) (hz : szT (.sl (.sl byte)) a ≤ big40) : laws_eqByteSS a a = some (true, ()) := by
  have h40 : big40 = 1099511627776 := rfl
  have hz' : List.length a + (List.map (szT (.sl byte)) a).sum ≤ big40 := hz
  have hl := loopF_run (step := fun x : (((List (List Int)) × ((List (List Int)) × (Int × Unit))) × Unit) => laws_eqByteSS_4_R x.1.1 x.1.2.1 x.1.2.2.1) (fun k => ((a, a, (k : Int), ()), ())) (List.length a) (.inl ((), ())) (by
      intro k hk
      simp only [laws_eqByteSS_4_R]
      rw [dec_true (show (k : Int) < (List.length a : Int) by omega), idx_lt hk]
      simp only [cond_true, Option.bind_some]
      have hk' := sum_map_le (f := szT (.sl byte)) hk
      rw [eqByteS_ok a[k] (by omega)]
      simp only [Option.bind_some, Bool.not_true, cond_false]
      rw [wrap_succ (by omega)]) (by
      simp [laws_eqByteSS_4_R])
  unfold laws_eqByteSS laws_eqByteSS_4_loop
  rw [bne_self_eq_false']
  simp only [cond_false]
  erw [hl]
  rfl

theorem eqAction_ok (a : TAction) (hz : szT tAction a ≤ big40) : laws_eqAction a a = some (true, ()) := by
  unfold laws_eqAction
  have hs : szT tAction a = 0 := by simp only [szT, Nat.add_zero, Nat.zero_add, Nat.add_assoc]
  simp only [bne_self_eq_false', cond_false, Bool.not_true, Option.bind_some]

theorem eqActionS_ok (a : (List TAction)) (hz : szT (.sl tAction) a ≤ big40) : laws_eqActionS a a = some (true, ()) := by
  have h40 : big40 = 1099511627776 := rfl
  have hz' : List.length a + (List.map (szT tAction) a).sum ≤ big40 := hz
  have hl := loopF_run (step := fun x : (((List TAction) × ((List TAction) × (Int × Unit))) × Unit) => laws_eqActionS_4_R x.1.1 x.1.2.1 x.1.2.2.1) (fun k => ((a, a, (k : Int), ()), ())) (List.length a) (.inl ((), ())) (by
      intro k hk
      simp only [laws_eqActionS_4_R]
      rw [dec_true (show (k : Int) < (List.length a : Int) by omega), idx_lt hk]
      simp only [cond_true, Option.bind_some]
      have hk' := sum_map_le (f := szT tAction) hk
      rw [eqAction_ok a[k] (by omega)]
      simp only [Option.bind_some, Bool.not_true, cond_false]
      rw [wrap_succ (by omega)]) (by
      simp [laws_eqActionS_4_R])
  unfold laws_eqActionS laws_eqActionS_4_loop
  rw [bne_self_eq_false']
  simp only [cond_false]
  erw [hl]
  rfl

theorem eqActionSS_ok (a : (List (List TAction))) (hz : szT (.sl (.sl tAction)) a ≤ big40) : laws_eqActionSS a a = some (true, ()) := by
  have h40 : big40 = 1099511627776 := rfl
  have hz' : List.length a + (List.map (szT (.sl tAction)) a).sum ≤ big40 := hz
  have hl := loopF_run (step := fun x : (((List (List TAction)) × ((List (List TAction)) × (Int × Unit))) × Unit) => laws_eqActionSS_4_R x.1.1 x.1.2.1 x.1.2.2.1) (fun k => ((a, a, (k : Int), ()), ())) (List.length a) (.inl ((), ())) (by
      intro k hk
      simp only [laws_eqActionSS_4_R]
      rw [dec_true (show (k : Int) < (List.length a : Int) by omega), idx_lt hk]
      simp only [cond_true, Option.bind_some]
      have hk' := sum_map_le (f := szT (.sl tAction)) hk
      rw [eqActionS_ok a[k] (by omega)]
      simp only [Option.bind_some, Bool.not_true, cond_false]
      rw [wrap_succ (by omega)]) (by
      simp [laws_eqActionSS_4_R])
  unfold laws_eqActionSS laws_eqActionSS_4_loop
  rw [bne_self_eq_false']
  simp only [cond_false]
  erw [hl]
  rfl

theorem eqKeymap_ok (a : TKeymap) (hz : szT tKeymap a ≤ big40) : laws_eqKeymap a a = some (true, ()) := by
  unfold laws_eqKeymap
  have hs : szT tKeymap a = szT (.sl (.sl tAction)) a.2.1 := by simp only [szT, Nat.add_zero, Nat.zero_add, Nat.add_assoc]
  simp only [bne_self_eq_false', cond_false, Bool.not_true, Option.bind_some, eqActionSS_ok a.2.1 (by omega)]

theorem szByteS_ok (a : (List Int)) (hr : Rng (.sl byte) a) (l : Nat) (hl : l ≤ big20) : laws_szByteS a (l : Int) = some (szR (szT (.sl byte) a) l, ()) := by
  have h20 : big20 = 1048576 := rfl
  have hlen : List.length a ≤ 9223372036854775807 := hr.1
  unfold laws_szByteS
  rw [wrap64 (by omega) (by omega)]
  rw [show szT (.sl byte) a = List.length a from szT_flat (e := byte) rfl a]
  by_cases h : List.length a ≤ l
  · rw [szR_le h, dec_false (by omega), show (l : Int) - (List.length a : Int) = ((l - List.length a : Nat) : Int) by omega]; rfl
  · rw [szR_gt h, dec_true (by omega)]; rfl

theorem szByteSS_ok (a : (List (List Int))) (hr : Rng (.sl (.sl byte)) a) (l : Nat) (hl : l ≤ big20) : laws_szByteSS a (l : Int) = some (szR (szT (.sl (.sl byte)) a) l, ()) := by
  have h20 : big20 = 1048576 := rfl
  have hlen : List.length a ≤ 9223372036854775807 := hr.1
  unfold laws_szByteSS
  rw [wrap64 (by omega) (by omega)]
  by_cases h : List.length a ≤ l
  · rw [dec_false (by omega), show (l : Int) - (List.length a : Int) = ((l - List.length a : Nat) : Int) by omega]
    simp only [cond_false, laws_szByteSS_5_loop]
    have hx := sz_loop (step := fun x : (((List (List Int)) × TCombo) × Unit) => laws_szByteSS_5_R x.1.1 x.1.2.1 x.1.2.2.1) a (szT (.sl byte)) (fun l i => ((a, l, i, ()), ())) (fun l => .inl ((l, ()), ())) (.inr (((-1 : Int), ()), ())) (by
      intro k hk l hl
      simp only [laws_szByteSS_5_R]
      rw [dec_true (show (k : Int) < (List.length a : Int) by omega), idx_lt hk]
      simp only [cond_true, Option.bind_some]
      rw [szByteS_ok a[k] (hr.2 k hk) l hl]
      simp only [Option.bind_some]
      by_cases hc : szT (.sl byte) a[k] ≤ l
      · rw [szR_le hc, dec_false (by omega), if_pos hc]; rfl
      · rw [szR_gt hc, if_neg hc]; rfl) (by
      intro l
      simp [laws_szByteSS_5_R]) (by omega) (l - List.length a) (by omega)
    rw [hx]
    simp only [Option.bind_some]
    have hs : szT (.sl (.sl byte)) a = List.length a + (List.map (szT (.sl byte)) a).sum := rfl
    rw [hs]
    by_cases h2 : (List.map (szT (.sl byte)) a).sum ≤ l - List.length a
    · rw [if_pos h2, szR_le (by omega)]; simp only [Sum.elim_inl]; rw [show l - List.length a - (List.map (szT (.sl byte)) a).sum = l - (List.length a + (List.map (szT (.sl byte)) a).sum) by omega]
    · rw [if_neg h2, szR_gt (by omega)]; rfl
  · rw [szR_gt (show ¬ szT (.sl (.sl byte)) a ≤ l by have hs : szT (.sl (.sl byte)) a = List.length a + (List.map (szT (.sl byte)) a).sum := rfl; omega), dec_true (by omega)]; rfl

theorem toByteSS_ok (a : (List (List Int))) (hz : szT (.sl (.sl byte)) a ≤ big20) : laws_toByteSS a = some (a, ()) := by
  have h20 : big20 = 1048576 := rfl
  have hz' : List.length a + (List.map (szT (.sl byte)) a).sum ≤ big20 := hz
  have hl := copy_loop (step := fun x : (((List (List Int)) × ((List (List Int)) × (Int × Unit))) × Unit) => laws_toByteSS_3_R x.1.1 x.1.2.1 x.1.2.2.1) a (zT (.sl byte)) (fun o i => ((a, o, i, ()), ())) (fun o => .inl ((o, ()), ())) (by
      intro k hk o ho
      simp only [laws_toByteSS_3_R]
      rw [dec_true (show (k : Int) < (List.length a : Int) by omega), idx_lt hk]
      have hk' := sum_map_le (f := szT (.sl byte)) hk
      simp only [cond_true, Option.bind_some]
      rw [toByteS_ok a[k] (by omega)]
      simp only [cond_true, Option.bind_some]
      rw [inb_nat, dec_true (show k < List.length o by omega)]
      simp [List.getElem?_eq_getElem (show k < List.length o by omega)]) (by
      intro o
      simp [laws_toByteSS_3_R]) (by omega)
  unfold laws_toByteSS laws_toByteSS_3_loop
  rw [make_ok (by rw [lim_eq]; omega)]
  simp only [cond_true]
  rw [show Int.toNat ((List.length a : Nat) : Int) = List.length a by simp]
  erw [hl]
  rfl

theorem markByteS_ok (a : (List Int)) (k : Nat) (hk : k + 8 * szT (.sl byte) a ≤ big40) : ∃ (a' : (List Int)) (k' : Nat), k ≤ k' ∧ k' ≤ k + 8 * szT (.sl byte) a ∧ laws_markByteS a (k : Int) = some (a', ((k' : Int), ())) ∧ laws_heldByteS a' (k : Int) = some ((k' : Int), ()) ∧ kf (.sl byte) a a' := by
  have h40 : big40 = 1099511627776 := rfl
  by_cases hlen : List.length a < 9223372036854775807
  case neg => exfalso; have h1 : List.length a ≤ szT (.sl byte) a := Nat.le_add_right _ _; omega
  have hsum : (List.map (fun x => 8 + 8 * szT byte x) a).sum = 8 * szT (.sl byte) a := sum8 _ _
  have hx := mark_held (stepM := fun x : (TL1Cur × Unit) => laws_markByteS_2_R x.1.1 x.1.2.1 x.1.2.2.1) (stepH := fun x : (TL1Cur × Unit) => laws_heldByteS_2_R x.1.1 x.1.2.1 x.1.2.2.1) (fun x => 8 + 8 * szT byte x) big40 (fun o k i => ((o, k, i, ()), ())) (fun o k => .inl ((o, k, ()), ())) (fun o k i => ((o, k, i, ()), ())) (fun _ k => .inl ((k, ()), ())) (by
      intro o k i hi hB
      have hw : IntKind.wrap .i64 (((k : Nat) : Int) + 1) = (((k + 1) : Nat) : Int) := wrap_succ (by omega)
      refine ⟨(Go.IntKind.wrap .u8 ((k : Nat) : Int)), k + 1, by omega, by omega, ?_, ?_⟩
      · simp only [laws_markByteS_2_R]
        rw [dec_true (show (i : Int) < (List.length o : Int) by omega)]
        simp only [hw, cond_true, inb_nat, List.length_set, dec_true hi, Int.toNat_natCast, List.getElem?_eq_getElem hi, List.getElem?_set_self hi, Option.bind_some, List.set_set, z3, cond_false]
      · intro o2 hi2 h2
        simp only [laws_heldByteS_2_R]
        rw [dec_true (show (i : Int) < (List.length o2 : Int) by omega), idx_lt hi2, h2]
        simp only [hw, cond_true, Option.bind_some, bne_self_eq_false', cond_false, z3]) (by
      intro o k
      simp only [laws_markByteS_2_R]
      rw [dec_false (by omega)]
      rfl) (by
      intro o k
      simp only [laws_heldByteS_2_R]
      rw [dec_false (by omega)]
      rfl) a k (by rw [hsum]; exact hk) hlen
  obtain ⟨o, k1, h1, h2, _, h4, h5⟩ := hx
  rw [hsum] at h2
  refine ⟨o, k1, h1, h2, ?_, ?_, trivial⟩
  · unfold laws_markByteS laws_markByteS_2_loop
    erw [h4]
    rfl
  · unfold laws_heldByteS laws_heldByteS_2_loop
    erw [h5]
    rfl

theorem markByteSS_ok (a : (List (List Int))) (k : Nat) (hk : k + 8 * szT (.sl (.sl byte)) a ≤ big40) : ∃ (a' : (List (List Int))) (k' : Nat), k ≤ k' ∧ k' ≤ k + 8 * szT (.sl (.sl byte)) a ∧ laws_markByteSS a (k : Int) = some (a', ((k' : Int), ())) ∧ laws_heldByteSS a' (k : Int) = some ((k' : Int), ()) ∧ kf (.sl (.sl byte)) a a' := by
  have h40 : big40 = 1099511627776 := rfl
  by_cases hlen : List.length a < 9223372036854775807
  case neg => exfalso; have h1 : List.length a ≤ szT (.sl (.sl byte)) a := Nat.le_add_right _ _; omega
  have hsum : (List.map (fun x => 8 + 8 * szT (.sl byte) x) a).sum = 8 * szT (.sl (.sl byte)) a := sum8 _ _
  have hx := mark_held (stepM := fun x : (((List (List Int)) × TCombo) × Unit) => laws_markByteSS_2_R x.1.1 x.1.2.1 x.1.2.2.1) (stepH := fun x : (((List (List Int)) × TCombo) × Unit) => laws_heldByteSS_2_R x.1.1 x.1.2.1 x.1.2.2.1) (fun x => 8 + 8 * szT (.sl byte) x) big40 (fun o k i => ((o, k, i, ()), ())) (fun o k => .inl ((o, k, ()), ())) (fun o k i => ((o, k, i, ()), ())) (fun _ k => .inl ((k, ()), ())) (by
      intro o k i hi hB
      obtain ⟨y0, k0, g0, i0, m0, n0, _⟩ := markByteS_ok o[i] k (by omega)
      have d0 : decide ((k0 : Int) < 0) = false := dec_false (by omega)
      refine ⟨y0, k0, by omega, by omega, ?_, ?_⟩
      · simp only [laws_markByteSS_2_R]
        rw [dec_true (show (i : Int) < (List.length o : Int) by omega)]
        simp only [m0, cond_true, inb_nat, List.length_set, dec_true hi, Int.toNat_natCast, List.getElem?_eq_getElem hi, List.getElem?_set_self hi, Option.bind_some, List.set_set, z3, cond_false]
      · intro o2 hi2 h2
        simp only [laws_heldByteSS_2_R]
        rw [dec_true (show (i : Int) < (List.length o2 : Int) by omega), idx_lt hi2, h2]
        simp only [n0, d0, cond_true, Option.bind_some, bne_self_eq_false', cond_false, z3]) (by
      intro o k
      simp only [laws_markByteSS_2_R]
      rw [dec_false (by omega)]
      rfl) (by
      intro o k
      simp only [laws_heldByteSS_2_R]
      rw [dec_false (by omega)]
      rfl) a k (by rw [hsum]; exact hk) hlen
  obtain ⟨o, k1, h1, h2, _, h4, h5⟩ := hx
  rw [hsum] at h2
  refine ⟨o, k1, h1, h2, ?_, ?_, trivial⟩
  · unfold laws_markByteSS laws_markByteSS_2_loop
    erw [h4]
    rfl
  · unfold laws_heldByteSS laws_heldByteSS_2_loop
    erw [h5]
    rfl

theorem markActionS_ok (a : (List TAction)) (k : Nat) (hk : k + 8 * szT (.sl tAction) a ≤ big40) : ∃ (a' : (List TAction)) (k' : Nat), k ≤ k' ∧ k' ≤ k + 8 * szT (.sl tAction) a ∧ laws_markActionS a (k : Int) = some (a', ((k' : Int), ())) ∧ laws_heldActionS a' (k : Int) = some ((k' : Int), ()) ∧ kf (.sl tAction) a a' := by
  have h40 : big40 = 1099511627776 := rfl
  by_cases hlen : List.length a < 9223372036854775807
  case neg => exfalso; have h1 : List.length a ≤ szT (.sl tAction) a := Nat.le_add_right _ _; omega
  have hsum : (List.map (fun x => 8 + 8 * szT tAction x) a).sum = 8 * szT (.sl tAction) a := sum8 _ _
  have hx := mark_held (stepM := fun x : (((List TAction) × TCombo) × Unit) => laws_markActionS_2_R x.1.1 x.1.2.1 x.1.2.2.1) (stepH := fun x : (((List TAction) × TCombo) × Unit) => laws_heldActionS_2_R x.1.1 x.1.2.1 x.1.2.2.1) (fun x => 8 + 8 * szT tAction x) big40 (fun o k i => ((o, k, i, ()), ())) (fun o k => .inl ((o, k, ()), ())) (fun o k i => ((o, k, i, ()), ())) (fun _ k => .inl ((k, ()), ())) (by
      intro o k i hi hB
      have hw : IntKind.wrap .i64 (((k : Nat) : Int) + 1) = (((k + 1) : Nat) : Int) ∧ IntKind.wrap .i64 ((((k + 1) : Nat) : Int) + 1) = (((k + 2) : Nat) : Int) ∧ IntKind.wrap .i64 ((((k + 2) : Nat) : Int) + 1) = (((k + 3) : Nat) : Int) ∧ IntKind.wrap .i64 ((((k + 3) : Nat) : Int) + 1) = (((k + 4) : Nat) : Int) := ⟨wrap_succ (show k < 9223372036854775807 by omega), wrap_succ (show (k + 1) < 9223372036854775807 by omega), wrap_succ (show (k + 2) < 9223372036854775807 by omega), wrap_succ (show (k + 3) < 9223372036854775807 by omega)⟩
      obtain ⟨w0, w1, w2, w3⟩ := hw
      refine ⟨(((k : Nat) : Int), (((k + 1) : Nat) : Int), (((k + 2) : Nat) : Int), (((k + 3) : Nat) : Int), ()), k + 4, by omega, by omega, ?_, ?_⟩
      · simp only [laws_markActionS_2_R]
        rw [dec_true (show (i : Int) < (List.length o : Int) by omega)]
        simp only [w0, w1, w2, w3, cond_true, inb_nat, List.length_set, dec_true hi, Int.toNat_natCast, List.getElem?_eq_getElem hi, List.getElem?_set_self hi, Option.bind_some, List.set_set, z3, cond_false]
      · intro o2 hi2 h2
        simp only [laws_heldActionS_2_R]
        rw [dec_true (show (i : Int) < (List.length o2 : Int) by omega), idx_lt hi2, h2]
        simp only [w0, w1, w2, w3, cond_true, Option.bind_some, bne_self_eq_false', cond_false, z3]) (by
      intro o k
      simp only [laws_markActionS_2_R]
      rw [dec_false (by omega)]
      rfl) (by
      intro o k
      simp only [laws_heldActionS_2_R]
      rw [dec_false (by omega)]
      rfl) a k (by rw [hsum]; exact hk) hlen
  obtain ⟨o, k1, h1, h2, _, h4, h5⟩ := hx
  rw [hsum] at h2
  refine ⟨o, k1, h1, h2, ?_, ?_, trivial⟩
  · unfold laws_markActionS laws_markActionS_2_loop
    erw [h4]
    rfl
  · unfold laws_heldActionS laws_heldActionS_2_loop
    erw [h5]
    rfl

theorem markActionSS_ok (a : (List (List TAction))) (k : Nat) (hk : k + 8 * szT (.sl (.sl tAction)) a ≤ big40) : ∃ (a' : (List (List TAction))) (k' : Nat), k ≤ k' ∧ k' ≤ k + 8 * szT (.sl (.sl tAction)) a ∧ laws_markActionSS a (k : Int) = some (a', ((k' : Int), ())) ∧ laws_heldActionSS a' (k : Int) = some ((k' : Int), ()) ∧ kf (.sl (.sl tAction)) a a' := by
  have h40 : big40 = 1099511627776 := rfl
  by_cases hlen : List.length a < 9223372036854775807
  case neg => exfalso; have h1 : List.length a ≤ szT (.sl (.sl tAction)) a := Nat.le_add_right _ _; omega
  have hsum : (List.map (fun x => 8 + 8 * szT (.sl tAction) x) a).sum = 8 * szT (.sl (.sl tAction)) a := sum8 _ _
  have hx := mark_held (stepM := fun x : (((List (List TAction)) × TCombo) × Unit) => laws_markActionSS_2_R x.1.1 x.1.2.1 x.1.2.2.1) (stepH := fun x : (((List (List TAction)) × TCombo) × Unit) => laws_heldActionSS_2_R x.1.1 x.1.2.1 x.1.2.2.1) (fun x => 8 + 8 * szT (.sl tAction) x) big40 (fun o k i => ((o, k, i, ()), ())) (fun o k => .inl ((o, k, ()), ())) (fun o k i => ((o, k, i, ()), ())) (fun _ k => .inl ((k, ()), ())) (by
      intro o k i hi hB
      obtain ⟨y0, k0, g0, i0, m0, n0, _⟩ := markActionS_ok o[i] k (by omega)
      have d0 : decide ((k0 : Int) < 0) = false := dec_false (by omega)
      refine ⟨y0, k0, by omega, by omega, ?_, ?_⟩
      · simp only [laws_markActionSS_2_R]
        rw [dec_true (show (i : Int) < (List.length o : Int) by omega)]
        simp only [m0, cond_true, inb_nat, List.length_set, dec_true hi, Int.toNat_natCast, List.getElem?_eq_getElem hi, List.getElem?_set_self hi, Option.bind_some, List.set_set, z3, cond_false]
      · intro o2 hi2 h2
        simp only [laws_heldActionSS_2_R]
        rw [dec_true (show (i : Int) < (List.length o2 : Int) by omega), idx_lt hi2, h2]
        simp only [n0, d0, cond_true, Option.bind_some, bne_self_eq_false', cond_false, z3]) (by
      intro o k
      simp only [laws_markActionSS_2_R]
      rw [dec_false (by omega)]
      rfl) (by
      intro o k
      simp only [laws_heldActionSS_2_R]
      rw [dec_false (by omega)]
      rfl) a k (by rw [hsum]; exact hk) hlen
  obtain ⟨o, k1, h1, h2, _, h4, h5⟩ := hx
  rw [hsum] at h2
  refine ⟨o, k1, h1, h2, ?_, ?_, trivial⟩
  · unfold laws_markActionSS laws_markActionSS_2_loop
    erw [h4]
    rfl
  · unfold laws_heldActionSS laws_heldActionSS_2_loop
    erw [h5]
    rfl

theorem markKeymap_ok (a : TKeymap) (k : Nat) (hk : k + 8 * szT tKeymap a ≤ big40) : ∃ (a' : TKeymap) (k' : Nat), k ≤ k' ∧ k' ≤ k + 8 * szT tKeymap a ∧ laws_markKeymap a (k : Int) = some (a', ((k' : Int), ())) ∧ laws_heldKeymap a' (k : Int) = some ((k' : Int), ()) ∧ kf tKeymap a a' := by
  have h40 : big40 = 1099511627776 := rfl
  have hs : szT tKeymap a = szT (.sl (.sl tAction)) a.2.1 := by simp only [szT, Nat.add_zero, Nat.zero_add, Nat.add_assoc]
  obtain ⟨x0, k0, g0, i0, m0, n0, f0⟩ := markActionSS_ok a.2.1 k (by omega)
  refine ⟨(a.1, x0, ()), k0, by omega, by omega, ?_, ?_, kf_refl _ _, f0, rfl⟩
  · unfold laws_markKeymap
    simp only [m0, Option.bind_some]
  · unfold laws_heldKeymap
    simp only [n0, Option.bind_some]
    rw [dec_false (by omega)]
    simp only [cond_false]
end KF
