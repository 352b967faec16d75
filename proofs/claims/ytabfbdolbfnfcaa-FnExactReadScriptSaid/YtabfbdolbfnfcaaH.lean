/- Lemmas on the helpers of the laws: sizes, copies, comparisons, marks (conditions: as each lemma tells). -/
import Derived.Test.YtabfbdolbfnfcaaPl
import Derived.Test.YtabfbdolbfnfcaaFns
namespace KF
open Go
theorem eqByteS_ok (a : (List Int)) (hz : szT (.sl byte) a ≤ big40) : laws_eqByteS a a = some (true, ()) := by
  have h40 : big40 = 1099511627776 := rfl
  have hz' : List.length a + (List.map (szT byte) a).sum ≤ big40 := hz
  have hl := loopF_run (step := fun x : (((List Int) × ((List Int) × (Int × Unit))) × Unit) => laws_eqByteS_4_R x.1.1 x.1.2.1 x.1.2.2.1) (fun k => ((a, a, (k : Int), ()), ())) (List.length a) (.inl ((), ())) (by
      intro k hk
      simp only [laws_eqByteS_4_R]
      rw [dec_true (show (k : Int) < (List.length a : Int) by omega), idx_lt hk]
      simp only [cond_true, Option.bind_some]
      rw [bne_self_eq_false']
      simp only [cond_false]
      rw [wrap_succ (by omega)]) (by
      simp [laws_eqByteS_4_R])
  unfold laws_eqByteS laws_eqByteS_4_loop
  rw [bne_self_eq_false']
  simp only [cond_false]
  erw [hl]
  rfl

theorem eqByteSS_ok (a : (List (List Int))) (hz : szT (.sl (.sl byte)) a ≤ big40) : laws_eqByteSS a a = some (true, ()) := by
  have h40 : big40 = 1099511627776 := rfl
  have hz' : List.length a + (List.map (szT (.sl byte)) a).sum ≤ big40 := hz
  have hl := loopF_run (step := fun x : (((List (List Int)) × ((List (List Int)) × (Int × Unit))) × Unit) => laws_eqByteSS_4_R x.1.1 x.1.2.1 x.1.2.2.1) (fun k => ((a, a, (k : Int), ()), ())) (List.length a) (.inl ((), ())) (by
      intro k hk
      simp only [laws_eqByteSS_4_R]
      rw [dec_true (show (k : Int) < (List.length a : Int) by omega), idx_lt hk]
      simp only [cond_true, Option.bind_some]
      have hk' := sum_map_le (f := szT (.sl byte)) hk
      rw [eqByteS_ok a[k] (by omega)]
      simp only [Option.bind_some, Bool.not_true, cond_false]
      rw [wrap_succ (by omega)]) (by
      simp [laws_eqByteSS_4_R])
  unfold laws_eqByteSS laws_eqByteSS_4_loop
  rw [bne_self_eq_false']
  simp only [cond_false]
  erw [hl]
  rfl

theorem markByteS_ok (a : (List Int)) (k : Nat) (hk : k + 8 * szT (.sl byte) a ≤ big40) : ∃ (a' : (List Int)) (k' : Nat), k ≤ k' ∧ k' ≤ k + 8 * szT (.sl byte) a ∧ laws_markByteS a (k : Int) = some (a', ((k' : Int), ())) ∧ laws_heldByteS a' (k : Int) = some ((k' : Int), ()) ∧ kf (.sl byte) a a' := by
  have h40 : big40 = 1099511627776 := rfl
  by_cases hlen : List.length a < 9223372036854775807
  case neg => exfalso; have h1 : List.length a ≤ szT (.sl byte) a := Nat.le_add_right _ _; omega
  have hsum : (List.map (fun x => 8 + 8 * szT byte x) a).sum = 8 * szT (.sl byte) a := sum8 _ _
  have hx := mark_held (stepM := fun x : (TL1Cur × Unit) => laws_markByteS_2_R x.1.1 x.1.2.1 x.1.2.2.1) (stepH := fun x : (TL1Cur × Unit) => laws_heldByteS_2_R x.1.1 x.1.2.1 x.1.2.2.1) (fun x => 8 + 8 * szT byte x) big40 (fun o k i => ((o, k, i, ()), ())) (fun o k => .inl ((o, k, ()), ())) (fun o k i => ((o, k, i, ()), ())) (fun _ k => .inl ((k, ()), ())) (by
      intro o k i hi hB
      have hw : IntKind.wrap .i64 (((k : Nat) : Int) + 1) = (((k + 1) : Nat) : Int) := wrap_succ (by omega)
      refine ⟨(Go.IntKind.wrap .u8 ((k : Nat) : Int)), k + 1, by omega, by omega, ?_, ?_⟩
      · simp only [laws_markByteS_2_R]
        rw [dec_true (show (i : Int) < (List.length o : Int) by omega)]
        simp only [hw, cond_true, inb_nat, List.length_set, dec_true hi, Int.toNat_natCast, List.getElem?_eq_getElem hi, List.getElem?_set_self hi, Option.bind_some, List.set_set, z3, cond_false]
      · intro o2 hi2 h2
        simp only [laws_heldByteS_2_R]
        rw [dec_true (show (i : Int) < (List.length o2 : Int) by omega), idx_lt hi2, h2]
        simp only [hw, cond_true, Option.bind_some, bne_self_eq_false', cond_false, z3]) (by
      intro o k
      simp only [laws_markByteS_2_R]
      rw [dec_false (by omega)]
      rfl) (by
      intro o k
      simp only [laws_heldByteS_2_R]
      rw [dec_false (by omega)]
      rfl) a k (by rw [hsum]; exact hk) hlen
  obtain ⟨o, k1, h1, h2, _, h4, h5⟩ := hx
  rw [hsum] at h2
  refine ⟨o, k1, h1, h2, ?_, ?_, trivial⟩
  · unfold laws_markByteS laws_markByteS_2_loop
    erw [h4]
    rfl
  · unfold laws_heldByteS laws_heldByteS_2_loop
    erw [h5]
    rfl

theorem markByteSS_ok (a : (List (List Int))) (k : Nat) (hk : k + 8 * szT (.sl (.sl byte)) a ≤ big40) : ∃ (a' : (List (List Int))) (k' : Nat), k ≤ k' ∧ k' ≤ k + 8 * szT (.sl (.sl byte)) a ∧ laws_markByteSS a (k : Int) = some (a', ((k' : Int), ())) ∧ laws_heldByteSS a' (k : Int) = some ((k' : Int), ()) ∧ kf (.sl (.sl byte)) a a' := by
  have h40 : big40 = 1099511627776 := rfl
  by_cases hlen : List.length a < 9223372036854775807
  case neg => exfalso; have h1 : List.length a ≤ szT (.sl (.sl byte)) a := Nat.le_add_right _ _; omega
  have hsum : (List.map (fun x => 8 + 8 * szT (.sl byte) x) a).sum = 8 * szT (.sl (.sl byte)) a := sum8 _ _
  have hx := mark_held (stepM := fun x : (((List (List Int)) × TCombo) × Unit) => laws_markByteSS_2_R x.1.1 x.1.2.1 x.1.2.2.1) (stepH := fun x : (((List (List Int)) × TCombo) × Unit) => laws_heldByteSS_2_R x.1.1 x.1.2.1 x.1.2.2.1) (fun x => 8 + 8 * szT (.sl byte) x) big40 (fun o k i => ((o, k, i, ()), ())) (fun o k => .inl ((o, k, ()), ())) (fun o k i => ((o, k, i, ()), ())) (fun _ k => .inl ((k, ()), ())) (by
      intro o k i hi hB
      obtain ⟨y0, k0, g0, i0, m0, n0, _⟩ := markByteS_ok o[i] k (by omega)
      have d0 : decide ((k0 : Int) < 0) = false := dec_false (by omega)
      refine ⟨y0, k0, by omega, by omega, ?_, ?_⟩
      · simp only [laws_markByteSS_2_R]
        rw [dec_true (show (i : Int) < (List.length o : Int) by omega)]
        simp only [m0, cond_true, inb_nat, List.length_set, dec_true hi, Int.toNat_natCast, List.getElem?_eq_getElem hi, List.getElem?_set_self hi, Option.bind_some, List.set_set, z3, cond_false]
      · intro o2 hi2 h2
        simp only [laws_heldByteSS_2_R]
        rw [dec_true (show (i : Int) < (List.length o2 : Int) by omega), idx_lt hi2, h2]
        simp only [n0, d0, cond_true, Option.bind_some, bne_self_eq_false', cond_false, z3]) (by
      intro o k
      simp only [laws_markByteSS_2_R]
      rw [dec_false (by omega)]
      rfl) (by
      intro o k
      simp only [laws_heldByteSS_2_R]
      rw [dec_false (by omega)]
      rfl) a k (by rw [hsum]; exact hk) hlen
  obtain ⟨o, k1, h1, h2, _, h4, h5⟩ := hx
  rw [hsum] at h2
  refine ⟨o, k1, h1, h2, ?_, ?_, trivial⟩
  · unfold laws_markByteSS laws_markByteSS_2_loop
    erw [h4]
    rfl
  · unfold laws_heldByteSS laws_heldByteSS_2_loop
    erw [h5]
    rfl
end KF
