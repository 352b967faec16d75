/- Laws on the plain functions: program and reference agree (conditions: as each lemma tells). -/
import Derived.Test.YtoncbegnhhcgmaaGreatPlain
set_option linter.unusedSimpArgs false
set_option linter.unusedVariables false
namespace KF
open Go
set_option linter.unusedSimpArgs false
set_option linter.unusedVariables false

/-! ### Two halves -/
def isReceiverB (r : TReceiver) : Bool := decide (r.1.length < 6) && (decide (-1 ≤ r.2.1 ∧ r.2.1 ≤ 255) && (decide (0 ≤ r.2.2.1 ∧ r.2.2.1 ≤ 16777215) && decide (0 ≤ r.2.2.2.1 ∧ r.2.2.2.1 ≤ 20)))
theorem impl_IsReceiver_ok (r : TReceiver) : impl_IsReceiver r = some (isReceiverB r, ()) := by
  unfold impl_IsReceiver isReceiverB
  simp only [cond_some, cond_unit]
  apply some_unit
  simp only [cond_iff, decide_eq_true_eq, Bool.false_eq_true, and_false, or_false, Bool.and_eq_true]
  omega
theorem spec_IsReceiver_ok (r : TReceiver) : spec_IsReceiver r = some (isReceiverB r, ()) := by
  unfold spec_IsReceiver isReceiverB
  simp only [spec_l1In_ok, Option.bind_some, cond_some, cond_unit]
  apply some_unit
  simp only [cond_iff, decide_eq_true_eq, Bool.false_eq_true, and_false, or_false, Bool.and_eq_true]
  omega
def halfI (m : TMatrix) : Int := cond (Int.tmod m.1 2 != 0) 0 (Int.tdiv (keyCountI m) 2)
theorem kc_all (m : TMatrix) : 0 ≤ keyCountI m ∧ keyCountI m ≤ 24 := by
  cases h : isMatrixB m with
  | true => have := kc_bd h; omega
  | false => unfold keyCountI; rw [h]; exact ⟨Int.le_refl _, by show (0 : Int) ≤ 24; decide⟩
theorem half_bd (m : TMatrix) : 0 ≤ halfI m ∧ halfI m ≤ 12 := by
  have h := kc_all m
  unfold halfI
  cases Int.tmod m.1 2 != 0 with
  | true => exact ⟨Int.le_refl _, by show (0 : Int) ≤ 12; decide⟩
  | false =>
    simp only [cond_false]
    rw [Int.tdiv_eq_ediv_of_nonneg h.1]
    omega
theorem spec_HalfKeys_ok (h : THalves) : spec_HalfKeys h = some (halfI h.1.1, ()) := by
  have hb := kc_all h.1.1
  unfold spec_HalfKeys halfI
  rw [spec_KeyCount_ok]
  have e : IntKind.wrap .i64 (Int.tdiv (keyCountI h.1.1) 2) = Int.tdiv (keyCountI h.1.1) 2 := by
    rw [Int.tdiv_eq_ediv_of_nonneg hb.1, wrap64 (by omega) (by omega)]
  simp only [Option.bind_some, e]
  cases Int.tmod h.1.1.1 2 != 0 <;> rfl
theorem impl_HalfKeys_ok (h : THalves) : impl_HalfKeys h = some (halfI h.1.1, ()) := by
  have hb := kc_all h.1.1
  unfold impl_HalfKeys halfI
  rw [impl_KeyCount_ok]
  have e : IntKind.wrap .i64 (Int.tdiv (keyCountI h.1.1) 2) = Int.tdiv (keyCountI h.1.1) 2 := by
    rw [Int.tdiv_eq_ediv_of_nonneg hb.1, wrap64 (by omega) (by omega)]
  simp only [Option.bind_some, e]
  cases Int.tmod h.1.1.1 2 != 0 <;> rfl
noncomputable def isHalvesB (h : THalves) : Bool := isBoardB h.1 && (decide (halfI h.1.1 > 0) && (isReceiverB h.2.1 && decide (0 ≤ h.2.2.1 ∧ h.2.2.1 ≤ 255)))
theorem impl_IsHalves_ok (h : THalves) (hb : BoardSz h.1) : impl_IsHalves h = some (isHalvesB h, ()) := by
  have hh := half_bd h.1.1
  unfold impl_IsHalves isHalvesB
  rw [impl_IsBoard_ok _ hb, impl_IsReceiver_ok, impl_HalfKeys_ok]
  simp only [Option.bind_some, cond_some, cond_unit]
  apply some_unit
  simp only [cond_iff, decide_eq_true_eq, Bool.false_eq_true, and_false, or_false, Bool.and_eq_true, bne_iff']
  constructor
  · rintro ⟨h1, h2, h3, h4, h5⟩; exact ⟨h1, by omega, h2, by omega, by omega⟩
  · rintro ⟨h1, h2, h3, h4, h5⟩; exact ⟨h1, h3, by omega, by omega, by omega⟩
theorem spec_IsHalves_ok (h : THalves) (hb : BoardSz h.1) : spec_IsHalves h = some (isHalvesB h, ()) := by
  unfold spec_IsHalves isHalvesB
  rw [spec_IsBoard_ok _ hb, spec_IsReceiver_ok, spec_HalfKeys_ok]
  simp only [Option.bind_some, spec_l1In_ok]
  cases isBoardB h.1 <;> cases decide (halfI h.1.1 > 0) <;> cases isReceiverB h.2.1 <;> rfl
theorem halves_sz (h : THalves) : szT tHalves h = szT tBoard h.1 + szT tReceiver h.2.1 := by
  simp only [szT, Nat.add_zero, Nat.zero_add]
theorem IsHalves_same (h : THalves) (hr : Rng tHalves h) (hz : szT tHalves h ≤ big20) : ∃ w, spec_IsHalves h = some (w, ()) ∧ impl_IsHalves h = some (w, ()) := by
  rw [halves_sz] at hz
  have hb := board_ok h.1 hr.1 (by omega)
  exact ⟨_, spec_IsHalves_ok h hb, impl_IsHalves_ok h hb⟩

/-! ### Copies -/
theorem steps_len {L : List (List TStep)} (hz : szT (.sl (.sl tStep)) L ≤ big20) : List.length L ≤ big20 ∧ ∀ k (hk : k < L.length), L[k].length ≤ big20 := by
  have h1 : szT (.sl (.sl tStep)) L = List.length L + (List.map (szT (.sl tStep)) L).sum := rfl
  refine ⟨by omega, fun k hk => ?_⟩
  have h2 := sum_map_le (f := szT (.sl tStep)) hk
  rw [szSteps] at h2
  omega
theorem impl_copyMacros_ok (L : List (List TStep)) (hz : szT (.sl (.sl tStep)) L ≤ big20) : impl_copyMacros L = some (L, ()) := by
  have h20 : big20 = 1048576 := rfl
  obtain ⟨h1, h2⟩ := steps_len hz
  have hl := loopF_map (step := fun x => impl_copyMacros_3_R x.1.1 x.1.2.1 x.1.2.2.1 x.1.2.2.2.1) L (fun x => x)
    (fun o k => ((o, L, ((List.length L : Nat) : Int), k, ()), ())) (fun o => .inl ((o, ()), ())) (by omega) (fun k hk o ho => by
      have := h2 k hk
      simp only [impl_copyMacros_3_R]
      rw [dec_true (by omega), idx_lt hk]
      simp only [cond_true, Option.bind_some]
      rw [lim_ok (by simp; omega), lim_ok (by simp only [List.length_cons, List.length_nil]; omega)]
      rfl) (fun o => by
      simp only [impl_copyMacros_3_R]
      rw [dec_false (by omega)]
      rfl)
  unfold impl_copyMacros impl_copyMacros_3_loop
  erw [hl]
  rw [List.map_id']
  rfl
theorem impl_copyEngine_ok (e : TEngine) (hz : szT tEngine e ≤ big20) : impl_copyEngine e = some (e, ()) := by
  have h20 : big20 = 1048576 := rfl
  rw [eng_sz, szHelds] at hz
  unfold impl_copyEngine
  rw [impl_copyKeymap_ok _ (by omega), impl_copyMacros_ok _ (by omega), lim_ok (by simp; omega)]
  rfl
theorem impl_copyDecider_ok (d : TDecider) (hz : szT tDecider d ≤ big20) : impl_copyDecider d = some (d, ()) := by
  have h20 : big20 = 1048576 := rfl
  rw [dec_sz, szEvents] at hz
  unfold impl_copyDecider
  rw [impl_copyEngine_ok _ (by omega), lim_ok (by simp; omega)]
  rfl
theorem impl_copyCombiner_ok (c : TCombiner) (h : CombinerSz c) : impl_copyCombiner c = some (c, ()) := by
  have h20 : big20 = 1048576 := rfl
  have h1 := h.a
  have h2 := h.q
  have h3 := h.e
  unfold impl_copyCombiner
  rw [lim_ok (by simp; omega), lim_ok (by simp; omega), lim_ok (by simp; omega)]
  rfl
theorem spec_l11Copy_ok (c : TCombiner) (h : CombinerSz c) : spec_l11Copy c = some (c, ()) := by
  have h20 : big20 = 1048576 := rfl
  have h1 := h.a
  have h2 := h.q
  have h3 := h.e
  unfold spec_l11Copy
  rw [lim_ok (by simp; omega), lim_ok (by simp; omega), lim_ok (by simp; omega)]
  rfl
theorem spec_l9Copy_ok (e : TEngine) (hz : szT tEngine e ≤ big20) : spec_l9Copy e = some (e, ()) := by
  have h20 : big20 = 1048576 := rfl
  rw [eng_sz, szHelds] at hz
  obtain ⟨h1, h2⟩ := steps_len (L := e.2.1) (by omega)
  have hl := loopF_map (step := fun x => spec_l9Copy_5_R x.1.1 x.1.2.1 x.1.2.2.1 x.1.2.2.2.1 x.2.1 x.2.2.1 x.2.2.2.1) e.2.1 (fun x => x)
    (fun o k => (((), (), (), k, ()), (e, (((0 : Int), ([] : List (List TAction)), ()), ([] : List (List TStep)), (0 : Int), ([] : List THeld), (0 : Int), false, ()), (e.1, o, e.2.2), ())))
    (fun o => .inl (((), (), (), ()), (e, (((0 : Int), ([] : List (List TAction)), ()), ([] : List (List TStep)), (0 : Int), ([] : List THeld), (0 : Int), false, ()), (e.1, o, e.2.2), ()))) (by omega) (fun k hk o ho => by
      have := h2 k hk
      simp only [spec_l9Copy_5_R]
      rw [dec_true (by omega), idx_lt hk]
      simp only [cond_true, Option.bind_some]
      rw [lim_ok (by simp; omega), lim_ok (by simp only [List.length_cons, List.length_nil]; omega)]
      rfl) (fun o => by
      simp only [spec_l9Copy_5_R]
      rw [dec_false (by omega)]
      rfl)
  unfold spec_l9Copy spec_l9Copy_5_loop
  rw [spec_l6Copy_ok _ (by omega)]
  simp only [Option.bind_some]
  erw [hl]
  rw [List.map_id']
  simp only [Option.bind_some, Sum.elim_inl]
  rw [lim_ok (by simp; omega)]
  rfl
theorem impl_copyBoard_ok (b : TBoard) (h : BoardSz b) : impl_copyBoard b = some (b, ()) := by
  unfold impl_copyBoard
  rw [impl_copyInts_ok _ h.d, impl_copyCombiner_ok _ h.c, impl_copyDecider_ok _ h.x]
  rfl
theorem spec_l17Copy_ok (b : TBoard) (h : BoardSz b) : spec_l17Copy b = some (b, ()) := by
  have h20 : big20 = 1048576 := rfl
  have h1 := h.d
  have h2 := h.x
  rw [dec_sz, szEvents] at h2
  unfold spec_l17Copy
  rw [lim_ok (by simp; omega), spec_l11Copy_ok _ h.c, spec_l9Copy_ok _ (by omega)]
  simp only [cond_true, Option.bind_some]
  rw [lim_ok (by simp; omega)]
  rfl

/-! ### New boards, new halves -/
def zBoard : TBoard := (((0 : Int), (0 : Int), false, ()), ((0 : Int), (0 : Int), (0 : Int), (0 : Int), (0 : Int), ([] : List Int), ()), (([] : List TCombo), (0 : Int), ([] : List TEvent), (0 : Int), (0 : Int), (0 : Int), ([] : List TEvent), ()), ((((0 : Int), ([] : List (List TAction)), ()), ([] : List (List TStep)), (0 : Int), ([] : List THeld), (0 : Int), false, ()), ((0 : Int), (0 : Int), (0 : Int), ()), ([] : List TEvent), (0 : Int), (0 : Int), (0 : Int), (0 : Int), ()), (0 : Int), (0 : Int), ())
theorem NewBoard_same (a0 : TMatrix) (a1 : TDebouncer) (a2 : TCombiner) (a3 : TDecider) (_ : Rng tMatrix a0) (_ : Rng tDebouncer a1) (hr2 : Rng tCombiner a2) (_ : Rng tDecider a3)
    (hz1 : szT tDebouncer a1 ≤ big20) (hz2 : szT tCombiner a2 ≤ big20) (hz3 : szT tDecider a3 ≤ big20) :
    ∃ w0 w1, spec_NewBoard a0 a1 a2 a3 = some (w0, w1, ()) ∧ impl_NewBoard a0 a1 a2 a3 = some (w0, w1, ()) ∧ szT tBoard w0 ≤ 4 * big20 := by
  have hb : BoardSz (a0, a1, a2, a3, (0 : Int), (0 : Int), ()) := ⟨by rw [deb_sz] at hz1; exact hz1, comb_ok a2 hr2 hz2, hz3⟩
  unfold spec_NewBoard impl_NewBoard
  rw [spec_IsBoard_ok _ hb, impl_copyBoard_ok _ hb, spec_l17Copy_ok _ hb]
  simp only [Option.bind_some]
  rw [impl_IsBoard_ok _ hb]
  simp only [Option.bind_some, cond_notb]
  cases isBoardB (a0, a1, a2, a3, (0 : Int), (0 : Int), ()) with
  | false => exact ⟨_, _, rfl, rfl, by decide⟩
  | true =>
    refine ⟨_, _, rfl, rfl, ?_⟩
    rw [board_sz]
    show szT tDebouncer a1 + (szT tCombiner a2 + szT tDecider a3) ≤ _
    omega
theorem NewHalves_same (b : TBoard) (hr : Rng tBoard b) (hz : szT tBoard b ≤ big20) :
    ∃ w0 w1, spec_NewHalves b = some (w0, w1, ()) ∧ impl_NewHalves b = some (w0, w1, ()) ∧ szT tHalves w0 ≤ 4 * big20 := by
  have hb := board_ok b hr hz
  unfold spec_NewHalves impl_NewHalves spec_NewReceiver impl_NewReceiver spec_l22Copy
  simp only [Option.bind_some]
  rw [impl_copyBoard_ok _ hb, spec_l17Copy_ok _ hb]
  simp only [Option.bind_some]
  rw [spec_IsHalves_ok _ hb, impl_IsHalves_ok _ hb, lim_ok (by decide)]
  simp only [Option.bind_some, cond_notb]
  cases isHalvesB (b, (([] : List Int), (-1 : Int), (0 : Int), (0 : Int), ()), (0 : Int), ()) with
  | false => exact ⟨_, _, rfl, rfl, by decide⟩
  | true =>
    refine ⟨_, _, rfl, rfl, ?_⟩
    rw [halves_sz]
    show szT tBoard b + szT tReceiver (([] : List Int), (-1 : Int), (0 : Int), (0 : Int), ()) ≤ _
    have : szT tReceiver (([] : List Int), (-1 : Int), (0 : Int), (0 : Int), ()) = 0 := rfl
    omega
end KF

namespace KF
open Go
set_option linter.unusedSimpArgs false
set_option linter.unusedVariables false

/-! ### What the contract of changedReports asks of the plain functions -/
theorem ints_all : ∀ (a b : List Int), a.length = b.length → allK (fun k x => b.getD k 0 == x) 0 a = (b == a)
  | a, b, h => by
    rw [Bool.eq_iff_iff, allK_true, beq_iff_eq]
    constructor
    · intro hj
      apply List.ext_getElem h.symm
      intro i h1 h2
      have := hj i h2
      rw [Nat.zero_add, beq_iff_eq, List.getD_eq_getElem?_getD, List.getElem?_eq_getElem h1] at this
      exact this
    · rintro rfl i hi
      rw [Nat.zero_add, beq_iff_eq, List.getD_eq_getElem?_getD, List.getElem?_eq_getElem hi]; rfl
theorem impl_sameInts_ok (a b : List Int) (hn : a.length ≤ lim) : impl_sameInts a b = some (a == b, ()) := by
  have hlim := lim_eq
  unfold impl_sameInts
  by_cases h : a.length = b.length
  · have hl := loopF_all (step := fun x => impl_sameInts_4_R x.1.1 x.1.2.1 x.1.2.2.1 x.1.2.2.2.1) a (fun k x => b.getD k 0 == x) (fun i => ((a, b, ((List.length a : Nat) : Int), i, ()), ()))
      (.inl ((), ())) (.inr ((false, ()), ())) (by
        intro k hk
        simp only [impl_sameInts_4_R]
        rw [dec_true (show (k : Int) < ((List.length a : Nat) : Int) by omega), idx_lt hk, idx_lt (show k < b.length by omega), List.getD_eq_getElem?_getD, List.getElem?_eq_getElem (show k < b.length by omega)]
        simp only [cond_true, Option.bind_some, Option.getD_some, bne]
        rw [show (a[k] == b[k]) = (b[k] == a[k]) by rw [Bool.eq_iff_iff, beq_iff_eq, beq_iff_eq]; exact eq_comm]
        cases b[k] == a[k] <;> rfl) (by
        simp only [impl_sameInts_4_R]
        rw [dec_false (by omega)]; rfl) (by omega)
    have e : (((List.length a : Nat) : Int) != ((List.length b : Nat) : Int)) = false := by simp [h]
    rw [e]
    simp only [cond_false]
    unfold impl_sameInts_4_loop
    erw [hl]
    rw [ints_all a b h, show (b == a) = (a == b) by rw [Bool.eq_iff_iff, beq_iff_eq, beq_iff_eq]; exact eq_comm]
    cases a == b <;> rfl
  · have e : (((List.length a : Nat) : Int) != ((List.length b : Nat) : Int)) = true := by simp; omega
    have e2 : (a == b) = false := by rw [beq_eq_false_iff_ne]; intro hh; exact h (by rw [hh])
    rw [e, e2]; rfl
theorem sameR_ok (a b : T rpT) (h1 : List.length a.2.1 ≤ lim) (_ : List.length b.2.1 ≤ lim) : (fun x : T (.p rpT (.p rpT .u)) => impl_SameReport x.1 x.2.1) (a, b, ()) = some (sameR a b, ()) := by
  show impl_SameReport a b = _
  unfold impl_SameReport
  rw [impl_sameInts_ok _ _ h1]
  simp only [Option.bind_some, sameR]
  cases (show Int from a.1) == (show Int from b.1) <;> rfl
theorem chgo_loop (c : T rpO → T rpO → Option Bool) (l : List (T rpO)) (hl : List.length l ≤ lim) : ∀ (ys : List (T rpO)) (k : Nat) (out q : List (T rpO)) (a : T rpO), l.drop k = ys → k ≤ List.length l → List.length out + List.length ys ≤ lim →
    chgO c a ys = some q → chgo_3_loop c (((), out, l, ((List.length l : Nat) : Int), (k : Int), ()), (a, ())) = some (.inl ((List.append out q, ()), ())) := by
  have hlim := lim_eq
  intro ys
  induction ys with
  | nil =>
    intro k out q a hd hk _ hq
    have := drop_nil hd hk
    subst this
    simp only [chgO, Option.some.injEq] at hq
    subst hq
    have hs : chgo_3_R c () out l ((List.length l : Nat) : Int) ((List.length l : Nat) : Int) a = some (.inr (.inl ((out, ()), ()))) := by
      unfold chgo_3_R
      rw [dec_false (by omega)]; rfl
    unfold chgo_3_loop
    rw [loopF_of hs]
    simp
  | cons y ys ih =>
    intro k out q a hd hk hlen hq
    obtain ⟨hk', hy, hd'⟩ := drop_cons hd
    simp only [chgO] at hq
    cases hc : c a y with
    | none => rw [hc] at hq; simp at hq
    | some b =>
      rw [hc] at hq
      simp only [Option.bind_some] at hq
      cases hq2 : chgO c y ys with
      | none => rw [hq2] at hq; simp at hq
      | some q2 =>
        rw [hq2] at hq
        simp only [Option.bind_some, Option.some.injEq] at hq
        have hlc : List.length (y :: ys) = List.length ys + 1 := rfl
        have hs : chgo_3_R c () out l ((List.length l : Nat) : Int) (k : Int) a = some (.inl (((), cond b out (List.append out [y]), l, ((List.length l : Nat) : Int), ((k + 1 : Nat) : Int), ()), (y, ()))) := by
          unfold chgo_3_R SameO
          rw [dec_true (show (k : Int) < ((List.length l : Nat) : Int) by omega), idx_lt hk', hy]
          simp only [cond_true, Option.bind_some, hc]
          rw [wrap_succ (by omega)]
          cases b with
          | true => rfl
          | false =>
            rw [show Nat.ble (List.length out + List.length ([y] : List (Int × ((T .o) × Unit)))) lim = true from Nat.ble_eq_true_of_le (by simp only [List.length_cons, List.length_nil]; omega)]
            rfl
        unfold chgo_3_loop
        rw [loopF_of hs]
        simp only [Option.bind_some, Sum.elim_inl]
        have := ih (k + 1) (cond b out (List.append out [y])) q2 y hd' hk' (by cases b with
          | true => simp only [cond_true]; omega
          | false => simp only [cond_false, List.append_eq, List.length_append, List.length_cons, List.length_nil]; omega) hq2
        unfold chgo_3_loop at this
        rw [this, ← hq]
        cases b with
        | true => rfl
        | false => simp
theorem chgo_ok (c : T rpO → T rpO → Option Bool) : ∀ (a : T rpO) (l r : List (T rpO)), List.length l ≤ lim → chgO c a l = some r → (fun x : T (.p rpO (.p (.sl rpO) .u)) => chgo c x.1 x.2.1) (a, l, ()) = some (r, ()) := by
  intro a l r hl hq
  show chgo c a l = _
  unfold chgo
  have := chgo_loop c l hl l 0 [] r a rfl (Nat.zero_le _) (by simpa using hl) hq
  erw [this]
  rfl
end KF

namespace KF
open Go
set_option linter.unusedSimpArgs false
set_option linter.unusedVariables false

/-! ### Lists in strict order -/
theorem strict_eq : ∀ {a b : List Int}, a.Pairwise (· < ·) → b.Pairwise (· < ·) → (∀ x, x ∈ a ↔ x ∈ b) → a = b
  | [], [], _, _, _ => rfl
  | [], y :: b, _, _, h => by have := (h y).2 (by simp); simp at this
  | x :: a, [], _, _, h => by have := (h x).1 (by simp); simp at this
  | x :: a, y :: b, ha, hb, h => by
    rw [List.pairwise_cons] at ha hb
    have hxy : x = y := by
      rcases List.mem_cons.1 ((h x).1 (by simp)) with h1 | h1
      · exact h1
      · rcases List.mem_cons.1 ((h y).2 (by simp)) with h2 | h2
        · exact h2.symm
        · have := hb.1 x h1; have := ha.1 y h2; omega
    subst hxy
    congr 1
    refine strict_eq ha.2 hb.2 fun z => ⟨fun hz => ?_, fun hz => ?_⟩
    · rcases List.mem_cons.1 ((h z).1 (by simp [hz])) with h1 | h1
      · have := ha.1 z hz; omega
      · exact h1
    · rcases List.mem_cons.1 ((h z).2 (by simp [hz])) with h1 | h1
      · have := hb.1 z hz; omega
      · exact h1
/-- one after the other, each once, no zero -/
def ddG (o : List Int) (x : Int) : List Int := cond ((x != 0) && !o.any (fun y => y == x)) (List.append o [x]) o
def ddK (k : Nat) (o l : List Int) : List Int := foldK (fun _ o x => ddG o x) k o l
theorem dd_len : ∀ (l : List Int) (k : Nat) (o : List Int), (ddK k o l).length ≤ o.length + l.length
  | [], _, o => by simp [ddK, foldK]
  | x :: l, k, o => by
    have := dd_len l (k + 1) (ddG o x)
    simp only [ddK, foldK] at this ⊢
    have h2 : (ddG o x).length ≤ o.length + 1 := by
      unfold ddG
      cases (x != 0) && !o.any (fun y => y == x) <;> simp
    simp only [List.length_cons]
    omega
theorem dd_mem : ∀ (l : List Int) (k : Nat) (o : List Int) (y : Int), y ∈ ddK k o l ↔ y ∈ o ∨ (y ∈ l ∧ y ≠ 0)
  | [], _, o, y => by simp [ddK, foldK]
  | x :: l, k, o, y => by
    have := dd_mem l (k + 1) (ddG o x) y
    simp only [ddK, foldK] at this ⊢
    rw [this]
    unfold ddG
    by_cases h0 : x = 0
    · subst h0
      simp only [bne_self_eq_false, Bool.false_and, cond_false, List.mem_cons]
      constructor
      · rintro (h | ⟨h1, h2⟩)
        · exact .inl h
        · exact .inr ⟨.inr h1, h2⟩
      · rintro (h | ⟨h1 | h1, h2⟩)
        · exact .inl h
        · exact absurd h1 h2
        · exact .inr ⟨h1, h2⟩
    · by_cases h1 : o.any (fun y => y == x) = true
      · rw [h1]
        simp only [Bool.not_true, Bool.and_false, cond_false, List.mem_cons]
        have hx : x ∈ o := by
          obtain ⟨z, hz, e⟩ := List.any_eq_true.1 h1
          rw [beq_iff_eq] at e; rw [← e]; exact hz
        constructor
        · rintro (h | ⟨h1, h2⟩)
          · exact .inl h
          · exact .inr ⟨.inr h1, h2⟩
        · rintro (h | ⟨h1 | h1, h2⟩)
          · exact .inl h
          · exact .inl (h1 ▸ hx)
          · exact .inr ⟨h1, h2⟩
      · have e : ((x != 0) && !o.any (fun y => y == x)) = true := by
          simp only [Bool.not_eq_true] at h1
          rw [h1]; simp [h0]
        rw [e]
        simp only [cond_true, List.append_eq, List.mem_append, List.mem_cons, List.not_mem_nil, or_false]
        constructor
        · rintro ((h | h) | ⟨h1, h2⟩)
          · exact .inl h
          · exact .inr ⟨.inl h, by rw [h]; exact h0⟩
          · exact .inr ⟨.inr h1, h2⟩
        · rintro (h | ⟨h1 | h1, h2⟩)
          · exact .inl (.inl h)
          · exact .inl (.inr h1)
          · exact .inr ⟨h1, h2⟩
theorem dd_strict : ∀ (l : List Int) (k : Nat) (o : List Int), o.Pairwise (· < ·) → l.Pairwise (· ≤ ·) → (∀ y ∈ o, ∀ x ∈ l, y ≤ x) → (ddK k o l).Pairwise (· < ·)
  | [], _, o, ho, _, _ => by simpa [ddK, foldK] using ho
  | x :: l, k, o, ho, hl, h => by
    rw [List.pairwise_cons] at hl
    have key : (ddG o x).Pairwise (· < ·) ∧ ∀ y ∈ ddG o x, ∀ z ∈ l, y ≤ z := by
      unfold ddG
      cases hc : (x != 0) && !o.any (fun y => y == x) with
      | false => exact ⟨ho, fun y hy z hz => h y hy z (by simp [hz])⟩
      | true =>
        simp only [Bool.and_eq_true, Bool.not_eq_true', List.any_eq_false, beq_iff_eq] at hc
        simp only [cond_true, List.append_eq]
        refine ⟨?_, ?_⟩
        · rw [List.pairwise_append]
          refine ⟨ho, by simp, fun y hy z hz => ?_⟩
          simp only [List.mem_cons, List.not_mem_nil, or_false] at hz
          subst hz
          have h1 := h y hy z (by simp)
          have h2 := hc.2 y hy
          omega
        · intro y hy z hz
          rcases List.mem_append.1 hy with hy | hy
          · exact h y hy z (by simp [hz])
          · simp only [List.mem_cons, List.not_mem_nil, or_false] at hy
            subst hy
            exact hl.1 z hz
    have := dd_strict l (k + 1) (ddG o x) key.1 hl.2 key.2
    simpa [ddK, foldK] using this

/-! ### Reports -/
def codesN (l : List THeld) : Nat → List Int
  | 0 => []
  | n + 1 => cond (l.any fun h => h.2.1.2.1 == ((n + 1 : Nat) : Int)) (codesN l n ++ [((n + 1 : Nat) : Int)]) (codesN l n)
theorem codesN_mem (l : List THeld) : ∀ (n : Nat) (x : Int), x ∈ codesN l n ↔ (1 ≤ x ∧ x ≤ (n : Int)) ∧ ∃ h ∈ l, h.2.1.2.1 = x
  | 0, x => by simp [codesN]; intro h1 h2; omega
  | n + 1, x => by
    simp only [codesN]
    cases hc : (l.any fun h => h.2.1.2.1 == ((n + 1 : Nat) : Int)) with
    | true =>
      simp only [cond_true, List.mem_append, codesN_mem l n x, List.mem_cons, List.not_mem_nil, or_false]
      obtain ⟨h, hh, e⟩ := List.any_eq_true.1 hc
      rw [beq_iff_eq] at e
      constructor
      · rintro (⟨h1, h2⟩ | rfl)
        · exact ⟨by omega, h2⟩
        · exact ⟨by omega, h, hh, e⟩
      · rintro ⟨h1, h2⟩
        by_cases hx : x = ((n + 1 : Nat) : Int)
        · exact .inr hx
        · exact .inl ⟨by omega, h2⟩
    | false =>
      simp only [cond_false, codesN_mem l n x]
      rw [List.any_eq_false] at hc
      constructor
      · rintro ⟨h1, h2⟩; exact ⟨by omega, h2⟩
      · rintro ⟨h1, h, hh, e⟩
        refine ⟨?_, h, hh, e⟩
        have := hc h hh
        rw [beq_iff_eq] at this
        omega
theorem codesN_strict (l : List THeld) : ∀ n, (codesN l n).Pairwise (· < ·)
  | 0 => by simp [codesN]
  | n + 1 => by
    simp only [codesN]
    cases (l.any fun h => h.2.1.2.1 == ((n + 1 : Nat) : Int)) with
    | true =>
      simp only [cond_true]
      rw [List.pairwise_append]
      refine ⟨codesN_strict l n, by simp, fun y hy z hz => ?_⟩
      simp only [List.mem_cons, List.not_mem_nil, or_false] at hz
      have := (codesN_mem l n y).1 hy
      omega
    | false => exact codesN_strict l n
theorem codesN_len (l : List THeld) : ∀ n, (codesN l n).length ≤ n
  | 0 => by simp [codesN]
  | n + 1 => by
    have := codesN_len l n
    simp only [codesN]
    cases (l.any fun h => h.2.1.2.1 == ((n + 1 : Nat) : Int)) <;> simp <;> omega
def modsI (l : List THeld) : Int := foldK (fun _ s (h : THeld) => cond (h.2.1.1 == 2 || h.2.1.1 == 8) (ior .i64 s h.2.1.2.2.1) s) 0 0 l
def reportI (l : List THeld) : TReport := (modsI l, codesN l 56, ())
theorem action_code {a : TAction} (h : isActionB a = true) : 0 ≤ a.2.1 ∧ a.2.1 ≤ 56 := by
  rw [isActionB_iff] at h
  unfold IsActionP at h
  omega
theorem impl_hasInt_ok (l : List Int) (x : Int) (hn : l.length ≤ lim) : impl_hasInt l x = some (l.any (fun y => y == x), ()) := by
  have hlim := lim_eq
  have hl := loopF_all (step := fun y => impl_hasInt_2_R y.1.1 y.1.2.1 y.1.2.2.1 y.1.2.2.2.1) l (fun _ y => !(y == x)) (fun i => ((x, l, ((List.length l : Nat) : Int), i, ()), ()))
    (.inl ((), ())) (.inr ((true, ()), ())) (by
      intro k hk
      simp only [impl_hasInt_2_R]
      rw [dec_true (show (k : Int) < ((List.length l : Nat) : Int) by omega), idx_lt hk]
      simp only [cond_true, Option.bind_some]
      cases l[k] == x <;> rfl) (by
      simp only [impl_hasInt_2_R]
      rw [dec_false (by omega)]; rfl) (by omega)
  unfold impl_hasInt impl_hasInt_2_loop
  erw [hl]
  have : ∀ (l : List Int) (k : Nat), allK (fun _ y => !(y == x)) k l = !l.any (fun y => y == x) := by
    intro l
    induction l with
    | nil => intro k; rfl
    | cons y l ih => intro k; simp only [allK, List.any_cons, ih, Bool.not_or]
  rw [this]
  cases l.any (fun y => y == x) <;> rfl
theorem impl_codesOf_ok (l : List THeld) (hn : l.length ≤ big20) (hx : ∀ h ∈ l, 0 ≤ h.2.1.2.1 ∧ h.2.1.2.1 ≤ 56) : impl_codesOf (l.map fun h => h.2.1.2.1) = some (codesN l 56, ()) := by
  have h20 : big20 = 1048576 := rfl
  have hlim := lim_eq
  generalize hcs : (l.map fun h => h.2.1.2.1) = cs
  have hcl : cs.length = l.length := by rw [← hcs]; simp
  unfold impl_codesOf
  rw [impl_copyInts_ok _ (by omega)]
  simp only [Option.bind_some, sort_Ints, srt]
  rw [show Nat.ble (List.length cs) lim = true from Nat.ble_eq_true_of_le (by omega)]
  simp only [cond_true, Option.bind_some]
  generalize hss : (List.mergeSort cs fun x y => decide (x ≤ y)) = ss
  have hsl : ss.length = cs.length := by rw [← hss]; exact List.length_mergeSort _
  have hsm : ∀ x, x ∈ ss ↔ x ∈ cs := fun x => by rw [← hss]; exact List.mem_mergeSort
  have hsp : ss.Pairwise (· ≤ ·) := by
    rw [← hss]
    have := List.pairwise_mergeSort (le := fun x y : Int => decide (x ≤ y)) (by intro a b c; simp; omega) (by intro a b; simp; omega) cs
    exact this.imp (by intro a b h; simpa using h)
  have hl := (loopF_fold (step := fun x => impl_codesOf_5_R x.1.1 x.1.2.1 x.1.2.2.1 x.1.2.2.2.1) ss (fun _ o x => ddG o x) (fun o i => ((o, ss, ((List.length ss : Nat) : Int), i, ()), ())) (fun o => .inl ((o, ()), ())) (fun k o => o.length ≤ k) (by
      intro k hk o ho
      have hd : (ddG o ss[k]).length ≤ k + 1 := by
        unfold ddG
        cases (ss[k] != 0) && !o.any (fun y => y == ss[k]) <;> simp <;> omega
      refine ⟨?_, hd⟩
      simp only [impl_codesOf_5_R]
      rw [dec_true (show (k : Int) < ((List.length ss : Nat) : Int) by omega), show inb (List.length ss) (k : Int) = true by rw [inb_nat]; exact dec_true hk, Int.toNat_natCast, List.getElem?_eq_getElem hk]
      simp only [cond_true, Option.bind_some]
      rw [impl_hasInt_ok _ _ (by omega), show Nat.ble (List.length o + List.length ([ss[k]] : List Int)) lim = true from Nat.ble_eq_true_of_le (by simp only [List.length_cons, List.length_nil]; omega)]
      simp only [Option.bind_some, ddG]
      cases ss[k] != 0 <;> cases o.any (fun y => y == ss[k]) <;> rfl)
    (by
      intro o _
      simp only [impl_codesOf_5_R]
      rw [dec_false (by omega)]; rfl) (by omega) [] (Nat.le_refl _)).1
  unfold impl_codesOf_5_loop
  erw [hl]
  simp only [Option.bind_some, Sum.elim_inl]
  congr 2
  refine strict_eq (dd_strict ss 0 [] (by simp) hsp (by simp)) (codesN_strict l 56) fun x => ?_
  rw [show foldK (fun _ o x => ddG o x) 0 [] ss = ddK 0 [] ss from rfl, dd_mem, codesN_mem, hsm, ← hcs]
  simp only [List.not_mem_nil, false_or, List.mem_map]
  constructor
  · rintro ⟨⟨h, hh, rfl⟩, h0⟩
    have := hx h hh
    exact ⟨by omega, h, hh, rfl⟩
  · rintro ⟨h1, h, hh, rfl⟩
    exact ⟨⟨h, hh, rfl⟩, by omega⟩
theorem impl_ReportOf_ok (l : List THeld) (hn : l.length ≤ big20) (hv : isHeldB l = true) : impl_ReportOf l = some (reportI l, ()) := by
  have h20 : big20 = 1048576 := rfl
  have hlim := lim_eq
  have hh := isHeld_ok hv
  have hl := (loopF_fold (step := fun x => impl_ReportOf_6_R x.1.1 x.1.2.1 x.1.2.2.1 x.1.2.2.2.1 x.1.2.2.2.2.1 x.1.2.2.2.2.2.1 x.2.1 x.2.2.1) l
    (fun _ (s : Int × List Int) (h : THeld) => (cond (h.2.1.1 == 2 || h.2.1.1 == 8) (ior .i64 s.1 h.2.1.2.2.1) s.1, List.append s.2 [h.2.1.2.1])) (fun s i => (((), (), s.2, l, ((List.length l : Nat) : Int), i, ()), (((0 : Int), ([] : List Int), ()), (s.1, ([] : List Int), ()), ())))
    (fun s => .inl (((), (), s.2, ()), (((0 : Int), ([] : List Int), ()), (s.1, ([] : List Int), ()), ()))) (fun k s => s.2.length = k) (by
      intro k hk s hs
      refine ⟨?_, by simp [hs]⟩
      simp only [impl_ReportOf_6_R]
      rw [dec_true (show (k : Int) < ((List.length l : Nat) : Int) by omega), idx_lt hk]
      simp only [cond_true, Option.bind_some]
      rw [show Nat.ble (List.length s.2 + List.length ([l[k].2.1.2.1] : List Int)) lim = true from Nat.ble_eq_true_of_le (by simp only [List.length_cons, List.length_nil]; omega)]
      cases l[k].2.1.1 == 2 <;> cases l[k].2.1.1 == 8 <;> rfl)
    (by
      intro s _
      simp only [impl_ReportOf_6_R]
      rw [dec_false (by omega)]; rfl) (by omega) (0, []) rfl).1
  have key : ∀ (l : List THeld) (k : Nat) (s : Int × List Int), foldK (fun _ (s : Int × List Int) (h : THeld) => (cond (h.2.1.1 == 2 || h.2.1.1 == 8) (ior .i64 s.1 h.2.1.2.2.1) s.1, List.append s.2 [h.2.1.2.1])) k s l =
      (foldK (fun _ s (h : THeld) => cond (h.2.1.1 == 2 || h.2.1.1 == 8) (ior .i64 s h.2.1.2.2.1) s) k s.1 l, s.2 ++ l.map fun h => h.2.1.2.1) := by
    intro l
    induction l with
    | nil => intro k s; simp [foldK]
    | cons x l ih => intro k s; simp only [foldK]; rw [ih]; simp
  unfold impl_ReportOf impl_ReportOf_6_loop
  rw [impl_IsHeld_ok _ hn, hv]
  simp only [Option.bind_some, Bool.not_true, cond_false]
  erw [hl]
  rw [key]
  simp only [Option.bind_some, Sum.elim_inl, List.nil_append]
  rw [impl_codesOf_ok l hn (fun h hm => action_code (hh h hm).act)]
  rfl
theorem spec_ReportOf_in (l : List THeld) (hn : l.length ≤ big20) (c : Nat) (hc : c ≤ 56) (m : Int) (o : List Int) (ho : o.length ≤ 56) :
    spec_ReportOf_13_loop ((l, (), (), (c : Int), (0 : Int), ()), (((0 : Int), ([] : List Int), ()), (m, o, ()), ())) =
      some (.inl ((l, (), (), (c : Int), ()), (((0 : Int), ([] : List Int), ()), (m, cond (l.any fun h => h.2.1.2.1 == (c : Int)) (List.append o [(c : Int)]) o, ()), ()))) := by
  have h20 : big20 = 1048576 := rfl
  have hl := loopF_all (step := fun x => spec_ReportOf_13_R x.1.1 x.1.2.1 x.1.2.2.1 x.1.2.2.2.1 x.1.2.2.2.2.1 x.2.1 x.2.2.1) l (fun _ (h : THeld) => !(h.2.1.2.1 == (c : Int))) (fun i => ((l, (), (), (c : Int), i, ()), (((0 : Int), ([] : List Int), ()), (m, o, ()), ())))
    (.inl ((l, (), (), (c : Int), ()), (((0 : Int), ([] : List Int), ()), (m, o, ()), ()))) (.inl ((l, (), (), (c : Int), ()), (((0 : Int), ([] : List Int), ()), (m, List.append o [(c : Int)], ()), ()))) (by
      intro k hk
      simp only [spec_ReportOf_13_R]
      rw [dec_true (show (k : Int) < ((List.length l : Nat) : Int) by omega), idx_lt hk]
      simp only [cond_true, Option.bind_some]
      rw [show Nat.ble (List.length o + List.length ([(c : Int)] : List Int)) lim = true from Nat.ble_eq_true_of_le (by simp only [List.length_cons, List.length_nil, lim_eq]; omega)]
      cases l[k].2.1.2.1 == (c : Int) <;> rfl) (by
      simp only [spec_ReportOf_13_R]
      rw [dec_false (by omega)]; rfl) (by omega)
  have e : ∀ (l : List THeld) (k : Nat), allK (fun _ (h : THeld) => !(h.2.1.2.1 == (c : Int))) k l = !l.any fun h => h.2.1.2.1 == (c : Int) := by
    intro l
    induction l with
    | nil => intro k; rfl
    | cons y l ih => intro k; simp only [allK, List.any_cons, ih, Bool.not_or]
  unfold spec_ReportOf_13_loop
  erw [hl]
  rw [e]
  cases l.any fun h => h.2.1.2.1 == (c : Int) <;> rfl
theorem spec_ReportOf_ok (l : List THeld) (hn : l.length ≤ big20) (hv : isHeldB l = true) : spec_ReportOf l = some (reportI l, ()) := by
  have h20 : big20 = 1048576 := rfl
  have h1 := (loopF_fold (step := fun x => spec_ReportOf_5_R x.1.1 x.1.2.1 x.1.2.2.1 x.1.2.2.2.1 x.2.1 x.2.2.1) l
    (fun _ s (h : THeld) => cond (h.2.1.1 == 2 || h.2.1.1 == 8) (ior .i64 s h.2.1.2.2.1) s) (fun s i => ((l, (), (), i, ()), (((0 : Int), ([] : List Int), ()), (s, ([] : List Int), ()), ())))
    (fun s => .inl ((l, (), (), ()), (((0 : Int), ([] : List Int), ()), (s, ([] : List Int), ()), ()))) (fun _ _ => True) (by
      intro k hk s _
      refine ⟨?_, trivial⟩
      simp only [spec_ReportOf_5_R]
      rw [dec_true (show (k : Int) < ((List.length l : Nat) : Int) by omega), idx_lt hk]
      simp only [cond_true, Option.bind_some]
      cases l[k].2.1.1 == 2 <;> cases l[k].2.1.1 == 8 <;> rfl)
    (by
      intro s _
      simp only [spec_ReportOf_5_R]
      rw [dec_false (by omega)]; rfl) (by omega) 0 trivial).1
  have h2 := loopF_run (step := fun x => spec_ReportOf_10_R x.1.1 x.1.2.1 x.1.2.2.1 x.1.2.2.2.1 x.2.1 x.2.2.1) (fun k => ((l, (), (), ((k + 1 : Nat) : Int), ()), (((0 : Int), ([] : List Int), ()), (modsI l, codesN l k, ()), ()))) 56
    (.inl (((), (), ()), (((0 : Int), ([] : List Int), ()), (modsI l, codesN l 56, ()), ()))) (by
      intro k hk
      simp only [spec_ReportOf_10_R]
      have hlen := codesN_len l k
      rw [dec_true (show ((k + 1 : Nat) : Int) ≤ 56 by omega), spec_ReportOf_in l hn (k + 1) (by omega) (modsI l) (codesN l k) (by omega)]
      simp only [cond_true, Option.bind_some, Sum.elim_inl]
      rw [wrap_succ (by omega)]
      rfl) (by
      simp only [spec_ReportOf_10_R]
      rw [dec_false (by decide)]; rfl)
  unfold spec_ReportOf spec_ReportOf_5_loop spec_ReportOf_10_loop
  rw [spec_IsHeld_ok _ hn, hv]
  simp only [Option.bind_some, Bool.not_true, cond_false]
  erw [h1]
  simp only [Option.bind_some, Sum.elim_inl]
  erw [h2]
  rfl
end KF

namespace KF
open Go
set_option linter.unusedSimpArgs false
set_option linter.unusedVariables false

/-! ### What an action does at once -/
def isWordB (c : Int) : Bool := decide (1 ≤ c ∧ c ≤ 36) || ((c == 39) || (c == 42))
theorem impl_IsWordCode_ok (c : Int) : impl_IsWordCode c = some (isWordB c, ()) := by
  unfold impl_IsWordCode isWordB
  by_cases h1 : c ≥ 1
  · by_cases h2 : c ≤ 36
    · rw [dec_true h1, dec_true h2, dec_true (show 1 ≤ c ∧ c ≤ 36 by omega)]; rfl
    · rw [dec_true h1, dec_false h2, dec_false (show ¬ (1 ≤ c ∧ c ≤ 36) by omega)]
      cases c == 39 <;> rfl
  · rw [dec_false h1, dec_false (show ¬ (1 ≤ c ∧ c ≤ 36) by omega)]
    cases c == 39 <;> rfl
theorem spec_IsWordCode_ok (c : Int) : spec_IsWordCode c = some (isWordB c, ()) := by
  unfold spec_IsWordCode isWordB
  rw [spec_l1In_ok]
  cases decide (1 ≤ c ∧ c ≤ 36) <;> cases c == 39 <;> rfl
/-- fixed layers, waiting modifiers, word mode; the action that is held -/
def setS (f o : Int) (c : Bool) (a : TAction) : Int × Int × Bool × TAction :=
  cond (a.1 == 2) (cond (a.2.1 == 0) (f, o, c, a) (f, 0, c && isWordB a.2.1, a.1, a.2.1, cond ((c && isWordB a.2.1) && (decide (a.2.1 ≤ 26) && (iandn .i64 (ior .i64 a.2.2.1 o) 2 == 0))) 2 (ior .i64 a.2.2.1 o), a.2.2.2))
    (cond (a.1 == 4) (ixor .i64 f (ishl .i64 1 a.2.2.2.1), o, c, a) (cond (a.1 == 5) (iandn .i64 (ishl .i64 1 a.2.2.2.1) 1, o, c, a)
      (cond (a.1 == 8) (f, cond (iand .i64 o a.2.2.1 == a.2.2.1) (iandn .i64 o a.2.2.1) (ior .i64 o a.2.2.1), c, a) (cond (a.1 == 10) (f, o, !c, a) (f, o, c, a)))))
theorem action_n {a : TAction} (h : isActionB a = true) : 0 ≤ a.2.2.2.1 := by
  rw [isActionB_iff] at h
  unfold IsActionP at h
  omega
theorem impl_settle_ok (m : TKeymap) (M : List (List TStep)) (f o : Int) (h : List THeld) (c : Bool) (a : TAction) (ha : isActionB a = true) :
    impl_settle (m, M, f, h, o, c, ()) a = some ((m, M, (setS f o c a).1, h, (setS f o c a).2.1, (setS f o c a).2.2.1, ()), (setS f o c a).2.2.2, ()) := by
  have hn := action_n ha
  unfold impl_settle setS
  rw [dec_true hn]
  cases a.1 == 2 with
  | true =>
    cases a.2.1 == 0 with
    | true => rfl
    | false =>
      simp only [cond_true, cond_false, impl_IsWordCode_ok, Option.bind_some]
      cases c with
      | false => rfl
      | true =>
        cases isWordB a.2.1 with
        | false => rfl
        | true => cases decide (a.2.1 ≤ 26) <;> cases iandn .i64 (ior .i64 a.2.2.1 o) 2 == 0 <;> rfl
  | false =>
    cases a.1 == 4 with
    | true => rfl
    | false =>
      cases a.1 == 5 with
      | true => rfl
      | false =>
        cases a.1 == 8 with
        | true => cases iand .i64 o a.2.2.1 == a.2.2.1 <;> rfl
        | false => cases a.1 == 10 <;> rfl
theorem spec_settle_ok (m : TKeymap) (M : List (List TStep)) (f o : Int) (h : List THeld) (c : Bool) (a : TAction) (ha : isActionB a = true) :
    spec_l9Settle (m, M, f, h, o, c, ()) a = some ((m, M, (setS f o c a).1, h, (setS f o c a).2.1, (setS f o c a).2.2.1, ()), (setS f o c a).2.2.2, ()) := by
  have hn := action_n ha
  have hcode := action_code ha
  unfold spec_l9Settle setS spec_l9Key
  rw [dec_true hn]
  cases a.1 == 2 with
  | true =>
    by_cases h0 : a.2.1 = 0
    · rw [dec_false (show ¬ a.2.1 > 0 by omega), show (a.2.1 == 0) = true by simp [h0]]; rfl
    · rw [dec_true (show a.2.1 > 0 by omega), show (a.2.1 == 0) = false by simp [h0]]
      simp only [cond_true, cond_false, spec_IsWordCode_ok, Option.bind_some]
      cases isWordB a.2.1 with
      | false => cases c <;> rfl
      | true =>
        cases c with
        | false => rfl
        | true => cases decide (a.2.1 ≤ 26) <;> cases iandn .i64 (ior .i64 a.2.2.1 o) 2 == 0 <;> rfl
  | false =>
    cases a.1 == 4 with
    | true => rfl
    | false =>
      cases a.1 == 5 with
      | true => rfl
      | false =>
        cases a.1 == 8 with
        | true => cases iand .i64 o a.2.2.1 == a.2.2.1 <;> rfl
        | false => cases a.1 == 10 <;> rfl

/-! ### What stays valid -/
theorem fx_bits : ∀ f : Fin 16, ∀ n : Fin 4, ∀ l : Fin 5, 1 ≤ n.val → n.val < l.val → f.val < 2 ^ l.val → f.val % 2 = 0 →
    0 ≤ ixor .i64 (f.val : Int) (ishl .i64 1 (n.val : Int)) ∧ ixor .i64 (f.val : Int) (ishl .i64 1 (n.val : Int)) < ((2 ^ l.val : Nat) : Int) ∧ (ixor .i64 (f.val : Int) (ishl .i64 1 (n.val : Int))).tmod 2 = 0 := by decide +kernel
theorem to_bits : ∀ n : Fin 4, ∀ l : Fin 5, n.val < l.val →
    0 ≤ iandn .i64 (ishl .i64 1 (n.val : Int)) 1 ∧ iandn .i64 (ishl .i64 1 (n.val : Int)) 1 < ((2 ^ l.val : Nat) : Int) ∧ (iandn .i64 (ishl .i64 1 (n.val : Int)) 1).tmod 2 = 0 := by decide +kernel
theorem on_bits : ∀ o m : Fin 16, (0 ≤ iandn .i64 (o.val : Int) (m.val : Int) ∧ iandn .i64 (o.val : Int) (m.val : Int) ≤ 15) ∧ (0 ≤ ior .i64 (o.val : Int) (m.val : Int) ∧ ior .i64 (o.val : Int) (m.val : Int) ≤ 15) := by decide +kernel
structure StOk (nl : Nat) (f o : Int) : Prop where
  f0 : 0 ≤ f
  f1 : f < ((2 ^ nl : Nat) : Int)
  f2 : f.tmod 2 = 0
  o0 : 0 ≤ o
  o1 : o ≤ 15
/-- an action that can be held -/
structure ActH (nl : Nat) (a : TAction) : Prop where
  act : isActionB a = true
  n1 : a.1 ≠ 1
  n6 : a.1 ≠ 6
  n7 : a.1 ≠ 7
  n : a.1 ≠ 9 → a.2.2.2.1 < (nl : Int)
theorem or15 {a b : Int} (ha : 0 ≤ a ∧ a ≤ 15) (hb : 0 ≤ b ∧ b ≤ 15) : 0 ≤ ior .i64 a b ∧ ior .i64 a b ≤ 15 := by
  obtain ⟨n, rfl⟩ := Int.eq_ofNat_of_zero_le ha.1
  obtain ⟨m, rfl⟩ := Int.eq_ofNat_of_zero_le hb.1
  exact (on_bits ⟨n, by omega⟩ ⟨m, by omega⟩).2
theorem andn15 {a b : Int} (ha : 0 ≤ a ∧ a ≤ 15) (hb : 0 ≤ b ∧ b ≤ 15) : 0 ≤ iandn .i64 a b ∧ iandn .i64 a b ≤ 15 := by
  obtain ⟨n, rfl⟩ := Int.eq_ofNat_of_zero_le ha.1
  obtain ⟨m, rfl⟩ := Int.eq_ofNat_of_zero_le hb.1
  exact (on_bits ⟨n, by omega⟩ ⟨m, by omega⟩).1
theorem pow4 {nl : Nat} (h : nl ≤ 4) : 2 ^ nl ≤ 16 := Nat.pow_le_pow_right (n := 2) (by omega) h
theorem set_ok {nl : Nat} (hnl : nl ≤ 4) {f o : Int} {c : Bool} {a : TAction} (hs : StOk nl f o) (ha : ActH nl a) :
    StOk nl (setS f o c a).1 (setS f o c a).2.1 ∧ ActH nl (setS f o c a).2.2.2 := by
  have hP := ha.act
  rw [isActionB_iff] at hP
  unfold IsActionP at hP
  have h16 := pow4 hnl
  obtain ⟨k, code, mods, n, u⟩ := a
  have hn1 := ha.n1; have hn6 := ha.n6; have hn7 := ha.n7; have hnn := ha.n
  simp only at hP hn1 hn6 hn7 hnn
  have hf1 := hs.f1
  unfold setS
  simp only
  by_cases h2 : k = 2
  · subst h2
    by_cases h0 : code = 0
    · subst h0; exact ⟨hs, ha⟩
    · rw [show ((2 : Int) == 2) = true from rfl, show (code == 0) = false by simp [h0]]
      simp only [cond_true, cond_false]
      refine ⟨⟨hs.f0, hs.f1, hs.f2, by decide, by decide⟩, ?_⟩
      have hm := or15 (a := mods) (b := o) (by omega) ⟨hs.o0, hs.o1⟩
      refine ⟨?_, hn1, hn6, hn7, hnn⟩
      have hn0 : n = 0 := by omega
      have hcd : 1 ≤ code ∧ code ≤ 56 := by omega
      rw [isActionB_iff]
      cases ((c && isWordB code) && (decide (code ≤ 26) && (iandn .i64 (ior .i64 mods o) 2 == 0))) with
      | true => exact .inr (.inl ⟨rfl, hn0, .inr hcd, .inr ⟨by show (1 : Int) ≤ 2; decide, by show (2 : Int) ≤ 15; decide⟩, .inl (by show code ≠ 0; omega)⟩)
      | false =>
        refine .inr (.inl ⟨rfl, hn0, .inr hcd, ?_, .inl (by show code ≠ 0; omega)⟩)
        show ior .i64 mods o = 0 ∨ 1 ≤ ior .i64 mods o ∧ ior .i64 mods o ≤ 15
        omega
  · rw [show (k == 2) = false by simp [h2]]
    simp only [cond_false]
    by_cases h4 : k = 4
    · subst h4
      have hr : 1 ≤ n ∧ n ≤ 3 := by omega
      have hlt := hnn (by omega)
      obtain ⟨fn, hfn⟩ := Int.eq_ofNat_of_zero_le hs.f0
      obtain ⟨nn, hnn'⟩ := Int.eq_ofNat_of_zero_le (show 0 ≤ n by omega)
      have hf2 := hs.f2
      rw [hfn] at hf1 hf2
      have hfl : fn < 2 ^ nl := Int.ofNat_lt.1 hf1
      have := fx_bits ⟨fn, by omega⟩ ⟨nn, by omega⟩ ⟨nl, by omega⟩ (by show 1 ≤ nn; omega) (by show nn < nl; omega) hfl (by
        rw [Int.tmod_eq_emod_of_nonneg (by omega)] at hf2; show fn % 2 = 0; omega)
      simp only [show ((4 : Int) == 4) = true from rfl, cond_true]
      rw [hfn, hnn']
      exact ⟨⟨this.1, this.2.1, this.2.2, hs.o0, hs.o1⟩, by rw [← hnn']; exact ha⟩
    · rw [show (k == 4) = false by simp [h4]]
      simp only [cond_false]
      by_cases h5 : k = 5
      · subst h5
        have hr : 0 ≤ n ∧ n ≤ 3 := by omega
        have hlt := hnn (by omega)
        obtain ⟨nn, hnn'⟩ := Int.eq_ofNat_of_zero_le (show 0 ≤ n by omega)
        have := to_bits ⟨nn, by omega⟩ ⟨nl, by omega⟩ (by show nn < nl; omega)
        simp only [show ((5 : Int) == 5) = true from rfl, cond_true]
        rw [hnn']
        exact ⟨⟨this.1, this.2.1, this.2.2, hs.o0, hs.o1⟩, by rw [← hnn']; exact ha⟩
      · rw [show (k == 5) = false by simp [h5]]
        simp only [cond_false]
        by_cases h8 : k = 8
        · subst h8
          have hm : 0 ≤ mods ∧ mods ≤ 15 := by omega
          simp only [show ((8 : Int) == 8) = true from rfl, cond_true]
          cases iand .i64 o mods == mods with
          | true => have := andn15 ⟨hs.o0, hs.o1⟩ hm; exact ⟨⟨hs.f0, hs.f1, hs.f2, this.1, this.2⟩, ha⟩
          | false => have := or15 ⟨hs.o0, hs.o1⟩ hm; exact ⟨⟨hs.f0, hs.f1, hs.f2, this.1, this.2⟩, ha⟩
        · rw [show (k == 8) = false by simp [h8]]
          simp only [cond_false]
          cases k == 10 <;> exact ⟨hs, ha⟩
end KF

namespace KF
open Go
set_option linter.unusedSimpArgs false
set_option linter.unusedVariables false

/-! ### The action of a key -/
theorem layer_act {m : TKeymap} (hm : KeymapOk m) (on : Int) {k : Nat} (hk : (k : Int) < m.1) : okActB m.2.1.length (layerI m on k) (actAt m.2.1 (layerI m on k) k) = true ∧ (actAt m.2.1 (layerI m on k) k).1 ≠ 1 := by
  have hl := layerI_lt hm on k
  have hrow := hm.row _ hl
  have hk' : k < m.2.1[layerI m on k].length := by omega
  have hact := hm.act _ hl k hk'
  rw [actAt_eq hl hk']
  refine ⟨hact, ?_⟩
  have key : ∀ n, layerDown m.2.1 on k n = 0 ∨ (actAt m.2.1 (layerDown m.2.1 on k n) k).1 ≠ 1 := by
    intro n
    induction n with
    | zero => exact .inl rfl
    | succ n ih =>
      simp only [layerDown]
      cases hc : ((bitI on ((n + 1 : Nat) : Int) == 1) && ((actAt m.2.1 (n + 1) k).1 != 1)) with
      | true =>
        simp only [Bool.and_eq_true, bne_iff_ne] at hc
        exact .inr hc.2
      | false => exact ih
  rcases key (m.2.1.length - 1) with h0 | h1
  · have h0' : layerI m on k = 0 := h0
    intro h1
    simp only [okActB, Bool.and_eq_true, Bool.not_eq_true', Bool.and_eq_false_iff, beq_eq_false_iff_ne] at hact
    rcases hact.1.2 with h2 | h2
    · exact h2 (by rw [h0']; rfl)
    · exact h2 h1
  · have e : actAt m.2.1 (layerDown m.2.1 on k (m.2.1.length - 1)) k = m.2.1[layerI m on k][k] := actAt_eq hl hk'
    rw [e] at h1
    exact h1
theorem tap_act {nl i : Nat} {a : TAction} (h : okActB nl i a = true) (h1 : a.1 ≠ 1) : ActH nl (tapOfA a) := by
  have ha := okAct_action h
  have hP := ha
  rw [isActionB_iff] at hP
  unfold IsActionP at hP
  unfold tapOfA isTapHoldB
  rw [ha]
  by_cases h67 : a.1 = 6 ∨ a.1 = 7
  · have e : (true && ((a.1 == 6) || (a.1 == 7))) = true := by rcases h67 with h | h <;> rw [h] <;> rfl
    rw [e]
    simp only [cond_true]
    refine ⟨?_, by show (2 : Int) ≠ 1; decide, by show (2 : Int) ≠ 6; decide, by show (2 : Int) ≠ 7; decide, fun _ => ?_⟩
    · rw [isActionB_iff]
      exact .inr (.inl ⟨rfl, rfl, .inr (by show 1 ≤ a.2.1 ∧ a.2.1 ≤ 56; omega), .inl rfl, .inl (by show a.2.1 ≠ 0; omega)⟩)
    · show (0 : Int) < (nl : Int)
      have := okAct_n h (by omega)
      omega
  · have e : (true && ((a.1 == 6) || (a.1 == 7))) = false := by
      rw [Bool.true_and, Bool.or_eq_false_iff, beq_eq_false_iff_ne, beq_eq_false_iff_ne]; omega
    rw [e]
    exact ⟨ha, h1, fun h => h67 (.inl h), fun h => h67 (.inr h), fun hk => okAct_n h hk⟩

/-! ### Engines with no macros -/
def eng0 (m : TKeymap) (f o : Int) (c : Bool) (h : List THeld) : TEngine := (m, [], f, h, o, c, ())
theorem heldOne {nl : Nat} {k : Nat} (hk : k ≤ 31) {a : TAction} (ha : ActH nl a) : isHeldB [((k : Int), a, ())] = true := by
  have e : okHeldB 0 ((k : Int), a, ()) = true := by
    simp only [okHeldB, ha.act, Bool.true_and]
    rw [dec_true (show 0 ≤ (k : Int) ∧ (k : Int) ≤ 31 by omega)]
    have hb : (bitI 0 (k : Int) == 1) = false := by
      have := bitI_nat (a := 0) (k := k) (by decide) (by omega)
      rw [Nat.zero_testBit] at this
      exact this
    rw [hb]
    simp [ha.n1, ha.n6, ha.n7]
  show isL (foldE _ 0 0 [_]) = true
  simp only [foldE, heldG, e, cond_true, isL]
theorem eng0_valid {m : TKeymap} (hv : isKeymapB m = true) {f o : Int} (hs : StOk m.2.1.length f o) (c : Bool) {h : List THeld} (hh : isHeldB h = true) (hi : ∀ x ∈ h, heldInB m.1 m.2.1.length x = true) : isEngineB (eng0 m f o c h) = true := by
  have hk := keymap_ok hv
  have e1 : allK (fun _ x => heldInB m.1 m.2.1.length x) 0 h = true := allK_true.2 fun j hj => hi _ (List.getElem_mem hj)
  show (isKeymapB m && (decide (([] : List (List TStep)).length ≤ 4) && (isHeldB h && (true && (allK (fun _ x => heldInB m.1 m.2.1.length x) 0 h &&
    (decide (0 ≤ f ∧ f < ((2 ^ m.2.1.length : Nat) : Int)) && ((Int.tmod f 2 == 0) && decide (0 ≤ o ∧ o ≤ 15)))))))) = true
  rw [hv, hh, e1, dec_true (⟨hs.f0, hs.f1⟩ : 0 ≤ f ∧ f < ((2 ^ m.2.1.length : Nat) : Int)), dec_true (⟨hs.o0, hs.o1⟩ : 0 ≤ o ∧ o ≤ 15), hs.f2]
  rfl
theorem eng0_sz (m : TKeymap) (f o : Int) (c : Bool) (h : List THeld) : szT tEngine (eng0 m f o c h) = szT tKeymap m + h.length := by
  rw [eng_sz, szHelds]
  have : szT (.sl (.sl tStep)) (eng0 m f o c h).2.1 = 0 := rfl
  rw [this, Nat.zero_add]; rfl
theorem f_15 {nl : Nat} (h4 : nl ≤ 4) {f o : Int} (hs : StOk nl f o) : 0 ≤ f ∧ f ≤ 15 := by
  have := pow4 h4
  have h1 := hs.f1
  have h0 := hs.f0
  omega
theorem impl_Layers0 {f : Int} (hf : 0 ≤ f ∧ f ≤ 15) : impl_LayersOn f [] = some (ior .i64 1 f, ()) := by
  unfold impl_LayersOn
  rw [dec_true (show f ≥ 0 by omega), dec_true hf.2, impl_IsHeld_ok [] (by decide)]
  have hs : impl_LayersOn_7_R (ior .i64 1 f) [] ((List.length ([] : List THeld) : Nat) : Int) 0 = some (.inr (.inl ((ior .i64 1 f, ()), ()))) := rfl
  simp only [cond_true, Option.bind_some]
  unfold impl_LayersOn_7_loop
  rw [loopF_of hs]
  rfl
theorem spec_Layers0 {f : Int} (hf : 0 ≤ f ∧ f ≤ 15) : spec_LayersOn f [] = some (ior .i64 1 f, ()) := by
  unfold spec_LayersOn
  rw [spec_l1In_ok, dec_true hf]
  have hs : spec_LayersOn_5_R [] (ior .i64 1 f) 0 = some (.inr (.inl ((ior .i64 1 f, ()), ()))) := rfl
  simp only [cond_true, Option.bind_some]
  unfold spec_LayersOn_5_loop
  rw [loopF_of hs]
  rfl
theorem impl_HeldAt_ok (e : TEngine) (k : Int) (hn : e.2.2.2.1.length ≤ big20) : impl_HeldAt e k = some (firstK (fun h => h.1 == k) 0 e.2.2.2.1, ()) := by
  have h20 : big20 = 1048576 := rfl
  have hl := loopF_first (step := fun x => impl_HeldAt_2_R x.1.1 x.1.2.1 x.1.2.2.1 x.1.2.2.2.1) e.2.2.2.1 (fun h => h.1 == k) (fun i => ((k, e.2.2.2.1, ((List.length e.2.2.2.1 : Nat) : Int), i, ()), ())) (.inl ((), ())) (fun i => .inr ((i, ()), ()))
    (by
      intro j hj
      simp only [impl_HeldAt_2_R]
      rw [dec_true (show (j : Int) < ((List.length e.2.2.2.1 : Nat) : Int) by omega), idx_lt hj]
      simp only [cond_true, Option.bind_some]
      cases e.2.2.2.1[j].1 == k <;> rfl) (by
      simp only [impl_HeldAt_2_R]
      rw [dec_false (by omega)]; rfl) (by omega)
  unfold impl_HeldAt impl_HeldAt_2_loop
  erw [hl]
  simp only [Option.bind_some]
  by_cases hc : firstK (fun h : THeld => h.1 == k) 0 e.2.2.2.1 = -1
  · rw [if_pos hc, hc]; rfl
  · rw [if_neg hc]; rfl
theorem spec_HeldAt_ok (e : TEngine) (k : Int) (hn : e.2.2.2.1.length ≤ big20) : spec_HeldAt e k = some (firstK (fun h => h.1 == k) 0 e.2.2.2.1, ()) := by
  have h20 : big20 = 1048576 := rfl
  have hl := loopF_first (step := fun x => spec_HeldAt_2_R x.1.1 x.1.2.1 x.1.2.2.1 x.2.1) e.2.2.2.1 (fun h => h.1 == k) (fun i => ((k, (), i, ()), (e, ()))) (.inl ((), ())) (fun i => .inr ((i, ()), ()))
    (by
      intro j hj
      simp only [spec_HeldAt_2_R]
      rw [dec_true (show (j : Int) < ((List.length e.2.2.2.1 : Nat) : Int) by omega), idx_lt hj]
      simp only [cond_true, Option.bind_some]
      cases e.2.2.2.1[j].1 == k <;> rfl) (by
      simp only [spec_HeldAt_2_R]
      rw [dec_false (by omega)]; rfl) (by omega)
  unfold spec_HeldAt spec_HeldAt_2_loop
  erw [hl]
  simp only [Option.bind_some]
  by_cases hc : firstK (fun h : THeld => h.1 == k) 0 e.2.2.2.1 = -1
  · rw [if_pos hc, hc]; rfl
  · rw [if_neg hc]; rfl

/-! ### Reports that are not those before them -/
theorem spec_SameReport_ok (a b : TReport) (hn : a.2.1.length ≤ lim) : spec_SameReport a b = some (sameR a b, ()) := by
  have hlim := lim_eq
  unfold spec_SameReport sameR
  simp only [bne]
  cases (show Int from a.1) == (show Int from b.1) with
  | false => rfl
  | true =>
    by_cases h : a.2.1.length = b.2.1.length
    · have hl := loopF_all (step := fun x => spec_SameReport_4_R x.1.1 x.1.2.1 x.1.2.2.1 x.2.1 x.2.2.1) a.2.1 (fun k x => b.2.1.getD k 0 == x) (fun i => (((), (), i, ()), (a, b, ())))
        (.inl ((), ())) (.inr ((false, ()), ())) (by
          intro k hk
          simp only [spec_SameReport_4_R]
          rw [dec_true (show (k : Int) < ((List.length a.2.1 : Nat) : Int) by omega), idx_lt hk, idx_lt (show k < b.2.1.length by omega), List.getD_eq_getElem?_getD, List.getElem?_eq_getElem (show k < b.2.1.length by omega)]
          simp only [cond_true, Option.bind_some, Option.getD_some, bne]
          rw [show (a.2.1[k] == b.2.1[k]) = (b.2.1[k] == a.2.1[k]) by rw [Bool.eq_iff_iff, beq_iff_eq, beq_iff_eq]; exact eq_comm]
          cases b.2.1[k] == a.2.1[k] <;> rfl) (by
          simp only [spec_SameReport_4_R]
          rw [dec_false (by omega)]; rfl) (by omega)
      have e : (((List.length a.2.1 : Nat) : Int) == ((List.length b.2.1 : Nat) : Int)) = true := by simp [h]
      rw [e]
      simp only [Bool.not_true, cond_false, Bool.true_and]
      unfold spec_SameReport_4_loop
      erw [hl]
      rw [ints_all a.2.1 b.2.1 h, show (b.2.1 == a.2.1) = (a.2.1 == b.2.1) by rw [Bool.eq_iff_iff, beq_iff_eq, beq_iff_eq]; exact eq_comm]
      cases a.2.1 == b.2.1 <;> rfl
    · have e : (((List.length a.2.1 : Nat) : Int) == ((List.length b.2.1 : Nat) : Int)) = false := by simp; omega
      have e2 : (a.2.1 == b.2.1) = false := by rw [beq_eq_false_iff_ne]; intro hh; exact h (by rw [hh])
      rw [e, e2]; rfl
def chF (s : TReport × List TReport) (x : TReport) : TReport × List TReport := (x, cond (sameR s.1 x) s.2 (List.append s.2 [x]))
theorem chF_fold : ∀ (l : List TReport) (k : Nat) (a : TReport) (o : List TReport), (foldK (fun _ s x => chF s x) k (a, o) l).2 = List.append o (chgL sameR a l)
  | [], _, _, o => by simp [foldK, chgL]
  | x :: l, k, a, o => by
    have ih := chF_fold l (k + 1) x (cond (sameR a x) o (List.append o [x]))
    show (foldK (fun _ s x => chF s x) (k + 1) (x, cond (sameR a x) o (List.append o [x])) l).2 = _
    rw [ih]
    simp only [chgL]
    cases sameR a x <;> simp
theorem spec_Changes_ok (a : TReport) (l : List TReport) (hn : l.length ≤ big20) (ha : a.2.1.length ≤ big20) (hx : ∀ x ∈ l, x.2.1.length ≤ big20) : spec_l9Changes a l = some (chgL sameR a l, ()) := by
  have h20 : big20 = 1048576 := rfl
  have hlim := lim_eq
  have hl := (loopF_fold (step := fun x => spec_l9Changes_3_R x.1.1 x.1.2.1 x.1.2.2.1 x.1.2.2.2.1 x.2.1) l (fun _ s x => chF s x) (fun s i => ((l, (), s.2, i, ()), (s.1, ()))) (fun s => .inl ((s.2, ()), ())) (fun k s => s.2.length ≤ k ∧ s.1.2.1.length ≤ big20) (by
      intro k hk s ⟨hs1, hs2⟩
      have hxk := hx _ (List.getElem_mem hk)
      refine ⟨?_, ?_, hxk⟩
      · simp only [spec_l9Changes_3_R]
        rw [dec_true (show (k : Int) < ((List.length l : Nat) : Int) by omega), idx_lt hk]
        simp only [cond_true, Option.bind_some]
        rw [spec_SameReport_ok _ _ (by omega), spec_l7Copy_ok _ hxk]
        simp only [Option.bind_some, chF]
        rw [show Nat.ble (List.length s.2 + List.length ([l[k]] : List TReport)) lim = true from Nat.ble_eq_true_of_le (by simp only [List.length_cons, List.length_nil]; omega)]
        cases sameR s.1 l[k] <;> rfl
      · unfold chF
        cases sameR s.1 l[k] with
        | true => show s.2.length ≤ k + 1; omega
        | false => show (List.append s.2 [l[k]]).length ≤ k + 1; simp; omega)
    (by
      intro s _
      simp only [spec_l9Changes_3_R]
      rw [dec_false (by omega)]; rfl) (by omega) (a, []) ⟨Nat.le_refl _, ha⟩).1
  unfold spec_l9Changes spec_l9Changes_3_loop
  erw [hl]
  have := chF_fold l 0 a []
  simp only [Option.bind_some, Sum.elim_inl]
  rw [this]; simp
theorem impl_Changes_ok (a : TReport) (l : List TReport) (hn : l.length ≤ big20) (ha : a.2.1.length ≤ big20) (hx : ∀ x ∈ l, x.2.1.length ≤ big20) : impl_changedReports a l = some (chgL sameR a l, ()) := by
  have h20 : big20 = 1048576 := rfl
  have hlim := lim_eq
  unfold impl_changedReports chgF
  have e : (Nat.ble (List.length l) lim && (smallR a && l.all smallR)) = true := by
    rw [Bool.and_eq_true, Bool.and_eq_true, List.all_eq_true]
    refine ⟨Nat.ble_eq_true_of_le (by omega), Nat.ble_eq_true_of_le (by show List.length a.2.1 ≤ _; omega), fun x hm => Nat.ble_eq_true_of_le ?_⟩
    have := hx x hm
    show List.length x.2.1 ≤ _
    omega
  rw [e]; rfl
theorem chgL_len : ∀ (l : List TReport) (a : TReport), (chgL sameR a l).length ≤ l.length
  | [], _ => by simp [chgL]
  | x :: l, a => by
    have := chgL_len l x
    simp only [chgL]
    cases sameR a x <;> simp <;> omega
theorem report_len (l : List THeld) : (reportI l).2.1.length ≤ 56 := codesN_len l 56
theorem chgL_mem : ∀ (l : List TReport) (a x : TReport), x ∈ chgL sameR a l → x ∈ l
  | [], _, x, h => by simp [chgL] at h
  | y :: l, a, x, h => by
    simp only [chgL] at h
    cases hs : sameR a y with
    | true => rw [hs] at h; exact List.mem_cons_of_mem _ (chgL_mem l y x h)
    | false =>
      rw [hs] at h
      rcases List.mem_cons.1 h with h | h
      · exact h ▸ List.mem_cons_self ..
      · exact List.mem_cons_of_mem _ (chgL_mem l y x h)
end KF

namespace KF
open Go
set_option linter.unusedSimpArgs false
set_option linter.unusedVariables false

/-! ### A tap in an engine without macros in which nothing is held -/
noncomputable def actK (m : TKeymap) (f : Int) (k : Nat) : TAction := tapOfA (actAt m.2.1 (layerI m (ior .i64 1 f) k) k)
noncomputable def stK (m : TKeymap) (f o : Int) (c : Bool) (k : Nat) : Int × Int × Bool × TAction := setS f o c (actK m f k)
noncomputable def hK (m : TKeymap) (f o : Int) (c : Bool) (k : Nat) : List THeld := [((k : Int), (stK m f o c k).2.2.2, ())]
noncomputable def downR (m : TKeymap) (f o : Int) (c : Bool) (k : Nat) : List TReport := chgL sameR (reportI []) [reportI (hK m f o c k)]
noncomputable def upR (m : TKeymap) (f o : Int) (c : Bool) (k : Nat) : List TReport := chgL sameR (reportI (hK m f o c k)) [reportI []]
structure MapOk (m : TKeymap) : Prop where
  v : isKeymapB m = true
  z : szT tKeymap m ≤ big20 - 10
theorem k_facts {m : TKeymap} (hM : MapOk m) {f o : Int} {c : Bool} (hs : StOk m.2.1.length f o) {k : Nat} (hk : (k : Int) < m.1) :
    ActH m.2.1.length (actK m f k) ∧ StOk m.2.1.length (stK m f o c k).1 (stK m f o c k).2.1 ∧ ActH m.2.1.length (stK m f o c k).2.2.2 ∧ isHeldB (hK m f o c k) = true ∧
      (∀ x ∈ hK m f o c k, heldInB m.1 m.2.1.length x = true) := by
  have hm := keymap_ok hM.v
  have h1 := layer_act hm (ior .i64 1 f) hk
  have h2 := tap_act h1.1 h1.2
  have h3 := set_ok (c := c) hm.l2 hs h2
  refine ⟨h2, h3.1, h3.2, heldOne (by have := hm.k2; omega) h3.2, fun x hx => ?_⟩
  simp only [hK, List.mem_cons, List.not_mem_nil, or_false] at hx
  subst hx
  simp only [heldInB, Bool.and_eq_true, Bool.not_eq_true', Bool.and_eq_false_iff, decide_eq_false_iff_not]
  refine ⟨by omega, ?_⟩
  by_cases h9 : (stK m f o c k).2.2.2.1 = 9
  · exact .inl (by show ((stK m f o c k).2.2.2.1 != 9) = false; simp [h9])
  · exact .inr (Int.not_le.2 (h3.2.n h9))
theorem z20 {m : TKeymap} (hM : MapOk m) (f o : Int) (c : Bool) (h : List THeld) (hh : h.length ≤ 1) : szT tEngine (eng0 m f o c h) ≤ big20 := by
  have h20 : big20 = 1048576 := rfl
  have := hM.z
  rw [eng0_sz]; omega
theorem rep20 (l : List THeld) : (reportI l).2.1.length ≤ big20 := by
  have h20 : big20 = 1048576 := rfl
  have := report_len l
  omega
theorem held0 : isHeldB [] = true := rfl
theorem impl_press_ok {m : TKeymap} (hM : MapOk m) {f o : Int} {c : Bool} (hs : StOk m.2.1.length f o) {k : Nat} (hk : (k : Int) < m.1) :
    impl_press (eng0 m f o c []) (k : Int) false = some (eng0 m (stK m f o c k).1 (stK m f o c k).2.1 (stK m f o c k).2.2.1 (hK m f o c k), downR m f o c k, ()) := by
  have h20 : big20 = 1048576 := rfl
  have hm := keymap_ok hM.v
  obtain ⟨h1, h2, h3, h4, h5⟩ := k_facts (o := o) (c := c) hM hs hk
  have hl := layerI_lt hm (ior .i64 1 f) k
  have hrow := hm.row _ hl
  unfold impl_press
  rw [impl_copyEngine_ok _ (z20 hM f o c [] (by simp))]
  show Option.bind (some (eng0 m f o c [], ())) _ = _
  simp only [Option.bind_some]
  show Option.bind (impl_LayersOn f []) _ = _
  rw [impl_Layers0 (f_15 hm.l2 hs)]
  simp only [Option.bind_some]
  show Option.bind (impl_layerAt m (ior .i64 1 f) (k : Int)) _ = _
  rw [impl_layerAt_ok hm _ hk]
  simp only [Option.bind_some]
  show Option.bind (idx m.2.1 ((layerI m (ior .i64 1 f) k : Nat) : Int)) _ = _
  rw [idx2 hl (by omega)]
  simp only [cond_false]
  rw [impl_TapOf_ok]
  simp only [Option.bind_some]
  show Option.bind (impl_settle (m, [], f, [], o, c, ()) (actK m f k)) _ = _
  rw [impl_settle_ok _ _ _ _ _ _ _ h1.act]
  simp only [Option.bind_some]
  have e9 : decide ((stK m f o c k).2.2.2.2.2.2.1 < ((List.length ([] : List (List TStep)) : Nat) : Int)) = false := dec_false (by have := action_n h3.act; show ¬ _ < (0 : Int); omega)
  have hR1 : impl_ReportOf (hK m f o c k) = some (reportI (hK m f o c k), ()) := impl_ReportOf_ok _ (by simp [hK]; omega) h4
  have hR0 : impl_ReportOf [] = some (reportI [], ()) := impl_ReportOf_ok [] (by decide) held0
  have hC : impl_changedReports (reportI []) [reportI (hK m f o c k)] = some (downR m f o c k, ()) := impl_Changes_ok _ _ (by simp; omega) (rep20 _) (fun x hx => by
    simp only [List.mem_cons, List.not_mem_nil, or_false] at hx; rw [hx]; exact rep20 _)
  have fin : (Option.bind (impl_ReportOf (hK m f o c k)) fun r29 => Option.bind (impl_ReportOf ([] : List THeld)) fun r30 => Option.bind (impl_changedReports r30.1 [r29.1]) fun r31 =>
      (some (eng0 m (stK m f o c k).1 (stK m f o c k).2.1 (stK m f o c k).2.2.1 (hK m f o c k), r31.1, ()) : Option (TEngine × ((List TReport) × Unit)))) =
      some (eng0 m (stK m f o c k).1 (stK m f o c k).2.1 (stK m f o c k).2.2.1 (hK m f o c k), downR m f o c k, ()) := by
    rw [hR1, hR0]
    simp only [Option.bind_some]
    rw [hC]
    rfl
  have hb : Nat.ble (List.length ([] : List THeld) + List.length (hK m f o c k)) lim = true := rfl
  show cond (Nat.ble (List.length ([] : List THeld) + List.length (hK m f o c k)) lim) (cond ((stK m f o c k).2.2.2.1 == 9) (cond (decide ((stK m f o c k).2.2.2.2.2.2.1 < ((List.length ([] : List (List TStep)) : Nat) : Int))) _ _) _) _ = _
  rw [hb, e9]
  cases (stK m f o c k).2.2.2.1 == 9 <;> exact fin
theorem spec_press_ok {m : TKeymap} (hM : MapOk m) {f o : Int} {c : Bool} (hs : StOk m.2.1.length f o) {k : Nat} (hk : (k : Int) < m.1) :
    spec_Press (eng0 m f o c []) (k : Int) false = some (eng0 m (stK m f o c k).1 (stK m f o c k).2.1 (stK m f o c k).2.2.1 (hK m f o c k), downR m f o c k, true, ()) := by
  have h20 : big20 = 1048576 := rfl
  have hm := keymap_ok hM.v
  have hz0 := hM.z
  obtain ⟨h1, h2, h3, h4, h5⟩ := k_facts (o := o) (c := c) hM hs hk
  have hk2 := hm.k2
  have hv := eng0_valid hM.v hs c held0 (by simp)
  unfold spec_Press
  rw [spec_IsEngine_ok _ (z20 hM f o c [] (by simp)), hv, spec_HeldAt_ok _ _ (by show (0 : Nat) ≤ _; omega), spec_l9Copy_ok _ (z20 hM f o c [] (by simp))]
  simp only [Option.bind_some, Bool.not_true, cond_false, spec_l1In_ok]
  show cond (!decide (0 ≤ (k : Int) ∧ (k : Int) ≤ IntKind.wrap .i64 (m.1 - 1))) _ _ = _
  rw [wrap64 (by omega) (by omega), dec_true (show 0 ≤ (k : Int) ∧ (k : Int) ≤ m.1 - 1 by omega)]
  simp only [Bool.not_true, cond_false]
  show cond (decide ((-1 : Int) ≥ 0)) _ _ = _
  rw [dec_false (by decide)]
  simp only [cond_false]
  show Option.bind (spec_LayersOn f []) _ = _
  rw [spec_Layers0 (f_15 hm.l2 hs)]
  simp only [Option.bind_some]
  show Option.bind (spec_ActionAt m (ior .i64 1 f) (k : Int)) _ = _
  rw [spec_ActionAt_in (by omega) hM.v _ hk]
  simp only [Option.bind_some]
  rw [spec_TapOf_ok]
  simp only [Option.bind_some]
  show Option.bind (spec_l9Settle (m, [], f, [], o, c, ()) (actK m f k)) _ = _
  rw [spec_settle_ok _ _ _ _ _ _ _ h1.act]
  simp only [Option.bind_some]
  have e9 : decide ((stK m f o c k).2.2.2.2.2.2.1 < ((List.length ([] : List (List TStep)) : Nat) : Int)) = false := dec_false (by have := action_n h3.act; show ¬ _ < (0 : Int); omega)
  have hR1 : spec_ReportOf (hK m f o c k) = some (reportI (hK m f o c k), ()) := spec_ReportOf_ok _ (by simp [hK]; omega) h4
  have hR0 : spec_ReportOf [] = some (reportI [], ()) := spec_ReportOf_ok [] (by decide) held0
  have hC : spec_l9Changes (reportI []) [reportI (hK m f o c k)] = some (downR m f o c k, ()) := spec_Changes_ok _ _ (by simp; omega) (rep20 _) (fun x hx => by
    simp only [List.mem_cons, List.not_mem_nil, or_false] at hx; rw [hx]; exact rep20 _)
  have fin : (Option.bind (spec_ReportOf (hK m f o c k)) fun r29 => Option.bind (spec_ReportOf ([] : List THeld)) fun r30 => Option.bind (spec_l9Changes r30.1 [r29.1]) fun r31 =>
      (some (eng0 m (stK m f o c k).1 (stK m f o c k).2.1 (stK m f o c k).2.2.1 (hK m f o c k), r31.1, true, ()) : Option (TEngine × ((List TReport) × (Bool × Unit))))) =
      some (eng0 m (stK m f o c k).1 (stK m f o c k).2.1 (stK m f o c k).2.2.1 (hK m f o c k), downR m f o c k, true, ()) := by
    rw [hR1, hR0]
    simp only [Option.bind_some]
    rw [hC]
    rfl
  have hb : Nat.ble (List.length ([] : List THeld) + List.length (hK m f o c k)) lim = true := rfl
  show cond (Nat.ble (List.length ([] : List THeld) + List.length (hK m f o c k)) lim) (cond ((stK m f o c k).2.2.2.1 == 9) (cond (decide ((stK m f o c k).2.2.2.2.2.2.1 < ((List.length ([] : List (List TStep)) : Nat) : Int))) _ _) _) _ = _
  rw [hb, e9]
  cases (stK m f o c k).2.2.2.1 == 9 <;> exact fin

/-! ### Letting go -/
theorem first_hK {m : TKeymap} {f o : Int} {c : Bool} {k : Nat} : firstK (fun h : THeld => h.1 == (k : Int)) 0 (hK m f o c k) = 0 := by
  have e : ((k : Int) == (k : Int)) = true := by simp
  show cond ((k : Int) == (k : Int)) ((0 : Nat) : Int) _ = 0
  rw [e]; rfl
theorem impl_release_ok {m : TKeymap} (hM : MapOk m) {f o : Int} {c : Bool} (hs : StOk m.2.1.length f o) {k : Nat} (hk : (k : Int) < m.1) (f' o' : Int) (c' : Bool) :
    impl_release (eng0 m f' o' c' (hK m f o c k)) (k : Int) = some (eng0 m f' o' c' [], upR m f o c k, ()) := by
  have h20 : big20 = 1048576 := rfl
  obtain ⟨h1, h2, h3, h4, h5⟩ := k_facts (o := o) (c := c) hM hs hk
  have hR1 : impl_ReportOf (hK m f o c k) = some (reportI (hK m f o c k), ()) := impl_ReportOf_ok _ (by simp [hK]; omega) h4
  have hR0 : impl_ReportOf [] = some (reportI [], ()) := impl_ReportOf_ok [] (by decide) held0
  have hC : impl_changedReports (reportI (hK m f o c k)) [reportI []] = some (upR m f o c k, ()) := impl_Changes_ok _ _ (by simp; omega) (rep20 _) (fun x hx => by
    simp only [List.mem_cons, List.not_mem_nil, or_false] at hx; rw [hx]; exact rep20 _)
  unfold impl_release
  rw [impl_copyEngine_ok _ (z20 hM f' o' c' _ (by simp [hK])), impl_HeldAt_ok _ _ (by show (hK m f o c k).length ≤ _; simp [hK]; omega)]
  simp only [Option.bind_some]
  have hf : firstK (fun h : THeld => h.1 == (k : Int)) 0 (eng0 m f' o' c' (hK m f o c k)).2.2.2.1 = 0 := first_hK
  rw [hf]
  show Option.bind (impl_ReportOf (hK m f o c k)) (fun r3 => Option.bind (impl_ReportOf []) fun r4 => Option.bind (impl_changedReports r3.1 [r4.1]) fun r5 => some (eng0 m f' o' c' [], r5.1, ())) = _
  rw [hR1, hR0]
  simp only [Option.bind_some]
  rw [hC]
  rfl
theorem spec_release_ok {m : TKeymap} (hM : MapOk m) {f o : Int} {c : Bool} (hs : StOk m.2.1.length f o) {k : Nat} (hk : (k : Int) < m.1) {f' o' : Int} (hs' : StOk m.2.1.length f' o') (c' : Bool) :
    spec_Release (eng0 m f' o' c' (hK m f o c k)) (k : Int) = some (eng0 m f' o' c' [], upR m f o c k, true, ()) := by
  have h20 : big20 = 1048576 := rfl
  obtain ⟨h1, h2, h3, h4, h5⟩ := k_facts (o := o) (c := c) hM hs hk
  have hR1 : spec_ReportOf (hK m f o c k) = some (reportI (hK m f o c k), ()) := spec_ReportOf_ok _ (by simp [hK]; omega) h4
  have hR0 : spec_ReportOf [] = some (reportI [], ()) := spec_ReportOf_ok [] (by decide) held0
  have hC : spec_l9Changes (reportI (hK m f o c k)) [reportI []] = some (upR m f o c k, ()) := spec_Changes_ok _ _ (by simp; omega) (rep20 _) (fun x hx => by
    simp only [List.mem_cons, List.not_mem_nil, or_false] at hx; rw [hx]; exact rep20 _)
  have hv := eng0_valid hM.v hs' c' h4 h5
  have hW : spec_l8Without (hK m f o c k) 0 = some ([], ()) := rfl
  unfold spec_Release
  rw [spec_HeldAt_ok _ _ (by show (hK m f o c k).length ≤ _; simp [hK]; omega), spec_IsEngine_ok _ (z20 hM f' o' c' _ (by simp [hK])), hv, spec_l9Copy_ok _ (z20 hM f' o' c' _ (by simp [hK]))]
  simp only [Option.bind_some, Bool.not_true, cond_false]
  show cond (decide (firstK (fun h : THeld => h.1 == (k : Int)) 0 (hK m f o c k) < 0)) _ (Option.bind (spec_l8Without (hK m f o c k) (firstK (fun h : THeld => h.1 == (k : Int)) 0 (hK m f o c k))) _) = _
  rw [first_hK, dec_false (by decide), hW]
  show Option.bind (spec_ReportOf (hK m f o c k)) (fun r5 => Option.bind (spec_ReportOf []) fun r6 => Option.bind (spec_l9Changes r5.1 [r6.1]) fun r7 => some (eng0 m f' o' c' [], r7.1, true, ())) = _
  rw [hR1, hR0]
  simp only [Option.bind_some]
  rw [hC]
  rfl
end KF

namespace KF
open Go
set_option linter.unusedSimpArgs false
set_option linter.unusedVariables false

def zeroE : TEngine := (((0 : Int), ([] : List (List TAction)), ()), ([] : List (List TStep)), (0 : Int), ([] : List THeld), (0 : Int), false, ())
theorem zeroE_no : isEngineB zeroE = false := rfl
theorem zeroE_sz : szT tEngine zeroE ≤ big20 := by decide
theorem map_ok {m : TKeymap} (hv : isKeymapB m = true) : MapOk m := by
  have hm := keymap_ok hv
  refine ⟨hv, ?_⟩
  have h20 : big20 = 1048576 := rfl
  have h1 : szT tKeymap m = 0 + (szT (.sl (.sl tAction)) m.2.1 + 0) := rfl
  have h2 : szT (.sl (.sl tAction)) m.2.1 ≤ (32 + 1) * List.length m.2.1 := sz_le (e := .sl tAction) (c := 32) fun x hx => by
    obtain ⟨i, hi, rfl⟩ := List.getElem_of_mem hx
    rw [szActs]
    have := hm.row i hi
    have := hm.k2
    omega
  have := hm.l2
  omega

/-! ### Taps one after the other -/
abbrev St := (Int × Int × Bool) × List TReport
noncomputable def gT (m : TKeymap) (s : St) (k : Int) : St ⊕ Unit :=
  cond (decide (0 ≤ k ∧ k < m.1)) (.inl (((stK m s.1.1 s.1.2.1 s.1.2.2 k.toNat).1, (stK m s.1.1 s.1.2.1 s.1.2.2 k.toNat).2.1, (stK m s.1.1 s.1.2.1 s.1.2.2 k.toNat).2.2.1),
    List.append (List.append s.2 (downR m s.1.1 s.1.2.1 s.1.2.2 k.toNat)) (upR m s.1.1 s.1.2.1 s.1.2.2 k.toNat))) (.inr ())
structure InvT (m : TKeymap) (k : Nat) (s : St) : Prop where
  st : StOk m.2.1.length s.1.1 s.1.2.1
  len : s.2.length ≤ 2 * k
  rep : ∀ x ∈ s.2, x.2.1.length ≤ 56
theorem gT_inv {m : TKeymap} (hM : MapOk m) {k : Nat} {s s' : St} {x : Int} (hi : InvT m k s) (h : gT m s x = .inl s') : InvT m (k + 1) s' := by
  unfold gT at h
  by_cases hx : 0 ≤ x ∧ x < m.1
  · rw [dec_true hx] at h
    simp only [cond_true, Sum.inl.injEq] at h
    obtain ⟨n, rfl⟩ := Int.eq_ofNat_of_zero_le hx.1
    rw [Int.toNat_natCast] at h
    obtain ⟨h1, h2, h3, h4, h5⟩ := k_facts (o := s.1.2.1) (c := s.1.2.2) hM hi.st hx.2
    subst h
    refine ⟨h2, ?_, ?_⟩
    · have e1 : (downR m s.1.1 s.1.2.1 s.1.2.2 n).length ≤ 1 := chgL_len _ _
      have e2 : (upR m s.1.1 s.1.2.1 s.1.2.2 n).length ≤ 1 := chgL_len _ _
      have := hi.len
      show (List.append (List.append s.2 _) _).length ≤ _
      simp only [List.append_eq, List.length_append]
      omega
    · intro y hy
      have hy' : y ∈ (s.2 ++ downR m s.1.1 s.1.2.1 s.1.2.2 n) ++ upR m s.1.1 s.1.2.1 s.1.2.2 n := hy
      rw [List.mem_append, List.mem_append] at hy'
      rcases hy' with (hy' | hy') | hy'
      · exact hi.rep y hy'
      · have := chgL_mem _ _ _ hy'
        simp only [List.mem_cons, List.not_mem_nil, or_false] at this
        rw [this]; exact report_len _
      · have := chgL_mem _ _ _ hy'
        simp only [List.mem_cons, List.not_mem_nil, or_false] at this
        rw [this]; exact report_len _
  · rw [dec_false hx] at h; simp at h
theorem impl_Press_ok {m : TKeymap} (hM : MapOk m) {f o : Int} {c : Bool} (hs : StOk m.2.1.length f o) (x : Int) :
    impl_Press (eng0 m f o c []) x false = some (cond (decide (0 ≤ x ∧ x < m.1)) (eng0 m (stK m f o c x.toNat).1 (stK m f o c x.toNat).2.1 (stK m f o c x.toNat).2.2.1 (hK m f o c x.toNat), downR m f o c x.toNat, true, ()) (zeroE, [], false, ())) := by
  have h20 : big20 = 1048576 := rfl
  have hv := eng0_valid hM.v hs c held0 (by simp)
  unfold impl_Press
  rw [impl_IsEngine_ok _ (z20 hM f o c [] (by simp)), hv]
  simp only [Option.bind_some, Bool.not_true, cond_false]
  by_cases hx : 0 ≤ x ∧ x < m.1
  · rw [dec_true hx, dec_false (show ¬ x < 0 by omega)]
    show cond (decide (x ≥ m.1)) _ _ = _
    rw [dec_false (show ¬ x ≥ m.1 by omega), impl_HeldAt_ok _ _ (by show (0 : Nat) ≤ _; omega)]
    obtain ⟨n, rfl⟩ := Int.eq_ofNat_of_zero_le hx.1
    rw [impl_press_ok hM hs hx.2, Int.toNat_natCast]
    simp only [cond_false, Option.bind_some]
    show cond (decide ((-1 : Int) ≥ 0)) _ _ = _
    rw [dec_false (by decide)]; rfl
  · rw [dec_false hx]
    by_cases h0 : x < 0
    · rw [dec_true h0]; rfl
    · rw [dec_false h0]
      show cond (decide (x ≥ m.1)) _ _ = _
      rw [dec_true (show x ≥ m.1 by omega)]; rfl
theorem spec_Press_ok {m : TKeymap} (hM : MapOk m) {f o : Int} {c : Bool} (hs : StOk m.2.1.length f o) (x : Int) :
    spec_Press (eng0 m f o c []) x false = some (cond (decide (0 ≤ x ∧ x < m.1)) (eng0 m (stK m f o c x.toNat).1 (stK m f o c x.toNat).2.1 (stK m f o c x.toNat).2.2.1 (hK m f o c x.toNat), downR m f o c x.toNat, true, ()) (zeroE, [], false, ())) := by
  have hm := keymap_ok hM.v
  have hk1 := hm.k1
  have hk2 := hm.k2
  by_cases hx : 0 ≤ x ∧ x < m.1
  · rw [dec_true hx]
    obtain ⟨n, rfl⟩ := Int.eq_ofNat_of_zero_le hx.1
    rw [spec_press_ok hM hs hx.2, Int.toNat_natCast]; rfl
  · rw [dec_false hx]
    have hv := eng0_valid hM.v hs c held0 (by simp)
    unfold spec_Press
    rw [spec_IsEngine_ok _ (z20 hM f o c [] (by simp)), hv]
    simp only [Option.bind_some, Bool.not_true, cond_false, spec_l1In_ok]
    show cond (!decide (0 ≤ x ∧ x ≤ IntKind.wrap .i64 (m.1 - 1))) _ _ = _
    rw [wrap64 (by omega) (by omega), dec_false (show ¬ (0 ≤ x ∧ x ≤ m.1 - 1) by omega)]
    rfl
theorem spec_Press_zero (x : Int) : spec_Press zeroE x false = some (zeroE, [], false, ()) := by
  unfold spec_Press
  rw [spec_IsEngine_ok _ zeroE_sz, zeroE_no]; rfl
theorem spec_Release_zero (x : Int) : spec_Release zeroE x = some (zeroE, [], false, ()) := by
  unfold spec_Release
  rw [spec_IsEngine_ok _ zeroE_sz, zeroE_no, spec_HeldAt_ok _ _ (by decide)]; rfl
def eS (m : TKeymap) (s : St) : TEngine := eng0 m s.1.1 s.1.2.1 s.1.2.2 []
noncomputable def tapR (m : TKeymap) (s : St) (keys : List Int) : TEngine × ((List TReport) × (Bool × Unit)) :=
  match foldE (fun _ s x => gT m s x) 0 s keys with | .inl s' => (eS m s', s'.2, true, ()) | .inr _ => (zeroE, [], false, ())
theorem impl_TapKeys_ok {m : TKeymap} (hM : MapOk m) {f o : Int} {c : Bool} (hs : StOk m.2.1.length f o) (keys : List Int) (hn : keys.length ≤ big20) : impl_TapKeys (eng0 m f o c []) keys = some (tapR m ((f, o, c), []) keys) := by
  have h20 : big20 = 1048576 := rfl
  have hlim := lim_eq
  have hl := loopF_foldX (step := fun x => impl_TapKeys_6_R x.1.1 x.1.2.1 x.1.2.2.1 x.1.2.2.2.1 x.1.2.2.2.2.1 x.1.2.2.2.2.2.1 x.2.1 x.2.2.1) keys (fun _ s x => gT m s x) (fun s i => (((), (), s.2, keys, ((List.length keys : Nat) : Int), i, ()), (zeroE, eS m s, ())))
    (fun s => .inl (((), (), s.2, ()), (zeroE, eS m s, ()))) (fun _ => .inr (((), ([] : List TReport), false, ()), (zeroE, ()))) (InvT m) (by
      intro k hk s hi
      refine ⟨?_, fun s' h => gT_inv hM hi h⟩
      simp only [impl_TapKeys_6_R]
      rw [dec_true (show (k : Int) < ((List.length keys : Nat) : Int) by omega), idx_lt hk]
      simp only [cond_true, Option.bind_some]
      generalize keys[k] = x
      show Option.bind (impl_Press (eng0 m s.1.1 s.1.2.1 s.1.2.2 []) x false) _ = _
      rw [impl_Press_ok hM hi.st]
      unfold gT
      by_cases hx : 0 ≤ x ∧ x < m.1
      · rw [dec_true hx]
        simp only [cond_true, Option.bind_some, Bool.not_true, cond_false]
        obtain ⟨n, rfl⟩ := Int.eq_ofNat_of_zero_le hx.1
        rw [Int.toNat_natCast, impl_release_ok hM hi.st hx.2]
        have e1 : (downR m s.1.1 s.1.2.1 s.1.2.2 n).length ≤ 1 := chgL_len _ _
        have e2 : (upR m s.1.1 s.1.2.1 s.1.2.2 n).length ≤ 1 := chgL_len _ _
        have := hi.len
        simp only [Option.bind_some]
        rw [show Nat.ble (List.length s.2 + List.length (downR m s.1.1 s.1.2.1 s.1.2.2 n)) lim = true from Nat.ble_eq_true_of_le (by omega),
          show Nat.ble (List.length (List.append s.2 (downR m s.1.1 s.1.2.1 s.1.2.2 n)) + List.length (upR m s.1.1 s.1.2.1 s.1.2.2 n)) lim = true from Nat.ble_eq_true_of_le (by simp only [List.append_eq, List.length_append]; omega)]
        rfl
      · rw [dec_false hx]; rfl)
    (by
      intro s _
      simp only [impl_TapKeys_6_R]
      rw [dec_false (by omega)]; rfl) (by omega) ((f, o, c), []) ⟨hs, by simp, by simp⟩
  have hv := eng0_valid hM.v hs c held0 (by simp)
  unfold impl_TapKeys impl_TapKeys_6_loop
  rw [impl_IsEngine_ok _ (z20 hM f o c [] (by simp)), hv, impl_copyEngine_ok _ (z20 hM f o c [] (by simp))]
  simp only [Option.bind_some, Bool.not_true, cond_false]
  erw [hl]
  unfold tapR
  simp only [Option.bind_some]
  cases foldE (fun x s x => gT m s x) 0 ((f, o, c), []) keys <;> rfl
theorem fold_inv {m : TKeymap} (hM : MapOk m) : ∀ (l : List Int) (k : Nat) (s s' : St), InvT m k s → foldE (fun _ s x => gT m s x) k s l = .inl s' → InvT m (k + l.length) s'
  | [], k, s, s', h, he => by simp only [foldE, Sum.inl.injEq] at he; rw [← he]; exact h
  | x :: l, k, s, s', h, he => by
    simp only [foldE] at he
    cases hg : gT m s x with
    | inr u => rw [hg] at he; simp at he
    | inl s1 =>
      rw [hg] at he
      have := fold_inv hM l (k + 1) s1 s' (gT_inv hM h hg) he
      rw [List.length_cons, Nat.add_comm l.length 1, ← Nat.add_assoc]
      exact this
theorem spec_TapKeys_ok {m : TKeymap} (hM : MapOk m) {f o : Int} {c : Bool} (hs : StOk m.2.1.length f o) (keys : List Int) (hn : keys.length ≤ big20) : spec_TapKeys (eng0 m f o c []) keys = some (tapR m ((f, o, c), []) keys) := by
  have h20 : big20 = 1048576 := rfl
  have hlim := lim_eq
  have hl := loopF_foldX (step := fun x => spec_TapKeys_4_R x.1.1 x.1.2.1 x.1.2.2.1 x.1.2.2.2.1 x.1.2.2.2.2.1 x.2.1 x.2.2.1) keys (fun _ s x => gT m s x) (fun s i => ((keys, (), s.2, (), i, ()), (zeroE, eS m s, ())))
    (fun s => .inl (((), s.2, (), ()), (zeroE, eS m s, ()))) (fun _ => .inr (((), ([] : List TReport), false, ()), (zeroE, ()))) (InvT m) (by
      intro k hk s hi
      refine ⟨?_, fun s' h => gT_inv hM hi h⟩
      simp only [spec_TapKeys_4_R]
      rw [dec_true (show (k : Int) < ((List.length keys : Nat) : Int) by omega), idx_lt hk]
      simp only [cond_true, Option.bind_some]
      generalize keys[k] = x
      show Option.bind (spec_Press (eng0 m s.1.1 s.1.2.1 s.1.2.2 []) x false) _ = _
      rw [spec_Press_ok hM hi.st]
      unfold gT
      by_cases hx : 0 ≤ x ∧ x < m.1
      · rw [dec_true hx]
        simp only [cond_true, Option.bind_some]
        obtain ⟨n, rfl⟩ := Int.eq_ofNat_of_zero_le hx.1
        obtain ⟨_, h2, _⟩ := k_facts (o := s.1.2.1) (c := s.1.2.2) hM hi.st hx.2
        rw [Int.toNat_natCast, spec_release_ok hM hi.st hx.2 h2]
        have e1 : (downR m s.1.1 s.1.2.1 s.1.2.2 n).length ≤ 1 := chgL_len _ _
        have e2 : (upR m s.1.1 s.1.2.1 s.1.2.2 n).length ≤ 1 := chgL_len _ _
        have := hi.len
        simp only [Option.bind_some, Bool.not_true, cond_false]
        rw [show Nat.ble (List.length s.2 + List.length (downR m s.1.1 s.1.2.1 s.1.2.2 n)) lim = true from Nat.ble_eq_true_of_le (by omega),
          show Nat.ble (List.length (List.append s.2 (downR m s.1.1 s.1.2.1 s.1.2.2 n)) + List.length (upR m s.1.1 s.1.2.1 s.1.2.2 n)) lim = true from Nat.ble_eq_true_of_le (by simp only [List.append_eq, List.length_append]; omega)]
        rfl
      · rw [dec_false hx]
        simp only [cond_false, Option.bind_some]
        rw [spec_Release_zero]
        rfl)
    (by
      intro s _
      simp only [spec_TapKeys_4_R]
      rw [dec_false (by omega)]; rfl) (by omega) ((f, o, c), []) ⟨hs, by simp, by simp⟩
  unfold spec_TapKeys spec_TapKeys_4_loop
  erw [hl]
  unfold tapR
  simp only [Option.bind_some]
  cases hf : foldE (fun x s x => gT m s x) 0 ((f, o, c), []) keys with
  | inr u => rfl
  | inl s' =>
    have hi := fold_inv hM keys 0 _ s' (⟨hs, by simp, by simp⟩ : InvT m 0 ((f, o, c), [])) hf
    have hv := eng0_valid hM.v hi.st s'.1.2.2 held0 (by simp)
    show Option.bind (spec_IsEngine (eS m s')) _ = _
    unfold eS
    rw [spec_IsEngine_ok _ (z20 hM _ _ _ [] (by simp)), hv]
    simp only [Option.bind_some, Bool.not_true, cond_false]
    show Option.bind (spec_l9Copy (eng0 m s'.1.1 s'.1.2.1 s'.1.2.2 [])) _ = _
    rw [spec_l9Copy_ok _ (z20 hM _ _ _ [] (by simp))]
    rfl
theorem spec_TapKeys_zero (keys : List Int) (hn : keys.length ≤ big20) : ∃ e w, spec_TapKeys zeroE keys = some (e, w, false, ()) := by
  have h20 : big20 = 1048576 := rfl
  unfold spec_TapKeys spec_TapKeys_4_loop
  cases keys with
  | nil =>
    have hs : spec_TapKeys_4_R [] () [] () 0 zeroE zeroE = some (.inr (.inl (((), [], (), ()), (zeroE, zeroE, ())))) := rfl
    have := loopF_of (step := fun x => spec_TapKeys_4_R x.1.1 x.1.2.1 x.1.2.2.1 x.1.2.2.2.1 x.1.2.2.2.2.1 x.2.1 x.2.2.1) (x := ((([] : List Int), (), ([] : List TReport), (), (0 : Int), ()), (zeroE, zeroE, ()))) hs
    erw [this]
    show ∃ e w, Option.bind (spec_IsEngine zeroE) _ = _
    rw [spec_IsEngine_ok _ zeroE_sz, zeroE_no]
    exact ⟨_, _, rfl⟩
  | cons k ks =>
    have hs : spec_TapKeys_4_R (k :: ks) () [] () 0 zeroE zeroE = some (.inr (.inr (((), [], false, ()), (zeroE, ())))) := by
      unfold spec_TapKeys_4_R
      rw [dec_true (show (0 : Int) < ((List.length (k :: ks) : Nat) : Int) by simp only [List.length_cons]; omega), idx_zero]
      simp only [cond_true, Option.bind_some]
      rw [spec_Press_zero]
      simp only [Option.bind_some]
      rw [spec_Release_zero]
      rfl
    have := loopF_of (step := fun x => spec_TapKeys_4_R x.1.1 x.1.2.1 x.1.2.2.1 x.1.2.2.2.1 x.1.2.2.2.2.1 x.2.1 x.2.2.1) (x := (((k :: ks : List Int), (), ([] : List TReport), (), (0 : Int), ()), (zeroE, zeroE, ()))) hs
    erw [this]
    exact ⟨_, _, rfl⟩
theorem TraceOf_same (m : TKeymap) (keys : List Int) (_ : Rng tKeymap m) (_ : Rng (.sl int) keys) (hz : szT tKeymap m ≤ big20) (hk : szT (.sl int) keys ≤ big20) :
    ∃ w0 w1, spec_TraceOf m keys = some (w0, w1, ()) ∧ impl_TraceOf m keys = some (w0, w1, ()) ∧ szT (.sl tReport) w0 ≤ 114 * big20 := by
  have h20 : big20 = 1048576 := rfl
  rw [szInts] at hk
  have hz2 : szT tEngine (eng0 m 0 0 false []) ≤ big20 := by rw [eng0_sz]; simpa using hz
  unfold spec_TraceOf impl_TraceOf spec_NewEngine impl_NewEngine
  rw [impl_copyKeymap_ok _ hz, impl_copyMacros_ok [] (by decide)]
  simp only [Option.bind_some]
  show ∃ w0 w1, (Option.bind (Option.bind (spec_IsEngine (eng0 m 0 0 false [])) _) _ = _) ∧ (Option.bind (Option.bind (impl_IsEngine (eng0 m 0 0 false [])) _) _ = _) ∧ _
  rw [spec_IsEngine_ok _ hz2, impl_IsEngine_ok _ hz2]
  simp only [Option.bind_some]
  cases hv : isKeymapB m with
  | false =>
    have he : isEngineB (eng0 m 0 0 false []) = false := by
      unfold isEngineB
      show (isKeymapB m && _) = false
      rw [hv]; rfl
    obtain ⟨e, w, hT⟩ := spec_TapKeys_zero keys hk
    rw [he]
    refine ⟨[], false, ?_, rfl, by decide⟩
    show Option.bind (spec_TapKeys zeroE keys) _ = _
    rw [hT]; rfl
  | true =>
    have hM := map_ok hv
    have hs : StOk m.2.1.length 0 0 := ⟨Int.le_refl _, by have := Nat.two_pow_pos m.2.1.length; omega, rfl, Int.le_refl _, by decide⟩
    have he := eng0_valid hv hs false held0 (by simp)
    rw [he]
    simp only [Bool.not_true, cond_false, Option.bind_some]
    show ∃ w0 w1, (Option.bind (Option.bind (spec_l9Copy (eng0 m 0 0 false [])) _) _ = _) ∧ (Option.bind (impl_TapKeys (eng0 m 0 0 false []) keys) _ = _) ∧ _
    rw [spec_l9Copy_ok _ hz2]
    simp only [Option.bind_some]
    rw [spec_TapKeys_ok hM hs keys hk, impl_TapKeys_ok hM hs keys hk]
    simp only [Option.bind_some]
    unfold tapR
    cases hf : foldE (fun x s x => gT m s x) 0 ((0, 0, false), []) keys with
    | inr u => exact ⟨[], false, rfl, rfl, by decide⟩
    | inl s' =>
      have hi := fold_inv hM keys 0 _ s' (⟨hs, by simp, by simp⟩ : InvT m 0 ((0, 0, false), [])) hf
      refine ⟨s'.2, true, rfl, rfl, ?_⟩
      have h1 := sz_le (e := tReport) (c := 56) (w := s'.2) fun x hx => by rw [szReport]; exact hi.rep x hx
      have h2 := hi.len
      have h3 : List.length s'.2 ≤ 2 * big20 := by omega
      omega
end KF

namespace KF
open Go
theorem law_TraceOf (a0 : TKeymap) (a1 : (List Int)) (hr0 : Rng tKeymap a0) (hr1 : Rng (.sl int) a1) : laws_FnExactTraceOf a0 a1 = some (true, ()) := by
  have h20 : big20 = 1048576 := rfl
  have h40 : big40 = 1099511627776 := rfl
  unfold laws_FnExactTraceOf
  by_cases l1 : ((List.length a1 : Nat) : Int) > 1048576
  · rw [dec_true l1]; rfl
  rw [dec_false l1]
  simp only [cond_false]
  have s0 := szKeymap_ok a0 hr0 (1048576) (by omega)
  rw [show ((1048576 : Nat) : Int) = 1048576 from rfl] at s0
  rw [s0]
  simp only [Option.bind_some]
  by_cases z0 : szT tKeymap a0 ≤ 1048576
  case neg => rw [szR_gt z0]; rfl
  rw [szR_le z0, dec_false (by omega)]
  simp only [cond_false]
  have hz0 : szT tKeymap a0 ≤ big20 := by omega
  have hz1 : szT (.sl int) a1 ≤ big20 := by rw [szT_flat (e := int) rfl a1]; omega
  obtain ⟨w0, w1, e1, e2, b0⟩ := TraceOf_same a0 a1 hr0 hr1 hz0 hz1
  obtain ⟨x0, k0, g0, i0, m0, n0, _⟩ := markKeymap_ok a0 1 (by omega)
  rw [show ((1 : Nat) : Int) = 1 from rfl] at m0 n0
  have d0 : decide ((k0 : Int) < 0) = false := dec_false (by omega)
  obtain ⟨x1, k1, g1, i1, m1, n1, _⟩ := markIntS_ok a1 k0 (by omega)
  have d1 : decide ((k1 : Int) < 0) = false := dec_false (by omega)
  obtain ⟨x2, k2, g2, i2, m2, n2, _⟩ := markReportS_ok w0 1 (by omega)
  rw [show ((1 : Nat) : Int) = 1 from rfl] at m2 n2
  have d2 : decide ((k2 : Int) < 0) = false := dec_false (by omega)
  simp only [e1, e2, toKeymap_ok a0 hz0, eqKeymap_ok a0 (by omega), toIntS_ok a1 hz1, eqIntS_ok a1 (by omega), eqReportS_ok w0 (by omega), m0, d0, m1, d1, m2, d2, n2, Option.bind_some, bne_self_eq_false', Bool.not_true, cond_false]
end KF
