/- An evaluator of Go functions on plain data, its soundness, and plain laws on what the functions compute, part 4 (conditions: as each lemma tells). -/
import Derived.Test.YteooipbgmfmhfaaGreatDoorC
import Derived.Lib.Split
import Derived.Lib.Join
import Derived.Lib.ItoaNum
import Derived.Lib.IndexMore
import Derived.Lib.Bytealg
import Derived.Lib.Atoi
import Derived.Shelf.Sort.Plain
import Derived.Shelf.Slices.In.SortNone2
import Derived.Shelf.LaysM
import Derived.Shelf.Strings.Split
import Derived.Shelf.Strings.OnBuilder
import Derived.Shelf.Strconv.Itoa3
import Derived.LaidLaws
import Derived.LaidHandle
import Derived.Lib.LaidTab
import Derived.IntWalk
set_option linter.unusedSimpArgs false
set_option linter.unusedVariables false
namespace KF
open Go
open List renaming length → ja, getElem?_eq_getElem → je, append → jf, mem_append → jm, mem_cons → jq, mem_cons_of_mem → js, length_cons → jx, set → j7, length_nil → j8, length_set → j9, mem_singleton → qd, length_append → qe, getD_eq_getElem?_getD → qg, getElem_mem → qi, getElem_of_mem → qj, mem_map → qk, ext_getElem? → qn, drop_drop → qo, toArray → qp, getD → qq, getElem?_eq_none → qr, mem_iff_getElem → qs, mem_append_left → qt, mem_append_right → qu, append_assoc → qy, eq_nil_of_length_eq_zero → q6, getElem?_eq_some_iff → q7, length_eq_one_iff → q8, replicate → yb, cons_append → yf, map_cons → yh, map_nil → yi, nodup_cons → yk, nodup_append → yl, size_toArray → ym, flatten_cons → yn, length_map → yp, mem_map_of_mem → yt, map_append → yu, all_eq_true → yv, range → yx, not_mem_nil → yz
open Option renaming bind_some → jb, bind → j4, map_some → qc, bind_eq_some_iff → qf, getD_some → qx, map_eq_some_iff → yw
open Option.some renaming injEq → jc, inj → yy
open Bool renaming and_eq_true → jd, not_true → jg, true_and → jl, false_eq_true → jr, not_eq_true → qa, or_eq_true → qw, not_eq_true' → yj, or_eq_false_iff → yq, false_or → yr
open Prod.mk renaming injEq → jh
open Nat renaming ble_eq_true_of_le → jk, mul_le_mul_right → jn, le_refl → jp, zero_add → jt, add_assoc → ju, eq_of_beq_eq_true → jv, ble → jy, le_trans → qb, beq → qv, le_of_ble_eq_true → qz, add_zero → q9, blt → ya, blt_eq → yc, add_mul → yd, one_mul → ye, succ_mul → yo
open Int renaming toNat_natCast → jo, eq_ofNat_of_zero_le → jw, toNat → jz
open Go.IntKind renaming wrap → j5, wrap → j6
open Sum renaming elim_inl → qh
open Result renaming andThen_ok → ql
open Sem renaming run_bind → qm
open List.cons renaming injEq → yg
abbrev Nf : Ty := .p (.i .i64) (.p (.sl (.i .i64)) .u)
abbrev Ud : Ty := .p (.i .i64) (.p .o .u)
def hd (h : T .o) : Value := .slice h.1 h.2.1 h.2.2
section
variable {P : Program} {w w' : World}
theorem Maa {x : T Nf} {cs : List Value} {F : List Nat} (h : Ob w Nf x cs F) : ∃ h : T .o, cs = [.int .i64 x.1, hd h] ∧ Ob w (.sl (.i .i64)) x.2.1 [hd h] F := by
 obtain ⟨c1, c2, F1, F2, rfl, rfl, ⟨rfl, rfl⟩, c3, c4, F3, F4, rfl, rfl, h3, rfl, rfl⟩ := h
 have h3' := h3
 obtain ⟨_, ⟨e1, _, _⟩ | ⟨bl, off, cap, cur, et, Fs, e1, _⟩⟩ := h3
 ·subst e1
  exact ⟨(none, 0, 0), rfl, by simpa [hd] using h3'⟩
 ·subst e1
  exact ⟨(some ⟨bl, off, none⟩, ja x.2.1, cap), rfl, by simpa [hd] using h3'⟩
theorem Jal {x : T Nf} {h : T .o} {F : List Nat} (ho : Ob w (.sl (.i .i64)) x.2.1 [hd h] F) : Ob w Nf x [.int .i64 x.1, hd h] F :=
 ⟨[.int .i64 x.1], [hd h], [], F, rfl, rfl, ⟨rfl, rfl⟩, [hd h], [], F, [], by simp, by simp, ho, rfl, rfl⟩
theorem A4 (x : T Ud) (O : Nat → Prop) : Ka w O Ud x [.int .i64 x.1, hd x.2.1] :=
 ⟨[.int .i64 x.1], [hd x.2.1], rfl, rfl, [hd x.2.1], [], by simp, rfl, rfl⟩
theorem YQ {x : T Ud} {O : Nat → Prop} {cs : List Value} (h : Ka w O Ud x cs) : cs = [.int .i64 x.1, hd x.2.1] := by
 obtain ⟨c1, c2, rfl, rfl, c3, c4, rfl, rfl, rfl⟩ := h
 rfl
abbrev EO := T Nf × T Ud × List Nat
def J5 (w : World) (p : EO) : Prop := p.2.1.1 = p.1.1 ∧ Ob w (.sl (.i .i64)) p.1.2.1 [hd p.2.1.2.1] p.2.2
theorem Qad {l : List (T Nf)} {cs : List Value} {F : List Nat} (h : Ob w (.sl Nf) l cs F) :
 ∃ Q : List EO, Q.map (·.1) = l ∧ Ka w (fun _ => False) (.sl Ud) (Q.map (·.2.1)) cs ∧ (∀ p ∈ Q, J5 w p) ∧ (Q.map (·.2.2)).flatten.Sublist F := by
 obtain ⟨hm, ⟨rfl, rfl, rfl⟩ | ⟨bl, off, cap, cur, et, Fs, rfl, hh, h1, h2, h3, rfl, hl, hv⟩⟩ := h
 ·exact ⟨[], rfl, ⟨none, 0, rfl, jp _, hm, .inl rfl⟩, by simp, by simp⟩
 ·have key : ∀ i : Fin (ja l), ∃ h : T .o, Rc cur (off + i.val * Nf.size) Nf.size = [.int .i64 (List.get l i).1, hd h] ∧ Ob w (.sl (.i .i64)) (List.get l i).2.1 [hd h] (Fs.getD i.val []) :=
   fun i => Maa (hv i.val i.isLt)
  have ⟨g, hg⟩ := Classical.axiomOfChoice key
  let Q : List EO := List.ofFn fun i : Fin (ja l) => (List.get l i, ((List.get l i).1, g i, ()), Fs.getD i.val [])
  have hQ : ∀ i (hi : i < ja l), Q[i]'(by simp [Q]; exact hi) = (List.get l ⟨i, hi⟩, ((List.get l ⟨i, hi⟩).1, g ⟨i, hi⟩, ()), Fs.getD i []) := fun i hi => by simp [Q]
  have hQl : Q.length = ja l := by simp [Q]
  refine ⟨Q, ?_, ?_, ?_, ?_⟩
  ·apply List.ext_getElem
   ·simp [hQl]
   ·intro i h1 h2
    rw [List.getElem_map, hQ i h2]; rfl
  ·have hlen : ja (Q.map (·.2.1)) = ja l := by simp [hQl]
   refine ⟨_, cap, by rw [hlen], by rw [hlen]; exact h1, by rw [hlen]; exact hm, .inr ⟨bl, off, cur, et, _, rfl, fun h => h, hh, ?_, fun i hi => ?_⟩⟩
   ·rw [hlen]
    have := jn Nf.size h1
    exact qb (Nat.add_le_add_left this _) h3
   ·have hi' : i < ja l := by rw [← hlen]; exact hi
    have e : List.get (Q.map (·.2.1)) ⟨i, hi⟩ = ((List.get l ⟨i, hi'⟩).1, g ⟨i, hi'⟩, ()) := by
     show (Q.map (·.2.1))[i] = _
     rw [List.getElem_map, hQ i hi']
    rw [e]
    have := (hg ⟨i, hi'⟩).1
    show Ka w _ Ud _ (Rc cur (off + i * Nf.size) Nf.size)
    rw [this]
    exact A4 (((List.get l ⟨i, hi'⟩).1, g ⟨i, hi'⟩, ()) : T Ud) _
  ·intro p hp
   obtain ⟨i, hi, rfl⟩ := qj hp
   have hi' : i < ja l := by rw [← hQl]; exact hi
   rw [hQ i hi']
   exact ⟨rfl, (hg ⟨i, hi'⟩).2⟩
  ·have e : Q.map (·.2.2) = Fs := by
    apply List.ext_getElem
    ·simp [hQl, hl]
    ·intro i h1 h2
     have hi' : i < ja l := by rw [← hl]; exact h2
     rw [List.getElem_map, hQ i hi']
     simp [qq, je h2]
   rw [e]
   exact List.sublist_cons_self _ _
theorem Bae {Q : List EO} {cs : List Value} {F : List Nat} (h : Ob w (.sl Ud) (Q.map (·.2.1)) cs F) (hQ : ∀ p ∈ Q, J5 w p) :
 ∃ F', Ob w (.sl Nf) (Q.map (·.1)) cs F' ∧ (∀ b, b ∈ F' → b ∈ F ∨ b ∈ (Q.map (·.2.2)).flatten) ∧ ((∀ b, b ∈ F → b ∉ (Q.map (·.2.2)).flatten) → F.Nodup → (Q.map (·.2.2)).flatten.Nodup → F'.Nodup) := by
 obtain ⟨hm, ⟨rfl, hn, rfl⟩ | ⟨bl, off, cap, cur, et, Fs, rfl, hh, h1, h2, h3, rfl, hl, hv⟩⟩ := h
 ·have : Q = [] := List.map_eq_nil_iff.1 hn
  subst this
  exact ⟨[], ⟨hm, .inl ⟨rfl, rfl, rfl⟩⟩, by simp, by simp⟩
 ·have hlen : ja (Q.map (·.2.1)) = Q.length := by simp
  have hlen1 : ja (Q.map (·.1)) = Q.length := by simp
  rw [hlen] at hm h1 hl
  refine ⟨bl :: (Q.map (·.2.2)).flatten, ⟨by rw [hlen1]; exact hm, .inr ⟨bl, off, cap, cur, et, Q.map (·.2.2), by rw [hlen1]; simp, hh, by rw [hlen1]; exact h1, h2, h3, rfl, by simp, fun i hi => ?_⟩⟩, ?_, ?_⟩
  ·have hi' : i < Q.length := by rw [← hlen1]; exact hi
   have hv' := hv i (by rw [hlen]; exact hi')
   have e0 : List.get (Q.map (·.2.1)) ⟨i, by rw [hlen]; exact hi'⟩ = Q[i].2.1 := by
    show (Q.map (·.2.1))[i]'_ = _
    rw [List.getElem_map]
   have e1 : List.get (Q.map (·.1)) ⟨i, hi⟩ = Q[i].1 := by
    show (Q.map (·.1))[i]'_ = _
    rw [List.getElem_map]
   rw [e0] at hv'
   rw [e1]
   have hF0 : ∀ b, b ∈ Fs.getD i [] → False := by
    intro b hb
    obtain ⟨c1, c2, F1, F2, _, hF, ⟨_, rfl⟩, c3, c4, F3, F4, _, rfl, ⟨_, rfl⟩, _, rfl⟩ := hv'
    rw [hF] at hb; simp at hb
   have hcs := YQ (Ob.view (O := fun _ => False) hv' (fun b hb h => h))
   have hok := hQ Q[i] (qi hi')
   have e2 : (Q.map (·.2.2)).getD i [] = Q[i].2.2 := by
    simp [qq, je hi']
   rw [e2]
   show Ob w Nf _ (Rc cur (off + i * Ud.size) Ud.size) _
   rw [hcs, hok.1]
   exact Jal hok.2
  ·intro b hb
   rcases jq.1 hb with rfl | hb
   ·exact .inl (by simp)
   ·exact .inr hb
  ·intro hdj _ hnd
   exact yk.2 ⟨hdj bl (by simp), hnd⟩
end
def Js (same : T Nf → T Nf → Bool) : T Nf → List (T Nf) → List (T Nf)
 | _, [] => []
 | a, x :: r => cond (same a x) (Js same x r) (x :: Js same x r)
def TC (same : T Nf → T Nf → Bool) : T Nf → List EO → List EO
 | _, [] => []
 | a, x :: r => cond (same a x.1) (TC same x.1 r) (x :: TC same x.1 r)
def AH (c : T Ud → T Ud → Option Bool) : T Ud → List (T Ud) → Option (List (T Ud))
 | _, [] => some []
 | a, x :: r => j4 (c a x) fun b => j4 (AH c x r) fun q => some (cond b q (x :: q))
theorem UM (same : T Nf → T Nf → Bool) : ∀ (Q : List EO) (a : T Nf), (TC same a Q).map (·.1) = Js same a (Q.map (·.1))
 | [], _ => rfl
 | x :: r, a => by
  simp only [TC, Js, yh]
  cases same a x.1 with
  | true => simp only [y3]; exact UM same r x.1
  | false => simp only [y8, yh]; rw [UM same r x.1]
theorem VM (same : T Nf → T Nf → Bool) : ∀ (Q : List EO) (a : T Nf), (TC same a Q).Sublist Q
 | [], _ => .slnil
 | x :: r, a => by
  simp only [TC]
  cases same a x.1 with
  | true => exact (VM same r x.1).cons x
  | false => exact (VM same r x.1).cons_cons x
theorem J0 {same : T Nf → T Nf → Bool} {c : T Ud → T Ud → Option Bool} {R : T Nf → T Ud → Prop} (hc : ∀ a ao b bo, R a ao → R b bo → c ao bo = some (same a b)) :
 ∀ (Q : List EO) (a : T Nf) (ao : T Ud), R a ao → (∀ p ∈ Q, R p.1 p.2.1) → AH c ao (Q.map (·.2.1)) = some ((TC same a Q).map (·.2.1))
 | [], _, _, _, _ => rfl
 | x :: r, a, ao, h, hq => by
  have hx := hq x (by simp)
  simp only [yh, AH, TC, hc _ _ _ _ h hx, jb]
  rw [J0 hc r x.1 x.2.1 hx (fun p hp => hq p (by simp [hp]))]
  simp only [jb]
  cases same a x.1 <;> rfl
theorem WZ {α : Type} {a b : List (List α)} (h : a.Sublist b) : a.flatten.Sublist b.flatten := by
 induction h with
 | slnil => simp
 | cons x _ ih => rw [yn]; exact ih.trans (List.sublist_append_right _ _)
 | cons_cons x _ ih => rw [yn, yn]; exact (List.Sublist.refl x).append ih
def HD (x : T Nf) : Bool := jy (ja x.2.1) Nb
noncomputable def B6 (same : T Nf → T Nf → Bool) (a : T Nf) (l : List (T Nf)) : Option (List (T Nf) × Unit) :=
 bif jy (ja l) Nb && (HD a && l.all HD) then some (Js same a l, ()) else none
theorem Dah {w : World} {O O' : Nat → Prop} {xs ys : List Int} {v : Value} (h1 : Ka w O (.sl (.i .i64)) xs [v]) (h2 : Ka w O' (.sl (.i .i64)) ys [v]) : xs = ys := by
 obtain ⟨a, cap, e1, _, _, h1⟩ := h1
 obtain ⟨a', cap', e2, _, _, h2⟩ := h2
 rw [e1] at e2
 simp only [yg, Value.slice.injEq, and_true] at e2
 obtain ⟨rfl, hlen, rfl⟩ := e2
 have hlen' : xs.length = ys.length := hlen
 rcases h1 with h1 | ⟨bl, off, cur, et, fr, ha, _, hh, hs, hv⟩
 ·have h1' : xs = [] := h1
  subst h1'
  exact (q6 (by simpa using hlen'.symm)).symm
 ·rcases h2 with h2 | ⟨bl', off', cur', et', fr', ha', _, hh', hs', hv'⟩
  ·have h2' : ys = [] := h2
   subst h2'
   exact q6 (by simpa using hlen')
  ·rw [ha] at ha'
   simp only [jc, Addr.mk.injEq, and_true] at ha'
   obtain ⟨rfl, rfl⟩ := ha'
   rw [hh] at hh'
   simp only [jc] at hh'
   injection hh' with e3 _ _
   subst e3
   apply List.ext_getElem hlen'
   intro i h1 h2
   have p1 := hv i h1
   have p2 := hv' i h2
   have p1' : Rc cur (off + i * 1) 1 = [Value.int .i64 xs[i]] := p1
   have p2' : Rc cur (off + i * 1) 1 = [Value.int .i64 ys[i]] := p2
   rw [p1'] at p2'
   simpa using p2'
open Classical in
noncomputable def CJ (w : World) (h : T .o) : Option (List Int) :=
 if hx : ∃ xs : List Int, Ka w (fun _ => False) (.sl (.i .i64)) xs [hd h] ∧ ja xs ≤ Nb then some hx.choose else none
theorem HS {w : World} {h : T .o} {xs : List Int} (hc : CJ w h = some xs) : Ka w (fun _ => False) (.sl (.i .i64)) xs [hd h] ∧ ja xs ≤ Nb := by
 unfold CJ at hc
 split at hc
 ·rename_i hx
  simp only [jc] at hc
  rw [← hc]; exact hx.choose_spec
 ·simp at hc
theorem K0 {w : World} {h : T .o} {xs : List Int} (hv : Ka w (fun _ => False) (.sl (.i .i64)) xs [hd h]) (hl : ja xs ≤ Nb) : CJ w h = some xs := by
 unfold CJ
 have hx : ∃ xs : List Int, Ka w (fun _ => False) (.sl (.i .i64)) xs [hd h] ∧ ja xs ≤ Nb := ⟨xs, hv, hl⟩
 rw [dif_pos hx]
 rw [Dah hx.choose_spec.1 hv]
noncomputable def VW (w : World) (same : T Nf → T Nf → Bool) (a b : T Ud) : Option Bool :=
 j4 (CJ w a.2.1) fun u => j4 (CJ w b.2.1) fun v => some (same (a.1, u, ()) (b.1, v, ()))
@[reducible] noncomputable def OR (c : T Ud → T Ud → Option Bool) : Ya := .pu (.p Ud (.p Ud .u)) (.p .b .u) [true] (fun x => j4 (c x.1 x.2.1) fun b => some (b, ()))
theorem O7 {w w2 : World} (h : ∀ b, b < w.heap.size → w2.heap[b]? = w.heap[b]?) {τ : Ty} {x : T τ} {cs : List Value} {O : Nat → Prop} (hv : Ka w O τ x cs) : Ka w2 O τ x cs :=
 Ka.stable (fun b _ hb => h b hb) (fun _ _ h => h) hv
theorem Waa {P : Program} {I0 : Ei} {f f2 : FuncId} {SR : T (.p Nf (.p Nf .u)) → Option (T (.p .b .u))} {same : T Nf → T Nf → Bool}
 (hSR : ∀ a b : T Nf, ja a.2.1 ≤ Nb → ja b.2.1 ≤ Nb → SR (a, b, ()) = some (same a b, ()))
 (h2 : Qh P I0 f2 (.pu (.p Nf (.p Nf .u)) (.p .b .u) [true] SR))
 (h : ∀ (I : Ei) (c : T Ud → T Ud → Option Bool), Qh P I f2 (OR c) → ∃ FO, Qh P I f (.pu (.p Ud (.p (.sl Ud) .u)) (.p (.sl Ud) .u) [true] FO) ∧
  ∀ (a : T Ud) (l r : List (T Ud)), ja l ≤ Nb → AH c a l = some r → FO (a, l, ()) = some (r, ())) :
 Qh P I0 f (.co (.p Nf (.p (.sl Nf) .u)) (.p (.sl Nf) .u) [true] (fun x => B6 same x.1 x.2.1)) := by
 have hE : Gv P f := by
  have hS0 : Qh P I0 f2 (OR fun _ _ => none) := ⟨h2.1, fun O w x r args hF => by simp at hF⟩
  obtain ⟨FO, hs, _⟩ := h I0 _ hS0
  exact hs.1
 refine ⟨hE, ?_⟩
 intro O w x r F0 args hF hA hnd hO _ hI hbase hF0
 obtain ⟨a, l, u⟩ := x
 match args, hA with
 | [a1, a2], hA =>
 obtain ⟨cs1, F1, F2', rfl, rfl, ho1, cs2, F2, F3, rfl, rfl, ho2, hF3⟩ := hA
 have hF3' : F3 = [] := hF3
 subst hF3'
 rw [List.append_nil] at *
 simp only [B6] at hF
 cases hsm : (jy (ja l) Nb && (HD a && l.all HD)) with
 | false => rw [hsm] at hF; simp at hF
 | true =>
 rw [hsm] at hF
 simp only [y3, jc] at hF
 subst hF
 simp only [jd, yv, HD] at hsm
 have hl1 : ja l ≤ Nb := qz hsm.1
 have hl2 : ja a.2.1 ≤ Nb := qz hsm.2.1
 have hl3 : ∀ x ∈ l, ja x.2.1 ≤ Nb := fun x hx => qz (hsm.2.2 x hx)
 obtain ⟨ah, rfl, hoa⟩ := Maa ho1
 obtain ⟨Q, rfl, hvQ, hokQ, hsub⟩ := Qad ho2
 let I : Ei := ⟨w.heap.size, fun w2 => w.heap.size ≤ w2.heap.size ∧ ∀ b, b < w.heap.size → w2.heap[b]? = w.heap[b]?, fun w1 w2 hb h1 => by
  refine ⟨?_, fun b hlt => (hb b hlt).trans (h1.2 b hlt)⟩
  rcases Nat.eq_zero_or_pos w.heap.size with h0 | h0
  ·omega
  ·have e := (hb (w.heap.size - 1) (by omega)).trans (h1.2 (w.heap.size - 1) (by omega))
   rw [Array.getElem?_eq_getElem (show w.heap.size - 1 < w.heap.size by omega)] at e
   have := (Array.getElem?_eq_some_iff.1 e).1
   omega⟩
 have hS : Qh P I f2 (OR (VW w same)) := by
  refine ⟨h2.1, ?_⟩
  intro O2 w2 x2 r2 args2 hF2 hA2 hO2 hI2 hb2
  obtain ⟨p, q, u2⟩ := x2
  match args2, hA2 with
  | [b1, b2], hA2 =>
  obtain ⟨⟨c1, rfl, hv1⟩, ⟨c2, rfl, hv2⟩, _⟩ := hA2
  simp only [VW] at hF2
  cases hu : CJ w p.2.1 with
  | none => rw [hu] at hF2; simp at hF2
  | some xu =>
   cases hv : CJ w q.2.1 with
   | none => rw [hu, hv] at hF2; simp at hF2
   | some xv =>
    rw [hu, hv] at hF2
    simp only [jb, jc] at hF2
    subst hF2
    obtain ⟨hxu, lxu⟩ := HS hu
    obtain ⟨hxv, lxv⟩ := HS hv
    have e1 := YQ hv1
    have e2 := YQ hv2
    subst e1; subst e2
    have mk : ∀ (p : T Ud) (xs : List Int), Ka w (fun _ => False) (.sl (.i .i64)) xs [hd p.2.1] → Ka w2 (fun _ => False) Nf (p.1, xs, ()) [.int .i64 p.1, hd p.2.1] := fun p xs hx =>
     ⟨[.int .i64 p.1], [hd p.2.1], rfl, rfl, [hd p.2.1], [], by simp, O7 hI2.2 hx, rfl⟩
    have hc := h2.2 (fun _ => False) w2 ((p.1, xu, ()), (q.1, xv, ()), ()) (same (p.1, xu, ()) (q.1, xv, ()), ()) [Sc Ud [.int .i64 p.1, hd p.2.1], Sc Ud [.int .i64 q.1, hd q.2.1]]
     (hSR _ _ lxu lxv) ⟨⟨_, rfl, mk p xu hxu⟩, ⟨_, rfl, mk q xv hxv⟩, trivial⟩ (fun b h => h.elim) (I0.st _ _ (fun b hb => hI2.2 b (Nat.lt_of_lt_of_le hb hbase)) hI) (qb hbase hI2.1)
    refine hc.mono ?_
    intro e w3 hR
    cases e with
    | returned v =>
     obtain ⟨vs, Fr, hvs, hK, hR, hn, hfr⟩ := hR
     exact ⟨vs, Fr, hvs, hK, hR.all rfl, hn, hfr⟩
    | panicked _ => exact hR
    | outgrown => exact hR
 obtain ⟨FO, hs, hFO⟩ := h I (VW w same) hS
 have hrel : ∀ a ao b bo, (fun (x : T Nf) (y : T Ud) => y.1 = x.1 ∧ Ka w (fun _ => False) (.sl (.i .i64)) x.2.1 [hd y.2.1] ∧ ja x.2.1 ≤ Nb) a ao →
  (fun (x : T Nf) (y : T Ud) => y.1 = x.1 ∧ Ka w (fun _ => False) (.sl (.i .i64)) x.2.1 [hd y.2.1] ∧ ja x.2.1 ≤ Nb) b bo → VW w same ao bo = some (same a b) := by
  rintro a ao b bo ⟨e1, v1, l1⟩ ⟨e2, v2, l2⟩
  simp only [VW, K0 v1 l1, K0 v2 l2, jb, e1, e2]
 have hch := J0 (R := fun (x : T Nf) (y : T Ud) => y.1 = x.1 ∧ Ka w (fun _ => False) (.sl (.i .i64)) x.2.1 [hd y.2.1] ∧ ja x.2.1 ≤ Nb) hrel Q a (a.1, ah, ())
  ⟨rfl, Ob.view hoa fun b _ h => h, hl2⟩ (fun p hp => ⟨(hokQ p hp).1, Ob.view (hokQ p hp).2 fun b _ h => h, hl3 p.1 (yt hp)⟩)
 have hFO' := hFO (a.1, ah, ()) (Q.map (·.2.1)) _ (by simpa using hl1) hch
 have hc := hs.2 (fun _ => False) w ((a.1, ah, ()), Q.map (·.2.1), ()) ((TC same a Q).map (·.2.1), ()) [Sc Ud [.int .i64 a.1, hd ah], Sc (.sl Ud) cs2] hFO'
  ⟨⟨_, rfl, A4 ((a.1, ah, ()) : T Ud) _⟩, ⟨_, rfl, hvQ⟩, trivial⟩ (fun b h => h.elim) ⟨jp _, fun _ _ => rfl⟩ (jp _)
 refine hc.mono ?_
 intro e w3 hR
 cases e with
 | panicked _ => exact hR
 | outgrown => exact hR
 | returned v =>
  obtain ⟨vs, Fr, hvs, hK, hR, hn, hfr⟩ := hR
  match vs, hR with
  | [v1], hR =>
  obtain ⟨cs, G1, G2, rfl, rfl, hown, hG2⟩ := hR
  have hG2' : G2 = [] := hG2
  subst hG2'
  rw [List.append_nil] at *
  simp only [if_true] at hown
  have hlt : ∀ b, b ∈ F2 → b < w.heap.size := fun b hb => ho2.lt b hb
  have hsubQ := VM same Q a
  have hok3 : ∀ p ∈ TC same a Q, J5 w3 p := fun p hp => by
   have h0 := hokQ p (hsubQ.mem hp)
   exact ⟨h0.1, Ob.stable h0.2 fun b hb => hK.block b (h0.2.lt b hb) (fun h => h)⟩
  obtain ⟨F', ho', hm', hnd'⟩ := Bae hown hok3
  have hsub2 : ((TC same a Q).map (·.2.2)).flatten.Sublist F2 := by
   refine List.Sublist.trans ?_ hsub
   exact WZ (hsubQ.map _)
  have hndF2 : F2.Nodup := (yl.1 hnd).2.1
  have hnF' : F'.Nodup := hnd' (fun b hb hb2 => by
   have h3 := hfr b hb
   have h4 := hlt b (hsub2.mem hb2)
   omega) hn (hsub2.nodup hndF2)
  refine ⟨[Sc (.sl Ud) cs], F', hvs, ⟨hK.size, fun b hb _ => hK.block b hb (fun h => h), hK.os, hK.tape, hK.output⟩, ⟨cs, F', [], rfl, by simp, ?_, rfl⟩, hnF', ?_⟩
  ·simp only [if_true]
   rw [← UM]
   exact ho'
  ·intro b hb
   rcases hm' b hb with hb | hb
   ·exact .inl (hfr b hb)
   ·exact .inr (qu _ (hsub2.mem hb))
noncomputable def srt (xs : List Int) : Option (List Int × Unit) := bif jy (ja xs) Nb then some (List.mergeSort xs (fun x y => decide (x ≤ y)), ()) else none
def Uaa (n : Nat) : Bool := jy n 1048576
noncomputable def ZY (x y : List UInt8) : Option (List (List UInt8) × Unit) :=
 bif Uaa (ja x) && jy 1 (ja y) then some (Lib.split x y, ()) else none
noncomputable def QV (x : List (List UInt8)) (y : List UInt8) : Option (List UInt8 × Unit) :=
 bif jy (ja x) 1073741824 && jy (ja (Lib.join x y)) 1073741824 then some (Lib.join x y, ()) else none
theorem O3 {cur : Array Value} {k : Nat} {v : Value} (h : Rc cur k 1 = [v]) : cur[k]? = some v := by
 have := congrArg (·[0]?) h
 simp only [Me cur k 1 0 (by omega)] at this
 simpa using this
theorem B3 {cur : Array Value} {k : Nat} {v : Value} (h : cur[k]? = some v) : Rc cur k 1 = [v] := by
 apply qn
 intro j
 by_cases hj : j = 0
 ·subst hj; rw [Me cur k 1 0 (by omega)]; simpa using h
 ·have hk : k < cur.size := (Array.getElem?_eq_some_iff.1 h).1
  have hl : (Rc cur k 1).length = 1 := Vc (by omega)
  rw [qr (by omega), qr (by simp; omega)]
theorem G7 {P : Program} {ρ : Go.Shelf.Ren} {f : FuncId} {I : Ei} (L : Go.Proofs.Lays.n191 P ρ) (hf : ρ.f 191 = f) : Qh P I f (.io (.sl (.i .i64)) .u .u [] (fun x0 _ => srt x0)) := by
 subst hf
 refine ⟨⟨_, L.f191, rfl, rfl⟩, ?_⟩
 intro O w x0 x r cs0 F0 args hF ho hnd hA hO _ _ _
 match args, hA with
 | [], _ =>
 simp only [srt] at hF
 cases hl : jy (ja x0) Nb with
 | false => rw [hl] at hF; simp at hF
 | true =>
 rw [hl] at hF
 simp only [y3, jc] at hF
 subst hF
 have hlim : Nb = 1073741824 := rfl
 have hx : ja x0 ≤ Nb := qz hl
 have ho0 := ho
 obtain ⟨hm, ⟨rfl, hn, rfl⟩ | ⟨bl, off, cap, cur, et, Fs, rfl, hh, h1, h2, h3, rfl, hlen, hv⟩⟩ := ho
 ·have hn' : x0 = [] := hn
  subst hn'
  refine (Go.Proofs.Any.sort_Ints_none L none 0 w).mono ?_
  rintro e w' ⟨rfl, rfl⟩
  refine ⟨[], [], [], rfl, ⟨jp _, fun _ _ _ => rfl, rfl, rfl, rfl⟩, ?_, by simp, rfl, List.nodup_nil, by simp⟩
  show Ob w' (.sl (.i .i64)) (List.mergeSort ([] : List Int) _) _ _
  simpa using ho0
 ·have hcell : ∀ i (hi : i < x0.length), cur[off + i]? = some (.int .i64 x0[i]) := by
   intro i hi
   have := (hv i hi).1
   have e : Rc cur (off + i * 1) 1 = [Value.int .i64 x0[i]] := this
   rw [Nat.mul_one] at e
   exact O3 e
  have hFs : ∀ b, b ∈ Fs.flatten → False := by
   intro b hb
   obtain ⟨l, hl, hb⟩ := List.mem_flatten.1 hb
   obtain ⟨i, hi, rfl⟩ := qj hl
   have := (hv i (by rw [← hlen]; exact hi)).2
   rw [qg, je hi] at this
   simp only [qx] at this
   rw [this] at hb; simp at hb
  have hH : Go.Sort.Holds (Value.int .i64) w bl off x0.toArray := by
   intro j hj
   have hj' : j < x0.length := by simpa using hj
   refine ⟨?_, ?_⟩
   ·unfold World.cell?
    simp only [hh]
    rw [hcell j hj']
    simp [getElem!_pos, hj']
   ·unfold World.frozen?
    simp [hh]
  have hbl : bl < w.heap.size := (Array.getElem?_eq_some_iff.1 hh).1
  refine (Go.Proofs.Any.sort_Ints L bl off cap x0 w hH hbl (by omega)).mono ?_
  rintro e w' ⟨rfl, n, os, rfl⟩
  generalize hzs : (x0.mergeSort fun x y => decide (x ≤ y)) = zs
  have hzl : zs.length = x0.length := by rw [← hzs]; exact List.length_mergeSort _
  have hheap : ∀ b, b < w.heap.size → (Go.Sort.grow (Go.Sort.putRow (Value.int .i64) (Go.Sort.ahead w n) bl off zs.toArray) os).heap[b]? = if bl = b then (w.heap[b]?).map (Go.Sort.onCells (Go.Sort.putCells (Value.int .i64) off zs.toArray)) else w.heap[b]? := by
   intro b hb
   simp only [Go.Sort.grow, Go.Sort.putRow, Go.Sort.mapBlock, Go.Sort.ahead]
   rw [Array.getElem?_append_left (by simpa using hb), Array.getElem?_modify]
  refine ⟨[], bl :: Fs.flatten, [], rfl, ⟨?_, ?_, rfl, rfl, rfl⟩, ?_, fun b hb => .inr hb, rfl, by simpa using hnd, by simp⟩
  ·simp only [Go.Sort.grow, Array.size_append, Go.Sort.size_putRow, Go.Sort.ahead]
   omega
  ·intro b hb hno
   have hne : bl ≠ b := fun e => hno (by rw [e]; simp)
   rw [hheap b hb, if_neg hne]
  ·have hcs : ([.slice (some ⟨bl, off, none⟩) (ja x0) cap] : List Value) = [.slice (some ⟨bl, off, none⟩) (ja (zs : List Int)) cap] := by rw [hzl]
   show Ob _ (.sl (.i .i64)) (zs : List Int) _ _
   rw [hcs]
   refine ⟨by show zs.length ≤ Ph; rw [hzl]; exact hm, .inr ⟨bl, off, cap, _, et, Fs, rfl, (hheap bl hbl).trans (by rw [if_pos rfl, hh]; rfl), by show zs.length ≤ cap; rw [hzl]; exact h1, h2, by simpa [Go.Sort.putCells] using h3, rfl, by show Fs.length = zs.length; rw [hzl]; exact hlen, fun i hi => ?_⟩⟩
   have hi' : i < zs.length := hi
   have hi2 : i < x0.length := by omega
   refine ⟨?_, ?_⟩
   ·show Rc _ (off + i * 1) 1 = [Value.int .i64 zs[i]]
    rw [Nat.mul_one]
    apply B3
    simp only [Go.Sort.putCells, Array.getElem?_mapIdx, hcell i hi2, qc]
    rw [if_pos ⟨by omega, by simp; omega⟩, show off + i - off = i by omega]
    simp [getElem!_pos, hi']
   ·exact (hv i hi2).2
theorem VG (w : World) (o : Obj) : (w.alloc o).heap = w.heap.push o := rfl
theorem VZ {P : Program} {ρ : Go.Shelf.Ren} {f : FuncId} {I : Ei} (L : Go.Proofs.LaysM.n146 P ρ) (hf : ρ.f 146 = f)
 (hI : ∀ w, I.p w → ∃ m, w.cell? ⟨ρ.g 1, 0, none⟩ = some (.int .i64 m)) : Qh P I f (.pu (.p .s (.p .s .u)) (.p (.sl .s) .u) [true] (fun x => ZY x.1 x.2.1)) := by
 subst hf
 refine ⟨⟨_, L.f146, rfl, rfl⟩, ?_⟩
 intro O w x r args hF hA hO hi hb
 match args, hA with
 | [a, b], hA =>
  obtain ⟨⟨ca, rfl, hca⟩, ⟨cb, rfl, hcb⟩, _⟩ := hA
  have hca' : ca = [.string ⟨qp x.1⟩] := hca
  have hcb' : cb = [.string ⟨qp x.2.1⟩] := hcb
  subst hca'; subst hcb'
  simp only [ZY, Uaa] at hF
  cases h1 : jy (ja x.1) 1048576 with
  | false => rw [h1] at hF; simp at hF
  | true =>
  cases h2 : jy 1 (ja x.2.1) with
  | false => rw [h1, h2] at hF; simp at hF
  | true =>
  rw [h1, h2] at hF
  simp only [Bool.and_true, y3, jc] at hF
  subst hF
  have h1' := qz h1
  have h2' := qz h2
  obtain ⟨m, hm⟩ := hI w hi
  have hs1 : (⟨qp x.1⟩ : ByteArray).size = ja x.1 := by show (qp x.1).size = _; simp
  have hs2 : (⟨qp x.2.1⟩ : ByteArray).size = ja x.2.1 := by show (qp x.2.1).size = _; simp
  have hd : (Lib.splitB ⟨qp x.2.1⟩ 0 (Lib.countB ⟨qp x.1⟩ ⟨qp x.2.1⟩) ⟨qp x.1⟩).map (fun z => z.data.toList) = Lib.split x.1 x.2.1 := by
   rw [Lib.splitB_data]; rfl
  have hlen := Lib.splitB_all ⟨qp x.2.1⟩ (by omega) 0 _ ⟨qp x.1⟩ rfl
  have hle := Lib.countB_le ⟨qp x.2.1⟩ (by omega) _ ⟨qp x.1⟩ (jp _)
  obtain ⟨zs, hz⟩ : ∃ zs, Lib.splitB ⟨qp x.2.1⟩ 0 (Lib.countB ⟨qp x.1⟩ ⟨qp x.2.1⟩) ⟨qp x.1⟩ = zs := ⟨_, rfl⟩
  rw [hz] at hlen hd
  obtain ⟨n, hcn⟩ : ∃ n, Lib.countB ⟨qp x.1⟩ ⟨qp x.2.1⟩ = n := ⟨_, rfl⟩
  rw [hcn] at hlen hle
  have hn : (Lib.split x.1 x.2.1).length = n + 1 := by rw [← hd, yp, hlen]
  refine (Go.Proofs.Any.strings_Split { L with } L.i9 ⟨qp x.1⟩ ⟨qp x.2.1⟩ m w (by omega) hm (by omega)).mono ?_
  rintro e w' ⟨rfl, rfl⟩
  rw [hz]
  refine ⟨[.slice (some ⟨w.heap.size, 0, none⟩) (n + 1) (n + 1)], [w.heap.size], by rw [hcn]; rfl, ⟨?_, ?_, rfl, rfl, rfl⟩, ?_, by simp, by simp⟩
  ·rw [VG]; simp
  ·intro b hb _
   rw [VG]
   simp [Array.getElem?_push_lt hb, Array.getElem?_eq_getElem hb]
  ·refine ⟨[.slice (some ⟨w.heap.size, 0, none⟩) (n + 1) (n + 1)], [w.heap.size], [], rfl, rfl, ?_, rfl⟩
   show Ob _ (.sl .s) (Lib.split x.1 x.2.1) _ _
   refine ⟨by rw [hn]; unfold Ph; omega, .inr ⟨w.heap.size, 0, n + 1, (zs.map Value.string).toArray, ρ.t 9, yb (n + 1) [], ?_, ?_, by omega, by unfold Ph; omega, ?_, ?_, ?_, ?_⟩⟩
   ·rw [hn]
   ·rw [VG]; simp
   ·simp [Ty.size, hlen]
   ·simp
   ·simp [hn]
   ·intro i hi
    have hi' : i < n + 1 := by omega
    have hiz : i < zs.length := by omega
    refine ⟨?_, by simp [qg, List.getElem?_replicate, hi']⟩
    show Rc _ (0 + i * 1) 1 = _
    apply B3
    have : (Lib.split x.1 x.2.1)[i]'hi = (zs[i]).data.toList := by simp [← hd]
    show _ = some (Value.string ⟨qp ((Lib.split x.1 x.2.1)[i]'hi)⟩)
    rw [this]
    simp [hiz]
theorem M6 {P : Program} {ρ : Go.Shelf.Ren} {f : FuncId} {I : Ei} (L : Go.Proofs.Lays.n156 P ρ) (hf : ρ.f 156 = f) (X : Go.Proofs.Builder.Extra P ρ) : Qh P I f (.pu (.p (.sl .s) (.p .s .u)) (.p .s .u) [true] (fun x => QV x.1 x.2.1)) := by
 subst hf
 refine ⟨⟨_, L.f156, rfl, rfl⟩, ?_⟩
 intro O w x r args hF hA hO hi hb
 match args, hA with
 | [a, b], hA =>
  obtain ⟨⟨ca, rfl, hca⟩, ⟨cb, rfl, hcb⟩, _⟩ := hA
  have hcb' : cb = [.string ⟨qp x.2.1⟩] := hcb
  subst hcb'
  obtain ⟨ad, cap, rfl, hcap, hmx, hrow⟩ := hca
  simp only [QV] at hF
  cases h0 : jy (ja x.1) 1073741824 with
  | false => rw [h0] at hF; simp at hF
  | true =>
  cases h1 : jy (ja (Lib.join x.1 x.2.1)) 1073741824 with
  | false => rw [h0, h1] at hF; simp at hF
  | true =>
  rw [h0, h1] at hF
  simp only [Bool.and_true, y3, jc] at hF
  subst hF
  have h1' := qz h1
  have h0' := qz h0
  have hfin : ∀ (e : Ending) (w' : World), e = .returned (.string ⟨(Lib.join x.1 x.2.1).toArray⟩) ∧ Go.RowKit.Below w.heap.size w w' → Gm (fun v w' => ∃ vs Fr, v = TB vs ∧ Hs w w' (fun _ => False) ∧ Jc w' (fun b => O b ∨ b ∈ Fr) (.p .s .u) ((Lib.join x.1 x.2.1, ()) : List UInt8 × Unit) [true] vs Fr ∧ Fr.Nodup ∧ ∀ b ∈ Fr, w.heap.size ≤ b) e w' := by
   rintro e w' ⟨rfl, hB⟩
   exact ⟨[.string ⟨(Lib.join x.1 x.2.1).toArray⟩], [], rfl, ⟨hB.size, fun b hb _ => hB.block b hb, hB.os, hB.tape, hB.output⟩, ⟨_, [], [], rfl, rfl, ⟨rfl, rfl⟩, rfl⟩, by simp, by simp⟩
  have hmp : List.map (fun z : ByteArray => z.data.toList) (List.map (fun l : List UInt8 => (⟨l.toArray⟩ : ByteArray)) x.1) = x.1 := by simp [List.map_map, Function.comp_def]
  rcases hrow with hx0 | ⟨bl, off, cur, et, fr, rfl, hno, hh, hsz, hv⟩
  ·have h0' : x.1 = [] := hx0
   have e0 : Lib.join x.1 x.2.1 = [] := by rw [h0']; rfl
   have el : ja x.1 = 0 := by rw [h0']; rfl
   show Calls P (ρ.f 156) #[.slice ad (ja x.1) cap, .string ⟨qp x.2.1⟩] w _
   rw [el]
   refine (Go.Proofs.Any.strings_Join_none L X ad cap ⟨qp x.2.1⟩ w).mono ?_
   rintro e w' ⟨rfl, rfl⟩
   exact hfin _ _ ⟨by rw [e0], Go.RowKit.Below.refl _ _⟩
  ·have hbl : bl < w.heap.size := (Array.getElem?_eq_some_iff.1 hh).1
   have c := Go.Proofs.Any.strings_Join L X bl off cap (List.map (fun l : List UInt8 => (⟨l.toArray⟩ : ByteArray)) x.1) ⟨qp x.2.1⟩ w ?_ hbl (by rw [yp]; show ja x.1 ≤ _; omega) (by rw [yp]; exact hcap) (by rw [hmp]; show (Lib.join x.1 (qp x.2.1).toList).length ≤ _; rw [List.toList_toArray]; omega)
   ·rw [hmp, yp] at c
    refine c.mono ?_
    rintro e w' ⟨rfl, hB⟩
    refine hfin _ _ ⟨?_, hB⟩
    show Ending.returned (Value.string ⟨(Lib.join x.1 (qp x.2.1).toList).toArray⟩) = _
    rw [List.toList_toArray]
   ·intro j z hj
    obtain ⟨hj', rfl⟩ := q7.1 hj
    rw [yp] at hj'
    have e : Rc cur (off + j * 1) 1 = [Value.string ⟨qp (x.1[j]'hj')⟩] := hv j hj'
    rw [Nat.mul_one] at e
    unfold World.cell?
    simp only [hh]
    rw [O3 e]
    simp
open Go Go.WideShapes Go.ChangeShapes
def B8 : DataW Unit → List Value
 | .lit (.int k n) => [.int k n]
 | .lit (.bool b) => [.bool b]
 | .agg l => cellsDs l
 | _ => []
where cellsDs : List (DataW Unit) → List Value
 | [] => []
 | d :: r => B8 d ++ cellsDs r
def Uai (d : DataW Unit) : Obj → Obj
 | .cells _ t frozen => .cells (B8 d).toArray t frozen
 | o => o
def Vai (P : Program) (h : Array Obj) (x : String × DataW Unit) : Array Obj :=
 match P.globalNamed x.1 with
 | some g => h.modify g (Uai x.2)
 | none => h
noncomputable def Kag (P : Program) (os : Os) (laid : List (String × DataW Unit)) : World :=
 let w := World.holding P os ⟨#[], #[], []⟩
 { w with heap := laid.foldl (Vai P) w.heap }
def Lac (g : Nat) : Ei := ⟨g + 1, fun w => ∃ m, w.cell? ⟨g, 0, none⟩ = some (.int .i64 m), fun w w' hb h => by
 obtain ⟨m, hm⟩ := h
 refine ⟨m, ?_⟩
 unfold World.cell? at hm ⊢
 rw [hb g (Nat.lt_succ_self g)]
 exact hm⟩
theorem W8 {g : Nat} {w : World} (h : (Lac g).p w) : (Lac g).base ≤ w.heap.size := by
 obtain ⟨m, hm⟩ := h
 unfold World.cell? at hm
 have : g < w.heap.size := by
  apply Classical.byContradiction
  intro hn
  simp only [Array.getElem?_eq_none (show w.heap.size ≤ g by omega)] at hm
  simp at hm
 exact this
theorem KI {P : Program} {l : List (String × DataW Unit)} {w : World} (h : (l.filter fun x => x.2.handleName?.isSome) = []) : laidMetH P l w = laidMet P l w := by
 unfold laidMetH
 rw [h]
section
variable {H : Type} {enc : TypeId × Value → H}
theorem TL {a : Assume} {C : Checked} {os : Os} {f : FuncId} {fn : Func} {s : ChangeSpec} {conds : List PathCond} {apart fresh handsOn again : Bool} {X : World → Array Value → Prop}
 (hX : ∀ (w w' : World) (args : Array Value), w.heap = w'.heap → X w args → X w' args)
 (own : ownKnob C.prog.godebug = none) (started : os.Started) (noInit : C.prog.inits.idxOf? f = none) (hfn : C.prog.funcs[f]? = some fn)
 (witness : ∃ (w : World) (tape : Tape) (i : Input), w.os = os ∧ (w.forCall tape i).Shaped C.prog ∧ i.vars = [] ∧ Input.okWide C.prog (w.forCall tape i) .any w.heap.size f i ∧
  ((s.pre enc C.prog fn conds apart (w.forCall tape i).memory i.args ∧ X (w.forCall tape i).memory i.args) ∧ sizedMet enc C.prog fn (OpenSpec.ofChange s) apart (w.forCall tape i).memory i.args) ∧ a.holds C.prog (lone (Frame.enter C.prog f i.args .normal) [] (w.forCall tape i)))
 (contract : ∀ (W : World) (base : Nat) (args : Array Value) (ds gs : List (DataW H)) (before : List MemPlace),
  (∀ (j : Nat) t v, fn.params[j]? = some t → args[j]? = some v → Value.okWide C.prog W .any base t v) →
  DataW.Whole enc C.prog fn.params.toList s.vars apart W args.toList ds gs before →
  conds.all (PathCond.test C.prog ⟨fn.params.toList, ds, s.plain.varTypes C.prog, gs⟩) = true →
  (DataW.weightsEach C.prog (fn.params.toList ++ s.plain.varTypes C.prog) (ds ++ gs)).all (· ≤ reachBytes) = true → W.ShapedOpen C.prog → X W args →
  a.holds C.prog (lone (Frame.enter C.prog f args .normal) [] W) →
  Calls C.prog f args W fun e W' => ∃ v, e = .returned v ∧ s.post enc C.prog fn apart fresh handsOn again W args v W') :
 ReturnsInHanded a C os f .any (fun w args => (s.pre enc C.prog fn conds apart w args ∧ X w args) ∧ sizedMet enc C.prog fn (OpenSpec.ofChange s) apart w args) (s.post enc C.prog fn apart fresh handsOn again) := by
 refine returnsInHanded_of_calls own started noInit witness ?_
 intro w tape i _ hsh _ hok hpre hholds
 obtain ⟨_, _, _, fn', hfn', _, _, _, _, hval⟩ := hok
 have e : fn' = fn := yy (hfn'.symm.trans hfn)
 subst e
 obtain ⟨⟨⟨ds, gs, before, hw, hc⟩, hx⟩, hz⟩ := hpre
 have hw' := DataW.Whole.of_heap (w' := w.forCall tape i) (by rfl) hw
 refine (contract (w.forCall tape i) w.heap.size i.args ds gs before hval hw' hc (hz.weights hw) hsh (hX _ _ _ (by rfl) hx) hholds).mono fun e W' ⟨v, he, hp⟩ => ?_
 subst he
 exact ChangeSpec.post_blind hp
theorem EY {C : Checked} {os : Os} {f : FuncId} {fn : Func} {s : ChangeSpec} {apart fresh handsOn again : Bool} {pt : Ty} {fl : Bool} {F : T pt → Option (Bool × Unit)} {tb : TypeId} {I : Ei} {laid : List (String × DataW Unit)}
 (own : ownKnob C.prog.godebug = none) (started : os.Started) (noInit : C.prog.inits.idxOf? f = none) (hfn : C.prog.funcs[f]? = some fn)
 (witness : ∃ (w : World) (tape : Tape) (i : Input), w.os = os ∧ (w.forCall tape i).Shaped C.prog ∧ i.vars = [] ∧ Input.okWide C.prog (w.forCall tape i) .any w.heap.size f i ∧
  ((s.pre enc C.prog fn [] apart (w.forCall tape i).memory i.args ∧ laidMetH C.prog laid (w.forCall tape i).memory) ∧ sizedMet enc C.prog fn (OpenSpec.ofChange s) apart (w.forCall tape i).memory i.args) ∧ ({} : Assume).holds C.prog (lone (Frame.enter C.prog f i.args .normal) [] (w.forCall tape i)))
 (hvars : s.vars = []) (hs : ∀ ds : List (DataW H), ds.length = fn.params.toList.length → s.fn H ds = { results := [.lit (.bool true)], args := ds })
 (hp : Hk C.prog pt fn.params.toList = true) (hr : fn.resultTypes = #[tb]) (htb : C.prog.underlying tb = some .bool)
 (hsound : Qh C.prog I f (.pu pt (.p .b .u) [fl] F)) (hF : ∀ x, DI pt x → F x = some (true, ()))
 (hI : ∀ W : World, W.ShapedOpen C.prog → laidMetH C.prog laid W → I.p W ∧ I.base ≤ W.heap.size) (hnh : (laid.filter fun x => x.2.handleName?.isSome) = []) :
 ReturnsInHanded {} C os f .any (fun w args => (s.pre enc C.prog fn [] apart w args ∧ laidMetH C.prog laid w) ∧ sizedMet enc C.prog fn (OpenSpec.ofChange s) apart w args) (s.post enc C.prog fn apart fresh handsOn again) := by
 refine TL (X := fun w _ => laidMetH C.prog laid w) (fun _ _ _ hh h => by
  rw [KI hnh] at h ⊢
  exact h.of_heap hh) own started noInit hfn witness ?_
 intro W b0 args ds gs before hval hW _ _ hsh hX _
 have hW0 := hW
 obtain ⟨p, q, hA, hV, hps, hfz, hnd⟩ := hW
 rw [hvars] at hV
 have hgs : gs = [] ∧ q = [] := by
  cases gs with
  | nil => exact ⟨rfl, hV⟩
  | cons _ _ => exact hV.elim
 obtain ⟨rfl, rfl⟩ := hgs
 simp only [List.append_nil] at hps
 subst hps
 obtain ⟨x, hx, hrx⟩ := SK (base := b0) hp hA fun j t v h1 h2 => hval j t v (by simpa using h1) (by simpa using h2)
 have hcall := hsound.2 (fun _ => False) W x (true, ()) args.toList (hF x hrx) hx (fun _ h => h.elim) (hI W hsh hX).1 (hI W hsh hX).2
 refine hcall.mono fun e W' hret => ?_
 cases e with
 | returned v =>
  obtain ⟨vs, Fr, hv, hk, hR, _, _⟩ := hret
  have hvt : v = .bool true := by
   cases vs with
   | nil => simp [Jc] at hR
   | cons a r =>
    obtain ⟨cs, F1, F2, ha, _, hown, hrest⟩ := hR
    cases r with
    | cons _ _ => simp [Jc] at hrest
    | nil =>
     have hcs : cs = [.bool true] := by
      cases fl with
      | true => exact hown.1
      | false => exact hown.1
     rw [hv, TB, ha, hcs]
     rfl
  subst hvt
  refine ⟨_, rfl, ?_⟩
  have hsp := hs ds (MM hA)
  have hlt : ∀ z ∈ before, z.block < W.heap.size := hW0.lt
  have hsame : ∀ z ∈ before, W.sameAt W' z := by
   intro z hz
   have hb := hk.block z.block (hlt z hz) (fun h => h)
   cases z with
   | cell b off =>
    show W'.cell? _ = W.cell? _
    simp only [World.cell?]
    rw [show W'.heap[b]? = W.heap[b]? from hb]
   | map b => exact hb
  have hargs : ∀ sp : Nat → Bool, (∀ z ∈ before, sp z.block = true) → DataW.TrodAll enc C.prog W' 0 sp true fn.params.toList args.toList ds before :=
   fun sp h => OI (KM hp) hA hsame h
  have hres : ∀ (b : Nat) (sp : Nat → Bool) (hd : Bool), DataW.TrodAll enc C.prog W' b sp hd fn.resultTypes.toList ((Value.bool true).resultList fn.resultTypes.size) [.lit (.bool true)] [] := by
   intro b sp hd
   rw [hr]
   exact trodAll_mk1 (Go.RowKit.shut_bool htb true)
  have hold : ∀ z ∈ before, (fun b => decide (b < W.heap.size)) z.block = true := fun z hz => by simpa using hlt z hz
  refine ⟨ds, [], before, [], before, [], hW0, ?_, ?_, ?_, hk.but _, fun _ => ⟨?_, ds.cons (.lit (.bool true)), [], before, ⟨before, [], ?_, ?_, by simp, ?_, ?_⟩, fun z hz _ => hz⟩⟩
  ·rw [List.append_nil, hsp]; exact hres _ _ _
  ·rw [List.append_nil, hsp]; exact hargs _ hold
  ·rw [List.append_nil, hsp, hvars]; rfl
  ·intro j t r hj hv
   rw [hr] at hj hv
   match j, hj, hv with
   | 0, hj, hv =>
    simp only [List.getElem?_toArray, List.getElem?_cons_zero, jc] at hj
    simp [Value.resultList] at hv
    subst hj; subst hv
    exact Go.RowKit.okWide_bool_mk htb true
  ·exact trodAll_append (hargs _ (fun _ _ => rfl)) (hres _ _ _)
  ·rw [hvars]; rfl
  ·intro b off hz
   have := hfz b off hz
   unfold World.frozen? at this ⊢
   rw [show W'.heap[b]? = W.heap[b]? from hk.block b (hlt _ hz) (fun h => h)]
   exact this
  ·exact hnd
 | _ => exact hret.elim
end


def Ve {α S R : Type} (g : Nat → S → α → S ⊕ R) : Nat → S → List α → S ⊕ R
 | _, s, [] => .inl s
 | k, s, x :: xs => match g k s x with
  | .inl s' => Ve g (k + 1) s' xs
  | .inr r => .inr r
section
variable {X R : Type} {step : X → Option (X ⊕ R)}
theorem Wd {x : X} {z : Option (X ⊕ R)} (h : step x = z) : Ib step x = z.bind (Sum.elim (Ib step) some) := by
 rw [Qy, h]
theorem OZ {α S R' : Type} (xs : List α) (g : Nat → S → α → S ⊕ R') (I : Nat → S → X) (out : S → R) (ex : R' → R) (Ei : Nat → S → Prop)
 (h : ∀ k (hk : k < xs.length) s, Ei k s → step (I k s) = some (match g k s xs[k] with | .inl s' => .inl (I (k + 1) s') | .inr r => .inr (ex r)) ∧ ∀ s', g k s xs[k] = .inl s' → Ei (k + 1) s')
 (he : ∀ s, Ei xs.length s → step (I xs.length s) = some (.inr (out s))) (s0 : S) (h0 : Ei 0 s0) :
 Ib step (I 0 s0) = some (match Ve g 0 s0 xs with | .inl s => out s | .inr r => ex r) := by
 have key : ∀ (ys : List α) (k : Nat) (s : S), xs.drop k = ys → k ≤ xs.length → Ei k s → Ib step (I k s) = some (match Ve g k s ys with | .inl s => out s | .inr r => ex r) := by
  intro ys
  induction ys with
  | nil =>
   intro k s hd hle hi
   have : k = xs.length := by
    have := congrArg ja hd
    simp at this
    omega
   subst this
   rw [Wd (he s hi)]
   rfl
  | cons y ys ih =>
   intro k s hd hle hi
   have hk : k < xs.length := by
    have := congrArg ja hd
    simp at this
    omega
   have hy : xs[k] = y := by
    have := congrArg (·[0]?) hd
    simp [List.getElem?_drop, je hk] at this
    exact this
   obtain ⟨h1, h2⟩ := h k hk s hi
   rw [Wd h1]
   rw [hy] at h2 ⊢
   simp only [Ve]
   cases hg : g k s y with
   | inl s' =>
    simp only [jb, qh]
    refine ih (k + 1) s' ?_ hk (h2 s' hg)
    rw [← qo, hd]
    rfl
   | inr r => rfl
 exact key xs 0 s0 rfl (Nat.zero_le _) h0
theorem ZS (I : Nat → X) (n : Nat) (out : R) (h : ∀ k, k < n → step (I k) = some (.inl (I (k + 1)))) (he : step (I n) = some (.inr out)) : Ib step (I 0) = some out := by
 have key : ∀ m k, m + k = n → Ib step (I k) = some out := by
  intro m
  induction m with
  | zero =>
   intro k hk
   have : k = n := by omega
   subst this
   rw [Wd he]; rfl
  | succ m ih =>
   intro k hk
   rw [Wd (h k (by omega))]
   exact ih (k + 1) (by omega)
 exact key n 0 (by omega)
end
theorem Id {n : Int} (h1 : -9223372036854775808 ≤ n) (h2 : n ≤ 9223372036854775807) : j6 .i64 n = n := IntWalk.i64_in n ⟨h1, h2⟩
theorem Ni {k : Nat} (h : k < 9223372036854775807) : j6 .i64 ((k : Int) + 1) = ((k + 1 : Nat) : Int) := by
 rw [Id (by omega) (by omega)]; omega
section
variable {α : Type}
theorem Cah (xs : List α) (k : Nat) : Ic xs (k : Int) = xs[k]? := by simp [Ic]
theorem Gc {xs : List α} {k : Nat} (h : k < xs.length) : Ic xs (k : Int) = some xs[k] := by rw [Cah, je h]
theorem Rg (n k : Nat) : Te n (k : Int) = decide (k < n) := by
 simp [Te]
theorem Ca {p : Prop} [Decidable p] (h : p) : decide p = true := decide_eq_true h
theorem Ea {p : Prop} [Decidable p] (h : ¬ p) : decide p = false := decide_eq_false h
theorem ST {xs : List α} {k : Nat} (h : k < xs.length) : xs.take (k + 1) = xs.take k ++ [xs[k]] := by
 rw [List.take_succ_eq_append_getElem h]
end
theorem Rj : Nb = 1073741824 := rfl
def Dc : (τ : Ty) → T τ → Nat
 | .i _, _ => 0
 | .b, _ => 0
 | .o, _ => 0
 | .mp _ _, _ => 0
 | .s, x => ja x
 | .sl e, xs => ja xs + (List.map (Dc e) xs).sum
 | .u, _ => 0
 | .p a c, v => Dc a v.1 + Dc c v.2
def Ty.hasS : Ty → Bool
 | .s => true
 | .sl e => e.hasS
 | .p x y => x.hasS || y.hasS
 | _ => false
def Ma : Nat := 1048576
theorem Ez {α : Type} {f : α → Nat} {xs : List α} {k : Nat} (hk : k < xs.length) : f xs[k] ≤ (xs.map f).sum := by
 induction xs generalizing k with
 | nil => simp at hk
 | cons x xs ih =>
  cases k with
  | zero => simp
  | succ k =>
   have := ih (k := k) (by simpa using hk)
   simp only [List.getElem_cons_succ, yh, List.sum_cons]
   omega
theorem AO : ∀ {τ : Ty} (_ : (τ.flat && !τ.hasS) = true) {x : T τ}, Dc τ x = 0
 | .i _, _, _ => rfl
 | .b, _, _ => rfl
 | .o, _, _ => rfl
 | .mp _ _, _, _ => rfl
 | .s, h, _ => by simp [Ty.hasS] at h
 | .sl _, h, _ => by simp [Ty.flat] at h
 | .u, _, _ => rfl
 | .p a c, h, x => by
  simp only [Ty.flat, Ty.hasS, jd, yj, yq] at h
  simp only [Dc]
  rw [AO (τ := a) (by simp [h.1.1, h.2.1]), AO (τ := c) (by simp [h.1.2, h.2.2])]
theorem AI {e : Ty} (h : (e.flat && !e.hasS) = true) (xs : List (T e)) : Dc (.sl e) xs = ja xs := by
 simp only [Dc]
 have : List.map (Dc e) xs = yb xs.length 0 := by
  apply List.ext_getElem
  ·simp
  ·intro i h1 h2
   simp [AO h]
 rw [this]
 simp
theorem Fq {α : Type} (b : Bool) (x y : α) : cond b (some x) (some y) = some (cond b x y) := by cases b <;> rfl
theorem Gq {α : Type} (b : Bool) (x y : α) : cond b (x, ()) (y, ()) = (cond b x y, ()) := by cases b <;> rfl
theorem Fd (b x y : Bool) : (cond b x y = true) ↔ ((b = true ∧ x = true) ∨ (¬ b = true ∧ y = true)) := by cases b <;> simp
theorem JC {a b : Bool} (h : a = true ↔ b = true) : a = b := Bool.eq_iff_iff.2 h
theorem Wc {a b : Bool} (h : a = true ↔ b = true) : some (a, ()) = some (b, ()) := by rw [JC h]
theorem YG (a b : Int) : ((a == b) = true) ↔ a = b := by simp
theorem ZG (a b : Int) : ((a != b) = true) ↔ ¬ a = b := by simp
def Md {α : Type} (p : Nat → α → Bool) : Nat → List α → Bool
 | _, [] => true
 | k, x :: xs => p k x && Md p (k + 1) xs
theorem Yf {X R : Type} {step : X → Option (X ⊕ R)} {α : Type} (xs : List α) (p : Nat → α → Bool) (I : Int → X) (yes no : R)
 (h : ∀ k (hk : k < xs.length), step (I (k : Int)) = some (cond (p k xs[k]) (.inl (I (j6 .i64 ((k : Int) + 1)))) (.inr no)))
 (he : step (I (xs.length : Int)) = some (.inr yes)) (hn : xs.length < 9223372036854775807) :
 Ib step (I 0) = some (cond (Md p 0 xs) yes no) := by
 have key : ∀ (ys : List α) (k : Nat), xs.drop k = ys → k ≤ xs.length → Ib step (I (k : Int)) = some (cond (Md p k ys) yes no) := by
  intro ys
  induction ys with
  | nil =>
   intro k hd hle
   have : k = xs.length := by
    have := congrArg ja hd
    simp at this
    omega
   subst this
   rw [Wd he]
   rfl
  | cons y ys ih =>
   intro k hd hle
   have hk : k < xs.length := by
    have := congrArg ja hd
    simp at this
    omega
   have hy : xs[k] = y := by
    have := congrArg (·[0]?) hd
    simp [List.getElem?_drop, je hk] at this
    exact this
   have hd' : xs.drop (k + 1) = ys := by rw [← qo, hd]; rfl
   rw [Wd (h k hk), hy]
   simp only [Md]
   cases hc : p k y with
   | true =>
    simp only [y3, jl, jb, qh]
    rw [← ih (k + 1) hd' hk, Ni (by omega)]
   | false => rfl
 have := key xs 0 rfl (Nat.zero_le _)
 simpa using this
theorem Ze {α : Type} {p : Nat → α → Bool} : ∀ {xs : List α} {k : Nat}, Md p k xs = true ↔ ∀ j (hj : j < xs.length), p (k + j) xs[j] = true
 | [], _ => by simp [Md]
 | x :: xs, k => by
  simp only [Md, jd, Ze (xs := xs)]
  constructor
  ·rintro ⟨h1, h2⟩ j hj
   cases j with
   | zero => exact h1
   | succ j => simpa [ju, Nat.add_comm 1 j] using h2 j (by simpa using hj)
  ·intro h
   refine ⟨h 0 (by simp), fun j hj => ?_⟩
   have := h (j + 1) (by simpa using hj)
   rw [ju, Nat.add_comm 1 j]
   exact this
theorem MS {α β γ : Type} (b : Bool) (x : α) (y : β) (f : α → γ) (g : β → γ) : Sum.elim f g (cond b (.inl x) (.inr y)) = cond b (f x) (g y) := by cases b <;> rfl
def Jd {α S : Type} (g : Nat → S → α → S) : Nat → S → List α → S
 | _, s, [] => s
 | k, s, x :: xs => Jd g (k + 1) (g k s x) xs
theorem LS {α : Type} {xs ys : List α} {y : α} {k : Nat} (hd : xs.drop k = y :: ys) : ∃ hk : k < xs.length, xs[k] = y ∧ xs.drop (k + 1) = ys := by
 have hk : k < xs.length := by
  have := congrArg ja hd
  simp at this
  omega
 refine ⟨hk, ?_, by rw [← qo, hd]; rfl⟩
 have := congrArg (·[0]?) hd
 simp [List.getElem?_drop, je hk] at this
 exact this
theorem XW {α : Type} {xs : List α} {k : Nat} (hd : xs.drop k = []) (hk : k ≤ xs.length) : k = xs.length := by
 have := congrArg ja hd
 simp at this
 omega
theorem Zi {X R : Type} {step : X → Option (X ⊕ R)} {α S : Type} (xs : List α) (g : Nat → S → α → S) (I : S → Int → X) (out : S → R) (Ei : Nat → S → Prop)
 (h : ∀ k (hk : k < xs.length) s, Ei k s → step (I s (k : Int)) = some (.inl (I (g k s xs[k]) (j6 .i64 ((k : Int) + 1)))) ∧ Ei (k + 1) (g k s xs[k]))
 (he : ∀ s, Ei xs.length s → step (I s (xs.length : Int)) = some (.inr (out s))) (hn : xs.length < 9223372036854775807) (s0 : S) (h0 : Ei 0 s0) :
 Ib step (I s0 0) = some (out (Jd g 0 s0 xs)) ∧ Ei xs.length (Jd g 0 s0 xs) := by
 have key : ∀ (ys : List α) (k : Nat) (s : S), xs.drop k = ys → k ≤ xs.length → Ei k s → Ib step (I s (k : Int)) = some (out (Jd g k s ys)) ∧ Ei xs.length (Jd g k s ys) := by
  intro ys
  induction ys with
  | nil =>
   intro k s hd hle hi
   have := XW hd hle
   subst this
   rw [Wd (he s hi)]
   exact ⟨rfl, hi⟩
  | cons y ys ih =>
   intro k s hd hle hi
   obtain ⟨hk, hy, hd'⟩ := LS hd
   obtain ⟨h1, h2⟩ := h k hk s hi
   rw [Wd h1, hy, Ni (by omega)]
   rw [hy] at h2
   exact ih (k + 1) _ hd' hk h2
 have := key xs 0 s0 rfl (Nat.zero_le _) h0
 simpa using this
theorem Cm {X R : Type} {step : X → Option (X ⊕ R)} {α S R' : Type} (xs : List α) (g : Nat → S → α → S ⊕ R') (I : S → Int → X) (out : S → R) (ex : R' → R) (Ei : Nat → S → Prop)
 (h : ∀ k (hk : k < xs.length) s, Ei k s → step (I s (k : Int)) = some (match g k s xs[k] with | .inl s' => .inl (I s' (j6 .i64 ((k : Int) + 1))) | .inr r => .inr (ex r)) ∧ ∀ s', g k s xs[k] = .inl s' → Ei (k + 1) s')
 (he : ∀ s, Ei xs.length s → step (I s (xs.length : Int)) = some (.inr (out s))) (hn : xs.length < 9223372036854775807) (s0 : S) (h0 : Ei 0 s0) :
 Ib step (I s0 0) = some (match Ve g 0 s0 xs with | .inl s => out s | .inr r => ex r) := by
 have := OZ (step := step) xs g (fun k s => I s (k : Int)) out ex Ei (fun k hk s hi => by
  obtain ⟨h1, h2⟩ := h k hk s hi
  refine ⟨?_, h2⟩
  rw [h1, Ni (by omega)]) he s0 h0
 simpa using this
theorem z3 : ((3 : Int) == 0) = false := rfl
theorem ZD {n lo hi : Nat} (h1 : lo ≤ hi) (h2 : hi ≤ n) : Be n (lo : Int) (hi : Int) = true := by
 simp [Be]; omega
section
variable {α β : Type}
end
abbrev int : Ty := .i .i64
abbrev PB : Ty := .i .u8
abbrev Qg : Ty := (.p int (.p int .u))
abbrev Lc : Type := (Int × (Int × Unit))
abbrev Rb : Ty := (.p int (.p (.sl int) .u))
abbrev Ga : Type := (Int × ((List Int) × Unit))
abbrev Ad : Ty := (.p int (.p int (.p .b .u)))
abbrev Oc : Type := (Int × (Int × (Bool × Unit)))
abbrev Sg : Ty := (.p int Qg)
abbrev Fe : Type := (Int × Lc)
abbrev Ag : Ty := (.p (.sl PB) Qg)
abbrev Mb : Type := ((List Int) × Lc)
abbrev Cd : Ty := (.p int Sg)
abbrev Ba : Type := (Int × Fe)
abbrev Pv : Ty := (.p Ad (.p .s .u))
abbrev Mp : Type := (Oc × ((List UInt8) × Unit))
abbrev Ao : Ty := (.p int (.p Cd .u))
abbrev Pa : Type := (Int × (Ba × Unit))
abbrev La : Ty := (.p int (.p (.sl (.sl Cd)) .u))
abbrev Aa : Type := (Int × ((List (List Ba)) × Unit))
abbrev Ce : Ty := (.p Ad (.p Ad .u))
abbrev Hc : Type := (Oc × (Oc × Unit))
abbrev Hb : Ty := (.p La (.p (.sl (.sl Sg)) (.p int (.p (.sl Ao) (.p int (.p .b .u))))))
abbrev Sa : Type := (Aa × ((List (List Fe)) × (Int × ((List Pa) × (Int × (Bool × Unit))))))
abbrev Ox : Ty := (.p Hb (.p Hb (.p (.sl int) .u)))
abbrev Kq : Type := (Sa × (Sa × ((List Int) × Unit)))
def NI : List UInt8 := [97, 32, 98, 32, 99, 32, 100, 32, 101, 32, 102, 32, 103, 32, 104, 32, 105, 32, 106, 32, 107, 32, 108, 32, 109, 32, 110, 32, 111, 32, 112, 32, 113, 32, 114, 32, 115, 32, 116, 32, 117, 32, 118, 32, 119, 32, 120, 32, 121, 32, 122, 32, 49, 32, 50, 32, 51, 32, 52, 32, 53, 32, 54, 32, 55, 32, 56, 32, 57, 32, 48, 32, 101, 110, 116, 101, 114, 32, 101, 115, 99, 32, 98, 97, 99, 107, 32, 116, 97, 98, 32, 115, 112, 97, 99, 101, 32, 109, 105, 110, 117, 115, 32, 101, 113, 117, 97, 108, 32, 108, 101, 102, 116, 32, 114, 105, 103, 104, 116, 32, 117, 112, 32, 100, 111, 119, 110, 32, 102, 49, 32, 102, 50, 32, 102, 51, 32, 102, 52, 32, 102, 53, 32, 102, 54, 32, 102, 55, 32, 102, 56, 32, 102, 57]
noncomputable section
open Option renaming bind → ob
open Go.IntKind renaming wrap → wr
open Int renaming toNat → tn
open List renaming length → ln, append → ap, set → ls
open Sum renaming elim → se
open Nat renaming ble → bl
abbrev Wi : Type := Int × Unit
abbrev We : Type := Bool × Unit
abbrev Vd : Type := List Int
abbrev Xf : Type := Unit × Unit
abbrev Og : Type := Aa × Unit
abbrev Gg : Type := List Ga
abbrev Le : Type := List Pa
abbrev Lq : Type := List UInt8
abbrev Eh : Type := List Ba
abbrev Mk : Type := Sa × Unit
abbrev YB : Type := List Lc
abbrev Vs : Type := Unit × Wi
abbrev Ay : Type := We × Unit
abbrev Mq : Type := Aa × Og
abbrev Oaq : Type := Oc × Unit
abbrev QG : Type := Vd × Lc
abbrev OD : Type := Unit × Lc
abbrev AV : Type := (Wi × Unit) ⊕ Xf
abbrev YK : Type := Vd × Unit
abbrev ZK : Type := (List Eh) × (Int × (Eh × Eh))
abbrev Jl : Type := List Fe
abbrev Nq : Type := Ga × Unit
abbrev Ut : Type := Ga × Nq
abbrev PD : Type := List Lq
abbrev Iv : Type := Sa × Mk
abbrev BV : Type := Vd × Wi
abbrev CV : Type := YB × Lc
abbrev QD : Type := Unit × Vs
abbrev IA : Type := Xf ⊕ Ay
abbrev L5 : Type := (Le × (Unit × (Unit × (Vd × (Int × (Bool × Wi)))))) × Ut
abbrev HO : Type := Unit × Xf
abbrev RD : Type := (List Eh) × Lc
abbrev Zo : Type := List Mp
abbrev JO : Type := Lq × Unit
abbrev SD : Type := Unit × Fe
abbrev DV : Type := Int × ((List Eh) × (Int × (Int × (Eh × Lc))))
abbrev Zaf : Type := Lc × Unit
abbrev BL : Type := Xf ⊕ (Wi × Unit)
abbrev Paq : Type := Int × We
abbrev Cy : Type := Ba × Unit
abbrev Aag : Type := Fe × Unit
abbrev ZB : Type := Gg × Unit
abbrev RG : Type := (Le × QD) × Ut
abbrev AC : Type := Mb × Mq
abbrev Cag : Type := (Unit × (Unit × (Int × (Int × (Eh × (ZK × Ba)))))) × (Aa × ((Int × (ZK × Unit)) × Unit))
abbrev KO : Type := Sa × (Gg × We)
abbrev BC : Type := List Kq
abbrev Ws : Type := List Jl
abbrev FV : Type := (Vd × We) × Unit
abbrev GV : Type := Unit × QD
abbrev N5 : Type := (Unit × (Int × (Int × (Int × RD)))) × Og
abbrev HV : Type := (Gg × (Gg × Wi)) × Unit
abbrev O5 : Type := (Unit × (Unit × OD)) × (Aa × Mq)
abbrev P5 : Type := (ZB × Unit) ⊕ Xf
abbrev Dag : Type := Unit × QG
abbrev Q5 : Type := ((Unit × (Unit × YK)) × Ut) ⊕ Xf
abbrev CC : Type := Le × Lc
abbrev AL : Type := (Int × CC) × Unit
abbrev Eag : Type := (Int × QG) × Unit
abbrev LO : Type := Int × Vs
abbrev EV : Type := (Int × LO) × Og
abbrev Fag : Type := (Unit × (Int × (Unit × (Int × (Unit × (Int × (Eh × Wi))))))) × AC
abbrev IV : Type := Unit × BV
abbrev Hag : Type := L5 ⊕ (((Le × (Unit × (Unit × (Vd × Paq)))) × Ut) ⊕ Xf)
abbrev SG : Type := List (Hc × Vd)
abbrev JV : Type := YB × (Jl × Lc)
abbrev KV : Type := (HO × Mq) ⊕ Xf
abbrev Qaq : Type := (YK × Unit) ⊕ Xf
abbrev Raq : Type := PD × Unit
abbrev R5 : Type := Unit × HO
abbrev GO : Type := (Vd × QG) × Unit
abbrev BW : Type := (Unit × (BC × Wi)) × Og
abbrev RI : Type := List (Oc × Zo)
abbrev Is : Type := Aa × (RI × Unit)
abbrev ZU : Type := (Unit × (Unit × (Unit × (SG × ((List Hc) × (Unit × (Zo × (Zo × Lc)))))))) × (Aa × (Is × (Is × (Hc × Unit))))
abbrev K5 : Type := (Unit × (Unit × (Unit × (SG × ((List Hc) × Unit))))) × (Aa × (Is × (Is × Unit)))
abbrev Bag : Type := (Unit × (Unit × (Unit × (Zo × (Unit × (Lq × (Int × (Int × (Gg × Lc))))))))) × (Is × (Oc × Iv))
abbrev Gag : Type := (Unit × (Unit × (Unit × (Zo × Lc)))) × (Is × (Oc × Mk))
abbrev Ye : Sa := ((0, [], ()), [], 0, [], 0, false, ())
def Of (a0 : Int) (a1 : Int) (a2 : Int) : Option We :=
 (cond (decide (a0 ≥ a1))
 (some ((decide (a0 ≤ a2)), ()))
 (some (false, ())))
def RA (a0 : Ga) : Option Nq :=
 (cond (bl (ln ([] : List Int) + ln a0.2.1) Nb)
 (some ((a0.1, (ap [] a0.2.1), ()), ()))
 none)
def Ai (a0 : Vd) : Option YK :=
 (cond (bl (ln ([] : List Int) + ln a0) Nb)
 (some ((ap [] a0), ()))
 none)
def Hj (a0 : Ba) : Option We :=
 (ob (Of a0.2.1 1 56) fun r1 =>
 (ob (Of a0.2.2.1 1 15) fun r2 =>
 (ob (Of a0.2.2.2.1 1 3) fun r3 =>
 (cond (a0.1 == 0)
 (cond (a0.2.1 == 0)
 (cond (a0.2.2.1 == 0)
 (some ((a0.2.2.2.1 == 0), ()))
 (some (false, ())))
 (some (false, ())))
 (cond (a0.1 == 1)
 (cond (a0.2.1 == 0)
 (cond (a0.2.2.1 == 0)
 (some ((a0.2.2.2.1 == 0), ()))
 (some (false, ())))
 (some (false, ())))
 (cond (a0.1 == 10)
 (cond (a0.2.1 == 0)
 (cond (a0.2.2.1 == 0)
 (some ((a0.2.2.2.1 == 0), ()))
 (some (false, ())))
 (some (false, ())))
 (cond (a0.1 == 2)
 (cond (a0.2.2.2.1 == 0)
 (cond r1.1
 (cond r2.1
 (some (true, ()))
 (some ((a0.2.2.1 == 0), ())))
 (cond (a0.2.1 == 0)
 (cond r2.1
 (cond r2.1
 (some (true, ()))
 (some ((a0.2.2.1 == 0), ())))
 (some (false, ())))
 (some (false, ()))))
 (some (false, ())))
 (cond (a0.1 == 3)
 (cond r3.1
 (cond (a0.2.1 == 0)
 (some ((a0.2.2.1 == 0), ()))
 (some (false, ())))
 (some (false, ())))
 (cond (a0.1 == 4)
 (cond r3.1
 (cond (a0.2.1 == 0)
 (some ((a0.2.2.1 == 0), ()))
 (some (false, ())))
 (some (false, ())))
 (cond (a0.1 == 5)
 (ob (Of a0.2.2.2.1 0 3) fun r4 =>
 (cond r4.1
 (cond (a0.2.1 == 0)
 (some ((a0.2.2.1 == 0), ()))
 (some (false, ())))
 (some (false, ()))))
 (cond (a0.1 == 9)
 (ob (Of a0.2.2.2.1 0 3) fun r5 =>
 (cond r5.1
 (cond (a0.2.1 == 0)
 (some ((a0.2.2.1 == 0), ()))
 (some (false, ())))
 (some (false, ()))))
 (cond (a0.1 == 6)
 (cond r1.1
 (cond r2.1
 (some ((a0.2.2.2.1 == 0), ()))
 (some (false, ())))
 (some (false, ())))
 (cond (a0.1 == 7)
 (cond r1.1
 (cond r3.1
 (some ((a0.2.2.1 == 0), ()))
 (some (false, ())))
 (some (false, ())))
 (cond (a0.1 == 8)
 (cond r2.1
 (cond (a0.2.1 == 0)
 (some ((a0.2.2.2.1 == 0), ()))
 (some (false, ())))
 (some (false, ())))
 (some (false, ()))))))))))))))))
def Aw (t1 : Unit) (t3 : Int) (t4 : Int) (b1 : Aa) : Option ((OD × Og) ⊕ ((Vs × Og) ⊕ Ay)) :=
 (ob (Ic b1.2.1 t3) fun x40 =>
 (cond (decide (t4 < ((ln x40 : Nat) : Int)))
 (ob (Ic b1.2.1 t3) fun x41 =>
 (ob (Ic x41 t4) fun x42 =>
 (ob (Hj x42) fun r43 =>
 (cond (!r43.1)
 (some (.inr (.inr ((false, ()), ()))))
 (cond (x42.1 == 1)
 (cond (t3 == 0)
 (some (.inr (.inr ((false, ()), ()))))
 (cond (x42.1 != 9)
 (cond (decide (x42.2.2.2.1 ≥ ((ln b1.2.1 : Nat) : Int)))
 (some (.inr (.inr ((false, ()), ()))))
 (some (.inl (((), t3, (wr .i64 (t4 + 1)), ()), (b1, ())))))
 (some (.inl (((), t3, (wr .i64 (t4 + 1)), ()), (b1, ()))))))
 (cond (x42.1 != 9)
 (cond (decide (x42.2.2.2.1 ≥ ((ln b1.2.1 : Nat) : Int)))
 (some (.inr (.inr ((false, ()), ()))))
 (some (.inl (((), t3, (wr .i64 (t4 + 1)), ()), (b1, ())))))
 (some (.inl (((), t3, (wr .i64 (t4 + 1)), ()), (b1, ()))))))))))
 (some (.inr (.inl (((), t3, ()), (b1, ())))))))
def Wl := Ib fun x : (OD × Og) => Aw x.1.1 x.1.2.1 x.1.2.2.1 x.2.1
def Zv (t1 : Unit) (t3 : Int) (b1 : Aa) : Option ((Vs × Og) ⊕ ((Xf × Og) ⊕ Ay)) :=
 (cond (decide (t3 < ((ln b1.2.1 : Nat) : Int)))
 (ob (Ic b1.2.1 t3) fun x31 =>
 (cond (((ln x31 : Nat) : Int) != b1.1)
 (some (.inr (.inr ((false, ()), ()))))
 (ob (Wl (((), t3, 0, ()), (b1, ()))) (se (fun y44 => (some (.inl (((), (wr .i64 (y44.1.2.1 + 1)), ()), (y44.2.1, ()))))) (fun z45 => (some (.inr (.inr ((z45.1.1, ()), ())))))))))
 (some (.inr (.inl (((), ()), (b1, ()))))))
def Vl := Ib fun x : (Vs × Og) => Zv x.1.1 x.1.2.1 x.2.1
def Ij (a0 : Aa) : Option We :=
 (ob (Vl (((), 0, ()), (a0, ()))) (se (fun y46 => (ob (Of y46.2.1.1 1 32) fun r48 =>
 (cond r48.1
 (ob (Of ((ln y46.2.1.2.1 : Nat) : Int) 1 4) fun r49 =>
 (some (r49.1, ())))
 (some (false, ()))))) (fun z47 => (some (z47.1.1, ())))))
def Mo (a0 : Int) : Option We :=
 (cond (decide (a0 ≥ 1))
 (some ((decide (a0 ≤ 56)), ()))
 (some (false, ())))
def No (a0 : Int) : Option We :=
 (cond (decide (a0 ≥ 1))
 (some ((decide (a0 ≤ 15)), ()))
 (some (false, ())))
def Sp (a0 : Int) : Option We :=
 (cond (decide (a0 ≥ 1))
 (some ((decide (a0 ≤ 3)), ()))
 (some (false, ())))
def Gj (a0 : Ba) : Option We :=
 (cond (a0.1 == 0)
 (cond (a0.2.1 == 0)
 (cond (a0.2.2.1 == 0)
 (some ((a0.2.2.2.1 == 0), ()))
 (some (false, ())))
 (some (false, ())))
 (cond (a0.1 == 1)
 (cond (a0.2.1 == 0)
 (cond (a0.2.2.1 == 0)
 (some ((a0.2.2.2.1 == 0), ()))
 (some (false, ())))
 (some (false, ())))
 (cond (a0.1 == 10)
 (cond (a0.2.1 == 0)
 (cond (a0.2.2.1 == 0)
 (some ((a0.2.2.2.1 == 0), ()))
 (some (false, ())))
 (some (false, ())))
 (cond (a0.1 == 2)
 (cond (a0.2.2.2.1 == 0)
 (cond (a0.2.1 == 0)
 (cond (a0.2.2.1 == 0)
 (cond (a0.2.1 != 0)
 (some (true, ()))
 (some ((a0.2.2.1 != 0), ())))
 (ob (No a0.2.2.1) fun r1 =>
 (cond r1.1
 (cond (a0.2.1 != 0)
 (some (true, ()))
 (some ((a0.2.2.1 != 0), ())))
 (some (false, ())))))
 (ob (Mo a0.2.1) fun r2 =>
 (cond r2.1
 (cond (a0.2.2.1 == 0)
 (cond (a0.2.1 != 0)
 (some (true, ()))
 (some ((a0.2.2.1 != 0), ())))
 (ob (No a0.2.2.1) fun r3 =>
 (cond r3.1
 (cond (a0.2.1 != 0)
 (some (true, ()))
 (some ((a0.2.2.1 != 0), ())))
 (some (false, ())))))
 (some (false, ())))))
 (some (false, ())))
 (cond (a0.1 == 3)
 (cond (a0.2.1 == 0)
 (cond (a0.2.2.1 == 0)
 (ob (Sp a0.2.2.2.1) fun r4 =>
 (some (r4.1, ())))
 (some (false, ())))
 (some (false, ())))
 (cond (a0.1 == 4)
 (cond (a0.2.1 == 0)
 (cond (a0.2.2.1 == 0)
 (ob (Sp a0.2.2.2.1) fun r5 =>
 (some (r5.1, ())))
 (some (false, ())))
 (some (false, ())))
 (cond (a0.1 == 5)
 (cond (a0.2.1 == 0)
 (cond (a0.2.2.1 == 0)
 (cond (decide (a0.2.2.2.1 ≥ 0))
 (some ((decide (a0.2.2.2.1 ≤ 3)), ()))
 (some (false, ())))
 (some (false, ())))
 (some (false, ())))
 (cond (a0.1 == 9)
 (cond (a0.2.1 == 0)
 (cond (a0.2.2.1 == 0)
 (cond (decide (a0.2.2.2.1 ≥ 0))
 (some ((decide (a0.2.2.2.1 ≤ 3)), ()))
 (some (false, ())))
 (some (false, ())))
 (some (false, ())))
 (cond (a0.1 == 6)
 (ob (Mo a0.2.1) fun r6 =>
 (cond r6.1
 (ob (No a0.2.2.1) fun r7 =>
 (cond r7.1
 (some ((a0.2.2.2.1 == 0), ()))
 (some (false, ()))))
 (some (false, ()))))
 (cond (a0.1 == 7)
 (ob (Mo a0.2.1) fun r8 =>
 (cond r8.1
 (cond (a0.2.2.1 == 0)
 (ob (Sp a0.2.2.2.1) fun r9 =>
 (some (r9.1, ())))
 (some (false, ())))
 (some (false, ()))))
 (cond (a0.1 == 8)
 (cond (a0.2.1 == 0)
 (ob (No a0.2.2.1) fun r10 =>
 (cond r10.1
 (some ((a0.2.2.2.1 == 0), ()))
 (some (false, ()))))
 (some (false, ())))
 (some (false, ())))))))))))))
def Wv (t1 : Unit) (t3 : Int) (t28 : (List Eh)) (t29 : Int) (t30 : Int) (t40 : Eh) (t41 : Int) (t42 : Int) (b1 : Aa) : Option (((Unit × DV) × Og) ⊕ (((Unit × RD) × Og) ⊕ Ay)) :=
 (cond (decide (t42 < t41))
 (ob (Ic t40 t42) fun x24 =>
 (ob (Gj x24) fun r25 =>
 (cond (!r25.1)
 (some (.inr (.inr ((false, ()), ()))))
 (cond (t3 == 0)
 (cond (x24.1 == 1)
 (some (.inr (.inr ((false, ()), ()))))
 (cond (x24.1 != 9)
 (cond (decide (x24.2.2.2.1 ≥ ((ln b1.2.1 : Nat) : Int)))
 (some (.inr (.inr ((false, ()), ()))))
 (some (.inl (((), t3, t28, t29, t30, t40, t41, (wr .i64 (t42 + 1)), ()), (b1, ())))))
 (some (.inl (((), t3, t28, t29, t30, t40, t41, (wr .i64 (t42 + 1)), ()), (b1, ()))))))
 (cond (x24.1 != 9)
 (cond (decide (x24.2.2.2.1 ≥ ((ln b1.2.1 : Nat) : Int)))
 (some (.inr (.inr ((false, ()), ()))))
 (some (.inl (((), t3, t28, t29, t30, t40, t41, (wr .i64 (t42 + 1)), ()), (b1, ())))))
 (some (.inl (((), t3, t28, t29, t30, t40, t41, (wr .i64 (t42 + 1)), ()), (b1, ())))))))))
 (some (.inr (.inl (((), t28, t29, t30, ()), (b1, ()))))))
def Ol := Ib fun x : ((Unit × DV) × Og) => Wv x.1.1 x.1.2.1 x.1.2.2.1 x.1.2.2.2.1 x.1.2.2.2.2.1 x.1.2.2.2.2.2.1 x.1.2.2.2.2.2.2.1 x.1.2.2.2.2.2.2.2.1 x.2.1
def Vv (t1 : Unit) (t28 : (List Eh)) (t29 : Int) (t30 : Int) (b1 : Aa) : Option (((Unit × RD) × Og) ⊕ IA) :=
 (cond (decide (t30 < t29))
 (ob (Ic t28 t30) fun x19 =>
 (cond (((ln x19 : Nat) : Int) != b1.1)
 (some (.inr (.inr ((false, ()), ()))))
 (ob (Ol (((), t30, t28, t29, t30, x19, ((ln x19 : Nat) : Int), 0, ()), (b1, ()))) (se (fun y26 => (some (.inl (((), y26.1.2.1, y26.1.2.2.1, (wr .i64 (y26.1.2.2.2.1 + 1)), ()), (y26.2.1, ()))))) (fun z27 => (some (.inr (.inr ((z27.1.1, ()), ())))))))))
 (some (.inr (.inl ((), ())))))
def Nl := Ib fun x : ((Unit × RD) × Og) => Vv x.1.1 x.1.2.1 x.1.2.2.1 x.1.2.2.2.1 x.2.1
def Ch (a0 : Aa) : Option We :=
 (cond (decide (a0.1 < 1))
 (some (false, ()))
 (cond (decide (a0.1 > 32))
 (some (false, ()))
 (cond (decide (((ln a0.2.1 : Nat) : Int) < 1))
 (some (false, ()))
 (cond (decide (((ln a0.2.1 : Nat) : Int) > 4))
 (some (false, ()))
 (ob (Nl (((), a0.2.1, ((ln a0.2.1 : Nat) : Int), 0, ()), (a0, ()))) (se (fun y28 => (some (true, ()))) (fun z29 => (some (z29.1.1, ())))))))))
def Uz (a0 : Vd) : Option We :=
 (some ((decide (((ln a0 : Nat) : Int) > 1048576)), ()))
def BA (t0 : Vd) (t3 : Int) (t4 : Int) : Option ((Mb × Unit) ⊕ ((BV × Unit) ⊕ Xf)) :=
 (cond (decide (t4 < ((ln t0 : Nat) : Int)))
 (cond (decide (t4 < 4000))
 (ob (Ic t0 t4) fun x3 =>
 (some (.inl ((t0, (Lk .i64 (wr .i64 ((wr .i64 ((wr .i64 (t3 * 131)) + (wr .i64 x3))) + 7)) 1073741823), (wr .i64 (t4 + 1)), ()), ()))))
 (some (.inr (.inl ((t0, t3, ()), ())))))
 (some (.inr (.inl ((t0, t3, ()), ())))))
def Dw := Ib fun x : (Mb × Unit) => BA x.1.1 x.1.2.1 x.1.2.2.1
def Yy (a0 : Vd) : Option Mb :=
 (ob (Dw ((a0, (wr .i64 (10729 + ((ln a0 : Nat) : Int))), 0, ()), ())) (se (fun y4 => (some (y4.1.1, 0, y4.1.2.1, ()))) (fun z5 => none)))
def QA (a0 : Vd) (a1 : Int) : Option Mb :=
 (ob (Yy a0) fun r1 =>
 (some (r1.1, r1.2.1, (wr .i64 (r1.2.2.1 + (wr .i64 (7919 * a1)))), r1.2.2.2)))
def Em (a0 : Mb) : Option (Mb × Wi) :=
 (cond (decide ((0 : Int) ≤ 33))
 (cond (decide ((0 : Int) ≤ 45))
 (cond (decide (a0.2.1 < ((ln a0.1 : Nat) : Int)))
 (ob (Ic a0.1 a0.2.1) fun x1 =>
 (some ((a0.1, (wr .i64 (a0.2.1 + 1)), (wr .i64 ((wr .i64 (a0.2.2.1 * 6364136223846793005)) + 1442695040888963407)), a0.2.2.2), ((Lk .i64 (wr .i64 ((Lk .i64 (Py .i64 (Mu .i64 (wr .i64 ((wr .i64 (a0.2.2.1 * 6364136223846793005)) + 1442695040888963407)) 33) (Mu .i64 (wr .i64 ((wr .i64 (a0.2.2.1 * 6364136223846793005)) + 1442695040888963407)) 45)) 255) + (wr .i64 x1))) 255), ()))))
 (some ((a0.1, a0.2.1, (wr .i64 ((wr .i64 (a0.2.2.1 * 6364136223846793005)) + 1442695040888963407)), a0.2.2.2), ((Lk .i64 (Py .i64 (Mu .i64 (wr .i64 ((wr .i64 (a0.2.2.1 * 6364136223846793005)) + 1442695040888963407)) 33) (Mu .i64 (wr .i64 ((wr .i64 (a0.2.2.1 * 6364136223846793005)) + 1442695040888963407)) 45)) 255), ()))))
 none)
 none)
def Za (a0 : Mb) (a1 : Int) : Option (Mb × Wi) :=
 (cond (decide (a1 ≤ 0))
 (some (a0, (0, ())))
 (cond (decide (a1 ≤ 256))
 (ob (Em a0) fun r1 =>
 (cond (a1 == 0)
 none
 (some (r1.1, ((Int.tmod r1.2.1 a1), ())))))
 (ob (Em a0) fun r2 =>
 (ob (Em r2.1) fun r3 =>
 (ob (Em r3.1) fun r4 =>
 (ob (Em r4.1) fun r5 =>
 (cond (a1 == 0)
 none
 (some (r5.1, ((Int.tmod (wr .i64 ((wr .i64 ((wr .i64 ((wr .i64 (r2.2.1 * 16777216)) + (wr .i64 (r3.2.1 * 65536)))) + (wr .i64 (r4.2.1 * 256)))) + r5.2.1)) a1), ()))))))))))
def Km (a0 : Ba) : Option We :=
 (ob (Hj a0) fun r1 =>
 (cond r1.1
 (cond (a0.1 == 6)
 (some (true, ()))
 (some ((a0.1 == 7), ())))
 (some (false, ()))))
def Vy (a0 : Ba) : Option Cy :=
 (ob (Km a0) fun r1 =>
 (cond (!r1.1)
 (some (a0, ()))
 (some ((2, a0.2.1, 0, 0, ()), ()))))
def Zr (a0 : Mb) (a1 : Int) : Option (Mb × We) :=
 (ob (Za a0 a1) fun r1 =>
 (some (r1.1, ((r1.2.1 == 0), ()))))
def Mi (a0 : Mb) (a1 : Vd) : Option (Mb × Wi) :=
 (ob (Za a0 ((ln a1 : Nat) : Int)) fun r1 =>
 (cond (Te (ln a1) r1.2.1)
 (ob a1[(tn r1.2.1)]? fun x2 =>
 (some (r1.1, (x2, ()))))
 none))
def strings_Split (a b : List UInt8) : Option (List Lq × Unit) := ZY a b
def Vw (a0 : Int) : Option JO :=
 (cond (decide (a0 < 1))
 (some ([], ()))
 (cond (decide (a0 > 56))
 (some ([], ()))
 (ob (strings_Split NI ([32] : List UInt8)) fun r1 =>
 (cond (Te (ln r1.1) (wr .i64 (a0 - 1)))
 (ob r1.1[(tn (wr .i64 (a0 - 1)))]? fun x2 =>
 (some (x2, ())))
 none))))
def Rp (a0 : Ba) : Option We :=
 (ob (Gj a0) fun r1 =>
 (cond r1.1
 (cond (a0.1 == 6)
 (some (true, ()))
 (some ((a0.1 == 7), ())))
 (some (false, ()))))
def EC (a0 : Ba) : Option Cy :=
 (ob (Rp a0) fun r1 =>
 (cond (!r1.1)
 (some (a0, ()))
 (some ((2, a0.2.1, 0, 0, ()), ()))))
def Ym (t2 : Unit) (t3 : Unit) (t10 : (List Eh)) (t11 : Int) (t12 : Int) (b2 : Aa) (b3 : Aa) : Option (((Unit × (Unit × RD)) × Mq) ⊕ KV) :=
 (cond (decide (t12 < t11))
 (ob (Ic t10 t12) fun x4 =>
 (cond (bl (ln ([] : List Ba) + ln x4) Nb)
 (cond (bl (ln b3.2.1 + ln ([(ap [] x4)] : List Eh)) Nb)
 (some (.inl (((), (), t10, t11, (wr .i64 (t12 + 1)), ()), (b2, (b3.1, (ap b3.2.1 ([(ap [] x4)] : List Eh)), ()), ()))))
 none)
 none))
 (some (.inr (.inl (((), (), ()), (b2, b3, ()))))))
def Ko := Ib fun x : ((Unit × (Unit × RD)) × Mq) => Ym x.1.1 x.1.2.1 x.1.2.2.1 x.1.2.2.2.1 x.1.2.2.2.2.1 x.2.1 x.2.2.1
def Rk (a0 : Aa) : Option Og :=
 (ob (Ko (((), (), a0.2.1, ((ln a0.2.1 : Nat) : Int), 0, ()), ((0, [], ()), (a0.1, [], ()), ()))) (se (fun y5 => (some (y5.2.2.1, ()))) (fun z6 => none)))
def Zm (t3 : Ws) (t6 : Ws) (t7 : Int) (t8 : Int) : Option (((Ws × (Ws × Lc)) × Unit) ⊕ (((Ws × Unit) × Unit) ⊕ Xf)) :=
 (cond (decide (t8 < t7))
 (ob (Ic t6 t8) fun x4 =>
 (cond (bl (ln ([] : List Fe) + ln x4) Nb)
 (cond (bl (ln t3 + ln ([(ap [] x4)] : List Jl)) Nb)
 (some (.inl (((ap t3 ([(ap [] x4)] : List Jl)), t6, t7, (wr .i64 (t8 + 1)), ()), ())))
 none)
 none))
 (some (.inr (.inl ((t3, ()), ())))))
def Lo := Ib fun x : ((Ws × (Ws × Lc)) × Unit) => Zm x.1.1 x.1.2.1 x.1.2.2.1 x.1.2.2.2.1
def Rn (a0 : Ws) : Option (Ws × Unit) :=
 (ob (Lo (([], a0, ((ln a0 : Nat) : Int), 0, ()), ())) (se (fun y5 => (some (y5.1.1, ()))) (fun z6 => none)))
def Pm (a0 : Int) (a1 : Int) : Option Wi :=
 (cond (decide (0 ≤ a1))
 (some ((Lk .i64 (Mu .i64 a0 a1) 1), ()))
 none)
def At (t3 : Int) (t6 : Le) (t7 : Int) (t8 : Int) : Option (AL ⊕ IA) :=
 (cond (decide (t8 < t7))
 (ob (Ic t6 t8) fun x7 =>
 (cond (decide (x7.1 < 0))
 (some (.inr (.inr ((false, ()), ()))))
 (cond (decide (x7.1 > 31))
 (some (.inr (.inr ((false, ()), ()))))
 (ob (Pm t3 x7.1) fun r8 =>
 (cond (r8.1 == 1)
 (some (.inr (.inr ((false, ()), ()))))
 (ob (Gj x7.2.1) fun r9 =>
 (cond (!r9.1)
 (some (.inr (.inr ((false, ()), ()))))
 (cond (x7.2.1.1 == 1)
 (some (.inr (.inr ((false, ()), ()))))
 (cond (x7.2.1.1 == 6)
 (some (.inr (.inr ((false, ()), ()))))
 (cond (x7.2.1.1 == 7)
 (some (.inr (.inr ((false, ()), ()))))
 (cond (decide (0 ≤ x7.1))
 (some (.inl (((Ed .i64 t3 (Re .i64 1 x7.1)), t6, t7, (wr .i64 (t8 + 1)), ()), ())))
 none)))))))))))
 (some (.inr (.inl ((), ())))))
def Du := Ib fun x : AL => At x.1.1 x.1.2.1 x.1.2.2.1 x.1.2.2.2.1
def Ek (a0 : Le) : Option We :=
 (ob (Du ((0, a0, ((ln a0 : Nat) : Int), 0, ()), ())) (se (fun y10 => (some (true, ()))) (fun z11 => (some (z11.1.1, ())))))
def Et (t3 : Unit) (t7 : YB) (t8 : Int) (t9 : Int) (b3 : Lc) : Option (((Unit × CV) × Zaf) ⊕ BL) :=
 (cond (decide (t9 < t8))
 (ob (Ic t7 t9) fun x3 =>
 (cond (Jf Qg x3 b3)
 (some (.inr (.inr ((t9, ()), ()))))
 (some (.inl (((), t7, t8, (wr .i64 (t9 + 1)), ()), (b3, ()))))))
 (some (.inr (.inl ((), ())))))
def Ku := Ib fun x : ((Unit × CV) × Zaf) => Et x.1.1 x.1.2.1 x.1.2.2.1 x.1.2.2.2.1 x.2.1
def Kw (a0 : YB) (a1 : Lc) : Option Wi :=
 (ob (Ku (((), a0, ((ln a0 : Nat) : Int), 0, ()), (a1, ()))) (se (fun y4 => (some ((-1), ()))) (fun z5 => (some (z5.1.1, ())))))
def Om (t3 : YB) (t11 : Jl) (t12 : Int) (t13 : Int) : Option ((JV × Unit) ⊕ (((YB × Unit) × Unit) ⊕ Ay)) :=
 (cond (decide (t13 < t12))
 (ob (Ic t11 t13) fun x10 =>
 (ob (Kw t3 x10.2) fun r11 =>
 (ob (Gj (2, x10.2.1, x10.2.2.1, 0, ())) fun r12 =>
 (cond (!r12.1)
 (some (.inr (.inr ((false, ()), ()))))
 (cond (x10.1 == 0)
 (cond (decide (r11.1 ≥ 0))
 (some (.inr (.inr ((false, ()), ()))))
 (cond (x10.1 == 1)
 (cond (bl (ln t3 + ln ([x10.2] : List Lc)) Nb)
 (some (.inl (((ap t3 ([x10.2] : List Lc)), t11, t12, (wr .i64 (t13 + 1)), ()), ())))
 none)
 (some (.inl ((t3, t11, t12, (wr .i64 (t13 + 1)), ()), ())))))
 (cond (x10.1 == 1)
 (cond (decide (r11.1 ≥ 0))
 (some (.inr (.inr ((false, ()), ()))))
 (cond (x10.1 == 1)
 (cond (bl (ln t3 + ln ([x10.2] : List Lc)) Nb)
 (some (.inl (((ap t3 ([x10.2] : List Lc)), t11, t12, (wr .i64 (t13 + 1)), ()), ())))
 none)
 (some (.inl ((t3, t11, t12, (wr .i64 (t13 + 1)), ()), ())))))
 (cond (x10.1 == 2)
 (cond (decide (r11.1 < 0))
 (some (.inr (.inr ((false, ()), ()))))
 (cond (Be (ln t3) 0 r11.1)
 (cond (Be (ln t3) (wr .i64 (r11.1 + 1)) ((ln t3 : Nat) : Int))
 (cond (bl (ln (Cc t3 (tn 0) (tn r11.1)) + ln (Cc t3 (tn (wr .i64 (r11.1 + 1))) (tn ((ln t3 : Nat) : Int)))) Nb)
 (some (.inl (((ap (Cc t3 (tn 0) (tn r11.1)) (Cc t3 (tn (wr .i64 (r11.1 + 1))) (tn ((ln t3 : Nat) : Int)))), t11, t12, (wr .i64 (t13 + 1)), ()), ())))
 none)
 none)
 none))
 (some (.inr (.inr ((false, ()), ())))))))))))
 (some (.inr (.inl ((t3, ()), ())))))
def Ms := Ib fun x : (JV × Unit) => Om x.1.1 x.1.2.1 x.1.2.2.1 x.1.2.2.2.1
def Eu (a0 : Jl) : Option We :=
 (cond (decide (((ln a0 : Nat) : Int) > 8))
 (some (false, ()))
 (ob (Ms (([], a0, ((ln a0 : Nat) : Int), 0, ()), ())) (se (fun y13 => (some ((((ln y13.1.1 : Nat) : Int) == 0), ()))) (fun z14 => (some (z14.1.1, ()))))))
def Dp (t1 : Unit) (t35 : Ws) (t36 : Int) (t37 : Int) (b1 : Sa) : Option (((Unit × (Ws × Lc)) × Mk) ⊕ ((Xf × Mk) ⊕ Ay)) :=
 (cond (decide (t37 < t36))
 (ob (Ic t35 t37) fun x7 =>
 (ob (Eu x7) fun r8 =>
 (cond (!r8.1)
 (some (.inr (.inr ((false, ()), ()))))
 (some (.inl (((), t35, t36, (wr .i64 (t37 + 1)), ()), (b1, ())))))))
 (some (.inr (.inl (((), ()), (b1, ()))))))
def Ml := Ib fun x : ((Unit × (Ws × Lc)) × Mk) => Dp x.1.1 x.1.2.1 x.1.2.2.1 x.1.2.2.2.1 x.2.1
def On (t1 : Unit) (t5 : Int) (t50 : Le) (t51 : Int) (t52 : Int) (b1 : Sa) : Option (((Unit × (Int × CC)) × Mk) ⊕ ((Vs × Mk) ⊕ Ay)) :=
 (cond (decide (t52 < t51))
 (ob (Ic t50 t52) fun x13 =>
 (cond (decide (x13.1 ≥ b1.1.1))
 (some (.inr (.inr ((false, ()), ()))))
 (cond (x13.2.1.1 != 9)
 (cond (decide (x13.2.1.2.2.2.1 ≥ t5))
 (some (.inr (.inr ((false, ()), ()))))
 (some (.inl (((), t5, t50, t51, (wr .i64 (t52 + 1)), ()), (b1, ())))))
 (some (.inl (((), t5, t50, t51, (wr .i64 (t52 + 1)), ()), (b1, ())))))))
 (some (.inr (.inl (((), t5, ()), (b1, ()))))))
def Pk := Ib fun x : ((Unit × (Int × CC)) × Mk) => On x.1.1 x.1.2.1 x.1.2.2.1 x.1.2.2.2.1 x.1.2.2.2.2.1 x.2.1
def Yk (a0 : Sa) : Option We :=
 (ob (Ch a0.1) fun r1 =>
 (cond (!r1.1)
 (some (false, ()))
 (cond (decide (((ln a0.2.1 : Nat) : Int) > 4))
 (some (false, ()))
 (ob (Ek a0.2.2.2.1) fun r2 =>
 (cond (!r2.1)
 (some (false, ()))
 (cond (decide (a0.2.2.2.2.1 < 0))
 (some (false, ()))
 (cond (decide (a0.2.2.2.2.1 > 15))
 (some (false, ()))
 (ob (Ml (((), a0.2.1, ((ln a0.2.1 : Nat) : Int), 0, ()), (a0, ()))) (se (fun y9 => (ob (Pk (((), ((ln y9.2.1.1.2.1 : Nat) : Int), y9.2.1.2.2.2.1, ((ln y9.2.1.2.2.2.1 : Nat) : Int), 0, ()), (y9.2.1, ()))) (se (fun y14 => (cond (decide (y14.2.1.2.2.1 ≥ 0))
 (cond ((2 : Int) == 0)
 none
 (cond ((Int.tmod y14.2.1.2.2.1 2) == 0)
 (cond (decide (0 ≤ y14.1.2.1))
 (some ((decide (y14.2.1.2.2.1 < (Re .i64 1 y14.1.2.1))), ()))
 none)
 (some (false, ()))))
 (some (false, ())))) (fun z15 => (some (z15.1.1, ())))))) (fun z10 => (some (z10.1.1, ()))))))))))))
def Kv (a0 : Aa) (a1 : Ws) : Option (Sa × We) :=
 (ob (Rk a0) fun r1 =>
 (ob (Rn a1) fun r2 =>
 (ob (Yk (r1.1, r2.1, 0, [], 0, false, ())) fun r3 =>
 (cond (!r3.1)
 (some (Ye, false, ()))
 (some ((r1.1, r2.1, 0, [], 0, false, ()), true, ()))))))
def Qk (a0 : Sa) : Option Mk :=
 (ob (Rk a0.1) fun r1 =>
 (ob (Rn a0.2.1) fun r2 =>
 (cond (bl (ln ([] : List Pa) + ln a0.2.2.2.1) Nb)
 (some ((r1.1, r2.1, a0.2.2.1, (ap [] a0.2.2.2.1), a0.2.2.2.2), ()))
 none)))
def Zs (t1 : Int) (t8 : Le) (t9 : Int) (t10 : Int) : Option (AL ⊕ BL) :=
 (cond (decide (t10 < t9))
 (ob (Ic t8 t10) fun x3 =>
 (cond (x3.1 == t1)
 (some (.inr (.inr ((t10, ()), ()))))
 (some (.inl ((t1, t8, t9, (wr .i64 (t10 + 1)), ()), ())))))
 (some (.inr (.inl ((), ())))))
def Cu := Ib fun x : AL => Zs x.1.1 x.1.2.1 x.1.2.2.1 x.1.2.2.2.1
def Jw (a0 : Sa) (a1 : Int) : Option Wi :=
 (ob (Cu ((a1, a0.2.2.2.1, ((ln a0.2.2.2.1 : Nat) : Int), 0, ()), ())) (se (fun y4 => (some ((-1), ()))) (fun z5 => (some (z5.1.1, ())))))
def sort_Ints (x0 : Vd) : Option YK := srt x0
def Dt (t1 : Int) (t7 : Vd) (t8 : Int) (t9 : Int) : Option (Eag ⊕ IA) :=
 (cond (decide (t9 < t8))
 (ob (Ic t7 t9) fun x3 =>
 (cond (x3 == t1)
 (some (.inr (.inr ((true, ()), ()))))
 (some (.inl ((t1, t7, t8, (wr .i64 (t9 + 1)), ()), ())))))
 (some (.inr (.inl ((), ())))))
def Iu := Ib fun x : Eag => Dt x.1.1 x.1.2.1 x.1.2.2.1 x.1.2.2.2.1
def MA (a0 : Vd) (a1 : Int) : Option We :=
 (ob (Iu ((a1, a0, ((ln a0 : Nat) : Int), 0, ()), ())) (se (fun y4 => (some (false, ()))) (fun z5 => (some (z5.1.1, ())))))
def Vq (t4 : Vd) (t11 : Vd) (t12 : Int) (t13 : Int) : Option (GO ⊕ Qaq) :=
 (cond (decide (t13 < t12))
 (cond (Te (ln t11) t13)
 (ob t11[(tn t13)]? fun x9 =>
 (cond (x9 != 0)
 (ob (MA t4 x9) fun r10 =>
 (cond (!r10.1)
 (cond (bl (ln t4 + ln ([x9] : List Int)) Nb)
 (some (.inl (((ap t4 ([x9] : List Int)), t11, t12, (wr .i64 (t13 + 1)), ()), ())))
 none)
 (some (.inl ((t4, t11, t12, (wr .i64 (t13 + 1)), ()), ())))))
 (some (.inl ((t4, t11, t12, (wr .i64 (t13 + 1)), ()), ())))))
 none)
 (some (.inr (.inl ((t4, ()), ())))))
def Ps := Ib fun x : GO => Vq x.1.1 x.1.2.1 x.1.2.2.1 x.1.2.2.2.1
def Gu (a0 : Vd) : Option YK :=
 (ob (Ai a0) fun r1 =>
 (ob (sort_Ints r1.1) fun r2 =>
 (ob (Ps (([], r2.1, ((ln r2.1 : Nat) : Int), 0, ()), ())) (se (fun y11 => (some (y11.1.1, ()))) (fun z12 => none)))))
def Fp (t2 : Unit) (t3 : Unit) (t4 : Vd) (t11 : Le) (t12 : Int) (t13 : Int) (b2 : Ga) (b3 : Ga) : Option (((Unit × (Unit × (Vd × CC))) × Ut) ⊕ Q5) :=
 (cond (decide (t13 < t12))
 (ob (Ic t11 t13) fun x5 =>
 (cond (x5.2.1.1 == 2)
 (cond (bl (ln t4 + ln ([x5.2.1.2.1] : List Int)) Nb)
 (some (.inl (((), (), (ap t4 ([x5.2.1.2.1] : List Int)), t11, t12, (wr .i64 (t13 + 1)), ()), (b2, ((Ed .i64 b3.1 x5.2.1.2.2.1), b3.2.1, ()), ()))))
 none)
 (cond (x5.2.1.1 == 8)
 (cond (bl (ln t4 + ln ([x5.2.1.2.1] : List Int)) Nb)
 (some (.inl (((), (), (ap t4 ([x5.2.1.2.1] : List Int)), t11, t12, (wr .i64 (t13 + 1)), ()), (b2, ((Ed .i64 b3.1 x5.2.1.2.2.1), b3.2.1, ()), ()))))
 none)
 (cond (bl (ln t4 + ln ([x5.2.1.2.1] : List Int)) Nb)
 (some (.inl (((), (), (ap t4 ([x5.2.1.2.1] : List Int)), t11, t12, (wr .i64 (t13 + 1)), ()), (b2, b3, ()))))
 none))))
 (some (.inr (.inl (((), (), t4, ()), (b2, b3, ()))))))
def Sq := Ib fun x : ((Unit × (Unit × (Vd × CC))) × Ut) => Fp x.1.1 x.1.2.1 x.1.2.2.1 x.1.2.2.2.1 x.1.2.2.2.2.1 x.1.2.2.2.2.2.1 x.2.1 x.2.2.1
def Xb (a0 : Le) : Option Nq :=
 (ob (Ek a0) fun r1 =>
 (cond (!r1.1)
 (some ((0, [], ()), ()))
 (ob (Sq (((), (), [], a0, ((ln a0 : Nat) : Int), 0, ()), ((0, [], ()), (0, [], ()), ()))) (se (fun y6 => (ob (Gu y6.1.2.2.1) fun r8 =>
 (some ((y6.2.2.1.1, r8.1, ()), ())))) (fun z7 => none)))))
def Gp (t0 : Vd) (t1 : Vd) (t12 : Int) (t13 : Int) : Option (GO ⊕ IA) :=
 (cond (decide (t13 < t12))
 (ob (Ic t0 t13) fun x5 =>
 (ob (Ic t1 t13) fun x6 =>
 (cond (x5 != x6)
 (some (.inr (.inr ((false, ()), ()))))
 (some (.inl ((t0, t1, t12, (wr .i64 (t13 + 1)), ()), ()))))))
 (some (.inr (.inl ((), ())))))
def Wq := Ib fun x : GO => Gp x.1.1 x.1.2.1 x.1.2.2.1 x.1.2.2.2.1
def Yw (a0 : Vd) (a1 : Vd) : Option We :=
 (cond (((ln a0 : Nat) : Int) != ((ln a1 : Nat) : Int))
 (some (false, ()))
 (ob (Wq ((a0, a1, ((ln a0 : Nat) : Int), 0, ()), ())) (se (fun y7 => (some (true, ()))) (fun z8 => (some (z8.1.1, ()))))))
def Pn (a0 : Ga) (a1 : Ga) : Option We :=
 (cond (a0.1 == a1.1)
 (ob (Yw a0.2.1 a1.2.1) fun r1 =>
 (some (r1.1, ())))
 (some (false, ())))
def Eg (a b : Ga) : Bool := (a.1 == b.1) && (a.2.1 == b.2.1)
def Yaf (c : T Ud → T Ud → Option Bool) (a b : T Ud) : Option We := ob (c a b) fun x => some (x, ())
def Oz (c : T Ud → T Ud → Option Bool) (t2 : Unit) (t5 : (List (Int × ((T .o) × Unit)))) (t8 : (List (Int × ((T .o) × Unit)))) (t9 : Int) (t10 : Int) (b2 : (Int × ((T .o) × Unit))) : Option (((Unit × ((List (Int × ((T .o) × Unit))) × ((List (Int × ((T .o) × Unit))) × Lc))) × ((Int × ((T .o) × Unit)) × Unit)) ⊕ ((((List (Int × ((T .o) × Unit))) × Unit) × Unit) ⊕ Xf)) :=
 (cond (decide (t10 < t9))
 (ob (Ic t8 t10) fun x7 =>
 (ob (Yaf c b2 x7) fun r8 =>
 (cond (!r8.1)
 (cond (bl (ln t5 + ln ([x7] : List (Int × ((T .o) × Unit)))) Nb)
 (some (.inl (((), (ap t5 ([x7] : List (Int × ((T .o) × Unit)))), t8, t9, (wr .i64 (t10 + 1)), ()), (x7, ()))))
 none)
 (some (.inl (((), t5, t8, t9, (wr .i64 (t10 + 1)), ()), (x7, ())))))))
 (some (.inr (.inl ((t5, ()), ())))))
def Vr (c : T Ud → T Ud → Option Bool) (x : ((Unit × ((List (Int × ((T .o) × Unit))) × ((List (Int × ((T .o) × Unit))) × Lc))) × ((Int × ((T .o) × Unit)) × Unit))) : Option ((((List (Int × ((T .o) × Unit))) × Unit) × Unit) ⊕ Xf) := Ib (fun x : ((Unit × ((List (Int × ((T .o) × Unit))) × ((List (Int × ((T .o) × Unit))) × Lc))) × ((Int × ((T .o) × Unit)) × Unit)) => Oz c x.1.1 x.1.2.1 x.1.2.2.1 x.1.2.2.2.1 x.1.2.2.2.2.1 x.2.1) x
def C6 (c : T Ud → T Ud → Option Bool) (a0 : (Int × ((T .o) × Unit))) (a1 : (List (Int × ((T .o) × Unit)))) : Option ((List (Int × ((T .o) × Unit))) × Unit) :=
 (ob (Vr c (((), ([] : List (Int × ((T .o) × Unit))), a1, ((ln a1 : Nat) : Int), 0, ()), (a0, ()))) (se (fun y9 => (some (y9.1.1, ()))) (fun z10 => none)))
def Uc (a0 : Ga) (a1 : List Ga) : Option ZB := B6 Eg a0 a1
def Lu (a0 : Sa) (a1 : Int) : Option (Sa × ZB) :=
 (ob (Qk a0) fun r1 =>
 (ob (Jw a0 a1) fun r2 =>
 (cond (Be (ln r1.1.2.2.2.1) 0 r2.1)
 (cond (Be (ln r1.1.2.2.2.1) (wr .i64 (r2.1 + 1)) ((ln r1.1.2.2.2.1 : Nat) : Int))
 (cond (bl (ln (Cc r1.1.2.2.2.1 (tn 0) (tn r2.1)) + ln (Cc r1.1.2.2.2.1 (tn (wr .i64 (r2.1 + 1))) (tn ((ln r1.1.2.2.2.1 : Nat) : Int)))) Nb)
 (ob (Xb a0.2.2.2.1) fun r3 =>
 (ob (Xb (ap (Cc r1.1.2.2.2.1 (tn 0) (tn r2.1)) (Cc r1.1.2.2.2.1 (tn (wr .i64 (r2.1 + 1))) (tn ((ln r1.1.2.2.2.1 : Nat) : Int))))) fun r4 =>
 (ob (Uc r3.1 ([r4.1] : List Ga)) fun r5 =>
 (some ((r1.1.1, r1.1.2.1, r1.1.2.2.1, (ap (Cc r1.1.2.2.2.1 (tn 0) (tn r2.1)) (Cc r1.1.2.2.2.1 (tn (wr .i64 (r2.1 + 1))) (tn ((ln r1.1.2.2.2.1 : Nat) : Int)))), r1.1.2.2.2.2), r5.1, ())))))
 none)
 none)
 none)))
def Hl (t5 : Int) (t21 : Le) (t22 : Int) (t23 : Int) : Option (AL ⊕ AV) :=
 (cond (decide (t23 < t22))
 (ob (Ic t21 t23) fun x16 =>
 (cond (x16.2.1.1 == 3)
 (cond (decide (0 ≤ x16.2.1.2.2.2.1))
 (some (.inl (((Ed .i64 t5 (Re .i64 1 x16.2.1.2.2.2.1)), t21, t22, (wr .i64 (t23 + 1)), ()), ())))
 none)
 (some (.inl ((t5, t21, t22, (wr .i64 (t23 + 1)), ()), ())))))
 (some (.inr (.inl ((t5, ()), ())))))
def Ih := Ib fun x : AL => Hl x.1.1 x.1.2.1 x.1.2.2.1 x.1.2.2.2.1
def Zk (a0 : Int) (a1 : Le) : Option Wi :=
 (cond (decide (a0 ≥ 0))
 (cond (decide (a0 ≤ 15))
 (ob (Ek a1) fun r1 =>
 (cond (!r1.1)
 (some ((Ed .i64 1 a0), ()))
 (ob (Ih (((Ed .i64 1 a0), a1, ((ln a1 : Nat) : Int), 0, ()), ())) (se (fun y5 => (some (y5.1.1, ()))) (fun z6 => none)))))
 (ob (Ek a1) fun r7 =>
 (cond (!r7.1)
 (some (1, ()))
 (ob (Ih ((1, a1, ((ln a1 : Nat) : Int), 0, ()), ())) (se (fun y11 => (some (y11.1.1, ()))) (fun z12 => none))))))
 (ob (Ek a1) fun r13 =>
 (cond (!r13.1)
 (some (1, ()))
 (ob (Ih ((1, a1, ((ln a1 : Nat) : Int), 0, ()), ())) (se (fun y17 => (some (y17.1.1, ()))) (fun z18 => none))))))
def XC (t1 : Int) (t2 : Int) (t3 : Unit) (t7 : Int) (b3 : Aa) : Option (EV ⊕ BL) :=
 (cond (decide (t7 > 0))
 (ob (Pm t1 t7) fun r7 =>
 (cond (r7.1 == 1)
 (ob (Ic b3.2.1 t7) fun x8 =>
 (ob (Ic x8 t2) fun x9 =>
 (cond (x9.1 != 1)
 (some (.inr (.inr ((t7, ()), ()))))
 (some (.inl ((t1, t2, (), (wr .i64 (t7 - 1)), ()), (b3, ())))))))
 (some (.inl ((t1, t2, (), (wr .i64 (t7 - 1)), ()), (b3, ()))))))
 (some (.inr (.inl ((), ())))))
def Vh := Ib fun x : EV => XC x.1.1 x.1.2.1 x.1.2.2.1 x.1.2.2.2.1 x.2.1
def Ju (a0 : Aa) (a1 : Int) (a2 : Int) : Option Wi :=
 (ob (Vh ((a1, a2, (), (wr .i64 (((ln a0.2.1 : Nat) : Int) - 1)), ()), (a0, ()))) (se (fun y10 => (some (0, ()))) (fun z11 => (some (z11.1.1, ())))))
def HM (a0 : Ba) : Option Cy :=
 (ob (Rp a0) fun r1 =>
 (cond (!r1.1)
 (some (a0, ()))
 (cond (a0.1 == 6)
 (some ((2, 0, a0.2.2.1, 0, ()), ()))
 (some ((3, 0, 0, a0.2.2.2.1, ()), ())))))
def Bt (a0 : Int) : Option We :=
 (cond (decide (a0 ≥ 1))
 (cond (decide (a0 ≤ 36))
 (some (true, ()))
 (cond (a0 == 39)
 (some (true, ()))
 (some ((a0 == 42), ()))))
 (cond (a0 == 39)
 (some (true, ()))
 (some ((a0 == 42), ()))))
def Wr (a0 : Sa) (a1 : Ba) : Option (Sa × Cy) :=
 (cond (a1.1 == 2)
 (cond (a1.2.1 == 0)
 (some (a0, (a1, ())))
 (cond a0.2.2.2.2.2.1
 (ob (Bt a1.2.1) fun r1 =>
 (cond r1.1
 (cond (decide (a1.2.1 ≤ 26))
 (cond ((Zh .i64 (Ed .i64 a1.2.2.1 a0.2.2.2.2.1) 2) == 0)
 (some ((a0.1, a0.2.1, a0.2.2.1, a0.2.2.2.1, 0, r1.1, a0.2.2.2.2.2.2), ((a1.1, a1.2.1, 2, a1.2.2.2), ())))
 (some ((a0.1, a0.2.1, a0.2.2.1, a0.2.2.2.1, 0, r1.1, a0.2.2.2.2.2.2), ((a1.1, a1.2.1, (Ed .i64 a1.2.2.1 a0.2.2.2.2.1), a1.2.2.2), ()))))
 (some ((a0.1, a0.2.1, a0.2.2.1, a0.2.2.2.1, 0, r1.1, a0.2.2.2.2.2.2), ((a1.1, a1.2.1, (Ed .i64 a1.2.2.1 a0.2.2.2.2.1), a1.2.2.2), ()))))
 (some ((a0.1, a0.2.1, a0.2.2.1, a0.2.2.2.1, 0, r1.1, a0.2.2.2.2.2.2), ((a1.1, a1.2.1, (Ed .i64 a1.2.2.1 a0.2.2.2.2.1), a1.2.2.2), ())))))
 (some ((a0.1, a0.2.1, a0.2.2.1, a0.2.2.2.1, 0, false, a0.2.2.2.2.2.2), ((a1.1, a1.2.1, (Ed .i64 a1.2.2.1 a0.2.2.2.2.1), a1.2.2.2), ())))))
 (cond (a1.1 == 4)
 (cond (decide (0 ≤ a1.2.2.2.1))
 (some ((a0.1, a0.2.1, (Py .i64 a0.2.2.1 (Re .i64 1 a1.2.2.2.1)), a0.2.2.2), (a1, ())))
 none)
 (cond (a1.1 == 5)
 (cond (decide (0 ≤ a1.2.2.2.1))
 (some ((a0.1, a0.2.1, (Zh .i64 (Re .i64 1 a1.2.2.2.1) 1), a0.2.2.2), (a1, ())))
 none)
 (cond (a1.1 == 8)
 (cond ((Lk .i64 a0.2.2.2.2.1 a1.2.2.1) == a1.2.2.1)
 (some ((a0.1, a0.2.1, a0.2.2.1, a0.2.2.2.1, (Zh .i64 a0.2.2.2.2.1 a1.2.2.1), a0.2.2.2.2.2), (a1, ())))
 (some ((a0.1, a0.2.1, a0.2.2.1, a0.2.2.2.1, (Ed .i64 a0.2.2.2.2.1 a1.2.2.1), a0.2.2.2.2.2), (a1, ()))))
 (cond (a1.1 == 10)
 (some ((a0.1, a0.2.1, a0.2.2.1, a0.2.2.2.1, a0.2.2.2.2.1, (!a0.2.2.2.2.2.1), a0.2.2.2.2.2.2), (a1, ())))
 (some (a0, (a1, ()))))))))
def QJ (t4 : Unit) (t5 : Unit) (t6 : Vd) (t15 : YB) (t16 : Int) (t17 : Int) (b4 : Ga) (b5 : Ga) : Option (((Unit × (Unit × (Vd × CV))) × Ut) ⊕ Q5) :=
 (cond (decide (t17 < t16))
 (ob (Ic t15 t17) fun x4 =>
 (cond (bl (ln t6 + ln ([x4.1] : List Int)) Nb)
 (some (.inl (((), (), (ap t6 ([x4.1] : List Int)), t15, t16, (wr .i64 (t17 + 1)), ()), (b4, ((Ed .i64 b5.1 x4.2.1), b5.2.1, ()), ()))))
 none))
 (some (.inr (.inl (((), (), t6, ()), (b4, b5, ()))))))
def Rx := Ib fun x : ((Unit × (Unit × (Vd × CV))) × Ut) => QJ x.1.1 x.1.2.1 x.1.2.2.1 x.1.2.2.2.1 x.1.2.2.2.2.1 x.1.2.2.2.2.2.1 x.2.1 x.2.2.1
def Im (a0 : Ga) (a1 : YB) : Option Nq :=
 (ob (Ai a0.2.1) fun r1 =>
 (ob (Rx (((), (), r1.1, a1, ((ln a1 : Nat) : Int), 0, ()), ((0, [], ()), (a0.1, [], ()), ()))) (se (fun y5 => (ob (Gu y5.1.2.2.1) fun r7 =>
 (some ((y5.2.2.1.1, r7.1, ()), ())))) (fun z6 => none))))
def TF (t5 : Unit) (t6 : Gg) (t7 : YB) (t22 : Jl) (t23 : Int) (t24 : Int) (b5 : Ga) : Option (((Unit × (Gg × JV)) × Nq) ⊕ P5) :=
 (cond (decide (t24 < t23))
 (ob (Ic t22 t24) fun x25 =>
 (cond (x25.1 == 0)
 (cond (bl (ln ([] : List Lc) + ln t7) Nb)
 (cond (bl (ln (ap [] t7) + ln ([x25.2] : List Lc)) Nb)
 (ob (Im b5 (ap (ap [] t7) ([x25.2] : List Lc))) fun r26 =>
 (cond (bl (ln t6 + ln ([r26.1] : List Ga)) Nb)
 (ob (Im b5 t7) fun r27 =>
 (cond (bl (ln (ap t6 ([r26.1] : List Ga)) + ln ([r27.1] : List Ga)) Nb)
 (some (.inl (((), (ap (ap t6 ([r26.1] : List Ga)) ([r27.1] : List Ga)), t7, t22, t23, (wr .i64 (t24 + 1)), ()), (b5, ()))))
 none))
 none))
 none)
 none)
 (cond (x25.1 == 1)
 (cond (bl (ln t7 + ln ([x25.2] : List Lc)) Nb)
 (ob (Im b5 (ap t7 ([x25.2] : List Lc))) fun r28 =>
 (cond (bl (ln t6 + ln ([r28.1] : List Ga)) Nb)
 (some (.inl (((), (ap t6 ([r28.1] : List Ga)), (ap t7 ([x25.2] : List Lc)), t22, t23, (wr .i64 (t24 + 1)), ()), (b5, ()))))
 none))
 none)
 (cond (x25.1 == 2)
 (ob (Kw t7 x25.2) fun r29 =>
 (cond (Be (ln t7) 0 r29.1)
 (cond (Be (ln t7) (wr .i64 (r29.1 + 1)) ((ln t7 : Nat) : Int))
 (cond (bl (ln (Cc t7 (tn 0) (tn r29.1)) + ln (Cc t7 (tn (wr .i64 (r29.1 + 1))) (tn ((ln t7 : Nat) : Int)))) Nb)
 (ob (Im b5 (ap (Cc t7 (tn 0) (tn r29.1)) (Cc t7 (tn (wr .i64 (r29.1 + 1))) (tn ((ln t7 : Nat) : Int))))) fun r30 =>
 (cond (bl (ln t6 + ln ([r30.1] : List Ga)) Nb)
 (some (.inl (((), (ap t6 ([r30.1] : List Ga)), (ap (Cc t7 (tn 0) (tn r29.1)) (Cc t7 (tn (wr .i64 (r29.1 + 1))) (tn ((ln t7 : Nat) : Int)))), t22, t23, (wr .i64 (t24 + 1)), ()), (b5, ()))))
 none))
 none)
 none)
 none))
 (ob (Im b5 t7) fun r31 =>
 (cond (bl (ln t6 + ln ([r31.1] : List Ga)) Nb)
 (some (.inl (((), (ap t6 ([r31.1] : List Ga)), t7, t22, t23, (wr .i64 (t24 + 1)), ()), (b5, ()))))
 none))))))
 (some (.inr (.inl ((t6, ()), ())))))
def Fu := Ib fun x : ((Unit × (Gg × JV)) × Nq) => TF x.1.1 x.1.2.1 x.1.2.2.1 x.1.2.2.2.1 x.1.2.2.2.2.1 x.1.2.2.2.2.2.1 x.2.1
def Xv (a0 : Le) (a1 : Jl) : Option ZB :=
 (ob (Ek a0) fun r1 =>
 (cond (!r1.1)
 (some ([], ()))
 (ob (Eu a1) fun r2 =>
 (cond (!r2.1)
 (some ([], ()))
 (ob (Xb a0) fun r3 =>
 (ob (Fu (((), [], [], a1, ((ln a1 : Nat) : Int), 0, ()), (r3.1, ()))) (se (fun y32 => (some (y32.1.1, ()))) (fun z33 => none))))))))
def Ny (a0 : Sa) (a1 : Int) (a2 : Bool) : Option (Sa × ZB) :=
 (ob (Qk a0) fun r1 =>
 (ob (Zk a0.2.2.1 a0.2.2.2.1) fun r2 =>
 (ob (Ju a0.1 r2.1 a1) fun r3 =>
 (ob (Ic a0.1.2.1 r3.1) fun x4 =>
 (ob (Ic x4 a1) fun x5 =>
 (cond a2
 (ob (HM x5) fun r6 =>
 (ob (Wr r1.1 r6.1) fun r7 =>
 (cond (bl (ln r7.1.2.2.2.1 + ln ([(a1, r7.2.1, ())] : List Pa)) Nb)
 (cond (r7.2.1.1 == 9)
 (cond (decide (r7.2.1.2.2.2.1 < ((ln a0.2.1 : Nat) : Int)))
 (ob (Ic a0.2.1 r7.2.1.2.2.2.1) fun x8 =>
 (ob (Xv (ap r7.1.2.2.2.1 ([(a1, r7.2.1, ())] : List Pa)) x8) fun r9 =>
 (ob (Xb (ap r7.1.2.2.2.1 ([(a1, r7.2.1, ())] : List Pa))) fun r10 =>
 (cond (bl (ln r9.1 + ln ([r10.1] : List Ga)) Nb)
 (ob (Xb a0.2.2.2.1) fun r11 =>
 (ob (Uc r11.1 (ap r9.1 ([r10.1] : List Ga))) fun r12 =>
 (some ((r7.1.1, r7.1.2.1, r7.1.2.2.1, (ap r7.1.2.2.2.1 ([(a1, r7.2.1, ())] : List Pa)), r7.1.2.2.2.2), r12.1, ()))))
 none))))
 (ob (Xb (ap r7.1.2.2.2.1 ([(a1, r7.2.1, ())] : List Pa))) fun r13 =>
 (cond (bl (ln ([] : List Ga) + ln ([r13.1] : List Ga)) Nb)
 (ob (Xb a0.2.2.2.1) fun r14 =>
 (ob (Uc r14.1 (ap [] ([r13.1] : List Ga))) fun r15 =>
 (some ((r7.1.1, r7.1.2.1, r7.1.2.2.1, (ap r7.1.2.2.2.1 ([(a1, r7.2.1, ())] : List Pa)), r7.1.2.2.2.2), r15.1, ()))))
 none)))
 (ob (Xb (ap r7.1.2.2.2.1 ([(a1, r7.2.1, ())] : List Pa))) fun r16 =>
 (cond (bl (ln ([] : List Ga) + ln ([r16.1] : List Ga)) Nb)
 (ob (Xb a0.2.2.2.1) fun r17 =>
 (ob (Uc r17.1 (ap [] ([r16.1] : List Ga))) fun r18 =>
 (some ((r7.1.1, r7.1.2.1, r7.1.2.2.1, (ap r7.1.2.2.2.1 ([(a1, r7.2.1, ())] : List Pa)), r7.1.2.2.2.2), r18.1, ()))))
 none)))
 none)))
 (ob (EC x5) fun r19 =>
 (ob (Wr r1.1 r19.1) fun r20 =>
 (cond (bl (ln r20.1.2.2.2.1 + ln ([(a1, r20.2.1, ())] : List Pa)) Nb)
 (cond (r20.2.1.1 == 9)
 (cond (decide (r20.2.1.2.2.2.1 < ((ln a0.2.1 : Nat) : Int)))
 (ob (Ic a0.2.1 r20.2.1.2.2.2.1) fun x21 =>
 (ob (Xv (ap r20.1.2.2.2.1 ([(a1, r20.2.1, ())] : List Pa)) x21) fun r22 =>
 (ob (Xb (ap r20.1.2.2.2.1 ([(a1, r20.2.1, ())] : List Pa))) fun r23 =>
 (cond (bl (ln r22.1 + ln ([r23.1] : List Ga)) Nb)
 (ob (Xb a0.2.2.2.1) fun r24 =>
 (ob (Uc r24.1 (ap r22.1 ([r23.1] : List Ga))) fun r25 =>
 (some ((r20.1.1, r20.1.2.1, r20.1.2.2.1, (ap r20.1.2.2.2.1 ([(a1, r20.2.1, ())] : List Pa)), r20.1.2.2.2.2), r25.1, ()))))
 none))))
 (ob (Xb (ap r20.1.2.2.2.1 ([(a1, r20.2.1, ())] : List Pa))) fun r26 =>
 (cond (bl (ln ([] : List Ga) + ln ([r26.1] : List Ga)) Nb)
 (ob (Xb a0.2.2.2.1) fun r27 =>
 (ob (Uc r27.1 (ap [] ([r26.1] : List Ga))) fun r28 =>
 (some ((r20.1.1, r20.1.2.1, r20.1.2.2.1, (ap r20.1.2.2.2.1 ([(a1, r20.2.1, ())] : List Pa)), r20.1.2.2.2.2), r28.1, ()))))
 none)))
 (ob (Xb (ap r20.1.2.2.2.1 ([(a1, r20.2.1, ())] : List Pa))) fun r29 =>
 (cond (bl (ln ([] : List Ga) + ln ([r29.1] : List Ga)) Nb)
 (ob (Xb a0.2.2.2.1) fun r30 =>
 (ob (Uc r30.1 (ap [] ([r29.1] : List Ga))) fun r31 =>
 (some ((r20.1.1, r20.1.2.1, r20.1.2.2.1, (ap r20.1.2.2.2.1 ([(a1, r20.2.1, ())] : List Pa)), r20.1.2.2.2.2), r31.1, ()))))
 none)))
 none)))))))))
def Ep (t1 : Unit) (t14 : Vd) (t15 : Int) (t16 : Int) (b1 : Ga) : Option ((Dag × Nq) ⊕ IA) :=
 (cond (decide (t16 < t15))
 (ob (Ic t14 t16) fun x7 =>
 (ob (Mo x7) fun r8 =>
 (cond (!r8.1)
 (some (.inr (.inr ((false, ()), ()))))
 (cond (decide (t16 > 0))
 (ob (Ic b1.2.1 (wr .i64 (t16 - 1))) fun x9 =>
 (cond (decide (x9 ≥ x7))
 (some (.inr (.inr ((false, ()), ()))))
 (some (.inl (((), t14, t15, (wr .i64 (t16 + 1)), ()), (b1, ()))))))
 (some (.inl (((), t14, t15, (wr .i64 (t16 + 1)), ()), (b1, ()))))))))
 (some (.inr (.inl ((), ())))))
def Rq := Ib fun x : (Dag × Nq) => Ep x.1.1 x.1.2.1 x.1.2.2.1 x.1.2.2.2.1 x.2.1
def Ww (a0 : Ga) : Option We :=
 (cond (decide (a0.1 < 0))
 (some (false, ()))
 (cond (decide (a0.1 > 15))
 (some (false, ()))
 (ob (Rq (((), a0.2.1, ((ln a0.2.1 : Nat) : Int), 0, ()), (a0, ()))) (se (fun y10 => (some (true, ()))) (fun z11 => (some (z11.1.1, ())))))))
def Ow (a0 : Ba) : Option Cy :=
 (ob (Km a0) fun r1 =>
 (cond (!r1.1)
 (some (a0, ()))
 (cond (a0.1 == 6)
 (some ((2, 0, a0.2.2.1, 0, ()), ()))
 (some ((3, 0, 0, a0.2.2.2.1, ()), ())))))
def Yl (t1 : Unit) (t3 : Int) (t4 : Int) (t5 : Int) (t6 : Int) (b1 : Aa) : Option (((Unit × Ba) × Og) ⊕ ((SD × Og) ⊕ Xf)) :=
 (cond (decide (t6 < b1.1))
 (cond (decide (0 ≤ t5))
 (cond ((Lk .i64 (Mu .i64 t3 t5) 1) == 1)
 (ob (Ic b1.2.1 t5) fun x100 =>
 (ob (Ic x100 t6) fun x101 =>
 (ob (Ow x101) fun r102 =>
 (cond (r102.1.1 == 3)
 (cond (decide (0 ≤ r102.1.2.2.2.1))
 (some (.inl (((), (Ed .i64 t3 (Re .i64 1 r102.1.2.2.2.1)), t4, t5, (wr .i64 (t6 + 1)), ()), (b1, ()))))
 none)
 (cond (r102.1.1 == 4)
 (cond (decide (0 ≤ r102.1.2.2.2.1))
 (some (.inl (((), (Ed .i64 t3 (Re .i64 1 r102.1.2.2.2.1)), t4, t5, (wr .i64 (t6 + 1)), ()), (b1, ()))))
 none)
 (cond (r102.1.1 == 5)
 (cond (decide (0 ≤ r102.1.2.2.2.1))
 (some (.inl (((), (Ed .i64 t3 (Re .i64 1 r102.1.2.2.2.1)), t4, t5, (wr .i64 (t6 + 1)), ()), (b1, ()))))
 none)
 (some (.inl (((), t3, t4, t5, (wr .i64 (t6 + 1)), ()), (b1, ()))))))))))
 (some (.inr (.inl (((), t3, t4, t5, ()), (b1, ()))))))
 none)
 (some (.inr (.inl (((), t3, t4, t5, ()), (b1, ()))))))
def Oj := Ib fun x : ((Unit × Ba) × Og) => Yl x.1.1 x.1.2.1 x.1.2.2.1 x.1.2.2.2.1 x.1.2.2.2.2.1 x.2.1
def Bn (t1 : Unit) (t3 : Int) (t4 : Int) (t5 : Int) (b1 : Aa) : Option ((SD × Og) ⊕ ((OD × Og) ⊕ Xf)) :=
 (cond (decide (t5 < ((ln b1.2.1 : Nat) : Int)))
 (ob (Oj (((), t3, t4, t5, 0, ()), (b1, ()))) (se (fun y103 => (some (.inl (((), y103.1.2.1, y103.1.2.2.1, (wr .i64 (y103.1.2.2.2.1 + 1)), ()), (y103.2.1, ()))))) (fun z104 => (some (.inr (.inr ((), ())))))))
 (some (.inr (.inl (((), t3, t4, ()), (b1, ()))))))
def Jk := Ib fun x : (SD × Og) => Bn x.1.1 x.1.2.1 x.1.2.2.1 x.1.2.2.2.1 x.2.1
def An (t1 : Unit) (t3 : Int) (t4 : Int) (b1 : Aa) : Option ((OD × Og) ⊕ AV) :=
 (cond (decide (t4 < ((ln b1.2.1 : Nat) : Int)))
 (ob (Jk (((), t3, t4, 0, ()), (b1, ()))) (se (fun y105 => (some (.inl (((), y105.1.2.1, (wr .i64 (y105.1.2.2.1 + 1)), ()), (y105.2.1, ()))))) (fun z106 => (some (.inr (.inr ((), ())))))))
 (some (.inr (.inl ((t3, ()), ())))))
def Uo := Ib fun x : (OD × Og) => An x.1.1 x.1.2.1 x.1.2.2.1 x.2.1
def Mt (a0 : Aa) : Option Wi :=
 (ob (Ij a0) fun r1 =>
 (cond (!r1.1)
 (some (0, ()))
 (ob (Uo (((), 1, 0, ()), (a0, ()))) (se (fun y107 => (some (y107.1.1, ()))) (fun z108 => none)))))
def Pl (t1 : Unit) (t3 : Int) (t4 : Int) (t13 : Int) (t14 : Int) (t17 : (List Eh)) (t18 : Int) (t19 : Int) (t24 : Eh) (t25 : Int) (t26 : Int) (b1 : Aa) : Option (((Unit × (Int × (Int × (Int × DV)))) × Og) ⊕ (N5 ⊕ Xf)) :=
 (cond (decide (t26 < t25))
 (ob (Ic t24 t26) fun x161 =>
 (cond (x161.1 == 3)
 (ob (Pm t3 t4) fun r162 =>
 (cond (r162.1 == 1)
 (cond (decide (0 ≤ x161.2.2.2.1))
 (some (.inl (((), (Ed .i64 t3 (Re .i64 1 x161.2.2.2.1)), t4, t13, t14, t17, t18, t19, t24, t25, (wr .i64 (t26 + 1)), ()), (b1, ()))))
 none)
 (some (.inl (((), t3, t4, t13, t14, t17, t18, t19, t24, t25, (wr .i64 (t26 + 1)), ()), (b1, ()))))))
 (cond (x161.1 == 4)
 (ob (Pm t3 t4) fun r163 =>
 (cond (r163.1 == 1)
 (cond (decide (0 ≤ x161.2.2.2.1))
 (some (.inl (((), (Ed .i64 t3 (Re .i64 1 x161.2.2.2.1)), t4, t13, t14, t17, t18, t19, t24, t25, (wr .i64 (t26 + 1)), ()), (b1, ()))))
 none)
 (some (.inl (((), t3, t4, t13, t14, t17, t18, t19, t24, t25, (wr .i64 (t26 + 1)), ()), (b1, ()))))))
 (cond (x161.1 == 5)
 (ob (Pm t3 t4) fun r164 =>
 (cond (r164.1 == 1)
 (cond (decide (0 ≤ x161.2.2.2.1))
 (some (.inl (((), (Ed .i64 t3 (Re .i64 1 x161.2.2.2.1)), t4, t13, t14, t17, t18, t19, t24, t25, (wr .i64 (t26 + 1)), ()), (b1, ()))))
 none)
 (some (.inl (((), t3, t4, t13, t14, t17, t18, t19, t24, t25, (wr .i64 (t26 + 1)), ()), (b1, ()))))))
 (cond (x161.1 == 7)
 (ob (Pm t3 t4) fun r165 =>
 (cond (r165.1 == 1)
 (cond (decide (0 ≤ x161.2.2.2.1))
 (some (.inl (((), (Ed .i64 t3 (Re .i64 1 x161.2.2.2.1)), t4, t13, t14, t17, t18, t19, t24, t25, (wr .i64 (t26 + 1)), ()), (b1, ()))))
 none)
 (some (.inl (((), t3, t4, t13, t14, t17, t18, t19, t24, t25, (wr .i64 (t26 + 1)), ()), (b1, ()))))))
 (some (.inl (((), t3, t4, t13, t14, t17, t18, t19, t24, t25, (wr .i64 (t26 + 1)), ()), (b1, ())))))))))
 (some (.inr (.inl (((), t3, t13, t14, t17, t18, t19, ()), (b1, ()))))))
def Mj := Ib fun x : ((Unit × (Int × (Int × (Int × DV)))) × Og) => Pl x.1.1 x.1.2.1 x.1.2.2.1 x.1.2.2.2.1 x.1.2.2.2.2.1 x.1.2.2.2.2.2.1 x.1.2.2.2.2.2.2.1 x.1.2.2.2.2.2.2.2.1 x.1.2.2.2.2.2.2.2.2.1 x.1.2.2.2.2.2.2.2.2.2.1 x.1.2.2.2.2.2.2.2.2.2.2.1 x.2.1
def Xm (t1 : Unit) (t3 : Int) (t13 : Int) (t14 : Int) (t17 : (List Eh)) (t18 : Int) (t19 : Int) (b1 : Aa) : Option (N5 ⊕ ((SD × Og) ⊕ Xf)) :=
 (cond (decide (t19 < t18))
 (ob (Ic t17 t19) fun x150 =>
 (ob (Mj (((), t3, t19, t13, t14, t17, t18, t19, x150, ((ln x150 : Nat) : Int), 0, ()), (b1, ()))) (se (fun y166 => (some (.inl (((), y166.1.2.1, y166.1.2.2.1, y166.1.2.2.2.1, y166.1.2.2.2.2.1, y166.1.2.2.2.2.2.1, (wr .i64 (y166.1.2.2.2.2.2.2.1 + 1)), ()), (y166.2.1, ()))))) (fun z167 => (some (.inr (.inr ((), ()))))))))
 (some (.inr (.inl (((), t3, t13, t14, ()), (b1, ()))))))
def Fk := Ib fun x : N5 => Xm x.1.1 x.1.2.1 x.1.2.2.1 x.1.2.2.2.1 x.1.2.2.2.2.1 x.1.2.2.2.2.2.1 x.1.2.2.2.2.2.2.1 x.2.1
def Wm (t1 : Unit) (t3 : Int) (t13 : Int) (t14 : Int) (b1 : Aa) : Option ((SD × Og) ⊕ AV) :=
 (cond (decide (t14 < t13))
 (ob (Fk (((), t3, t13, t14, b1.2.1, ((ln b1.2.1 : Nat) : Int), 0, ()), (b1, ()))) (se (fun y168 => (some (.inl (((), y168.1.2.1, y168.1.2.2.1, (wr .i64 (y168.1.2.2.2.1 + 1)), ()), (y168.2.1, ()))))) (fun z169 => (some (.inr (.inr ((), ())))))))
 (some (.inr (.inl ((t3, ()), ())))))
def Jo := Ib fun x : (SD × Og) => Wm x.1.1 x.1.2.1 x.1.2.2.1 x.1.2.2.2.1 x.2.1
def Ct (a0 : Aa) : Option Wi :=
 (ob (Ch a0) fun r1 =>
 (cond (!r1.1)
 (some (0, ()))
 (ob (Jo (((), 1, ((ln a0.2.1 : Nat) : Int), 0, ()), (a0, ()))) (se (fun y170 => (some (y170.1.1, ()))) (fun z171 => none)))))
def ID (t1 : Int) (t2 : Int) (t3 : Unit) (t7 : Int) (b3 : Aa) : Option (EV ⊕ BL) :=
 (cond (decide (t7 > 0))
 (cond (decide (0 ≤ t7))
 (cond ((Lk .i64 (Mu .i64 t1 t7) 1) == 1)
 (ob (Ic b3.2.1 t7) fun x7 =>
 (ob (Ic x7 t2) fun x8 =>
 (cond (x8.1 != 1)
 (some (.inr (.inr ((t7, ()), ()))))
 (some (.inl ((t1, t2, (), (wr .i64 (t7 - 1)), ()), (b3, ())))))))
 (some (.inl ((t1, t2, (), (wr .i64 (t7 - 1)), ()), (b3, ())))))
 none)
 (some (.inr (.inl ((), ())))))
def Wh := Ib fun x : EV => ID x.1.1 x.1.2.1 x.1.2.2.1 x.1.2.2.2.1 x.2.1
def Uy (a0 : Aa) (a1 : Int) (a2 : Int) : Option Wi :=
 (ob (Ij a0) fun r1 =>
 (cond (!r1.1)
 (some ((-1), ()))
 (ob (Of a2 0 (wr .i64 (a0.1 - 1))) fun r2 =>
 (cond (!r2.1)
 (some ((-1), ()))
 (ob (Wh ((a1, a2, (), (wr .i64 (((ln a0.2.1 : Nat) : Int) - 1)), ()), (a0, ()))) (se (fun y9 => (some (0, ()))) (fun z10 => (some (z10.1.1, ())))))))))
def Qr (a0 : Aa) (a1 : Int) (a2 : Int) : Option Cy :=
 (ob (Uy a0 a1 a2) fun r1 =>
 (cond (decide (r1.1 < 0))
 (some ((0, 0, 0, 0, ()), ()))
 (ob (Ic a0.2.1 r1.1) fun x2 =>
 (ob (Ic x2 a2) fun x3 =>
 (some (x3, ()))))))
def As (a0 : Mb) (a1 : Int) : Option (Mb × Cy) :=
 (ob (Za a0 56) fun r1 =>
 (ob (Za r1.1 15) fun r2 =>
 (ob (Zr r2.1 2) fun r3 =>
 (cond r3.2.1
 (ob (Za r3.1 (max 1 (wr .i64 (a1 - 1)))) fun r4 =>
 (ob (Za r4.1 16) fun r5 =>
 (cond (r5.2.1 == 0)
 (some (r5.1, ((2, (wr .i64 (1 + r1.2.1)), 2, 0, ()), ())))
 (cond (r5.2.1 == 1)
 (some (r5.1, ((2, 0, 2, 0, ()), ())))
 (cond (r5.2.1 == 2)
 (some (r5.1, ((6, (wr .i64 (1 + r1.2.1)), 2, 0, ()), ())))
 (cond (r5.2.1 == 3)
 (some (r5.1, ((6, (wr .i64 (1 + r1.2.1)), 2, 0, ()), ())))
 (cond (r5.2.1 == 4)
 (some (r5.1, ((8, 0, 2, 0, ()), ())))
 (cond (r5.2.1 == 5)
 (ob (Za r5.1 4) fun r6 =>
 (some (r6.1, ((9, 0, 0, r6.2.1, ()), ()))))
 (cond (r5.2.1 == 6)
 (some (r5.1, ((10, 0, 0, 0, ()), ())))
 (cond (r5.2.1 == 7)
 (ob (Za r5.1 (max 1 a1)) fun r7 =>
 (some (r7.1, ((5, 0, 0, r7.2.1, ()), ()))))
 (cond (r5.2.1 == 8)
 (cond (decide (a1 > 1))
 (ob (Za r5.1 3) fun r8 =>
 (cond (Te (ln ([(3, 0, 0, (wr .i64 (1 + r4.2.1)), ()), (4, 0, 0, (wr .i64 (1 + r4.2.1)), ()), (7, (wr .i64 (1 + r1.2.1)), 0, (wr .i64 (1 + r4.2.1)), ())] : List Ba)) r8.2.1)
 (ob ([(3, 0, 0, (wr .i64 (1 + r4.2.1)), ()), (4, 0, 0, (wr .i64 (1 + r4.2.1)), ()), (7, (wr .i64 (1 + r1.2.1)), 0, (wr .i64 (1 + r4.2.1)), ())] : List Ba)[(tn r8.2.1)]? fun x9 =>
 (some (r8.1, (x9, ()))))
 none))
 (some (r5.1, ((2, (wr .i64 (1 + r1.2.1)), 0, 0, ()), ()))))
 (cond (r5.2.1 == 9)
 (cond (decide (a1 > 1))
 (ob (Za r5.1 3) fun r10 =>
 (cond (Te (ln ([(3, 0, 0, (wr .i64 (1 + r4.2.1)), ()), (4, 0, 0, (wr .i64 (1 + r4.2.1)), ()), (7, (wr .i64 (1 + r1.2.1)), 0, (wr .i64 (1 + r4.2.1)), ())] : List Ba)) r10.2.1)
 (ob ([(3, 0, 0, (wr .i64 (1 + r4.2.1)), ()), (4, 0, 0, (wr .i64 (1 + r4.2.1)), ()), (7, (wr .i64 (1 + r1.2.1)), 0, (wr .i64 (1 + r4.2.1)), ())] : List Ba)[(tn r10.2.1)]? fun x11 =>
 (some (r10.1, (x11, ()))))
 none))
 (some (r5.1, ((2, (wr .i64 (1 + r1.2.1)), 0, 0, ()), ()))))
 (cond (r5.2.1 == 10)
 (cond (decide (a1 > 1))
 (ob (Za r5.1 3) fun r12 =>
 (cond (Te (ln ([(3, 0, 0, (wr .i64 (1 + r4.2.1)), ()), (4, 0, 0, (wr .i64 (1 + r4.2.1)), ()), (7, (wr .i64 (1 + r1.2.1)), 0, (wr .i64 (1 + r4.2.1)), ())] : List Ba)) r12.2.1)
 (ob ([(3, 0, 0, (wr .i64 (1 + r4.2.1)), ()), (4, 0, 0, (wr .i64 (1 + r4.2.1)), ()), (7, (wr .i64 (1 + r1.2.1)), 0, (wr .i64 (1 + r4.2.1)), ())] : List Ba)[(tn r12.2.1)]? fun x13 =>
 (some (r12.1, (x13, ()))))
 none))
 (some (r5.1, ((2, (wr .i64 (1 + r1.2.1)), 0, 0, ()), ()))))
 (some (r5.1, ((2, (wr .i64 (1 + r1.2.1)), 0, 0, ()), ()))))))))))))))))
 (ob (Za r3.1 (max 1 (wr .i64 (a1 - 1)))) fun r14 =>
 (ob (Za r14.1 16) fun r15 =>
 (cond (r15.2.1 == 0)
 (some (r15.1, ((2, (wr .i64 (1 + r1.2.1)), (wr .i64 (1 + r2.2.1)), 0, ()), ())))
 (cond (r15.2.1 == 1)
 (some (r15.1, ((2, 0, (wr .i64 (1 + r2.2.1)), 0, ()), ())))
 (cond (r15.2.1 == 2)
 (some (r15.1, ((6, (wr .i64 (1 + r1.2.1)), (wr .i64 (1 + r2.2.1)), 0, ()), ())))
 (cond (r15.2.1 == 3)
 (some (r15.1, ((6, (wr .i64 (1 + r1.2.1)), (wr .i64 (1 + r2.2.1)), 0, ()), ())))
 (cond (r15.2.1 == 4)
 (some (r15.1, ((8, 0, (wr .i64 (1 + r2.2.1)), 0, ()), ())))
 (cond (r15.2.1 == 5)
 (ob (Za r15.1 4) fun r16 =>
 (some (r16.1, ((9, 0, 0, r16.2.1, ()), ()))))
 (cond (r15.2.1 == 6)
 (some (r15.1, ((10, 0, 0, 0, ()), ())))
 (cond (r15.2.1 == 7)
 (ob (Za r15.1 (max 1 a1)) fun r17 =>
 (some (r17.1, ((5, 0, 0, r17.2.1, ()), ()))))
 (cond (r15.2.1 == 8)
 (cond (decide (a1 > 1))
 (ob (Za r15.1 3) fun r18 =>
 (cond (Te (ln ([(3, 0, 0, (wr .i64 (1 + r14.2.1)), ()), (4, 0, 0, (wr .i64 (1 + r14.2.1)), ()), (7, (wr .i64 (1 + r1.2.1)), 0, (wr .i64 (1 + r14.2.1)), ())] : List Ba)) r18.2.1)
 (ob ([(3, 0, 0, (wr .i64 (1 + r14.2.1)), ()), (4, 0, 0, (wr .i64 (1 + r14.2.1)), ()), (7, (wr .i64 (1 + r1.2.1)), 0, (wr .i64 (1 + r14.2.1)), ())] : List Ba)[(tn r18.2.1)]? fun x19 =>
 (some (r18.1, (x19, ()))))
 none))
 (some (r15.1, ((2, (wr .i64 (1 + r1.2.1)), 0, 0, ()), ()))))
 (cond (r15.2.1 == 9)
 (cond (decide (a1 > 1))
 (ob (Za r15.1 3) fun r20 =>
 (cond (Te (ln ([(3, 0, 0, (wr .i64 (1 + r14.2.1)), ()), (4, 0, 0, (wr .i64 (1 + r14.2.1)), ()), (7, (wr .i64 (1 + r1.2.1)), 0, (wr .i64 (1 + r14.2.1)), ())] : List Ba)) r20.2.1)
 (ob ([(3, 0, 0, (wr .i64 (1 + r14.2.1)), ()), (4, 0, 0, (wr .i64 (1 + r14.2.1)), ()), (7, (wr .i64 (1 + r1.2.1)), 0, (wr .i64 (1 + r14.2.1)), ())] : List Ba)[(tn r20.2.1)]? fun x21 =>
 (some (r20.1, (x21, ()))))
 none))
 (some (r15.1, ((2, (wr .i64 (1 + r1.2.1)), 0, 0, ()), ()))))
 (cond (r15.2.1 == 10)
 (cond (decide (a1 > 1))
 (ob (Za r15.1 3) fun r22 =>
 (cond (Te (ln ([(3, 0, 0, (wr .i64 (1 + r14.2.1)), ()), (4, 0, 0, (wr .i64 (1 + r14.2.1)), ()), (7, (wr .i64 (1 + r1.2.1)), 0, (wr .i64 (1 + r14.2.1)), ())] : List Ba)) r22.2.1)
 (ob ([(3, 0, 0, (wr .i64 (1 + r14.2.1)), ()), (4, 0, 0, (wr .i64 (1 + r14.2.1)), ()), (7, (wr .i64 (1 + r1.2.1)), 0, (wr .i64 (1 + r14.2.1)), ())] : List Ba)[(tn r22.2.1)]? fun x23 =>
 (some (r22.1, (x23, ()))))
 none))
 (some (r15.1, ((2, (wr .i64 (1 + r1.2.1)), 0, 0, ()), ()))))
 (some (r15.1, ((2, (wr .i64 (1 + r1.2.1)), 0, 0, ()), ()))))))))))))))))))))
def Az (t0 : Unit) (t1 : Int) (t4 : Unit) (t5 : Int) (t6 : Unit) (t7 : Int) (t8 : Eh) (t9 : Int) (b500000 : Mb) (b4 : Aa) (b6 : Aa) : Option (Fag ⊕ (((Unit × (Int × (Unit × (Int × (Unit × (Int × (Eh × Unit))))))) × AC) ⊕ Xf)) :=
 (cond (decide (t9 < t1))
 (ob (As b500000 t5) fun r30 =>
 (cond (decide (t7 > 0))
 (ob (Zr r30.1 3) fun r31 =>
 (cond r31.2.1
 (cond (bl (ln t8 + ln ([(1, 0, 0, 0, ())] : List Ba)) Nb)
 (some (.inl (((), t1, (), t5, (), t7, (ap t8 ([(1, 0, 0, 0, ())] : List Ba)), (wr .i64 (t9 + 1)), ()), (r31.1, b4, b6, ()))))
 none)
 (cond (bl (ln t8 + ln ([r30.2.1] : List Ba)) Nb)
 (some (.inl (((), t1, (), t5, (), t7, (ap t8 ([r30.2.1] : List Ba)), (wr .i64 (t9 + 1)), ()), (r31.1, b4, b6, ()))))
 none)))
 (cond (bl (ln t8 + ln ([r30.2.1] : List Ba)) Nb)
 (some (.inl (((), t1, (), t5, (), t7, (ap t8 ([r30.2.1] : List Ba)), (wr .i64 (t9 + 1)), ()), (r30.1, b4, b6, ()))))
 none)))
 (some (.inr (.inl (((), t1, (), t5, (), t7, t8, ()), (b500000, b4, b6, ()))))))
def Bv := Ib fun x : Fag => Az x.1.1 x.1.2.1 x.1.2.2.1 x.1.2.2.2.1 x.1.2.2.2.2.1 x.1.2.2.2.2.2.1 x.1.2.2.2.2.2.2.1 x.1.2.2.2.2.2.2.2.1 x.2.1 x.2.2.1 x.2.2.2.1
def Zy (t0 : Unit) (t1 : Int) (t4 : Unit) (t5 : Int) (t6 : Unit) (t7 : Int) (b500000 : Mb) (b4 : Aa) (b6 : Aa) : Option (((Unit × (Int × (Unit × LO))) × AC) ⊕ ((R5 × AC) ⊕ Xf)) :=
 (cond (decide (t7 < t5))
 (ob (Bv (((), t1, (), t5, (), t7, [], 0, ()), (b500000, b4, b6, ()))) (se (fun y32 => (cond (bl (ln y32.2.2.2.1.2.1 + ln ([y32.1.2.2.2.2.2.2.1] : List Eh)) Nb)
 (some (.inl (((), y32.1.2.1, (), y32.1.2.2.2.1, (), (wr .i64 (y32.1.2.2.2.2.2.1 + 1)), ()), (y32.2.1, y32.2.2.1, (y32.2.2.2.1.1, (ap y32.2.2.2.1.2.1 ([y32.1.2.2.2.2.2.2.1] : List Eh)), ()), ()))))
 none)) (fun z33 => (some (.inr (.inr ((), ())))))))
 (some (.inr (.inl (((), (), (), ()), (b500000, b4, b6, ()))))))
def Av := Ib fun x : ((Unit × (Int × (Unit × LO))) × AC) => Zy x.1.1 x.1.2.1 x.1.2.2.1 x.1.2.2.2.1 x.1.2.2.2.2.1 x.1.2.2.2.2.2.1 x.2.1 x.2.2.1 x.2.2.2.1
def Pw (a0 : Mb) (a1 : Int) : Option (Mb × Og) :=
 (ob (Za a0 4) fun r1 =>
 (ob (Av (((), a1, (), (wr .i64 (1 + r1.2.1)), (), 0, ()), (r1.1, (0, [], ()), (a1, [], ()), ()))) (se (fun y34 => (some (y34.2.1, (y34.2.2.2.1, ())))) (fun z35 => none))))
def Mx (t0 : Unit) (t1 : Int) (t4 : Unit) (t5 : Unit) (t6 : Int) (b500000 : Mb) (b4 : Aa) (b5 : Aa) : Option (((Unit × (Int × QD)) × AC) ⊕ ((R5 × AC) ⊕ Xf)) :=
 (cond (decide (t6 > 0))
 (ob (Za b500000 ((ln b5.2.1 : Nat) : Int)) fun r15 =>
 (ob (Za r15.1 t1) fun r16 =>
 (cond (decide (((ln b5.2.1 : Nat) : Int) > 1))
 (cond (Te (ln b5.2.1) r15.2.1)
 (ob b5.2.1[(tn r15.2.1)]? fun x17 =>
 (ob (Mi r16.1 ([4, 5, 3] : List Int)) fun r18 =>
 (ob (Za r18.1 (wr .i64 (((ln b5.2.1 : Nat) : Int) - 1))) fun r19 =>
 (cond (Te (ln x17) r16.2.1)
 (ob x17[(tn r16.2.1)]? fun x20 =>
 (some (.inl (((), t1, (), (), (wr .i64 (t6 - 1)), ()), (r19.1, b4, (b5.1, (ls b5.2.1 (tn r15.2.1) (ls x17 (tn r16.2.1) (r18.2.1, 0, 0, (wr .i64 (1 + r19.2.1)), ()))), ()), ())))))
 none))))
 none)
 (some (.inl (((), t1, (), (), (wr .i64 (t6 - 1)), ()), (r16.1, b4, b5, ())))))))
 (some (.inr (.inl (((), (), (), ()), (b500000, b4, b5, ()))))))
def Ss := Ib fun x : ((Unit × (Int × QD)) × AC) => Mx x.1.1 x.1.2.1 x.1.2.2.1 x.1.2.2.2.1 x.1.2.2.2.2.1 x.2.1 x.2.2.1 x.2.2.2.1
def Yu (a0 : Mb) (a1 : Int) : Option (Mb × Og) :=
 (ob (Pw a0 a1) fun r1 =>
 (ob (Za r1.1 6) fun r2 =>
 (ob (Ss (((), a1, (), (), r2.2.1, ()), (r2.1, (0, [], ()), r1.2.1, ()))) (se (fun y21 => (some (y21.2.1, (y21.2.2.2.1, ())))) (fun z22 => none)))))
def Ot (t1 : Unit) (t2 : Unit) (t3 : Unit) (t4 : Int) (b1 : Aa) (b2 : Aa) (b3 : Aa) : Option ((GV × (Aa × Mq)) ⊕ KV) :=
 (cond (decide (t4 < ((ln b1.2.1 : Nat) : Int)))
 (ob (Ic b1.2.1 t4) fun x4 =>
 (cond (bl (ln ([] : List Ba) + ln x4) Nb)
 (cond (bl (ln b3.2.1 + ln ([(ap [] x4)] : List Eh)) Nb)
 (some (.inl (((), (), (), (wr .i64 (t4 + 1)), ()), (b1, b2, (b3.1, (ap b3.2.1 ([(ap [] x4)] : List Eh)), ()), ()))))
 none)
 none))
 (some (.inr (.inl (((), (), ()), (b2, b3, ()))))))
def Zu := Ib fun x : (GV × (Aa × Mq)) => Ot x.1.1 x.1.2.1 x.1.2.2.1 x.1.2.2.2.1 x.2.1 x.2.2.1 x.2.2.2.1
def Bs (a0 : Aa) : Option Og :=
 (ob (Zu (((), (), (), 0, ()), (a0, (0, [], ()), (a0.1, [], ()), ()))) (se (fun y5 => (some (y5.2.2.1, ()))) (fun z6 => none)))
def Kh (t1 : Unit) (t2 : Unit) (t3 : Unit) (t4 : Int) (t5 : Int) (t6 : Int) (b1 : Aa) (b2 : Aa) (b3 : Aa) : Option (((Unit × (Unit × SD)) × (Aa × Mq)) ⊕ (O5 ⊕ Xf)) :=
 (cond (decide (t6 < b1.1))
 (cond (decide (0 ≤ t5))
 (cond ((Lk .i64 (Mu .i64 t4 t5) 1) == 0)
 (cond (Te (ln b3.2.1) t5)
 (ob b3.2.1[(tn t5)]? fun x31 =>
 (cond (Te (ln x31) t6)
 (ob x31[(tn t6)]? fun x32 =>
 (some (.inl (((), (), (), t4, t5, (wr .i64 (t6 + 1)), ()), (b1, b2, (b3.1, (ls b3.2.1 (tn t5) (ls x31 (tn t6) (1, 0, 0, 0, ()))), ()), ())))))
 none))
 none)
 (some (.inr (.inl (((), (), (), t4, t5, ()), (b1, b2, b3, ()))))))
 none)
 (some (.inr (.inl (((), (), (), t4, t5, ()), (b1, b2, b3, ()))))))
def Nh := Ib fun x : ((Unit × (Unit × SD)) × (Aa × Mq)) => Kh x.1.1 x.1.2.1 x.1.2.2.1 x.1.2.2.2.1 x.1.2.2.2.2.1 x.1.2.2.2.2.2.1 x.2.1 x.2.2.1 x.2.2.2.1
def Jh (t1 : Unit) (t2 : Unit) (t3 : Unit) (t4 : Int) (t5 : Int) (b1 : Aa) (b2 : Aa) (b3 : Aa) : Option (O5 ⊕ KV) :=
 (cond (decide (t5 < ((ln b1.2.1 : Nat) : Int)))
 (cond (decide (t4 > 0))
 (ob (Nh (((), (), (), t4, t5, 0, ()), (b1, b2, b3, ()))) (se (fun y33 => (some (.inl (((), (), (), y33.1.2.2.2.1, (wr .i64 (y33.1.2.2.2.2.1 + 1)), ()), y33.2)))) (fun z34 => (some (.inr (.inr ((), ())))))))
 (some (.inr (.inl (((), (), ()), (b2, b3, ()))))))
 (some (.inr (.inl (((), (), ()), (b2, b3, ()))))))
def Pj := Ib fun x : O5 => Jh x.1.1 x.1.2.1 x.1.2.2.1 x.1.2.2.2.1 x.1.2.2.2.2.1 x.2.1 x.2.2.1 x.2.2.2.1
def Er (a0 : Aa) : Option Og :=
 (ob (Bs a0) fun r1 =>
 (ob (Mt a0) fun r2 =>
 (ob (Pj (((), (), (), r2.1, 0, ()), (a0, (0, [], ()), r1.1, ()))) (se (fun y35 => (some (y35.2.2.1, ()))) (fun z36 => none)))))
def HC (a0 : Mb) : Option (Mb × Cy) :=
 (ob (As a0 4) fun r1 =>
 (ob (Za r1.1 12) fun r2 =>
 (cond (r2.2.1 == 0)
 (ob (Za r2.1 13) fun r3 =>
 (some (r3.1, (((wr .i64 (r3.2.1 - 1)), r1.2.1.2), ()))))
 (cond (r2.2.1 == 1)
 (ob (Mi r2.1 ([(-1), 0, 56, 57] : List Int)) fun r4 =>
 (some (r4.1, ((r1.2.1.1, r4.2.1, r1.2.1.2.2), ()))))
 (cond (r2.2.1 == 2)
 (ob (Mi r2.1 ([(-1), 0, 15, 16] : List Int)) fun r5 =>
 (some (r5.1, ((r1.2.1.1, r1.2.1.2.1, r5.2.1, r1.2.1.2.2.2), ()))))
 (cond (r2.2.1 == 3)
 (ob (Mi r2.1 ([(-1), 0, 3, 4] : List Int)) fun r6 =>
 (some (r6.1, ((r1.2.1.1, r1.2.1.2.1, r1.2.1.2.2.1, r6.2.1, r1.2.1.2.2.2.2), ()))))
 (some (r2.1, (r1.2.1, ())))))))))
def IC (a0 : Mb) : Option (Mb × Og) :=
 (ob (Za a0 4) fun r1 =>
 (ob (Pw r1.1 (wr .i64 (1 + r1.2.1))) fun r2 =>
 (ob (Za r2.1 ((ln r2.2.1.2.1 : Nat) : Int)) fun r3 =>
 (ob (Za r3.1 16) fun r4 =>
 (cond (r4.2.1 == 0)
 (ob (Mi r4.1 ([0, (-1), 3, 33] : List Int)) fun r5 =>
 (some (r5.1, ((r5.2.1, r2.2.1.2), ()))))
 (cond (r4.2.1 == 1)
 (cond (Te (ln r2.2.1.2.1) r3.2.1)
 (ob r2.2.1.2.1[(tn r3.2.1)]? fun x6 =>
 (ob (HC r4.1) fun r7 =>
 (cond (Te (ln x6) 0)
 (ob x6[(tn 0)]? fun x8 =>
 (some (r7.1, ((r2.2.1.1, (ls r2.2.1.2.1 (tn r3.2.1) (ls x6 (tn 0) r7.2.1)), ()), ()))))
 none)))
 none)
 (cond (r4.2.1 == 2)
 (cond (Te (ln r2.2.1.2.1) r3.2.1)
 (ob r2.2.1.2.1[(tn r3.2.1)]? fun x9 =>
 (cond (Be (ln x9) 1 ((ln x9 : Nat) : Int))
 (cond (Te (ln r2.2.1.2.1) r3.2.1)
 (ob r2.2.1.2.1[(tn r3.2.1)]? fun x10 =>
 (some (r4.1, ((r2.2.1.1, (ls r2.2.1.2.1 (tn r3.2.1) (Cc x9 (tn 1) (tn ((ln x9 : Nat) : Int)))), ()), ()))))
 none)
 none))
 none)
 (cond (r4.2.1 == 3)
 (cond (Te (ln r2.2.1.2.1) 0)
 (ob r2.2.1.2.1[(tn 0)]? fun x11 =>
 (cond (Te (ln x11) 0)
 (ob x11[(tn 0)]? fun x12 =>
 (some (r4.1, ((r2.2.1.1, (ls r2.2.1.2.1 (tn 0) (ls x11 (tn 0) (1, 0, 0, 0, ()))), ()), ()))))
 none))
 none)
 (cond (r4.2.1 == 4)
 (cond (Te (ln r2.2.1.2.1) 0)
 (ob r2.2.1.2.1[(tn 0)]? fun x13 =>
 (cond (Te (ln r2.2.1.2.1) 0)
 (ob r2.2.1.2.1[(tn 0)]? fun x14 =>
 (cond (bl (ln r2.2.1.2.1 + ln ([x13, x14] : List Eh)) Nb)
 (some (r4.1, ((r2.2.1.1, (ap r2.2.1.2.1 ([x13, x14] : List Eh)), ()), ())))
 none))
 none))
 none)
 (cond (r4.2.1 == 5)
 (cond (Be (ln r2.2.1.2.1) 0 r3.2.1)
 (some (r4.1, ((r2.2.1.1, (Cc r2.2.1.2.1 (tn 0) (tn r3.2.1)), ()), ())))
 none)
 (some (r4.1, (r2.2.1, ())))))))))))))
def PA (a0 : Mb) : Option AC :=
 (ob (Za a0 3) fun r1 =>
 (ob (Yu r1.1 (wr .i64 (1 + r1.2.1))) fun r2 =>
 (ob (Bs r2.2.1) fun r3 =>
 (ob (Za r2.1 6) fun r4 =>
 (cond (r4.2.1 == 0)
 (ob (Er r2.2.1) fun r5 =>
 (some (r4.1, (r2.2.1, r5.1, ()))))
 (cond (r4.2.1 == 1)
 (ob (Za r4.1 ((ln r3.1.2.1 : Nat) : Int)) fun r6 =>
 (cond (Te (ln r3.1.2.1) r6.2.1)
 (ob r3.1.2.1[(tn r6.2.1)]? fun x7 =>
 (ob (Za r6.1 r3.1.1) fun r8 =>
 (ob (As r8.1 ((ln r3.1.2.1 : Nat) : Int)) fun r9 =>
 (cond (Te (ln x7) r8.2.1)
 (ob x7[(tn r8.2.1)]? fun x10 =>
 (some (r9.1, (r2.2.1, (r3.1.1, (ls r3.1.2.1 (tn r6.2.1) (ls x7 (tn r8.2.1) r9.2.1)), ()), ()))))
 none))))
 none))
 (cond (r4.2.1 == 2)
 (ob (Yu r4.1 r2.2.1.1) fun r11 =>
 (some (r11.1, (r2.2.1, r11.2.1, ()))))
 (cond (r4.2.1 == 3)
 (ob (IC r4.1) fun r12 =>
 (some (r12.1, (r2.2.1, r12.2.1, ()))))
 (cond (r4.2.1 == 4)
 (ob (Za r4.1 ((ln r3.1.2.1 : Nat) : Int)) fun r13 =>
 (ob (Za r13.1 r3.1.1) fun r14 =>
 (ob r3.1.2.1[(tn r13.2.1)]? fun x15 =>
 (cond (Te (ln r3.1.2.1) r13.2.1)
 (cond (qv (tn r13.2.1) (tn r13.2.1))
 (cond (Te (ln r3.1.2.1) r13.2.1)
 (cond (qv (tn r13.2.1) (tn r13.2.1))
 (cond (Te (ln x15) r14.2.1)
 (ob x15[(tn r14.2.1)]? fun x16 =>
 (ob (Vy x16) fun r17 =>
 (cond (Te (ln x15) r14.2.1)
 (ob x15[(tn r14.2.1)]? fun x18 =>
 (some (r14.1, (r2.2.1, (r3.1.1, (ls r3.1.2.1 (tn r13.2.1) (ls x15 (tn r14.2.1) r17.1)), ()), ()))))
 none)))
 none)
 none)
 none)
 none)
 none))))
 (some (r4.1, (r2.2.1, r3.1, ()))))))))))))
def Uk (a0 : Vd) : Option Mq :=
 (ob (Yy a0) fun r1 =>
 (ob (PA r1) fun r2 =>
 (some r2.2)))
def Ks (t0 : Int) (t3 : Lq) (t12 : PD) (t13 : Int) (t14 : Int) : Option (((Int × (Lq × (PD × Lc))) × Unit) ⊕ ((JO × Unit) ⊕ Xf)) :=
 (cond (decide (t14 < t13))
 (cond (Te (ln t12) t14)
 (ob t12[(tn t14)]? fun x5 =>
 (ob (Pm t0 t14) fun r6 =>
 (cond (r6.1 == 1)
 (cond (bl (ln t3 + ln x5) Nb)
 (some (.inl ((t0, (ap t3 x5), t12, t13, (wr .i64 (t14 + 1)), ()), ())))
 none)
 (some (.inl ((t0, t3, t12, t13, (wr .i64 (t14 + 1)), ()), ()))))))
 none)
 (some (.inr (.inl ((t3, ()), ())))))
def Io := Ib fun x : ((Int × (Lq × (PD × Lc))) × Unit) => Ks x.1.1 x.1.2.1 x.1.2.2.1 x.1.2.2.2.1 x.1.2.2.2.2.1
def Ys (a0 : Int) : Option JO :=
 (cond (decide (a0 < 1))
 (some ([], ()))
 (cond (decide (a0 > 15))
 (some ([], ()))
 (ob (Io ((a0, [], ([([67] : List UInt8), ([83] : List UInt8), ([65] : List UInt8), ([71] : List UInt8)] : List Lq), ((ln ([([67] : List UInt8), ([83] : List UInt8), ([65] : List UInt8), ([71] : List UInt8)] : List Lq) : Nat) : Int), 0, ()), ())) (se (fun y7 => (some (y7.1.1, ()))) (fun z8 => none)))))
def strings_Join (a : List Lq) (b : List UInt8) : Option (List UInt8 × Unit) := QV a b
def Xw (a0 : PD) (a1 : Lq) : Option JO :=
 (ob (strings_Join a0 a1) fun r1 =>
 (some (r1.1, ())))
def Ok (t1 : Unit) (t3 : PD) (t10 : Vd) (t11 : Int) (t12 : Int) (b1 : Ga) : Option (((Unit × (PD × QG)) × Nq) ⊕ (((Unit × Raq) × Nq) ⊕ Xf)) :=
 (cond (decide (t12 < t11))
 (ob (Ic t10 t12) fun x8 =>
 (ob (Vw x8) fun r9 =>
 (cond (bl (ln t3 + ln ([r9.1] : List Lq)) Nb)
 (some (.inl (((), (ap t3 ([r9.1] : List Lq)), t10, t11, (wr .i64 (t12 + 1)), ()), (b1, ()))))
 none)))
 (some (.inr (.inl (((), t3, ()), (b1, ()))))))
def Nm := Ib fun x : ((Unit × (PD × QG)) × Nq) => Ok x.1.1 x.1.2.1 x.1.2.2.1 x.1.2.2.2.1 x.1.2.2.2.2.1 x.2.1
def Bp (a0 : Ga) : Option JO :=
 (ob (Ww a0) fun r1 =>
 (cond (!r1.1)
 (some ([], ()))
 (ob (Nm (((), [], a0.2.1, ((ln a0.2.1 : Nat) : Int), 0, ()), (a0, ()))) (se (fun y10 => (ob (Ys y10.2.1.1) fun r12 =>
 (cond (bl (ln r12.1 + ln ([58] : List UInt8)) Nb)
 (ob (Xw y10.1.2.1 ([44] : List UInt8)) fun r13 =>
 (cond (bl (ln (ap r12.1 ([58] : List UInt8)) + ln r13.1) Nb)
 (some ((ap (ap r12.1 ([58] : List UInt8)) r13.1), ()))
 none))
 none))) (fun z11 => none)))))
def Sk (t0 : Unit) (t3 : Unit) (t7 : Unit) (t8 : Zo) (t12 : Unit) (t14 : Lq) (t43 : Int) (t44 : Int) (t61 : Gg) (t62 : Int) (t63 : Int) (b500000 : Is) (b3 : Oc) (b7 : Sa) (b12 : Sa) : Option (Bag ⊕ (((Unit × (Unit × (Unit × (Zo × (Unit × (Lq × Lc)))))) × (Is × (Oc × Iv))) ⊕ Xf)) :=
 (cond (decide (t63 < t62))
 (cond (Te (ln t61) t63)
 (ob t61[(tn t63)]? fun x37 =>
 (ob (Bp x37) fun r38 =>
 (cond (bl (ln r38.1 + ln ([59] : List UInt8)) Nb)
 (cond (bl (ln t14 + ln (ap r38.1 ([59] : List UInt8))) Nb)
 (some (.inl (((), (), (), t8, (), (ap t14 (ap r38.1 ([59] : List UInt8))), t43, t44, (ls t61 (tn t63) x37), t62, (wr .i64 (t63 + 1)), ()), ((b500000.1, b500000.2.1, ()), b3, b7, ((b12.1.1, b12.1.2.1, ()), b12.2), ()))))
 none)
 none)))
 none)
 (some (.inr (.inl (((), (), (), t8, (), t14, t43, t44, ()), ((b500000.1, b500000.2.1, ()), b3, b7, ((b12.1.1, b12.1.2.1, ()), b12.2), ()))))))
def Yi := Ib fun x : Bag => Sk x.1.1 x.1.2.1 x.1.2.2.1 x.1.2.2.2.1 x.1.2.2.2.2.1 x.1.2.2.2.2.2.1 x.1.2.2.2.2.2.2.1 x.1.2.2.2.2.2.2.2.1 x.1.2.2.2.2.2.2.2.2.1 x.1.2.2.2.2.2.2.2.2.2.1 x.1.2.2.2.2.2.2.2.2.2.2.1 x.2.1 x.2.2.1 x.2.2.2.1 x.2.2.2.2.1
def Rl (t0 : Unit) (t3 : Unit) (t7 : Unit) (t8 : Zo) (t43 : Int) (t44 : Int) (b500000 : Is) (b3 : Oc) (b7 : Sa) : Option (Gag ⊕ (((Unit × (Unit × (Zo × Unit))) × (Is × Oaq)) ⊕ Xf)) :=
 (cond (decide (t44 < t43))
 (ob (Ny b7 t44 false) fun r31 =>
 (ob (Lu r31.1 t44) fun r32 =>
 (cond (bl (ln r31.2.1 + ln r32.2.1) Nb)
 (ob (Yi (((), (), (), t8, (), [], t43, t44, (ap r31.2.1 r32.2.1), ((ln (ap r31.2.1 r32.2.1) : Nat) : Int), 0, ()), ((b500000.1, b500000.2.1, ()), b3, b7, r32.1, ()))) (se (fun y39 => (cond (bl (ln y39.1.2.2.2.1 + ln ([((y39.2.2.2.2.1.2.2.1, y39.2.2.2.2.1.2.2.2.2.1, y39.2.2.2.2.1.2.2.2.2.2.1, ()), y39.1.2.2.2.2.2.1, ())] : List Mp)) Nb)
 (some (.inl (((), (), (), (ap y39.1.2.2.2.1 ([((y39.2.2.2.2.1.2.2.1, y39.2.2.2.2.1.2.2.2.2.1, y39.2.2.2.2.1.2.2.2.2.2.1, ()), y39.1.2.2.2.2.2.1, ())] : List Mp)), y39.1.2.2.2.2.2.2.1, (wr .i64 (y39.1.2.2.2.2.2.2.2.1 + 1)), ()), ((y39.2.1.1, y39.2.1.2.1, ()), y39.2.2.1, y39.2.2.2.1, ()))))
 none)) (fun z40 => (some (.inr (.inr ((), ())))))))
 none)))
 (some (.inr (.inl (((), (), t8, ()), ((b500000.1, b500000.2.1, ()), b3, ()))))))
def Gn := Ib fun x : Gag => Rl x.1.1 x.1.2.1 x.1.2.2.1 x.1.2.2.2.1 x.1.2.2.2.2.1 x.1.2.2.2.2.2.1 x.2.1 x.2.2.1 x.2.2.2.1
def Qm (a0 : Aa) (a1 : RI) (a2 : Oc) : Option (Aa × (RI × Zo)) :=
 (cond (Ge Ad a1 a2).isSome
 (some (a0, (a1, ((Ge Ad a1 a2).getD []))))
 (ob (Gn (((), (), (), [], a0.1, 0, ()), ((a0, a1, ()), a2, (a0, [], a2.1, [], a2.2.1, a2.2.2.1, ()), ()))) (se (fun y41 => (some (y41.2.1.1, ((Gk Ad y41.2.1.2.1 y41.2.2.1 y41.1.2.2.1), y41.1.2.2.1)))) (fun z42 => none))))
def Yh (t2 : Unit) (t6 : Unit) (t7 : Unit) (t8 : SG) (t9 : (List Hc)) (t10 : Unit) (t11 : Zo) (t12 : Zo) (t64 : Int) (t65 : Int) (b2 : Aa) (b6 : Is) (b7 : Is) (b10 : Hc) : Option (ZU ⊕ (((Unit × (Unit × (Unit × (SG × ((List Hc) × (Unit × (Zo × (Zo × Unit)))))))) × (Aa × (Is × (Is × (Hc × Unit))))) ⊕ FV)) :=
 (cond (decide (t65 < t64))
 (ob (Ic t11 t65) fun x62 =>
 (ob (Ic t12 t65) fun x63 =>
 (cond (x62.2.1 != x63.2.1)
 (ob (Ai ((Ge Ce t8 b10).getD [])) fun r64 =>
 (cond (bl (ln r64.1 + ln ([t65] : List Int)) Nb)
 (some (.inr (.inr (((ap r64.1 ([t65] : List Int)), true, ()), ()))))
 none))
 (some (.inl (((), (), (), t8, t9, (), t11, t12, t64, (wr .i64 (t65 + 1)), ()), (b2, (b6.1, b6.2.1, ()), (b7.1, b7.2.1, ()), b10, ())))))))
 (some (.inr (.inl (((), (), (), t8, t9, (), t11, t12, ()), (b2, (b6.1, b6.2.1, ()), (b7.1, b7.2.1, ()), b10, ()))))))
def Qi := Ib fun x : ZU => Yh x.1.1 x.1.2.1 x.1.2.2.1 x.1.2.2.2.1 x.1.2.2.2.2.1 x.1.2.2.2.2.2.1 x.1.2.2.2.2.2.2.1 x.1.2.2.2.2.2.2.2.1 x.1.2.2.2.2.2.2.2.2.1 x.1.2.2.2.2.2.2.2.2.2.1 x.2.1 x.2.2.1 x.2.2.2.1 x.2.2.2.2.1
def Dk (t2 : Unit) (t6 : Unit) (t7 : Unit) (t8 : SG) (t9 : (List Hc)) (t10 : Unit) (t11 : Zo) (t12 : Zo) (t88 : Int) (t89 : Int) (b2 : Aa) (b6 : Is) (b7 : Is) (b10 : Hc) : Option (ZU ⊕ (K5 ⊕ Xf)) :=
 (cond (decide (t89 < t88))
 (ob (Ic t11 t89) fun x73 =>
 (ob (Ic t12 t89) fun x74 =>
 (cond (!(Ge Ce t8 (x73.1, x74.1, ())).isSome)
 (ob (Ai ((Ge Ce t8 b10).getD [])) fun r75 =>
 (cond (bl (ln r75.1 + ln ([t89] : List Int)) Nb)
 (cond (bl (ln t9 + ln ([(x73.1, x74.1, ())] : List Hc)) Nb)
 (some (.inl (((), (), (), (Gk Ce t8 (x73.1, x74.1, ()) (ap r75.1 ([t89] : List Int))), (ap t9 ([(x73.1, x74.1, ())] : List Hc)), (), t11, t12, t88, (wr .i64 (t89 + 1)), ()), (b2, (b6.1, b6.2.1, ()), (b7.1, b7.2.1, ()), b10, ()))))
 none)
 none))
 (some (.inl (((), (), (), t8, t9, (), t11, t12, t88, (wr .i64 (t89 + 1)), ()), (b2, (b6.1, b6.2.1, ()), (b7.1, b7.2.1, ()), b10, ())))))))
 (some (.inr (.inl (((), (), (), t8, t9, ()), (b2, (b6.1, b6.2.1, ()), (b7.1, b7.2.1, ()), ()))))))
def Ri := Ib fun x : ZU => Dk x.1.1 x.1.2.1 x.1.2.2.1 x.1.2.2.2.1 x.1.2.2.2.2.1 x.1.2.2.2.2.2.1 x.1.2.2.2.2.2.2.1 x.1.2.2.2.2.2.2.2.1 x.1.2.2.2.2.2.2.2.2.1 x.1.2.2.2.2.2.2.2.2.2.1 x.2.1 x.2.2.1 x.2.2.2.1 x.2.2.2.2.1
def Nk (t2 : Unit) (t6 : Unit) (t7 : Unit) (t8 : SG) (t9 : (List Hc)) (b2 : Aa) (b6 : Is) (b7 : Is) : Option (K5 ⊕ (Xf ⊕ FV)) :=
 (cond (decide (((ln t9 : Nat) : Int) > 0))
 (cond (Te (ln t9) 0)
 (ob t9[(tn 0)]? fun x53 =>
 (cond (Be (ln t9) 1 ((ln t9 : Nat) : Int))
 (ob (Qm b6.1 b6.2.1 x53.1) fun r54 =>
 (ob (Qm b7.1 b7.2.1 x53.2.1) fun r55 =>
 (ob (Qi (((), (), (), t8, (Cc t9 (tn 1) (tn ((ln t9 : Nat) : Int))), (), r54.2.2, r55.2.2, b2.1, 0, ()), (b2, (r54.1, r54.2.1, ()), (r55.1, r55.2.1, ()), x53, ()))) (se (fun y65 => (ob (Ri (((), (), (), y65.1.2.2.2.1, y65.1.2.2.2.2.1, (), y65.1.2.2.2.2.2.2.1, y65.1.2.2.2.2.2.2.2.1, y65.2.1.1, 0, ()), (y65.2.1, (y65.2.2.1.1, y65.2.2.1.2.1, ()), (y65.2.2.2.1.1, y65.2.2.2.1.2.1, ()), y65.2.2.2.2.1, ()))) (se (fun y76 => (some (.inl (((), (), (), y76.1.2.2.2.1, y76.1.2.2.2.2.1, ()), (y76.2.1, (y76.2.2.1.1, y76.2.2.1.2.1, ()), (y76.2.2.2.1.1, y76.2.2.2.1.2.1, ()), ()))))) (fun z77 => none)))) (fun z66 => (some (.inr (.inr ((z66.1.1, z66.1.2.1, ()), ())))))))))
 none))
 none)
 (some (.inr (.inl ((), ())))))
def Sf := Ib fun x : K5 => Nk x.1.1 x.1.2.1 x.1.2.2.1 x.1.2.2.2.1 x.1.2.2.2.2.1 x.2.1 x.2.2.1 x.2.2.2.1
def Gl (a0 : Aa) (a1 : Aa) : Option (Vd × We) :=
 (ob (Ch a0) fun r1 =>
 (cond (!r1.1)
 (some ([], false, ()))
 (ob (Ch a1) fun r2 =>
 (cond (!r2.1)
 (some ([], false, ()))
 (cond (a0.1 != a1.1)
 (some ([], false, ()))
 (cond (decide (a0.1 > 6))
 (some ([], false, ()))
 (ob (Sf (((), (), (), (Gk Ce ([] : SG) ((0, 0, false, ()), (0, 0, false, ()), ()) []), ([((0, 0, false, ()), (0, 0, false, ()), ())] : List Hc), ()), (a0, (a0, ([] : RI), ()), (a1, ([] : RI), ()), ()))) (se (fun y78 => (some ([], false, ()))) (fun z79 => (some (z79.1.1, z79.1.2.1, ())))))))))))
def Je (a0 : Aa) (a1 : Aa) : Option We :=
 (ob (Ch a0) fun r1 =>
 (cond (!r1.1)
 (some (false, ()))
 (ob (Ch a1) fun r2 =>
 (cond (!r2.1)
 (some (false, ()))
 (cond (a0.1 != a1.1)
 (some (false, ()))
 (cond (decide (a0.1 > 6))
 (some (false, ()))
 (ob (Gl a0 a1) fun r3 =>
 (some ((!r3.2.1), ())))))))))
def Ly (a0 : Sa) (a1 : Int) (a2 : Bool) : Option KO :=
 (ob (Yk a0) fun r1 =>
 (cond (!r1.1)
 (some (Ye, [], false, ()))
 (cond (decide (a1 < 0))
 (some (Ye, [], false, ()))
 (cond (decide (a1 ≥ a0.1.1))
 (some (Ye, [], false, ()))
 (ob (Jw a0 a1) fun r2 =>
 (cond (decide (r2.1 ≥ 0))
 (some (Ye, [], false, ()))
 (ob (Ny a0 a1 a2) fun r3 =>
 (some (r3.1, r3.2.1, true, ())))))))))
def Uq (t4 : Unit) (t7 : Unit) (t8 : Gg) (t20 : Vd) (t21 : Int) (t22 : Int) (b4 : Sa) (b7 : Sa) : Option (((Unit × (Unit × (Gg × QG))) × Iv) ⊕ (((Unit × (Unit × ZB)) × Iv) ⊕ ((Unit × (Gg × We)) × Mk))) :=
 (cond (decide (t22 < t21))
 (ob (Ic t20 t22) fun x12 =>
 (ob (Ly b7 x12 false) fun r13 =>
 (cond (!r13.2.2.1)
 (some (.inr (.inr (((), [], false, ()), (Ye, ())))))
 (cond (bl (ln t8 + ln r13.2.1) Nb)
 (ob (Lu r13.1 x12) fun r14 =>
 (cond (bl (ln (ap t8 r13.2.1) + ln r14.2.1) Nb)
 (some (.inl (((), (), (ap (ap t8 r13.2.1) r14.2.1), t20, t21, (wr .i64 (t22 + 1)), ()), (b4, r14.1, ()))))
 none))
 none))))
 (some (.inr (.inl (((), (), t8, ()), (b4, b7, ()))))))
def Ns := Ib fun x : ((Unit × (Unit × (Gg × QG))) × Iv) => Uq x.1.1 x.1.2.1 x.1.2.2.1 x.1.2.2.2.1 x.1.2.2.2.2.1 x.1.2.2.2.2.2.1 x.2.1 x.2.2.1
def My (a0 : Sa) (a1 : Vd) : Option KO :=
 (ob (Yk a0) fun r1 =>
 (cond (!r1.1)
 (some (Ye, [], false, ()))
 (ob (Qk a0) fun r2 =>
 (ob (Ns (((), (), [], a1, ((ln a1 : Nat) : Int), 0, ()), (Ye, r2.1, ()))) (se (fun y15 => (some (y15.2.2.1, y15.1.2.2.1, true, ()))) (fun z16 => (some (z16.2.1, z16.1.2.1, z16.1.2.2.1, ()))))))))
def Ac (a0 : Aa) (a1 : Vd) : Option (Gg × We) :=
 (ob (Kv a0 []) fun r1 =>
 (cond (!r1.2.1)
 (some ([], false, ()))
 (ob (My r1.1 a1) fun r2 =>
 (some r2.2))))
def Hp (t0 : Vd) (t1 : Vd) (t5 : Int) : Option (((Vd × BV) × Unit) ⊕ IA) :=
 (cond (decide (t5 < ((ln t0 : Nat) : Int)))
 (ob (Ic t0 t5) fun x5 =>
 (ob (Ic t1 t5) fun x6 =>
 (cond (x5 != x6)
 (some (.inr (.inr ((false, ()), ()))))
 (some (.inl ((t0, t1, (wr .i64 (t5 + 1)), ()), ()))))))
 (some (.inr (.inl ((), ())))))
def Yq := Ib fun x : ((Vd × BV) × Unit) => Hp x.1.1 x.1.2.1 x.1.2.2.1
def Pr (a0 : Vd) (a1 : Vd) : Option We :=
 (cond (((ln a0 : Nat) : Int) != ((ln a1 : Nat) : Int))
 (some (false, ()))
 (ob (Yq ((a0, a1, 0, ()), ())) (se (fun y7 => (some (true, ()))) (fun z8 => (some (z8.1.1, ()))))))
def Sl (t0 : Gg) (t1 : Gg) (t5 : Int) : Option (HV ⊕ IA) :=
 (cond (decide (t5 < ((ln t0 : Nat) : Int)))
 (ob (Ic t0 t5) fun x11 =>
 (ob (Ic t1 t5) fun x12 =>
 (cond (x11.1 != x12.1)
 (some (.inr (.inr ((false, ()), ()))))
 (ob (Ic t0 t5) fun x13 =>
 (ob (Ic t1 t5) fun x14 =>
 (ob (Pr x13.2.1 x14.2.1) fun r15 =>
 (cond (!r15.1)
 (some (.inr (.inr ((false, ()), ()))))
 (some (.inl ((t0, t1, (wr .i64 (t5 + 1)), ()), ()))))))))))
 (some (.inr (.inl ((), ())))))
def Hn := Ib fun x : HV => Sl x.1.1 x.1.2.1 x.1.2.2.1
def Xc (a0 : Gg) (a1 : Gg) : Option We :=
 (cond (((ln a0 : Nat) : Int) != ((ln a1 : Nat) : Int))
 (some (false, ()))
 (ob (Hn ((a0, a1, 0, ()), ())) (se (fun y16 => (some (true, ()))) (fun z17 => (some (z17.1.1, ()))))))
def Kt (t0 : Le) (t3 : Int) (t4 : Int) : Option ((CC × Unit) ⊕ IA) :=
 (cond (decide (t4 < ((ln t0 : Nat) : Int)))
 (ob (Ic t0 t4) fun x15 =>
 (ob (Ic t0 t4) fun x16 =>
 (ob (Of x16.1 0 31) fun r17 =>
 (cond (!r17.1)
 (some (.inr (.inr ((false, ()), ()))))
 (ob (Ic t0 t4) fun x18 =>
 (cond (decide (0 ≤ x18.1))
 (cond ((Lk .i64 (Mu .i64 t3 x18.1) 1) == 1)
 (some (.inr (.inr ((false, ()), ()))))
 (ob (Hj x15.2.1) fun r19 =>
 (cond (!r19.1)
 (some (.inr (.inr ((false, ()), ()))))
 (cond (x15.2.1.1 == 1)
 (some (.inr (.inr ((false, ()), ()))))
 (ob (Km x15.2.1) fun r20 =>
 (cond r20.1
 (some (.inr (.inr ((false, ()), ()))))
 (ob (Ic t0 t4) fun x21 =>
 (cond (decide (0 ≤ x21.1))
 (some (.inl ((t0, (Ed .i64 t3 (Re .i64 1 x21.1)), (wr .i64 (t4 + 1)), ()), ())))
 none))))))))
 none))))))
 (some (.inr (.inl ((), ())))))
def Vu := Ib fun x : (CC × Unit) => Kt x.1.1 x.1.2.1 x.1.2.2.1
def To (a0 : Le) : Option We :=
 (ob (Vu ((a0, 0, 0, ()), ())) (se (fun y22 => (some (true, ()))) (fun z23 => (some (z23.1.1, ())))))
def Pt (t0 : Le) (t3 : Unit) (t5 : Int) (b3 : Fe) : Option (((Le × Vs) × Aag) ⊕ BL) :=
 (cond (decide (t5 < ((ln t0 : Nat) : Int)))
 (ob (Ic t0 t5) fun x5 =>
 (cond (x5.2.1.2.1 == b3.2.1)
 (ob (Ic t0 t5) fun x6 =>
 (cond (x6.2.1.2.2.1 == b3.2.2.1)
 (some (.inr (.inr ((t5, ()), ()))))
 (some (.inl ((t0, (), (wr .i64 (t5 + 1)), ()), (b3, ()))))))
 (some (.inl ((t0, (), (wr .i64 (t5 + 1)), ()), (b3, ()))))))
 (some (.inr (.inl ((), ())))))
def Cv := Ib fun x : ((Le × Vs) × Aag) => Pt x.1.1 x.1.2.1 x.1.2.2.1 x.2.1
def Cs (a0 : Le) (a1 : Fe) : Option Wi :=
 (ob (Cv ((a0, (), 0, ()), (a1, ()))) (se (fun y7 => (some ((-1), ()))) (fun z8 => (some (z8.1.1, ())))))
def Sr (a0 : Fe) : Option Cy :=
 (some ((2, a0.2.1, a0.2.2.1, 0, ()), ()))
def Ng (a0 : Le) (a1 : Int) : Option (Le × Unit) :=
 (cond (Be (ln a0) 0 a1)
 (cond (bl (ln ([] : List Pa) + ln (Cc a0 (tn 0) (tn a1))) Nb)
 (cond (Be (ln a0) (wr .i64 (a1 + 1)) ((ln a0 : Nat) : Int))
 (cond (bl (ln (ap [] (Cc a0 (tn 0) (tn a1))) + ln (Cc a0 (tn (wr .i64 (a1 + 1))) (tn ((ln a0 : Nat) : Int)))) Nb)
 (some ((ap (ap [] (Cc a0 (tn 0) (tn a1))) (Cc a0 (tn (wr .i64 (a1 + 1))) (tn ((ln a0 : Nat) : Int)))), ()))
 none)
 none)
 none)
 none)
def Vm (t0 : Jl) (t3 : Le) (t4 : Int) : Option (((Jl × (Le × Wi)) × Unit) ⊕ (((Jl × (Le × Unit)) × Unit) ⊕ Ay)) :=
 (cond (decide (t4 < ((ln t0 : Nat) : Int)))
 (ob (Ic t0 t4) fun x15 =>
 (ob (Cs t3 x15) fun r16 =>
 (ob (Of x15.1 0 2) fun r17 =>
 (cond (!r17.1)
 (some (.inr (.inr ((false, ()), ()))))
 (ob (Sr x15) fun r18 =>
 (ob (Hj r18.1) fun r19 =>
 (cond (!r19.1)
 (some (.inr (.inr ((false, ()), ()))))
 (cond ((x15.1 == 2) != (decide (r16.1 ≥ 0)))
 (some (.inr (.inr ((false, ()), ()))))
 (cond (x15.1 == 1)
 (ob (Sr x15) fun r20 =>
 (cond (bl (ln t3 + ln ([(0, r20.1, ())] : List Pa)) Nb)
 (some (.inl ((t0, (ap t3 ([(0, r20.1, ())] : List Pa)), (wr .i64 (t4 + 1)), ()), ())))
 none))
 (cond (x15.1 == 2)
 (ob (Ng t3 r16.1) fun r21 =>
 (some (.inl ((t0, r21.1, (wr .i64 (t4 + 1)), ()), ()))))
 (some (.inl ((t0, t3, (wr .i64 (t4 + 1)), ()), ())))))))))))))
 (some (.inr (.inl ((t0, t3, ()), ())))))
def Qs := Ib fun x : ((Jl × (Le × Wi)) × Unit) => Vm x.1.1 x.1.2.1 x.1.2.2.1
def Wu (a0 : Jl) : Option We :=
 (ob (Qs ((a0, [], 0, ()), ())) (se (fun y22 => (cond (decide (((ln y22.1.1 : Nat) : Int) ≤ 8))
 (some ((((ln y22.1.2.1 : Nat) : Int) == 0), ()))
 (some (false, ())))) (fun z23 => (some (z23.1.1, ())))))
def Jp (t1 : Unit) (t3 : Int) (b1 : Sa) : Option ((Vs × Mk) ⊕ ((Xf × Mk) ⊕ Ay)) :=
 (cond (decide (t3 < ((ln b1.2.1 : Nat) : Int)))
 (ob (Ic b1.2.1 t3) fun x7 =>
 (ob (Wu x7) fun r8 =>
 (cond (!r8.1)
 (some (.inr (.inr ((false, ()), ()))))
 (some (.inl (((), (wr .i64 (t3 + 1)), ()), (b1, ())))))))
 (some (.inr (.inl (((), ()), (b1, ()))))))
def Tl := Ib fun x : (Vs × Mk) => Jp x.1.1 x.1.2.1 x.2.1
def Kp (t1 : Unit) (t4 : Int) (b1 : Sa) : Option ((Vs × Mk) ⊕ ((Xf × Mk) ⊕ Ay)) :=
 (cond (decide (t4 < ((ln b1.2.2.2.1 : Nat) : Int)))
 (ob (Ic b1.2.2.2.1 t4) fun x17 =>
 (cond (decide (x17.1 ≥ b1.1.1))
 (some (.inr (.inr ((false, ()), ()))))
 (ob (Ic b1.2.2.2.1 t4) fun x18 =>
 (cond (x18.2.1.1 != 9)
 (ob (Ic b1.2.2.2.1 t4) fun x19 =>
 (cond (decide (x19.2.1.2.2.2.1 ≥ ((ln b1.1.2.1 : Nat) : Int)))
 (some (.inr (.inr ((false, ()), ()))))
 (some (.inl (((), (wr .i64 (t4 + 1)), ()), (b1, ()))))))
 (some (.inl (((), (wr .i64 (t4 + 1)), ()), (b1, ()))))))))
 (some (.inr (.inl (((), ()), (b1, ()))))))
def Ul := Ib fun x : (Vs × Mk) => Kp x.1.1 x.1.2.1 x.2.1
def Bi (a0 : Sa) : Option We :=
 (ob (Ij a0.1) fun r1 =>
 (cond (!r1.1)
 (some (false, ()))
 (cond (decide (((ln a0.2.1 : Nat) : Int) > 4))
 (some (false, ()))
 (ob (To a0.2.2.2.1) fun r2 =>
 (cond (!r2.1)
 (some (false, ()))
 (ob (Tl (((), 0, ()), (a0, ()))) (se (fun y9 => (ob (Ul (((), 0, ()), (y9.2.1, ()))) (se (fun y20 => (cond (decide (0 ≤ ((ln y20.2.1.1.2.1 : Nat) : Int)))
 (ob (Of y20.2.1.2.2.1 0 (wr .i64 ((Re .i64 1 ((ln y20.2.1.1.2.1 : Nat) : Int)) - 1))) fun r22 =>
 (cond r22.1
 (cond ((2 : Int) == 0)
 none
 (cond ((Int.tmod y20.2.1.2.2.1 2) == 0)
 (ob (Of y20.2.1.2.2.2.2.1 0 15) fun r23 =>
 (some (r23.1, ())))
 (some (false, ()))))
 (some (false, ()))))
 none)) (fun z21 => (some (z21.1.1, ())))))) (fun z10 => (some (z10.1.1, ()))))))))))
def Qt (t1 : Unit) (t2 : Unit) (t3 : Unit) (t4 : Int) (b1 : Sa) (b2 : Sa) (b3 : Sa) : Option ((GV × (Sa × Iv)) ⊕ ((R5 × (Sa × Iv)) ⊕ Xf)) :=
 (cond (decide (t4 < ((ln b1.2.1 : Nat) : Int)))
 (ob (Ic b1.2.1 t4) fun x4 =>
 (cond (bl (ln ([] : List Fe) + ln x4) Nb)
 (cond (bl (ln b3.2.1 + ln ([(ap [] x4)] : List Jl)) Nb)
 (some (.inl (((), (), (), (wr .i64 (t4 + 1)), ()), (b1, b2, (b3.1, (ap b3.2.1 ([(ap [] x4)] : List Jl)), b3.2.2), ()))))
 none)
 none))
 (some (.inr (.inl (((), (), (), ()), (b1, b2, b3, ()))))))
def Dv := Ib fun x : (GV × (Sa × Iv)) => Qt x.1.1 x.1.2.1 x.1.2.2.1 x.1.2.2.2.1 x.2.1 x.2.2.1 x.2.2.2.1
def Fm (a0 : Sa) : Option Mk :=
 (ob (Bs a0.1) fun r1 =>
 (ob (Dv (((), (), (), 0, ()), (a0, Ye, (r1.1, [], a0.2.2), ()))) (se (fun y5 => (cond (bl (ln ([] : List Pa) + ln y5.2.1.2.2.2.1) Nb)
 (some ((y5.2.2.2.1.1, y5.2.2.2.1.2.1, y5.2.2.2.1.2.2.1, (ap [] y5.2.1.2.2.2.1), y5.2.2.2.1.2.2.2.2), ()))
 none)) (fun z6 => none))))
def Wp (a0 : Aa) (a1 : Ws) : Option (Sa × We) :=
 (ob (Bi (a0, a1, 0, [], 0, false, ())) fun r1 =>
 (cond (!r1.1)
 (some (Ye, false, ()))
 (ob (Fm (a0, a1, 0, [], 0, false, ())) fun r2 =>
 (some (r2.1, true, ())))))
def Jt (t1 : Int) (t2 : Unit) (t5 : Int) (b2 : Sa) : Option ((LO × Mk) ⊕ BL) :=
 (cond (decide (t5 < ((ln b2.2.2.2.1 : Nat) : Int)))
 (ob (Ic b2.2.2.2.1 t5) fun x3 =>
 (cond (x3.1 == t1)
 (some (.inr (.inr ((t5, ()), ()))))
 (some (.inl ((t1, (), (wr .i64 (t5 + 1)), ()), (b2, ()))))))
 (some (.inr (.inl ((), ())))))
def Uu := Ib fun x : (LO × Mk) => Jt x.1.1 x.1.2.1 x.1.2.2.1 x.2.1
def Nw (a0 : Sa) (a1 : Int) : Option Wi :=
 (ob (Uu ((a1, (), 0, ()), (a0, ()))) (se (fun y4 => (some ((-1), ()))) (fun z5 => (some (z5.1.1, ())))))
def WB (t1 : Le) (t5 : Int) (t6 : Int) : Option ((CC × Unit) ⊕ AV) :=
 (cond (decide (t6 < ((ln t1 : Nat) : Int)))
 (ob (To t1) fun r19 =>
 (cond r19.1
 (ob (Ic t1 t6) fun x20 =>
 (cond (x20.2.1.1 == 3)
 (ob (Ic t1 t6) fun x21 =>
 (cond (decide (0 ≤ x21.2.1.2.2.2.1))
 (some (.inl ((t1, (Ed .i64 t5 (Re .i64 1 x21.2.1.2.2.2.1)), (wr .i64 (t6 + 1)), ()), ())))
 none))
 (some (.inl ((t1, t5, (wr .i64 (t6 + 1)), ()), ())))))
 (some (.inr (.inl ((t5, ()), ()))))))
 (some (.inr (.inl ((t5, ()), ())))))
def Xl := Ib fun x : (CC × Unit) => WB x.1.1 x.1.2.1 x.1.2.2.1
def Rr (a0 : Int) (a1 : Le) : Option Wi :=
 (ob (Of a0 0 15) fun r1 =>
 (cond r1.1
 (ob (Xl ((a1, (Ed .i64 1 a0), 0, ()), ())) (se (fun y11 => (some (y11.1.1, ()))) (fun z12 => none)))
 (ob (Xl ((a1, 1, 0, ()), ())) (se (fun y22 => (some (y22.1.1, ()))) (fun z23 => none)))))
def Lt (a0 : Int) : Option We :=
 (ob (Of a0 1 36) fun r1 =>
 (cond r1.1
 (some (true, ()))
 (cond (a0 == 39)
 (some (true, ()))
 (some ((a0 == 42), ())))))
def WH (a0 : Sa) (a1 : Ba) : Option (Sa × Cy) :=
 (ob (Lt a1.2.1) fun r1 =>
 (cond (!r1.1)
 (some ((a0.1, a0.2.1, a0.2.2.1, a0.2.2.2.1, 0, false, a0.2.2.2.2.2.2), ((a1.1, a1.2.1, (Ed .i64 a1.2.2.1 a0.2.2.2.2.1), a1.2.2.2), ())))
 (cond a0.2.2.2.2.2.1
 (cond (decide (a1.2.1 ≤ 26))
 (cond ((Zh .i64 (Ed .i64 a1.2.2.1 a0.2.2.2.2.1) 2) == 0)
 (some ((a0.1, a0.2.1, a0.2.2.1, a0.2.2.2.1, 0, a0.2.2.2.2.2), ((a1.1, a1.2.1, 2, a1.2.2.2), ())))
 (some ((a0.1, a0.2.1, a0.2.2.1, a0.2.2.2.1, 0, a0.2.2.2.2.2), ((a1.1, a1.2.1, (Ed .i64 a1.2.2.1 a0.2.2.2.2.1), a1.2.2.2), ()))))
 (some ((a0.1, a0.2.1, a0.2.2.1, a0.2.2.2.1, 0, a0.2.2.2.2.2), ((a1.1, a1.2.1, (Ed .i64 a1.2.2.1 a0.2.2.2.2.1), a1.2.2.2), ()))))
 (some ((a0.1, a0.2.1, a0.2.2.1, a0.2.2.2.1, 0, a0.2.2.2.2.2), ((a1.1, a1.2.1, (Ed .i64 a1.2.2.1 a0.2.2.2.2.1), a1.2.2.2), ()))))))
def Ln (a0 : Sa) (a1 : Ba) : Option (Sa × Cy) :=
 (cond (a1.1 == 2)
 (cond (decide (a1.2.1 > 0))
 (ob (WH a0 a1) fun r1 =>
 (some (r1.1, (r1.2.1, ()))))
 (some (a0, (a1, ()))))
 (cond (a1.1 == 4)
 (cond (decide (0 ≤ a1.2.2.2.1))
 (some ((a0.1, a0.2.1, (Py .i64 a0.2.2.1 (Re .i64 1 a1.2.2.2.1)), a0.2.2.2), (a1, ())))
 none)
 (cond (a1.1 == 5)
 (cond (decide (0 ≤ a1.2.2.2.1))
 (some ((a0.1, a0.2.1, (Zh .i64 (Re .i64 1 a1.2.2.2.1) 1), a0.2.2.2), (a1, ())))
 none)
 (cond (a1.1 == 8)
 (cond ((Lk .i64 a0.2.2.2.2.1 a1.2.2.1) == a1.2.2.1)
 (some ((a0.1, a0.2.1, a0.2.2.1, a0.2.2.2.1, (Zh .i64 a0.2.2.2.2.1 a1.2.2.1), a0.2.2.2.2.2), (a1, ())))
 (some ((a0.1, a0.2.1, a0.2.2.1, a0.2.2.2.1, (Ed .i64 a0.2.2.2.2.1 a1.2.2.1), a0.2.2.2.2.2), (a1, ()))))
 (cond (a1.1 == 10)
 (some ((a0.1, a0.2.1, a0.2.2.1, a0.2.2.2.1, a0.2.2.2.2.1, (!a0.2.2.2.2.2.1), a0.2.2.2.2.2.2), (a1, ())))
 (some (a0, (a1, ()))))))))
def Lp (t0 : Le) (t2 : Unit) (t3 : Unit) (t4 : Int) (b2 : Ga) (b3 : Ga) : Option (RG ⊕ (((Le × HO) × Ut) ⊕ Xf)) :=
 (cond (decide (t4 < ((ln t0 : Nat) : Int)))
 (ob (Ic t0 t4) fun x10 =>
 (cond (x10.2.1.1 == 2)
 (ob (Ic t0 t4) fun x11 =>
 (some (.inl ((t0, (), (), (wr .i64 (t4 + 1)), ()), (b2, ((Ed .i64 b3.1 x11.2.1.2.2.1), b3.2.1, ()), ())))))
 (ob (Ic t0 t4) fun x12 =>
 (cond (x12.2.1.1 == 8)
 (ob (Ic t0 t4) fun x13 =>
 (some (.inl ((t0, (), (), (wr .i64 (t4 + 1)), ()), (b2, ((Ed .i64 b3.1 x13.2.1.2.2.1), b3.2.1, ()), ())))))
 (some (.inl ((t0, (), (), (wr .i64 (t4 + 1)), ()), (b2, b3, ()))))))))
 (some (.inr (.inl ((t0, (), (), ()), (b2, b3, ()))))))
def Gr := Ib fun x : RG => Lp x.1.1 x.1.2.1 x.1.2.2.1 x.1.2.2.2.1 x.2.1 x.2.2.1
def Xn (t0 : Le) (t2 : Unit) (t3 : Unit) (t5 : Int) (t6 : Int) (b2 : Ga) (b3 : Ga) : Option (((Le × (Unit × OD)) × Ut) ⊕ (RG ⊕ Xf)) :=
 (cond (decide (t6 < ((ln t0 : Nat) : Int)))
 (ob (Ic t0 t6) fun x28 =>
 (cond (x28.2.1.2.1 == t5)
 (cond (bl (ln b3.2.1 + ln ([t5] : List Int)) Nb)
 (some (.inr (.inl ((t0, (), (), t5, ()), (b2, (b3.1, (ap b3.2.1 ([t5] : List Int)), ()), ())))))
 none)
 (some (.inl ((t0, (), (), t5, (wr .i64 (t6 + 1)), ()), (b2, b3, ()))))))
 (some (.inr (.inl ((t0, (), (), t5, ()), (b2, b3, ()))))))
def Vk := Ib fun x : ((Le × (Unit × OD)) × Ut) => Xn x.1.1 x.1.2.1 x.1.2.2.1 x.1.2.2.2.1 x.1.2.2.2.2.1 x.2.1 x.2.2.1
def Wn (t0 : Le) (t2 : Unit) (t3 : Unit) (t5 : Int) (b2 : Ga) (b3 : Ga) : Option (RG ⊕ ((HO × Ut) ⊕ Xf)) :=
 (cond (decide (t5 ≤ 56))
 (ob (Vk ((t0, (), (), t5, 0, ()), (b2, b3, ()))) (se (fun y29 => (some (.inl ((y29.1.1, (), (), (wr .i64 (y29.1.2.2.2.1 + 1)), ()), y29.2)))) (fun z30 => (some (.inr (.inr ((), ())))))))
 (some (.inr (.inl (((), (), ()), (b2, b3, ()))))))
def Yp := Ib fun x : RG => Wn x.1.1 x.1.2.1 x.1.2.2.1 x.1.2.2.2.1 x.2.1 x.2.2.1
def Yb (a0 : Le) : Option Nq :=
 (ob (To a0) fun r1 =>
 (cond (!r1.1)
 (some ((0, [], ()), ()))
 (ob (Gr ((a0, (), (), 0, ()), ((0, [], ()), (0, [], ()), ()))) (se (fun y14 => (ob (Yp ((y14.1.1, (), (), 1, ()), y14.2)) (se (fun y31 => (some (y31.2.2.1, ()))) (fun z32 => none)))) (fun z15 => none)))))
def XL (t1 : Le) (t4 : Unit) (t5 : Unit) (t6 : Int) (b4 : Ga) (b5 : Ga) : Option (RG ⊕ (((Le × HO) × Ut) ⊕ Xf)) :=
 (cond (decide (t6 < ((ln t1 : Nat) : Int)))
 (ob (Ic t1 t6) fun x4 =>
 (some (.inl ((t1, (), (), (wr .i64 (t6 + 1)), ()), (b4, ((Ed .i64 b5.1 x4.2.1.2.2.1), b5.2.1, ()), ())))))
 (some (.inr (.inl ((t1, (), (), ()), (b4, b5, ()))))))
def Bz := Ib fun x : RG => XL x.1.1 x.1.2.1 x.1.2.2.1 x.1.2.2.2.1 x.2.1 x.2.2.1
def NK (t1 : Le) (t4 : Unit) (t5 : Unit) (t7 : Vd) (t8 : Int) (t9 : Bool) (t10 : Int) (b4 : Ga) (b5 : Ga) : Option Hag :=
 (cond (decide (t10 < ((ln b5.2.1 : Nat) : Int)))
 (cond t9
 (some (.inl ((t1, (), (), t7, t8, true, (wr .i64 (t10 + 1)), ()), (b4, b5, ()))))
 (cond (Te (ln b5.2.1) t10)
 (ob b5.2.1[(tn t10)]? fun x29 =>
 (some (.inl ((t1, (), (), t7, t8, (x29 == t8), (wr .i64 (t10 + 1)), ()), (b4, b5, ())))))
 none))
 (some (.inr (.inl ((t1, (), (), t7, t8, t9, ()), (b4, b5, ()))))))
def Vx := Ib fun x : L5 => NK x.1.1 x.1.2.1 x.1.2.2.1 x.1.2.2.2.1 x.1.2.2.2.2.1 x.1.2.2.2.2.2.1 x.1.2.2.2.2.2.2.1 x.2.1 x.2.2.1
def OK (t1 : Le) (t4 : Unit) (t5 : Unit) (t7 : Vd) (t8 : Int) (t9 : Bool) (t11 : Int) (b4 : Ga) (b5 : Ga) : Option Hag :=
 (cond (decide (t11 < ((ln t1 : Nat) : Int)))
 (cond t9
 (some (.inl ((t1, (), (), t7, t8, true, (wr .i64 (t11 + 1)), ()), (b4, b5, ()))))
 (ob (Ic t1 t11) fun x34 =>
 (some (.inl ((t1, (), (), t7, t8, (x34.2.1.2.1 == t8), (wr .i64 (t11 + 1)), ()), (b4, b5, ()))))))
 (some (.inr (.inl ((t1, (), (), t7, t8, t9, ()), (b4, b5, ()))))))
def Wx := Ib fun x : L5 => OK x.1.1 x.1.2.1 x.1.2.2.1 x.1.2.2.2.1 x.1.2.2.2.2.1 x.1.2.2.2.2.2.1 x.1.2.2.2.2.2.2.1 x.2.1 x.2.2.1
def YL (t1 : Le) (t4 : Unit) (t5 : Unit) (t7 : Vd) (t8 : Int) (b4 : Ga) (b5 : Ga) : Option (((Le × (Unit × IV)) × Ut) ⊕ Q5) :=
 (cond (decide (t8 ≤ 56))
 (ob (Vx ((t1, (), (), t7, t8, false, 0, ()), (b4, b5, ()))) (se (fun y30 => (ob (Wx ((y30.1.1, (), (), y30.1.2.2.2.1, y30.1.2.2.2.2.1, y30.1.2.2.2.2.2.1, 0, ()), y30.2)) (se (fun y35 => (cond y35.1.2.2.2.2.2.1
 (cond (bl (ln y35.1.2.2.2.1 + ln ([y35.1.2.2.2.2.1] : List Int)) Nb)
 (some (.inl ((y35.1.1, (), (), (ap y35.1.2.2.2.1 ([y35.1.2.2.2.2.1] : List Int)), (wr .i64 (y35.1.2.2.2.2.1 + 1)), ()), y35.2)))
 none)
 (some (.inl ((y35.1.1, (), (), y35.1.2.2.2.1, (wr .i64 (y35.1.2.2.2.2.1 + 1)), ()), y35.2))))) (fun z36 => (some (.inr (.inr ((), ())))))))) (fun z31 => (some (.inr (.inr ((), ())))))))
 (some (.inr (.inl (((), (), t7, ()), (b4, b5, ()))))))
def Cz := Ib fun x : ((Le × (Unit × IV)) × Ut) => YL x.1.1 x.1.2.1 x.1.2.2.1 x.1.2.2.2.1 x.1.2.2.2.2.1 x.2.1 x.2.2.1
def Ax (a0 : Le) (a1 : Le) : Option Nq :=
 (ob (Yb a0) fun r1 =>
 (ob (Bz ((a1, (), (), 0, ()), ((0, [], ()), r1.1, ()))) (se (fun y5 => (ob (Cz ((y5.1.1, (), (), [], 1, ()), y5.2)) (se (fun y37 => (some ((y37.2.2.1.1, y37.1.2.2.1, ()), ()))) (fun z38 => none)))) (fun z6 => none))))
def JG (t0 : Le) (t1 : Jl) (t5 : Gg) (t6 : Le) (t7 : Int) : Option (((Le × (Jl × (Gg × (Le × Wi)))) × Unit) ⊕ P5) :=
 (cond (decide (t7 < ((ln t1 : Nat) : Int)))
 (ob (Ic t1 t7) fun x21 =>
 (cond (x21.1 != 2)
 (ob (Sr x21) fun r22 =>
 (cond (bl (ln t6 + ln ([(0, r22.1, ())] : List Pa)) Nb)
 (ob (Ax t0 (ap t6 ([(0, r22.1, ())] : List Pa))) fun r23 =>
 (cond (bl (ln t5 + ln ([r23.1] : List Ga)) Nb)
 (cond (x21.1 != 1)
 (ob (Cs (ap t6 ([(0, r22.1, ())] : List Pa)) x21) fun r24 =>
 (ob (Ng (ap t6 ([(0, r22.1, ())] : List Pa)) r24.1) fun r25 =>
 (ob (Ax t0 r25.1) fun r26 =>
 (cond (bl (ln (ap t5 ([r23.1] : List Ga)) + ln ([r26.1] : List Ga)) Nb)
 (some (.inl ((t0, t1, (ap (ap t5 ([r23.1] : List Ga)) ([r26.1] : List Ga)), r25.1, (wr .i64 (t7 + 1)), ()), ())))
 none))))
 (some (.inl ((t0, t1, (ap t5 ([r23.1] : List Ga)), (ap t6 ([(0, r22.1, ())] : List Pa)), (wr .i64 (t7 + 1)), ()), ()))))
 none))
 none))
 (cond (x21.1 != 1)
 (ob (Cs t6 x21) fun r27 =>
 (ob (Ng t6 r27.1) fun r28 =>
 (ob (Ax t0 r28.1) fun r29 =>
 (cond (bl (ln t5 + ln ([r29.1] : List Ga)) Nb)
 (some (.inl ((t0, t1, (ap t5 ([r29.1] : List Ga)), r28.1, (wr .i64 (t7 + 1)), ()), ())))
 none))))
 (some (.inl ((t0, t1, t5, t6, (wr .i64 (t7 + 1)), ()), ()))))))
 (some (.inr (.inl ((t5, ()), ())))))
def Xu := Ib fun x : ((Le × (Jl × (Gg × (Le × Wi)))) × Unit) => JG x.1.1 x.1.2.1 x.1.2.2.1 x.1.2.2.2.1 x.1.2.2.2.2.1
def Cw (a0 : Le) (a1 : Jl) : Option ZB :=
 (ob (To a0) fun r1 =>
 (cond (!r1.1)
 (some ([], ()))
 (ob (Wu a1) fun r2 =>
 (cond (!r2.1)
 (some ([], ()))
 (ob (Xu ((a0, a1, [], [], 0, ()), ())) (se (fun y30 => (some (y30.1.1, ()))) (fun z31 => none)))))))
def Cn (t2 : Unit) (t3 : Unit) (t5 : Int) (b2 : Ga) (b3 : Ga) : Option ((QD × Ut) ⊕ IA) :=
 (cond (decide (t5 < ((ln b2.2.1 : Nat) : Int)))
 (ob (Ic b2.2.1 t5) fun x5 =>
 (ob (Ic b3.2.1 t5) fun x6 =>
 (cond (x5 != x6)
 (some (.inr (.inr ((false, ()), ()))))
 (some (.inl (((), (), (wr .i64 (t5 + 1)), ()), (b2, b3, ())))))))
 (some (.inr (.inl ((), ())))))
def Vo := Ib fun x : (QD × Ut) => Cn x.1.1 x.1.2.1 x.1.2.2.1 x.2.1 x.2.2.1
def Yn (a0 : Ga) (a1 : Ga) : Option We :=
 (cond (a0.1 != a1.1)
 (some (false, ()))
 (cond (((ln a0.2.1 : Nat) : Int) != ((ln a1.2.1 : Nat) : Int))
 (some (false, ()))
 (ob (Vo (((), (), 0, ()), (a0, a1, ()))) (se (fun y7 => (some (true, ()))) (fun z8 => (some (z8.1.1, ())))))))
def Zn (t1 : Gg) (t2 : Unit) (t5 : Gg) (t6 : Int) (b2 : Ga) : Option (((Gg × (Unit × (Gg × Wi))) × Nq) ⊕ P5) :=
 (cond (decide (t6 < ((ln t1 : Nat) : Int)))
 (ob (Ic t1 t6) fun x13 =>
 (ob (Yn b2 x13) fun r14 =>
 (cond (!r14.1)
 (ob (Ic t1 t6) fun x15 =>
 (ob (RA x15) fun r16 =>
 (cond (bl (ln t5 + ln ([r16.1] : List Ga)) Nb)
 (ob (Ic t1 t6) fun x17 =>
 (some (.inl ((t1, (), (ap t5 ([r16.1] : List Ga)), (wr .i64 (t6 + 1)), ()), (x17, ())))))
 none)))
 (ob (Ic t1 t6) fun x18 =>
 (some (.inl ((t1, (), t5, (wr .i64 (t6 + 1)), ()), (x18, ()))))))))
 (some (.inr (.inl ((t5, ()), ())))))
def Aq := Ib fun x : ((Gg × (Unit × (Gg × Wi))) × Nq) => Zn x.1.1 x.1.2.1 x.1.2.2.1 x.1.2.2.2.1 x.2.1
def Ie (a0 : Ga) (a1 : Gg) : Option ZB :=
 (ob (Aq ((a1, (), [], 0, ()), (a0, ()))) (se (fun y19 => (some (y19.1.1, ()))) (fun z20 => none)))
def Dr (a0 : Sa) (a1 : Int) (a2 : Bool) : Option KO :=
 (ob (Bi a0) fun r1 =>
 (cond (!r1.1)
 (some (Ye, [], false, ()))
 (ob (Of a1 0 (wr .i64 (a0.1.1 - 1))) fun r2 =>
 (cond (!r2.1)
 (some (Ye, [], false, ()))
 (ob (Nw a0 a1) fun r3 =>
 (cond (decide (r3.1 ≥ 0))
 (some (Ye, [], false, ()))
 (ob (Fm a0) fun r4 =>
 (ob (Rr a0.2.2.1 a0.2.2.2.1) fun r5 =>
 (ob (Qr a0.1 r5.1 a1) fun r6 =>
 (cond a2
 (ob (Ow r6.1) fun r7 =>
 (ob (Ln r4.1 r7.1) fun r8 =>
 (cond (bl (ln r8.1.2.2.2.1 + ln ([(a1, r8.2.1, ())] : List Pa)) Nb)
 (cond (r8.2.1.1 == 9)
 (cond (decide (r8.2.1.2.2.2.1 < ((ln a0.2.1 : Nat) : Int)))
 (ob (Ic a0.2.1 r8.2.1.2.2.2.1) fun x9 =>
 (ob (Cw (ap r8.1.2.2.2.1 ([(a1, r8.2.1, ())] : List Pa)) x9) fun r10 =>
 (ob (Yb (ap r8.1.2.2.2.1 ([(a1, r8.2.1, ())] : List Pa))) fun r11 =>
 (cond (bl (ln r10.1 + ln ([r11.1] : List Ga)) Nb)
 (ob (Yb a0.2.2.2.1) fun r12 =>
 (ob (Ie r12.1 (ap r10.1 ([r11.1] : List Ga))) fun r13 =>
 (some ((r8.1.1, r8.1.2.1, r8.1.2.2.1, (ap r8.1.2.2.2.1 ([(a1, r8.2.1, ())] : List Pa)), r8.1.2.2.2.2), r13.1, true, ()))))
 none))))
 (ob (Yb (ap r8.1.2.2.2.1 ([(a1, r8.2.1, ())] : List Pa))) fun r14 =>
 (cond (bl (ln ([] : List Ga) + ln ([r14.1] : List Ga)) Nb)
 (ob (Yb a0.2.2.2.1) fun r15 =>
 (ob (Ie r15.1 (ap [] ([r14.1] : List Ga))) fun r16 =>
 (some ((r8.1.1, r8.1.2.1, r8.1.2.2.1, (ap r8.1.2.2.2.1 ([(a1, r8.2.1, ())] : List Pa)), r8.1.2.2.2.2), r16.1, true, ()))))
 none)))
 (ob (Yb (ap r8.1.2.2.2.1 ([(a1, r8.2.1, ())] : List Pa))) fun r17 =>
 (cond (bl (ln ([] : List Ga) + ln ([r17.1] : List Ga)) Nb)
 (ob (Yb a0.2.2.2.1) fun r18 =>
 (ob (Ie r18.1 (ap [] ([r17.1] : List Ga))) fun r19 =>
 (some ((r8.1.1, r8.1.2.1, r8.1.2.2.1, (ap r8.1.2.2.2.1 ([(a1, r8.2.1, ())] : List Pa)), r8.1.2.2.2.2), r19.1, true, ()))))
 none)))
 none)))
 (ob (Vy r6.1) fun r20 =>
 (ob (Ln r4.1 r20.1) fun r21 =>
 (cond (bl (ln r21.1.2.2.2.1 + ln ([(a1, r21.2.1, ())] : List Pa)) Nb)
 (cond (r21.2.1.1 == 9)
 (cond (decide (r21.2.1.2.2.2.1 < ((ln a0.2.1 : Nat) : Int)))
 (ob (Ic a0.2.1 r21.2.1.2.2.2.1) fun x22 =>
 (ob (Cw (ap r21.1.2.2.2.1 ([(a1, r21.2.1, ())] : List Pa)) x22) fun r23 =>
 (ob (Yb (ap r21.1.2.2.2.1 ([(a1, r21.2.1, ())] : List Pa))) fun r24 =>
 (cond (bl (ln r23.1 + ln ([r24.1] : List Ga)) Nb)
 (ob (Yb a0.2.2.2.1) fun r25 =>
 (ob (Ie r25.1 (ap r23.1 ([r24.1] : List Ga))) fun r26 =>
 (some ((r21.1.1, r21.1.2.1, r21.1.2.2.1, (ap r21.1.2.2.2.1 ([(a1, r21.2.1, ())] : List Pa)), r21.1.2.2.2.2), r26.1, true, ()))))
 none))))
 (ob (Yb (ap r21.1.2.2.2.1 ([(a1, r21.2.1, ())] : List Pa))) fun r27 =>
 (cond (bl (ln ([] : List Ga) + ln ([r27.1] : List Ga)) Nb)
 (ob (Yb a0.2.2.2.1) fun r28 =>
 (ob (Ie r28.1 (ap [] ([r27.1] : List Ga))) fun r29 =>
 (some ((r21.1.1, r21.1.2.1, r21.1.2.2.1, (ap r21.1.2.2.2.1 ([(a1, r21.2.1, ())] : List Pa)), r21.1.2.2.2.2), r29.1, true, ()))))
 none)))
 (ob (Yb (ap r21.1.2.2.2.1 ([(a1, r21.2.1, ())] : List Pa))) fun r30 =>
 (cond (bl (ln ([] : List Ga) + ln ([r30.1] : List Ga)) Nb)
 (ob (Yb a0.2.2.2.1) fun r31 =>
 (ob (Ie r31.1 (ap [] ([r30.1] : List Ga))) fun r32 =>
 (some ((r21.1.1, r21.1.2.1, r21.1.2.2.1, (ap r21.1.2.2.2.1 ([(a1, r21.2.1, ())] : List Pa)), r21.1.2.2.2.2), r32.1, true, ()))))
 none)))
 none)))))))))))))
def Xp (a0 : Sa) (a1 : Int) : Option KO :=
 (ob (Nw a0 a1) fun r1 =>
 (ob (Bi a0) fun r2 =>
 (cond (!r2.1)
 (some (Ye, [], false, ()))
 (cond (decide (r1.1 < 0))
 (some (Ye, [], false, ()))
 (ob (Fm a0) fun r3 =>
 (ob (Ng r3.1.2.2.2.1 r1.1) fun r4 =>
 (ob (Yb a0.2.2.2.1) fun r5 =>
 (ob (Yb r4.1) fun r6 =>
 (ob (Ie r5.1 ([r6.1] : List Ga)) fun r7 =>
 (some ((r3.1.1, r3.1.2.1, r3.1.2.2.1, r4.1, r3.1.2.2.2.2), r7.1, true, ())))))))))))
def Ir (t1 : Vd) (t4 : Unit) (t7 : Gg) (t8 : Unit) (t9 : Int) (b4 : Sa) (b8 : Sa) : Option (((Vd × (Unit × (Gg × Vs))) × Iv) ⊕ (((Unit × (Gg × Xf)) × Iv) ⊕ ((Unit × (Gg × We)) × Mk))) :=
 (cond (decide (t9 < ((ln t1 : Nat) : Int)))
 (ob (Ic t1 t9) fun x13 =>
 (ob (Dr b8 x13 false) fun r14 =>
 (ob (Ic t1 t9) fun x15 =>
 (ob (Xp r14.1 x15) fun r16 =>
 (cond (!r14.2.2.1)
 (some (.inr (.inr (((), [], false, ()), (Ye, ())))))
 (cond (!r16.2.2.1)
 (some (.inr (.inr (((), [], false, ()), (Ye, ())))))
 (cond (bl (ln t7 + ln r14.2.1) Nb)
 (cond (bl (ln (ap t7 r14.2.1) + ln r16.2.1) Nb)
 (some (.inl ((t1, (), (ap (ap t7 r14.2.1) r16.2.1), (), (wr .i64 (t9 + 1)), ()), (b4, r16.1, ()))))
 none)
 none)))))))
 (some (.inr (.inl (((), t7, (), ()), (b4, b8, ()))))))
def Rs := Ib fun x : ((Vd × (Unit × (Gg × Vs))) × Iv) => Ir x.1.1 x.1.2.1 x.1.2.2.1 x.1.2.2.2.1 x.1.2.2.2.2.1 x.2.1 x.2.2.1
def Zp (a0 : Sa) (a1 : Vd) : Option KO :=
 (ob (Rs ((a1, (), [], (), 0, ()), (Ye, a0, ()))) (se (fun y17 => (ob (Bi y17.2.2.1) fun r19 =>
 (cond (!r19.1)
 (some (Ye, [], false, ()))
 (ob (Fm y17.2.2.1) fun r20 =>
 (some (r20.1, y17.1.2.1, true, ())))))) (fun z18 => (some (z18.2.1, z18.1.2.1, z18.1.2.2.1, ())))))
def Dn (t0 : Gg) (t1 : Gg) (t5 : Int) : Option (HV ⊕ (((Gg × ZB) × Unit) ⊕ Ay)) :=
 (cond (decide (t5 < ((ln t0 : Nat) : Int)))
 (cond (decide (t5 < ((ln t1 : Nat) : Int)))
 (ob (Ic t0 t5) fun x7 =>
 (ob (Ic t1 t5) fun x8 =>
 (ob (Yn x7 x8) fun r9 =>
 (cond (!r9.1)
 (some (.inr (.inr ((false, ()), ()))))
 (some (.inl ((t0, t1, (wr .i64 (t5 + 1)), ()), ())))))))
 (some (.inr (.inl ((t0, t1, ()), ())))))
 (some (.inr (.inl ((t0, t1, ()), ())))))
def Wo := Ib fun x : HV => Dn x.1.1 x.1.2.1 x.1.2.2.1
def Nt (a0 : Gg) (a1 : Gg) : Option We :=
 (ob (Wo ((a0, a1, 0, ()), ())) (se (fun y10 => (some ((((ln y10.1.1 : Nat) : Int) == ((ln y10.1.2.1 : Nat) : Int)), ()))) (fun z11 => (some (z11.1.1, ())))))
def Wy (a0 : Sa) (a1 : Sa) : Option We :=
 (cond (a0.2.2.1 == a1.2.2.1)
 (cond (a0.2.2.2.2.1 == a1.2.2.2.2.1)
 (some ((a0.2.2.2.2.2.1 == a1.2.2.2.2.2.1), ()))
 (some (false, ())))
 (some (false, ())))
def Jr (t0 : BC) (t4 : Unit) (t5 : Unit) (t7 : Int) (b4 : Sa) (b5 : Sa) : Option (((BC × QD) × Iv) ⊕ IA) :=
 (cond (decide (t7 < ((ln t0 : Nat) : Int)))
 (ob (Ic t0 t7) fun x9 =>
 (ob (Wy x9.1 b4) fun r10 =>
 (cond r10.1
 (ob (Ic t0 t7) fun x11 =>
 (ob (Wy x11.2.1 b5) fun r12 =>
 (cond r12.1
 (some (.inr (.inr ((true, ()), ()))))
 (some (.inl ((t0, (), (), (wr .i64 (t7 + 1)), ()), (b4, b5, ())))))))
 (some (.inl ((t0, (), (), (wr .i64 (t7 + 1)), ()), (b4, b5, ())))))))
 (some (.inr (.inl ((), ())))))
def Ts := Ib fun x : ((BC × QD) × Iv) => Jr x.1.1 x.1.2.1 x.1.2.2.1 x.1.2.2.2.1 x.2.1 x.2.2.1
def Xy (a0 : BC) (a1 : Sa) (a2 : Sa) : Option We :=
 (ob (Ts ((a0, (), (), 0, ()), (a1, a2, ()))) (se (fun y13 => (some (false, ()))) (fun z14 => (some (z14.1.1, ())))))
def Ik (t2 : Unit) (t10 : BC) (t11 : Int) (t12 : Int) (b2 : Aa) : Option (((Unit × (BC × Lc)) × Og) ⊕ (BW ⊕ FV)) :=
 (cond (decide (t12 < b2.1))
 (cond (Te (ln t10) t11)
 (ob t10[(tn t11)]? fun x63 =>
 (ob (Zp x63.1 ([t12] : List Int)) fun r64 =>
 (cond (Te (ln (ls t10 (tn t11) x63)) t11)
 (ob (ls t10 (tn t11) x63)[(tn t11)]? fun x65 =>
 (ob (Zp x65.2.1 ([t12] : List Int)) fun r66 =>
 (cond (Te (ln (ls (ls t10 (tn t11) x63) (tn t11) x65)) t11)
 (ob (ls (ls t10 (tn t11) x63) (tn t11) x65)[(tn t11)]? fun x67 =>
 (cond (bl (ln ([] : List Int) + ln x67.2.2.1) Nb)
 (cond (bl (ln (ap [] x67.2.2.1) + ln ([t12] : List Int)) Nb)
 (ob (Nt r64.2.1 r66.2.1) fun r68 =>
 (cond (!r68.1)
 (some (.inr (.inr (((ap (ap [] x67.2.2.1) ([t12] : List Int)), true, ()), ()))))
 (ob (Xy (ls (ls (ls t10 (tn t11) x63) (tn t11) x65) (tn t11) x67) r64.1 r66.1) fun r69 =>
 (cond (!r69.1)
 (cond (bl (ln (ls (ls (ls t10 (tn t11) x63) (tn t11) x65) (tn t11) x67) + ln ([(r64.1, r66.1, (ap (ap [] x67.2.2.1) ([t12] : List Int)), ())] : List Kq)) Nb)
 (some (.inl (((), (ap (ls (ls (ls t10 (tn t11) x63) (tn t11) x65) (tn t11) x67) ([(r64.1, r66.1, (ap (ap [] x67.2.2.1) ([t12] : List Int)), ())] : List Kq)), t11, (wr .i64 (t12 + 1)), ()), (b2, ()))))
 none)
 (some (.inl (((), (ls (ls (ls t10 (tn t11) x63) (tn t11) x65) (tn t11) x67), t11, (wr .i64 (t12 + 1)), ()), (b2, ()))))))))
 none)
 none))
 none)))
 none)))
 none)
 (some (.inr (.inl (((), t10, t11, ()), (b2, ()))))))
def Hf := Ib fun x : ((Unit × (BC × Lc)) × Og) => Ik x.1.1 x.1.2.1 x.1.2.2.1 x.1.2.2.2.1 x.2.1
def Tk (t2 : Unit) (t10 : BC) (t11 : Int) (b2 : Aa) : Option (BW ⊕ (Xf ⊕ FV)) :=
 (cond (decide (t11 < ((ln t10 : Nat) : Int)))
 (ob (Hf (((), t10, t11, 0, ()), (b2, ()))) (se (fun y70 => (some (.inl (((), y70.1.2.1, (wr .i64 (y70.1.2.2.1 + 1)), ()), (y70.2.1, ()))))) (fun z71 => (some (.inr (.inr (z71.1, ())))))))
 (some (.inr (.inl ((), ())))))
def Uf := Ib fun x : BW => Tk x.1.1 x.1.2.1 x.1.2.2.1 x.2.1
def Ip (a0 : Aa) (a1 : Aa) : Option (Vd × We) :=
 (ob (Wp a0 []) fun r1 =>
 (ob (Wp a1 []) fun r2 =>
 (cond (!r1.2.1)
 (some ([], false, ()))
 (cond (!r2.2.1)
 (some ([], false, ()))
 (cond (a0.1 != a1.1)
 (some ([], false, ()))
 (cond (decide (a0.1 > 6))
 (some ([], false, ()))
 (ob (Uf (((), ([(r1.1, r2.1, [], ())] : List Kq), 0, ()), (a0, ()))) (se (fun y72 => (some ([], false, ()))) (fun z73 => (some z73.1))))))))))
def Dl (a0 : Aa) (a1 : Aa) : Option We :=
 (ob (Ip a0 a1) fun r1 =>
 (ob (Ij a0) fun r2 =>
 (cond r2.1
 (ob (Ij a1) fun r3 =>
 (cond r3.1
 (cond (a0.1 == a1.1)
 (cond (decide (a0.1 ≤ 6))
 (some ((!r1.2.1), ()))
 (some (false, ())))
 (some (false, ())))
 (some (false, ()))))
 (some (false, ())))))
def Sh (a0 : Vd) (a1 : Int) (a2 : Int) : Option Wi :=
 (ob (QA a0 a1) fun r1 =>
 (ob (Za r1 a2) fun r2 =>
 (some (r2.2.1, ()))))
def Ql (t2 : Unit) (t3 : Unit) (t4 : Int) (t5 : Int) (t6 : Eh) (t17 : ZK) (t18 : Int) (t19 : Int) (t25 : Int) (t26 : Int) (b2 : Aa) (b3 : (Int × (ZK × Unit))) : Option (Cag ⊕ (((Unit × (Unit × (Int × (ZK × Lc)))) × (Aa × ((Int × (ZK × Unit)) × Unit))) ⊕ Xf)) :=
 (cond (decide (t26 < t25))
 (ob (Pm t4 t5) fun r36 =>
 (cond (r36.1 == 0)
 (cond (Te (ln t6) t26)
 (ob t6[(tn t26)]? fun x37 =>
 (some (.inl (((), (), t4, t5, (ls t6 (tn t26) (1, 0, 0, 0, ())), (t17.1, (((tn t17.2.1) : Nat) : Int), t17.2.2.1, (ls t6 (tn t26) (1, 0, 0, 0, ()))), t18, t19, t25, (wr .i64 (t26 + 1)), ()), (b2, (b3.1, (t17.1, (((tn t17.2.1) : Nat) : Int), t17.2.2.1, (ls t6 (tn t26) (1, 0, 0, 0, ()))), ()), ())))))
 none)
 (some (.inl (((), (), t4, t5, t6, (t17.1, (((tn t17.2.1) : Nat) : Int), t17.2.2.1, t6), t18, t19, t25, (wr .i64 (t26 + 1)), ()), (b2, (b3.1, (t17.1, (((tn t17.2.1) : Nat) : Int), t17.2.2.1, t6), ()), ()))))))
 (some (.inr (.inl (((), (), t4, (t17.1, (((tn t17.2.1) : Nat) : Int), t17.2.2.1, t6), t18, t19, ()), (b2, (b3.1, (t17.1, (((tn t17.2.1) : Nat) : Int), t17.2.2.1, t6), ()), ()))))))
def Bg := Ib fun x : Cag => Ql x.1.1 x.1.2.1 x.1.2.2.1 x.1.2.2.2.1 x.1.2.2.2.2.1 x.1.2.2.2.2.2.1 x.1.2.2.2.2.2.2.1 x.1.2.2.2.2.2.2.2.1 x.1.2.2.2.2.2.2.2.2.1 x.1.2.2.2.2.2.2.2.2.2.1 x.2.1 x.2.2.1
def Cg (t2 : Unit) (t3 : Unit) (t4 : Int) (t17 : (List Eh)) (t18 : Int) (t19 : Int) (b2 : Aa) (b3 : Aa) : Option (((Unit × (Unit × (Int × RD))) × Mq) ⊕ KV) :=
 (cond (decide (t19 < t18))
 (cond (Te (ln t17) t19)
 (ob t17[(tn t19)]? fun x31 =>
 (ob (Bg (((), (), t4, t19, x31, (t17, (((tn t19) : Nat) : Int), x31, x31), t18, t19, ((ln x31 : Nat) : Int), 0, ()), (b2, (b3.1, (t17, (((tn t19) : Nat) : Int), x31, x31), ()), ()))) (se (fun y38 => (some (.inl (((), (), y38.1.2.2.1, (ls y38.1.2.2.2.1.1 (tn y38.1.2.2.2.1.2.1) y38.1.2.2.2.1.2.2.2), y38.1.2.2.2.2.1, (wr .i64 (y38.1.2.2.2.2.2.1 + 1)), ()), (y38.2.1, (y38.2.2.1.1, (ls y38.1.2.2.2.1.1 (tn y38.1.2.2.2.1.2.1) y38.1.2.2.2.1.2.2.2), ()), ()))))) (fun z39 => (some (.inr (.inr ((), ()))))))))
 none)
 (some (.inr (.inl (((), (), ()), (b2, (b3.1, t17, ()), ()))))))
def Nj := Ib fun x : ((Unit × (Unit × (Int × RD))) × Mq) => Cg x.1.1 x.1.2.1 x.1.2.2.1 x.1.2.2.2.1 x.1.2.2.2.2.1 x.1.2.2.2.2.2.1 x.2.1 x.2.2.1
def Cf (a0 : Aa) : Option Og :=
 (ob (Rk a0) fun r1 =>
 (ob (Ch a0) fun r2 =>
 (cond (!r2.1)
 (some (r1.1, ()))
 (ob (Ct a0) fun r3 =>
 (ob (Nj (((), (), r3.1, r1.1.2.1, ((ln r1.1.2.1 : Nat) : Int), 0, ()), ((0, [], ()), r1.1, ()))) (se (fun y40 => (some (y40.2.2.1, ()))) (fun z41 => none)))))))
def Yv (t0 : Vd) (t3 : Unit) (t4 : Unit) (t16 : Vd) (t17 : Int) (b3 : Aa) (b4 : Aa) : Option (((Vd × (Unit × IV)) × Mq) ⊕ (((Unit × (Unit × YK)) × Mq) ⊕ Xf)) :=
 (cond (decide (t17 > 0))
 (ob (Sh t0 (wr .i64 (181 + t17)) b3.1) fun r72 =>
 (cond (bl (ln t16 + ln ([r72.1] : List Int)) Nb)
 (some (.inl ((t0, (), (), (ap t16 ([r72.1] : List Int)), (wr .i64 (t17 - 1)), ()), (b3, b4, ()))))
 none))
 (some (.inr (.inl (((), (), t16, ()), (b3, b4, ()))))))
def Af := Ib fun x : ((Vd × (Unit × IV)) × Mq) => Yv x.1.1 x.1.2.1 x.1.2.2.1 x.1.2.2.2.1 x.1.2.2.2.2.1 x.2.1 x.2.2.1
def Nu (a0 : Vd) : Option We :=
 (ob (Uz a0) fun r1 =>
 (cond r1.1
 (some (true, ()))
 (ob (Uk a0) fun r2 =>
 (ob (Gl r2.1 r2.2.1) fun r3 =>
 (ob (Je r2.1 r2.2.1) fun r4 =>
 (cond r3.2.1
 (cond r4.1
 (some (false, ()))
 (cond r3.2.1
 (cond (((ln r3.1 : Nat) : Int) == 0)
 (some (false, ()))
 (cond r3.2.1
 (ob (Ac r2.1 r3.1) fun r5 =>
 (ob (Ac r2.2.1 r3.1) fun r6 =>
 (cond (Be (ln r3.1) 0 (wr .i64 (((ln r3.1 : Nat) : Int) - 1)))
 (ob (Ac r2.1 (Cc r3.1 (tn 0) (tn (wr .i64 (((ln r3.1 : Nat) : Int) - 1))))) fun r7 =>
 (cond (Be (ln r3.1) 0 (wr .i64 (((ln r3.1 : Nat) : Int) - 1)))
 (ob (Ac r2.2.1 (Cc r3.1 (tn 0) (tn (wr .i64 (((ln r3.1 : Nat) : Int) - 1))))) fun r8 =>
 (cond r5.2.1
 (cond r6.2.1
 (cond r7.2.1
 (cond r8.2.1
 (ob (Xc r5.1 r6.1) fun r9 =>
 (cond (!r9.1)
 (ob (Xc r7.1 r8.1) fun r10 =>
 (some (r10.1, ())))
 (some (false, ()))))
 (some (false, ())))
 (some (false, ())))
 (some (false, ())))
 (some (false, ()))))
 none))
 none)))
 (cond (!r4.1)
 (ob (Dl r2.1 r2.2.1) fun r11 =>
 (some ((!r11.1), ())))
 (ob (Sh a0 180 7) fun r12 =>
 (ob (Af ((a0, (), (), [], r12.1, ()), r2)) (se (fun y16 => (ob (Ac y16.2.1 y16.1.2.2.1) fun r18 =>
 (ob (Ac y16.2.2.1 y16.1.2.2.1) fun r19 =>
 (cond r18.2.1
 (cond r19.2.1
 (ob (Xc r18.1 r19.1) fun r20 =>
 (cond r20.1
 (ob (Je y16.2.2.1 y16.2.1) fun r21 =>
 (cond r21.1
 (ob (Cf y16.2.2.1) fun r22 =>
 (ob (Je y16.2.1 r22.1) fun r23 =>
 (some (r23.1, ()))))
 (some (false, ()))))
 (some (false, ()))))
 (some (false, ())))
 (some (false, ())))))) (fun z17 => none)))))))
 (cond r3.2.1
 (ob (Ac r2.1 r3.1) fun r24 =>
 (ob (Ac r2.2.1 r3.1) fun r25 =>
 (cond (Be (ln r3.1) 0 (wr .i64 (((ln r3.1 : Nat) : Int) - 1)))
 (ob (Ac r2.1 (Cc r3.1 (tn 0) (tn (wr .i64 (((ln r3.1 : Nat) : Int) - 1))))) fun r26 =>
 (cond (Be (ln r3.1) 0 (wr .i64 (((ln r3.1 : Nat) : Int) - 1)))
 (ob (Ac r2.2.1 (Cc r3.1 (tn 0) (tn (wr .i64 (((ln r3.1 : Nat) : Int) - 1))))) fun r27 =>
 (cond r24.2.1
 (cond r25.2.1
 (cond r26.2.1
 (cond r27.2.1
 (ob (Xc r24.1 r25.1) fun r28 =>
 (cond (!r28.1)
 (ob (Xc r26.1 r27.1) fun r29 =>
 (some (r29.1, ())))
 (some (false, ()))))
 (some (false, ())))
 (some (false, ())))
 (some (false, ())))
 (some (false, ()))))
 none))
 none)))
 (cond (!r4.1)
 (ob (Dl r2.1 r2.2.1) fun r30 =>
 (some ((!r30.1), ())))
 (ob (Sh a0 180 7) fun r31 =>
 (ob (Af ((a0, (), (), [], r31.1, ()), r2)) (se (fun y35 => (ob (Ac y35.2.1 y35.1.2.2.1) fun r37 =>
 (ob (Ac y35.2.2.1 y35.1.2.2.1) fun r38 =>
 (cond r37.2.1
 (cond r38.2.1
 (ob (Xc r37.1 r38.1) fun r39 =>
 (cond r39.1
 (ob (Je y35.2.2.1 y35.2.1) fun r40 =>
 (cond r40.1
 (ob (Cf y35.2.2.1) fun r41 =>
 (ob (Je y35.2.1 r41.1) fun r42 =>
 (some (r42.1, ()))))
 (some (false, ()))))
 (some (false, ()))))
 (some (false, ())))
 (some (false, ())))))) (fun z36 => none))))))))
 (cond r3.2.1
 (cond (((ln r3.1 : Nat) : Int) == 0)
 (some (false, ()))
 (cond r3.2.1
 (ob (Ac r2.1 r3.1) fun r43 =>
 (ob (Ac r2.2.1 r3.1) fun r44 =>
 (cond (Be (ln r3.1) 0 (wr .i64 (((ln r3.1 : Nat) : Int) - 1)))
 (ob (Ac r2.1 (Cc r3.1 (tn 0) (tn (wr .i64 (((ln r3.1 : Nat) : Int) - 1))))) fun r45 =>
 (cond (Be (ln r3.1) 0 (wr .i64 (((ln r3.1 : Nat) : Int) - 1)))
 (ob (Ac r2.2.1 (Cc r3.1 (tn 0) (tn (wr .i64 (((ln r3.1 : Nat) : Int) - 1))))) fun r46 =>
 (cond r43.2.1
 (cond r44.2.1
 (cond r45.2.1
 (cond r46.2.1
 (ob (Xc r43.1 r44.1) fun r47 =>
 (cond (!r47.1)
 (ob (Xc r45.1 r46.1) fun r48 =>
 (some (r48.1, ())))
 (some (false, ()))))
 (some (false, ())))
 (some (false, ())))
 (some (false, ())))
 (some (false, ()))))
 none))
 none)))
 (cond (!r4.1)
 (ob (Dl r2.1 r2.2.1) fun r49 =>
 (some ((!r49.1), ())))
 (ob (Sh a0 180 7) fun r50 =>
 (ob (Af ((a0, (), (), [], r50.1, ()), r2)) (se (fun y54 => (ob (Ac y54.2.1 y54.1.2.2.1) fun r56 =>
 (ob (Ac y54.2.2.1 y54.1.2.2.1) fun r57 =>
 (cond r56.2.1
 (cond r57.2.1
 (ob (Xc r56.1 r57.1) fun r58 =>
 (cond r58.1
 (ob (Je y54.2.2.1 y54.2.1) fun r59 =>
 (cond r59.1
 (ob (Cf y54.2.2.1) fun r60 =>
 (ob (Je y54.2.1 r60.1) fun r61 =>
 (some (r61.1, ()))))
 (some (false, ()))))
 (some (false, ()))))
 (some (false, ())))
 (some (false, ())))))) (fun z55 => none)))))))
 (cond r3.2.1
 (ob (Ac r2.1 r3.1) fun r62 =>
 (ob (Ac r2.2.1 r3.1) fun r63 =>
 (cond (Be (ln r3.1) 0 (wr .i64 (((ln r3.1 : Nat) : Int) - 1)))
 (ob (Ac r2.1 (Cc r3.1 (tn 0) (tn (wr .i64 (((ln r3.1 : Nat) : Int) - 1))))) fun r64 =>
 (cond (Be (ln r3.1) 0 (wr .i64 (((ln r3.1 : Nat) : Int) - 1)))
 (ob (Ac r2.2.1 (Cc r3.1 (tn 0) (tn (wr .i64 (((ln r3.1 : Nat) : Int) - 1))))) fun r65 =>
 (cond r62.2.1
 (cond r63.2.1
 (cond r64.2.1
 (cond r65.2.1
 (ob (Xc r62.1 r63.1) fun r66 =>
 (cond (!r66.1)
 (ob (Xc r64.1 r65.1) fun r67 =>
 (some (r67.1, ())))
 (some (false, ()))))
 (some (false, ())))
 (some (false, ())))
 (some (false, ())))
 (some (false, ()))))
 none))
 none)))
 (cond (!r4.1)
 (ob (Dl r2.1 r2.2.1) fun r68 =>
 (some ((!r68.1), ())))
 (ob (Sh a0 180 7) fun r69 =>
 (ob (Af ((a0, (), (), [], r69.1, ()), r2)) (se (fun y73 => (ob (Ac y73.2.1 y73.1.2.2.1) fun r75 =>
 (ob (Ac y73.2.2.1 y73.1.2.2.1) fun r76 =>
 (cond r75.2.1
 (cond r76.2.1
 (ob (Xc r75.1 r76.1) fun r77 =>
 (cond r77.1
 (ob (Je y73.2.2.1 y73.2.1) fun r78 =>
 (cond r78.1
 (ob (Cf y73.2.2.1) fun r79 =>
 (ob (Je y73.2.1 r79.1) fun r80 =>
 (some (r80.1, ()))))
 (some (false, ()))))
 (some (false, ()))))
 (some (false, ())))
 (some (false, ())))))) (fun z74 => none)))))))))))))
end

def Kb (k c m n : Int) : Prop :=
 ((k = 0 ∨ k = 1 ∨ k = 10) ∧ c = 0 ∧ m = 0 ∧ n = 0) ∨
 (k = 2 ∧ n = 0 ∧ (c = 0 ∨ 1 ≤ c ∧ c ≤ 56) ∧ (m = 0 ∨ 1 ≤ m ∧ m ≤ 15) ∧ (c ≠ 0 ∨ m ≠ 0)) ∨
 ((k = 3 ∨ k = 4) ∧ c = 0 ∧ m = 0 ∧ 1 ≤ n ∧ n ≤ 3) ∨
 ((k = 5 ∨ k = 9) ∧ c = 0 ∧ m = 0 ∧ 0 ≤ n ∧ n ≤ 3) ∨
 (k = 6 ∧ 1 ≤ c ∧ c ≤ 56 ∧ 1 ≤ m ∧ m ≤ 15 ∧ n = 0) ∨
 (k = 7 ∧ 1 ≤ c ∧ c ≤ 56 ∧ m = 0 ∧ 1 ≤ n ∧ n ≤ 3) ∨
 (k = 8 ∧ c = 0 ∧ 1 ≤ m ∧ m ≤ 15 ∧ n = 0)
noncomputable def Tb (a : Ba) : Bool := open Classical in decide (Kb a.1 a.2.1 a.2.2.1 a.2.2.2.1)
theorem Cb (a : Ba) : Tb a = true ↔ Kb a.1 a.2.1 a.2.2.1 a.2.2.2.1 := by simp [Tb]
theorem Sz (c : Int) : Mo c = some (decide (1 ≤ c ∧ c ≤ 56), ()) := by
 simp only [Mo, Fq, Gq]
 apply Wc; simp only [Fd, decide_eq_true_eq, YG, ZG, jr, and_false, false_and, or_false, false_or, and_true, true_and, not_true_eq_false, not_false_eq_true]; try omega
theorem UF (c : Int) : No c = some (decide (1 ≤ c ∧ c ≤ 15), ()) := by
 simp only [No, Fq, Gq]
 apply Wc; simp only [Fd, decide_eq_true_eq, YG, ZG, jr, and_false, false_and, or_false, false_or, and_true, true_and, not_true_eq_false, not_false_eq_true]; try omega
theorem DE (c : Int) : Sp c = some (decide (1 ≤ c ∧ c ≤ 3), ()) := by
 simp only [Sp, Fq, Gq]
 apply Wc; simp only [Fd, decide_eq_true_eq, YG, ZG, jr, and_false, false_and, or_false, false_or, and_true, true_and, not_true_eq_false, not_false_eq_true]; try omega
theorem Ah (c a b : Int) : Of c a b = some (decide (a ≤ c ∧ c ≤ b), ()) := by
 simp only [Of, Fq, Gq]
 apply Wc; simp only [Fd, decide_eq_true_eq, YG, ZG, jr, and_false, false_and, or_false, false_or, and_true, true_and, not_true_eq_false, not_false_eq_true]; try omega
theorem Qq (a : Ba) : Gj a = some (Tb a, ()) := by
 obtain ⟨k, c, m, n, u⟩ := a
 have key : ∀ k c m n : Int, Gj (k, c, m, n, u) = some (Tb (k, c, m, n, u), ()) := by
  intro k c m n
  simp only [Gj, Sz, UF, DE, Ah, jb, Fq, Gq]
  by_cases h0 : k = 0
  ·subst h0; apply Wc; rw [Cb]; simp [Kb, Fd]; try omega
  by_cases h1 : k = 1
  ·subst h1; apply Wc; rw [Cb]; simp [Kb, Fd]; try omega
  by_cases h2 : k = 2
  ·subst h2; apply Wc; rw [Cb]; simp [Kb, Fd]; intro hn; (repeat' split) <;> omega
  by_cases h3 : k = 3
  ·subst h3; apply Wc; rw [Cb]; simp [Kb, Fd]; try omega
  by_cases h4 : k = 4
  ·subst h4; apply Wc; rw [Cb]; simp [Kb, Fd]; try omega
  by_cases h5 : k = 5
  ·subst h5; apply Wc; rw [Cb]; simp [Kb, Fd]; try omega
  by_cases h6 : k = 6
  ·subst h6; apply Wc; rw [Cb]; simp [Kb, Fd]; try omega
  by_cases h7 : k = 7
  ·subst h7; apply Wc; rw [Cb]; simp [Kb, Fd]; try omega
  by_cases h8 : k = 8
  ·subst h8; apply Wc; rw [Cb]; simp [Kb, Fd]; try omega
  by_cases h9 : k = 9
  ·subst h9; apply Wc; rw [Cb]; simp [Kb, Fd]; try omega
  by_cases h10 : k = 10
  ·subst h10; apply Wc; rw [Cb]; simp [Kb, Fd]; try omega
  have g : ∀ j : Int, (k == j) = decide (k = j) := fun j => by rw [Bool.eq_iff_iff]; simp
  apply Wc; rw [Cb]; simp [Kb, Fd, h0, h1, h2, h3, h4, h5, h6, h7, h8, h9, h10]
 exact key k c m n
theorem Cr (a : Ba) : Hj a = some (Tb a, ()) := by
 obtain ⟨k, c, m, n, u⟩ := a
 have key : ∀ k c m n : Int, Hj (k, c, m, n, u) = some (Tb (k, c, m, n, u), ()) := by
  intro k c m n
  simp only [Hj, Sz, UF, DE, Ah, jb, Fq, Gq]
  by_cases h0 : k = 0
  ·subst h0; apply Wc; rw [Cb]; simp [Kb, Fd]; try omega
  by_cases h1 : k = 1
  ·subst h1; apply Wc; rw [Cb]; simp [Kb, Fd]; try omega
  by_cases h2 : k = 2
  ·subst h2; apply Wc; rw [Cb]; simp [Kb, Fd]; intro hn; (repeat' split) <;> omega
  by_cases h3 : k = 3
  ·subst h3; apply Wc; rw [Cb]; simp [Kb, Fd]; try omega
  by_cases h4 : k = 4
  ·subst h4; apply Wc; rw [Cb]; simp [Kb, Fd]; try omega
  by_cases h5 : k = 5
  ·subst h5; apply Wc; rw [Cb]; simp [Kb, Fd]; try omega
  by_cases h6 : k = 6
  ·subst h6; apply Wc; rw [Cb]; simp [Kb, Fd]; try omega
  by_cases h7 : k = 7
  ·subst h7; apply Wc; rw [Cb]; simp [Kb, Fd]; try omega
  by_cases h8 : k = 8
  ·subst h8; apply Wc; rw [Cb]; simp [Kb, Fd]; try omega
  by_cases h9 : k = 9
  ·subst h9; apply Wc; rw [Cb]; simp [Kb, Fd]; try omega
  by_cases h10 : k = 10
  ·subst h10; apply Wc; rw [Cb]; simp [Kb, Fd]; try omega
  have g : ∀ j : Int, (k == j) = decide (k = j) := fun j => by rw [Bool.eq_iff_iff]; simp
  apply Wc; rw [Cb]; simp [Kb, Fd, h0, h1, h2, h3, h4, h5, h6, h7, h8, h9, h10]
 exact key k c m n
noncomputable def Mc (nl : Nat) (i : Nat) (a : Ba) : Bool := Tb a && !(((i : Int) == 0) && (a.1 == 1)) && !((a.1 != 9) && decide (a.2.2.2.1 ≥ (nl : Int)))
noncomputable def Df (keys : Int) (nl : Nat) (i : Nat) (l : List Ba) : Bool := ((ja l : Int) == keys) && Md (fun _ a => Mc nl i a) 0 l
noncomputable def Xa (m : Aa) : Bool :=
 decide (1 ≤ m.1 ∧ m.1 ≤ 32) && decide (1 ≤ m.2.1.length ∧ m.2.1.length ≤ 4) && Md (fun i l => Df m.1 m.2.1.length i l) 0 m.2.1
theorem EN (m : Aa) (i : Nat) (l : List Ba) (L : List (List Ba)) (n : Int) (t : Int) (hl : l.length < 9223372036854775807) :
 Ol (((), (i : Int), L, n, t, l, (l.length : Int), (0 : Int), ()), (m, ())) =
  some (cond (Md (fun _ a => Mc m.2.1.length i a) 0 l) (.inl (((), L, n, t, ()), (m, ()))) (.inr ((false, ()), ()))) := by
 unfold Ol
 refine Yf (step := _) l (fun _ a => Mc m.2.1.length i a) (fun j => (((), (i : Int), L, n, t, l, (l.length : Int), j, ()), (m, ()))) _ _ ?_ ?_ hl
 ·intro k hk
  simp only [Wv]
  rw [Ca (show (k : Int) < (l.length : Int) by omega), Gc hk]
  simp only [y3, jb, Mc, Qq]
  cases Tb l[k] <;> cases ((i : Int) == 0) <;> cases (l[k].1 == 1) <;> cases (l[k].1 != 9) <;> cases decide (l[k].2.2.2.1 ≥ (m.2.1.length : Int)) <;> rfl
 ·simp [Wv]
theorem Vg (m : Aa) (hz : Dc La m ≤ Ma) : Ch m = some (Xa m, ()) := by
 have h20 : Ma = 1048576 := rfl
 have hz' : m.2.1.length + (List.map (Dc (.sl Cd)) m.2.1).sum ≤ Ma := by
  have : Dc La m = Dc (.sl (.sl Cd)) m.2.1 := by simp only [Dc, q9, jt]
  rw [this] at hz; exact hz
 have hl : ∀ k (hk : k < m.2.1.length), m.2.1[k].length ≤ Ma := by
  intro k hk
  have := Ez (f := Dc (.sl Cd)) hk
  have h2 : m.2.1[k].length ≤ Dc (.sl Cd) m.2.1[k] := Nat.le_add_right _ _
  omega
 have hloop : Nl (((), m.2.1, ((ja m.2.1 : Nat) : Int), (0 : Int), ()), (m, ())) =
  some (cond (Md (fun i l => Df m.1 m.2.1.length i l) 0 m.2.1) (.inl ((), ())) (.inr ((false, ()), ()))) := by
  unfold Nl
  refine Yf (step := _) m.2.1 (fun i l => Df m.1 m.2.1.length i l) (fun j => (((), m.2.1, ((ja m.2.1 : Nat) : Int), j, ()), (m, ()))) _ _ ?_ ?_ (by omega)
  ·intro k hk
   have := hl k hk
   simp only [Vv]
   rw [Ca (show (k : Int) < (m.2.1.length : Int) by omega), Gc hk]
   simp only [y3, jb, Df]
   rw [EN m k _ _ _ _ (by omega)]
   show (cond (!((m.2.1[k].length : Int) == m.1)) _ _) = _
   cases ((m.2.1[k].length : Int) == m.1) <;> cases Md (fun _ a => Mc m.2.1.length k a) 0 m.2.1[k] <;> rfl
  ·simp [Vv]
 unfold Ch
 rw [hloop]
 simp only [jb, MS, Fq, Gq]
 apply Wc
 simp only [Fd, Xa, jd, decide_eq_true_eq, jr, and_false, false_or, and_true, or_false]
 generalize Md (fun i l => Df m.1 m.2.1.length i l) 0 m.2.1 = b
 constructor
 ·rintro ⟨h1, h2, h3, h4, h5⟩; exact ⟨⟨by omega, by omega⟩, h5⟩
 ·rintro ⟨⟨h1, h2⟩, h5⟩; exact ⟨by omega, by omega, by omega, by omega, h5⟩
theorem VN (m : Aa) (i : Nat) (hi : i < m.2.1.length) (hl : m.2.1[i].length < 9223372036854775807) :
 Wl (((), (i : Int), (0 : Int), ()), (m, ())) =
  some (cond (Md (fun _ a => Mc m.2.1.length i a) 0 m.2.1[i]) (.inl (((), (i : Int), ()), (m, ()))) (.inr ((false, ()), ()))) := by
 unfold Wl
 refine Yf (step := _) m.2.1[i] (fun _ a => Mc m.2.1.length i a) (fun j => (((), (i : Int), j, ()), (m, ()))) _ _ ?_ ?_ hl
 ·intro k hk
  simp only [Aw]
  rw [Gc hi]
  simp only [jb]
  rw [Ca (show (k : Int) < (m.2.1[i].length : Int) by omega), Gc hk]
  simp only [y3, jb, Mc, Cr]
  cases Tb m.2.1[i][k] <;> cases ((i : Int) == 0) <;> cases (m.2.1[i][k].1 == 1) <;> cases (m.2.1[i][k].1 != 9) <;> cases decide (m.2.1[i][k].2.2.2.1 ≥ (m.2.1.length : Int)) <;> rfl
 ·simp [Aw, Gc hi]
theorem Um (m : Aa) (hz : Dc La m ≤ Ma) : Ij m = some (Xa m, ()) := by
 have h20 : Ma = 1048576 := rfl
 have hz' : m.2.1.length + (List.map (Dc (.sl Cd)) m.2.1).sum ≤ Ma := by
  have : Dc La m = Dc (.sl (.sl Cd)) m.2.1 := by simp only [Dc, q9, jt]
  rw [this] at hz; exact hz
 have hl : ∀ k (hk : k < m.2.1.length), m.2.1[k].length ≤ Ma := by
  intro k hk
  have := Ez (f := Dc (.sl Cd)) hk
  have h2 : m.2.1[k].length ≤ Dc (.sl Cd) m.2.1[k] := Nat.le_add_right _ _
  omega
 have hloop : Vl (((), (0 : Int), ()), (m, ())) =
  some (cond (Md (fun i l => Df m.1 m.2.1.length i l) 0 m.2.1) (.inl (((), ()), (m, ()))) (.inr ((false, ()), ()))) := by
  unfold Vl
  refine Yf (step := _) m.2.1 (fun i l => Df m.1 m.2.1.length i l) (fun j => (((), j, ()), (m, ()))) _ _ ?_ ?_ (by omega)
  ·intro k hk
   have := hl k hk
   simp only [Zv]
   rw [Ca (show (k : Int) < (m.2.1.length : Int) by omega), Gc hk]
   simp only [y3, jb, Df]
   rw [VN m k hk (by omega)]
   show (cond (!((m.2.1[k].length : Int) == m.1)) _ _) = _
   cases ((m.2.1[k].length : Int) == m.1) <;> cases Md (fun _ a => Mc m.2.1.length k a) 0 m.2.1[k] <;> rfl
  ·simp [Zv]
 unfold Ij
 rw [hloop]
 simp only [jb, MS, Fq, Gq, Ah]
 apply Wc
 simp only [Fd, Xa, jd, decide_eq_true_eq, jr, and_false, false_or, and_true, or_false]
 generalize Md (fun i l => Df m.1 m.2.1.length i l) 0 m.2.1 = b
 constructor
 ·rintro ⟨h1, h2, h3⟩; exact ⟨⟨by omega, by omega⟩, h1⟩
 ·rintro ⟨⟨h1, h2⟩, h5⟩; exact ⟨h5, by omega, by omega⟩
theorem PR {n : Nat} (h : n ≤ 62) : Re .i64 1 (n : Int) = ((2 ^ n : Nat) : Int) := by
 unfold Re
 have h1 : min (jz (n : Int)) (IntKind.bits .i64) = n := by
  show min (jz (n : Int)) 64 = n
  rw [jo]; omega
 rw [h1, Int.one_mul]
 have h2 : (2 : Int) ^ n = ((2 ^ n : Nat) : Int) := by simp
 have h3 : 2 ^ n ≤ 2 ^ 62 := Nat.pow_le_pow_right (by omega) h
 rw [h2]
 clear h1 h2
 generalize 2 ^ n = z at h3
 rw [Id (by omega) (by omega)]
structure Tg (m : Aa) : Prop where
 k1 : 1 ≤ m.1
 k2 : m.1 ≤ 32
 l1 : 1 ≤ m.2.1.length
 l2 : m.2.1.length ≤ 4
 row : ∀ i (h : i < m.2.1.length), (m.2.1[i].length : Int) = m.1
 act : ∀ i (h : i < m.2.1.length) k (hk : k < m.2.1[i].length), Mc m.2.1.length i m.2.1[i][k] = true
theorem Yc {m : Aa} (h : Xa m = true) : Tg m := by
 simp only [Xa, jd, decide_eq_true_eq] at h
 obtain ⟨⟨h1, h2⟩, h3⟩ := h
 rw [Ze] at h3
 refine ⟨h1.1, h1.2, h2.1, h2.2, fun i hi => ?_, fun i hi k hk => ?_⟩
 ·have := h3 i hi
  simp only [jt, Df, jd, beq_iff_eq] at this
  exact this.1
 ·have := h3 i hi
  simp only [jt, Df, jd, beq_iff_eq] at this
  have := Ze.1 this.2 k hk
  simpa using this
theorem Pu {nl i : Nat} {a : Ba} (h : Mc nl i a = true) : Tb a = true := by
 simp only [Mc, jd] at h
 exact h.1.1
theorem YF {nl i : Nat} {a : Ba} (h : Mc nl i a = true) (hk : a.1 ≠ 9) : a.2.2.2.1 < (nl : Int) := by
 simp only [Mc, jd, yj, Bool.and_eq_false_iff] at h
 rcases h.2 with h | h
 ·simp at h; exact absurd h hk
 ·simpa using h
def Nd (m k : Int) : Int := Lk .i64 (Mu .i64 m k) 1
theorem LA (m : Int) {k : Int} (h : 0 ≤ k) : Pm m k = some (Nd m k, ()) := by
 unfold Pm
 rw [Ca h]; rfl
def Bax : Ba := (0, 0, 0, 0, ())
def Pi (L : List (List Ba)) (i k : Nat) : Ba := (L.getD i []).getD k Bax
theorem RC {L : List (List Ba)} {i k : Nat} (hi : i < L.length) (hk : k < L[i].length) : Pi L i k = L[i][k] := by
 simp [Pi, qg, hi, hk]
theorem NX {α : Type} {L : List (List Ba)} {i k : Nat} (hi : i < L.length) (hk : k < L[i].length) (K : Ba → Option α) :
 (j4 (Ic L (i : Int)) fun x => j4 (Ic x (k : Int)) K) = K (Pi L i k) := by
 rw [Gc hi]
 simp only [jb]
 rw [Gc hk, RC hi hk]
 rfl
def Td (L : List (List Ba)) (on : Int) (k : Nat) : Nat → Nat
 | 0 => 0
 | n + 1 => cond ((Nd on ((n + 1 : Nat) : Int) == 1) && ((Pi L (n + 1) k).1 != 1)) (n + 1) (Td L on k n)
theorem TJ {L : List (List Ba)} {on : Int} {k : Nat} : ∀ n, Td L on k n ≤ n
 | 0 => jp _
 | n + 1 => by
  simp only [Td]
  cases ((Nd on ((n + 1 : Nat) : Int) == 1) && ((Pi L (n + 1) k).1 != 1)) with
  | true => exact jp _
  | false => exact Nat.le_succ_of_le (TJ n)
theorem EE {m : Aa} (hm : Tg m) (on : Int) {k : Nat} (hk : (k : Int) < m.1) : ∀ n : Nat, n < m.2.1.length →
 Vh ((on, (k : Int), (), (n : Int), ()), (m, ())) = some (cond (Td m.2.1 on k n == 0) (.inl ((), ())) (.inr ((((Td m.2.1 on k n : Nat) : Int), ()), ())))
 | 0, _ => by
  unfold Vh
  rw [Qy]
  rfl
 | n + 1, h => by
  have hrow := hm.row (n + 1) h
  unfold Vh
  rw [Qy]
  simp only [XC]
  rw [Ca (show (((n + 1 : Nat) : Int)) > 0 by omega), LA on (show (0 : Int) ≤ ((n + 1 : Nat) : Int) by omega)]
  simp only [y3, jb]
  rw [NX h (by omega), Id (by have := hm.l2; omega) (by have := hm.l2; omega), show (((n + 1 : Nat) : Int) - 1) = (n : Int) by omega]
  have ih := EE hm on hk n (by omega)
  unfold Vh at ih
  simp only [Td]
  cases h1 : (Nd on ((n + 1 : Nat) : Int) == 1) with
  | false =>
   simp only [Bool.false_and, y8, jb, qh]
   exact ih
  | true =>
   cases h2 : ((Pi m.2.1 (n + 1) k).1 != 1) with
   | true => rfl
   | false =>
    simp only [Bool.and_false, y3, y8, jb, qh]
    exact ih
theorem LP {m : Aa} (hm : Tg m) (on : Int) {k : Nat} (hk : (k : Int) < m.1) :
 Ju m on (k : Int) = some (((Td m.2.1 on k (m.2.1.length - 1) : Nat) : Int), ()) := by
 have h1 := hm.l1
 have h2 := hm.l2
 unfold Ju
 rw [Id (by omega) (by omega), show ((m.2.1.length : Int) - 1) = ((m.2.1.length - 1 : Nat) : Int) by omega, EE hm on hk _ (by omega)]
 cases h : (Td m.2.1 on k (m.2.1.length - 1) == 0) with
 | false => rfl
 | true =>
  have h' : Td m.2.1 on k (m.2.1.length - 1) = 0 := by simpa using h
  rw [h']; rfl
theorem VE {m : Aa} (hm : Tg m) (on : Int) {k : Nat} (hk : (k : Int) < m.1) : ∀ n : Nat, n < m.2.1.length →
 Wh ((on, (k : Int), (), (n : Int), ()), (m, ())) = some (cond (Td m.2.1 on k n == 0) (.inl ((), ())) (.inr ((((Td m.2.1 on k n : Nat) : Int), ()), ())))
 | 0, _ => by
  unfold Wh
  rw [Qy]
  rfl
 | n + 1, h => by
  have hrow := hm.row (n + 1) h
  unfold Wh
  rw [Qy]
  simp only [ID]
  rw [Ca (show (((n + 1 : Nat) : Int)) > 0 by omega), Ca (show (0 : Int) ≤ ((n + 1 : Nat) : Int) by omega)]
  simp only [y3]
  rw [NX h (by omega), Id (by have := hm.l2; omega) (by have := hm.l2; omega), show (((n + 1 : Nat) : Int) - 1) = (n : Int) by omega]
  have ih := VE hm on hk n (by omega)
  unfold Wh at ih
  simp only [Td]
  show j4 (cond (Nd on ((n + 1 : Nat) : Int) == 1) _ _) _ = _
  cases h1 : (Nd on ((n + 1 : Nat) : Int) == 1) with
  | false =>
   simp only [Bool.false_and, y8, jb, qh]
   exact ih
  | true =>
   cases h2 : ((Pi m.2.1 (n + 1) k).1 != 1) with
   | true => rfl
   | false =>
    simp only [Bool.and_false, y3, y8, jb, qh]
    exact ih
def Lh (m : Aa) (on : Int) (k : Nat) : Nat := Td m.2.1 on k (m.2.1.length - 1)
theorem HE {m : Aa} (hm : Tg m) (on : Int) (k : Nat) : Lh m on k < m.2.1.length := by
 have := TJ (L := m.2.1) (on := on) (k := k) (m.2.1.length - 1)
 have := hm.l1
 unfold Lh
 omega
theorem IQ {m : Aa} (hz : Dc La m ≤ Ma) (hv : Xa m = true) (on : Int) {k : Nat} (hk : (k : Int) < m.1) :
 Uy m on (k : Int) = some (((Lh m on k : Nat) : Int), ()) := by
 have hm := Yc hv
 have h1 := hm.l1
 have h2 := hm.l2
 have h3 := hm.k2
 unfold Uy
 rw [Um m hz, hv, Id (n := m.1 - 1) (by omega) (by omega)]
 simp only [jb, jg, y8, Ah]
 rw [Ca (show (0 : Int) ≤ (k : Int) ∧ (k : Int) ≤ m.1 - 1 by omega), Id (by omega) (by omega), show ((m.2.1.length : Int) - 1) = ((m.2.1.length - 1 : Nat) : Int) by omega, VE hm on hk _ (by omega)]
 simp only [jg, y8, jb]
 show _ = some (((Td m.2.1 on k (m.2.1.length - 1) : Nat) : Int), ())
 cases h : (Td m.2.1 on k (m.2.1.length - 1) == 0) with
 | false => rfl
 | true =>
  have h' : Td m.2.1 on k (m.2.1.length - 1) = 0 := by simpa using h
  rw [h']; rfl
theorem TN {m : Aa} (hz : Dc La m ≤ Ma) (hv : Xa m = true) (on : Int) {k : Nat} (hk : (k : Int) < m.1) :
 Qr m on (k : Int) = some (Pi m.2.1 (Lh m on k) k, ()) := by
 have hm := Yc hv
 have hl := HE hm on k
 have hrow := hm.row _ hl
 unfold Qr
 rw [IQ hz hv on hk]
 simp only [jb]
 rw [Ea (by omega)]
 simp only [y8]
 rw [NX hl (by omega)]
theorem TG {nl i : Nat} {a : Ba} (h : Mc nl i a = true) (hk : a.1 = 3 ∨ a.1 = 4 ∨ a.1 = 5 ∨ a.1 = 7) : 0 ≤ a.2.2.2.1 ∧ a.2.2.2.1 < (nl : Int) ∧ a.2.2.2.1 ≤ 3 := by
 have h1 := Pu h
 rw [Cb] at h1
 have h2 := YF h (by rcases hk with hk | hk | hk | hk <;> rw [hk] <;> decide)
 unfold Kb at h1
 omega
noncomputable def Pg (a : Ba) : Bool := Tb a && ((a.1 == 6) || (a.1 == 7))
noncomputable def Gz (a : Ba) : Ba := cond (Pg a) (2, a.2.1, 0, 0, ()) a
noncomputable def Kn (a : Ba) : Ba := cond (Pg a) (cond (a.1 == 6) (2, 0, a.2.2.1, 0, ()) (3, 0, 0, a.2.2.2.1, ())) a
theorem UL (a : Ba) : Rp a = some (Pg a, ()) := by
 unfold Rp Pg
 rw [Qq]
 cases Tb a <;> cases (a.1 == 6) <;> rfl
theorem Bw (a : Ba) : Km a = some (Pg a, ()) := by
 unfold Km Pg
 rw [Cr]
 cases Tb a <;> cases (a.1 == 6) <;> rfl
theorem CU (a : Ba) : EC a = some (Gz a, ()) := by
 unfold EC Gz
 rw [UL]
 cases Pg a <;> rfl
theorem LI (a : Ba) : Vy a = some (Gz a, ()) := by
 unfold Vy Gz
 rw [Bw]
 cases Pg a <;> rfl
theorem QR (a : Ba) : Ow a = some (Kn a, ()) := by
 unfold Ow Kn
 rw [Bw]
 cases Pg a <;> cases (a.1 == 6) <;> rfl
def Ej (a : Ba) : Bool := (a.1 == 3) || (a.1 == 4) || (a.1 == 5) || (a.1 == 7)
def Gt (u : Int) (a : Ba) : Int := cond (Ej a) (Ed .i64 u (Re .i64 1 a.2.2.2.1)) u
def Cl (u : Int) (i : Nat) (row : List Ba) : Int := cond (Nd u (i : Int) == 1) (row.foldl Gt u) u
theorem Jaj : ∀ u : Fin 16, ∀ n : Fin 4, 0 ≤ Ed .i64 (u.val : Int) (Re .i64 1 (n.val : Int)) ∧ Ed .i64 (u.val : Int) (Re .i64 1 (n.val : Int)) < 16 ∧
 ∀ i : Fin 4, Nd (u.val : Int) (i.val : Int) = 1 → Nd (Ed .i64 (u.val : Int) (Re .i64 1 (n.val : Int))) (i.val : Int) = 1 := by decide +kernel
theorem DQ {u : Int} (hu : 0 ≤ u ∧ u < 16) {nl i j : Nat} (hi : i < 4) {a : Ba} (ha : Mc nl j a = true) :
 (0 ≤ Gt u a ∧ Gt u a < 16) ∧ (Nd u (i : Int) = 1 → Nd (Gt u a) (i : Int) = 1) := by
 unfold Gt
 cases ht : Ej a with
 | false => exact ⟨hu, fun h => h⟩
 | true =>
  have hn := TG ha (by simp only [Ej, qw, beq_iff_eq] at ht; omega)
  obtain ⟨u', rfl⟩ := jw hu.1
  obtain ⟨n', hn'⟩ := jw hn.1
  have := Jaj ⟨u', by omega⟩ ⟨n', by omega⟩
  rw [hn']
  exact ⟨⟨this.1, this.2.1⟩, this.2.2 ⟨i, hi⟩⟩
theorem XA {nl i j : Nat} (hi : i < 4) : ∀ (row : List Ba) (k : Nat) (u : Int), (0 ≤ u ∧ u < 16) → (∀ a ∈ row, Mc nl j a = true) →
 Jd (fun _ u a => cond (Nd u (i : Int) == 1) (Gt u a) u) k u row = Cl u i row ∧ (0 ≤ Cl u i row ∧ Cl u i row < 16)
 | [], _, u, hu, _ => by
  refine ⟨?_, ?_⟩
  ·simp only [Jd, Cl, List.foldl_nil]; cases (Nd u (i : Int) == 1) <;> rfl
  ·simp only [Cl, List.foldl_nil]; cases (Nd u (i : Int) == 1) <;> exact hu
 | a :: row, k, u, hu, h => by
  have ha := DQ (i := i) hu hi (h a (by simp))
  simp only [Jd]
  cases hb : (Nd u (i : Int) == 1) with
  | true =>
   have ih := XA hi row (k + 1) (Gt u a) ha.1 fun b hb => h b (by simp [hb])
   have hb2 : (Nd (Gt u a) (i : Int) == 1) = true := by
    have := ha.2 (by simpa using hb)
    rw [this]; rfl
   simp only [y3]
   rw [ih.1]
   have e : Cl (Gt u a) i row = Cl u i (a :: row) := by
    simp only [Cl, hb, hb2, y3, List.foldl_cons]
   rw [← e]
   exact ⟨rfl, ih.2⟩
  | false =>
   have ih := XA hi row (k + 1) u hu fun b hb => h b (by simp [hb])
   simp only [y8]
   rw [ih.1]
   have e : Cl u i row = Cl u i (a :: row) := by simp only [Cl, hb, y8]
   rw [← e]
   exact ⟨rfl, ih.2⟩
theorem QX {nl i j : Nat} (hi : i < 4) (row : List Ba) (hrow : ∀ a ∈ row, Mc nl j a = true) (hn : row.length < 9223372036854775807) (u : Int) (hu : 0 ≤ u ∧ u < 16) (c d : Int) (L : List (List Ba)) (n t : Int) (m : Aa) :
 Mj (((), u, (i : Int), c, d, L, n, t, row, (row.length : Int), (0 : Int), ()), (m, ())) = some (.inl (((), Cl u i row, c, d, L, n, t, ()), (m, ()))) := by
 unfold Mj
 have hl := (Zi (step := fun x : ((Unit × (Int × (Int × (Int × (Int × ((List (List Ba)) × (Int × (Int × ((List Ba) × (Int × (Int × Unit))))))))))) × (Aa × Unit)) =>
  Pl x.1.1 x.1.2.1 x.1.2.2.1 x.1.2.2.2.1 x.1.2.2.2.2.1 x.1.2.2.2.2.2.1 x.1.2.2.2.2.2.2.1 x.1.2.2.2.2.2.2.2.1 x.1.2.2.2.2.2.2.2.2.1 x.1.2.2.2.2.2.2.2.2.2.1 x.1.2.2.2.2.2.2.2.2.2.2.1 x.2.1)
  row (fun _ u a => cond (Nd u (i : Int) == 1) (Gt u a) u) (fun u k => (((), u, (i : Int), c, d, L, n, t, row, (row.length : Int), k, ()), (m, ()))) (fun u => .inl (((), u, c, d, L, n, t, ()), (m, ())))
  (fun _ u => 0 ≤ u ∧ u < 16) (by
   intro k hk u hu
   have hok := hrow row[k] (qi hk)
   refine ⟨?_, ?_⟩
   ·simp only [Pl]
    rw [Ca (show (k : Int) < (row.length : Int) by omega), Gc hk, LA u (show (0 : Int) ≤ (i : Int) by omega)]
    simp only [y3, jb]
    generalize row[k] = a at hok
    unfold Gt Ej
    cases h3 : (a.1 == 3) with
    | true =>
     rw [Ca (TG hok (.inl (by simpa using h3))).1]
     cases (Nd u (i : Int) == 1) <;> rfl
    | false =>
     cases h4 : (a.1 == 4) with
     | true =>
      rw [Ca (TG hok (.inr (.inl (by simpa using h4)))).1]
      cases (Nd u (i : Int) == 1) <;> rfl
     | false =>
      cases h5 : (a.1 == 5) with
      | true =>
       rw [Ca (TG hok (.inr (.inr (.inl (by simpa using h5))))).1]
       cases (Nd u (i : Int) == 1) <;> rfl
      | false =>
       cases h7 : (a.1 == 7) with
       | true =>
        rw [Ca (TG hok (.inr (.inr (.inr (by simpa using h7))))).1]
        cases (Nd u (i : Int) == 1) <;> rfl
       | false => cases (Nd u (i : Int) == 1) <;> rfl
   ·show 0 ≤ cond (Nd u (i : Int) == 1) (Gt u row[k]) u ∧ cond (Nd u (i : Int) == 1) (Gt u row[k]) u < 16
    cases (Nd u (i : Int) == 1) with
    | true => exact (DQ (i := i) hu hi hok).1
    | false => exact hu) (by
   intro u _
   simp only [Pl]
   rw [Ea (by omega)]; rfl) hn u hu).1
 rw [(XA hi row 0 u hu hrow).1] at hl
 exact hl
def SB (u : Int) (L : List (List Ba)) : Int := Jd (fun i u row => Cl u i row) 0 u L
theorem HU {m : Aa} (hm : Tg m) (u : Int) (hu : 0 ≤ u ∧ u < 16) (c d : Int) :
 Fk (((), u, c, d, m.2.1, (m.2.1.length : Int), (0 : Int), ()), (m, ())) = some (.inl (((), SB u m.2.1, c, d, ()), (m, ()))) ∧ (0 ≤ SB u m.2.1 ∧ SB u m.2.1 < 16) := by
 unfold Fk
 have hl2 := hm.l2
 have hk2 := hm.k2
 exact Zi (step := fun x : ((Unit × (Int × (Int × (Int × ((List (List Ba)) × (Int × (Int × Unit))))))) × (Aa × Unit)) =>
  Xm x.1.1 x.1.2.1 x.1.2.2.1 x.1.2.2.2.1 x.1.2.2.2.2.1 x.1.2.2.2.2.2.1 x.1.2.2.2.2.2.2.1 x.2.1)
  m.2.1 (fun i u row => Cl u i row) (fun u k => (((), u, c, d, m.2.1, (m.2.1.length : Int), k, ()), (m, ()))) (fun u => .inl (((), u, c, d, ()), (m, ())))
  (fun _ u => 0 ≤ u ∧ u < 16) (by
   intro k hk u hu
   have hrow := hm.row k hk
   have hall : ∀ a ∈ m.2.1[k], Mc m.2.1.length k a = true := by
    intro a ha
    obtain ⟨j, hj, rfl⟩ := qs.1 ha
    exact hm.act k hk j hj
   refine ⟨?_, (XA (i := k) (by omega) _ 0 u hu hall).2⟩
   simp only [Xm]
   rw [Ca (show (k : Int) < (m.2.1.length : Int) by omega), Gc hk]
   simp only [y3, jb]
   rw [QX (by omega) _ hall (by omega) u hu]
   rfl) (by
   intro u _
   simp only [Xm]
   rw [Ea (by omega)]; rfl) (by omega) u hu
def Hz (m : Aa) : Int := Jd (fun _ u (_ : List Ba) => SB u m.2.1) 0 1 m.2.1
theorem ZA (m : Aa) (hz : Dc La m ≤ Ma) : Ct m = some (cond (Xa m) (Hz m) 0, ()) := by
 unfold Ct
 rw [Vg m hz]
 cases hv : Xa m with
 | false => rfl
 | true =>
  have hm := Yc hv
  have hl2 := hm.l2
  have hl := (Zi (step := fun x : ((Unit × (Int × (Int × (Int × Unit)))) × (Aa × Unit)) => Wm x.1.1 x.1.2.1 x.1.2.2.1 x.1.2.2.2.1 x.2.1)
   m.2.1 (fun _ u (_ : List Ba) => SB u m.2.1) (fun u k => (((), u, (m.2.1.length : Int), k, ()), (m, ()))) (fun u => .inl ((u, ()), ())) (fun _ u => 0 ≤ u ∧ u < 16) (by
    intro k hk u hu
    have hmid := HU hm u hu (m.2.1.length : Int) (k : Int)
    refine ⟨?_, hmid.2⟩
    simp only [Wm]
    rw [Ca (show (k : Int) < (m.2.1.length : Int) by omega), hmid.1]
    rfl) (by
    intro u _
    simp only [Wm]
    rw [Ea (by omega)]; rfl) (by omega) 1 (by omega)).1
  simp only [jb, jg, y8, y3]
  unfold Jo
  erw [hl]
  rfl
theorem GP {nl j : Nat} {a : Ba} (ha : Mc nl j a = true) : (((Kn a).1 == 3) || ((Kn a).1 == 4) || ((Kn a).1 == 5)) = Ej a ∧ (Ej a = true → (Kn a).2.2.2.1 = a.2.2.2.1) := by
 have h1 := Pu ha
 unfold Kn Pg Ej
 rw [h1]
 cases h6 : (a.1 == 6) with
 | true =>
  have : a.1 = 6 := by simpa using h6
  rw [this]
  exact ⟨rfl, fun h => by simp at h⟩
 | false =>
  cases h7 : (a.1 == 7) with
  | true =>
   have : a.1 = 7 := by simpa using h7
   rw [this]
   exact ⟨rfl, fun _ => rfl⟩
  | false => exact ⟨by simp, fun _ => rfl⟩
theorem RS {nl i j : Nat} (hi : i < 4) : ∀ (row : List Ba) (k : Nat) (u : Int), (0 ≤ u ∧ u < 16) → (∀ a ∈ row, Mc nl j a = true) →
 (match Ve (fun _ u a => cond (Nd u (i : Int) == 1) (.inl (Gt u a)) (.inr u)) k u row with | .inl s => s | .inr s => s) = Cl u i row
 | [], _, u, _, _ => by simp only [Ve, Cl, List.foldl_nil]; cases (Nd u (i : Int) == 1) <;> rfl
 | a :: row, k, u, hu, h => by
  have ha := DQ (i := i) hu hi (h a (by simp))
  simp only [Ve]
  cases hb : (Nd u (i : Int) == 1) with
  | true =>
   have ih := RS hi row (k + 1) (Gt u a) ha.1 fun b hb => h b (by simp [hb])
   have hb2 : (Nd (Gt u a) (i : Int) == 1) = true := by
    have := ha.2 (by simpa using hb)
    rw [this]; rfl
   simp only [y3]
   rw [ih]
   simp only [Cl, hb, hb2, y3, List.foldl_cons]
  | false => simp only [Cl, hb, y8]
theorem YY {m : Aa} (hm : Tg m) (i : Nat) (hi : i < m.2.1.length) (u : Int) (hu : 0 ≤ u ∧ u < 16) (c : Int) :
 Oj (((), u, c, (i : Int), (0 : Int), ()), (m, ())) = some (.inl (((), Cl u i m.2.1[i], c, (i : Int), ()), (m, ()))) := by
 have hl2 := hm.l2
 have hk2 := hm.k2
 have hrow := hm.row i hi
 have hall : ∀ a ∈ m.2.1[i], Mc m.2.1.length i a = true := by
  intro a ha
  obtain ⟨j, hj, rfl⟩ := qs.1 ha
  exact hm.act i hi j hj
 unfold Oj
 have hl := Cm (step := fun x : ((Unit × (Int × (Int × (Int × (Int × Unit))))) × (Aa × Unit)) => Yl x.1.1 x.1.2.1 x.1.2.2.1 x.1.2.2.2.1 x.1.2.2.2.2.1 x.2.1)
  m.2.1[i] (fun _ u a => cond (Nd u (i : Int) == 1) (.inl (Gt u a)) (.inr u)) (fun u k => (((), u, c, (i : Int), k, ()), (m, ()))) (fun u => .inl (((), u, c, (i : Int), ()), (m, ()))) (fun u => .inl (((), u, c, (i : Int), ()), (m, ())))
  (fun _ u => 0 ≤ u ∧ u < 16) (by
   intro k hk u hu
   have hok := hall m.2.1[i][k] (qi hk)
   refine ⟨?_, ?_⟩
   ·simp only [Yl]
    rw [Ca (show (k : Int) < m.1 by omega), Ca (show (0 : Int) ≤ (i : Int) by omega), NX hi hk, RC hi hk]
    simp only [y3, QR, jb]
    show cond (Nd u (i : Int) == 1) _ _ = _
    generalize m.2.1[i][k] = a at hok
    obtain ⟨h1, h2⟩ := GP hok
    cases hb : (Nd u (i : Int) == 1) with
    | false => rfl
    | true =>
     simp only [y3, Gt]
     cases ht : Ej a with
     | false =>
      rw [ht] at h1
      simp only [yq] at h1
      rw [h1.1.1, h1.1.2, h1.2]; rfl
     | true =>
      have hn := TG hok (by simp only [Ej, qw, beq_iff_eq] at ht; omega)
      rw [h2 ht, Ca hn.1]
      rw [ht] at h1
      cases h3 : ((Kn a).1 == 3) with
      | true => rfl
      | false =>
       cases h4 : ((Kn a).1 == 4) with
       | true => rfl
       | false =>
        rw [h3, h4] at h1
        simp only [yr] at h1
        rw [h1]; rfl
   ·intro s' hs
    cases hb : (Nd u (i : Int) == 1) with
    | false => rw [hb] at hs; simp at hs
    | true =>
     rw [hb] at hs
     simp only [y3, Sum.inl.injEq] at hs
     subst hs
     exact (DQ (i := i) hu (by omega) hok).1) (by
   intro u _
   simp only [Yl]
   rw [Ea (by omega)]; rfl) (by omega) u hu
 have hf := RS (i := i) (by omega) m.2.1[i] 0 u hu hall
 refine Eq.trans hl ?_
 cases hfe : Ve (fun _ u a => cond (Nd u (i : Int) == 1) (.inl (Gt u a)) (.inr u)) 0 u m.2.1[i] with
 | inl s => rw [hfe] at hf; simp only at hf; rw [hf]
 | inr s => rw [hfe] at hf; simp only at hf; rw [hf]
theorem QU {m : Aa} (hm : Tg m) (u : Int) (hu : 0 ≤ u ∧ u < 16) (c : Int) :
 Jk (((), u, c, (0 : Int), ()), (m, ())) = some (.inl (((), SB u m.2.1, c, ()), (m, ()))) ∧ (0 ≤ SB u m.2.1 ∧ SB u m.2.1 < 16) := by
 unfold Jk
 have hl2 := hm.l2
 exact Zi (step := fun x : ((Unit × (Int × (Int × (Int × Unit)))) × (Aa × Unit)) => Bn x.1.1 x.1.2.1 x.1.2.2.1 x.1.2.2.2.1 x.2.1)
  m.2.1 (fun i u row => Cl u i row) (fun u k => (((), u, c, k, ()), (m, ()))) (fun u => .inl (((), u, c, ()), (m, ())))
  (fun _ u => 0 ≤ u ∧ u < 16) (by
   intro k hk u hu
   have hall : ∀ a ∈ m.2.1[k], Mc m.2.1.length k a = true := by
    intro a ha
    obtain ⟨j, hj, rfl⟩ := qs.1 ha
    exact hm.act k hk j hj
   refine ⟨?_, (XA (i := k) (by omega) _ 0 u hu hall).2⟩
   simp only [Bn]
   rw [Ca (show (k : Int) < (m.2.1.length : Int) by omega), YY hm k hk u hu]
   rfl) (by
   intro u _
   simp only [Bn]
   rw [Ea (by omega)]; rfl) (by omega) u hu
theorem KK (m : Aa) (hz : Dc La m ≤ Ma) : Mt m = some (cond (Xa m) (Hz m) 0, ()) := by
 unfold Mt
 rw [Um m hz]
 cases hv : Xa m with
 | false => rfl
 | true =>
  have hm := Yc hv
  have hl2 := hm.l2
  have hl := (Zi (step := fun x : ((Unit × (Int × (Int × Unit))) × (Aa × Unit)) => An x.1.1 x.1.2.1 x.1.2.2.1 x.2.1)
   m.2.1 (fun _ u (_ : List Ba) => SB u m.2.1) (fun u k => (((), u, k, ()), (m, ()))) (fun u => .inl ((u, ()), ())) (fun _ u => 0 ≤ u ∧ u < 16) (by
    intro k hk u hu
    have hmid := QU hm u hu (k : Int)
    refine ⟨?_, hmid.2⟩
    simp only [An]
    rw [Ca (show (k : Int) < (m.2.1.length : Int) by omega), hmid.1]
    rfl) (by
    intro u _
    simp only [An]
    rw [Ea (by omega)]; rfl) (by omega) 1 (by omega)).1
  simp only [jb, jg, y8, y3]
  unfold Uo
  erw [hl]
  rfl
def He {α : Type} (p : α → Bool) : Nat → List α → Int
 | _, [] => -1
 | k, x :: xs => cond (p x) (k : Int) (He p (k + 1) xs)
theorem KE {X R : Type} {s : X → Option (X ⊕ R)} (I : Nat → X → Prop) (Q : R → Prop)
 (h : ∀ n x, I n x → (∃ r, s x = some (.inr r) ∧ Q r) ∨ (∃ y m, m < n ∧ s x = some (.inl y) ∧ I m y)) : ∀ n x, I n x → ∃ r, Ib s x = some r ∧ Q r := by
 intro n
 induction n using Nat.strongRecOn with
 | _ n ih =>
  intro x hi
  rcases h n x hi with ⟨r, h1, hq⟩ | ⟨y, m, hm, h1, hi'⟩
  ·exact ⟨r, by rw [Wd h1]; rfl, hq⟩
  ·obtain ⟨r, g1, hq⟩ := ih m hm y hi'
   exact ⟨r, by rw [Wd h1]; exact g1, hq⟩
def VS {α β : Type} : α ⊕ β → Bool
 | .inl _ => true
 | .inr _ => false
noncomputable def Vp (s : Int) (x : Pa) : Bool := decide (0 ≤ x.1 ∧ x.1 ≤ 31) && (!(Nd s x.1 == 1) && (Tb x.2.1 && (!(x.2.1.1 == 1) && (!(x.2.1.1 == 6) && !(x.2.1.1 == 7)))))
noncomputable def Pq (s : Int) (x : Pa) : Int ⊕ Unit := cond (Vp s x) (.inl (Ed .i64 s (Re .i64 1 x.1))) (.inr ())
noncomputable def PV (l : List Pa) : Int ⊕ Unit := Ve (fun _ s x => Pq s x) 0 0 l
noncomputable def Pe (l : List Pa) : Bool := VS (PV l)
theorem Jv (l : List Pa) (hn : l.length ≤ Ma) : Ek l = some (Pe l, ()) := by
 have h20 : Ma = 1048576 := rfl
 have hl := Cm (step := fun x => At x.1.1 x.1.2.1 x.1.2.2.1 x.1.2.2.2.1) l (fun _ s x => Pq s x) (fun s i => ((s, l, ((ja l : Nat) : Int), i, ()), ()))
  (fun _ => .inl ((), ())) (fun _ => .inr ((false, ()), ())) (fun _ _ => True) (by
   intro k hk s _
   refine ⟨?_, fun _ _ => trivial⟩
   simp only [At]
   rw [Ca (show (k : Int) < (ja l : Int) by omega), Gc hk]
   simp only [y3, jb]
   generalize l[k] = x
   simp only [Pq, Vp, Qq, jb]
   by_cases h1 : 0 ≤ x.1
   ·rw [Ea (show ¬ x.1 < 0 by omega), LA s h1]
    by_cases h2 : x.1 ≤ 31
    ·rw [Ea (show ¬ x.1 > 31 by omega), Ca (show 0 ≤ x.1 ∧ x.1 ≤ 31 from ⟨h1, h2⟩), Ca h1]
     simp only [jb, y8]
     cases Nd s x.1 == 1 <;> cases Tb x.2.1 <;> cases x.2.1.1 == 1 <;> cases x.2.1.1 == 6 <;> cases x.2.1.1 == 7 <;> rfl
    ·rw [Ca (show x.1 > 31 by omega), Ea (show ¬ (0 ≤ x.1 ∧ x.1 ≤ 31) by omega)]; rfl
   ·rw [Ca (show x.1 < 0 by omega), Ea (show ¬ (0 ≤ x.1 ∧ x.1 ≤ 31) by omega)]; rfl)
  (by
   intro s _
   simp only [At]
   rw [Ea (by omega)]; rfl) (by omega) 0 trivial
 unfold Ek Du
 erw [hl]
 show j4 (some _) _ = _
 simp only [jb, Pe, PV]
 cases Ve (fun x s x => Pq s x) 0 0 l <;> rfl
theorem IG (l : List Pa) (hn : l.length ≤ Ma) : To l = some (Pe l, ()) := by
 have h20 : Ma = 1048576 := rfl
 have hl := Cm (step := fun x => Kt x.1.1 x.1.2.1 x.1.2.2.1) l (fun _ s x => Pq s x) (fun s i => ((l, s, i, ()), ()))
  (fun _ => .inl ((), ())) (fun _ => .inr ((false, ()), ())) (fun _ _ => True) (by
   intro k hk s _
   refine ⟨?_, fun _ _ => trivial⟩
   simp only [Kt]
   rw [Ca (show (k : Int) < (ja l : Int) by omega), Gc hk]
   simp only [y3, jb]
   generalize l[k] = x
   simp only [Pq, Vp, Cr, Bw, Ah, jb, Pg]
   by_cases h1 : 0 ≤ x.1 ∧ x.1 ≤ 31
   ·rw [Ca h1, Ca h1.1]
    simp only [Nd]
    cases Lk .i64 (Mu .i64 s x.1) 1 == 1 <;> cases Tb x.2.1 <;> cases x.2.1.1 == 1 <;> cases x.2.1.1 == 6 <;> cases x.2.1.1 == 7 <;> rfl
   ·rw [Ea h1]; rfl)
  (by
   intro s _
   simp only [Kt]
   rw [Ea (by omega)]; rfl) (by omega) 0 trivial
 unfold To Vu
 erw [hl]
 show j4 (some _) _ = _
 simp only [jb, Pe, PV]
 cases Ve (fun x s x => Pq s x) 0 0 l <;> rfl
structure PC (x : Pa) : Prop where
 lo : 0 ≤ x.1
 hi : x.1 ≤ 31
 act : Tb x.2.1 = true
 n1 : x.2.1.1 ≠ 1
 n6 : x.2.1.1 ≠ 6
 n7 : x.2.1.1 ≠ 7
theorem Iaa {s : Int} {x : Pa} (h : Vp s x = true) : PC x ∧ Nd s x.1 ≠ 1 := by
 simp only [Vp, jd, decide_eq_true_eq, yj, beq_eq_false_iff_ne] at h
 exact ⟨⟨h.1.1, h.1.2, h.2.2.1, h.2.2.2.1, h.2.2.2.2.1, h.2.2.2.2.2⟩, h.2.1⟩
theorem LX : ∀ {l : List Pa} {k : Nat} {s : Int}, VS (Ve (fun _ s x => Pq s x) k s l) = true → ∀ x ∈ l, PC x
 | [], _, _, _, x, hx => by simp at hx
 | y :: l, k, s, h, x, hx => by
  simp only [Ve, Pq] at h
  cases hc : Vp s y with
  | false => rw [hc] at h; simp [VS] at h
  | true =>
   rw [hc] at h
   simp only [y3] at h
   rcases jq.1 hx with rfl | hx
   ·exact (Iaa hc).1
   ·exact LX h x hx
theorem RJ {l : List Pa} (h : Pe l = true) : ∀ x ∈ l, PC x := LX h
theorem YO {α β : Type} (p : β → Bool) (f : α → β) : ∀ (xs : List α) (k : Nat), He p k (xs.map f) = He (fun x => p (f x)) k xs
 | [], _ => rfl
 | x :: xs, k => by simp only [yh, He, YO p f xs]
theorem FJ {α : Type} (p : α → Bool) : ∀ (xs : List α) (k : Nat), He p k xs = -1 ∨ ∃ j : Nat, j < xs.length ∧ He p k xs = ((k + j : Nat) : Int)
 | [], _ => .inl rfl
 | x :: xs, k => by
  simp only [He]
  cases p x with
  | true => exact .inr ⟨0, by simp, by simp⟩
  | false =>
   rcases FJ p xs (k + 1) with h | ⟨j, h1, h2⟩
   ·exact .inl h
   ·exact .inr ⟨j + 1, by simp; omega, by simp only [y8]; rw [h2]; omega⟩
theorem GJ {α : Type} (p : α → Bool) : ∀ (xs : List α) (k : Nat), (Ve (fun k (_ : Unit) x => cond (p x) (.inr (k : Int)) (.inl ())) k () xs : Unit ⊕ Int) = if He p k xs = -1 then .inl () else .inr (He p k xs)
 | [], _ => rfl
 | x :: xs, k => by
  rcases Bool.eq_false_or_eq_true (p x) with hp | hp
  ·simp only [Ve, He, hp, y3]; rw [if_neg (by omega)]
  ·simp only [Ve, He, hp, y8]; exact GJ p xs (k + 1)
theorem OA {X R α : Type} {step : X → Option (X ⊕ R)} (xs : List α) (p : α → Bool) (I : Int → X) (no : R) (yes : Int → R)
 (h : ∀ k (hk : k < xs.length), step (I (k : Int)) = some (cond (p xs[k]) (.inr (yes (k : Int))) (.inl (I (j6 .i64 ((k : Int) + 1))))))
 (he : step (I (xs.length : Int)) = some (.inr no)) (hn : xs.length < 9223372036854775807) :
 Ib step (I 0) = some (if He p 0 xs = -1 then no else yes (He p 0 xs)) := by
 have := Cm (step := step) xs (fun k (_ : Unit) x => cond (p x) (.inr (k : Int)) (.inl ())) (fun _ i => I i) (fun _ => no) yes (fun _ _ => True) (fun k hk s _ => by
  refine ⟨?_, fun _ _ => trivial⟩
  rw [h k hk]
  cases p xs[k] <;> rfl) (fun _ _ => he) hn () trivial
 rw [this, GJ]
 by_cases hc : He p 0 xs = -1
 ·rw [if_pos hc, if_pos hc]
 ·rw [if_neg hc, if_neg hc]
def Mh (h : Pa) : Lc := (h.2.1.2.1, h.2.1.2.2.1, ())
def Sn (c m : Int) (h : Pa) : Bool := (h.2.1.2.1 == c) && (h.2.1.2.2.1 == m)
theorem BR (l : List Lc) (c : Lc) (hn : l.length ≤ Ma) : Kw l c = some (He (fun x => Jf Qg x c) 0 l, ()) := by
 have h20 : Ma = 1048576 := rfl
 have hl := OA (step := fun x => Et x.1.1 x.1.2.1 x.1.2.2.1 x.1.2.2.2.1 x.2.1) l (fun x => Jf Qg x c) (fun i => (((), l, ((ja l : Nat) : Int), i, ()), (c, ())))
  (.inl ((), ())) (fun i => .inr ((i, ()), ())) (by
   intro k hk
   simp only [Et]
   rw [Ca (show (k : Int) < (ja l : Int) by omega), Gc hk]
   simp only [y3, jb]
   cases Jf Qg l[k] c <;> rfl) (by
   simp only [Et]
   rw [Ea (by omega)]; rfl) (by omega)
 unfold Kw Ku
 erw [hl]
 simp only [jb]
 by_cases hc : He (fun x => Jf Qg x c) 0 l = -1
 ·rw [if_pos hc, hc]; rfl
 ·rw [if_neg hc]; rfl
theorem TR (l : List Pa) (x : Fe) (hn : l.length ≤ Ma) : Cs l x = some (He (Sn x.2.1 x.2.2.1) 0 l, ()) := by
 have h20 : Ma = 1048576 := rfl
 have hl := OA (step := fun y => Pt y.1.1 y.1.2.1 y.1.2.2.1 y.2.1) l (Sn x.2.1 x.2.2.1) (fun i => ((l, (), i, ()), (x, ())))
  (.inl ((), ())) (fun i => .inr ((i, ()), ())) (by
   intro k hk
   simp only [Pt]
   rw [Ca (show (k : Int) < (ja l : Int) by omega), Gc hk]
   simp only [y3, jb, Sn]
   cases l[k].2.1.2.1 == x.2.1 <;> cases l[k].2.1.2.2.1 == x.2.2.1 <;> rfl) (by
   simp only [Pt]
   rw [Ea (by omega)]; rfl) (by omega)
 unfold Cs Cv
 erw [hl]
 simp only [jb]
 by_cases hc : He (Sn x.2.1 x.2.2.1) 0 l = -1
 ·rw [if_pos hc, hc]; rfl
 ·rw [if_neg hc]; rfl
theorem A7 (L : List Pa) (c m : Int) : He (fun x => Jf Qg x (c, m, ())) 0 (L.map Mh) = He (Sn c m) 0 L := by
 rw [YO]
 congr 1
 funext h
 simp only [Mh, Jf, Sn, Bool.and_true]
def Qv {α : Type} (l : List α) (r : Nat) : List α := jf (Cc l 0 r) (Cc l (r + 1) l.length)
theorem YZ {α β : Type} (f : α → β) (l : List α) (r : Nat) : Qv (l.map f) r = (Qv l r).map f := by
 simp [Qv, Cc, List.map_take, List.map_drop]
 rw [List.take_of_length_le (by simp)]
theorem IS {α : Type} {l : List α} {r : Nat} (h : r < l.length) : Be (ja l) 0 (r : Int) = true ∧ Be (ja l) ((r + 1 : Nat) : Int) ((ja l : Nat) : Int) = true := by
 simp only [Be, jd, decide_eq_true_eq]
 omega
theorem ZL (l : List Pa) {r : Nat} (h : r < l.length) (hn : l.length ≤ Ma) : Ng l (r : Int) = some (Qv l r, ()) := by
 have h20 : Ma = 1048576 := rfl
 have hc := IS h
 unfold Ng
 rw [Ni (by omega), hc.1, hc.2]
 have e1 : jy (ja ([] : List Pa) + ja (Cc l (jz 0) (jz (r : Int)))) Nb = true := jk (by simp [Cc]; rw [Rj]; omega)
 have e2 : jy (ja (jf ([] : List Pa) (Cc l (jz 0) (jz (r : Int)))) + ja (Cc l (jz ((r + 1 : Nat) : Int)) (jz ((ja l : Nat) : Int)))) Nb = true :=
  jk (by simp [Cc]; rw [Rj]; omega)
 rw [e1, e2]
 simp only [y3]
 rfl
noncomputable def PL (x : Fe) (r : Int) : Bool := Tb (2, x.2.1, x.2.2.1, 0, ()) && (((x.1 == 0) && !decide (r ≥ 0)) || (((x.1 == 1) && !decide (r ≥ 0)) || ((x.1 == 2) && decide (r ≥ 0))))
def LJ (x : Fe) : Pa := (0, (2, x.2.1, x.2.2.1, 0, ()), ())
def DR (x : Fe) (L : List Pa) (r : Int) : List Pa := cond (x.1 == 1) (jf L [LJ x]) (cond (x.1 == 2) (Qv L r.toNat) L)
noncomputable def Vz (L : List Pa) (x : Fe) : List Pa ⊕ Unit := cond (PL x (He (Sn x.2.1 x.2.2.1) 0 L)) (.inl (DR x L (He (Sn x.2.1 x.2.2.1) 0 L))) (.inr ())
theorem V2 {L L' : List Pa} {x : Fe} (h : Vz L x = .inl L') : L'.length ≤ L.length + 1 := by
 unfold Vz at h
 cases hc : PL x (He (Sn x.2.1 x.2.2.1) 0 L) with
 | false => rw [hc] at h; simp at h
 | true =>
  rw [hc] at h
  simp only [y3, Sum.inl.injEq] at h
  rw [← h]
  unfold DR
  cases x.1 == 1 with
  | true => simp
  | false =>
   cases x.1 == 2 with
   | true => simp [Qv, Cc]; omega
   | false => simp
theorem NU (l : List Fe) (k : Nat) (hk : k < l.length) (L : List Pa) (hL : L.length ≤ k) (hn : l.length ≤ Ma) :
 Vm l L (k : Int) = some (match Vz L l[k] with | .inl L' => .inl ((l, L', j6 .i64 ((k : Int) + 1), ()), ()) | .inr _ => .inr (.inr ((false, ()), ()))) := by
 have h20 : Ma = 1048576 := rfl
 simp only [Vm]
 rw [Ca (show (k : Int) < (ja l : Int) by omega), Gc hk]
 simp only [y3, jb]
 rw [TR L l[k] (by omega)]
 simp only [jb, Ah, Sr, Cr, Vz, PL, DR, LJ]
 generalize hx : l[k] = x
 generalize hr : He (Sn x.2.1 x.2.2.1) 0 L = r
 have hble : jy (ja L + ja [LJ x]) Nb = true := jk (by simp [Rj]; omega)
 have hble' : jy (ja L + ja ([((0 : Int), ((2 : Int), x.2.1, x.2.2.1, (0 : Int), ()), ())] : List Pa)) Nb = true := hble
 have hw : decide (r ≥ 0) = true → Ng L r = some (Qv L r.toNat, ()) := by
  intro h
  rcases FJ (Sn x.2.1 x.2.2.1) L 0 with h1 | ⟨j, h1, h2⟩
  ·rw [hr] at h1; rw [h1] at h; simp at h
  ·rw [hr] at h2
   have : r = (j : Int) := by omega
   rw [this, ZL L h1 (by omega)]
   simp
 by_cases k0 : x.1 = 0
 ·simp only [k0]
  cases Tb ((2 : Int), x.2.1, x.2.2.1, (0 : Int), ()) <;> cases decide (r ≥ 0) <;> rfl
 by_cases k1 : x.1 = 1
 ·simp only [k1]
  rw [hble']
  cases Tb ((2 : Int), x.2.1, x.2.2.1, (0 : Int), ()) <;> cases decide (r ≥ 0) <;> rfl
 by_cases k2 : x.1 = 2
 ·simp only [k2]
  cases hd : decide (r ≥ 0) with
  | false => cases Tb ((2 : Int), x.2.1, x.2.2.1, (0 : Int), ()) <;> rfl
  | true =>
   rw [hw hd]
   cases Tb ((2 : Int), x.2.1, x.2.2.1, (0 : Int), ()) <;> rfl
 ·have e0 : (x.1 == 0) = false := by simpa using k0
  have e1 : (x.1 == 1) = false := by simpa using k1
  have e2 : (x.1 == 2) = false := by simpa using k2
  rw [Ea (show ¬ (0 ≤ x.1 ∧ x.1 ≤ 2) by omega), e0, e1, e2]
  cases Tb ((2 : Int), x.2.1, x.2.2.1, (0 : Int), ()) <;> rfl
theorem FU (l : List Fe) (k : Nat) (hk : k < l.length) (L : List Pa) (hL : L.length ≤ k) (hn : l.length ≤ Ma) :
 Om (L.map Mh) l ((ja l : Nat) : Int) (k : Int) =
  some (match Vz L l[k] with | .inl L' => .inl ((L'.map Mh, l, ((ja l : Nat) : Int), j6 .i64 ((k : Int) + 1), ()), ()) | .inr _ => .inr (.inr ((false, ()), ()))) := by
 have h20 : Ma = 1048576 := rfl
 simp only [Om]
 rw [Ca (show (k : Int) < (ja l : Int) by omega), Gc hk]
 simp only [y3, jb]
 rw [BR (L.map Mh) _ (by simp; omega), A7]
 simp only [jb, Qq, Vz, PL, DR, LJ]
 generalize hx : l[k] = x
 generalize hr : He (Sn x.2.1 x.2.2.1) 0 L = r
 have hble : jy (ja (L.map Mh) + ja ([(x.2.1, x.2.2.1, ())] : List Lc)) Nb = true := jk (by simp [Rj]; omega)
 have happ : jf (L.map Mh) ([(x.2.1, x.2.2.1, ())] : List Lc) = (jf L [((0 : Int), ((2 : Int), x.2.1, x.2.2.1, (0 : Int), ()), ())]).map Mh := by
  show _ ++ _ = List.map Mh (_ ++ _)
  rw [yu]; rfl
 by_cases k0 : x.1 = 0
 ·simp only [k0]
  cases Tb ((2 : Int), x.2.1, x.2.2.1, (0 : Int), ()) <;> cases decide (r ≥ 0) <;> rfl
 by_cases k1 : x.1 = 1
 ·simp only [k1]
  rw [hble, happ]
  cases Tb ((2 : Int), x.2.1, x.2.2.1, (0 : Int), ()) <;> cases decide (r ≥ 0) <;> rfl
 by_cases k2 : x.1 = 2
 ·simp only [k2]
  rcases FJ (Sn x.2.1 x.2.2.1) L 0 with h1 | ⟨j, h1, h2⟩
  ·rw [hr] at h1
   rw [h1]
   cases Tb ((2 : Int), x.2.1, x.2.2.1, (0 : Int), ()) <;> rfl
  ·rw [hr] at h2
   have hrj : r = (j : Int) := by omega
   rw [hrj]
   have hj : j < (L.map Mh).length := by simpa using h1
   have hc := IS hj
   rw [Ni (k := j) (by omega), hc.1, hc.2, Ea (show ¬ (j : Int) < 0 by omega), Ca (show (j : Int) ≥ 0 by omega)]
   have e1 : jy (ja (Cc (L.map Mh) (jz 0) (jz (j : Int))) + ja (Cc (L.map Mh) (jz ((j + 1 : Nat) : Int)) (jz ((ja (L.map Mh) : Nat) : Int)))) Nb = true :=
    jk (by simp [Cc]; rw [Rj]; omega)
   have e2 : jf (Cc (L.map Mh) (jz 0) (jz (j : Int))) (Cc (L.map Mh) (jz ((j + 1 : Nat) : Int)) (jz ((ja (L.map Mh) : Nat) : Int))) = (Qv L (jz (j : Int))).map Mh := by
    rw [← YZ]
    simp [Qv]
   rw [e1, e2]
   cases Tb ((2 : Int), x.2.1, x.2.2.1, (0 : Int), ()) <;> rfl
 ·have e0 : (x.1 == 0) = false := by simpa using k0
  have e1 : (x.1 == 1) = false := by simpa using k1
  have e2 : (x.1 == 2) = false := by simpa using k2
  rw [e0, e1, e2]
  cases Tb ((2 : Int), x.2.1, x.2.2.1, (0 : Int), ()) <;> rfl
noncomputable def Vac (l : List Fe) : List Pa ⊕ Unit := Ve (fun _ L x => Vz L x) 0 [] l
noncomputable def Wg (l : List Fe) : Bool := decide (l.length ≤ 8) && (match Vac l with | .inl L => ((L.length : Int) == 0) | .inr _ => false)
theorem HQ (l : List Fe) (hn : l.length ≤ Ma) : Wu l = some (Wg l, ()) := by
 have h20 : Ma = 1048576 := rfl
 have hl := Cm (step := fun x => Vm x.1.1 x.1.2.1 x.1.2.2.1) l (fun _ L x => Vz L x) (fun L i => ((l, L, i, ()), ()))
  (fun L => .inl ((l, L, ()), ())) (fun _ => .inr ((false, ()), ())) (fun k L => L.length ≤ k) (by
   intro k hk L hL
   refine ⟨?_, fun L' h => by have := V2 h; omega⟩
   rw [NU l k hk L hL hn]
   cases Vz L l[k] <;> rfl) (by
   intro s _
   simp only [Vm]
   rw [Ea (by omega)]; rfl) (by omega) [] (by simp)
 unfold Wu Qs
 erw [hl]
 simp only [jb, Wg, Vac]
 cases Ve (fun x L x => Vz L x) 0 [] l with
 | inl L =>
  simp only [qh]
  by_cases h : l.length ≤ 8
  ·rw [Ca (show ((ja l : Nat) : Int) ≤ 8 by omega), Ca h]; rfl
  ·rw [Ea (show ¬ ((ja l : Nat) : Int) ≤ 8 by omega), Ea h]; rfl
 | inr u => cases decide (l.length ≤ 8) <;> rfl
theorem HP (l : List Fe) (hn : l.length ≤ Ma) : Eu l = some (Wg l, ()) := by
 have h20 : Ma = 1048576 := rfl
 unfold Eu Wg
 by_cases h : l.length ≤ 8
 ·rw [Ea (show ¬ ((ja l : Nat) : Int) > 8 by omega), Ca h]
  have hl := Cm (step := fun x => Om x.1.1 x.1.2.1 x.1.2.2.1 x.1.2.2.2.1) l (fun _ L x => Vz L x) (fun L i => ((L.map Mh, l, ((ja l : Nat) : Int), i, ()), ()))
   (fun L => .inl ((L.map Mh, ()), ())) (fun _ => .inr ((false, ()), ())) (fun k L => L.length ≤ k) (by
    intro k hk L hL
    refine ⟨?_, fun L' h => by have := V2 h; omega⟩
    rw [FU l k hk L hL hn]
    cases Vz L l[k] <;> rfl) (by
    intro s _
    simp only [Om]
    rw [Ea (by omega)]; rfl) (by omega) [] (by simp)
  unfold Ms
  erw [hl]
  simp only [Vac]
  cases Ve (fun x L x => Vz L x) 0 [] l with
  | inl L =>
   show some _ = some _
   simp only [yp]
   rfl
  | inr u => rfl
 ·rw [Ca (show ((ja l : Nat) : Int) > 8 by omega), Ea h]; rfl
noncomputable def Ii (keys : Int) (nl : Nat) (x : Pa) : Bool := !decide (x.1 ≥ keys) && !((x.2.1.1 != 9) && decide (x.2.1.2.2.2.1 ≥ (nl : Int)))
noncomputable def Am (e : Sa) : Bool :=
 Xa e.1 && (decide (e.2.1.length ≤ 4) && (Pe e.2.2.2.1 && (Md (fun _ m => Wg m) 0 e.2.1 && (Md (fun _ x => Ii e.1.1 e.1.2.1.length x) 0 e.2.2.2.1 &&
  (decide (0 ≤ e.2.2.1 ∧ e.2.2.1 < ((2 ^ e.1.2.1.length : Nat) : Int)) && ((Int.tmod e.2.2.1 2 == 0) && decide (0 ≤ e.2.2.2.2.1 ∧ e.2.2.2.2.1 ≤ 15)))))))
theorem Hw (e : Sa) : Dc Hb e = Dc La e.1 + (Dc (.sl (.sl Sg)) e.2.1 + Dc (.sl Ao) e.2.2.2.1) := by
 simp only [Dc, q9, jt]
theorem Xx (l : List Pa) : Dc (.sl Ao) l = l.length := AI (e := Ao) rfl l
theorem XR (l : List Fe) : Dc (.sl Sg) l = l.length := AI (e := Sg) rfl l
theorem S3 {e : Ty} (l : List (T e)) : ja l ≤ Dc (.sl e) l := Nat.le_add_right _ _
theorem Aab {e : Ty} {l : List (T e)} {k : Nat} (hk : k < ja l) : Dc e (List.get l ⟨k, hk⟩) ≤ Dc (.sl e) l :=
 qb (Ez (f := Dc e) hk) (Nat.le_add_left _ _)
theorem KP (e : Sa) (hz : Dc Hb e ≤ Ma) : Ml (((), e.2.1, ((ja e.2.1 : Nat) : Int), (0 : Int), ()), (e, ())) =
 some (cond (Md (fun _ m => Wg m) 0 e.2.1) (.inl (((), ()), (e, ()))) (.inr ((false, ()), ()))) := by
 have h20 : Ma = 1048576 := rfl
 rw [Hw] at hz
 have hl := S3 (e := .sl Sg) e.2.1
 unfold Ml
 refine Yf (step := fun x => Dp x.1.1 x.1.2.1 x.1.2.2.1 x.1.2.2.2.1 x.2.1) e.2.1 (fun _ m => Wg m) (fun i => (((), e.2.1, ((ja e.2.1 : Nat) : Int), i, ()), (e, ()))) _ _ ?_ ?_ (by omega)
 ·intro k hk
  simp only [Dp]
  have hk2 : (k : Int) < ((ja e.2.1 : Nat) : Int) := by omega
  rw [Ca hk2, Gc hk]
  simp only [y3, jb]
  have he := Aab (e := .sl Sg) hk
  rw [XR] at he
  rw [HP e.2.1[k] (by have : (List.get e.2.1 ⟨k, hk⟩) = e.2.1[k] := rfl; rw [this] at he; omega)]
  simp only [jb]
  cases Wg e.2.1[k] <;> rfl
 ·simp only [Dp]
  rw [Ea (by omega)]; rfl
theorem KQ (e : Sa) (hz : Dc Hb e ≤ Ma) : Tl (((), (0 : Int), ()), (e, ())) =
 some (cond (Md (fun _ m => Wg m) 0 e.2.1) (.inl (((), ()), (e, ()))) (.inr ((false, ()), ()))) := by
 have h20 : Ma = 1048576 := rfl
 rw [Hw] at hz
 have hl := S3 (e := .sl Sg) e.2.1
 unfold Tl
 refine Yf (step := fun x => Jp x.1.1 x.1.2.1 x.2.1) e.2.1 (fun _ m => Wg m) (fun i => (((), i, ()), (e, ()))) _ _ ?_ ?_ (by omega)
 ·intro k hk
  simp only [Jp]
  have hk2 : (k : Int) < ((ja e.2.1 : Nat) : Int) := by omega
  rw [Ca hk2, Gc hk]
  simp only [y3, jb]
  have he := Aab (e := .sl Sg) hk
  rw [XR] at he
  rw [HQ e.2.1[k] (by have : (List.get e.2.1 ⟨k, hk⟩) = e.2.1[k] := rfl; rw [this] at he; omega)]
  simp only [jb]
  cases Wg e.2.1[k] <;> rfl
 ·simp only [Jp]
  rw [Ea (by omega)]; rfl
theorem EU (e : Sa) (hz : Dc Hb e ≤ Ma) : Pk (((), ((ja e.1.2.1 : Nat) : Int), e.2.2.2.1, ((ja e.2.2.2.1 : Nat) : Int), (0 : Int), ()), (e, ())) =
 some (cond (Md (fun _ x => Ii e.1.1 e.1.2.1.length x) 0 e.2.2.2.1) (.inl (((), ((ja e.1.2.1 : Nat) : Int), ()), (e, ()))) (.inr ((false, ()), ()))) := by
 have h20 : Ma = 1048576 := rfl
 rw [Hw, Xx] at hz
 unfold Pk
 refine Yf (step := fun x => On x.1.1 x.1.2.1 x.1.2.2.1 x.1.2.2.2.1 x.1.2.2.2.2.1 x.2.1) e.2.2.2.1 (fun _ x => Ii e.1.1 e.1.2.1.length x)
  (fun i => (((), ((ja e.1.2.1 : Nat) : Int), e.2.2.2.1, ((ja e.2.2.2.1 : Nat) : Int), i, ()), (e, ()))) _ _ ?_ ?_ (by omega)
 ·intro k hk
  simp only [On]
  have hk2 : (k : Int) < ((ja e.2.2.2.1 : Nat) : Int) := by omega
  rw [Ca hk2, Gc hk]
  simp only [y3, jb, Ii]
  cases decide (e.2.2.2.1[k].1 ≥ e.1.1) <;> cases (e.2.2.2.1[k].2.1.1 != 9) <;> cases decide (e.2.2.2.1[k].2.1.2.2.2.1 ≥ ((ja e.1.2.1 : Nat) : Int)) <;> rfl
 ·simp only [On]
  rw [Ea (by omega)]; rfl
theorem MU (e : Sa) (hz : Dc Hb e ≤ Ma) : Ul (((), (0 : Int), ()), (e, ())) =
 some (cond (Md (fun _ x => Ii e.1.1 e.1.2.1.length x) 0 e.2.2.2.1) (.inl (((), ()), (e, ()))) (.inr ((false, ()), ()))) := by
 have h20 : Ma = 1048576 := rfl
 rw [Hw, Xx] at hz
 unfold Ul
 refine Yf (step := fun x => Kp x.1.1 x.1.2.1 x.2.1) e.2.2.2.1 (fun _ x => Ii e.1.1 e.1.2.1.length x) (fun i => (((), i, ()), (e, ()))) _ _ ?_ ?_ (by omega)
 ·intro k hk
  simp only [Kp]
  have hk2 : (k : Int) < ((ja e.2.2.2.1 : Nat) : Int) := by omega
  rw [Ca hk2, Gc hk]
  simp only [y3, jb, Ii]
  cases decide (e.2.2.2.1[k].1 ≥ e.1.1) <;> cases (e.2.2.2.1[k].2.1.1 != 9) <;> cases decide (e.2.2.2.1[k].2.1.2.2.2.1 ≥ ((ja e.1.2.1 : Nat) : Int)) <;> rfl
 ·simp only [Kp]
  rw [Ea (by omega)]; rfl
theorem Ix (e : Sa) (hz : Dc Hb e ≤ Ma) : Yk e = some (Am e, ()) := by
 have h20 : Ma = 1048576 := rfl
 have hz' := hz
 rw [Hw, Xx] at hz'
 unfold Yk Am
 rw [Vg e.1 (by omega)]
 cases hk : Xa e.1 with
 | false => rfl
 | true =>
  simp only [jb, jg, y8, jl]
  by_cases h4 : e.2.1.length ≤ 4
  ·rw [Ea (show ¬ ((ja e.2.1 : Nat) : Int) > 4 by omega), Ca h4, Jv _ (by omega)]
   simp only [jb, y8, jl]
   cases hh : Pe e.2.2.2.1 with
   | false => rfl
   | true =>
    simp only [jg, y8, jl]
    rw [KP e hz]
    have hl := (Yc hk).l2
    by_cases ho : 0 ≤ e.2.2.2.2.1 ∧ e.2.2.2.2.1 ≤ 15
    ·rw [Ea (show ¬ e.2.2.2.2.1 < 0 by omega), Ea (show ¬ e.2.2.2.2.1 > 15 by omega), Ca ho]
     simp only [y8, jb, Bool.and_true]
     cases Md (fun _ m => Wg m) 0 e.2.1 with
     | false => rfl
     | true =>
      simp only [y3, qh, jl]
      rw [EU e hz]
      cases Md (fun _ x => Ii e.1.1 e.1.2.1.length x) 0 e.2.2.2.1 with
      | false => rfl
      | true =>
       simp only [y3, jb, qh, jl]
       rw [PR (by omega), Ca (show (0 : Int) ≤ ((ja e.1.2.1 : Nat) : Int) by omega)]
       have e2 : ((2 : Int) == 0) = false := rfl
       rw [e2]
       simp only [y8, y3]
       by_cases hf : 0 ≤ e.2.2.1
       ·rw [Ca (show e.2.2.1 ≥ 0 from hf)]
        by_cases hf2 : e.2.2.1 < ((2 ^ e.1.2.1.length : Nat) : Int)
        ·rw [Ca hf2, Ca (show 0 ≤ e.2.2.1 ∧ e.2.2.1 < ((2 ^ e.1.2.1.length : Nat) : Int) from ⟨hf, hf2⟩)]
         cases Int.tmod e.2.2.1 2 == 0 <;> rfl
        ·rw [Ea hf2, Ea (show ¬ (0 ≤ e.2.2.1 ∧ e.2.2.1 < ((2 ^ e.1.2.1.length : Nat) : Int)) from fun h => hf2 h.2)]
         cases Int.tmod e.2.2.1 2 == 0 <;> rfl
       ·rw [Ea (show ¬ e.2.2.1 ≥ 0 from hf), Ea (show ¬ (0 ≤ e.2.2.1 ∧ e.2.2.1 < ((2 ^ e.1.2.1.length : Nat) : Int)) from fun h => hf h.1)]
        rfl
    ·have hr : (Md (fun _ m => Wg m) 0 e.2.1 && (Md (fun _ x => Ii e.1.1 e.1.2.1.length x) 0 e.2.2.2.1 && (decide (0 ≤ e.2.2.1 ∧ e.2.2.1 < ((2 ^ e.1.2.1.length : Nat) : Int)) && ((Int.tmod e.2.2.1 2 == 0) && decide (0 ≤ e.2.2.2.2.1 ∧ e.2.2.2.2.1 ≤ 15))))) = false := by
      rw [Ea ho]; simp
     rw [hr]
     by_cases h1 : e.2.2.2.2.1 < 0
     ·rw [Ca h1]; rfl
     ·rw [Ea h1, Ca (show e.2.2.2.2.1 > 15 by omega)]; rfl
  ·rw [Ca (show ((ja e.2.1 : Nat) : Int) > 4 by omega), Ea h4]; rfl
theorem Bk (e : Sa) (hz : Dc Hb e ≤ Ma) : Bi e = some (Am e, ()) := by
 have h20 : Ma = 1048576 := rfl
 have hz' := hz
 rw [Hw, Xx] at hz'
 unfold Bi Am
 rw [Um e.1 (by omega)]
 cases hk : Xa e.1 with
 | false => rfl
 | true =>
  simp only [jb, jg, y8, jl]
  by_cases h4 : e.2.1.length ≤ 4
  ·rw [Ea (show ¬ ((ja e.2.1 : Nat) : Int) > 4 by omega), Ca h4, IG _ (by omega)]
   simp only [jb, y8, jl]
   cases hh : Pe e.2.2.2.1 with
   | false => rfl
   | true =>
    simp only [jg, y8, jl]
    rw [KQ e hz]
    have hl := (Yc hk).l2
    cases Md (fun _ m => Wg m) 0 e.2.1 with
    | false => rfl
    | true =>
     simp only [y3, jb, qh, jl]
     rw [MU e hz]
     cases Md (fun _ x => Ii e.1.1 e.1.2.1.length x) 0 e.2.2.2.1 with
     | false => rfl
     | true =>
      simp only [y3, jb, qh, jl, Ah]
      have hp : (2 ^ e.1.2.1.length : Nat) ≤ 16 := Nat.pow_le_pow_right (n := 2) (by omega) hl
      rw [PR (by omega), Ca (show (0 : Int) ≤ ((ja e.1.2.1 : Nat) : Int) by omega)]
      generalize (2 ^ e.1.2.1.length : Nat) = P2 at hp ⊢
      rw [Id (by omega) (by omega)]
      have e2 : ((2 : Int) == 0) = false := rfl
      rw [e2]
      simp only [y8, y3, jb]
      have e3 : decide (0 ≤ e.2.2.1 ∧ e.2.2.1 ≤ (P2 : Int) - 1) = decide (0 ≤ e.2.2.1 ∧ e.2.2.1 < (P2 : Int)) := by
       rw [decide_eq_decide]; omega
      rw [e3]
      cases decide (0 ≤ e.2.2.1 ∧ e.2.2.1 < (P2 : Int)) <;> cases Int.tmod e.2.2.1 2 == 0 <;> rfl
  ·rw [Ca (show ((ja e.2.1 : Nat) : Int) > 4 by omega), Ea h4]; rfl


def Qc {S : Type} (g : Nat → S → S) : Nat → S → S
 | 0, s => s
 | n + 1, s => g n (Qc g n s)
theorem Bm {X R S : Type} {step : X → Option (X ⊕ R)} (n : Nat) (hn : n < 9223372036854775807) (g : Nat → S → S) (s0 : S) (I : S → Int → X) (out : S → R)
 (h : ∀ k, k < n → step (I (Qc g k s0) (k : Int)) = some (.inl (I (g k (Qc g k s0)) (j6 .i64 ((k : Int) + 1))))) (he : step (I (Qc g n s0) (n : Int)) = some (.inr (out (Qc g n s0)))) :
 Ib step (I s0 0) = some (out (Qc g n s0)) := by
 have := ZS (step := step) (fun k => I (Qc g k s0) (k : Int)) n (out (Qc g n s0)) (fun k hk => by
  rw [h k hk, Ni (by omega)]; rfl) he
 exact this
theorem AD {S : Type} {g : Nat → S → S} {p : Nat → S → Prop} {s0 : S} (h0 : p 0 s0) (hs : ∀ k s, p k s → p (k + 1) (g k s)) : ∀ n, p n (Qc g n s0)
 | 0 => h0
 | n + 1 => hs n _ (AD h0 hs n)
theorem QL {e : Ty} {c : Nat} : ∀ {w : List (T e)}, (∀ x ∈ w, Dc e x ≤ c) → Dc (.sl e) w ≤ (c + 1) * w.length
 | [], _ => by simp [Dc]
 | x :: r, h => by
  have h1 := h x (by simp)
  have h2 : Dc (.sl e) r ≤ (c + 1) * r.length := QL fun y hy => h y (by simp [hy])
  have h3 : Dc (.sl e) r = ja r + (List.map (Dc e) r).sum := rfl
  have h4 : Dc (.sl e) (x :: r) = (ja r + 1) + (Dc e x + (List.map (Dc e) r).sum) := by simp [Dc]
  rw [h4, jx, Nat.mul_add]
  omega
theorem Lf {n : Nat} (h : n ≤ 1073741824) : jy n Nb = true := jk h
theorem AP {α β : Type} (f : α → β) : ∀ (xs : List α) (k : Nat) (o : List β), Jd (fun _ o x => jf o [f x]) k o xs = o ++ xs.map f
 | [], _, o => by simp [Jd]
 | x :: r, k, o => by
  simp only [Jd]
  rw [AP f r]
  simp
theorem BB {X R α β : Type} {step : X → Option (X ⊕ R)} (xs : List α) (f : α → β) (I : List β → Int → X) (out : List β → R) (hn : xs.length ≤ 1073741824)
 (h : ∀ k (hk : k < xs.length) (o : List β), ja o = k → step (I o (k : Int)) = some (.inl (I (jf o [f xs[k]]) (j6 .i64 ((k : Int) + 1)))))
 (he : ∀ o : List β, step (I o (xs.length : Int)) = some (.inr (out o))) : Ib step (I [] 0) = some (out (xs.map f)) := by
 have := (Zi (step := step) xs (fun _ o x => jf o [f x]) I out (fun k o => ja o = k) (fun k hk o ho => ⟨h k hk o ho, by simp [ho]⟩) (fun o _ => he o) (by omega) [] rfl).1
 rw [this, AP]
 rfl
theorem QK (a : List Ba) : Dc (.sl Cd) a = a.length := AI (e := Cd) rfl a
theorem RR (r : Ga) (h : r.2.1.length ≤ Ma) : RA r = some (r, ()) := by
 have h20 : Ma = 1048576 := rfl
 unfold RA
 rw [Lf (by simp; omega)]
 rfl
theorem HN (l : List Int) (h : l.length ≤ Ma) : Ai l = some (l, ()) := by
 have h20 : Ma = 1048576 := rfl
 unfold Ai
 rw [Lf (by simp; omega)]
 rfl
def Sy (l : List Int) (k : Nat) (x : Int) : Bool := decide (1 ≤ x ∧ x ≤ 56) && (decide (k = 0) || !decide (l.getD (k - 1) 0 ≥ x))
def Sd (r : Ga) : Bool := decide (0 ≤ r.1 ∧ r.1 ≤ 15) && Md (fun k x => Sy r.2.1 k x) 0 r.2.1
theorem Kad {l : List Int} {k : Nat} (h0 : 0 < k) (hk : k ≤ l.length) (hn : l.length ≤ Ma) : Ic l (j6 .i64 ((k : Int) - 1)) = some (l.getD (k - 1) 0) := by
 have h20 : Ma = 1048576 := rfl
 rw [Id (by omega) (by omega), show (k : Int) - 1 = ((k - 1 : Nat) : Int) by omega, Gc (by omega)]
 simp [qq, je (show k - 1 < l.length by omega)]
theorem FN (r : Ga) (hn : r.2.1.length ≤ Ma) : Ww r = some (Sd r, ()) := by
 have h20 : Ma = 1048576 := rfl
 have hl := Yf (step := fun x => Ep x.1.1 x.1.2.1 x.1.2.2.1 x.1.2.2.2.1 x.2.1) r.2.1 (fun k x => Sy r.2.1 k x) (fun i => (((), r.2.1, ((ja r.2.1 : Nat) : Int), i, ()), (r, ())))
  (.inl ((), ())) (.inr ((false, ()), ())) (by
   intro k hk
   simp only [Ep]
   rw [Ca (show (k : Int) < ((ja r.2.1 : Nat) : Int) by omega), Gc hk]
   simp only [y3, jb, Sz, Sy]
   by_cases h0 : k = 0
   ·subst h0
    rw [Ea (show ¬ ((0 : Nat) : Int) > 0 by omega)]
    simp only [y8]
    cases decide (1 ≤ r.2.1[0] ∧ r.2.1[0] ≤ 56) <;> rfl
   ·rw [Ca (show (k : Int) > 0 by omega), Kad (by omega) (by omega) hn, Ea h0]
    simp only [y3, jb, yr]
    cases decide (1 ≤ r.2.1[k] ∧ r.2.1[k] ≤ 56) <;> cases decide (r.2.1.getD (k - 1) 0 ≥ r.2.1[k]) <;> rfl) (by
   simp only [Ep]
   rw [Ea (by omega)]; rfl) (by omega)
 unfold Ww Rq Sd
 by_cases h1 : 0 ≤ r.1 ∧ r.1 ≤ 15
 ·rw [Ea (show ¬ r.1 < 0 by omega), Ea (show ¬ r.1 > 15 by omega), Ca h1]
  simp only [y8, jl]
  erw [hl]
  cases Md (fun k x => Sy r.2.1 k x) 0 r.2.1 <;> rfl
 ·rw [Ea h1]
  by_cases h2 : r.1 < 0
  ·rw [Ca h2]; rfl
  ·rw [Ea h2, Ca (show r.1 > 15 by omega)]; rfl
theorem E3 : (2 : Nat) ^ 63 = 9223372036854775808 := rfl
theorem WA {a : Nat} (ha : a < 2 ^ 63) : (BitVec.ofInt 64 (a : Int)).toNat = a := by
 rw [BitVec.ofInt_natCast, BitVec.toNat_ofNat, Nat.mod_eq_of_lt (by omega)]
theorem MX {a b : Nat} (ha : a < 2 ^ 63) (hb : b < 2 ^ 63) : Lk .i64 (a : Int) (b : Int) = ((a &&& b : Nat) : Int) := by
 have h : (BitVec.ofInt (IntKind.bits .i64) (a : Int) &&& BitVec.ofInt (IntKind.bits .i64) (b : Int)).toNat = a &&& b := by
  rw [BitVec.toNat_and]; erw [WA ha, WA hb]
 unfold Lk
 rw [h]
 have h2 : a &&& b ≤ a := Nat.and_le_left
 have h3 := E3
 exact Id (by omega) (by omega)
theorem IL {a b : Nat} (ha : a < 2 ^ 63) (hb : b < 2 ^ 63) : Ed .i64 (a : Int) (b : Int) = ((a ||| b : Nat) : Int) := by
 have h : (BitVec.ofInt (IntKind.bits .i64) (a : Int) ||| BitVec.ofInt (IntKind.bits .i64) (b : Int)).toNat = a ||| b := by
  rw [BitVec.toNat_or]; erw [WA ha, WA hb]
 unfold Ed
 rw [h]
 have h2 : a ||| b < 2 ^ 63 := Nat.or_lt_two_pow ha hb
 have h3 := E3
 exact Id (by omega) (by omega)
theorem Mac {a b : Nat} (ha : a < 2 ^ 63) (hb : b < 2 ^ 63) : Py .i64 (a : Int) (b : Int) = ((a ^^^ b : Nat) : Int) := by
 have h : (BitVec.ofInt (IntKind.bits .i64) (a : Int) ^^^ BitVec.ofInt (IntKind.bits .i64) (b : Int)).toNat = a ^^^ b := by
  rw [BitVec.toNat_xor]; erw [WA ha, WA hb]
 unfold Py
 rw [h]
 have h2 : a ^^^ b < 2 ^ 63 := Nat.xor_lt_two_pow ha hb
 have h3 := E3
 exact Id (by omega) (by omega)
theorem Tag {w : Nat} (x y : BitVec w) : x &&& ~~~y = x ^^^ (x &&& y) := by
 ext i hi
 simp only [BitVec.getElem_and, BitVec.getElem_not, BitVec.getElem_xor]
 cases x[i] <;> cases y[i] <;> rfl
theorem U8 {a b : Nat} (ha : a < 2 ^ 63) (hb : b < 2 ^ 63) : Zh .i64 (a : Int) (b : Int) = ((a ^^^ (a &&& b) : Nat) : Int) := by
 have h : (BitVec.ofInt (IntKind.bits .i64) (a : Int) &&& ~~~ BitVec.ofInt (IntKind.bits .i64) (b : Int)).toNat = a ^^^ (a &&& b) := by
  rw [Tag, BitVec.toNat_xor, BitVec.toNat_and]; erw [WA ha, WA hb]
 unfold Zh
 rw [h]
 have h1 : a &&& b ≤ a := Nat.and_le_left
 have h2 : a ^^^ (a &&& b) < 2 ^ 63 := Nat.xor_lt_two_pow ha (by omega)
 have h3 := E3
 exact Id (by omega) (by omega)
theorem TX (a : Nat) {k : Nat} (hk : k ≤ 64) : Mu .i64 (a : Int) (k : Int) = ((a >>> k : Nat) : Int) := by
 unfold Mu
 have h1 : min (jz (k : Int)) (IntKind.bits .i64) = k := by
  show min (jz (k : Int)) 64 = k
  rw [jo]; omega
 rw [h1, Nat.shiftRight_eq_div_pow]
 have h2 : (2 : Int) ^ k = ((2 ^ k : Nat) : Int) := by simp
 rw [h2]
 exact (Int.fdiv_eq_ediv_of_nonneg _ (Int.natCast_nonneg _)).trans (by simp)
theorem GH {a k : Nat} (h : a * 2 ^ k < 2 ^ 63) (hk : k ≤ 64) : Re .i64 (a : Int) (k : Int) = ((a <<< k : Nat) : Int) := by
 unfold Re
 have h1 : min (jz (k : Int)) (IntKind.bits .i64) = k := by
  show min (jz (k : Int)) 64 = k
  rw [jo]; omega
 have h2 : (2 : Int) ^ k = ((2 ^ k : Nat) : Int) := by simp
 have h4 : (a : Int) * ((2 ^ k : Nat) : Int) = ((a * 2 ^ k : Nat) : Int) := by simp
 rw [h1, Nat.shiftLeft_eq, h2, h4]
 have h3 := E3
 generalize a * 2 ^ k = z at *
 exact Id (by omega) (by omega)
theorem Cx {a k : Nat} (ha : a < 2 ^ 63) (hk : k ≤ 64) : (Nd (a : Int) (k : Int) == 1) = a.testBit k := by
 unfold Nd
 have h1 : a >>> k ≤ a := by rw [Nat.shiftRight_eq_div_pow]; exact Nat.div_le_self _ _
 have h3 := E3
 rw [TX a hk]
 show (Lk .i64 ((a >>> k : Nat) : Int) ((1 : Nat) : Int) == 1) = _
 rw [MX (by omega) (by omega), Nat.and_one_is_mod, Nat.testBit_eq_decide_div_mod_eq, Nat.shiftRight_eq_div_pow]
 have : a / 2 ^ k % 2 = 0 ∨ a / 2 ^ k % 2 = 1 := by omega
 rcases this with h | h <;> rw [h] <;> rfl
theorem ZF {k : Nat} (hk : k ≤ 62) : (2 : Nat) ^ k < 2 ^ 63 := Nat.pow_lt_pow_right (by omega) (by omega)
def cnt : Nat → Nat → Nat
 | 0, _ => 0
 | k + 1, n => n % 2 + cnt k (n / 2)
def u1 (a : Nat) : Nat := ((a / 2) &&& 85) + (a &&& 85)
def u2 (a : Nat) : Nat := ((a / 4) &&& 51) + (a &&& 51)
theorem m3 : ∀ a : Fin 64, ∀ c : Fin 4, (a.val &&& 51) = (a.val + 64 * c.val) &&& 51 := by decide +kernel
def M5 : Nat := 6148914691236517205
def M3 : Nat := 3689348814741910323
def MF : Nat := 1085102592571150095
def s1 (n : Nat) : Nat := (n / 2 &&& M5) + (n &&& M5)
def s2 (n : Nat) : Nat := (n / 4 &&& M3) + (n &&& M3)
def s3 (n : Nat) : Nat := (n / 16 + n) &&& MF




theorem XX {m : Aa} (hz : Dc La m ≤ Ma) : ja m.2.1 ≤ Ma ∧ ∀ k (hk : k < m.2.1.length), m.2.1[k].length ≤ Ma := by
 have h0 : Dc La m = 0 + (Dc (.sl (.sl Cd)) m.2.1 + 0) := rfl
 have h1 : Dc (.sl (.sl Cd)) m.2.1 = ja m.2.1 + (List.map (Dc (.sl Cd)) m.2.1).sum := rfl
 refine ⟨by omega, fun k hk => ?_⟩
 have h2 := Ez (f := Dc (.sl Cd)) hk
 rw [QK] at h2
 omega
theorem Qn (m : Aa) (hz : Dc La m ≤ Ma) : Rk m = some (m, ()) := by
 have h20 : Ma = 1048576 := rfl
 obtain ⟨h1, h2⟩ := XX hz
 have hl := BB (step := fun x : (Unit × Unit × List (List Ba) × Int × Int × Unit) × Aa × Aa × Unit => Ym x.1.1 x.1.2.1 x.1.2.2.1 x.1.2.2.2.1 x.1.2.2.2.2.1 x.2.1 x.2.2.1) m.2.1 (fun x => x)
  (fun o k => (((), (), m.2.1, (m.2.1.length : Int), k, ()), ((0, [], ()), (m.1, o, ()), ()))) (fun o => .inl (((), (), ()), ((0, [], ()), (m.1, o, ()), ()))) (by omega) (fun k hk o ho => by
   have := h2 k hk
   simp only [Ym]
   rw [Ca (by omega), Gc hk]
   simp only [y3, jb]
   rw [Lf (by simp; omega), Lf (by simp only [jx, j8]; omega)]
   rfl) (fun o => by
   simp only [Ym]
   rw [Ea (by omega)]
   rfl)
 unfold Rk Ko
 erw [hl]
 rw [List.map_id']
 rfl
theorem CA (m : Aa) (hz : Dc La m ≤ Ma) : Bs m = some (m, ()) := by
 have h20 : Ma = 1048576 := rfl
 obtain ⟨h1, h2⟩ := XX hz
 have hl := BB (step := fun x : (Unit × Unit × Unit × Int × Unit) × Aa × Aa × Aa × Unit => Ot x.1.1 x.1.2.1 x.1.2.2.1 x.1.2.2.2.1 x.2.1 x.2.2.1 x.2.2.2.1) m.2.1 (fun x => x)
  (fun o k => (((), (), (), k, ()), (m, (0, [], ()), (m.1, o, ()), ()))) (fun o => .inl (((), (), ()), ((0, [], ()), (m.1, o, ()), ()))) (by omega) (fun k hk o ho => by
   have := h2 k hk
   simp only [Ot]
   rw [Ca (by omega), Gc hk]
   simp only [y3, jb]
   rw [Lf (by simp; omega), Lf (by simp only [jx, j8]; omega)]
   rfl) (fun o => by
   simp only [Ot]
   rw [Ea (by omega)]
   rfl)
 unfold Bs Zu
 erw [hl]
 rw [List.map_id']
 rfl
theorem QT {L : List (List Fe)} (hz : Dc (.sl (.sl Sg)) L ≤ Ma) : ja L ≤ Ma ∧ ∀ k (hk : k < L.length), L[k].length ≤ Ma := by
 have h1 : Dc (.sl (.sl Sg)) L = ja L + (List.map (Dc (.sl Sg)) L).sum := rfl
 refine ⟨by omega, fun k hk => ?_⟩
 have h2 := Ez (f := Dc (.sl Sg)) hk
 rw [XR] at h2
 omega
theorem AB (L : List (List Fe)) (hz : Dc (.sl (.sl Sg)) L ≤ Ma) : Rn L = some (L, ()) := by
 have h20 : Ma = 1048576 := rfl
 obtain ⟨h1, h2⟩ := QT hz
 have hl := BB (step := fun x => Zm x.1.1 x.1.2.1 x.1.2.2.1 x.1.2.2.2.1) L (fun x => x)
  (fun o k => ((o, L, ((ja L : Nat) : Int), k, ()), ())) (fun o => .inl ((o, ()), ())) (by omega) (fun k hk o ho => by
   have := h2 k hk
   simp only [Zm]
   rw [Ca (by omega), Gc hk]
   simp only [y3, jb]
   rw [Lf (by simp; omega), Lf (by simp only [jx, j8]; omega)]
   rfl) (fun o => by
   simp only [Zm]
   rw [Ea (by omega)]
   rfl)
 unfold Rn Lo
 erw [hl]
 rw [List.map_id']
 rfl
theorem Hu (e : Sa) (hz : Dc Hb e ≤ Ma) : Qk e = some (e, ()) := by
 have h20 : Ma = 1048576 := rfl
 rw [Hw, Xx] at hz
 unfold Qk
 rw [Qn _ (by omega), AB _ (by omega), Lf (by simp; omega)]
 rfl
theorem Ov (e : Sa) (hz : Dc Hb e ≤ Ma) : Fm e = some (e, ()) := by
 have h20 : Ma = 1048576 := rfl
 rw [Hw, Xx] at hz
 obtain ⟨h1, h2⟩ := QT (L := e.2.1) (by omega)
 have hl := BB (step := fun x => Qt x.1.1 x.1.2.1 x.1.2.2.1 x.1.2.2.2.1 x.2.1 x.2.2.1 x.2.2.2.1) e.2.1 (fun x => x)
  (fun o k => (((), (), (), k, ()), (e, (((0 : Int), ([] : List (List Ba)), ()), ([] : List (List Fe)), (0 : Int), ([] : List Pa), (0 : Int), false, ()), (e.1, o, e.2.2), ())))
  (fun o => .inl (((), (), (), ()), (e, (((0 : Int), ([] : List (List Ba)), ()), ([] : List (List Fe)), (0 : Int), ([] : List Pa), (0 : Int), false, ()), (e.1, o, e.2.2), ()))) (by omega) (fun k hk o ho => by
   have := h2 k hk
   simp only [Qt]
   rw [Ca (by omega), Gc hk]
   simp only [y3, jb]
   rw [Lf (by simp; omega), Lf (by simp only [jx, j8]; omega)]
   rfl) (fun o => by
   simp only [Qt]
   rw [Ea (by omega)]
   rfl)
 unfold Fm Dv
 rw [CA _ (by omega)]
 simp only [jb]
 erw [hl]
 rw [List.map_id']
 simp only [jb, qh]
 rw [Lf (by simp; omega)]
 rfl
theorem SX : ∀ (a b : List Int), a.length = b.length → Md (fun k x => b.getD k 0 == x) 0 a = (b == a)
 | a, b, h => by
  rw [Bool.eq_iff_iff, Ze, beq_iff_eq]
  constructor
  ·intro hj
   apply List.ext_getElem h.symm
   intro i h1 h2
   have := hj i h2
   rw [jt, beq_iff_eq, qg, je h1] at this
   exact this
  ·rintro rfl i hi
   rw [jt, beq_iff_eq, qg, je hi]; rfl
theorem IN (a b : List Int) (hn : a.length ≤ Nb) : Yw a b = some (a == b, ()) := by
 have hlim := Rj
 unfold Yw
 by_cases h : a.length = b.length
 ·have hl := Yf (step := fun x => Gp x.1.1 x.1.2.1 x.1.2.2.1 x.1.2.2.2.1) a (fun k x => b.getD k 0 == x) (fun i => ((a, b, ((ja a : Nat) : Int), i, ()), ()))
   (.inl ((), ())) (.inr ((false, ()), ())) (by
    intro k hk
    simp only [Gp]
    rw [Ca (show (k : Int) < ((ja a : Nat) : Int) by omega), Gc hk, Gc (show k < b.length by omega), qg, je (show k < b.length by omega)]
    simp only [y3, jb, qx, bne]
    rw [show (a[k] == b[k]) = (b[k] == a[k]) by rw [Bool.eq_iff_iff, beq_iff_eq, beq_iff_eq]; exact eq_comm]
    cases b[k] == a[k] <;> rfl) (by
    simp only [Gp]
    rw [Ea (by omega)]; rfl) (by omega)
  have e : (((ja a : Nat) : Int) != ((ja b : Nat) : Int)) = false := by simp [h]
  rw [e]
  simp only [y8]
  unfold Wq
  erw [hl]
  rw [SX a b h, show (b == a) = (a == b) by rw [Bool.eq_iff_iff, beq_iff_eq, beq_iff_eq]; exact eq_comm]
  cases a == b <;> rfl
 ·have e : (((ja a : Nat) : Int) != ((ja b : Nat) : Int)) = true := by simp; omega
  have e2 : (a == b) = false := by rw [beq_eq_false_iff_ne]; intro hh; exact h (by rw [hh])
  rw [e, e2]; rfl
theorem Sad (a b : T Nf) (h1 : ja a.2.1 ≤ Nb) (_ : ja b.2.1 ≤ Nb) : (fun x : T (.p Nf (.p Nf .u)) => Pn x.1 x.2.1) (a, b, ()) = some (Eg a b, ()) := by
 show Pn a b = _
 unfold Pn
 rw [IN _ _ h1]
 simp only [jb, Eg]
 cases (show Int from a.1) == (show Int from b.1) <;> rfl
theorem G8 (c : T Ud → T Ud → Option Bool) (l : List (T Ud)) (hl : ja l ≤ Nb) : ∀ (ys : List (T Ud)) (k : Nat) (out q : List (T Ud)) (a : T Ud), l.drop k = ys → k ≤ ja l → ja out + ja ys ≤ Nb →
 AH c a ys = some q → Vr c (((), out, l, ((ja l : Nat) : Int), (k : Int), ()), (a, ())) = some (.inl ((jf out q, ()), ())) := by
 have hlim := Rj
 intro ys
 induction ys with
 | nil =>
  intro k out q a hd hk _ hq
  have := XW hd hk
  subst this
  simp only [AH, jc] at hq
  subst hq
  have hs : Oz c () out l ((ja l : Nat) : Int) ((ja l : Nat) : Int) a = some (.inr (.inl ((out, ()), ()))) := by
   unfold Oz
   rw [Ea (by omega)]; rfl
  unfold Vr
  rw [Wd hs]
  simp
 | cons y ys ih =>
  intro k out q a hd hk hlen hq
  obtain ⟨hk', hy, hd'⟩ := LS hd
  simp only [AH] at hq
  cases hc : c a y with
  | none => rw [hc] at hq; simp at hq
  | some b =>
   rw [hc] at hq
   simp only [jb] at hq
   cases hq2 : AH c y ys with
   | none => rw [hq2] at hq; simp at hq
   | some q2 =>
    rw [hq2] at hq
    simp only [jb, jc] at hq
    have hlc : ja (y :: ys) = ja ys + 1 := rfl
    have hs : Oz c () out l ((ja l : Nat) : Int) (k : Int) a = some (.inl (((), cond b out (jf out [y]), l, ((ja l : Nat) : Int), ((k + 1 : Nat) : Int), ()), (y, ()))) := by
     unfold Oz Yaf
     rw [Ca (show (k : Int) < ((ja l : Nat) : Int) by omega), Gc hk', hy]
     simp only [y3, jb, hc]
     rw [Ni (by omega)]
     cases b with
     | true => rfl
     | false =>
      rw [show jy (ja out + ja ([y] : List (Int × ((T .o) × Unit)))) Nb = true from jk (by simp only [jx, j8]; omega)]
      rfl
    unfold Vr
    rw [Wd hs]
    simp only [jb, qh]
    have := ih (k + 1) (cond b out (jf out [y])) q2 y hd' hk' (by cases b with
     | true => simp only [y3]; omega
     | false => simp only [y8, List.append_eq, qe, jx, j8]; omega) hq2
    unfold Vr at this
    rw [this, ← hq]
    cases b with
    | true => rfl
    | false => simp
theorem Uag (c : T Ud → T Ud → Option Bool) : ∀ (a : T Ud) (l r : List (T Ud)), ja l ≤ Nb → AH c a l = some r → (fun x : T (.p Ud (.p (.sl Ud) .u)) => C6 c x.1 x.2.1) (a, l, ()) = some (r, ()) := by
 intro a l r hl hq
 show C6 c a l = _
 unfold C6
 have := G8 c l hl l 0 [] r a rfl (Nat.zero_le _) (by simpa using hl) hq
 erw [this]
 rfl
theorem RT : ∀ {a b : List Int}, a.Pairwise (· < ·) → b.Pairwise (· < ·) → (∀ x, x ∈ a ↔ x ∈ b) → a = b
 | [], [], _, _, _ => rfl
 | [], y :: b, _, _, h => by have := (h y).2 (by simp); simp at this
 | x :: a, [], _, _, h => by have := (h x).1 (by simp); simp at this
 | x :: a, y :: b, ha, hb, h => by
  rw [List.pairwise_cons] at ha hb
  have hxy : x = y := by
   rcases jq.1 ((h x).1 (by simp)) with h1 | h1
   ·exact h1
   ·rcases jq.1 ((h y).2 (by simp)) with h2 | h2
    ·exact h2.symm
    ·have := hb.1 x h1; have := ha.1 y h2; omega
  subst hxy
  congr 1
  refine RT ha.2 hb.2 fun z => ⟨fun hz => ?_, fun hz => ?_⟩
  ·rcases jq.1 ((h z).1 (by simp [hz])) with h1 | h1
   ·have := ha.1 z hz; omega
   ·exact h1
  ·rcases jq.1 ((h z).2 (by simp [hz])) with h1 | h1
   ·have := hb.1 z hz; omega
   ·exact h1
def FI (o : List Int) (x : Int) : List Int := cond ((x != 0) && !o.any (fun y => y == x)) (jf o [x]) o
def WW (k : Nat) (o l : List Int) : List Int := Jd (fun _ o x => FI o x) k o l
theorem J8 : ∀ (l : List Int) (k : Nat) (o : List Int) (y : Int), y ∈ WW k o l ↔ y ∈ o ∨ (y ∈ l ∧ y ≠ 0)
 | [], _, o, y => by simp [WW, Jd]
 | x :: l, k, o, y => by
  have := J8 l (k + 1) (FI o x) y
  simp only [WW, Jd] at this ⊢
  rw [this]
  unfold FI
  by_cases h0 : x = 0
  ·subst h0
   simp only [bne_self_eq_false, Bool.false_and, y8, jq]
   constructor
   ·rintro (h | ⟨h1, h2⟩)
    ·exact .inl h
    ·exact .inr ⟨.inr h1, h2⟩
   ·rintro (h | ⟨h1 | h1, h2⟩)
    ·exact .inl h
    ·exact absurd h1 h2
    ·exact .inr ⟨h1, h2⟩
  ·by_cases h1 : o.any (fun y => y == x) = true
   ·rw [h1]
    simp only [jg, Bool.and_false, y8, jq]
    have hx : x ∈ o := by
     obtain ⟨z, hz, e⟩ := List.any_eq_true.1 h1
     rw [beq_iff_eq] at e; rw [← e]; exact hz
    constructor
    ·rintro (h | ⟨h1, h2⟩)
     ·exact .inl h
     ·exact .inr ⟨.inr h1, h2⟩
    ·rintro (h | ⟨h1 | h1, h2⟩)
     ·exact .inl h
     ·exact .inl (h1 ▸ hx)
     ·exact .inr ⟨h1, h2⟩
   ·have e : ((x != 0) && !o.any (fun y => y == x)) = true := by
     simp only [qa] at h1
     rw [h1]; simp [h0]
    rw [e]
    simp only [y3, List.append_eq, jm, jq, yz, or_false]
    constructor
    ·rintro ((h | h) | ⟨h1, h2⟩)
     ·exact .inl h
     ·exact .inr ⟨.inl h, by rw [h]; exact h0⟩
     ·exact .inr ⟨.inr h1, h2⟩
    ·rintro (h | ⟨h1 | h1, h2⟩)
     ·exact .inl (.inl h)
     ·exact .inl (.inr h1)
     ·exact .inr ⟨h1, h2⟩
theorem JS : ∀ (l : List Int) (k : Nat) (o : List Int), o.Pairwise (· < ·) → l.Pairwise (· ≤ ·) → (∀ y ∈ o, ∀ x ∈ l, y ≤ x) → (WW k o l).Pairwise (· < ·)
 | [], _, o, ho, _, _ => by simpa [WW, Jd] using ho
 | x :: l, k, o, ho, hl, h => by
  rw [List.pairwise_cons] at hl
  have key : (FI o x).Pairwise (· < ·) ∧ ∀ y ∈ FI o x, ∀ z ∈ l, y ≤ z := by
   unfold FI
   cases hc : (x != 0) && !o.any (fun y => y == x) with
   | false => exact ⟨ho, fun y hy z hz => h y hy z (by simp [hz])⟩
   | true =>
    simp only [jd, yj, List.any_eq_false, beq_iff_eq] at hc
    simp only [y3, List.append_eq]
    refine ⟨?_, ?_⟩
    ·rw [List.pairwise_append]
     refine ⟨ho, by simp, fun y hy z hz => ?_⟩
     simp only [jq, yz, or_false] at hz
     subst hz
     have h1 := h y hy z (by simp)
     have h2 := hc.2 y hy
     omega
    ·intro y hy z hz
     rcases jm.1 hy with hy | hy
     ·exact h y hy z (by simp [hz])
     ·simp only [jq, yz, or_false] at hy
      subst hy
      exact hl.1 z hz
  have := JS l (k + 1) (FI o x) key.1 hl.2 key.2
  simpa [WW, Jd] using this
def Fl (l : List Pa) : Nat → List Int
 | 0 => []
 | n + 1 => cond (l.any fun h => h.2.1.2.1 == ((n + 1 : Nat) : Int)) (Fl l n ++ [((n + 1 : Nat) : Int)]) (Fl l n)
theorem Iy (l : List Pa) : ∀ (n : Nat) (x : Int), x ∈ Fl l n ↔ (1 ≤ x ∧ x ≤ (n : Int)) ∧ ∃ h ∈ l, h.2.1.2.1 = x
 | 0, x => by simp [Fl]; intro h1 h2; omega
 | n + 1, x => by
  simp only [Fl]
  cases hc : (l.any fun h => h.2.1.2.1 == ((n + 1 : Nat) : Int)) with
  | true =>
   simp only [y3, jm, Iy l n x, jq, yz, or_false]
   obtain ⟨h, hh, e⟩ := List.any_eq_true.1 hc
   rw [beq_iff_eq] at e
   constructor
   ·rintro (⟨h1, h2⟩ | rfl)
    ·exact ⟨by omega, h2⟩
    ·exact ⟨by omega, h, hh, e⟩
   ·rintro ⟨h1, h2⟩
    by_cases hx : x = ((n + 1 : Nat) : Int)
    ·exact .inr hx
    ·exact .inl ⟨by omega, h2⟩
  | false =>
   simp only [y8, Iy l n x]
   rw [List.any_eq_false] at hc
   constructor
   ·rintro ⟨h1, h2⟩; exact ⟨by omega, h2⟩
   ·rintro ⟨h1, h, hh, e⟩
    refine ⟨?_, h, hh, e⟩
    have := hc h hh
    rw [beq_iff_eq] at this
    omega
theorem Rw (l : List Pa) : ∀ n, (Fl l n).Pairwise (· < ·)
 | 0 => by simp [Fl]
 | n + 1 => by
  simp only [Fl]
  cases (l.any fun h => h.2.1.2.1 == ((n + 1 : Nat) : Int)) with
  | true =>
   simp only [y3]
   rw [List.pairwise_append]
   refine ⟨Rw l n, by simp, fun y hy z hz => ?_⟩
   simp only [jq, yz, or_false] at hz
   have := (Iy l n y).1 hy
   omega
  | false => exact Rw l n
theorem CH (l : List Pa) : ∀ n, (Fl l n).length ≤ n
 | 0 => by simp [Fl]
 | n + 1 => by
  have := CH l n
  simp only [Fl]
  cases (l.any fun h => h.2.1.2.1 == ((n + 1 : Nat) : Int)) <;> simp <;> omega
def JL (l : List Pa) : Int := Jd (fun _ s (h : Pa) => cond (h.2.1.1 == 2 || h.2.1.1 == 8) (Ed .i64 s h.2.1.2.2.1) s) 0 0 l
def De (l : List Pa) : Ga := (JL l, Fl l 56, ())
theorem BM {a : Ba} (h : Tb a = true) : 0 ≤ a.2.1 ∧ a.2.1 ≤ 56 := by
 rw [Cb] at h
 unfold Kb at h
 omega
theorem AR (l : List Int) (x : Int) (hn : l.length ≤ Nb) : MA l x = some (l.any (fun y => y == x), ()) := by
 have hlim := Rj
 have hl := Yf (step := fun y => Dt y.1.1 y.1.2.1 y.1.2.2.1 y.1.2.2.2.1) l (fun _ y => !(y == x)) (fun i => ((x, l, ((ja l : Nat) : Int), i, ()), ()))
  (.inl ((), ())) (.inr ((true, ()), ())) (by
   intro k hk
   simp only [Dt]
   rw [Ca (show (k : Int) < ((ja l : Nat) : Int) by omega), Gc hk]
   simp only [y3, jb]
   cases l[k] == x <;> rfl) (by
   simp only [Dt]
   rw [Ea (by omega)]; rfl) (by omega)
 unfold MA Iu
 erw [hl]
 have : ∀ (l : List Int) (k : Nat), Md (fun _ y => !(y == x)) k l = !l.any (fun y => y == x) := by
  intro l
  induction l with
  | nil => intro k; rfl
  | cons y l ih => intro k; simp only [Md, List.any_cons, ih, Bool.not_or]
 rw [this]
 cases l.any (fun y => y == x) <;> rfl
theorem JP (l : List Pa) (hn : l.length ≤ Ma) (hx : ∀ h ∈ l, 0 ≤ h.2.1.2.1 ∧ h.2.1.2.1 ≤ 56) : Gu (l.map fun h => h.2.1.2.1) = some (Fl l 56, ()) := by
 have h20 : Ma = 1048576 := rfl
 have hlim := Rj
 generalize hcs : (l.map fun h => h.2.1.2.1) = cs
 have hcl : cs.length = l.length := by rw [← hcs]; simp
 unfold Gu
 rw [HN _ (by omega)]
 simp only [jb, sort_Ints, srt]
 rw [show jy (ja cs) Nb = true from jk (by omega)]
 simp only [y3, jb]
 generalize hss : (List.mergeSort cs fun x y => decide (x ≤ y)) = ss
 have hsl : ss.length = cs.length := by rw [← hss]; exact List.length_mergeSort _
 have hsm : ∀ x, x ∈ ss ↔ x ∈ cs := fun x => by rw [← hss]; exact List.mem_mergeSort
 have hsp : ss.Pairwise (· ≤ ·) := by
  rw [← hss]
  have := List.pairwise_mergeSort (le := fun x y : Int => decide (x ≤ y)) (by intro a b c; simp; omega) (by intro a b; simp; omega) cs
  exact this.imp (by intro a b h; simpa using h)
 have hl := (Zi (step := fun x => Vq x.1.1 x.1.2.1 x.1.2.2.1 x.1.2.2.2.1) ss (fun _ o x => FI o x) (fun o i => ((o, ss, ((ja ss : Nat) : Int), i, ()), ())) (fun o => .inl ((o, ()), ())) (fun k o => o.length ≤ k) (by
  intro k hk o ho
  have hd : (FI o ss[k]).length ≤ k + 1 := by
   unfold FI
   cases (ss[k] != 0) && !o.any (fun y => y == ss[k]) <;> simp <;> omega
  refine ⟨?_, hd⟩
  simp only [Vq]
  rw [Ca (show (k : Int) < ((ja ss : Nat) : Int) by omega), show Te (ja ss) (k : Int) = true by rw [Rg]; exact Ca hk, jo, je hk]
  simp only [y3, jb]
  rw [AR _ _ (by omega), show jy (ja o + ja ([ss[k]] : List Int)) Nb = true from jk (by simp only [jx, j8]; omega)]
  simp only [jb, FI]
  cases ss[k] != 0 <;> cases o.any (fun y => y == ss[k]) <;> rfl)
  (by
   intro o _
   simp only [Vq]
   rw [Ea (by omega)]; rfl) (by omega) [] (jp _)).1
 unfold Ps
 erw [hl]
 simp only [jb, qh]
 congr 2
 refine RT (JS ss 0 [] (by simp) hsp (by simp)) (Rw l 56) fun x => ?_
 rw [show Jd (fun _ o x => FI o x) 0 [] ss = WW 0 [] ss from rfl, J8, Iy, hsm, ← hcs]
 simp only [yz, false_or, qk]
 constructor
 ·rintro ⟨⟨h, hh, rfl⟩, h0⟩
  have := hx h hh
  exact ⟨by omega, h, hh, rfl⟩
 ·rintro ⟨h1, h, hh, rfl⟩
  exact ⟨⟨h, hh, rfl⟩, by omega⟩
theorem Tq (l : List Pa) (hn : l.length ≤ Ma) (hv : Pe l = true) : Xb l = some (De l, ()) := by
 have h20 : Ma = 1048576 := rfl
 have hlim := Rj
 have hh := RJ hv
 have hl := (Zi (step := fun x => Fp x.1.1 x.1.2.1 x.1.2.2.1 x.1.2.2.2.1 x.1.2.2.2.2.1 x.1.2.2.2.2.2.1 x.2.1 x.2.2.1) l
  (fun _ (s : Int × List Int) (h : Pa) => (cond (h.2.1.1 == 2 || h.2.1.1 == 8) (Ed .i64 s.1 h.2.1.2.2.1) s.1, jf s.2 [h.2.1.2.1])) (fun s i => (((), (), s.2, l, ((ja l : Nat) : Int), i, ()), (((0 : Int), ([] : List Int), ()), (s.1, ([] : List Int), ()), ())))
  (fun s => .inl (((), (), s.2, ()), (((0 : Int), ([] : List Int), ()), (s.1, ([] : List Int), ()), ()))) (fun k s => s.2.length = k) (by
   intro k hk s hs
   refine ⟨?_, by simp [hs]⟩
   simp only [Fp]
   rw [Ca (show (k : Int) < ((ja l : Nat) : Int) by omega), Gc hk]
   simp only [y3, jb]
   rw [show jy (ja s.2 + ja ([l[k].2.1.2.1] : List Int)) Nb = true from jk (by simp only [jx, j8]; omega)]
   cases l[k].2.1.1 == 2 <;> cases l[k].2.1.1 == 8 <;> rfl)
  (by
   intro s _
   simp only [Fp]
   rw [Ea (by omega)]; rfl) (by omega) (0, []) rfl).1
 have key : ∀ (l : List Pa) (k : Nat) (s : Int × List Int), Jd (fun _ (s : Int × List Int) (h : Pa) => (cond (h.2.1.1 == 2 || h.2.1.1 == 8) (Ed .i64 s.1 h.2.1.2.2.1) s.1, jf s.2 [h.2.1.2.1])) k s l =
  (Jd (fun _ s (h : Pa) => cond (h.2.1.1 == 2 || h.2.1.1 == 8) (Ed .i64 s h.2.1.2.2.1) s) k s.1 l, s.2 ++ l.map fun h => h.2.1.2.1) := by
  intro l
  induction l with
  | nil => intro k s; simp [Jd]
  | cons x l ih => intro k s; simp only [Jd]; rw [ih]; simp
 unfold Xb Sq
 rw [Jv _ hn, hv]
 simp only [jb, jg, y8]
 erw [hl]
 rw [key]
 simp only [jb, qh, List.nil_append]
 rw [JP l hn (fun h hm => BM (hh h hm).act)]
 rfl
theorem WN (l : List Pa) (hn : l.length ≤ Ma) (c : Nat) (hc : c ≤ 56) (m : Int) (o : List Int) (ho : o.length ≤ 56) :
 Vk ((l, (), (), (c : Int), (0 : Int), ()), (((0 : Int), ([] : List Int), ()), (m, o, ()), ())) =
  some (.inl ((l, (), (), (c : Int), ()), (((0 : Int), ([] : List Int), ()), (m, cond (l.any fun h => h.2.1.2.1 == (c : Int)) (jf o [(c : Int)]) o, ()), ()))) := by
 have h20 : Ma = 1048576 := rfl
 have hl := Yf (step := fun x => Xn x.1.1 x.1.2.1 x.1.2.2.1 x.1.2.2.2.1 x.1.2.2.2.2.1 x.2.1 x.2.2.1) l (fun _ (h : Pa) => !(h.2.1.2.1 == (c : Int))) (fun i => ((l, (), (), (c : Int), i, ()), (((0 : Int), ([] : List Int), ()), (m, o, ()), ())))
  (.inl ((l, (), (), (c : Int), ()), (((0 : Int), ([] : List Int), ()), (m, o, ()), ()))) (.inl ((l, (), (), (c : Int), ()), (((0 : Int), ([] : List Int), ()), (m, jf o [(c : Int)], ()), ()))) (by
   intro k hk
   simp only [Xn]
   rw [Ca (show (k : Int) < ((ja l : Nat) : Int) by omega), Gc hk]
   simp only [y3, jb]
   rw [show jy (ja o + ja ([(c : Int)] : List Int)) Nb = true from jk (by simp only [jx, j8, Rj]; omega)]
   cases l[k].2.1.2.1 == (c : Int) <;> rfl) (by
   simp only [Xn]
   rw [Ea (by omega)]; rfl) (by omega)
 have e : ∀ (l : List Pa) (k : Nat), Md (fun _ (h : Pa) => !(h.2.1.2.1 == (c : Int))) k l = !l.any fun h => h.2.1.2.1 == (c : Int) := by
  intro l
  induction l with
  | nil => intro k; rfl
  | cons y l ih => intro k; simp only [Md, List.any_cons, ih, Bool.not_or]
 unfold Vk
 erw [hl]
 rw [e]
 cases l.any fun h => h.2.1.2.1 == (c : Int) <;> rfl
theorem Hr (l : List Pa) (hn : l.length ≤ Ma) (hv : Pe l = true) : Yb l = some (De l, ()) := by
 have h20 : Ma = 1048576 := rfl
 have h1 := (Zi (step := fun x => Lp x.1.1 x.1.2.1 x.1.2.2.1 x.1.2.2.2.1 x.2.1 x.2.2.1) l
  (fun _ s (h : Pa) => cond (h.2.1.1 == 2 || h.2.1.1 == 8) (Ed .i64 s h.2.1.2.2.1) s) (fun s i => ((l, (), (), i, ()), (((0 : Int), ([] : List Int), ()), (s, ([] : List Int), ()), ())))
  (fun s => .inl ((l, (), (), ()), (((0 : Int), ([] : List Int), ()), (s, ([] : List Int), ()), ()))) (fun _ _ => True) (by
   intro k hk s _
   refine ⟨?_, trivial⟩
   simp only [Lp]
   rw [Ca (show (k : Int) < ((ja l : Nat) : Int) by omega), Gc hk]
   simp only [y3, jb]
   cases l[k].2.1.1 == 2 <;> cases l[k].2.1.1 == 8 <;> rfl)
  (by
   intro s _
   simp only [Lp]
   rw [Ea (by omega)]; rfl) (by omega) 0 trivial).1
 have h2 := ZS (step := fun x => Wn x.1.1 x.1.2.1 x.1.2.2.1 x.1.2.2.2.1 x.2.1 x.2.2.1) (fun k => ((l, (), (), ((k + 1 : Nat) : Int), ()), (((0 : Int), ([] : List Int), ()), (JL l, Fl l k, ()), ()))) 56
  (.inl (((), (), ()), (((0 : Int), ([] : List Int), ()), (JL l, Fl l 56, ()), ()))) (by
   intro k hk
   simp only [Wn]
   have hlen := CH l k
   rw [Ca (show ((k + 1 : Nat) : Int) ≤ 56 by omega), WN l hn (k + 1) (by omega) (JL l) (Fl l k) (by omega)]
   simp only [y3, jb, qh]
   rw [Ni (by omega)]
   rfl) (by
   simp only [Wn]
   rw [Ea (by decide)]; rfl)
 unfold Yb Gr Yp
 rw [IG _ hn, hv]
 simp only [jb, jg, y8]
 erw [h1]
 simp only [jb, qh]
 erw [h2]
 rfl
def Lv (c : Int) : Bool := decide (1 ≤ c ∧ c ≤ 36) || ((c == 39) || (c == 42))
theorem OJ (c : Int) : Bt c = some (Lv c, ()) := by
 unfold Bt Lv
 by_cases h1 : c ≥ 1
 ·by_cases h2 : c ≤ 36
  ·rw [Ca h1, Ca h2, Ca (show 1 ≤ c ∧ c ≤ 36 by omega)]; rfl
  ·rw [Ca h1, Ea h2, Ea (show ¬ (1 ≤ c ∧ c ≤ 36) by omega)]
   cases c == 39 <;> rfl
 ·rw [Ea h1, Ea (show ¬ (1 ≤ c ∧ c ≤ 36) by omega)]
  cases c == 39 <;> rfl
theorem JK (c : Int) : Lt c = some (Lv c, ()) := by
 unfold Lt Lv
 rw [Ah]
 cases decide (1 ≤ c ∧ c ≤ 36) <;> cases c == 39 <;> rfl
def So (f o : Int) (c : Bool) (a : Ba) : Int × Int × Bool × Ba :=
 cond (a.1 == 2) (cond (a.2.1 == 0) (f, o, c, a) (f, 0, c && Lv a.2.1, a.1, a.2.1, cond ((c && Lv a.2.1) && (decide (a.2.1 ≤ 26) && (Zh .i64 (Ed .i64 a.2.2.1 o) 2 == 0))) 2 (Ed .i64 a.2.2.1 o), a.2.2.2))
  (cond (a.1 == 4) (Py .i64 f (Re .i64 1 a.2.2.2.1), o, c, a) (cond (a.1 == 5) (Zh .i64 (Re .i64 1 a.2.2.2.1) 1, o, c, a)
   (cond (a.1 == 8) (f, cond (Lk .i64 o a.2.2.1 == a.2.2.1) (Zh .i64 o a.2.2.1) (Ed .i64 o a.2.2.1), c, a) (cond (a.1 == 10) (f, o, !c, a) (f, o, c, a)))))
theorem Kz {a : Ba} (h : Tb a = true) : 0 ≤ a.2.2.2.1 := by
 rw [Cb] at h
 unfold Kb at h
 omega
theorem CR (m : Aa) (M : List (List Fe)) (f o : Int) (h : List Pa) (c : Bool) (a : Ba) (ha : Tb a = true) :
 Wr (m, M, f, h, o, c, ()) a = some ((m, M, (So f o c a).1, h, (So f o c a).2.1, (So f o c a).2.2.1, ()), (So f o c a).2.2.2, ()) := by
 have hn := Kz ha
 unfold Wr So
 rw [Ca hn]
 cases a.1 == 2 with
 | true =>
  cases a.2.1 == 0 with
  | true => rfl
  | false =>
   simp only [y3, y8, OJ, jb]
   cases c with
   | false => rfl
   | true =>
    cases Lv a.2.1 with
    | false => rfl
    | true => cases decide (a.2.1 ≤ 26) <;> cases Zh .i64 (Ed .i64 a.2.2.1 o) 2 == 0 <;> rfl
 | false =>
  cases a.1 == 4 with
  | true => rfl
  | false =>
   cases a.1 == 5 with
   | true => rfl
   | false =>
    cases a.1 == 8 with
    | true => cases Lk .i64 o a.2.2.1 == a.2.2.1 <;> rfl
    | false => cases a.1 == 10 <;> rfl
theorem UR (m : Aa) (M : List (List Fe)) (f o : Int) (h : List Pa) (c : Bool) (a : Ba) (ha : Tb a = true) :
 Ln (m, M, f, h, o, c, ()) a = some ((m, M, (So f o c a).1, h, (So f o c a).2.1, (So f o c a).2.2.1, ()), (So f o c a).2.2.2, ()) := by
 have hn := Kz ha
 have hcode := BM ha
 unfold Ln So WH
 rw [Ca hn]
 cases a.1 == 2 with
 | true =>
  by_cases h0 : a.2.1 = 0
  ·rw [Ea (show ¬ a.2.1 > 0 by omega), show (a.2.1 == 0) = true by simp [h0]]; rfl
  ·rw [Ca (show a.2.1 > 0 by omega), show (a.2.1 == 0) = false by simp [h0]]
   simp only [y3, y8, JK, jb]
   cases Lv a.2.1 with
   | false => cases c <;> rfl
   | true =>
    cases c with
    | false => rfl
    | true => cases decide (a.2.1 ≤ 26) <;> cases Zh .i64 (Ed .i64 a.2.2.1 o) 2 == 0 <;> rfl
 | false =>
  cases a.1 == 4 with
  | true => rfl
  | false =>
   cases a.1 == 5 with
   | true => rfl
   | false =>
    cases a.1 == 8 with
    | true => cases Lk .i64 o a.2.2.1 == a.2.2.1 <;> rfl
    | false => cases a.1 == 10 <;> rfl
theorem Yag : ∀ f : Fin 16, ∀ n : Fin 4, ∀ l : Fin 5, 1 ≤ n.val → n.val < l.val → f.val < 2 ^ l.val → f.val % 2 = 0 →
 0 ≤ Py .i64 (f.val : Int) (Re .i64 1 (n.val : Int)) ∧ Py .i64 (f.val : Int) (Re .i64 1 (n.val : Int)) < ((2 ^ l.val : Nat) : Int) ∧ (Py .i64 (f.val : Int) (Re .i64 1 (n.val : Int))).tmod 2 = 0 := by decide +kernel
theorem Vaj : ∀ n : Fin 4, ∀ l : Fin 5, n.val < l.val →
 0 ≤ Zh .i64 (Re .i64 1 (n.val : Int)) 1 ∧ Zh .i64 (Re .i64 1 (n.val : Int)) 1 < ((2 ^ l.val : Nat) : Int) ∧ (Zh .i64 (Re .i64 1 (n.val : Int)) 1).tmod 2 = 0 := by decide +kernel
theorem Z2 : ∀ o m : Fin 16, (0 ≤ Zh .i64 (o.val : Int) (m.val : Int) ∧ Zh .i64 (o.val : Int) (m.val : Int) ≤ 15) ∧ (0 ≤ Ed .i64 (o.val : Int) (m.val : Int) ∧ Ed .i64 (o.val : Int) (m.val : Int) ≤ 15) := by decide +kernel
structure Jq (nl : Nat) (f o : Int) : Prop where
 f0 : 0 ≤ f
 f1 : f < ((2 ^ nl : Nat) : Int)
 f2 : f.tmod 2 = 0
 o0 : 0 ≤ o
 o1 : o ≤ 15
structure WE (nl : Nat) (a : Ba) : Prop where
 act : Tb a = true
 n1 : a.1 ≠ 1
 n6 : a.1 ≠ 6
 n7 : a.1 ≠ 7
 n : a.1 ≠ 9 → a.2.2.2.1 < (nl : Int)
theorem Gad {a b : Int} (ha : 0 ≤ a ∧ a ≤ 15) (hb : 0 ≤ b ∧ b ≤ 15) : 0 ≤ Ed .i64 a b ∧ Ed .i64 a b ≤ 15 := by
 obtain ⟨n, rfl⟩ := jw ha.1
 obtain ⟨m, rfl⟩ := jw hb.1
 exact (Z2 ⟨n, by omega⟩ ⟨m, by omega⟩).2
theorem Eal {a b : Int} (ha : 0 ≤ a ∧ a ≤ 15) (hb : 0 ≤ b ∧ b ≤ 15) : 0 ≤ Zh .i64 a b ∧ Zh .i64 a b ≤ 15 := by
 obtain ⟨n, rfl⟩ := jw ha.1
 obtain ⟨m, rfl⟩ := jw hb.1
 exact (Z2 ⟨n, by omega⟩ ⟨m, by omega⟩).1
theorem QY {nl : Nat} (h : nl ≤ 4) : 2 ^ nl ≤ 16 := Nat.pow_le_pow_right (n := 2) (by omega) h
theorem Taa {nl : Nat} (hnl : nl ≤ 4) {f o : Int} {c : Bool} {a : Ba} (hs : Jq nl f o) (ha : WE nl a) :
 Jq nl (So f o c a).1 (So f o c a).2.1 ∧ WE nl (So f o c a).2.2.2 := by
 have hP := ha.act
 rw [Cb] at hP
 unfold Kb at hP
 have h16 := QY hnl
 obtain ⟨k, code, mods, n, u⟩ := a
 have hn1 := ha.n1; have hn6 := ha.n6; have hn7 := ha.n7; have hnn := ha.n
 simp only at hP hn1 hn6 hn7 hnn
 have hf1 := hs.f1
 unfold So
 simp only
 by_cases h2 : k = 2
 ·subst h2
  by_cases h0 : code = 0
  ·subst h0; exact ⟨hs, ha⟩
  ·rw [show ((2 : Int) == 2) = true from rfl, show (code == 0) = false by simp [h0]]
   simp only [y3, y8]
   refine ⟨⟨hs.f0, hs.f1, hs.f2, by decide, by decide⟩, ?_⟩
   have hm := Gad (a := mods) (b := o) (by omega) ⟨hs.o0, hs.o1⟩
   refine ⟨?_, hn1, hn6, hn7, hnn⟩
   have hn0 : n = 0 := by omega
   have hcd : 1 ≤ code ∧ code ≤ 56 := by omega
   rw [Cb]
   cases ((c && Lv code) && (decide (code ≤ 26) && (Zh .i64 (Ed .i64 mods o) 2 == 0))) with
   | true => exact .inr (.inl ⟨rfl, hn0, .inr hcd, .inr ⟨by show (1 : Int) ≤ 2; decide, by show (2 : Int) ≤ 15; decide⟩, .inl (by show code ≠ 0; omega)⟩)
   | false =>
    refine .inr (.inl ⟨rfl, hn0, .inr hcd, ?_, .inl (by show code ≠ 0; omega)⟩)
    show Ed .i64 mods o = 0 ∨ 1 ≤ Ed .i64 mods o ∧ Ed .i64 mods o ≤ 15
    omega
 ·rw [show (k == 2) = false by simp [h2]]
  simp only [y8]
  by_cases h4 : k = 4
  ·subst h4
   have hr : 1 ≤ n ∧ n ≤ 3 := by omega
   have hlt := hnn (by omega)
   obtain ⟨fn, hfn⟩ := jw hs.f0
   obtain ⟨nn, hnn'⟩ := jw (show 0 ≤ n by omega)
   have hf2 := hs.f2
   rw [hfn] at hf1 hf2
   have hfl : fn < 2 ^ nl := Int.ofNat_lt.1 hf1
   have := Yag ⟨fn, by omega⟩ ⟨nn, by omega⟩ ⟨nl, by omega⟩ (by show 1 ≤ nn; omega) (by show nn < nl; omega) hfl (by
    rw [Int.tmod_eq_emod_of_nonneg (by omega)] at hf2; show fn % 2 = 0; omega)
   simp only [show ((4 : Int) == 4) = true from rfl, y3]
   rw [hfn, hnn']
   exact ⟨⟨this.1, this.2.1, this.2.2, hs.o0, hs.o1⟩, by rw [← hnn']; exact ha⟩
  ·rw [show (k == 4) = false by simp [h4]]
   simp only [y8]
   by_cases h5 : k = 5
   ·subst h5
    have hr : 0 ≤ n ∧ n ≤ 3 := by omega
    have hlt := hnn (by omega)
    obtain ⟨nn, hnn'⟩ := jw (show 0 ≤ n by omega)
    have := Vaj ⟨nn, by omega⟩ ⟨nl, by omega⟩ (by show nn < nl; omega)
    simp only [show ((5 : Int) == 5) = true from rfl, y3]
    rw [hnn']
    exact ⟨⟨this.1, this.2.1, this.2.2, hs.o0, hs.o1⟩, by rw [← hnn']; exact ha⟩
   ·rw [show (k == 5) = false by simp [h5]]
    simp only [y8]
    by_cases h8 : k = 8
    ·subst h8
     have hm : 0 ≤ mods ∧ mods ≤ 15 := by omega
     simp only [show ((8 : Int) == 8) = true from rfl, y3]
     cases Lk .i64 o mods == mods with
     | true => have := Eal ⟨hs.o0, hs.o1⟩ hm; exact ⟨⟨hs.f0, hs.f1, hs.f2, this.1, this.2⟩, ha⟩
     | false => have := Gad ⟨hs.o0, hs.o1⟩ hm; exact ⟨⟨hs.f0, hs.f1, hs.f2, this.1, this.2⟩, ha⟩
    ·rw [show (k == 8) = false by simp [h8]]
     simp only [y8]
     cases k == 10 <;> exact ⟨hs, ha⟩
theorem YS {m : Aa} (hm : Tg m) (on : Int) {k : Nat} (hk : (k : Int) < m.1) : Mc m.2.1.length (Lh m on k) (Pi m.2.1 (Lh m on k) k) = true ∧ (Pi m.2.1 (Lh m on k) k).1 ≠ 1 := by
 have hl := HE hm on k
 have hrow := hm.row _ hl
 have hk' : k < m.2.1[Lh m on k].length := by omega
 have hact := hm.act _ hl k hk'
 rw [RC hl hk']
 refine ⟨hact, ?_⟩
 have key : ∀ n, Td m.2.1 on k n = 0 ∨ (Pi m.2.1 (Td m.2.1 on k n) k).1 ≠ 1 := by
  intro n
  induction n with
  | zero => exact .inl rfl
  | succ n ih =>
   simp only [Td]
   cases hc : ((Nd on ((n + 1 : Nat) : Int) == 1) && ((Pi m.2.1 (n + 1) k).1 != 1)) with
   | true =>
    simp only [jd, bne_iff_ne] at hc
    exact .inr hc.2
   | false => exact ih
 rcases key (m.2.1.length - 1) with h0 | h1
 ·have h0' : Lh m on k = 0 := h0
  intro h1
  simp only [Mc, jd, yj, Bool.and_eq_false_iff, beq_eq_false_iff_ne] at hact
  rcases hact.1.2 with h2 | h2
  ·exact h2 (by rw [h0']; rfl)
  ·exact h2 h1
 ·have e : Pi m.2.1 (Td m.2.1 on k (m.2.1.length - 1)) k = m.2.1[Lh m on k][k] := RC hl hk'
  rw [e] at h1
  exact h1
theorem U3 {nl i : Nat} {a : Ba} (h : Mc nl i a = true) (h1 : a.1 ≠ 1) : WE nl (Gz a) := by
 have ha := Pu h
 have hP := ha
 rw [Cb] at hP
 unfold Kb at hP
 unfold Gz Pg
 rw [ha]
 by_cases h67 : a.1 = 6 ∨ a.1 = 7
 ·have e : (true && ((a.1 == 6) || (a.1 == 7))) = true := by rcases h67 with h | h <;> rw [h] <;> rfl
  rw [e]
  simp only [y3]
  refine ⟨?_, by show (2 : Int) ≠ 1; decide, by show (2 : Int) ≠ 6; decide, by show (2 : Int) ≠ 7; decide, fun _ => ?_⟩
  ·rw [Cb]
   exact .inr (.inl ⟨rfl, rfl, .inr (by show 1 ≤ a.2.1 ∧ a.2.1 ≤ 56; omega), .inl rfl, .inl (by show a.2.1 ≠ 0; omega)⟩)
  ·show (0 : Int) < (nl : Int)
   have := YF h (by omega)
   omega
 ·have e : (true && ((a.1 == 6) || (a.1 == 7))) = false := by
   rw [jl, yq, beq_eq_false_iff_ne, beq_eq_false_iff_ne]; omega
  rw [e]
  exact ⟨ha, h1, fun h => h67 (.inl h), fun h => h67 (.inr h), fun hk => YF h hk⟩
def Oe (m : Aa) (f o : Int) (c : Bool) (h : List Pa) : Sa := (m, [], f, h, o, c, ())
theorem Aah {nl : Nat} {k : Nat} (hk : k ≤ 31) {a : Ba} (ha : WE nl a) : Pe [((k : Int), a, ())] = true := by
 have e : Vp 0 ((k : Int), a, ()) = true := by
  simp only [Vp, ha.act, jl]
  rw [Ca (show 0 ≤ (k : Int) ∧ (k : Int) ≤ 31 by omega)]
  have hb : (Nd 0 (k : Int) == 1) = false := by
   have := Cx (a := 0) (k := k) (by decide) (by omega)
   rw [Nat.zero_testBit] at this
   exact this
  rw [hb]
  simp [ha.n1, ha.n6, ha.n7]
 show VS (Ve _ 0 0 [_]) = true
 simp only [Ve, Pq, e, y3, VS]
theorem Nn {m : Aa} (hv : Xa m = true) {f o : Int} (hs : Jq m.2.1.length f o) (c : Bool) {h : List Pa} (hh : Pe h = true) (hi : ∀ x ∈ h, Ii m.1 m.2.1.length x = true) : Am (Oe m f o c h) = true := by
 have hk := Yc hv
 have e1 : Md (fun _ x => Ii m.1 m.2.1.length x) 0 h = true := Ze.2 fun j hj => hi _ (qi hj)
 show (Xa m && (decide (([] : List (List Fe)).length ≤ 4) && (Pe h && (true && (Md (fun _ x => Ii m.1 m.2.1.length x) 0 h &&
  (decide (0 ≤ f ∧ f < ((2 ^ m.2.1.length : Nat) : Int)) && ((Int.tmod f 2 == 0) && decide (0 ≤ o ∧ o ≤ 15)))))))) = true
 rw [hv, hh, e1, Ca (⟨hs.f0, hs.f1⟩ : 0 ≤ f ∧ f < ((2 ^ m.2.1.length : Nat) : Int)), Ca (⟨hs.o0, hs.o1⟩ : 0 ≤ o ∧ o ≤ 15), hs.f2]
 rfl
theorem N0 (m : Aa) (f o : Int) (c : Bool) (h : List Pa) : Dc Hb (Oe m f o c h) = Dc La m + h.length := by
 rw [Hw, Xx]
 have : Dc (.sl (.sl Sg)) (Oe m f o c h).2.1 = 0 := rfl
 rw [this, jt]; rfl
theorem H6 {nl : Nat} (h4 : nl ≤ 4) {f o : Int} (hs : Jq nl f o) : 0 ≤ f ∧ f ≤ 15 := by
 have := QY h4
 have h1 := hs.f1
 have h0 := hs.f0
 omega
theorem PJ {f : Int} (hf : 0 ≤ f ∧ f ≤ 15) : Zk f [] = some (Ed .i64 1 f, ()) := by
 unfold Zk
 rw [Ca (show f ≥ 0 by omega), Ca hf.2, Jv [] (by decide)]
 have hs : Hl (Ed .i64 1 f) [] ((ja ([] : List Pa) : Nat) : Int) 0 = some (.inr (.inl ((Ed .i64 1 f, ()), ()))) := rfl
 simp only [y3, jb]
 unfold Ih
 rw [Wd hs]
 rfl
theorem XY {f : Int} (hf : 0 ≤ f ∧ f ≤ 15) : Rr f [] = some (Ed .i64 1 f, ()) := by
 unfold Rr
 rw [Ah, Ca hf]
 have hs : WB [] (Ed .i64 1 f) 0 = some (.inr (.inl ((Ed .i64 1 f, ()), ()))) := rfl
 simp only [y3, jb]
 unfold Xl
 rw [Wd hs]
 rfl
theorem SF (e : Sa) (k : Int) (hn : e.2.2.2.1.length ≤ Ma) : Jw e k = some (He (fun h => h.1 == k) 0 e.2.2.2.1, ()) := by
 have h20 : Ma = 1048576 := rfl
 have hl := OA (step := fun x => Zs x.1.1 x.1.2.1 x.1.2.2.1 x.1.2.2.2.1) e.2.2.2.1 (fun h => h.1 == k) (fun i => ((k, e.2.2.2.1, ((ja e.2.2.2.1 : Nat) : Int), i, ()), ())) (.inl ((), ())) (fun i => .inr ((i, ()), ()))
  (by
   intro j hj
   simp only [Zs]
   rw [Ca (show (j : Int) < ((ja e.2.2.2.1 : Nat) : Int) by omega), Gc hj]
   simp only [y3, jb]
   cases e.2.2.2.1[j].1 == k <;> rfl) (by
   simp only [Zs]
   rw [Ea (by omega)]; rfl) (by omega)
 unfold Jw Cu
 erw [hl]
 simp only [jb]
 by_cases hc : He (fun h : Pa => h.1 == k) 0 e.2.2.2.1 = -1
 ·rw [if_pos hc, hc]; rfl
 ·rw [if_neg hc]; rfl
theorem AA (e : Sa) (k : Int) (hn : e.2.2.2.1.length ≤ Ma) : Nw e k = some (He (fun h => h.1 == k) 0 e.2.2.2.1, ()) := by
 have h20 : Ma = 1048576 := rfl
 have hl := OA (step := fun x => Jt x.1.1 x.1.2.1 x.1.2.2.1 x.2.1) e.2.2.2.1 (fun h => h.1 == k) (fun i => ((k, (), i, ()), (e, ()))) (.inl ((), ())) (fun i => .inr ((i, ()), ()))
  (by
   intro j hj
   simp only [Jt]
   rw [Ca (show (j : Int) < ((ja e.2.2.2.1 : Nat) : Int) by omega), Gc hj]
   simp only [y3, jb]
   cases e.2.2.2.1[j].1 == k <;> rfl) (by
   simp only [Jt]
   rw [Ea (by omega)]; rfl) (by omega)
 unfold Nw Uu
 erw [hl]
 simp only [jb]
 by_cases hc : He (fun h : Pa => h.1 == k) 0 e.2.2.2.1 = -1
 ·rw [if_pos hc, hc]; rfl
 ·rw [if_neg hc]; rfl
theorem JB (a b : Ga) (hn : a.2.1.length ≤ Nb) : Yn a b = some (Eg a b, ()) := by
 have hlim := Rj
 unfold Yn Eg
 simp only [bne]
 cases (show Int from a.1) == (show Int from b.1) with
 | false => rfl
 | true =>
  by_cases h : a.2.1.length = b.2.1.length
  ·have hl := Yf (step := fun x => Cn x.1.1 x.1.2.1 x.1.2.2.1 x.2.1 x.2.2.1) a.2.1 (fun k x => b.2.1.getD k 0 == x) (fun i => (((), (), i, ()), (a, b, ())))
    (.inl ((), ())) (.inr ((false, ()), ())) (by
     intro k hk
     simp only [Cn]
     rw [Ca (show (k : Int) < ((ja a.2.1 : Nat) : Int) by omega), Gc hk, Gc (show k < b.2.1.length by omega), qg, je (show k < b.2.1.length by omega)]
     simp only [y3, jb, qx, bne]
     rw [show (a.2.1[k] == b.2.1[k]) = (b.2.1[k] == a.2.1[k]) by rw [Bool.eq_iff_iff, beq_iff_eq, beq_iff_eq]; exact eq_comm]
     cases b.2.1[k] == a.2.1[k] <;> rfl) (by
     simp only [Cn]
     rw [Ea (by omega)]; rfl) (by omega)
   have e : (((ja a.2.1 : Nat) : Int) == ((ja b.2.1 : Nat) : Int)) = true := by simp [h]
   rw [e]
   simp only [jg, y8, jl]
   unfold Vo
   erw [hl]
   rw [SX a.2.1 b.2.1 h, show (b.2.1 == a.2.1) = (a.2.1 == b.2.1) by rw [Bool.eq_iff_iff, beq_iff_eq, beq_iff_eq]; exact eq_comm]
   cases a.2.1 == b.2.1 <;> rfl
  ·have e : (((ja a.2.1 : Nat) : Int) == ((ja b.2.1 : Nat) : Int)) = false := by simp; omega
   have e2 : (a.2.1 == b.2.1) = false := by rw [beq_eq_false_iff_ne]; intro hh; exact h (by rw [hh])
   rw [e, e2]; rfl
def D8 (s : Ga × List Ga) (x : Ga) : Ga × List Ga := (x, cond (Eg s.1 x) s.2 (jf s.2 [x]))
theorem TW : ∀ (l : List Ga) (k : Nat) (a : Ga) (o : List Ga), (Jd (fun _ s x => D8 s x) k (a, o) l).2 = jf o (Js Eg a l)
 | [], _, _, o => by simp [Jd, Js]
 | x :: l, k, a, o => by
  have ih := TW l (k + 1) x (cond (Eg a x) o (jf o [x]))
  show (Jd (fun _ s x => D8 s x) (k + 1) (x, cond (Eg a x) o (jf o [x])) l).2 = _
  rw [ih]
  simp only [Js]
  cases Eg a x <;> simp
theorem TE (a : Ga) (l : List Ga) (hn : l.length ≤ Ma) (ha : a.2.1.length ≤ Ma) (hx : ∀ x ∈ l, x.2.1.length ≤ Ma) : Ie a l = some (Js Eg a l, ()) := by
 have h20 : Ma = 1048576 := rfl
 have hlim := Rj
 have hl := (Zi (step := fun x => Zn x.1.1 x.1.2.1 x.1.2.2.1 x.1.2.2.2.1 x.2.1) l (fun _ s x => D8 s x) (fun s i => ((l, (), s.2, i, ()), (s.1, ()))) (fun s => .inl ((s.2, ()), ())) (fun k s => s.2.length ≤ k ∧ s.1.2.1.length ≤ Ma) (by
  intro k hk s ⟨hs1, hs2⟩
  have hxk := hx _ (qi hk)
  refine ⟨?_, ?_, hxk⟩
  ·simp only [Zn]
   rw [Ca (show (k : Int) < ((ja l : Nat) : Int) by omega), Gc hk]
   simp only [y3, jb]
   rw [JB _ _ (by omega), RR _ hxk]
   simp only [jb, D8]
   rw [show jy (ja s.2 + ja ([l[k]] : List Ga)) Nb = true from jk (by simp only [jx, j8]; omega)]
   cases Eg s.1 l[k] <;> rfl
  ·unfold D8
   cases Eg s.1 l[k] with
   | true => show s.2.length ≤ k + 1; omega
   | false => show (jf s.2 [l[k]]).length ≤ k + 1; simp; omega)
  (by
   intro s _
   simp only [Zn]
   rw [Ea (by omega)]; rfl) (by omega) (a, []) ⟨jp _, ha⟩).1
 unfold Ie Aq
 erw [hl]
 have := TW l 0 a []
 simp only [jb, qh]
 rw [this]; simp
theorem CE (a : Ga) (l : List Ga) (hn : l.length ≤ Ma) (ha : a.2.1.length ≤ Ma) (hx : ∀ x ∈ l, x.2.1.length ≤ Ma) : Uc a l = some (Js Eg a l, ()) := by
 have h20 : Ma = 1048576 := rfl
 have hlim := Rj
 unfold Uc B6
 have e : (jy (ja l) Nb && (HD a && l.all HD)) = true := by
  rw [jd, jd, yv]
  refine ⟨jk (by omega), jk (by show ja a.2.1 ≤ _; omega), fun x hm => jk ?_⟩
  have := hx x hm
  show ja x.2.1 ≤ _
  omega
 rw [e]; rfl
theorem Oq : ∀ (l : List Ga) (a : Ga), (Js Eg a l).length ≤ l.length
 | [], _ => by simp [Js]
 | x :: l, a => by
  have := Oq l x
  simp only [Js]
  cases Eg a x <;> simp <;> omega
theorem RH (l : List Pa) : (De l).2.1.length ≤ 56 := CH l 56
theorem Nz : ∀ (l : List Ga) (a x : Ga), x ∈ Js Eg a l → x ∈ l
 | [], _, x, h => by simp [Js] at h
 | y :: l, a, x, h => by
  simp only [Js] at h
  cases hs : Eg a y with
  | true => rw [hs] at h; exact js _ (Nz l y x h)
  | false =>
   rw [hs] at h
   rcases jq.1 h with h | h
   ·exact h ▸ List.mem_cons_self ..
   ·exact js _ (Nz l y x h)
end KF
