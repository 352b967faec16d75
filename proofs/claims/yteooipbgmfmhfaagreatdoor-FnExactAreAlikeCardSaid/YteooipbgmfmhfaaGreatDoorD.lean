/- An evaluator of Go functions on plain data, its soundness, and plain laws on what the functions compute, part 4 (conditions: as each lemma tells). -/
import Derived.Test.YteooipbgmfmhfaaGreatDoorC
import Derived.Lib.Split
import Derived.Lib.Join
import Derived.Lib.ItoaNum
import Derived.Lib.IndexMore
import Derived.Lib.Bytealg
import Derived.Lib.Atoi
import Derived.Shelf.Sort.Plain
import Derived.Shelf.Slices.In.SortNone2
import Derived.Shelf.LaysM
import Derived.Shelf.Strings.Split
import Derived.Shelf.Strings.OnBuilder
import Derived.Shelf.Strconv.Itoa3
import Derived.LaidLaws
import Derived.LaidHandle
import Derived.Lib.LaidTab
import Derived.IntWalk
set_option linter.unusedSimpArgs false
set_option linter.unusedVariables false
namespace KF
open Go
open List renaming length → ja, getElem?_eq_getElem → je, append → jf, mem_append → jl, mem_cons → jp, mem_cons_of_mem → jr, length_cons → jw, set → j5, length_nil → j6, mem_singleton → qa, length_append → qb, getD_eq_getElem?_getD → qd, getElem_mem → qf, mem_map → qg, ext_getElem? → qj, drop_drop → qk, toArray → ql, getD → qm, getElem?_eq_none → qn, mem_append_left → qo, mem_append_right → qp, append_assoc → qt, eq_nil_of_length_eq_zero → qv, getElem?_eq_some_iff → qw, length_eq_one_iff → qx, replicate → q0, cons_append → q8, map_cons → ya, map_nil → yb, nodup_cons → yd, nodup_append → ye, size_toArray → yf, flatten_cons → yg, length_map → yi, mem_map_of_mem → yk, map_append → yl, all_eq_true → ym, range → yo, map → yq, not_mem_nil → yr
open Option renaming bind_some → jb, bind → jz, map_some → j9, bind_eq_some_iff → qc, getD_some → qs, map_eq_some_iff → yn
open Option.some renaming injEq → jc, inj → yp
open Bool renaming and_eq_true → jd, not_true → jg, true_and → jk, false_eq_true → jq, not_eq_true → j7, or_eq_true → qr, not_eq_true' → yc, false_or → yj
open Prod.mk renaming injEq → jh
open Nat renaming ble_eq_true_of_le → ji, mul_le_mul_right → jm, le_refl → jo, zero_add → js, add_assoc → jt, eq_of_beq_eq_true → ju, ble → jx, le_trans → j8, beq → qq, le_of_ble_eq_true → qu, add_zero → qy, blt → qz, blt_eq → q6, add_mul → q7, succ_mul → yh
open Int renaming toNat_natCast → jn, eq_ofNat_of_zero_le → jv, toNat → jy
open Go.IntKind renaming wrap → j4
open Sum renaming elim_inl → qe
open Result renaming andThen_ok → qh
open Sem renaming run_bind → qi
open List.cons renaming injEq → q9
abbrev Ge : Ty := .p (.i .i64) (.p (.sl (.i .i64)) .u)
abbrev Ed : Ty := .p (.i .i64) (.p .o .u)
def hd (h : T .o) : Value := .slice h.1 h.2.1 h.2.2
section
variable {P : Program} {w w' : World}
theorem WZ {x : T Ge} {cs : List Value} {F : List Nat} (h : Eb w Ge x cs F) : ∃ h : T .o, cs = [.int .i64 x.1, hd h] ∧ Eb w (.sl (.i .i64)) x.2.1 [hd h] F := by
 obtain ⟨c1, c2, F1, F2, rfl, rfl, ⟨rfl, rfl⟩, c3, c4, F3, F4, rfl, rfl, h3, rfl, rfl⟩ := h
 have h3' := h3
 obtain ⟨_, ⟨e1, _, _⟩ | ⟨bl, off, cap, cur, et, Fs, e1, _⟩⟩ := h3
 ·subst e1
  exact ⟨(none, 0, 0), rfl, by simpa [hd] using h3'⟩
 ·subst e1
  exact ⟨(some ⟨bl, off, none⟩, ja x.2.1, cap), rfl, by simpa [hd] using h3'⟩
theorem M9 {x : T Ge} {h : T .o} {F : List Nat} (ho : Eb w (.sl (.i .i64)) x.2.1 [hd h] F) : Eb w Ge x [.int .i64 x.1, hd h] F :=
 ⟨[.int .i64 x.1], [hd h], [], F, rfl, rfl, ⟨rfl, rfl⟩, [hd h], [], F, [], by simp, by simp, ho, rfl, rfl⟩
theorem BU (x : T Ed) (O : Nat → Prop) : Ha w O Ed x [.int .i64 x.1, hd x.2.1] :=
 ⟨[.int .i64 x.1], [hd x.2.1], rfl, rfl, [hd x.2.1], [], by simp, rfl, rfl⟩
theorem DK {x : T Ed} {O : Nat → Prop} {cs : List Value} (h : Ha w O Ed x cs) : cs = [.int .i64 x.1, hd x.2.1] := by
 obtain ⟨c1, c2, rfl, rfl, c3, c4, rfl, rfl, rfl⟩ := h
 rfl
abbrev VH := T Ge × T Ed × List Nat
def KV (w : World) (p : VH) : Prop := p.2.1.1 = p.1.1 ∧ Eb w (.sl (.i .i64)) p.1.2.1 [hd p.2.1.2.1] p.2.2
theorem T2 {l : List (T Ge)} {cs : List Value} {F : List Nat} (h : Eb w (.sl Ge) l cs F) :
 ∃ Q : List VH, Q.map (·.1) = l ∧ Ha w (fun _ => False) (.sl Ed) (Q.map (·.2.1)) cs ∧ (∀ p ∈ Q, KV w p) ∧ (Q.map (·.2.2)).flatten.Sublist F := by
 obtain ⟨hm, ⟨rfl, rfl, rfl⟩ | ⟨bl, off, cap, cur, et, Fs, rfl, hh, h1, h2, h3, rfl, hl, hv⟩⟩ := h
 ·exact ⟨[], rfl, ⟨none, 0, rfl, jo _, hm, .inl rfl⟩, by simp, by simp⟩
 ·have key : ∀ i : Fin (ja l), ∃ h : T .o, Gc cur (off + i.val * Ge.size) Ge.size = [.int .i64 (List.get l i).1, hd h] ∧ Eb w (.sl (.i .i64)) (List.get l i).2.1 [hd h] (Fs.getD i.val []) :=
   fun i => WZ (hv i.val i.isLt)
  have ⟨g, hg⟩ := Classical.axiomOfChoice key
  let Q : List VH := List.ofFn fun i : Fin (ja l) => (List.get l i, ((List.get l i).1, g i, ()), Fs.getD i.val [])
  have hQ : ∀ i (hi : i < ja l), Q[i]'(by simp [Q]; exact hi) = (List.get l ⟨i, hi⟩, ((List.get l ⟨i, hi⟩).1, g ⟨i, hi⟩, ()), Fs.getD i []) := fun i hi => by simp [Q]
  have hQl : Q.length = ja l := by simp [Q]
  refine ⟨Q, ?_, ?_, ?_, ?_⟩
  ·apply List.ext_getElem
   ·simp [hQl]
   ·intro i h1 h2
    rw [List.getElem_map, hQ i h2]; rfl
  ·have hlen : ja (Q.map (·.2.1)) = ja l := by simp [hQl]
   refine ⟨_, cap, by rw [hlen], by rw [hlen]; exact h1, by rw [hlen]; exact hm, .inr ⟨bl, off, cur, et, _, rfl, fun h => h, hh, ?_, fun i hi => ?_⟩⟩
   ·rw [hlen]
    have := jm Ge.size h1
    exact j8 (Nat.add_le_add_left this _) h3
   ·have hi' : i < ja l := by rw [← hlen]; exact hi
    have e : List.get (Q.map (·.2.1)) ⟨i, hi⟩ = ((List.get l ⟨i, hi'⟩).1, g ⟨i, hi'⟩, ()) := by
     show (Q.map (·.2.1))[i] = _
     rw [List.getElem_map, hQ i hi']
    rw [e]
    have := (hg ⟨i, hi'⟩).1
    show Ha w _ Ed _ (Gc cur (off + i * Ge.size) Ge.size)
    rw [this]
    exact BU (((List.get l ⟨i, hi'⟩).1, g ⟨i, hi'⟩, ()) : T Ed) _
  ·intro p hp
   obtain ⟨i, hi, rfl⟩ := List.getElem_of_mem hp
   have hi' : i < ja l := by rw [← hQl]; exact hi
   rw [hQ i hi']
   exact ⟨rfl, (hg ⟨i, hi'⟩).2⟩
  ·have e : Q.map (·.2.2) = Fs := by
    apply List.ext_getElem
    ·simp [hQl, hl]
    ·intro i h1 h2
     have hi' : i < ja l := by rw [← hl]; exact h2
     rw [List.getElem_map, hQ i hi']
     simp [qm, je h2]
   rw [e]
   exact List.sublist_cons_self _ _
theorem E3 {Q : List VH} {cs : List Value} {F : List Nat} (h : Eb w (.sl Ed) (Q.map (·.2.1)) cs F) (hQ : ∀ p ∈ Q, KV w p) :
 ∃ F', Eb w (.sl Ge) (Q.map (·.1)) cs F' ∧ (∀ b, b ∈ F' → b ∈ F ∨ b ∈ (Q.map (·.2.2)).flatten) ∧ ((∀ b, b ∈ F → b ∉ (Q.map (·.2.2)).flatten) → F.Nodup → (Q.map (·.2.2)).flatten.Nodup → F'.Nodup) := by
 obtain ⟨hm, ⟨rfl, hn, rfl⟩ | ⟨bl, off, cap, cur, et, Fs, rfl, hh, h1, h2, h3, rfl, hl, hv⟩⟩ := h
 ·have : Q = [] := List.map_eq_nil_iff.1 hn
  subst this
  exact ⟨[], ⟨hm, .inl ⟨rfl, rfl, rfl⟩⟩, by simp, by simp⟩
 ·have hlen : ja (Q.map (·.2.1)) = Q.length := by simp
  have hlen1 : ja (Q.map (·.1)) = Q.length := by simp
  rw [hlen] at hm h1 hl
  refine ⟨bl :: (Q.map (·.2.2)).flatten, ⟨by rw [hlen1]; exact hm, .inr ⟨bl, off, cap, cur, et, Q.map (·.2.2), by rw [hlen1]; simp, hh, by rw [hlen1]; exact h1, h2, h3, rfl, by simp, fun i hi => ?_⟩⟩, ?_, ?_⟩
  ·have hi' : i < Q.length := by rw [← hlen1]; exact hi
   have hv' := hv i (by rw [hlen]; exact hi')
   have e0 : List.get (Q.map (·.2.1)) ⟨i, by rw [hlen]; exact hi'⟩ = Q[i].2.1 := by
    show (Q.map (·.2.1))[i]'_ = _
    rw [List.getElem_map]
   have e1 : List.get (Q.map (·.1)) ⟨i, hi⟩ = Q[i].1 := by
    show (Q.map (·.1))[i]'_ = _
    rw [List.getElem_map]
   rw [e0] at hv'
   rw [e1]
   have hF0 : ∀ b, b ∈ Fs.getD i [] → False := by
    intro b hb
    obtain ⟨c1, c2, F1, F2, _, hF, ⟨_, rfl⟩, c3, c4, F3, F4, _, rfl, ⟨_, rfl⟩, _, rfl⟩ := hv'
    rw [hF] at hb; simp at hb
   have hcs := DK (Eb.view (O := fun _ => False) hv' (fun b hb h => h))
   have hok := hQ Q[i] (qf hi')
   have e2 : (Q.map (·.2.2)).getD i [] = Q[i].2.2 := by
    simp [qm, je hi']
   rw [e2]
   show Eb w Ge _ (Gc cur (off + i * Ed.size) Ed.size) _
   rw [hcs, hok.1]
   exact M9 hok.2
  ·intro b hb
   rcases jp.1 hb with rfl | hb
   ·exact .inl (by simp)
   ·exact .inr hb
  ·intro hdj _ hnd
   exact yd.2 ⟨hdj bl (by simp), hnd⟩
end
def Ko (same : T Ge → T Ge → Bool) : T Ge → List (T Ge) → List (T Ge)
 | _, [] => []
 | a, x :: r => cond (same a x) (Ko same x r) (x :: Ko same x r)
def Ix (same : T Ge → T Ge → Bool) : T Ge → List VH → List VH
 | _, [] => []
 | a, x :: r => cond (same a x.1) (Ix same x.1 r) (x :: Ix same x.1 r)
def VA (c : T Ed → T Ed → Option Bool) : T Ed → List (T Ed) → Option (List (T Ed))
 | _, [] => some []
 | a, x :: r => jz (c a x) fun b => jz (VA c x r) fun q => some (cond b q (x :: q))
theorem NG (same : T Ge → T Ge → Bool) : ∀ (Q : List VH) (a : T Ge), (Ix same a Q).map (·.1) = Ko same a (Q.map (·.1))
 | [], _ => rfl
 | x :: r, a => by
  simp only [Ix, Ko, ya]
  cases same a x.1 with
  | true => simp only [yt]; exact NG same r x.1
  | false => simp only [yu, ya]; rw [NG same r x.1]
theorem OG (same : T Ge → T Ge → Bool) : ∀ (Q : List VH) (a : T Ge), (Ix same a Q).Sublist Q
 | [], _ => .slnil
 | x :: r, a => by
  simp only [Ix]
  cases same a x.1 with
  | true => exact (OG same r x.1).cons x
  | false => exact (OG same r x.1).cons_cons x
theorem LR {same : T Ge → T Ge → Bool} {c : T Ed → T Ed → Option Bool} {R : T Ge → T Ed → Prop} (hc : ∀ a ao b bo, R a ao → R b bo → c ao bo = some (same a b)) :
 ∀ (Q : List VH) (a : T Ge) (ao : T Ed), R a ao → (∀ p ∈ Q, R p.1 p.2.1) → VA c ao (Q.map (·.2.1)) = some ((Ix same a Q).map (·.2.1))
 | [], _, _, _, _ => rfl
 | x :: r, a, ao, h, hq => by
  have hx := hq x (by simp)
  simp only [ya, VA, Ix, hc _ _ _ _ h hx, jb]
  rw [LR hc r x.1 x.2.1 hx (fun p hp => hq p (by simp [hp]))]
  simp only [jb]
  cases same a x.1 <;> rfl
theorem FR {α : Type} {a b : List (List α)} (h : a.Sublist b) : a.flatten.Sublist b.flatten := by
 induction h with
 | slnil => simp
 | cons x _ ih => rw [yg]; exact ih.trans (List.sublist_append_right _ _)
 | cons_cons x _ ih => rw [yg, yg]; exact (List.Sublist.refl x).append ih
def Tx (x : T Ge) : Bool := jx (ja x.2.1) Mb
noncomputable def BW (same : T Ge → T Ge → Bool) (a : T Ge) (l : List (T Ge)) : Option (List (T Ge) × Unit) :=
 bif jx (ja l) Mb && (Tx a && l.all Tx) then some (Ko same a l, ()) else none
theorem U5 {w : World} {O O' : Nat → Prop} {xs ys : List Int} {v : Value} (h1 : Ha w O (.sl (.i .i64)) xs [v]) (h2 : Ha w O' (.sl (.i .i64)) ys [v]) : xs = ys := by
 obtain ⟨a, cap, e1, _, _, h1⟩ := h1
 obtain ⟨a', cap', e2, _, _, h2⟩ := h2
 rw [e1] at e2
 simp only [q9, Value.slice.injEq, and_true] at e2
 obtain ⟨rfl, hlen, rfl⟩ := e2
 have hlen' : xs.length = ys.length := hlen
 rcases h1 with h1 | ⟨bl, off, cur, et, fr, ha, _, hh, hs, hv⟩
 ·have h1' : xs = [] := h1
  subst h1'
  exact (qv (by simpa using hlen'.symm)).symm
 ·rcases h2 with h2 | ⟨bl', off', cur', et', fr', ha', _, hh', hs', hv'⟩
  ·have h2' : ys = [] := h2
   subst h2'
   exact qv (by simpa using hlen')
  ·rw [ha] at ha'
   simp only [jc, Addr.mk.injEq, and_true] at ha'
   obtain ⟨rfl, rfl⟩ := ha'
   rw [hh] at hh'
   simp only [jc] at hh'
   injection hh' with e3 _ _
   subst e3
   apply List.ext_getElem hlen'
   intro i h1 h2
   have p1 := hv i h1
   have p2 := hv' i h2
   have p1' : Gc cur (off + i * 1) 1 = [Value.int .i64 xs[i]] := p1
   have p2' : Gc cur (off + i * 1) 1 = [Value.int .i64 ys[i]] := p2
   rw [p1'] at p2'
   simpa using p2'
open Classical in
noncomputable def VC (w : World) (h : T .o) : Option (List Int) :=
 if hx : ∃ xs : List Int, Ha w (fun _ => False) (.sl (.i .i64)) xs [hd h] ∧ ja xs ≤ Mb then some hx.choose else none
theorem CL {w : World} {h : T .o} {xs : List Int} (hc : VC w h = some xs) : Ha w (fun _ => False) (.sl (.i .i64)) xs [hd h] ∧ ja xs ≤ Mb := by
 unfold VC at hc
 split at hc
 ·rename_i hx
  simp only [jc] at hc
  rw [← hc]; exact hx.choose_spec
 ·simp at hc
theorem MR {w : World} {h : T .o} {xs : List Int} (hv : Ha w (fun _ => False) (.sl (.i .i64)) xs [hd h]) (hl : ja xs ≤ Mb) : VC w h = some xs := by
 unfold VC
 have hx : ∃ xs : List Int, Ha w (fun _ => False) (.sl (.i .i64)) xs [hd h] ∧ ja xs ≤ Mb := ⟨xs, hv, hl⟩
 rw [dif_pos hx]
 rw [U5 hx.choose_spec.1 hv]
noncomputable def MO (w : World) (same : T Ge → T Ge → Bool) (a b : T Ed) : Option Bool :=
 jz (VC w a.2.1) fun u => jz (VC w b.2.1) fun v => some (same (a.1, u, ()) (b.1, v, ()))
@[reducible] noncomputable def QK (c : T Ed → T Ed → Option Bool) : Xa := .pu (.p Ed (.p Ed .u)) (.p .b .u) [true] (fun x => jz (c x.1 x.2.1) fun b => some (b, ()))
theorem LX {w w2 : World} (h : ∀ b, b < w.heap.size → w2.heap[b]? = w.heap[b]?) {τ : Ty} {x : T τ} {cs : List Value} {O : Nat → Prop} (hv : Ha w O τ x cs) : Ha w2 O τ x cs :=
 Ha.stable (fun b _ hb => h b hb) (fun _ _ h => h) hv
theorem B0 {P : Program} {I0 : Bg} {f f2 : FuncId} {SR : T (.p Ge (.p Ge .u)) → Option (T (.p .b .u))} {same : T Ge → T Ge → Bool}
 (hSR : ∀ a b : T Ge, ja a.2.1 ≤ Mb → ja b.2.1 ≤ Mb → SR (a, b, ()) = some (same a b, ()))
 (h2 : Gg P I0 f2 (.pu (.p Ge (.p Ge .u)) (.p .b .u) [true] SR))
 (h : ∀ (I : Bg) (c : T Ed → T Ed → Option Bool), Gg P I f2 (QK c) → ∃ FO, Gg P I f (.pu (.p Ed (.p (.sl Ed) .u)) (.p (.sl Ed) .u) [true] FO) ∧
  ∀ (a : T Ed) (l r : List (T Ed)), ja l ≤ Mb → VA c a l = some r → FO (a, l, ()) = some (r, ())) :
 Gg P I0 f (.co (.p Ge (.p (.sl Ge) .u)) (.p (.sl Ge) .u) [true] (fun x => BW same x.1 x.2.1)) := by
 have hE : Uq P f := by
  have hS0 : Gg P I0 f2 (QK fun _ _ => none) := ⟨h2.1, fun O w x r args hF => by simp at hF⟩
  obtain ⟨FO, hs, _⟩ := h I0 _ hS0
  exact hs.1
 refine ⟨hE, ?_⟩
 intro O w x r F0 args hF hA hnd hO _ hI hbase hF0
 obtain ⟨a, l, u⟩ := x
 match args, hA with
 | [a1, a2], hA =>
 obtain ⟨cs1, F1, F2', rfl, rfl, ho1, cs2, F2, F3, rfl, rfl, ho2, hF3⟩ := hA
 have hF3' : F3 = [] := hF3
 subst hF3'
 rw [List.append_nil] at *
 simp only [BW] at hF
 cases hsm : (jx (ja l) Mb && (Tx a && l.all Tx)) with
 | false => rw [hsm] at hF; simp at hF
 | true =>
 rw [hsm] at hF
 simp only [yt, jc] at hF
 subst hF
 simp only [jd, ym, Tx] at hsm
 have hl1 : ja l ≤ Mb := qu hsm.1
 have hl2 : ja a.2.1 ≤ Mb := qu hsm.2.1
 have hl3 : ∀ x ∈ l, ja x.2.1 ≤ Mb := fun x hx => qu (hsm.2.2 x hx)
 obtain ⟨ah, rfl, hoa⟩ := WZ ho1
 obtain ⟨Q, rfl, hvQ, hokQ, hsub⟩ := T2 ho2
 let I : Bg := ⟨w.heap.size, fun w2 => w.heap.size ≤ w2.heap.size ∧ ∀ b, b < w.heap.size → w2.heap[b]? = w.heap[b]?, fun w1 w2 hb h1 => by
  refine ⟨?_, fun b hlt => (hb b hlt).trans (h1.2 b hlt)⟩
  rcases Nat.eq_zero_or_pos w.heap.size with h0 | h0
  ·omega
  ·have e := (hb (w.heap.size - 1) (by omega)).trans (h1.2 (w.heap.size - 1) (by omega))
   rw [Array.getElem?_eq_getElem (show w.heap.size - 1 < w.heap.size by omega)] at e
   have := (Array.getElem?_eq_some_iff.1 e).1
   omega⟩
 have hS : Gg P I f2 (QK (MO w same)) := by
  refine ⟨h2.1, ?_⟩
  intro O2 w2 x2 r2 args2 hF2 hA2 hO2 hI2 hb2
  obtain ⟨p, q, u2⟩ := x2
  match args2, hA2 with
  | [b1, b2], hA2 =>
  obtain ⟨⟨c1, rfl, hv1⟩, ⟨c2, rfl, hv2⟩, _⟩ := hA2
  simp only [MO] at hF2
  cases hu : VC w p.2.1 with
  | none => rw [hu] at hF2; simp at hF2
  | some xu =>
   cases hv : VC w q.2.1 with
   | none => rw [hu, hv] at hF2; simp at hF2
   | some xv =>
    rw [hu, hv] at hF2
    simp only [jb, jc] at hF2
    subst hF2
    obtain ⟨hxu, lxu⟩ := CL hu
    obtain ⟨hxv, lxv⟩ := CL hv
    have e1 := DK hv1
    have e2 := DK hv2
    subst e1; subst e2
    have mk : ∀ (p : T Ed) (xs : List Int), Ha w (fun _ => False) (.sl (.i .i64)) xs [hd p.2.1] → Ha w2 (fun _ => False) Ge (p.1, xs, ()) [.int .i64 p.1, hd p.2.1] := fun p xs hx =>
     ⟨[.int .i64 p.1], [hd p.2.1], rfl, rfl, [hd p.2.1], [], by simp, LX hI2.2 hx, rfl⟩
    have hc := h2.2 (fun _ => False) w2 ((p.1, xu, ()), (q.1, xv, ()), ()) (same (p.1, xu, ()) (q.1, xv, ()), ()) [Hc Ed [.int .i64 p.1, hd p.2.1], Hc Ed [.int .i64 q.1, hd q.2.1]]
     (hSR _ _ lxu lxv) ⟨⟨_, rfl, mk p xu hxu⟩, ⟨_, rfl, mk q xv hxv⟩, trivial⟩ (fun b h => h.elim) (I0.st _ _ (fun b hb => hI2.2 b (Nat.lt_of_lt_of_le hb hbase)) hI) (j8 hbase hI2.1)
    refine hc.mono ?_
    intro e w3 hR
    cases e with
    | returned v =>
     obtain ⟨vs, Fr, hvs, hK, hR, hn, hfr⟩ := hR
     exact ⟨vs, Fr, hvs, hK, hR.all rfl, hn, hfr⟩
    | panicked _ => exact hR
    | outgrown => exact hR
 obtain ⟨FO, hs, hFO⟩ := h I (MO w same) hS
 have hrel : ∀ a ao b bo, (fun (x : T Ge) (y : T Ed) => y.1 = x.1 ∧ Ha w (fun _ => False) (.sl (.i .i64)) x.2.1 [hd y.2.1] ∧ ja x.2.1 ≤ Mb) a ao →
  (fun (x : T Ge) (y : T Ed) => y.1 = x.1 ∧ Ha w (fun _ => False) (.sl (.i .i64)) x.2.1 [hd y.2.1] ∧ ja x.2.1 ≤ Mb) b bo → MO w same ao bo = some (same a b) := by
  rintro a ao b bo ⟨e1, v1, l1⟩ ⟨e2, v2, l2⟩
  simp only [MO, MR v1 l1, MR v2 l2, jb, e1, e2]
 have hch := LR (R := fun (x : T Ge) (y : T Ed) => y.1 = x.1 ∧ Ha w (fun _ => False) (.sl (.i .i64)) x.2.1 [hd y.2.1] ∧ ja x.2.1 ≤ Mb) hrel Q a (a.1, ah, ())
  ⟨rfl, Eb.view hoa fun b _ h => h, hl2⟩ (fun p hp => ⟨(hokQ p hp).1, Eb.view (hokQ p hp).2 fun b _ h => h, hl3 p.1 (yk hp)⟩)
 have hFO' := hFO (a.1, ah, ()) (Q.map (·.2.1)) _ (by simpa using hl1) hch
 have hc := hs.2 (fun _ => False) w ((a.1, ah, ()), Q.map (·.2.1), ()) ((Ix same a Q).map (·.2.1), ()) [Hc Ed [.int .i64 a.1, hd ah], Hc (.sl Ed) cs2] hFO'
  ⟨⟨_, rfl, BU ((a.1, ah, ()) : T Ed) _⟩, ⟨_, rfl, hvQ⟩, trivial⟩ (fun b h => h.elim) ⟨jo _, fun _ _ => rfl⟩ (jo _)
 refine hc.mono ?_
 intro e w3 hR
 cases e with
 | panicked _ => exact hR
 | outgrown => exact hR
 | returned v =>
  obtain ⟨vs, Fr, hvs, hK, hR, hn, hfr⟩ := hR
  match vs, hR with
  | [v1], hR =>
  obtain ⟨cs, G1, G2, rfl, rfl, hown, hG2⟩ := hR
  have hG2' : G2 = [] := hG2
  subst hG2'
  rw [List.append_nil] at *
  simp only [if_true] at hown
  have hlt : ∀ b, b ∈ F2 → b < w.heap.size := fun b hb => ho2.lt b hb
  have hsubQ := OG same Q a
  have hok3 : ∀ p ∈ Ix same a Q, KV w3 p := fun p hp => by
   have h0 := hokQ p (hsubQ.mem hp)
   exact ⟨h0.1, Eb.stable h0.2 fun b hb => hK.block b (h0.2.lt b hb) (fun h => h)⟩
  obtain ⟨F', ho', hm', hnd'⟩ := E3 hown hok3
  have hsub2 : ((Ix same a Q).map (·.2.2)).flatten.Sublist F2 := by
   refine List.Sublist.trans ?_ hsub
   exact FR (hsubQ.map _)
  have hndF2 : F2.Nodup := (ye.1 hnd).2.1
  have hnF' : F'.Nodup := hnd' (fun b hb hb2 => by
   have h3 := hfr b hb
   have h4 := hlt b (hsub2.mem hb2)
   omega) hn (hsub2.nodup hndF2)
  refine ⟨[Hc (.sl Ed) cs], F', hvs, ⟨hK.size, fun b hb _ => hK.block b hb (fun h => h), hK.os, hK.tape, hK.output⟩, ⟨cs, F', [], rfl, by simp, ?_, rfl⟩, hnF', ?_⟩
  ·simp only [if_true]
   rw [← NG]
   exact ho'
  ·intro b hb
   rcases hm' b hb with hb | hb
   ·exact .inl (hfr b hb)
   ·exact .inr (qp _ (hsub2.mem hb))
noncomputable def I5 (xs : List Int) : Option (List Int × Unit) := bif jx (ja xs) Mb then some (List.mergeSort xs (fun x y => decide (x ≤ y)), ()) else none
def ZZ (n : Nat) : Bool := jx n 1048576
noncomputable def MQ (x y : List UInt8) : Option (List (List UInt8) × Unit) :=
 bif ZZ (ja x) && jx 1 (ja y) then some (Lib.split x y, ()) else none
noncomputable def SN (x : List (List UInt8)) (y : List UInt8) : Option (List UInt8 × Unit) :=
 bif jx (ja x) 1073741824 && jx (ja (Lib.join x y)) 1073741824 then some (Lib.join x y, ()) else none
theorem QT {cur : Array Value} {k : Nat} {v : Value} (h : Gc cur k 1 = [v]) : cur[k]? = some v := by
 have := congrArg (·[0]?) h
 simp only [Sd cur k 1 0 (by omega)] at this
 simpa using this
theorem JT {cur : Array Value} {k : Nat} {v : Value} (h : cur[k]? = some v) : Gc cur k 1 = [v] := by
 apply qj
 intro j
 by_cases hj : j = 0
 ·subst hj; rw [Sd cur k 1 0 (by omega)]; simpa using h
 ·have hk : k < cur.size := (Array.getElem?_eq_some_iff.1 h).1
  have hl : (Gc cur k 1).length = 1 := Kc (by omega)
  rw [qn (by omega), qn (by simp; omega)]
theorem DX {P : Program} {ρ : Go.Shelf.Ren} {f : FuncId} {I : Bg} (L : Go.Proofs.Lays.n191 P ρ) (hf : ρ.f 191 = f) : Gg P I f (.io (.sl (.i .i64)) .u .u [] (fun x0 _ => I5 x0)) := by
 subst hf
 refine ⟨⟨_, L.f191, rfl, rfl⟩, ?_⟩
 intro O w x0 x r cs0 F0 args hF ho hnd hA hO _ _ _
 match args, hA with
 | [], _ =>
 simp only [I5] at hF
 cases hl : jx (ja x0) Mb with
 | false => rw [hl] at hF; simp at hF
 | true =>
 rw [hl] at hF
 simp only [yt, jc] at hF
 subst hF
 have hlim : Mb = 1073741824 := rfl
 have hx : ja x0 ≤ Mb := qu hl
 have ho0 := ho
 obtain ⟨hm, ⟨rfl, hn, rfl⟩ | ⟨bl, off, cap, cur, et, Fs, rfl, hh, h1, h2, h3, rfl, hlen, hv⟩⟩ := ho
 ·have hn' : x0 = [] := hn
  subst hn'
  refine (Go.Proofs.Any.sort_Ints_none L none 0 w).mono ?_
  rintro e w' ⟨rfl, rfl⟩
  refine ⟨[], [], [], rfl, ⟨jo _, fun _ _ _ => rfl, rfl, rfl, rfl⟩, ?_, by simp, rfl, List.nodup_nil, by simp⟩
  show Eb w' (.sl (.i .i64)) (List.mergeSort ([] : List Int) _) _ _
  simpa using ho0
 ·have hcell : ∀ i (hi : i < x0.length), cur[off + i]? = some (.int .i64 x0[i]) := by
   intro i hi
   have := (hv i hi).1
   have e : Gc cur (off + i * 1) 1 = [Value.int .i64 x0[i]] := this
   rw [Nat.mul_one] at e
   exact QT e
  have hFs : ∀ b, b ∈ Fs.flatten → False := by
   intro b hb
   obtain ⟨l, hl, hb⟩ := List.mem_flatten.1 hb
   obtain ⟨i, hi, rfl⟩ := List.getElem_of_mem hl
   have := (hv i (by rw [← hlen]; exact hi)).2
   rw [qd, je hi] at this
   simp only [qs] at this
   rw [this] at hb; simp at hb
  have hH : Go.Sort.Holds (Value.int .i64) w bl off x0.toArray := by
   intro j hj
   have hj' : j < x0.length := by simpa using hj
   refine ⟨?_, ?_⟩
   ·unfold World.cell?
    simp only [hh]
    rw [hcell j hj']
    simp [getElem!_pos, hj']
   ·unfold World.frozen?
    simp [hh]
  have hbl : bl < w.heap.size := (Array.getElem?_eq_some_iff.1 hh).1
  refine (Go.Proofs.Any.sort_Ints L bl off cap x0 w hH hbl (by omega)).mono ?_
  rintro e w' ⟨rfl, n, os, rfl⟩
  generalize hzs : (x0.mergeSort fun x y => decide (x ≤ y)) = zs
  have hzl : zs.length = x0.length := by rw [← hzs]; exact List.length_mergeSort _
  have hheap : ∀ b, b < w.heap.size → (Go.Sort.grow (Go.Sort.putRow (Value.int .i64) (Go.Sort.ahead w n) bl off zs.toArray) os).heap[b]? = if bl = b then (w.heap[b]?).map (Go.Sort.onCells (Go.Sort.putCells (Value.int .i64) off zs.toArray)) else w.heap[b]? := by
   intro b hb
   simp only [Go.Sort.grow, Go.Sort.putRow, Go.Sort.mapBlock, Go.Sort.ahead]
   rw [Array.getElem?_append_left (by simpa using hb), Array.getElem?_modify]
  refine ⟨[], bl :: Fs.flatten, [], rfl, ⟨?_, ?_, rfl, rfl, rfl⟩, ?_, fun b hb => .inr hb, rfl, by simpa using hnd, by simp⟩
  ·simp only [Go.Sort.grow, Array.size_append, Go.Sort.size_putRow, Go.Sort.ahead]
   omega
  ·intro b hb hno
   have hne : bl ≠ b := fun e => hno (by rw [e]; simp)
   rw [hheap b hb, if_neg hne]
  ·have hcs : ([.slice (some ⟨bl, off, none⟩) (ja x0) cap] : List Value) = [.slice (some ⟨bl, off, none⟩) (ja (zs : List Int)) cap] := by rw [hzl]
   show Eb _ (.sl (.i .i64)) (zs : List Int) _ _
   rw [hcs]
   refine ⟨by show zs.length ≤ Lg; rw [hzl]; exact hm, .inr ⟨bl, off, cap, _, et, Fs, rfl, (hheap bl hbl).trans (by rw [if_pos rfl, hh]; rfl), by show zs.length ≤ cap; rw [hzl]; exact h1, h2, by simpa [Go.Sort.putCells] using h3, rfl, by show Fs.length = zs.length; rw [hzl]; exact hlen, fun i hi => ?_⟩⟩
   have hi' : i < zs.length := hi
   have hi2 : i < x0.length := by omega
   refine ⟨?_, ?_⟩
   ·show Gc _ (off + i * 1) 1 = [Value.int .i64 zs[i]]
    rw [Nat.mul_one]
    apply JT
    simp only [Go.Sort.putCells, Array.getElem?_mapIdx, hcell i hi2, j9]
    rw [if_pos ⟨by omega, by simp; omega⟩, show off + i - off = i by omega]
    simp [getElem!_pos, hi']
   ·exact (hv i hi2).2
theorem PA (w : World) (o : Obj) : (w.alloc o).heap = w.heap.push o := rfl
theorem ER {P : Program} {ρ : Go.Shelf.Ren} {f : FuncId} {I : Bg} (L : Go.Proofs.LaysM.n146 P ρ) (hf : ρ.f 146 = f)
 (hI : ∀ w, I.p w → ∃ m, w.cell? ⟨ρ.g 1, 0, none⟩ = some (.int .i64 m)) : Gg P I f (.pu (.p .s (.p .s .u)) (.p (.sl .s) .u) [true] (fun x => MQ x.1 x.2.1)) := by
 subst hf
 refine ⟨⟨_, L.f146, rfl, rfl⟩, ?_⟩
 intro O w x r args hF hA hO hi hb
 match args, hA with
 | [a, b], hA =>
  obtain ⟨⟨ca, rfl, hca⟩, ⟨cb, rfl, hcb⟩, _⟩ := hA
  have hca' : ca = [.string ⟨ql x.1⟩] := hca
  have hcb' : cb = [.string ⟨ql x.2.1⟩] := hcb
  subst hca'; subst hcb'
  simp only [MQ, ZZ] at hF
  cases h1 : jx (ja x.1) 1048576 with
  | false => rw [h1] at hF; simp at hF
  | true =>
  cases h2 : jx 1 (ja x.2.1) with
  | false => rw [h1, h2] at hF; simp at hF
  | true =>
  rw [h1, h2] at hF
  simp only [Bool.and_true, yt, jc] at hF
  subst hF
  have h1' := qu h1
  have h2' := qu h2
  obtain ⟨m, hm⟩ := hI w hi
  have hs1 : (⟨ql x.1⟩ : ByteArray).size = ja x.1 := by show (ql x.1).size = _; simp
  have hs2 : (⟨ql x.2.1⟩ : ByteArray).size = ja x.2.1 := by show (ql x.2.1).size = _; simp
  have hd : (Lib.splitB ⟨ql x.2.1⟩ 0 (Lib.countB ⟨ql x.1⟩ ⟨ql x.2.1⟩) ⟨ql x.1⟩).map (fun z => z.data.toList) = Lib.split x.1 x.2.1 := by
   rw [Lib.splitB_data]; rfl
  have hlen := Lib.splitB_all ⟨ql x.2.1⟩ (by omega) 0 _ ⟨ql x.1⟩ rfl
  have hle := Lib.countB_le ⟨ql x.2.1⟩ (by omega) _ ⟨ql x.1⟩ (jo _)
  obtain ⟨zs, hz⟩ : ∃ zs, Lib.splitB ⟨ql x.2.1⟩ 0 (Lib.countB ⟨ql x.1⟩ ⟨ql x.2.1⟩) ⟨ql x.1⟩ = zs := ⟨_, rfl⟩
  rw [hz] at hlen hd
  obtain ⟨n, hcn⟩ : ∃ n, Lib.countB ⟨ql x.1⟩ ⟨ql x.2.1⟩ = n := ⟨_, rfl⟩
  rw [hcn] at hlen hle
  have hn : (Lib.split x.1 x.2.1).length = n + 1 := by rw [← hd, yi, hlen]
  refine (Go.Proofs.Any.strings_Split { L with } L.i9 ⟨ql x.1⟩ ⟨ql x.2.1⟩ m w (by omega) hm (by omega)).mono ?_
  rintro e w' ⟨rfl, rfl⟩
  rw [hz]
  refine ⟨[.slice (some ⟨w.heap.size, 0, none⟩) (n + 1) (n + 1)], [w.heap.size], by rw [hcn]; rfl, ⟨?_, ?_, rfl, rfl, rfl⟩, ?_, by simp, by simp⟩
  ·rw [PA]; simp
  ·intro b hb _
   rw [PA]
   simp [Array.getElem?_push_lt hb, Array.getElem?_eq_getElem hb]
  ·refine ⟨[.slice (some ⟨w.heap.size, 0, none⟩) (n + 1) (n + 1)], [w.heap.size], [], rfl, rfl, ?_, rfl⟩
   show Eb _ (.sl .s) (Lib.split x.1 x.2.1) _ _
   refine ⟨by rw [hn]; unfold Lg; omega, .inr ⟨w.heap.size, 0, n + 1, (zs.map Value.string).toArray, ρ.t 9, q0 (n + 1) [], ?_, ?_, by omega, by unfold Lg; omega, ?_, ?_, ?_, ?_⟩⟩
   ·rw [hn]
   ·rw [PA]; simp
   ·simp [Ty.size, hlen]
   ·simp
   ·simp [hn]
   ·intro i hi
    have hi' : i < n + 1 := by omega
    have hiz : i < zs.length := by omega
    refine ⟨?_, by simp [qd, List.getElem?_replicate, hi']⟩
    show Gc _ (0 + i * 1) 1 = _
    apply JT
    have : (Lib.split x.1 x.2.1)[i]'hi = (zs[i]).data.toList := by simp [← hd]
    show _ = some (Value.string ⟨ql ((Lib.split x.1 x.2.1)[i]'hi)⟩)
    rw [this]
    simp [hiz]
theorem NW {P : Program} {ρ : Go.Shelf.Ren} {f : FuncId} {I : Bg} (L : Go.Proofs.Lays.n156 P ρ) (hf : ρ.f 156 = f) (X : Go.Proofs.Builder.Extra P ρ) : Gg P I f (.pu (.p (.sl .s) (.p .s .u)) (.p .s .u) [true] (fun x => SN x.1 x.2.1)) := by
 subst hf
 refine ⟨⟨_, L.f156, rfl, rfl⟩, ?_⟩
 intro O w x r args hF hA hO hi hb
 match args, hA with
 | [a, b], hA =>
  obtain ⟨⟨ca, rfl, hca⟩, ⟨cb, rfl, hcb⟩, _⟩ := hA
  have hcb' : cb = [.string ⟨ql x.2.1⟩] := hcb
  subst hcb'
  obtain ⟨ad, cap, rfl, hcap, hmx, hrow⟩ := hca
  simp only [SN] at hF
  cases h0 : jx (ja x.1) 1073741824 with
  | false => rw [h0] at hF; simp at hF
  | true =>
  cases h1 : jx (ja (Lib.join x.1 x.2.1)) 1073741824 with
  | false => rw [h0, h1] at hF; simp at hF
  | true =>
  rw [h0, h1] at hF
  simp only [Bool.and_true, yt, jc] at hF
  subst hF
  have h1' := qu h1
  have h0' := qu h0
  have hfin : ∀ (e : Ending) (w' : World), e = .returned (.string ⟨(Lib.join x.1 x.2.1).toArray⟩) ∧ Go.RowKit.Below w.heap.size w w' → Dk (fun v w' => ∃ vs Fr, v = Qx vs ∧ Np w w' (fun _ => False) ∧ Zb w' (fun b => O b ∨ b ∈ Fr) (.p .s .u) ((Lib.join x.1 x.2.1, ()) : List UInt8 × Unit) [true] vs Fr ∧ Fr.Nodup ∧ ∀ b ∈ Fr, w.heap.size ≤ b) e w' := by
   rintro e w' ⟨rfl, hB⟩
   exact ⟨[.string ⟨(Lib.join x.1 x.2.1).toArray⟩], [], rfl, ⟨hB.size, fun b hb _ => hB.block b hb, hB.os, hB.tape, hB.output⟩, ⟨_, [], [], rfl, rfl, ⟨rfl, rfl⟩, rfl⟩, by simp, by simp⟩
  have hmp : yq (fun z : ByteArray => z.data.toList) (yq (fun l : List UInt8 => (⟨l.toArray⟩ : ByteArray)) x.1) = x.1 := by simp [List.map_map, Function.comp_def]
  rcases hrow with hx0 | ⟨bl, off, cur, et, fr, rfl, hno, hh, hsz, hv⟩
  ·have h0' : x.1 = [] := hx0
   have e0 : Lib.join x.1 x.2.1 = [] := by rw [h0']; rfl
   have el : ja x.1 = 0 := by rw [h0']; rfl
   show Calls P (ρ.f 156) #[.slice ad (ja x.1) cap, .string ⟨ql x.2.1⟩] w _
   rw [el]
   refine (Go.Proofs.Any.strings_Join_none L X ad cap ⟨ql x.2.1⟩ w).mono ?_
   rintro e w' ⟨rfl, rfl⟩
   exact hfin _ _ ⟨by rw [e0], Go.RowKit.Below.refl _ _⟩
  ·have hbl : bl < w.heap.size := (Array.getElem?_eq_some_iff.1 hh).1
   have c := Go.Proofs.Any.strings_Join L X bl off cap (yq (fun l : List UInt8 => (⟨l.toArray⟩ : ByteArray)) x.1) ⟨ql x.2.1⟩ w ?_ hbl (by rw [yi]; show ja x.1 ≤ _; omega) (by rw [yi]; exact hcap) (by rw [hmp]; show (Lib.join x.1 (ql x.2.1).toList).length ≤ _; rw [List.toList_toArray]; omega)
   ·rw [hmp, yi] at c
    refine c.mono ?_
    rintro e w' ⟨rfl, hB⟩
    refine hfin _ _ ⟨?_, hB⟩
    show Ending.returned (Value.string ⟨(Lib.join x.1 (ql x.2.1).toList).toArray⟩) = _
    rw [List.toList_toArray]
   ·intro j z hj
    obtain ⟨hj', rfl⟩ := qw.1 hj
    rw [yi] at hj'
    have e : Gc cur (off + j * 1) 1 = [Value.string ⟨ql (x.1[j]'hj')⟩] := hv j hj'
    rw [Nat.mul_one] at e
    unfold World.cell?
    simp only [hh]
    rw [QT e]
    simp
open Go Go.WideShapes Go.ChangeShapes
def WX : DataW Unit → List Value
 | .lit (.int k n) => [.int k n]
 | .lit (.bool b) => [.bool b]
 | .agg l => cellsDs l
 | _ => []
where cellsDs : List (DataW Unit) → List Value
 | [] => []
 | d :: r => WX d ++ cellsDs r
def H7 (d : DataW Unit) : Obj → Obj
 | .cells _ t frozen => .cells (WX d).toArray t frozen
 | o => o
def I7 (P : Program) (h : Array Obj) (x : String × DataW Unit) : Array Obj :=
 match P.globalNamed x.1 with
 | some g => h.modify g (H7 x.2)
 | none => h
noncomputable def D5 (P : Program) (os : Os) (laid : List (String × DataW Unit)) : World :=
 let w := World.holding P os ⟨#[], #[], []⟩
 { w with heap := laid.foldl (I7 P) w.heap }
def O1 (g : Nat) : Bg := ⟨g + 1, fun w => ∃ m, w.cell? ⟨g, 0, none⟩ = some (.int .i64 m), fun w w' hb h => by
 obtain ⟨m, hm⟩ := h
 refine ⟨m, ?_⟩
 unfold World.cell? at hm ⊢
 rw [hb g (Nat.lt_succ_self g)]
 exact hm⟩
theorem RY {g : Nat} {w : World} (h : (O1 g).p w) : (O1 g).base ≤ w.heap.size := by
 obtain ⟨m, hm⟩ := h
 unfold World.cell? at hm
 have : g < w.heap.size := by
  apply Classical.byContradiction
  intro hn
  simp only [Array.getElem?_eq_none (show w.heap.size ≤ g by omega)] at hm
  simp at hm
 exact this
theorem DC {P : Program} {l : List (String × DataW Unit)} {w : World} (h : (l.filter fun x => x.2.handleName?.isSome) = []) : laidMetH P l w = laidMet P l w := by
 unfold laidMetH
 rw [h]
section
variable {H : Type} {enc : TypeId × Value → H}
theorem GF {a : Assume} {C : Checked} {os : Os} {f : FuncId} {fn : Func} {s : ChangeSpec} {conds : List PathCond} {apart fresh handsOn again : Bool} {X : World → Array Value → Prop}
 (hX : ∀ (w w' : World) (args : Array Value), w.heap = w'.heap → X w args → X w' args)
 (own : ownKnob C.prog.godebug = none) (started : os.Started) (noInit : C.prog.inits.idxOf? f = none) (hfn : C.prog.funcs[f]? = some fn)
 (witness : ∃ (w : World) (tape : Tape) (i : Input), w.os = os ∧ (w.forCall tape i).Shaped C.prog ∧ i.vars = [] ∧ Input.okWide C.prog (w.forCall tape i) .any w.heap.size f i ∧
  ((s.pre enc C.prog fn conds apart (w.forCall tape i).memory i.args ∧ X (w.forCall tape i).memory i.args) ∧ sizedMet enc C.prog fn (OpenSpec.ofChange s) apart (w.forCall tape i).memory i.args) ∧ a.holds C.prog (lone (Frame.enter C.prog f i.args .normal) [] (w.forCall tape i)))
 (contract : ∀ (W : World) (base : Nat) (args : Array Value) (ds gs : List (DataW H)) (before : List MemPlace),
  (∀ (j : Nat) t v, fn.params[j]? = some t → args[j]? = some v → Value.okWide C.prog W .any base t v) →
  DataW.Whole enc C.prog fn.params.toList s.vars apart W args.toList ds gs before →
  conds.all (PathCond.test C.prog ⟨fn.params.toList, ds, s.plain.varTypes C.prog, gs⟩) = true →
  (DataW.weightsEach C.prog (fn.params.toList ++ s.plain.varTypes C.prog) (ds ++ gs)).all (· ≤ reachBytes) = true → W.ShapedOpen C.prog → X W args →
  a.holds C.prog (lone (Frame.enter C.prog f args .normal) [] W) →
  Calls C.prog f args W fun e W' => ∃ v, e = .returned v ∧ s.post enc C.prog fn apart fresh handsOn again W args v W') :
 ReturnsInHanded a C os f .any (fun w args => (s.pre enc C.prog fn conds apart w args ∧ X w args) ∧ sizedMet enc C.prog fn (OpenSpec.ofChange s) apart w args) (s.post enc C.prog fn apart fresh handsOn again) := by
 refine returnsInHanded_of_calls own started noInit witness ?_
 intro w tape i _ hsh _ hok hpre hholds
 obtain ⟨_, _, _, fn', hfn', _, _, _, _, hval⟩ := hok
 have e : fn' = fn := yp (hfn'.symm.trans hfn)
 subst e
 obtain ⟨⟨⟨ds, gs, before, hw, hc⟩, hx⟩, hz⟩ := hpre
 have hw' := DataW.Whole.of_heap (w' := w.forCall tape i) (by rfl) hw
 refine (contract (w.forCall tape i) w.heap.size i.args ds gs before hval hw' hc (hz.weights hw) hsh (hX _ _ _ (by rfl) hx) hholds).mono fun e W' ⟨v, he, hp⟩ => ?_
 subst he
 exact ChangeSpec.post_blind hp
theorem RP {C : Checked} {os : Os} {f : FuncId} {fn : Func} {s : ChangeSpec} {apart fresh handsOn again : Bool} {pt : Ty} {fl : Bool} {F : T pt → Option (Bool × Unit)} {tb : TypeId} {I : Bg} {laid : List (String × DataW Unit)}
 (own : ownKnob C.prog.godebug = none) (started : os.Started) (noInit : C.prog.inits.idxOf? f = none) (hfn : C.prog.funcs[f]? = some fn)
 (witness : ∃ (w : World) (tape : Tape) (i : Input), w.os = os ∧ (w.forCall tape i).Shaped C.prog ∧ i.vars = [] ∧ Input.okWide C.prog (w.forCall tape i) .any w.heap.size f i ∧
  ((s.pre enc C.prog fn [] apart (w.forCall tape i).memory i.args ∧ laidMetH C.prog laid (w.forCall tape i).memory) ∧ sizedMet enc C.prog fn (OpenSpec.ofChange s) apart (w.forCall tape i).memory i.args) ∧ ({} : Assume).holds C.prog (lone (Frame.enter C.prog f i.args .normal) [] (w.forCall tape i)))
 (hvars : s.vars = []) (hs : ∀ ds : List (DataW H), ds.length = fn.params.toList.length → s.fn H ds = { results := [.lit (.bool true)], args := ds })
 (hp : Vh C.prog pt fn.params.toList = true) (hr : fn.resultTypes = #[tb]) (htb : C.prog.underlying tb = some .bool)
 (hsound : Gg C.prog I f (.pu pt (.p .b .u) [fl] F)) (hF : ∀ x, Nt pt x → F x = some (true, ()))
 (hI : ∀ W : World, W.ShapedOpen C.prog → laidMetH C.prog laid W → I.p W ∧ I.base ≤ W.heap.size) (hnh : (laid.filter fun x => x.2.handleName?.isSome) = []) :
 ReturnsInHanded {} C os f .any (fun w args => (s.pre enc C.prog fn [] apart w args ∧ laidMetH C.prog laid w) ∧ sizedMet enc C.prog fn (OpenSpec.ofChange s) apart w args) (s.post enc C.prog fn apart fresh handsOn again) := by
 refine GF (X := fun w _ => laidMetH C.prog laid w) (fun _ _ _ hh h => by
  rw [DC hnh] at h ⊢
  exact h.of_heap hh) own started noInit hfn witness ?_
 intro W b0 args ds gs before hval hW _ _ hsh hX _
 have hW0 := hW
 obtain ⟨p, q, hA, hV, hps, hfz, hnd⟩ := hW
 rw [hvars] at hV
 have hgs : gs = [] ∧ q = [] := by
  cases gs with
  | nil => exact ⟨rfl, hV⟩
  | cons _ _ => exact hV.elim
 obtain ⟨rfl, rfl⟩ := hgs
 simp only [List.append_nil] at hps
 subst hps
 obtain ⟨x, hx, hrx⟩ := JE (base := b0) hp hA fun j t v h1 h2 => hval j t v (by simpa using h1) (by simpa using h2)
 have hcall := hsound.2 (fun _ => False) W x (true, ()) args.toList (hF x hrx) hx (fun _ h => h.elim) (hI W hsh hX).1 (hI W hsh hX).2
 refine hcall.mono fun e W' hret => ?_
 cases e with
 | returned v =>
  obtain ⟨vs, Fr, hv, hk, hR, _, _⟩ := hret
  have hvt : v = .bool true := by
   cases vs with
   | nil => simp [Zb] at hR
   | cons a r =>
    obtain ⟨cs, F1, F2, ha, _, hown, hrest⟩ := hR
    cases r with
    | cons _ _ => simp [Zb] at hrest
    | nil =>
     have hcs : cs = [.bool true] := by
      cases fl with
      | true => exact hown.1
      | false => exact hown.1
     rw [hv, Qx, ha, hcs]
     rfl
  subst hvt
  refine ⟨_, rfl, ?_⟩
  have hsp := hs ds (GG hA)
  have hlt : ∀ z ∈ before, z.block < W.heap.size := hW0.lt
  have hsame : ∀ z ∈ before, W.sameAt W' z := by
   intro z hz
   have hb := hk.block z.block (hlt z hz) (fun h => h)
   cases z with
   | cell b off =>
    show W'.cell? _ = W.cell? _
    simp only [World.cell?]
    rw [show W'.heap[b]? = W.heap[b]? from hb]
   | map b => exact hb
  have hargs : ∀ sp : Nat → Bool, (∀ z ∈ before, sp z.block = true) → DataW.TrodAll enc C.prog W' 0 sp true fn.params.toList args.toList ds before :=
   fun sp h => GC (BG hp) hA hsame h
  have hres : ∀ (b : Nat) (sp : Nat → Bool) (hd : Bool), DataW.TrodAll enc C.prog W' b sp hd fn.resultTypes.toList ((Value.bool true).resultList fn.resultTypes.size) [.lit (.bool true)] [] := by
   intro b sp hd
   rw [hr]
   exact trodAll_mk1 (Go.RowKit.shut_bool htb true)
  have hold : ∀ z ∈ before, (fun b => decide (b < W.heap.size)) z.block = true := fun z hz => by simpa using hlt z hz
  refine ⟨ds, [], before, [], before, [], hW0, ?_, ?_, ?_, hk.but _, fun _ => ⟨?_, ds.cons (.lit (.bool true)), [], before, ⟨before, [], ?_, ?_, by simp, ?_, ?_⟩, fun z hz _ => hz⟩⟩
  ·rw [List.append_nil, hsp]; exact hres _ _ _
  ·rw [List.append_nil, hsp]; exact hargs _ hold
  ·rw [List.append_nil, hsp, hvars]; rfl
  ·intro j t r hj hv
   rw [hr] at hj hv
   match j, hj, hv with
   | 0, hj, hv =>
    simp only [List.getElem?_toArray, List.getElem?_cons_zero, jc] at hj
    simp [Value.resultList] at hv
    subst hj; subst hv
    exact Go.RowKit.okWide_bool_mk htb true
  ·exact trodAll_append (hargs _ (fun _ _ => rfl)) (hres _ _ _)
  ·rw [hvars]; rfl
  ·intro b off hz
   have := hfz b off hz
   unfold World.frozen? at this ⊢
   rw [show W'.heap[b]? = W.heap[b]? from hk.block b (hlt _ hz) (fun h => h)]
   exact this
  ·exact hnd
 | _ => exact hret.elim
end


def Hg {α S R : Type} (g : Nat → S → α → S ⊕ R) : Nat → S → List α → S ⊕ R
 | _, s, [] => .inl s
 | k, s, x :: xs => match g k s x with
  | .inl s' => Hg g (k + 1) s' xs
  | .inr r => .inr r
section
variable {X R : Type} {step : X → Option (X ⊕ R)}
theorem Ud {x : X} {z : Option (X ⊕ R)} (h : step x = z) : Kb step x = z.bind (Sum.elim (Kb step) some) := by
 rw [Du, h]
theorem AR {α S R' : Type} (xs : List α) (g : Nat → S → α → S ⊕ R') (I : Nat → S → X) (out : S → R) (ex : R' → R) (Bg : Nat → S → Prop)
 (h : ∀ k (hk : k < xs.length) s, Bg k s → step (I k s) = some (match g k s xs[k] with | .inl s' => .inl (I (k + 1) s') | .inr r => .inr (ex r)) ∧ ∀ s', g k s xs[k] = .inl s' → Bg (k + 1) s')
 (he : ∀ s, Bg xs.length s → step (I xs.length s) = some (.inr (out s))) (s0 : S) (h0 : Bg 0 s0) :
 Kb step (I 0 s0) = some (match Hg g 0 s0 xs with | .inl s => out s | .inr r => ex r) := by
 have key : ∀ (ys : List α) (k : Nat) (s : S), xs.drop k = ys → k ≤ xs.length → Bg k s → Kb step (I k s) = some (match Hg g k s ys with | .inl s => out s | .inr r => ex r) := by
  intro ys
  induction ys with
  | nil =>
   intro k s hd hle hi
   have : k = xs.length := by
    have := congrArg ja hd
    simp at this
    omega
   subst this
   rw [Ud (he s hi)]
   rfl
  | cons y ys ih =>
   intro k s hd hle hi
   have hk : k < xs.length := by
    have := congrArg ja hd
    simp at this
    omega
   have hy : xs[k] = y := by
    have := congrArg (·[0]?) hd
    simp [List.getElem?_drop, je hk] at this
    exact this
   obtain ⟨h1, h2⟩ := h k hk s hi
   rw [Ud h1]
   rw [hy] at h2 ⊢
   simp only [Hg]
   cases hg : g k s y with
   | inl s' =>
    simp only [jb, qe]
    refine ih (k + 1) s' ?_ hk (h2 s' hg)
    rw [← qk, hd]
    rfl
   | inr r => rfl
 exact key xs 0 s0 rfl (Nat.zero_le _) h0
theorem Ny (I : Nat → X) (n : Nat) (out : R) (h : ∀ k, k < n → step (I k) = some (.inl (I (k + 1)))) (he : step (I n) = some (.inr out)) : Kb step (I 0) = some out := by
 have key : ∀ m k, m + k = n → Kb step (I k) = some out := by
  intro m
  induction m with
  | zero =>
   intro k hk
   have : k = n := by omega
   subst this
   rw [Ud he]; rfl
  | succ m ih =>
   intro k hk
   rw [Ud (h k (by omega))]
   exact ih (k + 1) (by omega)
 exact key n 0 (by omega)
end
theorem Fh {n : Int} (h1 : -9223372036854775808 ≤ n) (h2 : n ≤ 9223372036854775807) : j4 .i64 n = n := IntWalk.i64_in n ⟨h1, h2⟩
theorem Gj {k : Nat} (h : k < 9223372036854775807) : j4 .i64 ((k : Int) + 1) = ((k + 1 : Nat) : Int) := by
 rw [Fh (by omega) (by omega)]; omega
section
variable {α : Type}
theorem T5 (xs : List α) (k : Nat) : Ac xs (k : Int) = xs[k]? := by simp [Ac]
theorem Sc {xs : List α} {k : Nat} (h : k < xs.length) : Ac xs (k : Int) = some xs[k] := by rw [T5, je h]
theorem Yw (n k : Nat) : Xl n (k : Int) = decide (k < n) := by
 simp [Xl]
theorem Ia {p : Prop} [Decidable p] (h : p) : decide p = true := decide_eq_true h
theorem Ja {p : Prop} [Decidable p] (h : ¬ p) : decide p = false := decide_eq_false h
theorem G0 {xs : List α} {k : Nat} (h : k < xs.length) : xs.take (k + 1) = xs.take k ++ [xs[k]] := by
 rw [List.take_succ_eq_append_getElem h]
end
theorem Y2 {α : Type} {xs : List α} {z : α} {k : Nat} (h : k < xs.length) : (xs.take k ++ q0 (xs.length - k) z).set k xs[k] = xs.take (k + 1) ++ q0 (xs.length - (k + 1)) z := by
 have h1 : (xs.take k).length = k := by simp; omega
 rw [List.set_append_right _ _ (by omega), h1, Nat.sub_self, show xs.length - k = (xs.length - (k + 1)) + 1 by omega, List.replicate_succ, List.set_cons_zero, G0 h, qt]
 rfl
theorem J1 {α : Type} {xs : List α} {z : α} {k : Nat} (h : k ≤ xs.length) : (xs.take k ++ q0 (xs.length - k) z).length = xs.length := by
 simp; omega
theorem EY {α R : Type} {X : Type} {step : X → Option (X ⊕ R)} (xs : List α) (z : α) (I : List α → Int → X) (out : List α → R)
 (h : ∀ k (hk : k < xs.length) (o : List α), o.length = xs.length → step (I o (k : Int)) = some (.inl (I (o.set k xs[k]) (j4 .i64 ((k : Int) + 1)))))
 (he : ∀ o, step (I o (xs.length : Int)) = some (.inr (out o))) (hn : xs.length < 9223372036854775807) :
 Kb step (I (q0 xs.length z) 0) = some (out xs) := by
 have := Ny (step := step) (fun k => I (xs.take k ++ q0 (xs.length - k) z) (k : Int)) xs.length (out xs) (fun k hk => by
  rw [h k hk _ (J1 (by omega)), Y2 hk, Gj (by omega)]) (by
  rw [List.take_length, Nat.sub_self]
  simpa using he xs)
 simpa using this
theorem M7 {n : Nat} (h : n ≤ Mb) : (((n : Int) == (n : Int)) && (decide ((0 : Int) ≤ (n : Int)) && decide ((n : Int) ≤ ((Mb : Nat) : Int)))) = true := by
 simp only [beq_self_eq_true, jk, jd, decide_eq_true_eq]
 omega
theorem Li : Mb = 1073741824 := rfl
def Pb : (τ : Ty) → T τ → Nat
 | .i _, _ => 0
 | .b, _ => 0
 | .o, _ => 0
 | .mp _ _, _ => 0
 | .s, x => ja x
 | .sl e, xs => ja xs + (yq (Pb e) xs).sum
 | .u, _ => 0
 | .p a c, v => Pb a v.1 + Pb c v.2
def Ty.hasS : Ty → Bool
 | .s => true
 | .sl e => e.hasS
 | .p x y => x.hasS || y.hasS
 | _ => false
def Na : Nat := 1048576
theorem Kn {α : Type} {f : α → Nat} {xs : List α} {k : Nat} (hk : k < xs.length) : f xs[k] ≤ (xs.map f).sum := by
 induction xs generalizing k with
 | nil => simp at hk
 | cons x xs ih =>
  cases k with
  | zero => simp
  | succ k =>
   have := ih (k := k) (by simpa using hk)
   simp only [List.getElem_cons_succ, ya, List.sum_cons]
   omega
def BM (n l : Nat) : Int := if n ≤ l then ((l - n : Nat) : Int) else -1
theorem Wx {n l : Nat} (h : n ≤ l) : BM n l = ((l - n : Nat) : Int) := if_pos h
theorem Dw {n l : Nat} (h : ¬ n ≤ l) : BM n l = -1 := if_neg h
theorem D8 {α X R : Type} {step : X → Option (X ⊕ R)} (xs : List α) (n : α → Nat) (I : Int → Int → X) (yes : Int → R) (no : R)
 (h : ∀ k (hk : k < xs.length) (l : Nat), l ≤ Na → step (I (l : Int) (k : Int)) = some (if n xs[k] ≤ l then .inl (I ((l - n xs[k] : Nat) : Int) (j4 .i64 ((k : Int) + 1))) else .inr no))
 (he : ∀ l : Nat, step (I (l : Int) (xs.length : Int)) = some (.inr (yes (l : Int)))) (hn : xs.length < 9223372036854775807) (l : Nat) (hl : l ≤ Na) :
 Kb step (I (l : Int) 0) = some (if (xs.map n).sum ≤ l then yes ((l - (xs.map n).sum : Nat) : Int) else no) := by
 have key : ∀ (ys : List α) (k l : Nat), xs.drop k = ys → k ≤ xs.length → l ≤ Na → Kb step (I (l : Int) (k : Int)) = some (if (ys.map n).sum ≤ l then yes ((l - (ys.map n).sum : Nat) : Int) else no) := by
  intro ys
  induction ys with
  | nil =>
   intro k l hd hle hi
   have : k = xs.length := by
    have := congrArg ja hd
    simp at this
    omega
   subst this
   rw [Ud (he l)]
   simp
  | cons y ys ih =>
   intro k l hd hle hi
   have hk : k < xs.length := by
    have := congrArg ja hd
    simp at this
    omega
   have hy : xs[k] = y := by
    have := congrArg (·[0]?) hd
    simp [List.getElem?_drop, je hk] at this
    exact this
   have hd' : xs.drop (k + 1) = ys := by rw [← qk, hd]; rfl
   rw [Ud (h k hk l hi), hy]
   simp only [ya, List.sum_cons]
   by_cases hc : n y ≤ l
   ·simp only [hc, if_true, jb, qe]
    rw [Gj (by omega), ih (k + 1) (l - n y) hd' hk (by omega)]
    by_cases hc2 : (ys.map n).sum ≤ l - n y
    ·rw [if_pos hc2, if_pos (by omega)]
     congr 3
     omega
    ·rw [if_neg hc2, if_neg (by omega)]
   ·rw [if_neg hc, if_neg (by omega)]
    rfl
 have := key xs 0 l rfl (Nat.zero_le _) hl
 simpa using this
theorem SH : ∀ {τ : Ty} (_ : (τ.flat && !τ.hasS) = true) {x : T τ}, Pb τ x = 0
 | .i _, _, _ => rfl
 | .b, _, _ => rfl
 | .o, _, _ => rfl
 | .mp _ _, _, _ => rfl
 | .s, h, _ => by simp [Ty.hasS] at h
 | .sl _, h, _ => by simp [Ty.flat] at h
 | .u, _, _ => rfl
 | .p a c, h, x => by
  simp only [Ty.flat, Ty.hasS, jd, yc, Bool.or_eq_false_iff] at h
  simp only [Pb]
  rw [SH (τ := a) (by simp [h.1.1, h.2.1]), SH (τ := c) (by simp [h.1.2, h.2.2])]
theorem WB {e : Ty} (h : (e.flat && !e.hasS) = true) (xs : List (T e)) : Pb (.sl e) xs = ja xs := by
 simp only [Pb]
 have : yq (Pb e) xs = q0 xs.length 0 := by
  apply List.ext_getElem
  ·simp
  ·intro i h1 h2
   simp [SH h]
 rw [this]
 simp
theorem Jm {α : Type} (b : Bool) (x y : α) : cond b (some x) (some y) = some (cond b x y) := by cases b <;> rfl
theorem Km {α : Type} (b : Bool) (x y : α) : cond b (x, ()) (y, ()) = (cond b x y, ()) := by cases b <;> rfl
theorem Uc (b x y : Bool) : (cond b x y = true) ↔ ((b = true ∧ x = true) ∨ (¬ b = true ∧ y = true)) := by cases b <;> simp
theorem WJ {a b : Bool} (h : a = true ↔ b = true) : a = b := Bool.eq_iff_iff.2 h
theorem Lc {a b : Bool} (h : a = true ↔ b = true) : some (a, ()) = some (b, ()) := by rw [WJ h]
theorem RA (a b : Int) : ((a == b) = true) ↔ a = b := by simp
theorem SA (a b : Int) : ((a != b) = true) ↔ ¬ a = b := by simp
def Bf {α : Type} (p : Nat → α → Bool) : Nat → List α → Bool
 | _, [] => true
 | k, x :: xs => p k x && Bf p (k + 1) xs
theorem Dg {X R : Type} {step : X → Option (X ⊕ R)} {α : Type} (xs : List α) (p : Nat → α → Bool) (I : Int → X) (yes no : R)
 (h : ∀ k (hk : k < xs.length), step (I (k : Int)) = some (cond (p k xs[k]) (.inl (I (j4 .i64 ((k : Int) + 1)))) (.inr no)))
 (he : step (I (xs.length : Int)) = some (.inr yes)) (hn : xs.length < 9223372036854775807) :
 Kb step (I 0) = some (cond (Bf p 0 xs) yes no) := by
 have key : ∀ (ys : List α) (k : Nat), xs.drop k = ys → k ≤ xs.length → Kb step (I (k : Int)) = some (cond (Bf p k ys) yes no) := by
  intro ys
  induction ys with
  | nil =>
   intro k hd hle
   have : k = xs.length := by
    have := congrArg ja hd
    simp at this
    omega
   subst this
   rw [Ud he]
   rfl
  | cons y ys ih =>
   intro k hd hle
   have hk : k < xs.length := by
    have := congrArg ja hd
    simp at this
    omega
   have hy : xs[k] = y := by
    have := congrArg (·[0]?) hd
    simp [List.getElem?_drop, je hk] at this
    exact this
   have hd' : xs.drop (k + 1) = ys := by rw [← qk, hd]; rfl
   rw [Ud (h k hk), hy]
   simp only [Bf]
   cases hc : p k y with
   | true =>
    simp only [yt, jk, jb, qe]
    rw [← ih (k + 1) hd' hk, Gj (by omega)]
   | false => rfl
 have := key xs 0 rfl (Nat.zero_le _)
 simpa using this
theorem Aj {α : Type} {p : Nat → α → Bool} : ∀ {xs : List α} {k : Nat}, Bf p k xs = true ↔ ∀ j (hj : j < xs.length), p (k + j) xs[j] = true
 | [], _ => by simp [Bf]
 | x :: xs, k => by
  simp only [Bf, jd, Aj (xs := xs)]
  constructor
  ·rintro ⟨h1, h2⟩ j hj
   cases j with
   | zero => exact h1
   | succ j => simpa [jt, Nat.add_comm 1 j] using h2 j (by simpa using hj)
  ·intro h
   refine ⟨h 0 (by simp), fun j hj => ?_⟩
   have := h (j + 1) (by simpa using hj)
   rw [jt, Nat.add_comm 1 j]
   exact this
theorem FL {α β γ : Type} (b : Bool) (x : α) (y : β) (f : α → γ) (g : β → γ) : Sum.elim f g (cond b (.inl x) (.inr y)) = cond b (f x) (g y) := by cases b <;> rfl
def Ch {α S : Type} (g : Nat → S → α → S) : Nat → S → List α → S
 | _, s, [] => s
 | k, s, x :: xs => Ch g (k + 1) (g k s x) xs
theorem EL {α : Type} {xs ys : List α} {y : α} {k : Nat} (hd : xs.drop k = y :: ys) : ∃ hk : k < xs.length, xs[k] = y ∧ xs.drop (k + 1) = ys := by
 have hk : k < xs.length := by
  have := congrArg ja hd
  simp at this
  omega
 refine ⟨hk, ?_, by rw [← qk, hd]; rfl⟩
 have := congrArg (·[0]?) hd
 simp [List.getElem?_drop, je hk] at this
 exact this
theorem PO {α : Type} {xs : List α} {k : Nat} (hd : xs.drop k = []) (hk : k ≤ xs.length) : k = xs.length := by
 have := congrArg ja hd
 simp at this
 omega
theorem Cu {X R : Type} {step : X → Option (X ⊕ R)} {α S : Type} (xs : List α) (g : Nat → S → α → S) (I : S → Int → X) (out : S → R) (Bg : Nat → S → Prop)
 (h : ∀ k (hk : k < xs.length) s, Bg k s → step (I s (k : Int)) = some (.inl (I (g k s xs[k]) (j4 .i64 ((k : Int) + 1)))) ∧ Bg (k + 1) (g k s xs[k]))
 (he : ∀ s, Bg xs.length s → step (I s (xs.length : Int)) = some (.inr (out s))) (hn : xs.length < 9223372036854775807) (s0 : S) (h0 : Bg 0 s0) :
 Kb step (I s0 0) = some (out (Ch g 0 s0 xs)) ∧ Bg xs.length (Ch g 0 s0 xs) := by
 have key : ∀ (ys : List α) (k : Nat) (s : S), xs.drop k = ys → k ≤ xs.length → Bg k s → Kb step (I s (k : Int)) = some (out (Ch g k s ys)) ∧ Bg xs.length (Ch g k s ys) := by
  intro ys
  induction ys with
  | nil =>
   intro k s hd hle hi
   have := PO hd hle
   subst this
   rw [Ud (he s hi)]
   exact ⟨rfl, hi⟩
  | cons y ys ih =>
   intro k s hd hle hi
   obtain ⟨hk, hy, hd'⟩ := EL hd
   obtain ⟨h1, h2⟩ := h k hk s hi
   rw [Ud h1, hy, Gj (by omega)]
   rw [hy] at h2
   exact ih (k + 1) _ hd' hk h2
 have := key xs 0 s0 rfl (Nat.zero_le _) h0
 simpa using this
theorem Yr {X R : Type} {step : X → Option (X ⊕ R)} {α S R' : Type} (xs : List α) (g : Nat → S → α → S ⊕ R') (I : S → Int → X) (out : S → R) (ex : R' → R) (Bg : Nat → S → Prop)
 (h : ∀ k (hk : k < xs.length) s, Bg k s → step (I s (k : Int)) = some (match g k s xs[k] with | .inl s' => .inl (I s' (j4 .i64 ((k : Int) + 1))) | .inr r => .inr (ex r)) ∧ ∀ s', g k s xs[k] = .inl s' → Bg (k + 1) s')
 (he : ∀ s, Bg xs.length s → step (I s (xs.length : Int)) = some (.inr (out s))) (hn : xs.length < 9223372036854775807) (s0 : S) (h0 : Bg 0 s0) :
 Kb step (I s0 0) = some (match Hg g 0 s0 xs with | .inl s => out s | .inr r => ex r) := by
 have := AR (step := step) xs g (fun k s => I s (k : Int)) out ex Bg (fun k hk s hi => by
  obtain ⟨h1, h2⟩ := h k hk s hi
  refine ⟨?_, h2⟩
  rw [h1, Gj (by omega)]) he s0 h0
 simpa using this
def Fv : Nat := 1099511627776
theorem z3 : ((3 : Int) == 0) = false := rfl
theorem FY {n lo hi : Nat} (h1 : lo ≤ hi) (h2 : hi ≤ n) : Re n (lo : Int) (hi : Int) = true := by
 simp [Re]; omega
section
variable {α β : Type}
def K5 (f : α → Option (α × Unit)) (t0 t3 : List α) (t4 : Int) : Option (((List α × (List α × (Int × Unit))) × Unit) ⊕ (((List α × Unit) × Unit) ⊕ β)) :=
 cond (decide (t4 < ((ja t0 : Nat) : Int))) (jz (Ac t0 t4) fun x7 => jz (f x7) fun r8 => cond (Xl (ja t3) t4)
  (jz t3[(jy t4)]? fun x9 => some (.inl ((t0, j5 t3 (jy t4) r8.1, j4 .i64 (t4 + 1), ()), ()))) none) (some (.inr (.inl ((t3, ()), ()))))
noncomputable def toG (β : Type) (z : α) (f : α → Option (α × Unit)) (a0 : List α) : Option (List α × Unit) :=
 cond ((((ja a0 : Nat) : Int) == ((ja a0 : Nat) : Int)) && (decide ((0 : Int) ≤ ((ja a0 : Nat) : Int)) && decide (((ja a0 : Nat) : Int) ≤ ((Mb : Nat) : Int))))
  (jz (Kb (fun x : (List α × (List α × (Int × Unit))) × Unit => K5 (β := β) f x.1.1 x.1.2.1 x.1.2.2.1) ((a0, q0 (jy ((ja a0 : Nat) : Int)) z, (0 : Int), ()), ())) (Sum.elim (fun y10 => some (y10.1.1, ())) (fun _ => none))) none
theorem Xaa (z : α) (f : α → Option (α × Unit)) (a : List α) (hn : a.length ≤ Na) (hf : ∀ k (h : k < a.length), f a[k] = some (a[k], ())) : toG β z f a = some (a, ()) := by
 have h20 : Na = 1048576 := rfl
 have hl := EY (step := fun x : (List α × (List α × (Int × Unit))) × Unit => K5 (β := β) f x.1.1 x.1.2.1 x.1.2.2.1) a z (fun o i => ((a, o, i, ()), ())) (fun o => .inl ((o, ()), ())) (by
  intro k hk o ho
  simp only [K5]
  rw [Ia (show (k : Int) < (ja a : Int) by omega), Sc hk]
  simp only [yt, jb]
  rw [hf k hk]
  simp only [yt, jb]
  rw [Yw, Ia (show k < ja o by omega)]
  simp [je (show k < ja o by omega)]) (by
  intro o
  simp [K5]) (by omega)
 unfold toG
 rw [M7 (by rw [Li]; omega)]
 simp only [yt]
 rw [show jy ((ja a : Nat) : Int) = ja a by simp]
 erw [hl]
 rfl
theorem toS {e : Ty} (β : Type) (z : T e) {f : T e → Option (T e × Unit)} {F : List (T e) → Option (List (T e) × Unit)} (a : List (T e)) (hz : Pb (.sl e) a ≤ Na) (hf : ∀ x, Pb e x ≤ Na → f x = some (x, ())) (h : F a = toG β z f a) : F a = some (a, ()) := by
 have hz' : ja a + (yq (Pb e) a).sum ≤ Na := hz
 rw [h]
 exact Xaa z f a (by omega) fun k hk => hf _ (by have := Kn (f := Pb e) hk; omega)
def B5 (f : α → α → Option (Bool × Unit)) (t0 t1 : List α) (t5 : Int) : Option (((List α × (List α × (Int × Unit))) × Unit) ⊕ ((Unit × Unit) ⊕ ((Bool × Unit) × Unit))) :=
 cond (decide (t5 < ((ja t0 : Nat) : Int))) (jz (Ac t0 t5) fun x7 => jz (Ac t1 t5) fun x8 => jz (f x7 x8) fun r9 => cond (!r9.1) (some (.inr (.inr ((false, ()), ()))))
  (some (.inl ((t0, t1, j4 .i64 (t5 + 1), ()), ())))) (some (.inr (.inl ((), ()))))
noncomputable def J9 (f : α → α → Option (Bool × Unit)) (a0 a1 : List α) : Option (Bool × Unit) :=
 cond (((ja a0 : Nat) : Int) != ((ja a1 : Nat) : Int)) (some (false, ()))
  (jz (Kb (fun x : (List α × (List α × (Int × Unit))) × Unit => B5 f x.1.1 x.1.2.1 x.1.2.2.1) ((a0, a1, (0 : Int), ()), ())) (Sum.elim (fun _ => some (true, ())) (fun z11 => some (z11.1.1, ()))))
theorem K9 (f : α → α → Option (Bool × Unit)) (a : List α) (hn : a.length ≤ Fv) (hf : ∀ k (h : k < a.length), f a[k] a[k] = some (true, ())) : J9 f a a = some (true, ()) := by
 have h40 : Fv = 1099511627776 := rfl
 have hl := Ny (step := fun x : (List α × (List α × (Int × Unit))) × Unit => B5 f x.1.1 x.1.2.1 x.1.2.2.1) (fun k => ((a, a, (k : Int), ()), ())) (ja a) (.inl ((), ())) (by
  intro k hk
  simp only [B5]
  rw [Ia (show (k : Int) < (ja a : Int) by omega), Sc hk]
  simp only [yt, jb]
  rw [hf k hk]
  simp only [jb, jg, yu]
  rw [Gj (by omega)]) (by
  simp [B5])
 unfold J9
 rw [bne_self_eq_false']
 simp only [yu]
 erw [hl]
 rfl
theorem eqS {e : Ty} {f : T e → T e → Option (Bool × Unit)} {F : List (T e) → List (T e) → Option (Bool × Unit)} (a : List (T e)) (hz : Pb (.sl e) a ≤ Fv) (hf : ∀ x, Pb e x ≤ Fv → f x x = some (true, ())) (h : F a a = J9 f a a) : F a a = some (true, ()) := by
 have hz' : ja a + (yq (Pb e) a).sum ≤ Fv := hz
 rw [h]
 exact K9 f a (by omega) fun k hk => hf _ (by have := Kn (f := Pb e) hk; omega)
def FX (f : α → Int → Option (Int × Unit)) (t0 : List α) (t1 t5 : Int) : Option (((List α × (Int × (Int × Unit))) × Unit) ⊕ (((Int × Unit) × Unit) ⊕ ((Int × Unit) × Unit))) :=
 cond (decide (t5 < ((ja t0 : Nat) : Int))) (jz (Ac t0 t5) fun x5 => jz (f x5 t1) fun r6 => cond (decide (r6.1 < (0 : Int))) (some (.inr (.inr (((-1 : Int), ()), ()))))
  (some (.inl ((t0, r6.1, j4 .i64 (t5 + 1), ()), ())))) (some (.inr (.inl ((t1, ()), ()))))
noncomputable def szG (f : α → Int → Option (Int × Unit)) (a0 : List α) (a1 : Int) : Option (Int × Unit) :=
 cond (decide ((j4 .i64 (a1 - ((ja a0 : Nat) : Int))) < (0 : Int))) (some ((-1 : Int), ()))
  (jz (Kb (fun x : (List α × (Int × (Int × Unit))) × Unit => FX f x.1.1 x.1.2.1 x.1.2.2.1) ((a0, j4 .i64 (a1 - ((ja a0 : Nat) : Int)), (0 : Int), ()), ())) (Sum.elim (fun y7 => some (y7.1.1, ())) (fun z8 => some (z8.1.1, ()))))
theorem szS {e : Ty} {f : T e → Int → Option (Int × Unit)} {F : List (T e) → Int → Option (Int × Unit)} (a : List (T e)) (hr : Nt (.sl e) a) (l : Nat) (hl : l ≤ Na)
 (hf : ∀ x, Nt e x → ∀ l : Nat, l ≤ Na → f x (l : Int) = some (BM (Pb e x) l, ())) (hF : F a (l : Int) = szG f a (l : Int)) : F a (l : Int) = some (BM (Pb (.sl e) a) l, ()) := by
 have h20 : Na = 1048576 := rfl
 have hlen : ja a ≤ 9223372036854775807 := hr.1
 rw [hF]
 unfold szG
 rw [Fh (by omega) (by omega)]
 by_cases h : ja a ≤ l
 ·rw [Ja (by omega), show (l : Int) - (ja a : Int) = ((l - ja a : Nat) : Int) by omega]
  simp only [yu]
  have hx := D8 (step := fun x : (List (T e) × (Int × (Int × Unit))) × Unit => FX f x.1.1 x.1.2.1 x.1.2.2.1) a (Pb e) (fun l i => ((a, l, i, ()), ())) (fun l => .inl ((l, ()), ())) (.inr (((-1 : Int), ()), ())) (by
   intro k hk l hl
   simp only [FX]
   rw [Ia (show (k : Int) < (ja a : Int) by omega), Sc hk]
   simp only [yt, jb]
   rw [hf a[k] (hr.2 k hk) l hl]
   simp only [jb]
   by_cases hc : Pb e a[k] ≤ l
   ·rw [Wx hc, Ja (by omega), if_pos hc]; rfl
   ·rw [Dw hc, if_neg hc]; rfl) (by
   intro l
   simp [FX]) (by omega) (l - ja a) (by omega)
  rw [hx]
  simp only [jb]
  have hs : Pb (.sl e) a = ja a + (yq (Pb e) a).sum := rfl
  rw [hs]
  by_cases h2 : (yq (Pb e) a).sum ≤ l - ja a
  ·rw [if_pos h2, Wx (by omega)]; simp only [qe]; rw [show l - ja a - (yq (Pb e) a).sum = l - (ja a + (yq (Pb e) a).sum) by omega]
  ·rw [if_neg h2, Dw (by omega)]; rfl
 ·rw [Dw (show ¬ Pb (.sl e) a ≤ l by have hs : Pb (.sl e) a = ja a + (yq (Pb e) a).sum := rfl; omega), Ia (by omega)]; rfl
def Taa (a0 : List α) (a1 : Int) : Option (Int × Unit) :=
 cond (decide ((j4 .i64 (a1 - ((ja a0 : Nat) : Int))) < (0 : Int))) (some ((-1 : Int), ())) (some ((j4 .i64 (a1 - ((ja a0 : Nat) : Int))), ()))
theorem Qaj {e : Ty} {F : List (T e) → Int → Option (Int × Unit)} (a : List (T e)) (hr : Nt (.sl e) a) (l : Nat) (hl : l ≤ Na) (he : (e.flat && !e.hasS) = true) (hF : F a (l : Int) = Taa a (l : Int)) : F a (l : Int) = some (BM (Pb (.sl e) a) l, ()) := by
 have h20 : Na = 1048576 := rfl
 have hlen : ja a ≤ 9223372036854775807 := hr.1
 rw [hF]
 unfold Taa
 rw [Fh (by omega) (by omega), WB he a]
 by_cases h : ja a ≤ l
 ·rw [Wx h, Ja (by omega), show (l : Int) - (ja a : Int) = ((l - ja a : Nat) : Int) by omega]; rfl
 ·rw [Dw h, Ia (by omega)]; rfl
end
abbrev int : Ty := .i .i64
abbrev Eh : Ty := (.p int (.p int .u))
abbrev Jd : Type := (Int × (Int × Unit))
abbrev Lb : Ty := (.p int (.p (.sl int) .u))
abbrev Ga : Type := (Int × ((List Int) × Unit))
abbrev Pc : Ty := (.p int (.p int (.p .b .u)))
abbrev Cd : Type := (Int × (Int × (Bool × Unit)))
abbrev Dh : Ty := (.p int Eh)
abbrev Be : Type := (Int × Jd)
abbrev Sb : Ty := (.p int Dh)
abbrev Ya : Type := (Int × Be)
abbrev Br : Ty := (.p Pc (.p .s .u))
abbrev Sl : Type := (Cd × ((List UInt8) × Unit))
abbrev Rl : Ty := (.p int (.p Sb .u))
abbrev Qa : Type := (Int × (Ya × Unit))
abbrev Oa : Ty := (.p int (.p (.sl (.sl Sb)) .u))
abbrev Ea : Type := (Int × ((List (List Ya)) × Unit))
abbrev Nd : Ty := (.p Pc (.p Pc .u))
abbrev Nc : Type := (Cd × (Cd × Unit))
abbrev Gb : Ty := (.p Oa (.p (.sl (.sl Dh)) (.p int (.p (.sl Rl) (.p int (.p .b .u))))))
abbrev Db : Type := (Ea × ((List (List Be)) × (Int × ((List Qa) × (Int × (Bool × Unit))))))
abbrev At : Ty := (.p Gb (.p Gb (.p (.sl int) .u)))
abbrev Mm : Type := (Db × (Db × ((List Int) × Unit)))
def FC : List UInt8 := [97, 32, 98, 32, 99, 32, 100, 32, 101, 32, 102, 32, 103, 32, 104, 32, 105, 32, 106, 32, 107, 32, 108, 32, 109, 32, 110, 32, 111, 32, 112, 32, 113, 32, 114, 32, 115, 32, 116, 32, 117, 32, 118, 32, 119, 32, 120, 32, 121, 32, 122, 32, 49, 32, 50, 32, 51, 32, 52, 32, 53, 32, 54, 32, 55, 32, 56, 32, 57, 32, 48, 32, 101, 110, 116, 101, 114, 32, 101, 115, 99, 32, 98, 97, 99, 107, 32, 116, 97, 98, 32, 115, 112, 97, 99, 101, 32, 109, 105, 110, 117, 115, 32, 101, 113, 117, 97, 108, 32, 108, 101, 102, 116, 32, 114, 105, 103, 104, 116, 32, 117, 112, 32, 100, 111, 119, 110, 32, 102, 49, 32, 102, 50, 32, 102, 51, 32, 102, 52, 32, 102, 53, 32, 102, 54, 32, 102, 55, 32, 102, 56, 32, 102, 57]
noncomputable section
open Option renaming bind → ob
open Go.IntKind renaming wrap → wr
open Int renaming toNat → tn
open List renaming length → ln, append → ap, set → ls
open Sum renaming elim → se
open Nat renaming ble → bl
abbrev Gh : Type := Int × Unit
abbrev Ie : Type := Bool × Unit
abbrev Ff : Type := List Int
abbrev Gf : Type := Unit × Unit
abbrev Pm : Type := Ea × Unit
abbrev Qm : Type := List Ya
abbrev Qs : Type := List UInt8
abbrev Cg : Type := List Ga
abbrev Tc : Type := List Qa
abbrev Ow : Type := List Jd
abbrev Vq : Type := Db × Unit
abbrev Nm : Type := Unit × Gh
abbrev Pw : Type := Ie × Unit
abbrev Ni : Type := List Be
abbrev Om : Type := Ga × Unit
abbrev Pp : Type := Ga × Om
abbrev Qh : Type := List Qm
abbrev FN : Type := Gh × Unit
abbrev QE : Type := Ff × Jd
abbrev MV : Type := (Tc × (Unit × (Unit × (Ff × (Int × (Bool × Gh)))))) × Pp
abbrev GN : Type := Ow × Jd
abbrev HN : Type := Unit × Jd
abbrev Yx : Type := List Qs
abbrev WH : Type := Ff × Unit
abbrev Bv : Type := Db × Vq
abbrev Hl : Type := List Sl
abbrev XH : Type := Qs × Unit
abbrev Cv : Type := Gf ⊕ Pw
abbrev S4 : Type := Int × (Int × (Qm × Jd))
abbrev IN : Type := (Int × (Int × Nm)) × Pm
abbrev Zx : Type := Cg × Unit
abbrev T4 : Type := Jd × Unit
abbrev U4 : Type := FN ⊕ Gf
abbrev Dv : Type := Ya × Unit
abbrev Qw : Type := List Mm
abbrev Ev : Type := List Ni
abbrev JN : Type := (Qh × (Qh × Gh)) × Unit
abbrev RE : Type := Gf ⊕ FN
abbrev NV : Type := Db × (Cg × Ie)
abbrev YH : Type := Unit × (Qh × Jd)
abbrev LA : Type := Tc × Jd
abbrev PE : Type := (Int × LA) × Unit
abbrev KN : Type := (Qm × (Qm × Gh)) × Unit
abbrev OV : Type := (Zx × Unit) ⊕ Gf
abbrev PV : Type := ((Unit × (Unit × WH)) × Pp) ⊕ Gf
abbrev W4 : Type := MV ⊕ (((Tc × (Unit × (Unit × (Ff × (Int × Ie))))) × Pp) ⊕ Gf)
abbrev X4 : Type := (Int × QE) × Unit
abbrev Rw : Type := Unit × Nm
abbrev KA : Type := (Tc × Rw) × Pp
abbrev MA : Type := List (Nc × Ff)
abbrev LN : Type := Ow × (Ni × Jd)
abbrev Z4 : Type := Ff × Gh
abbrev Nae : Type := (WH × Unit) ⊕ Gf
abbrev Oae : Type := Yx × Unit
abbrev SE : Type := Ea × Pm
abbrev MN : Type := (Ff × QE) × Unit
abbrev QV : Type := (Unit × (Qw × Gh)) × Pm
abbrev NN : Type := (Ff × Ie) × Unit
abbrev ZH : Type := List (Cd × Hl)
abbrev Io : Type := Ea × (ZH × Unit)
abbrev EN : Type := (Unit × (Unit × (Unit × (MA × ((List Nc) × (Unit × (Hl × (Hl × Jd)))))))) × (Ea × (Io × (Io × (Nc × Unit))))
abbrev LV : Type := (Unit × (Unit × (Unit × (MA × ((List Nc) × Unit))))) × (Ea × (Io × (Io × Unit)))
abbrev V4 : Type := (Unit × (Unit × (Unit × (Hl × (Unit × (Qs × (Int × (Int × (Cg × Jd))))))))) × (Io × (Cd × Bv))
abbrev Y4 : Type := (Unit × (Unit × (Unit × (Hl × Jd)))) × (Io × (Cd × Vq))
abbrev Xh : Db := ((0, [], ()), [], 0, [], 0, false, ())
def He (a0 : Int) (a1 : Int) (a2 : Int) : Option Ie :=
 (cond (decide (a0 ≥ a1))
 (some ((decide (a0 ≤ a2)), ()))
 (some (false, ())))
def Ov (a0 : Ga) : Option Om :=
 (cond (bl (ln ([] : List Int) + ln a0.2.1) Mb)
 (some ((a0.1, (ap [] a0.2.1), ()), ()))
 none)
def Wf (a0 : Ff) : Option WH :=
 (cond (bl (ln ([] : List Int) + ln a0) Mb)
 (some ((ap [] a0), ()))
 none)
def Zl (a0 : Qm) (a1 : Int) : Option Gh :=
 (cond (decide ((wr .i64 (a1 - ((ln a0 : Nat) : Int))) < 0))
 (some ((-1), ()))
 (some ((wr .i64 (a1 - ((ln a0 : Nat) : Int))), ())))
def IC (t0 : Qh) (t1 : Int) (t5 : Int) : Option (((Qh × Jd) × Unit) ⊕ (FN ⊕ FN)) :=
 (cond (decide (t5 < ((ln t0 : Nat) : Int)))
 (ob (Ac t0 t5) fun x5 =>
 (ob (Zl x5 t1) fun r6 =>
 (cond (decide (r6.1 < 0))
 (some (.inr (.inr (((-1), ()), ()))))
 (some (.inl ((t0, r6.1, (wr .i64 (t5 + 1)), ()), ()))))))
 (some (.inr (.inl ((t1, ()), ())))))
def Wr := Kb fun x : ((Qh × Jd) × Unit) => IC x.1.1 x.1.2.1 x.1.2.2.1
def Bp (a0 : Qh) (a1 : Int) : Option Gh :=
 (cond (decide ((wr .i64 (a1 - ((ln a0 : Nat) : Int))) < 0))
 (some ((-1), ()))
 (ob (Wr ((a0, (wr .i64 (a1 - ((ln a0 : Nat) : Int))), 0, ()), ())) (se (fun y7 => (some (y7.1.1, ()))) (fun z8 => (some (z8.1.1, ()))))))
def Sn (a0 : Ea) (a1 : Int) : Option Gh :=
 (ob (Bp a0.2.1 a1) fun r1 =>
 (cond (decide (r1.1 < 0))
 (some ((-1), ()))
 (some (r1.1, ()))))
def Tn (a0 : Ya) : Option Dv :=
 (some (a0, ()))
def ID (t0 : Qm) (t3 : Qm) (t4 : Int) : Option (KN ⊕ (((Qm × Unit) × Unit) ⊕ Gf)) :=
 (cond (decide (t4 < ((ln t0 : Nat) : Int)))
 (ob (Ac t0 t4) fun x7 =>
 (ob (Tn x7) fun r8 =>
 (cond (Xl (ln t3) t4)
 (ob t3[(tn t4)]? fun x9 =>
 (some (.inl ((t0, (ls t3 (tn t4) r8.1), (wr .i64 (t4 + 1)), ()), ()))))
 none)))
 (some (.inr (.inl ((t3, ()), ())))))
def It := Kb fun x : KN => ID x.1.1 x.1.2.1 x.1.2.2.1
def Xq (a0 : Qm) : Option (Qm × Unit) :=
 (cond ((((ln a0 : Nat) : Int) == ((ln a0 : Nat) : Int)) && (decide (0 ≤ ((ln a0 : Nat) : Int)) && decide (((ln a0 : Nat) : Int) ≤ ((Mb : Nat) : Int))))
 (ob (It ((a0, (q0 (tn ((ln a0 : Nat) : Int)) (0, 0, 0, 0, ())), 0, ()), ())) (se (fun y10 => (some (y10.1.1, ()))) (fun z11 => none)))
 none)
def JC (t0 : Qh) (t3 : Qh) (t4 : Int) : Option (JN ⊕ (((Qh × Unit) × Unit) ⊕ Gf)) :=
 (cond (decide (t4 < ((ln t0 : Nat) : Int)))
 (ob (Ac t0 t4) fun x7 =>
 (ob (Xq x7) fun r8 =>
 (cond (Xl (ln t3) t4)
 (ob t3[(tn t4)]? fun x9 =>
 (some (.inl ((t0, (ls t3 (tn t4) r8.1), (wr .i64 (t4 + 1)), ()), ()))))
 none)))
 (some (.inr (.inl ((t3, ()), ())))))
def Xr := Kb fun x : JN => JC x.1.1 x.1.2.1 x.1.2.2.1
def Bu (a0 : Qh) : Option (Qh × Unit) :=
 (cond ((((ln a0 : Nat) : Int) == ((ln a0 : Nat) : Int)) && (decide (0 ≤ ((ln a0 : Nat) : Int)) && decide (((ln a0 : Nat) : Int) ≤ ((Mb : Nat) : Int))))
 (ob (Xr ((a0, (q0 (tn ((ln a0 : Nat) : Int)) []), 0, ()), ())) (se (fun y10 => (some (y10.1.1, ()))) (fun z11 => none)))
 none)
def Xf (a0 : Ea) : Option Pm :=
 (ob (Bu a0.2.1) fun r1 =>
 (some ((a0.1, r1.1, ()), ())))
def Yg (a0 : Ya) : Option Ie :=
 (ob (He a0.2.1 1 56) fun r1 =>
 (ob (He a0.2.2.1 1 15) fun r2 =>
 (ob (He a0.2.2.2.1 1 3) fun r3 =>
 (cond (a0.1 == 0)
 (cond (a0.2.1 == 0)
 (cond (a0.2.2.1 == 0)
 (some ((a0.2.2.2.1 == 0), ()))
 (some (false, ())))
 (some (false, ())))
 (cond (a0.1 == 1)
 (cond (a0.2.1 == 0)
 (cond (a0.2.2.1 == 0)
 (some ((a0.2.2.2.1 == 0), ()))
 (some (false, ())))
 (some (false, ())))
 (cond (a0.1 == 10)
 (cond (a0.2.1 == 0)
 (cond (a0.2.2.1 == 0)
 (some ((a0.2.2.2.1 == 0), ()))
 (some (false, ())))
 (some (false, ())))
 (cond (a0.1 == 2)
 (cond (a0.2.2.2.1 == 0)
 (cond r1.1
 (cond r2.1
 (some (true, ()))
 (some ((a0.2.2.1 == 0), ())))
 (cond (a0.2.1 == 0)
 (cond r2.1
 (cond r2.1
 (some (true, ()))
 (some ((a0.2.2.1 == 0), ())))
 (some (false, ())))
 (some (false, ()))))
 (some (false, ())))
 (cond (a0.1 == 3)
 (cond r3.1
 (cond (a0.2.1 == 0)
 (some ((a0.2.2.1 == 0), ()))
 (some (false, ())))
 (some (false, ())))
 (cond (a0.1 == 4)
 (cond r3.1
 (cond (a0.2.1 == 0)
 (some ((a0.2.2.1 == 0), ()))
 (some (false, ())))
 (some (false, ())))
 (cond (a0.1 == 5)
 (ob (He a0.2.2.2.1 0 3) fun r4 =>
 (cond r4.1
 (cond (a0.2.1 == 0)
 (some ((a0.2.2.1 == 0), ()))
 (some (false, ())))
 (some (false, ()))))
 (cond (a0.1 == 9)
 (ob (He a0.2.2.2.1 0 3) fun r5 =>
 (cond r5.1
 (cond (a0.2.1 == 0)
 (some ((a0.2.2.1 == 0), ()))
 (some (false, ())))
 (some (false, ()))))
 (cond (a0.1 == 6)
 (cond r1.1
 (cond r2.1
 (some ((a0.2.2.2.1 == 0), ()))
 (some (false, ())))
 (some (false, ())))
 (cond (a0.1 == 7)
 (cond r1.1
 (cond r3.1
 (some ((a0.2.2.1 == 0), ()))
 (some (false, ())))
 (some (false, ())))
 (cond (a0.1 == 8)
 (cond r2.1
 (cond (a0.2.1 == 0)
 (some ((a0.2.2.2.1 == 0), ()))
 (some (false, ())))
 (some (false, ())))
 (some (false, ()))))))))))))))))
def Mr (t1 : Unit) (t3 : Int) (t4 : Int) (b1 : Ea) : Option ((HN × Pm) ⊕ ((Nm × Pm) ⊕ Pw)) :=
 (ob (Ac b1.2.1 t3) fun x40 =>
 (cond (decide (t4 < ((ln x40 : Nat) : Int)))
 (ob (Ac b1.2.1 t3) fun x41 =>
 (ob (Ac x41 t4) fun x42 =>
 (ob (Yg x42) fun r43 =>
 (cond (!r43.1)
 (some (.inr (.inr ((false, ()), ()))))
 (cond (x42.1 == 1)
 (cond (t3 == 0)
 (some (.inr (.inr ((false, ()), ()))))
 (cond (x42.1 != 9)
 (cond (decide (x42.2.2.2.1 ≥ ((ln b1.2.1 : Nat) : Int)))
 (some (.inr (.inr ((false, ()), ()))))
 (some (.inl (((), t3, (wr .i64 (t4 + 1)), ()), (b1, ())))))
 (some (.inl (((), t3, (wr .i64 (t4 + 1)), ()), (b1, ()))))))
 (cond (x42.1 != 9)
 (cond (decide (x42.2.2.2.1 ≥ ((ln b1.2.1 : Nat) : Int)))
 (some (.inr (.inr ((false, ()), ()))))
 (some (.inl (((), t3, (wr .i64 (t4 + 1)), ()), (b1, ())))))
 (some (.inl (((), t3, (wr .i64 (t4 + 1)), ()), (b1, ()))))))))))
 (some (.inr (.inl (((), t3, ()), (b1, ())))))))
def Yi := Kb fun x : (HN × Pm) => Mr x.1.1 x.1.2.1 x.1.2.2.1 x.2.1
def Lr (t1 : Unit) (t3 : Int) (b1 : Ea) : Option ((Nm × Pm) ⊕ ((Gf × Pm) ⊕ Pw)) :=
 (cond (decide (t3 < ((ln b1.2.1 : Nat) : Int)))
 (ob (Ac b1.2.1 t3) fun x31 =>
 (cond (((ln x31 : Nat) : Int) != b1.1)
 (some (.inr (.inr ((false, ()), ()))))
 (ob (Yi (((), t3, 0, ()), (b1, ()))) (se (fun y44 => (some (.inl (((), (wr .i64 (y44.1.2.1 + 1)), ()), (y44.2.1, ()))))) (fun z45 => (some (.inr (.inr ((z45.1.1, ()), ())))))))))
 (some (.inr (.inl (((), ()), (b1, ()))))))
def Xi := Kb fun x : (Nm × Pm) => Lr x.1.1 x.1.2.1 x.2.1
def Ji (a0 : Ea) : Option Ie :=
 (ob (Xi (((), 0, ()), (a0, ()))) (se (fun y46 => (ob (He y46.2.1.1 1 32) fun r48 =>
 (cond r48.1
 (ob (He ((ln y46.2.1.2.1 : Nat) : Int) 1 4) fun r49 =>
 (some (r49.1, ())))
 (some (false, ()))))) (fun z47 => (some (z47.1.1, ())))))
def Vk (a0 : Int) : Option Ie :=
 (cond (decide (a0 ≥ 1))
 (some ((decide (a0 ≤ 56)), ()))
 (some (false, ())))
def Wk (a0 : Int) : Option Ie :=
 (cond (decide (a0 ≥ 1))
 (some ((decide (a0 ≤ 15)), ()))
 (some (false, ())))
def Wl (a0 : Int) : Option Ie :=
 (cond (decide (a0 ≥ 1))
 (some ((decide (a0 ≤ 3)), ()))
 (some (false, ())))
def Vg (a0 : Ya) : Option Ie :=
 (cond (a0.1 == 0)
 (cond (a0.2.1 == 0)
 (cond (a0.2.2.1 == 0)
 (some ((a0.2.2.2.1 == 0), ()))
 (some (false, ())))
 (some (false, ())))
 (cond (a0.1 == 1)
 (cond (a0.2.1 == 0)
 (cond (a0.2.2.1 == 0)
 (some ((a0.2.2.2.1 == 0), ()))
 (some (false, ())))
 (some (false, ())))
 (cond (a0.1 == 10)
 (cond (a0.2.1 == 0)
 (cond (a0.2.2.1 == 0)
 (some ((a0.2.2.2.1 == 0), ()))
 (some (false, ())))
 (some (false, ())))
 (cond (a0.1 == 2)
 (cond (a0.2.2.2.1 == 0)
 (cond (a0.2.1 == 0)
 (cond (a0.2.2.1 == 0)
 (cond (a0.2.1 != 0)
 (some (true, ()))
 (some ((a0.2.2.1 != 0), ())))
 (ob (Wk a0.2.2.1) fun r1 =>
 (cond r1.1
 (cond (a0.2.1 != 0)
 (some (true, ()))
 (some ((a0.2.2.1 != 0), ())))
 (some (false, ())))))
 (ob (Vk a0.2.1) fun r2 =>
 (cond r2.1
 (cond (a0.2.2.1 == 0)
 (cond (a0.2.1 != 0)
 (some (true, ()))
 (some ((a0.2.2.1 != 0), ())))
 (ob (Wk a0.2.2.1) fun r3 =>
 (cond r3.1
 (cond (a0.2.1 != 0)
 (some (true, ()))
 (some ((a0.2.2.1 != 0), ())))
 (some (false, ())))))
 (some (false, ())))))
 (some (false, ())))
 (cond (a0.1 == 3)
 (cond (a0.2.1 == 0)
 (cond (a0.2.2.1 == 0)
 (ob (Wl a0.2.2.2.1) fun r4 =>
 (some (r4.1, ())))
 (some (false, ())))
 (some (false, ())))
 (cond (a0.1 == 4)
 (cond (a0.2.1 == 0)
 (cond (a0.2.2.1 == 0)
 (ob (Wl a0.2.2.2.1) fun r5 =>
 (some (r5.1, ())))
 (some (false, ())))
 (some (false, ())))
 (cond (a0.1 == 5)
 (cond (a0.2.1 == 0)
 (cond (a0.2.2.1 == 0)
 (cond (decide (a0.2.2.2.1 ≥ 0))
 (some ((decide (a0.2.2.2.1 ≤ 3)), ()))
 (some (false, ())))
 (some (false, ())))
 (some (false, ())))
 (cond (a0.1 == 9)
 (cond (a0.2.1 == 0)
 (cond (a0.2.2.1 == 0)
 (cond (decide (a0.2.2.2.1 ≥ 0))
 (some ((decide (a0.2.2.2.1 ≤ 3)), ()))
 (some (false, ())))
 (some (false, ())))
 (some (false, ())))
 (cond (a0.1 == 6)
 (ob (Vk a0.2.1) fun r6 =>
 (cond r6.1
 (ob (Wk a0.2.2.1) fun r7 =>
 (cond r7.1
 (some ((a0.2.2.2.1 == 0), ()))
 (some (false, ()))))
 (some (false, ()))))
 (cond (a0.1 == 7)
 (ob (Vk a0.2.1) fun r8 =>
 (cond r8.1
 (cond (a0.2.2.1 == 0)
 (ob (Wl a0.2.2.2.1) fun r9 =>
 (some (r9.1, ())))
 (some (false, ())))
 (some (false, ()))))
 (cond (a0.1 == 8)
 (cond (a0.2.1 == 0)
 (ob (Wk a0.2.2.1) fun r10 =>
 (cond r10.1
 (some ((a0.2.2.2.1 == 0), ()))
 (some (false, ()))))
 (some (false, ())))
 (some (false, ())))))))))))))
def Jr (t1 : Unit) (t3 : Int) (t28 : Qh) (t29 : Int) (t30 : Int) (t40 : Qm) (t41 : Int) (t42 : Int) (b1 : Ea) : Option (((Unit × (Int × (Qh × S4))) × Pm) ⊕ ((YH × Pm) ⊕ Pw)) :=
 (cond (decide (t42 < t41))
 (ob (Ac t40 t42) fun x24 =>
 (ob (Vg x24) fun r25 =>
 (cond (!r25.1)
 (some (.inr (.inr ((false, ()), ()))))
 (cond (t3 == 0)
 (cond (x24.1 == 1)
 (some (.inr (.inr ((false, ()), ()))))
 (cond (x24.1 != 9)
 (cond (decide (x24.2.2.2.1 ≥ ((ln b1.2.1 : Nat) : Int)))
 (some (.inr (.inr ((false, ()), ()))))
 (some (.inl (((), t3, t28, t29, t30, t40, t41, (wr .i64 (t42 + 1)), ()), (b1, ())))))
 (some (.inl (((), t3, t28, t29, t30, t40, t41, (wr .i64 (t42 + 1)), ()), (b1, ()))))))
 (cond (x24.1 != 9)
 (cond (decide (x24.2.2.2.1 ≥ ((ln b1.2.1 : Nat) : Int)))
 (some (.inr (.inr ((false, ()), ()))))
 (some (.inl (((), t3, t28, t29, t30, t40, t41, (wr .i64 (t42 + 1)), ()), (b1, ())))))
 (some (.inl (((), t3, t28, t29, t30, t40, t41, (wr .i64 (t42 + 1)), ()), (b1, ())))))))))
 (some (.inr (.inl (((), t28, t29, t30, ()), (b1, ()))))))
def Ri := Kb fun x : ((Unit × (Int × (Qh × S4))) × Pm) => Jr x.1.1 x.1.2.1 x.1.2.2.1 x.1.2.2.2.1 x.1.2.2.2.2.1 x.1.2.2.2.2.2.1 x.1.2.2.2.2.2.2.1 x.1.2.2.2.2.2.2.2.1 x.2.1
def Ir (t1 : Unit) (t28 : Qh) (t29 : Int) (t30 : Int) (b1 : Ea) : Option ((YH × Pm) ⊕ Cv) :=
 (cond (decide (t30 < t29))
 (ob (Ac t28 t30) fun x19 =>
 (cond (((ln x19 : Nat) : Int) != b1.1)
 (some (.inr (.inr ((false, ()), ()))))
 (ob (Ri (((), t30, t28, t29, t30, x19, ((ln x19 : Nat) : Int), 0, ()), (b1, ()))) (se (fun y26 => (some (.inl (((), y26.1.2.1, y26.1.2.2.1, (wr .i64 (y26.1.2.2.2.1 + 1)), ()), (y26.2.1, ()))))) (fun z27 => (some (.inr (.inr ((z27.1.1, ()), ())))))))))
 (some (.inr (.inl ((), ())))))
def Qi := Kb fun x : (YH × Pm) => Ir x.1.1 x.1.2.1 x.1.2.2.1 x.1.2.2.2.1 x.2.1
def Hi (a0 : Ea) : Option Ie :=
 (cond (decide (a0.1 < 1))
 (some (false, ()))
 (cond (decide (a0.1 > 32))
 (some (false, ()))
 (cond (decide (((ln a0.2.1 : Nat) : Int) < 1))
 (some (false, ()))
 (cond (decide (((ln a0.2.1 : Nat) : Int) > 4))
 (some (false, ()))
 (ob (Qi (((), a0.2.1, ((ln a0.2.1 : Nat) : Int), 0, ()), (a0, ()))) (se (fun y28 => (some (true, ()))) (fun z29 => (some (z29.1.1, ())))))))))
def Qn (a0 : Ya) (a1 : Ya) : Option Ie :=
 (cond (a0.1 != a1.1)
 (some (false, ()))
 (cond (a0.2.1 != a1.2.1)
 (some (false, ()))
 (cond (a0.2.2.1 != a1.2.2.1)
 (some (false, ()))
 (cond (a0.2.2.2.1 != a1.2.2.2.1)
 (some (false, ()))
 (some (true, ()))))))
def HD (t0 : Qm) (t1 : Qm) (t5 : Int) : Option (KN ⊕ Cv) :=
 (cond (decide (t5 < ((ln t0 : Nat) : Int)))
 (ob (Ac t0 t5) fun x7 =>
 (ob (Ac t1 t5) fun x8 =>
 (ob (Qn x7 x8) fun r9 =>
 (cond (!r9.1)
 (some (.inr (.inr ((false, ()), ()))))
 (some (.inl ((t0, t1, (wr .i64 (t5 + 1)), ()), ())))))))
 (some (.inr (.inl ((), ())))))
def Ht := Kb fun x : KN => HD x.1.1 x.1.2.1 x.1.2.2.1
def Yl (a0 : Qm) (a1 : Qm) : Option Ie :=
 (cond (((ln a0 : Nat) : Int) != ((ln a1 : Nat) : Int))
 (some (false, ()))
 (ob (Ht ((a0, a1, 0, ()), ())) (se (fun y10 => (some (true, ()))) (fun z11 => (some (z11.1.1, ()))))))
def HC (t0 : Qh) (t1 : Qh) (t5 : Int) : Option (JN ⊕ Cv) :=
 (cond (decide (t5 < ((ln t0 : Nat) : Int)))
 (ob (Ac t0 t5) fun x7 =>
 (ob (Ac t1 t5) fun x8 =>
 (ob (Yl x7 x8) fun r9 =>
 (cond (!r9.1)
 (some (.inr (.inr ((false, ()), ()))))
 (some (.inl ((t0, t1, (wr .i64 (t5 + 1)), ()), ())))))))
 (some (.inr (.inl ((), ())))))
def Vr := Kb fun x : JN => HC x.1.1 x.1.2.1 x.1.2.2.1
def Ap (a0 : Qh) (a1 : Qh) : Option Ie :=
 (cond (((ln a0 : Nat) : Int) != ((ln a1 : Nat) : Int))
 (some (false, ()))
 (ob (Vr ((a0, a1, 0, ()), ())) (se (fun y10 => (some (true, ()))) (fun z11 => (some (z11.1.1, ()))))))
def Rn (a0 : Ea) (a1 : Ea) : Option Ie :=
 (cond (a0.1 != a1.1)
 (some (false, ()))
 (ob (Ap a0.2.1 a1.2.1) fun r1 =>
 (cond (!r1.1)
 (some (false, ()))
 (some (true, ())))))
def Kj (a0 : Ya) : Option Ie :=
 (ob (Yg a0) fun r1 =>
 (cond r1.1
 (cond (a0.1 == 6)
 (some (true, ()))
 (some ((a0.1 == 7), ())))
 (some (false, ()))))
def Xw (a0 : Ya) : Option Dv :=
 (ob (Kj a0) fun r1 =>
 (cond (!r1.1)
 (some (a0, ()))
 (some ((2, a0.2.1, 0, 0, ()), ()))))
def strings_Split (a b : List UInt8) : Option (List Qs × Unit) := MQ a b
def Ds (a0 : Int) : Option XH :=
 (cond (decide (a0 < 1))
 (some ([], ()))
 (cond (decide (a0 > 56))
 (some ([], ()))
 (ob (strings_Split FC ([32] : List UInt8)) fun r1 =>
 (cond (Xl (ln r1.1) (wr .i64 (a0 - 1)))
 (ob r1.1[(tn (wr .i64 (a0 - 1)))]? fun x2 =>
 (some (x2, ())))
 none))))
def Vl (a0 : Ya) : Option Ie :=
 (ob (Vg a0) fun r1 =>
 (cond r1.1
 (cond (a0.1 == 6)
 (some (true, ()))
 (some ((a0.1 == 7), ())))
 (some (false, ()))))
def Tw (a0 : Ya) : Option Dv :=
 (ob (Vl a0) fun r1 =>
 (cond (!r1.1)
 (some (a0, ()))
 (some ((2, a0.2.1, 0, 0, ()), ()))))
def Xj (t2 : Unit) (t3 : Unit) (t10 : Qh) (t11 : Int) (t12 : Int) (b2 : Ea) (b3 : Ea) : Option (((Unit × YH) × SE) ⊕ (((Unit × Gf) × SE) ⊕ Gf)) :=
 (cond (decide (t12 < t11))
 (ob (Ac t10 t12) fun x4 =>
 (cond (bl (ln ([] : List Ya) + ln x4) Mb)
 (cond (bl (ln b3.2.1 + ln ([(ap [] x4)] : List Qm)) Mb)
 (some (.inl (((), (), t10, t11, (wr .i64 (t12 + 1)), ()), (b2, (b3.1, (ap b3.2.1 ([(ap [] x4)] : List Qm)), ()), ()))))
 none)
 none))
 (some (.inr (.inl (((), (), ()), (b2, b3, ()))))))
def Tk := Kb fun x : ((Unit × YH) × SE) => Xj x.1.1 x.1.2.1 x.1.2.2.1 x.1.2.2.2.1 x.1.2.2.2.2.1 x.2.1 x.2.2.1
def Xo (a0 : Ea) : Option Pm :=
 (ob (Tk (((), (), a0.2.1, ((ln a0.2.1 : Nat) : Int), 0, ()), ((0, [], ()), (a0.1, [], ()), ()))) (se (fun y5 => (some (y5.2.2.1, ()))) (fun z6 => none)))
def Yj (t3 : Ev) (t6 : Ev) (t7 : Int) (t8 : Int) : Option (((Ev × (Ev × Jd)) × Unit) ⊕ (((Ev × Unit) × Unit) ⊕ Gf)) :=
 (cond (decide (t8 < t7))
 (ob (Ac t6 t8) fun x4 =>
 (cond (bl (ln ([] : List Be) + ln x4) Mb)
 (cond (bl (ln t3 + ln ([(ap [] x4)] : List Ni)) Mb)
 (some (.inl (((ap t3 ([(ap [] x4)] : List Ni)), t6, t7, (wr .i64 (t8 + 1)), ()), ())))
 none)
 none))
 (some (.inr (.inl ((t3, ()), ())))))
def Uk := Kb fun x : ((Ev × (Ev × Jd)) × Unit) => Yj x.1.1 x.1.2.1 x.1.2.2.1 x.1.2.2.2.1
def Yo (a0 : Ev) : Option (Ev × Unit) :=
 (ob (Uk (([], a0, ((ln a0 : Nat) : Int), 0, ()), ())) (se (fun y5 => (some (y5.1.1, ()))) (fun z6 => none)))
def Qu (a0 : Int) (a1 : Int) : Option Gh :=
 (cond (decide (0 ≤ a1))
 (some ((Hr .i64 (CB .i64 a0 a1) 1), ()))
 none)
def Vo (t3 : Int) (t6 : Tc) (t7 : Int) (t8 : Int) : Option (PE ⊕ Cv) :=
 (cond (decide (t8 < t7))
 (ob (Ac t6 t8) fun x7 =>
 (cond (decide (x7.1 < 0))
 (some (.inr (.inr ((false, ()), ()))))
 (cond (decide (x7.1 > 31))
 (some (.inr (.inr ((false, ()), ()))))
 (ob (Qu t3 x7.1) fun r8 =>
 (cond (r8.1 == 1)
 (some (.inr (.inr ((false, ()), ()))))
 (ob (Vg x7.2.1) fun r9 =>
 (cond (!r9.1)
 (some (.inr (.inr ((false, ()), ()))))
 (cond (x7.2.1.1 == 1)
 (some (.inr (.inr ((false, ()), ()))))
 (cond (x7.2.1.1 == 6)
 (some (.inr (.inr ((false, ()), ()))))
 (cond (x7.2.1.1 == 7)
 (some (.inr (.inr ((false, ()), ()))))
 (cond (decide (0 ≤ x7.1))
 (some (.inl (((Zd .i64 t3 (Ck .i64 1 x7.1)), t6, t7, (wr .i64 (t8 + 1)), ()), ())))
 none)))))))))))
 (some (.inr (.inl ((), ())))))
def Bq := Kb fun x : PE => Vo x.1.1 x.1.2.1 x.1.2.2.1 x.1.2.2.2.1
def Dj (a0 : Tc) : Option Ie :=
 (ob (Bq ((0, a0, ((ln a0 : Nat) : Int), 0, ()), ())) (se (fun y10 => (some (true, ()))) (fun z11 => (some (z11.1.1, ())))))
def RI (t3 : Unit) (t7 : Ow) (t8 : Int) (t9 : Int) (b3 : Jd) : Option (((Unit × GN) × T4) ⊕ RE) :=
 (cond (decide (t9 < t8))
 (ob (Ac t7 t9) fun x3 =>
 (cond (Te Eh x3 b3)
 (some (.inr (.inr ((t9, ()), ()))))
 (some (.inl (((), t7, t8, (wr .i64 (t9 + 1)), ()), (b3, ()))))))
 (some (.inr (.inl ((), ())))))
def Uv := Kb fun x : ((Unit × GN) × T4) => RI x.1.1 x.1.2.1 x.1.2.2.1 x.1.2.2.2.1 x.2.1
def Dz (a0 : Ow) (a1 : Jd) : Option Gh :=
 (ob (Uv (((), a0, ((ln a0 : Nat) : Int), 0, ()), (a1, ()))) (se (fun y4 => (some ((-1), ()))) (fun z5 => (some (z5.1.1, ())))))
def YG (t3 : Ow) (t11 : Ni) (t12 : Int) (t13 : Int) : Option ((LN × Unit) ⊕ (((Ow × Unit) × Unit) ⊕ Pw)) :=
 (cond (decide (t13 < t12))
 (ob (Ac t11 t13) fun x10 =>
 (ob (Dz t3 x10.2) fun r11 =>
 (ob (Vg (2, x10.2.1, x10.2.2.1, 0, ())) fun r12 =>
 (cond (!r12.1)
 (some (.inr (.inr ((false, ()), ()))))
 (cond (x10.1 == 0)
 (cond (decide (r11.1 ≥ 0))
 (some (.inr (.inr ((false, ()), ()))))
 (cond (x10.1 == 1)
 (cond (bl (ln t3 + ln ([x10.2] : List Jd)) Mb)
 (some (.inl (((ap t3 ([x10.2] : List Jd)), t11, t12, (wr .i64 (t13 + 1)), ()), ())))
 none)
 (some (.inl ((t3, t11, t12, (wr .i64 (t13 + 1)), ()), ())))))
 (cond (x10.1 == 1)
 (cond (decide (r11.1 ≥ 0))
 (some (.inr (.inr ((false, ()), ()))))
 (cond (x10.1 == 1)
 (cond (bl (ln t3 + ln ([x10.2] : List Jd)) Mb)
 (some (.inl (((ap t3 ([x10.2] : List Jd)), t11, t12, (wr .i64 (t13 + 1)), ()), ())))
 none)
 (some (.inl ((t3, t11, t12, (wr .i64 (t13 + 1)), ()), ())))))
 (cond (x10.1 == 2)
 (cond (decide (r11.1 < 0))
 (some (.inr (.inr ((false, ()), ()))))
 (cond (Re (ln t3) 0 r11.1)
 (cond (Re (ln t3) (wr .i64 (r11.1 + 1)) ((ln t3 : Nat) : Int))
 (cond (bl (ln (Zc t3 (tn 0) (tn r11.1)) + ln (Zc t3 (tn (wr .i64 (r11.1 + 1))) (tn ((ln t3 : Nat) : Int)))) Mb)
 (some (.inl (((ap (Zc t3 (tn 0) (tn r11.1)) (Zc t3 (tn (wr .i64 (r11.1 + 1))) (tn ((ln t3 : Nat) : Int)))), t11, t12, (wr .i64 (t13 + 1)), ()), ())))
 none)
 none)
 none))
 (some (.inr (.inr ((false, ()), ())))))))))))
 (some (.inr (.inl ((t3, ()), ())))))
def Ku := Kb fun x : (LN × Unit) => YG x.1.1 x.1.2.1 x.1.2.2.1 x.1.2.2.2.1
def BD (a0 : Ni) : Option Ie :=
 (cond (decide (((ln a0 : Nat) : Int) > 8))
 (some (false, ()))
 (ob (Ku (([], a0, ((ln a0 : Nat) : Int), 0, ()), ())) (se (fun y13 => (some ((((ln y13.1.1 : Nat) : Int) == 0), ()))) (fun z14 => (some (z14.1.1, ()))))))
def Jk (a0 : Db) : Option Vq :=
 (ob (Xo a0.1) fun r1 =>
 (ob (Yo a0.2.1) fun r2 =>
 (cond (bl (ln ([] : List Qa) + ln a0.2.2.2.1) Mb)
 (some ((r1.1, r2.1, a0.2.2.1, (ap [] a0.2.2.2.1), a0.2.2.2.2), ()))
 none)))
def Uo (t1 : Int) (t8 : Tc) (t9 : Int) (t10 : Int) : Option (PE ⊕ RE) :=
 (cond (decide (t10 < t9))
 (ob (Ac t8 t10) fun x3 =>
 (cond (x3.1 == t1)
 (some (.inr (.inr ((t10, ()), ()))))
 (some (.inl ((t1, t8, t9, (wr .i64 (t10 + 1)), ()), ())))))
 (some (.inr (.inl ((), ())))))
def Aq := Kb fun x : PE => Uo x.1.1 x.1.2.1 x.1.2.2.1 x.1.2.2.2.1
def Jv (a0 : Db) (a1 : Int) : Option Gh :=
 (ob (Aq ((a1, a0.2.2.2.1, ((ln a0.2.2.2.1 : Nat) : Int), 0, ()), ())) (se (fun y4 => (some ((-1), ()))) (fun z5 => (some (z5.1.1, ())))))
def sort_Ints (x0 : Ff) : Option WH := I5 x0
def Zo (t1 : Int) (t7 : Ff) (t8 : Int) (t9 : Int) : Option (X4 ⊕ Cv) :=
 (cond (decide (t9 < t8))
 (ob (Ac t7 t9) fun x3 =>
 (cond (x3 == t1)
 (some (.inr (.inr ((true, ()), ()))))
 (some (.inl ((t1, t7, t8, (wr .i64 (t9 + 1)), ()), ())))))
 (some (.inr (.inl ((), ())))))
def Fq := Kb fun x : X4 => Zo x.1.1 x.1.2.1 x.1.2.2.1 x.1.2.2.2.1
def Kv (a0 : Ff) (a1 : Int) : Option Ie :=
 (ob (Fq ((a1, a0, ((ln a0 : Nat) : Int), 0, ()), ())) (se (fun y4 => (some (false, ()))) (fun z5 => (some (z5.1.1, ())))))
def Vm (t4 : Ff) (t11 : Ff) (t12 : Int) (t13 : Int) : Option (MN ⊕ Nae) :=
 (cond (decide (t13 < t12))
 (cond (Xl (ln t11) t13)
 (ob t11[(tn t13)]? fun x9 =>
 (cond (x9 != 0)
 (ob (Kv t4 x9) fun r10 =>
 (cond (!r10.1)
 (cond (bl (ln t4 + ln ([x9] : List Int)) Mb)
 (some (.inl (((ap t4 ([x9] : List Int)), t11, t12, (wr .i64 (t13 + 1)), ()), ())))
 none)
 (some (.inl ((t4, t11, t12, (wr .i64 (t13 + 1)), ()), ())))))
 (some (.inl ((t4, t11, t12, (wr .i64 (t13 + 1)), ()), ())))))
 none)
 (some (.inr (.inl ((t4, ()), ())))))
def Mo := Kb fun x : MN => Vm x.1.1 x.1.2.1 x.1.2.2.1 x.1.2.2.2.1
def Dq (a0 : Ff) : Option WH :=
 (ob (Wf a0) fun r1 =>
 (ob (sort_Ints r1.1) fun r2 =>
 (ob (Mo (([], r2.1, ((ln r2.1 : Nat) : Int), 0, ()), ())) (se (fun y11 => (some (y11.1.1, ()))) (fun z12 => none)))))
def Ll (t2 : Unit) (t3 : Unit) (t4 : Ff) (t11 : Tc) (t12 : Int) (t13 : Int) (b2 : Ga) (b3 : Ga) : Option (((Unit × (Unit × (Ff × LA))) × Pp) ⊕ PV) :=
 (cond (decide (t13 < t12))
 (ob (Ac t11 t13) fun x5 =>
 (cond (x5.2.1.1 == 2)
 (cond (bl (ln t4 + ln ([x5.2.1.2.1] : List Int)) Mb)
 (some (.inl (((), (), (ap t4 ([x5.2.1.2.1] : List Int)), t11, t12, (wr .i64 (t13 + 1)), ()), (b2, ((Zd .i64 b3.1 x5.2.1.2.2.1), b3.2.1, ()), ()))))
 none)
 (cond (x5.2.1.1 == 8)
 (cond (bl (ln t4 + ln ([x5.2.1.2.1] : List Int)) Mb)
 (some (.inl (((), (), (ap t4 ([x5.2.1.2.1] : List Int)), t11, t12, (wr .i64 (t13 + 1)), ()), (b2, ((Zd .i64 b3.1 x5.2.1.2.2.1), b3.2.1, ()), ()))))
 none)
 (cond (bl (ln t4 + ln ([x5.2.1.2.1] : List Int)) Mb)
 (some (.inl (((), (), (ap t4 ([x5.2.1.2.1] : List Int)), t11, t12, (wr .i64 (t13 + 1)), ()), (b2, b3, ()))))
 none))))
 (some (.inr (.inl (((), (), t4, ()), (b2, b3, ()))))))
def Tm := Kb fun x : ((Unit × (Unit × (Ff × LA))) × Pp) => Ll x.1.1 x.1.2.1 x.1.2.2.1 x.1.2.2.2.1 x.1.2.2.2.2.1 x.1.2.2.2.2.2.1 x.2.1 x.2.2.1
def Ub (a0 : Tc) : Option Om :=
 (ob (Dj a0) fun r1 =>
 (cond (!r1.1)
 (some ((0, [], ()), ()))
 (ob (Tm (((), (), [], a0, ((ln a0 : Nat) : Int), 0, ()), ((0, [], ()), (0, [], ()), ()))) (se (fun y6 => (ob (Dq y6.1.2.2.1) fun r8 =>
 (some ((y6.2.2.1.1, r8.1, ()), ())))) (fun z7 => none)))))
def Ml (t0 : Ff) (t1 : Ff) (t12 : Int) (t13 : Int) : Option (MN ⊕ Cv) :=
 (cond (decide (t13 < t12))
 (ob (Ac t0 t13) fun x5 =>
 (ob (Ac t1 t13) fun x6 =>
 (cond (x5 != x6)
 (some (.inr (.inr ((false, ()), ()))))
 (some (.inl ((t0, t1, t12, (wr .i64 (t13 + 1)), ()), ()))))))
 (some (.inr (.inl ((), ())))))
def Wm := Kb fun x : MN => Ml x.1.1 x.1.2.1 x.1.2.2.1 x.1.2.2.2.1
def Is (a0 : Ff) (a1 : Ff) : Option Ie :=
 (cond (((ln a0 : Nat) : Int) != ((ln a1 : Nat) : Int))
 (some (false, ()))
 (ob (Wm ((a0, a1, ((ln a0 : Nat) : Int), 0, ()), ())) (se (fun y7 => (some (true, ()))) (fun z8 => (some (z8.1.1, ()))))))
def Ik (a0 : Ga) (a1 : Ga) : Option Ie :=
 (cond (a0.1 == a1.1)
 (ob (Is a0.2.1 a1.2.1) fun r1 =>
 (some (r1.1, ())))
 (some (false, ())))
def Nf (a b : Ga) : Bool := (a.1 == b.1) && (a.2.1 == b.2.1)
def R4 (c : T Ed → T Ed → Option Bool) (a b : T Ed) : Option Ie := ob (c a b) fun x => some (x, ())
def Ou (c : T Ed → T Ed → Option Bool) (t2 : Unit) (t5 : (List (Int × ((T .o) × Unit)))) (t8 : (List (Int × ((T .o) × Unit)))) (t9 : Int) (t10 : Int) (b2 : (Int × ((T .o) × Unit))) : Option (((Unit × ((List (Int × ((T .o) × Unit))) × ((List (Int × ((T .o) × Unit))) × Jd))) × ((Int × ((T .o) × Unit)) × Unit)) ⊕ ((((List (Int × ((T .o) × Unit))) × Unit) × Unit) ⊕ Gf)) :=
 (cond (decide (t10 < t9))
 (ob (Ac t8 t10) fun x7 =>
 (ob (R4 c b2 x7) fun r8 =>
 (cond (!r8.1)
 (cond (bl (ln t5 + ln ([x7] : List (Int × ((T .o) × Unit)))) Mb)
 (some (.inl (((), (ap t5 ([x7] : List (Int × ((T .o) × Unit)))), t8, t9, (wr .i64 (t10 + 1)), ()), (x7, ()))))
 none)
 (some (.inl (((), t5, t8, t9, (wr .i64 (t10 + 1)), ()), (x7, ())))))))
 (some (.inr (.inl ((t5, ()), ())))))
def Zn (c : T Ed → T Ed → Option Bool) (x : ((Unit × ((List (Int × ((T .o) × Unit))) × ((List (Int × ((T .o) × Unit))) × Jd))) × ((Int × ((T .o) × Unit)) × Unit))) : Option ((((List (Int × ((T .o) × Unit))) × Unit) × Unit) ⊕ Gf) := Kb (fun x : ((Unit × ((List (Int × ((T .o) × Unit))) × ((List (Int × ((T .o) × Unit))) × Jd))) × ((Int × ((T .o) × Unit)) × Unit)) => Ou c x.1.1 x.1.2.1 x.1.2.2.1 x.1.2.2.2.1 x.1.2.2.2.2.1 x.2.1) x
def CW (c : T Ed → T Ed → Option Bool) (a0 : (Int × ((T .o) × Unit))) (a1 : (List (Int × ((T .o) × Unit)))) : Option ((List (Int × ((T .o) × Unit))) × Unit) :=
 (ob (Zn c (((), ([] : List (Int × ((T .o) × Unit))), a1, ((ln a1 : Nat) : Int), 0, ()), (a0, ()))) (se (fun y9 => (some (y9.1.1, ()))) (fun z10 => none)))
def Ic (a0 : Ga) (a1 : List Ga) : Option Zx := BW Nf a0 a1
def Yt (a0 : Db) (a1 : Int) : Option (Db × Zx) :=
 (ob (Jk a0) fun r1 =>
 (ob (Jv a0 a1) fun r2 =>
 (cond (Re (ln r1.1.2.2.2.1) 0 r2.1)
 (cond (Re (ln r1.1.2.2.2.1) (wr .i64 (r2.1 + 1)) ((ln r1.1.2.2.2.1 : Nat) : Int))
 (cond (bl (ln (Zc r1.1.2.2.2.1 (tn 0) (tn r2.1)) + ln (Zc r1.1.2.2.2.1 (tn (wr .i64 (r2.1 + 1))) (tn ((ln r1.1.2.2.2.1 : Nat) : Int)))) Mb)
 (ob (Ub a0.2.2.2.1) fun r3 =>
 (ob (Ub (ap (Zc r1.1.2.2.2.1 (tn 0) (tn r2.1)) (Zc r1.1.2.2.2.1 (tn (wr .i64 (r2.1 + 1))) (tn ((ln r1.1.2.2.2.1 : Nat) : Int))))) fun r4 =>
 (ob (Ic r3.1 ([r4.1] : List Ga)) fun r5 =>
 (some ((r1.1.1, r1.1.2.1, r1.1.2.2.1, (ap (Zc r1.1.2.2.2.1 (tn 0) (tn r2.1)) (Zc r1.1.2.2.2.1 (tn (wr .i64 (r2.1 + 1))) (tn ((ln r1.1.2.2.2.1 : Nat) : Int)))), r1.1.2.2.2.2), r5.1, ())))))
 none)
 none)
 none)))
def Lw (t5 : Int) (t21 : Tc) (t22 : Int) (t23 : Int) : Option (PE ⊕ U4) :=
 (cond (decide (t23 < t22))
 (ob (Ac t21 t23) fun x16 =>
 (cond (x16.2.1.1 == 3)
 (cond (decide (0 ≤ x16.2.1.2.2.2.1))
 (some (.inl (((Zd .i64 t5 (Ck .i64 1 x16.2.1.2.2.2.1)), t21, t22, (wr .i64 (t23 + 1)), ()), ())))
 none)
 (some (.inl ((t5, t21, t22, (wr .i64 (t23 + 1)), ()), ())))))
 (some (.inr (.inl ((t5, ()), ())))))
def Pg := Kb fun x : PE => Lw x.1.1 x.1.2.1 x.1.2.2.1 x.1.2.2.2.1
def Pn (a0 : Int) (a1 : Tc) : Option Gh :=
 (cond (decide (a0 ≥ 0))
 (cond (decide (a0 ≤ 15))
 (ob (Dj a1) fun r1 =>
 (cond (!r1.1)
 (some ((Zd .i64 1 a0), ()))
 (ob (Pg (((Zd .i64 1 a0), a1, ((ln a1 : Nat) : Int), 0, ()), ())) (se (fun y5 => (some (y5.1.1, ()))) (fun z6 => none)))))
 (ob (Dj a1) fun r7 =>
 (cond (!r7.1)
 (some (1, ()))
 (ob (Pg ((1, a1, ((ln a1 : Nat) : Int), 0, ()), ())) (se (fun y11 => (some (y11.1.1, ()))) (fun z12 => none))))))
 (ob (Dj a1) fun r13 =>
 (cond (!r13.1)
 (some (1, ()))
 (ob (Pg ((1, a1, ((ln a1 : Nat) : Int), 0, ()), ())) (se (fun y17 => (some (y17.1.1, ()))) (fun z18 => none))))))
def Lx (t1 : Int) (t2 : Int) (t3 : Unit) (t7 : Int) (b3 : Ea) : Option (IN ⊕ RE) :=
 (cond (decide (t7 > 0))
 (ob (Qu t1 t7) fun r7 =>
 (cond (r7.1 == 1)
 (ob (Ac b3.2.1 t7) fun x8 =>
 (ob (Ac x8 t2) fun x9 =>
 (cond (x9.1 != 1)
 (some (.inr (.inr ((t7, ()), ()))))
 (some (.inl ((t1, t2, (), (wr .i64 (t7 - 1)), ()), (b3, ())))))))
 (some (.inl ((t1, t2, (), (wr .i64 (t7 - 1)), ()), (b3, ()))))))
 (some (.inr (.inl ((), ())))))
def Rf := Kb fun x : IN => Lx x.1.1 x.1.2.1 x.1.2.2.1 x.1.2.2.2.1 x.2.1
def Gq (a0 : Ea) (a1 : Int) (a2 : Int) : Option Gh :=
 (ob (Rf ((a1, a2, (), (wr .i64 (((ln a0.2.1 : Nat) : Int) - 1)), ()), (a0, ()))) (se (fun y10 => (some (0, ()))) (fun z11 => (some (z11.1.1, ())))))
def XF (a0 : Ya) : Option Dv :=
 (ob (Vl a0) fun r1 =>
 (cond (!r1.1)
 (some (a0, ()))
 (cond (a0.1 == 6)
 (some ((2, 0, a0.2.2.1, 0, ()), ()))
 (some ((3, 0, 0, a0.2.2.2.1, ()), ())))))
def Wo (a0 : Int) : Option Ie :=
 (cond (decide (a0 ≥ 1))
 (cond (decide (a0 ≤ 36))
 (some (true, ()))
 (cond (a0 == 39)
 (some (true, ()))
 (some ((a0 == 42), ()))))
 (cond (a0 == 39)
 (some (true, ()))
 (some ((a0 == 42), ()))))
def Bo (a0 : Db) (a1 : Ya) : Option (Db × Dv) :=
 (cond (a1.1 == 2)
 (cond (a1.2.1 == 0)
 (some (a0, (a1, ())))
 (cond a0.2.2.2.2.2.1
 (ob (Wo a1.2.1) fun r1 =>
 (cond r1.1
 (cond (decide (a1.2.1 ≤ 26))
 (cond ((Sh .i64 (Zd .i64 a1.2.2.1 a0.2.2.2.2.1) 2) == 0)
 (some ((a0.1, a0.2.1, a0.2.2.1, a0.2.2.2.1, 0, r1.1, a0.2.2.2.2.2.2), ((a1.1, a1.2.1, 2, a1.2.2.2), ())))
 (some ((a0.1, a0.2.1, a0.2.2.1, a0.2.2.2.1, 0, r1.1, a0.2.2.2.2.2.2), ((a1.1, a1.2.1, (Zd .i64 a1.2.2.1 a0.2.2.2.2.1), a1.2.2.2), ()))))
 (some ((a0.1, a0.2.1, a0.2.2.1, a0.2.2.2.1, 0, r1.1, a0.2.2.2.2.2.2), ((a1.1, a1.2.1, (Zd .i64 a1.2.2.1 a0.2.2.2.2.1), a1.2.2.2), ()))))
 (some ((a0.1, a0.2.1, a0.2.2.1, a0.2.2.2.1, 0, r1.1, a0.2.2.2.2.2.2), ((a1.1, a1.2.1, (Zd .i64 a1.2.2.1 a0.2.2.2.2.1), a1.2.2.2), ())))))
 (some ((a0.1, a0.2.1, a0.2.2.1, a0.2.2.2.1, 0, false, a0.2.2.2.2.2.2), ((a1.1, a1.2.1, (Zd .i64 a1.2.2.1 a0.2.2.2.2.1), a1.2.2.2), ())))))
 (cond (a1.1 == 4)
 (cond (decide (0 ≤ a1.2.2.2.1))
 (some ((a0.1, a0.2.1, (GD .i64 a0.2.2.1 (Ck .i64 1 a1.2.2.2.1)), a0.2.2.2), (a1, ())))
 none)
 (cond (a1.1 == 5)
 (cond (decide (0 ≤ a1.2.2.2.1))
 (some ((a0.1, a0.2.1, (Sh .i64 (Ck .i64 1 a1.2.2.2.1) 1), a0.2.2.2), (a1, ())))
 none)
 (cond (a1.1 == 8)
 (cond ((Hr .i64 a0.2.2.2.2.1 a1.2.2.1) == a1.2.2.1)
 (some ((a0.1, a0.2.1, a0.2.2.1, a0.2.2.2.1, (Sh .i64 a0.2.2.2.2.1 a1.2.2.1), a0.2.2.2.2.2), (a1, ())))
 (some ((a0.1, a0.2.1, a0.2.2.1, a0.2.2.2.1, (Zd .i64 a0.2.2.2.2.1 a1.2.2.1), a0.2.2.2.2.2), (a1, ()))))
 (cond (a1.1 == 10)
 (some ((a0.1, a0.2.1, a0.2.2.1, a0.2.2.2.1, a0.2.2.2.2.1, (!a0.2.2.2.2.2.1), a0.2.2.2.2.2.2), (a1, ())))
 (some (a0, (a1, ()))))))))
def FD (t4 : Unit) (t5 : Unit) (t6 : Ff) (t15 : Ow) (t16 : Int) (t17 : Int) (b4 : Ga) (b5 : Ga) : Option (((Unit × (Unit × (Ff × GN))) × Pp) ⊕ PV) :=
 (cond (decide (t17 < t16))
 (ob (Ac t15 t17) fun x4 =>
 (cond (bl (ln t6 + ln ([x4.1] : List Int)) Mb)
 (some (.inl (((), (), (ap t6 ([x4.1] : List Int)), t15, t16, (wr .i64 (t17 + 1)), ()), (b4, ((Zd .i64 b5.1 x4.2.1), b5.2.1, ()), ()))))
 none))
 (some (.inr (.inl (((), (), t6, ()), (b4, b5, ()))))))
def Dt := Kb fun x : ((Unit × (Unit × (Ff × GN))) × Pp) => FD x.1.1 x.1.2.1 x.1.2.2.1 x.1.2.2.2.1 x.1.2.2.2.2.1 x.1.2.2.2.2.2.1 x.2.1 x.2.2.1
def Ij (a0 : Ga) (a1 : Ow) : Option Om :=
 (ob (Wf a0.2.1) fun r1 =>
 (ob (Dt (((), (), r1.1, a1, ((ln a1 : Nat) : Int), 0, ()), ((0, [], ()), (a0.1, [], ()), ()))) (se (fun y5 => (ob (Dq y5.1.2.2.1) fun r7 =>
 (some ((y5.2.2.1.1, r7.1, ()), ())))) (fun z6 => none))))
def Uz (t5 : Unit) (t6 : Cg) (t7 : Ow) (t22 : Ni) (t23 : Int) (t24 : Int) (b5 : Ga) : Option (((Unit × (Cg × LN)) × Om) ⊕ OV) :=
 (cond (decide (t24 < t23))
 (ob (Ac t22 t24) fun x25 =>
 (cond (x25.1 == 0)
 (cond (bl (ln ([] : List Jd) + ln t7) Mb)
 (cond (bl (ln (ap [] t7) + ln ([x25.2] : List Jd)) Mb)
 (ob (Ij b5 (ap (ap [] t7) ([x25.2] : List Jd))) fun r26 =>
 (cond (bl (ln t6 + ln ([r26.1] : List Ga)) Mb)
 (ob (Ij b5 t7) fun r27 =>
 (cond (bl (ln (ap t6 ([r26.1] : List Ga)) + ln ([r27.1] : List Ga)) Mb)
 (some (.inl (((), (ap (ap t6 ([r26.1] : List Ga)) ([r27.1] : List Ga)), t7, t22, t23, (wr .i64 (t24 + 1)), ()), (b5, ()))))
 none))
 none))
 none)
 none)
 (cond (x25.1 == 1)
 (cond (bl (ln t7 + ln ([x25.2] : List Jd)) Mb)
 (ob (Ij b5 (ap t7 ([x25.2] : List Jd))) fun r28 =>
 (cond (bl (ln t6 + ln ([r28.1] : List Ga)) Mb)
 (some (.inl (((), (ap t6 ([r28.1] : List Ga)), (ap t7 ([x25.2] : List Jd)), t22, t23, (wr .i64 (t24 + 1)), ()), (b5, ()))))
 none))
 none)
 (cond (x25.1 == 2)
 (ob (Dz t7 x25.2) fun r29 =>
 (cond (Re (ln t7) 0 r29.1)
 (cond (Re (ln t7) (wr .i64 (r29.1 + 1)) ((ln t7 : Nat) : Int))
 (cond (bl (ln (Zc t7 (tn 0) (tn r29.1)) + ln (Zc t7 (tn (wr .i64 (r29.1 + 1))) (tn ((ln t7 : Nat) : Int)))) Mb)
 (ob (Ij b5 (ap (Zc t7 (tn 0) (tn r29.1)) (Zc t7 (tn (wr .i64 (r29.1 + 1))) (tn ((ln t7 : Nat) : Int))))) fun r30 =>
 (cond (bl (ln t6 + ln ([r30.1] : List Ga)) Mb)
 (some (.inl (((), (ap t6 ([r30.1] : List Ga)), (ap (Zc t7 (tn 0) (tn r29.1)) (Zc t7 (tn (wr .i64 (r29.1 + 1))) (tn ((ln t7 : Nat) : Int)))), t22, t23, (wr .i64 (t24 + 1)), ()), (b5, ()))))
 none))
 none)
 none)
 none))
 (ob (Ij b5 t7) fun r31 =>
 (cond (bl (ln t6 + ln ([r31.1] : List Ga)) Mb)
 (some (.inl (((), (ap t6 ([r31.1] : List Ga)), t7, t22, t23, (wr .i64 (t24 + 1)), ()), (b5, ()))))
 none))))))
 (some (.inr (.inl ((t6, ()), ())))))
def Cq := Kb fun x : ((Unit × (Cg × LN)) × Om) => Uz x.1.1 x.1.2.1 x.1.2.2.1 x.1.2.2.2.1 x.1.2.2.2.2.1 x.1.2.2.2.2.2.1 x.2.1
def Kr (a0 : Tc) (a1 : Ni) : Option Zx :=
 (ob (Dj a0) fun r1 =>
 (cond (!r1.1)
 (some ([], ()))
 (ob (BD a1) fun r2 =>
 (cond (!r2.1)
 (some ([], ()))
 (ob (Ub a0) fun r3 =>
 (ob (Cq (((), [], [], a1, ((ln a1 : Nat) : Int), 0, ()), (r3.1, ()))) (se (fun y32 => (some (y32.1.1, ()))) (fun z33 => none))))))))
def Uw (a0 : Db) (a1 : Int) (a2 : Bool) : Option (Db × Zx) :=
 (ob (Jk a0) fun r1 =>
 (ob (Pn a0.2.2.1 a0.2.2.2.1) fun r2 =>
 (ob (Gq a0.1 r2.1 a1) fun r3 =>
 (ob (Ac a0.1.2.1 r3.1) fun x4 =>
 (ob (Ac x4 a1) fun x5 =>
 (cond a2
 (ob (XF x5) fun r6 =>
 (ob (Bo r1.1 r6.1) fun r7 =>
 (cond (bl (ln r7.1.2.2.2.1 + ln ([(a1, r7.2.1, ())] : List Qa)) Mb)
 (cond (r7.2.1.1 == 9)
 (cond (decide (r7.2.1.2.2.2.1 < ((ln a0.2.1 : Nat) : Int)))
 (ob (Ac a0.2.1 r7.2.1.2.2.2.1) fun x8 =>
 (ob (Kr (ap r7.1.2.2.2.1 ([(a1, r7.2.1, ())] : List Qa)) x8) fun r9 =>
 (ob (Ub (ap r7.1.2.2.2.1 ([(a1, r7.2.1, ())] : List Qa))) fun r10 =>
 (cond (bl (ln r9.1 + ln ([r10.1] : List Ga)) Mb)
 (ob (Ub a0.2.2.2.1) fun r11 =>
 (ob (Ic r11.1 (ap r9.1 ([r10.1] : List Ga))) fun r12 =>
 (some ((r7.1.1, r7.1.2.1, r7.1.2.2.1, (ap r7.1.2.2.2.1 ([(a1, r7.2.1, ())] : List Qa)), r7.1.2.2.2.2), r12.1, ()))))
 none))))
 (ob (Ub (ap r7.1.2.2.2.1 ([(a1, r7.2.1, ())] : List Qa))) fun r13 =>
 (cond (bl (ln ([] : List Ga) + ln ([r13.1] : List Ga)) Mb)
 (ob (Ub a0.2.2.2.1) fun r14 =>
 (ob (Ic r14.1 (ap [] ([r13.1] : List Ga))) fun r15 =>
 (some ((r7.1.1, r7.1.2.1, r7.1.2.2.1, (ap r7.1.2.2.2.1 ([(a1, r7.2.1, ())] : List Qa)), r7.1.2.2.2.2), r15.1, ()))))
 none)))
 (ob (Ub (ap r7.1.2.2.2.1 ([(a1, r7.2.1, ())] : List Qa))) fun r16 =>
 (cond (bl (ln ([] : List Ga) + ln ([r16.1] : List Ga)) Mb)
 (ob (Ub a0.2.2.2.1) fun r17 =>
 (ob (Ic r17.1 (ap [] ([r16.1] : List Ga))) fun r18 =>
 (some ((r7.1.1, r7.1.2.1, r7.1.2.2.1, (ap r7.1.2.2.2.1 ([(a1, r7.2.1, ())] : List Qa)), r7.1.2.2.2.2), r18.1, ()))))
 none)))
 none)))
 (ob (Tw x5) fun r19 =>
 (ob (Bo r1.1 r19.1) fun r20 =>
 (cond (bl (ln r20.1.2.2.2.1 + ln ([(a1, r20.2.1, ())] : List Qa)) Mb)
 (cond (r20.2.1.1 == 9)
 (cond (decide (r20.2.1.2.2.2.1 < ((ln a0.2.1 : Nat) : Int)))
 (ob (Ac a0.2.1 r20.2.1.2.2.2.1) fun x21 =>
 (ob (Kr (ap r20.1.2.2.2.1 ([(a1, r20.2.1, ())] : List Qa)) x21) fun r22 =>
 (ob (Ub (ap r20.1.2.2.2.1 ([(a1, r20.2.1, ())] : List Qa))) fun r23 =>
 (cond (bl (ln r22.1 + ln ([r23.1] : List Ga)) Mb)
 (ob (Ub a0.2.2.2.1) fun r24 =>
 (ob (Ic r24.1 (ap r22.1 ([r23.1] : List Ga))) fun r25 =>
 (some ((r20.1.1, r20.1.2.1, r20.1.2.2.1, (ap r20.1.2.2.2.1 ([(a1, r20.2.1, ())] : List Qa)), r20.1.2.2.2.2), r25.1, ()))))
 none))))
 (ob (Ub (ap r20.1.2.2.2.1 ([(a1, r20.2.1, ())] : List Qa))) fun r26 =>
 (cond (bl (ln ([] : List Ga) + ln ([r26.1] : List Ga)) Mb)
 (ob (Ub a0.2.2.2.1) fun r27 =>
 (ob (Ic r27.1 (ap [] ([r26.1] : List Ga))) fun r28 =>
 (some ((r20.1.1, r20.1.2.1, r20.1.2.2.1, (ap r20.1.2.2.2.1 ([(a1, r20.2.1, ())] : List Qa)), r20.1.2.2.2.2), r28.1, ()))))
 none)))
 (ob (Ub (ap r20.1.2.2.2.1 ([(a1, r20.2.1, ())] : List Qa))) fun r29 =>
 (cond (bl (ln ([] : List Ga) + ln ([r29.1] : List Ga)) Mb)
 (ob (Ub a0.2.2.2.1) fun r30 =>
 (ob (Ic r30.1 (ap [] ([r29.1] : List Ga))) fun r31 =>
 (some ((r20.1.1, r20.1.2.1, r20.1.2.2.1, (ap r20.1.2.2.2.1 ([(a1, r20.2.1, ())] : List Qa)), r20.1.2.2.2.2), r31.1, ()))))
 none)))
 none)))))))))
def Kl (t1 : Unit) (t14 : Ff) (t15 : Int) (t16 : Int) (b1 : Ga) : Option (((Unit × QE) × Om) ⊕ Cv) :=
 (cond (decide (t16 < t15))
 (ob (Ac t14 t16) fun x7 =>
 (ob (Vk x7) fun r8 =>
 (cond (!r8.1)
 (some (.inr (.inr ((false, ()), ()))))
 (cond (decide (t16 > 0))
 (ob (Ac b1.2.1 (wr .i64 (t16 - 1))) fun x9 =>
 (cond (decide (x9 ≥ x7))
 (some (.inr (.inr ((false, ()), ()))))
 (some (.inl (((), t14, t15, (wr .i64 (t16 + 1)), ()), (b1, ()))))))
 (some (.inl (((), t14, t15, (wr .i64 (t16 + 1)), ()), (b1, ()))))))))
 (some (.inr (.inl ((), ())))))
def Sm := Kb fun x : ((Unit × QE) × Om) => Kl x.1.1 x.1.2.1 x.1.2.2.1 x.1.2.2.2.1 x.2.1
def Es (a0 : Ga) : Option Ie :=
 (cond (decide (a0.1 < 0))
 (some (false, ()))
 (cond (decide (a0.1 > 15))
 (some (false, ()))
 (ob (Sm (((), a0.2.1, ((ln a0.2.1 : Nat) : Int), 0, ()), (a0, ()))) (se (fun y10 => (some (true, ()))) (fun z11 => (some (z11.1.1, ())))))))
def DG (a0 : Ya) : Option Dv :=
 (ob (Kj a0) fun r1 =>
 (cond (!r1.1)
 (some (a0, ()))
 (cond (a0.1 == 6)
 (some ((2, 0, a0.2.2.1, 0, ()), ()))
 (some ((3, 0, 0, a0.2.2.2.1, ()), ())))))
def Ux (t1 : Int) (t2 : Int) (t3 : Unit) (t7 : Int) (b3 : Ea) : Option (IN ⊕ RE) :=
 (cond (decide (t7 > 0))
 (cond (decide (0 ≤ t7))
 (cond ((Hr .i64 (CB .i64 t1 t7) 1) == 1)
 (ob (Ac b3.2.1 t7) fun x7 =>
 (ob (Ac x7 t2) fun x8 =>
 (cond (x8.1 != 1)
 (some (.inr (.inr ((t7, ()), ()))))
 (some (.inl ((t1, t2, (), (wr .i64 (t7 - 1)), ()), (b3, ())))))))
 (some (.inl ((t1, t2, (), (wr .i64 (t7 - 1)), ()), (b3, ())))))
 none)
 (some (.inr (.inl ((), ())))))
def Sf := Kb fun x : IN => Ux x.1.1 x.1.2.1 x.1.2.2.1 x.1.2.2.2.1 x.2.1
def Fu (a0 : Ea) (a1 : Int) (a2 : Int) : Option Gh :=
 (ob (Ji a0) fun r1 =>
 (cond (!r1.1)
 (some ((-1), ()))
 (ob (He a2 0 (wr .i64 (a0.1 - 1))) fun r2 =>
 (cond (!r2.1)
 (some ((-1), ()))
 (ob (Sf ((a1, a2, (), (wr .i64 (((ln a0.2.1 : Nat) : Int) - 1)), ()), (a0, ()))) (se (fun y9 => (some (0, ()))) (fun z10 => (some (z10.1.1, ())))))))))
def Vn (a0 : Ea) (a1 : Int) (a2 : Int) : Option Dv :=
 (ob (Fu a0 a1 a2) fun r1 =>
 (cond (decide (r1.1 < 0))
 (some ((0, 0, 0, 0, ()), ()))
 (ob (Ac a0.2.1 r1.1) fun x2 =>
 (ob (Ac x2 a2) fun x3 =>
 (some (x3, ()))))))
def Jp (t1 : Unit) (t2 : Unit) (t3 : Unit) (t4 : Int) (b1 : Ea) (b2 : Ea) (b3 : Ea) : Option (((Unit × Rw) × (Ea × SE)) ⊕ (((Unit × Gf) × SE) ⊕ Gf)) :=
 (cond (decide (t4 < ((ln b1.2.1 : Nat) : Int)))
 (ob (Ac b1.2.1 t4) fun x4 =>
 (cond (bl (ln ([] : List Ya) + ln x4) Mb)
 (cond (bl (ln b3.2.1 + ln ([(ap [] x4)] : List Qm)) Mb)
 (some (.inl (((), (), (), (wr .i64 (t4 + 1)), ()), (b1, b2, (b3.1, (ap b3.2.1 ([(ap [] x4)] : List Qm)), ()), ()))))
 none)
 none))
 (some (.inr (.inl (((), (), ()), (b2, b3, ()))))))
def Pq := Kb fun x : ((Unit × Rw) × (Ea × SE)) => Jp x.1.1 x.1.2.1 x.1.2.2.1 x.1.2.2.2.1 x.2.1 x.2.2.1 x.2.2.2.1
def Nv (a0 : Ea) : Option Pm :=
 (ob (Pq (((), (), (), 0, ()), (a0, (0, [], ()), (a0.1, [], ()), ()))) (se (fun y5 => (some (y5.2.2.1, ()))) (fun z6 => none)))
def Lo (t0 : Int) (t3 : Qs) (t12 : Yx) (t13 : Int) (t14 : Int) : Option (((Int × (Qs × (Yx × Jd))) × Unit) ⊕ ((XH × Unit) ⊕ Gf)) :=
 (cond (decide (t14 < t13))
 (cond (Xl (ln t12) t14)
 (ob t12[(tn t14)]? fun x5 =>
 (ob (Qu t0 t14) fun r6 =>
 (cond (r6.1 == 1)
 (cond (bl (ln t3 + ln x5) Mb)
 (some (.inl ((t0, (ap t3 x5), t12, t13, (wr .i64 (t14 + 1)), ()), ())))
 none)
 (some (.inl ((t0, t3, t12, t13, (wr .i64 (t14 + 1)), ()), ()))))))
 none)
 (some (.inr (.inl ((t3, ()), ())))))
def Sk := Kb fun x : ((Int × (Qs × (Yx × Jd))) × Unit) => Lo x.1.1 x.1.2.1 x.1.2.2.1 x.1.2.2.2.1 x.1.2.2.2.2.1
def To (a0 : Int) : Option XH :=
 (cond (decide (a0 < 1))
 (some ([], ()))
 (cond (decide (a0 > 15))
 (some ([], ()))
 (ob (Sk ((a0, [], ([([67] : List UInt8), ([83] : List UInt8), ([65] : List UInt8), ([71] : List UInt8)] : List Qs), ((ln ([([67] : List UInt8), ([83] : List UInt8), ([65] : List UInt8), ([71] : List UInt8)] : List Qs) : Nat) : Int), 0, ()), ())) (se (fun y7 => (some (y7.1.1, ()))) (fun z8 => none)))))
def strings_Join (a : List Qs) (b : List UInt8) : Option (List UInt8 × Unit) := SN a b
def Hs (a0 : Yx) (a1 : Qs) : Option XH :=
 (ob (strings_Join a0 a1) fun r1 =>
 (some (r1.1, ())))
def Ci (t1 : Unit) (t3 : Yx) (t10 : Ff) (t11 : Int) (t12 : Int) (b1 : Ga) : Option (((Unit × (Yx × QE)) × Om) ⊕ (((Unit × Oae) × Om) ⊕ Gf)) :=
 (cond (decide (t12 < t11))
 (ob (Ac t10 t12) fun x8 =>
 (ob (Ds x8) fun r9 =>
 (cond (bl (ln t3 + ln ([r9.1] : List Qs)) Mb)
 (some (.inl (((), (ap t3 ([r9.1] : List Qs)), t10, t11, (wr .i64 (t12 + 1)), ()), (b1, ()))))
 none)))
 (some (.inr (.inl (((), t3, ()), (b1, ()))))))
def Pj := Kb fun x : ((Unit × (Yx × QE)) × Om) => Ci x.1.1 x.1.2.1 x.1.2.2.1 x.1.2.2.2.1 x.1.2.2.2.2.1 x.2.1
def Jl (a0 : Ga) : Option XH :=
 (ob (Es a0) fun r1 =>
 (cond (!r1.1)
 (some ([], ()))
 (ob (Pj (((), [], a0.2.1, ((ln a0.2.1 : Nat) : Int), 0, ()), (a0, ()))) (se (fun y10 => (ob (To y10.2.1.1) fun r12 =>
 (cond (bl (ln r12.1 + ln ([58] : List UInt8)) Mb)
 (ob (Hs y10.1.2.1 ([44] : List UInt8)) fun r13 =>
 (cond (bl (ln (ap r12.1 ([58] : List UInt8)) + ln r13.1) Mb)
 (some ((ap (ap r12.1 ([58] : List UInt8)) r13.1), ()))
 none))
 none))) (fun z11 => none)))))
def Di (t0 : Unit) (t3 : Unit) (t7 : Unit) (t8 : Hl) (t12 : Unit) (t14 : Qs) (t43 : Int) (t44 : Int) (t61 : Cg) (t62 : Int) (t63 : Int) (b500000 : Io) (b3 : Cd) (b7 : Db) (b12 : Db) : Option (V4 ⊕ (((Unit × (Unit × (Unit × (Hl × (Unit × (Qs × Jd)))))) × (Io × (Cd × Bv))) ⊕ Gf)) :=
 (cond (decide (t63 < t62))
 (cond (Xl (ln t61) t63)
 (ob t61[(tn t63)]? fun x37 =>
 (ob (Jl x37) fun r38 =>
 (cond (bl (ln r38.1 + ln ([59] : List UInt8)) Mb)
 (cond (bl (ln t14 + ln (ap r38.1 ([59] : List UInt8))) Mb)
 (some (.inl (((), (), (), t8, (), (ap t14 (ap r38.1 ([59] : List UInt8))), t43, t44, (ls t61 (tn t63) x37), t62, (wr .i64 (t63 + 1)), ()), ((b500000.1, b500000.2.1, ()), b3, b7, ((b12.1.1, b12.1.2.1, ()), b12.2), ()))))
 none)
 none)))
 none)
 (some (.inr (.inl (((), (), (), t8, (), t14, t43, t44, ()), ((b500000.1, b500000.2.1, ()), b3, b7, ((b12.1.1, b12.1.2.1, ()), b12.2), ()))))))
def Qg := Kb fun x : V4 => Di x.1.1 x.1.2.1 x.1.2.2.1 x.1.2.2.2.1 x.1.2.2.2.2.1 x.1.2.2.2.2.2.1 x.1.2.2.2.2.2.2.1 x.1.2.2.2.2.2.2.2.1 x.1.2.2.2.2.2.2.2.2.1 x.1.2.2.2.2.2.2.2.2.2.1 x.1.2.2.2.2.2.2.2.2.2.2.1 x.2.1 x.2.2.1 x.2.2.2.1 x.2.2.2.2.1
def Si (t0 : Unit) (t3 : Unit) (t7 : Unit) (t8 : Hl) (t43 : Int) (t44 : Int) (b500000 : Io) (b3 : Cd) (b7 : Db) : Option (Y4 ⊕ (((Unit × (Unit × (Hl × Unit))) × (Io × (Cd × Unit))) ⊕ Gf)) :=
 (cond (decide (t44 < t43))
 (ob (Uw b7 t44 false) fun r31 =>
 (ob (Yt r31.1 t44) fun r32 =>
 (cond (bl (ln r31.2.1 + ln r32.2.1) Mb)
 (ob (Qg (((), (), (), t8, (), [], t43, t44, (ap r31.2.1 r32.2.1), ((ln (ap r31.2.1 r32.2.1) : Nat) : Int), 0, ()), ((b500000.1, b500000.2.1, ()), b3, b7, r32.1, ()))) (se (fun y39 => (cond (bl (ln y39.1.2.2.2.1 + ln ([((y39.2.2.2.2.1.2.2.1, y39.2.2.2.2.1.2.2.2.2.1, y39.2.2.2.2.1.2.2.2.2.2.1, ()), y39.1.2.2.2.2.2.1, ())] : List Sl)) Mb)
 (some (.inl (((), (), (), (ap y39.1.2.2.2.1 ([((y39.2.2.2.2.1.2.2.1, y39.2.2.2.2.1.2.2.2.2.1, y39.2.2.2.2.1.2.2.2.2.2.1, ()), y39.1.2.2.2.2.2.1, ())] : List Sl)), y39.1.2.2.2.2.2.2.1, (wr .i64 (y39.1.2.2.2.2.2.2.2.1 + 1)), ()), ((y39.2.1.1, y39.2.1.2.1, ()), y39.2.2.1, y39.2.2.2.1, ()))))
 none)) (fun z40 => (some (.inr (.inr ((), ())))))))
 none)))
 (some (.inr (.inl (((), (), t8, ()), ((b500000.1, b500000.2.1, ()), b3, ()))))))
def Bk := Kb fun x : Y4 => Si x.1.1 x.1.2.1 x.1.2.2.1 x.1.2.2.2.1 x.1.2.2.2.2.1 x.1.2.2.2.2.2.1 x.2.1 x.2.2.1 x.2.2.2.1
def Qj (a0 : Ea) (a1 : ZH) (a2 : Cd) : Option (Ea × (ZH × Hl)) :=
 (cond (Rd Pc a1 a2).isSome
 (some (a0, (a1, ((Rd Pc a1 a2).getD []))))
 (ob (Bk (((), (), (), [], a0.1, 0, ()), ((a0, a1, ()), a2, (a0, [], a2.1, [], a2.2.1, a2.2.2.1, ()), ()))) (se (fun y41 => (some (y41.2.1.1, ((Uh Pc y41.2.1.2.1 y41.2.2.1 y41.1.2.2.1), y41.1.2.2.1)))) (fun z42 => none))))
def Uf (t2 : Unit) (t6 : Unit) (t7 : Unit) (t8 : MA) (t9 : (List Nc)) (t10 : Unit) (t11 : Hl) (t12 : Hl) (t64 : Int) (t65 : Int) (b2 : Ea) (b6 : Io) (b7 : Io) (b10 : Nc) : Option (EN ⊕ (((Unit × (Unit × (Unit × (MA × ((List Nc) × (Unit × (Hl × (Hl × Unit)))))))) × (Ea × (Io × (Io × (Nc × Unit))))) ⊕ NN)) :=
 (cond (decide (t65 < t64))
 (ob (Ac t11 t65) fun x62 =>
 (ob (Ac t12 t65) fun x63 =>
 (cond (x62.2.1 != x63.2.1)
 (ob (Wf ((Rd Nd t8 b10).getD [])) fun r64 =>
 (cond (bl (ln r64.1 + ln ([t65] : List Int)) Mb)
 (some (.inr (.inr (((ap r64.1 ([t65] : List Int)), true, ()), ()))))
 none))
 (some (.inl (((), (), (), t8, t9, (), t11, t12, t64, (wr .i64 (t65 + 1)), ()), (b2, (b6.1, b6.2.1, ()), (b7.1, b7.2.1, ()), b10, ())))))))
 (some (.inr (.inl (((), (), (), t8, t9, (), t11, t12, ()), (b2, (b6.1, b6.2.1, ()), (b7.1, b7.2.1, ()), b10, ()))))))
def Ig := Kb fun x : EN => Uf x.1.1 x.1.2.1 x.1.2.2.1 x.1.2.2.2.1 x.1.2.2.2.2.1 x.1.2.2.2.2.2.1 x.1.2.2.2.2.2.2.1 x.1.2.2.2.2.2.2.2.1 x.1.2.2.2.2.2.2.2.2.1 x.1.2.2.2.2.2.2.2.2.2.1 x.2.1 x.2.2.1 x.2.2.2.1 x.2.2.2.2.1
def Th (t2 : Unit) (t6 : Unit) (t7 : Unit) (t8 : MA) (t9 : (List Nc)) (t10 : Unit) (t11 : Hl) (t12 : Hl) (t88 : Int) (t89 : Int) (b2 : Ea) (b6 : Io) (b7 : Io) (b10 : Nc) : Option (EN ⊕ (LV ⊕ Gf)) :=
 (cond (decide (t89 < t88))
 (ob (Ac t11 t89) fun x73 =>
 (ob (Ac t12 t89) fun x74 =>
 (cond (!(Rd Nd t8 (x73.1, x74.1, ())).isSome)
 (ob (Wf ((Rd Nd t8 b10).getD [])) fun r75 =>
 (cond (bl (ln r75.1 + ln ([t89] : List Int)) Mb)
 (cond (bl (ln t9 + ln ([(x73.1, x74.1, ())] : List Nc)) Mb)
 (some (.inl (((), (), (), (Uh Nd t8 (x73.1, x74.1, ()) (ap r75.1 ([t89] : List Int))), (ap t9 ([(x73.1, x74.1, ())] : List Nc)), (), t11, t12, t88, (wr .i64 (t89 + 1)), ()), (b2, (b6.1, b6.2.1, ()), (b7.1, b7.2.1, ()), b10, ()))))
 none)
 none))
 (some (.inl (((), (), (), t8, t9, (), t11, t12, t88, (wr .i64 (t89 + 1)), ()), (b2, (b6.1, b6.2.1, ()), (b7.1, b7.2.1, ()), b10, ())))))))
 (some (.inr (.inl (((), (), (), t8, t9, ()), (b2, (b6.1, b6.2.1, ()), (b7.1, b7.2.1, ()), ()))))))
def Jg := Kb fun x : EN => Th x.1.1 x.1.2.1 x.1.2.2.1 x.1.2.2.2.1 x.1.2.2.2.2.1 x.1.2.2.2.2.2.1 x.1.2.2.2.2.2.2.1 x.1.2.2.2.2.2.2.2.1 x.1.2.2.2.2.2.2.2.2.1 x.1.2.2.2.2.2.2.2.2.2.1 x.2.1 x.2.2.1 x.2.2.2.1 x.2.2.2.2.1
def Bi (t2 : Unit) (t6 : Unit) (t7 : Unit) (t8 : MA) (t9 : (List Nc)) (b2 : Ea) (b6 : Io) (b7 : Io) : Option (LV ⊕ (Gf ⊕ NN)) :=
 (cond (decide (((ln t9 : Nat) : Int) > 0))
 (cond (Xl (ln t9) 0)
 (ob t9[(tn 0)]? fun x53 =>
 (cond (Re (ln t9) 1 ((ln t9 : Nat) : Int))
 (ob (Qj b6.1 b6.2.1 x53.1) fun r54 =>
 (ob (Qj b7.1 b7.2.1 x53.2.1) fun r55 =>
 (ob (Ig (((), (), (), t8, (Zc t9 (tn 1) (tn ((ln t9 : Nat) : Int))), (), r54.2.2, r55.2.2, b2.1, 0, ()), (b2, (r54.1, r54.2.1, ()), (r55.1, r55.2.1, ()), x53, ()))) (se (fun y65 => (ob (Jg (((), (), (), y65.1.2.2.2.1, y65.1.2.2.2.2.1, (), y65.1.2.2.2.2.2.2.1, y65.1.2.2.2.2.2.2.2.1, y65.2.1.1, 0, ()), (y65.2.1, (y65.2.2.1.1, y65.2.2.1.2.1, ()), (y65.2.2.2.1.1, y65.2.2.2.1.2.1, ()), y65.2.2.2.2.1, ()))) (se (fun y76 => (some (.inl (((), (), (), y76.1.2.2.2.1, y76.1.2.2.2.2.1, ()), (y76.2.1, (y76.2.2.1.1, y76.2.2.1.2.1, ()), (y76.2.2.2.1.1, y76.2.2.2.1.2.1, ()), ()))))) (fun z77 => none)))) (fun z66 => (some (.inr (.inr ((z66.1.1, z66.1.2.1, ()), ())))))))))
 none))
 none)
 (some (.inr (.inl ((), ())))))
def Le := Kb fun x : LV => Bi x.1.1 x.1.2.1 x.1.2.2.1 x.1.2.2.2.1 x.1.2.2.2.2.1 x.2.1 x.2.2.1 x.2.2.2.1
def Il (a0 : Ea) (a1 : Ea) : Option (Ff × Ie) :=
 (ob (Hi a0) fun r1 =>
 (cond (!r1.1)
 (some ([], false, ()))
 (ob (Hi a1) fun r2 =>
 (cond (!r2.1)
 (some ([], false, ()))
 (cond (a0.1 != a1.1)
 (some ([], false, ()))
 (cond (decide (a0.1 > 6))
 (some ([], false, ()))
 (ob (Le (((), (), (), (Uh Nd ([] : MA) ((0, 0, false, ()), (0, 0, false, ()), ()) []), ([((0, 0, false, ()), (0, 0, false, ()), ())] : List Nc), ()), (a0, (a0, ([] : ZH), ()), (a1, ([] : ZH), ()), ()))) (se (fun y78 => (some ([], false, ()))) (fun z79 => (some (z79.1.1, z79.1.2.1, ())))))))))))
def On (a0 : Ea) (a1 : Ea) : Option Ie :=
 (ob (Hi a0) fun r1 =>
 (cond (!r1.1)
 (some (false, ()))
 (ob (Hi a1) fun r2 =>
 (cond (!r2.1)
 (some (false, ()))
 (cond (a0.1 != a1.1)
 (some (false, ()))
 (cond (decide (a0.1 > 6))
 (some (false, ()))
 (ob (Il a0 a1) fun r3 =>
 (some ((!r3.2.1), ())))))))))
def Gp (t0 : Tc) (t3 : Int) (t4 : Int) : Option ((LA × Unit) ⊕ Cv) :=
 (cond (decide (t4 < ((ln t0 : Nat) : Int)))
 (ob (Ac t0 t4) fun x15 =>
 (ob (Ac t0 t4) fun x16 =>
 (ob (He x16.1 0 31) fun r17 =>
 (cond (!r17.1)
 (some (.inr (.inr ((false, ()), ()))))
 (ob (Ac t0 t4) fun x18 =>
 (cond (decide (0 ≤ x18.1))
 (cond ((Hr .i64 (CB .i64 t3 x18.1) 1) == 1)
 (some (.inr (.inr ((false, ()), ()))))
 (ob (Yg x15.2.1) fun r19 =>
 (cond (!r19.1)
 (some (.inr (.inr ((false, ()), ()))))
 (cond (x15.2.1.1 == 1)
 (some (.inr (.inr ((false, ()), ()))))
 (ob (Kj x15.2.1) fun r20 =>
 (cond r20.1
 (some (.inr (.inr ((false, ()), ()))))
 (ob (Ac t0 t4) fun x21 =>
 (cond (decide (0 ≤ x21.1))
 (some (.inl ((t0, (Zd .i64 t3 (Ck .i64 1 x21.1)), (wr .i64 (t4 + 1)), ()), ())))
 none))))))))
 none))))))
 (some (.inr (.inl ((), ())))))
def Mq := Kb fun x : (LA × Unit) => Gp x.1.1 x.1.2.1 x.1.2.2.1
def Bl (a0 : Tc) : Option Ie :=
 (ob (Mq ((a0, 0, 0, ()), ())) (se (fun y22 => (some (true, ()))) (fun z23 => (some (z23.1.1, ())))))
def Kp (t0 : Tc) (t3 : Unit) (t5 : Int) (b3 : Be) : Option (((Tc × Nm) × (Be × Unit)) ⊕ RE) :=
 (cond (decide (t5 < ((ln t0 : Nat) : Int)))
 (ob (Ac t0 t5) fun x5 =>
 (cond (x5.2.1.2.1 == b3.2.1)
 (ob (Ac t0 t5) fun x6 =>
 (cond (x6.2.1.2.2.1 == b3.2.2.1)
 (some (.inr (.inr ((t5, ()), ()))))
 (some (.inl ((t0, (), (wr .i64 (t5 + 1)), ()), (b3, ()))))))
 (some (.inl ((t0, (), (wr .i64 (t5 + 1)), ()), (b3, ()))))))
 (some (.inr (.inl ((), ())))))
def Qq := Kb fun x : ((Tc × Nm) × (Be × Unit)) => Kp x.1.1 x.1.2.1 x.1.2.2.1 x.2.1
def Eo (a0 : Tc) (a1 : Be) : Option Gh :=
 (ob (Qq ((a0, (), 0, ()), (a1, ()))) (se (fun y7 => (some ((-1), ()))) (fun z8 => (some (z8.1.1, ())))))
def Yn (a0 : Be) : Option Dv :=
 (some ((2, a0.2.1, a0.2.2.1, 0, ()), ()))
def Ze (a0 : Tc) (a1 : Int) : Option (Tc × Unit) :=
 (cond (Re (ln a0) 0 a1)
 (cond (bl (ln ([] : List Qa) + ln (Zc a0 (tn 0) (tn a1))) Mb)
 (cond (Re (ln a0) (wr .i64 (a1 + 1)) ((ln a0 : Nat) : Int))
 (cond (bl (ln (ap [] (Zc a0 (tn 0) (tn a1))) + ln (Zc a0 (tn (wr .i64 (a1 + 1))) (tn ((ln a0 : Nat) : Int)))) Mb)
 (some ((ap (ap [] (Zc a0 (tn 0) (tn a1))) (Zc a0 (tn (wr .i64 (a1 + 1))) (tn ((ln a0 : Nat) : Int)))), ()))
 none)
 none)
 none)
 none)
def Wj (t0 : Ni) (t3 : Tc) (t4 : Int) : Option (((Ni × (Tc × Gh)) × Unit) ⊕ (((Ni × (Tc × Unit)) × Unit) ⊕ Pw)) :=
 (cond (decide (t4 < ((ln t0 : Nat) : Int)))
 (ob (Ac t0 t4) fun x15 =>
 (ob (Eo t3 x15) fun r16 =>
 (ob (He x15.1 0 2) fun r17 =>
 (cond (!r17.1)
 (some (.inr (.inr ((false, ()), ()))))
 (ob (Yn x15) fun r18 =>
 (ob (Yg r18.1) fun r19 =>
 (cond (!r19.1)
 (some (.inr (.inr ((false, ()), ()))))
 (cond ((x15.1 == 2) != (decide (r16.1 ≥ 0)))
 (some (.inr (.inr ((false, ()), ()))))
 (cond (x15.1 == 1)
 (ob (Yn x15) fun r20 =>
 (cond (bl (ln t3 + ln ([(0, r20.1, ())] : List Qa)) Mb)
 (some (.inl ((t0, (ap t3 ([(0, r20.1, ())] : List Qa)), (wr .i64 (t4 + 1)), ()), ())))
 none))
 (cond (x15.1 == 2)
 (ob (Ze t3 r16.1) fun r21 =>
 (some (.inl ((t0, r21.1, (wr .i64 (t4 + 1)), ()), ()))))
 (some (.inl ((t0, t3, (wr .i64 (t4 + 1)), ()), ())))))))))))))
 (some (.inr (.inl ((t0, t3, ()), ())))))
def No := Kb fun x : ((Ni × (Tc × Gh)) × Unit) => Wj x.1.1 x.1.2.1 x.1.2.2.1
def Nq (a0 : Ni) : Option Ie :=
 (ob (No ((a0, [], 0, ()), ())) (se (fun y22 => (cond (decide (((ln y22.1.1 : Nat) : Int) ≤ 8))
 (some ((((ln y22.1.2.1 : Nat) : Int) == 0), ()))
 (some (false, ())))) (fun z23 => (some (z23.1.1, ())))))
def Ol (t1 : Unit) (t3 : Int) (b1 : Db) : Option ((Nm × Vq) ⊕ ((Gf × Vq) ⊕ Pw)) :=
 (cond (decide (t3 < ((ln b1.2.1 : Nat) : Int)))
 (ob (Ac b1.2.1 t3) fun x7 =>
 (ob (Nq x7) fun r8 =>
 (cond (!r8.1)
 (some (.inr (.inr ((false, ()), ()))))
 (some (.inl (((), (wr .i64 (t3 + 1)), ()), (b1, ())))))))
 (some (.inr (.inl (((), ()), (b1, ()))))))
def Vi := Kb fun x : (Nm × Vq) => Ol x.1.1 x.1.2.1 x.2.1
def Pl (t1 : Unit) (t4 : Int) (b1 : Db) : Option ((Nm × Vq) ⊕ ((Gf × Vq) ⊕ Pw)) :=
 (cond (decide (t4 < ((ln b1.2.2.2.1 : Nat) : Int)))
 (ob (Ac b1.2.2.2.1 t4) fun x17 =>
 (cond (decide (x17.1 ≥ b1.1.1))
 (some (.inr (.inr ((false, ()), ()))))
 (ob (Ac b1.2.2.2.1 t4) fun x18 =>
 (cond (x18.2.1.1 != 9)
 (ob (Ac b1.2.2.2.1 t4) fun x19 =>
 (cond (decide (x19.2.1.2.2.2.1 ≥ ((ln b1.1.2.1 : Nat) : Int)))
 (some (.inr (.inr ((false, ()), ()))))
 (some (.inl (((), (wr .i64 (t4 + 1)), ()), (b1, ()))))))
 (some (.inl (((), (wr .i64 (t4 + 1)), ()), (b1, ()))))))))
 (some (.inr (.inl (((), ()), (b1, ()))))))
def Wi := Kb fun x : (Nm × Vq) => Pl x.1.1 x.1.2.1 x.2.1
def Yf (a0 : Db) : Option Ie :=
 (ob (Ji a0.1) fun r1 =>
 (cond (!r1.1)
 (some (false, ()))
 (cond (decide (((ln a0.2.1 : Nat) : Int) > 4))
 (some (false, ()))
 (ob (Bl a0.2.2.2.1) fun r2 =>
 (cond (!r2.1)
 (some (false, ()))
 (ob (Vi (((), 0, ()), (a0, ()))) (se (fun y9 => (ob (Wi (((), 0, ()), (y9.2.1, ()))) (se (fun y20 => (cond (decide (0 ≤ ((ln y20.2.1.1.2.1 : Nat) : Int)))
 (ob (He y20.2.1.2.2.1 0 (wr .i64 ((Ck .i64 1 ((ln y20.2.1.1.2.1 : Nat) : Int)) - 1))) fun r22 =>
 (cond r22.1
 (cond ((2 : Int) == 0)
 none
 (cond ((Int.tmod y20.2.1.2.2.1 2) == 0)
 (ob (He y20.2.1.2.2.2.2.1 0 15) fun r23 =>
 (some (r23.1, ())))
 (some (false, ()))))
 (some (false, ()))))
 none)) (fun z21 => (some (z21.1.1, ())))))) (fun z10 => (some (z10.1.1, ()))))))))))
def Lp (t1 : Unit) (t2 : Unit) (t3 : Unit) (t4 : Int) (b1 : Db) (b2 : Db) (b3 : Db) : Option (((Unit × Rw) × (Db × Bv)) ⊕ (((Unit × (Unit × Gf)) × (Db × Bv)) ⊕ Gf)) :=
 (cond (decide (t4 < ((ln b1.2.1 : Nat) : Int)))
 (ob (Ac b1.2.1 t4) fun x4 =>
 (cond (bl (ln ([] : List Be) + ln x4) Mb)
 (cond (bl (ln b3.2.1 + ln ([(ap [] x4)] : List Ni)) Mb)
 (some (.inl (((), (), (), (wr .i64 (t4 + 1)), ()), (b1, b2, (b3.1, (ap b3.2.1 ([(ap [] x4)] : List Ni)), b3.2.2), ()))))
 none)
 none))
 (some (.inr (.inl (((), (), (), ()), (b1, b2, b3, ()))))))
def Rq := Kb fun x : ((Unit × Rw) × (Db × Bv)) => Lp x.1.1 x.1.2.1 x.1.2.2.1 x.1.2.2.2.1 x.2.1 x.2.2.1 x.2.2.2.1
def Fj (a0 : Db) : Option Vq :=
 (ob (Nv a0.1) fun r1 =>
 (ob (Rq (((), (), (), 0, ()), (a0, Xh, (r1.1, [], a0.2.2), ()))) (se (fun y5 => (cond (bl (ln ([] : List Qa) + ln y5.2.1.2.2.2.1) Mb)
 (some ((y5.2.2.2.1.1, y5.2.2.2.1.2.1, y5.2.2.2.1.2.2.1, (ap [] y5.2.1.2.2.2.1), y5.2.2.2.1.2.2.2.2), ()))
 none)) (fun z6 => none))))
def Bm (a0 : Ea) (a1 : Ev) : Option (Db × Ie) :=
 (ob (Yf (a0, a1, 0, [], 0, false, ())) fun r1 =>
 (cond (!r1.1)
 (some (Xh, false, ()))
 (ob (Fj (a0, a1, 0, [], 0, false, ())) fun r2 =>
 (some (r2.1, true, ())))))
def Fp (t1 : Int) (t2 : Unit) (t5 : Int) (b2 : Db) : Option (((Int × Nm) × Vq) ⊕ RE) :=
 (cond (decide (t5 < ((ln b2.2.2.2.1 : Nat) : Int)))
 (ob (Ac b2.2.2.2.1 t5) fun x3 =>
 (cond (x3.1 == t1)
 (some (.inr (.inr ((t5, ()), ()))))
 (some (.inl ((t1, (), (wr .i64 (t5 + 1)), ()), (b2, ()))))))
 (some (.inr (.inl ((), ())))))
def Lq := Kb fun x : ((Int × Nm) × Vq) => Fp x.1.1 x.1.2.1 x.1.2.2.1 x.2.1
def As (a0 : Db) (a1 : Int) : Option Gh :=
 (ob (Lq ((a1, (), 0, ()), (a0, ()))) (se (fun y4 => (some ((-1), ()))) (fun z5 => (some (z5.1.1, ())))))
def Nw (t1 : Tc) (t5 : Int) (t6 : Int) : Option ((LA × Unit) ⊕ U4) :=
 (cond (decide (t6 < ((ln t1 : Nat) : Int)))
 (ob (Bl t1) fun r19 =>
 (cond r19.1
 (ob (Ac t1 t6) fun x20 =>
 (cond (x20.2.1.1 == 3)
 (ob (Ac t1 t6) fun x21 =>
 (cond (decide (0 ≤ x21.2.1.2.2.2.1))
 (some (.inl ((t1, (Zd .i64 t5 (Ck .i64 1 x21.2.1.2.2.2.1)), (wr .i64 (t6 + 1)), ()), ())))
 none))
 (some (.inl ((t1, t5, (wr .i64 (t6 + 1)), ()), ())))))
 (some (.inr (.inl ((t5, ()), ()))))))
 (some (.inr (.inl ((t5, ()), ())))))
def Zi := Kb fun x : (LA × Unit) => Nw x.1.1 x.1.2.1 x.1.2.2.1
def Xn (a0 : Int) (a1 : Tc) : Option Gh :=
 (ob (He a0 0 15) fun r1 =>
 (cond r1.1
 (ob (Zi ((a1, (Zd .i64 1 a0), 0, ()), ())) (se (fun y11 => (some (y11.1.1, ()))) (fun z12 => none)))
 (ob (Zi ((a1, 1, 0, ()), ())) (se (fun y22 => (some (y22.1.1, ()))) (fun z23 => none)))))
def Hp (a0 : Int) : Option Ie :=
 (ob (He a0 1 36) fun r1 =>
 (cond r1.1
 (some (true, ()))
 (cond (a0 == 39)
 (some (true, ()))
 (some ((a0 == 42), ())))))
def SB (a0 : Db) (a1 : Ya) : Option (Db × Dv) :=
 (ob (Hp a1.2.1) fun r1 =>
 (cond (!r1.1)
 (some ((a0.1, a0.2.1, a0.2.2.1, a0.2.2.2.1, 0, false, a0.2.2.2.2.2.2), ((a1.1, a1.2.1, (Zd .i64 a1.2.2.1 a0.2.2.2.2.1), a1.2.2.2), ())))
 (cond a0.2.2.2.2.2.1
 (cond (decide (a1.2.1 ≤ 26))
 (cond ((Sh .i64 (Zd .i64 a1.2.2.1 a0.2.2.2.2.1) 2) == 0)
 (some ((a0.1, a0.2.1, a0.2.2.1, a0.2.2.2.1, 0, a0.2.2.2.2.2), ((a1.1, a1.2.1, 2, a1.2.2.2), ())))
 (some ((a0.1, a0.2.1, a0.2.2.1, a0.2.2.2.1, 0, a0.2.2.2.2.2), ((a1.1, a1.2.1, (Zd .i64 a1.2.2.1 a0.2.2.2.2.1), a1.2.2.2), ()))))
 (some ((a0.1, a0.2.1, a0.2.2.1, a0.2.2.2.1, 0, a0.2.2.2.2.2), ((a1.1, a1.2.1, (Zd .i64 a1.2.2.1 a0.2.2.2.2.1), a1.2.2.2), ()))))
 (some ((a0.1, a0.2.1, a0.2.2.1, a0.2.2.2.1, 0, a0.2.2.2.2.2), ((a1.1, a1.2.1, (Zd .i64 a1.2.2.1 a0.2.2.2.2.1), a1.2.2.2), ()))))))
def Fk (a0 : Db) (a1 : Ya) : Option (Db × Dv) :=
 (cond (a1.1 == 2)
 (cond (decide (a1.2.1 > 0))
 (ob (SB a0 a1) fun r1 =>
 (some (r1.1, (r1.2.1, ()))))
 (some (a0, (a1, ()))))
 (cond (a1.1 == 4)
 (cond (decide (0 ≤ a1.2.2.2.1))
 (some ((a0.1, a0.2.1, (GD .i64 a0.2.2.1 (Ck .i64 1 a1.2.2.2.1)), a0.2.2.2), (a1, ())))
 none)
 (cond (a1.1 == 5)
 (cond (decide (0 ≤ a1.2.2.2.1))
 (some ((a0.1, a0.2.1, (Sh .i64 (Ck .i64 1 a1.2.2.2.1) 1), a0.2.2.2), (a1, ())))
 none)
 (cond (a1.1 == 8)
 (cond ((Hr .i64 a0.2.2.2.2.1 a1.2.2.1) == a1.2.2.1)
 (some ((a0.1, a0.2.1, a0.2.2.1, a0.2.2.2.1, (Sh .i64 a0.2.2.2.2.1 a1.2.2.1), a0.2.2.2.2.2), (a1, ())))
 (some ((a0.1, a0.2.1, a0.2.2.1, a0.2.2.2.1, (Zd .i64 a0.2.2.2.2.1 a1.2.2.1), a0.2.2.2.2.2), (a1, ()))))
 (cond (a1.1 == 10)
 (some ((a0.1, a0.2.1, a0.2.2.1, a0.2.2.2.1, a0.2.2.2.2.1, (!a0.2.2.2.2.2.1), a0.2.2.2.2.2.2), (a1, ())))
 (some (a0, (a1, ()))))))))
def Ql (t0 : Tc) (t2 : Unit) (t3 : Unit) (t4 : Int) (b2 : Ga) (b3 : Ga) : Option (KA ⊕ (((Tc × (Unit × Gf)) × Pp) ⊕ Gf)) :=
 (cond (decide (t4 < ((ln t0 : Nat) : Int)))
 (ob (Ac t0 t4) fun x10 =>
 (cond (x10.2.1.1 == 2)
 (ob (Ac t0 t4) fun x11 =>
 (some (.inl ((t0, (), (), (wr .i64 (t4 + 1)), ()), (b2, ((Zd .i64 b3.1 x11.2.1.2.2.1), b3.2.1, ()), ())))))
 (ob (Ac t0 t4) fun x12 =>
 (cond (x12.2.1.1 == 8)
 (ob (Ac t0 t4) fun x13 =>
 (some (.inl ((t0, (), (), (wr .i64 (t4 + 1)), ()), (b2, ((Zd .i64 b3.1 x13.2.1.2.2.1), b3.2.1, ()), ())))))
 (some (.inl ((t0, (), (), (wr .i64 (t4 + 1)), ()), (b2, b3, ()))))))))
 (some (.inr (.inl ((t0, (), (), ()), (b2, b3, ()))))))
def En := Kb fun x : KA => Ql x.1.1 x.1.2.1 x.1.2.2.1 x.1.2.2.2.1 x.2.1 x.2.2.1
def Nk (t0 : Tc) (t2 : Unit) (t3 : Unit) (t5 : Int) (t6 : Int) (b2 : Ga) (b3 : Ga) : Option (((Tc × (Unit × HN)) × Pp) ⊕ (KA ⊕ Gf)) :=
 (cond (decide (t6 < ((ln t0 : Nat) : Int)))
 (ob (Ac t0 t6) fun x28 =>
 (cond (x28.2.1.2.1 == t5)
 (cond (bl (ln b3.2.1 + ln ([t5] : List Int)) Mb)
 (some (.inr (.inl ((t0, (), (), t5, ()), (b2, (b3.1, (ap b3.2.1 ([t5] : List Int)), ()), ())))))
 none)
 (some (.inl ((t0, (), (), t5, (wr .i64 (t6 + 1)), ()), (b2, b3, ()))))))
 (some (.inr (.inl ((t0, (), (), t5, ()), (b2, b3, ()))))))
def Gi := Kb fun x : ((Tc × (Unit × HN)) × Pp) => Nk x.1.1 x.1.2.1 x.1.2.2.1 x.1.2.2.2.1 x.1.2.2.2.2.1 x.2.1 x.2.2.1
def Mk (t0 : Tc) (t2 : Unit) (t3 : Unit) (t5 : Int) (b2 : Ga) (b3 : Ga) : Option (KA ⊕ (((Unit × Gf) × Pp) ⊕ Gf)) :=
 (cond (decide (t5 ≤ 56))
 (ob (Gi ((t0, (), (), t5, 0, ()), (b2, b3, ()))) (se (fun y29 => (some (.inl ((y29.1.1, (), (), (wr .i64 (y29.1.2.2.2.1 + 1)), ()), y29.2)))) (fun z30 => (some (.inr (.inr ((), ())))))))
 (some (.inr (.inl (((), (), ()), (b2, b3, ()))))))
def Dm := Kb fun x : KA => Mk x.1.1 x.1.2.1 x.1.2.2.1 x.1.2.2.2.1 x.2.1 x.2.2.1
def Vb (a0 : Tc) : Option Om :=
 (ob (Bl a0) fun r1 =>
 (cond (!r1.1)
 (some ((0, [], ()), ()))
 (ob (En ((a0, (), (), 0, ()), ((0, [], ()), (0, [], ()), ()))) (se (fun y14 => (ob (Dm ((y14.1.1, (), (), 1, ()), y14.2)) (se (fun y31 => (some (y31.2.2.1, ()))) (fun z32 => none)))) (fun z15 => none)))))
def JF (t1 : Tc) (t4 : Unit) (t5 : Unit) (t6 : Int) (b4 : Ga) (b5 : Ga) : Option (KA ⊕ (((Tc × (Unit × Gf)) × Pp) ⊕ Gf)) :=
 (cond (decide (t6 < ((ln t1 : Nat) : Int)))
 (ob (Ac t1 t6) fun x4 =>
 (some (.inl ((t1, (), (), (wr .i64 (t6 + 1)), ()), (b4, ((Zd .i64 b5.1 x4.2.1.2.2.1), b5.2.1, ()), ())))))
 (some (.inr (.inl ((t1, (), (), ()), (b4, b5, ()))))))
def Iu := Kb fun x : KA => JF x.1.1 x.1.2.1 x.1.2.2.1 x.1.2.2.2.1 x.2.1 x.2.2.1
def FE (t1 : Tc) (t4 : Unit) (t5 : Unit) (t7 : Ff) (t8 : Int) (t9 : Bool) (t10 : Int) (b4 : Ga) (b5 : Ga) : Option W4 :=
 (cond (decide (t10 < ((ln b5.2.1 : Nat) : Int)))
 (cond t9
 (some (.inl ((t1, (), (), t7, t8, true, (wr .i64 (t10 + 1)), ()), (b4, b5, ()))))
 (cond (Xl (ln b5.2.1) t10)
 (ob b5.2.1[(tn t10)]? fun x29 =>
 (some (.inl ((t1, (), (), t7, t8, (x29 == t8), (wr .i64 (t10 + 1)), ()), (b4, b5, ())))))
 none))
 (some (.inr (.inl ((t1, (), (), t7, t8, t9, ()), (b4, b5, ()))))))
def Kt := Kb fun x : MV => FE x.1.1 x.1.2.1 x.1.2.2.1 x.1.2.2.2.1 x.1.2.2.2.2.1 x.1.2.2.2.2.2.1 x.1.2.2.2.2.2.2.1 x.2.1 x.2.2.1
def GE (t1 : Tc) (t4 : Unit) (t5 : Unit) (t7 : Ff) (t8 : Int) (t9 : Bool) (t11 : Int) (b4 : Ga) (b5 : Ga) : Option W4 :=
 (cond (decide (t11 < ((ln t1 : Nat) : Int)))
 (cond t9
 (some (.inl ((t1, (), (), t7, t8, true, (wr .i64 (t11 + 1)), ()), (b4, b5, ()))))
 (ob (Ac t1 t11) fun x34 =>
 (some (.inl ((t1, (), (), t7, t8, (x34.2.1.2.1 == t8), (wr .i64 (t11 + 1)), ()), (b4, b5, ()))))))
 (some (.inr (.inl ((t1, (), (), t7, t8, t9, ()), (b4, b5, ()))))))
def Lt := Kb fun x : MV => GE x.1.1 x.1.2.1 x.1.2.2.1 x.1.2.2.2.1 x.1.2.2.2.2.1 x.1.2.2.2.2.2.1 x.1.2.2.2.2.2.2.1 x.2.1 x.2.2.1
def LF (t1 : Tc) (t4 : Unit) (t5 : Unit) (t7 : Ff) (t8 : Int) (b4 : Ga) (b5 : Ga) : Option (((Tc × (Unit × (Unit × Z4))) × Pp) ⊕ PV) :=
 (cond (decide (t8 ≤ 56))
 (ob (Kt ((t1, (), (), t7, t8, false, 0, ()), (b4, b5, ()))) (se (fun y30 => (ob (Lt ((y30.1.1, (), (), y30.1.2.2.2.1, y30.1.2.2.2.2.1, y30.1.2.2.2.2.2.1, 0, ()), y30.2)) (se (fun y35 => (cond y35.1.2.2.2.2.2.1
 (cond (bl (ln y35.1.2.2.2.1 + ln ([y35.1.2.2.2.2.1] : List Int)) Mb)
 (some (.inl ((y35.1.1, (), (), (ap y35.1.2.2.2.1 ([y35.1.2.2.2.2.1] : List Int)), (wr .i64 (y35.1.2.2.2.2.1 + 1)), ()), y35.2)))
 none)
 (some (.inl ((y35.1.1, (), (), y35.1.2.2.2.1, (wr .i64 (y35.1.2.2.2.2.1 + 1)), ()), y35.2))))) (fun z36 => (some (.inr (.inr ((), ())))))))) (fun z31 => (some (.inr (.inr ((), ())))))))
 (some (.inr (.inl (((), (), t7, ()), (b4, b5, ()))))))
def Ju := Kb fun x : ((Tc × (Unit × (Unit × Z4))) × Pp) => LF x.1.1 x.1.2.1 x.1.2.2.1 x.1.2.2.2.1 x.1.2.2.2.2.1 x.2.1 x.2.2.1
def Ms (a0 : Tc) (a1 : Tc) : Option Om :=
 (ob (Vb a0) fun r1 =>
 (ob (Iu ((a1, (), (), 0, ()), ((0, [], ()), r1.1, ()))) (se (fun y5 => (ob (Ju ((y5.1.1, (), (), [], 1, ()), y5.2)) (se (fun y37 => (some ((y37.2.2.1.1, y37.1.2.2.1, ()), ()))) (fun z38 => none)))) (fun z6 => none))))
def DA (t0 : Tc) (t1 : Ni) (t5 : Cg) (t6 : Tc) (t7 : Int) : Option (((Tc × (Ni × (Cg × (Tc × Gh)))) × Unit) ⊕ OV) :=
 (cond (decide (t7 < ((ln t1 : Nat) : Int)))
 (ob (Ac t1 t7) fun x21 =>
 (cond (x21.1 != 2)
 (ob (Yn x21) fun r22 =>
 (cond (bl (ln t6 + ln ([(0, r22.1, ())] : List Qa)) Mb)
 (ob (Ms t0 (ap t6 ([(0, r22.1, ())] : List Qa))) fun r23 =>
 (cond (bl (ln t5 + ln ([r23.1] : List Ga)) Mb)
 (cond (x21.1 != 1)
 (ob (Eo (ap t6 ([(0, r22.1, ())] : List Qa)) x21) fun r24 =>
 (ob (Ze (ap t6 ([(0, r22.1, ())] : List Qa)) r24.1) fun r25 =>
 (ob (Ms t0 r25.1) fun r26 =>
 (cond (bl (ln (ap t5 ([r23.1] : List Ga)) + ln ([r26.1] : List Ga)) Mb)
 (some (.inl ((t0, t1, (ap (ap t5 ([r23.1] : List Ga)) ([r26.1] : List Ga)), r25.1, (wr .i64 (t7 + 1)), ()), ())))
 none))))
 (some (.inl ((t0, t1, (ap t5 ([r23.1] : List Ga)), (ap t6 ([(0, r22.1, ())] : List Qa)), (wr .i64 (t7 + 1)), ()), ()))))
 none))
 none))
 (cond (x21.1 != 1)
 (ob (Eo t6 x21) fun r27 =>
 (ob (Ze t6 r27.1) fun r28 =>
 (ob (Ms t0 r28.1) fun r29 =>
 (cond (bl (ln t5 + ln ([r29.1] : List Ga)) Mb)
 (some (.inl ((t0, t1, (ap t5 ([r29.1] : List Ga)), r28.1, (wr .i64 (t7 + 1)), ()), ())))
 none))))
 (some (.inl ((t0, t1, t5, t6, (wr .i64 (t7 + 1)), ()), ()))))))
 (some (.inr (.inl ((t5, ()), ())))))
def Oq := Kb fun x : ((Tc × (Ni × (Cg × (Tc × Gh)))) × Unit) => DA x.1.1 x.1.2.1 x.1.2.2.1 x.1.2.2.2.1 x.1.2.2.2.2.1
def Nr (a0 : Tc) (a1 : Ni) : Option Zx :=
 (ob (Bl a0) fun r1 =>
 (cond (!r1.1)
 (some ([], ()))
 (ob (Nq a1) fun r2 =>
 (cond (!r2.1)
 (some ([], ()))
 (ob (Oq ((a0, a1, [], [], 0, ()), ())) (se (fun y30 => (some (y30.1.1, ()))) (fun z31 => none)))))))
def Zj (t2 : Unit) (t3 : Unit) (t5 : Int) (b2 : Ga) (b3 : Ga) : Option ((Rw × Pp) ⊕ Cv) :=
 (cond (decide (t5 < ((ln b2.2.1 : Nat) : Int)))
 (ob (Ac b2.2.1 t5) fun x5 =>
 (ob (Ac b3.2.1 t5) fun x6 =>
 (cond (x5 != x6)
 (some (.inr (.inr ((false, ()), ()))))
 (some (.inl (((), (), (wr .i64 (t5 + 1)), ()), (b2, b3, ())))))))
 (some (.inr (.inl ((), ())))))
def Cl := Kb fun x : (Rw × Pp) => Zj x.1.1 x.1.2.1 x.1.2.2.1 x.2.1 x.2.2.1
def Ok (a0 : Ga) (a1 : Ga) : Option Ie :=
 (cond (a0.1 != a1.1)
 (some (false, ()))
 (cond (((ln a0.2.1 : Nat) : Int) != ((ln a1.2.1 : Nat) : Int))
 (some (false, ()))
 (ob (Cl (((), (), 0, ()), (a0, a1, ()))) (se (fun y7 => (some (true, ()))) (fun z8 => (some (z8.1.1, ())))))))
def Pk (t1 : Cg) (t2 : Unit) (t5 : Cg) (t6 : Int) (b2 : Ga) : Option (((Cg × (Unit × (Cg × Gh))) × Om) ⊕ OV) :=
 (cond (decide (t6 < ((ln t1 : Nat) : Int)))
 (ob (Ac t1 t6) fun x13 =>
 (ob (Ok b2 x13) fun r14 =>
 (cond (!r14.1)
 (ob (Ac t1 t6) fun x15 =>
 (ob (Ov x15) fun r16 =>
 (cond (bl (ln t5 + ln ([r16.1] : List Ga)) Mb)
 (ob (Ac t1 t6) fun x17 =>
 (some (.inl ((t1, (), (ap t5 ([r16.1] : List Ga)), (wr .i64 (t6 + 1)), ()), (x17, ())))))
 none)))
 (ob (Ac t1 t6) fun x18 =>
 (some (.inl ((t1, (), t5, (wr .i64 (t6 + 1)), ()), (x18, ()))))))))
 (some (.inr (.inl ((t5, ()), ())))))
def Fm := Kb fun x : ((Cg × (Unit × (Cg × Gh))) × Om) => Pk x.1.1 x.1.2.1 x.1.2.2.1 x.1.2.2.2.1 x.2.1
def Pd (a0 : Ga) (a1 : Cg) : Option Zx :=
 (ob (Fm ((a1, (), [], 0, ()), (a0, ()))) (se (fun y19 => (some (y19.1.1, ()))) (fun z20 => none)))
def Dn (a0 : Db) (a1 : Int) (a2 : Bool) : Option NV :=
 (ob (Yf a0) fun r1 =>
 (cond (!r1.1)
 (some (Xh, [], false, ()))
 (ob (He a1 0 (wr .i64 (a0.1.1 - 1))) fun r2 =>
 (cond (!r2.1)
 (some (Xh, [], false, ()))
 (ob (As a0 a1) fun r3 =>
 (cond (decide (r3.1 ≥ 0))
 (some (Xh, [], false, ()))
 (ob (Fj a0) fun r4 =>
 (ob (Xn a0.2.2.1 a0.2.2.2.1) fun r5 =>
 (ob (Vn a0.1 r5.1 a1) fun r6 =>
 (cond a2
 (ob (DG r6.1) fun r7 =>
 (ob (Fk r4.1 r7.1) fun r8 =>
 (cond (bl (ln r8.1.2.2.2.1 + ln ([(a1, r8.2.1, ())] : List Qa)) Mb)
 (cond (r8.2.1.1 == 9)
 (cond (decide (r8.2.1.2.2.2.1 < ((ln a0.2.1 : Nat) : Int)))
 (ob (Ac a0.2.1 r8.2.1.2.2.2.1) fun x9 =>
 (ob (Nr (ap r8.1.2.2.2.1 ([(a1, r8.2.1, ())] : List Qa)) x9) fun r10 =>
 (ob (Vb (ap r8.1.2.2.2.1 ([(a1, r8.2.1, ())] : List Qa))) fun r11 =>
 (cond (bl (ln r10.1 + ln ([r11.1] : List Ga)) Mb)
 (ob (Vb a0.2.2.2.1) fun r12 =>
 (ob (Pd r12.1 (ap r10.1 ([r11.1] : List Ga))) fun r13 =>
 (some ((r8.1.1, r8.1.2.1, r8.1.2.2.1, (ap r8.1.2.2.2.1 ([(a1, r8.2.1, ())] : List Qa)), r8.1.2.2.2.2), r13.1, true, ()))))
 none))))
 (ob (Vb (ap r8.1.2.2.2.1 ([(a1, r8.2.1, ())] : List Qa))) fun r14 =>
 (cond (bl (ln ([] : List Ga) + ln ([r14.1] : List Ga)) Mb)
 (ob (Vb a0.2.2.2.1) fun r15 =>
 (ob (Pd r15.1 (ap [] ([r14.1] : List Ga))) fun r16 =>
 (some ((r8.1.1, r8.1.2.1, r8.1.2.2.1, (ap r8.1.2.2.2.1 ([(a1, r8.2.1, ())] : List Qa)), r8.1.2.2.2.2), r16.1, true, ()))))
 none)))
 (ob (Vb (ap r8.1.2.2.2.1 ([(a1, r8.2.1, ())] : List Qa))) fun r17 =>
 (cond (bl (ln ([] : List Ga) + ln ([r17.1] : List Ga)) Mb)
 (ob (Vb a0.2.2.2.1) fun r18 =>
 (ob (Pd r18.1 (ap [] ([r17.1] : List Ga))) fun r19 =>
 (some ((r8.1.1, r8.1.2.1, r8.1.2.2.1, (ap r8.1.2.2.2.1 ([(a1, r8.2.1, ())] : List Qa)), r8.1.2.2.2.2), r19.1, true, ()))))
 none)))
 none)))
 (ob (Xw r6.1) fun r20 =>
 (ob (Fk r4.1 r20.1) fun r21 =>
 (cond (bl (ln r21.1.2.2.2.1 + ln ([(a1, r21.2.1, ())] : List Qa)) Mb)
 (cond (r21.2.1.1 == 9)
 (cond (decide (r21.2.1.2.2.2.1 < ((ln a0.2.1 : Nat) : Int)))
 (ob (Ac a0.2.1 r21.2.1.2.2.2.1) fun x22 =>
 (ob (Nr (ap r21.1.2.2.2.1 ([(a1, r21.2.1, ())] : List Qa)) x22) fun r23 =>
 (ob (Vb (ap r21.1.2.2.2.1 ([(a1, r21.2.1, ())] : List Qa))) fun r24 =>
 (cond (bl (ln r23.1 + ln ([r24.1] : List Ga)) Mb)
 (ob (Vb a0.2.2.2.1) fun r25 =>
 (ob (Pd r25.1 (ap r23.1 ([r24.1] : List Ga))) fun r26 =>
 (some ((r21.1.1, r21.1.2.1, r21.1.2.2.1, (ap r21.1.2.2.2.1 ([(a1, r21.2.1, ())] : List Qa)), r21.1.2.2.2.2), r26.1, true, ()))))
 none))))
 (ob (Vb (ap r21.1.2.2.2.1 ([(a1, r21.2.1, ())] : List Qa))) fun r27 =>
 (cond (bl (ln ([] : List Ga) + ln ([r27.1] : List Ga)) Mb)
 (ob (Vb a0.2.2.2.1) fun r28 =>
 (ob (Pd r28.1 (ap [] ([r27.1] : List Ga))) fun r29 =>
 (some ((r21.1.1, r21.1.2.1, r21.1.2.2.1, (ap r21.1.2.2.2.1 ([(a1, r21.2.1, ())] : List Qa)), r21.1.2.2.2.2), r29.1, true, ()))))
 none)))
 (ob (Vb (ap r21.1.2.2.2.1 ([(a1, r21.2.1, ())] : List Qa))) fun r30 =>
 (cond (bl (ln ([] : List Ga) + ln ([r30.1] : List Ga)) Mb)
 (ob (Vb a0.2.2.2.1) fun r31 =>
 (ob (Pd r31.1 (ap [] ([r30.1] : List Ga))) fun r32 =>
 (some ((r21.1.1, r21.1.2.1, r21.1.2.2.1, (ap r21.1.2.2.2.1 ([(a1, r21.2.1, ())] : List Qa)), r21.1.2.2.2.2), r32.1, true, ()))))
 none)))
 none)))))))))))))
def Cm (a0 : Db) (a1 : Int) : Option NV :=
 (ob (As a0 a1) fun r1 =>
 (ob (Yf a0) fun r2 =>
 (cond (!r2.1)
 (some (Xh, [], false, ()))
 (cond (decide (r1.1 < 0))
 (some (Xh, [], false, ()))
 (ob (Fj a0) fun r3 =>
 (ob (Ze r3.1.2.2.2.1 r1.1) fun r4 =>
 (ob (Vb a0.2.2.2.1) fun r5 =>
 (ob (Vb r4.1) fun r6 =>
 (ob (Pd r5.1 ([r6.1] : List Ga)) fun r7 =>
 (some ((r3.1.1, r3.1.2.1, r3.1.2.2.1, r4.1, r3.1.2.2.2.2), r7.1, true, ())))))))))))
def Hn (t1 : Ff) (t4 : Unit) (t7 : Cg) (t8 : Unit) (t9 : Int) (b4 : Db) (b8 : Db) : Option (((Ff × (Unit × (Cg × Nm))) × Bv) ⊕ (((Unit × (Cg × Gf)) × Bv) ⊕ ((Unit × (Cg × Ie)) × Vq))) :=
 (cond (decide (t9 < ((ln t1 : Nat) : Int)))
 (ob (Ac t1 t9) fun x13 =>
 (ob (Dn b8 x13 false) fun r14 =>
 (ob (Ac t1 t9) fun x15 =>
 (ob (Cm r14.1 x15) fun r16 =>
 (cond (!r14.2.2.1)
 (some (.inr (.inr (((), [], false, ()), (Xh, ())))))
 (cond (!r16.2.2.1)
 (some (.inr (.inr (((), [], false, ()), (Xh, ())))))
 (cond (bl (ln t7 + ln r14.2.1) Mb)
 (cond (bl (ln (ap t7 r14.2.1) + ln r16.2.1) Mb)
 (some (.inl ((t1, (), (ap (ap t7 r14.2.1) r16.2.1), (), (wr .i64 (t9 + 1)), ()), (b4, r16.1, ()))))
 none)
 none)))))))
 (some (.inr (.inl (((), t7, (), ()), (b4, b8, ()))))))
def Oo := Kb fun x : ((Ff × (Unit × (Cg × Nm))) × Bv) => Hn x.1.1 x.1.2.1 x.1.2.2.1 x.1.2.2.2.1 x.1.2.2.2.2.1 x.2.1 x.2.2.1
def Em (a0 : Db) (a1 : Ff) : Option NV :=
 (ob (Oo ((a1, (), [], (), 0, ()), (Xh, a0, ()))) (se (fun y17 => (ob (Yf y17.2.2.1) fun r19 =>
 (cond (!r19.1)
 (some (Xh, [], false, ()))
 (ob (Fj y17.2.2.1) fun r20 =>
 (some (r20.1, y17.1.2.1, true, ())))))) (fun z18 => (some (z18.2.1, z18.1.2.1, z18.1.2.2.1, ())))))
def Ak (t0 : Cg) (t1 : Cg) (t5 : Int) : Option (((Cg × (Cg × Gh)) × Unit) ⊕ (((Cg × Zx) × Unit) ⊕ Pw)) :=
 (cond (decide (t5 < ((ln t0 : Nat) : Int)))
 (cond (decide (t5 < ((ln t1 : Nat) : Int)))
 (ob (Ac t0 t5) fun x7 =>
 (ob (Ac t1 t5) fun x8 =>
 (ob (Ok x7 x8) fun r9 =>
 (cond (!r9.1)
 (some (.inr (.inr ((false, ()), ()))))
 (some (.inl ((t0, t1, (wr .i64 (t5 + 1)), ()), ())))))))
 (some (.inr (.inl ((t0, t1, ()), ())))))
 (some (.inr (.inl ((t0, t1, ()), ())))))
def Dl := Kb fun x : ((Cg × (Cg × Gh)) × Unit) => Ak x.1.1 x.1.2.1 x.1.2.2.1
def Ip (a0 : Cg) (a1 : Cg) : Option Ie :=
 (ob (Dl ((a0, a1, 0, ()), ())) (se (fun y10 => (some ((((ln y10.1.1 : Nat) : Int) == ((ln y10.1.2.1 : Nat) : Int)), ()))) (fun z11 => (some (z11.1.1, ())))))
def Gu (a0 : Db) (a1 : Db) : Option Ie :=
 (cond (a0.2.2.1 == a1.2.2.1)
 (cond (a0.2.2.2.2.1 == a1.2.2.2.2.1)
 (some ((a0.2.2.2.2.2.1 == a1.2.2.2.2.2.1), ()))
 (some (false, ())))
 (some (false, ())))
def Jn (t0 : Qw) (t4 : Unit) (t5 : Unit) (t7 : Int) (b4 : Db) (b5 : Db) : Option (((Qw × Rw) × Bv) ⊕ Cv) :=
 (cond (decide (t7 < ((ln t0 : Nat) : Int)))
 (ob (Ac t0 t7) fun x9 =>
 (ob (Gu x9.1 b4) fun r10 =>
 (cond r10.1
 (ob (Ac t0 t7) fun x11 =>
 (ob (Gu x11.2.1 b5) fun r12 =>
 (cond r12.1
 (some (.inr (.inr ((true, ()), ()))))
 (some (.inl ((t0, (), (), (wr .i64 (t7 + 1)), ()), (b4, b5, ())))))))
 (some (.inl ((t0, (), (), (wr .i64 (t7 + 1)), ()), (b4, b5, ())))))))
 (some (.inr (.inl ((), ())))))
def Po := Kb fun x : ((Qw × Rw) × Bv) => Jn x.1.1 x.1.2.1 x.1.2.2.1 x.1.2.2.2.1 x.2.1 x.2.2.1
def Hu (a0 : Qw) (a1 : Db) (a2 : Db) : Option Ie :=
 (ob (Po ((a0, (), (), 0, ()), (a1, a2, ()))) (se (fun y13 => (some (false, ()))) (fun z14 => (some (z14.1.1, ())))))
def Wh (t2 : Unit) (t10 : Qw) (t11 : Int) (t12 : Int) (b2 : Ea) : Option (((Unit × (Qw × Jd)) × Pm) ⊕ (QV ⊕ NN)) :=
 (cond (decide (t12 < b2.1))
 (cond (Xl (ln t10) t11)
 (ob t10[(tn t11)]? fun x63 =>
 (ob (Em x63.1 ([t12] : List Int)) fun r64 =>
 (cond (Xl (ln (ls t10 (tn t11) x63)) t11)
 (ob (ls t10 (tn t11) x63)[(tn t11)]? fun x65 =>
 (ob (Em x65.2.1 ([t12] : List Int)) fun r66 =>
 (cond (Xl (ln (ls (ls t10 (tn t11) x63) (tn t11) x65)) t11)
 (ob (ls (ls t10 (tn t11) x63) (tn t11) x65)[(tn t11)]? fun x67 =>
 (cond (bl (ln ([] : List Int) + ln x67.2.2.1) Mb)
 (cond (bl (ln (ap [] x67.2.2.1) + ln ([t12] : List Int)) Mb)
 (ob (Ip r64.2.1 r66.2.1) fun r68 =>
 (cond (!r68.1)
 (some (.inr (.inr (((ap (ap [] x67.2.2.1) ([t12] : List Int)), true, ()), ()))))
 (ob (Hu (ls (ls (ls t10 (tn t11) x63) (tn t11) x65) (tn t11) x67) r64.1 r66.1) fun r69 =>
 (cond (!r69.1)
 (cond (bl (ln (ls (ls (ls t10 (tn t11) x63) (tn t11) x65) (tn t11) x67) + ln ([(r64.1, r66.1, (ap (ap [] x67.2.2.1) ([t12] : List Int)), ())] : List Mm)) Mb)
 (some (.inl (((), (ap (ls (ls (ls t10 (tn t11) x63) (tn t11) x65) (tn t11) x67) ([(r64.1, r66.1, (ap (ap [] x67.2.2.1) ([t12] : List Int)), ())] : List Mm)), t11, (wr .i64 (t12 + 1)), ()), (b2, ()))))
 none)
 (some (.inl (((), (ls (ls (ls t10 (tn t11) x63) (tn t11) x65) (tn t11) x67), t11, (wr .i64 (t12 + 1)), ()), (b2, ()))))))))
 none)
 none))
 none)))
 none)))
 none)
 (some (.inr (.inl (((), t10, t11, ()), (b2, ()))))))
def Ee := Kb fun x : ((Unit × (Qw × Jd)) × Pm) => Wh x.1.1 x.1.2.1 x.1.2.2.1 x.1.2.2.2.1 x.2.1
def Fi (t2 : Unit) (t10 : Qw) (t11 : Int) (b2 : Ea) : Option (QV ⊕ (Gf ⊕ NN)) :=
 (cond (decide (t11 < ((ln t10 : Nat) : Int)))
 (ob (Ee (((), t10, t11, 0, ()), (b2, ()))) (se (fun y70 => (some (.inl (((), y70.1.2.1, (wr .i64 (y70.1.2.2.1 + 1)), ()), (y70.2.1, ()))))) (fun z71 => (some (.inr (.inr (z71.1, ())))))))
 (some (.inr (.inl ((), ())))))
def Me := Kb fun x : QV => Fi x.1.1 x.1.2.1 x.1.2.2.1 x.2.1
def Nl (a0 : Ea) (a1 : Ea) : Option (Ff × Ie) :=
 (ob (Bm a0 []) fun r1 =>
 (ob (Bm a1 []) fun r2 =>
 (cond (!r1.2.1)
 (some ([], false, ()))
 (cond (!r2.2.1)
 (some ([], false, ()))
 (cond (a0.1 != a1.1)
 (some ([], false, ()))
 (cond (decide (a0.1 > 6))
 (some ([], false, ()))
 (ob (Me (((), ([(r1.1, r2.1, [], ())] : List Mm), 0, ()), (a0, ()))) (se (fun y72 => (some ([], false, ()))) (fun z73 => (some z73.1))))))))))
def Wn (a0 : Ea) (a1 : Ea) : Option Ie :=
 (ob (Nl a0 a1) fun r1 =>
 (ob (Ji a0) fun r2 =>
 (cond r2.1
 (ob (Ji a1) fun r3 =>
 (cond r3.1
 (cond (a0.1 == a1.1)
 (cond (decide (a0.1 ≤ 6))
 (some ((!r1.2.1), ()))
 (some (false, ())))
 (some (false, ())))
 (some (false, ()))))
 (some (false, ())))))
def Ui (a0 : Ea) (a1 : Ea) : Option Ie :=
 (ob (Sn a0 1048576) fun r1 =>
 (cond (decide (r1.1 < 0))
 (some (true, ()))
 (ob (Sn a1 r1.1) fun r2 =>
 (cond (decide (r2.1 < 0))
 (some (true, ()))
 (ob (Xf a0) fun r3 =>
 (ob (Xf a1) fun r4 =>
 (ob (Wn r3.1 r4.1) fun r5 =>
 (ob (Xf a0) fun r6 =>
 (ob (Xf a1) fun r7 =>
 (ob (On r6.1 r7.1) fun r8 =>
 (cond (r8.1 != r5.1)
 (some (false, ()))
 (ob (Xf a0) fun r9 =>
 (ob (Rn r6.1 r9.1) fun r10 =>
 (cond (!r10.1)
 (some (false, ()))
 (ob (Xf a1) fun r11 =>
 (ob (Rn r7.1 r11.1) fun r12 =>
 (cond (!r12.1)
 (some (false, ()))
 (some (true, ())))))))))))))))))))
end
theorem NQ (a : (List Ya)) (hr : Nt (.sl Sb) a) (l : Nat) (hl : l ≤ Na) : Zl a (l : Int) = some (BM (Pb (.sl Sb) a) l, ()) := Qaj (e := Sb) (F := Zl) a hr l hl rfl rfl
theorem XM (a : (List (List Ya))) (hr : Nt (.sl (.sl Sb)) a) (l : Nat) (hl : l ≤ Na) : Bp a (l : Int) = some (BM (Pb (.sl (.sl Sb)) a) l, ()) := szS (e := (.sl Sb)) (f := Zl) (F := Bp) a hr l hl NQ rfl
theorem EG (a : Ea) (hr : Nt Oa a) (l : Nat) (hl : l ≤ Na) : Sn a (l : Int) = some (BM (Pb Oa a) l, ()) := by
 unfold Sn
 have hs : Pb Oa a = Pb (.sl (.sl Sb)) a.2.1 := by simp only [Pb, qy, js, jt]
 rw [XM a.2.1 hr.2.1 (l) (by omega)]
 simp only [jb]
 by_cases h0 : Pb (.sl (.sl Sb)) a.2.1 ≤ l
 case neg => rw [Dw h0, Dw (by omega)]; rfl
 rw [Wx h0, Ja (by omega)]
 simp only [yu]
 rw [Wx (by omega), hs]
 try simp only [Nat.sub_sub, jt]
theorem GR (a : Ya) (hz : Pb Sb a ≤ Na) : Tn a = some (a, ()) := by
 unfold Tn
 rfl
theorem OQ (a : (List Ya)) (hz : Pb (.sl Sb) a ≤ Na) : Xq a = some (a, ()) := toS (e := Sb) _ _ (f := Tn) a hz GR rfl
theorem YM (a : (List (List Ya))) (hz : Pb (.sl (.sl Sb)) a ≤ Na) : Bu a = some (a, ()) := toS (e := (.sl Sb)) _ _ (f := Xq) a hz OQ rfl
theorem FG (a : Ea) (hz : Pb Oa a ≤ Na) : Xf a = some (a, ()) := by
 unfold Xf
 have hs : Pb Oa a = Pb (.sl (.sl Sb)) a.2.1 := by simp only [Pb, qy, js, jt]
 rw [YM a.2.1 (by omega)]
 simp only [jb]
theorem XQ (a : Ya) (hz : Pb Sb a ≤ Fv) : Qn a a = some (true, ()) := by
 unfold Qn
 have hs : Pb Sb a = 0 := by simp only [Pb, qy, js, jt]
 simp only [bne_self_eq_false', yu, jg, jb]
theorem RO (a : (List Ya)) (hz : Pb (.sl Sb) a ≤ Fv) : Yl a a = some (true, ()) := eqS (e := Sb) (f := Qn) (F := Yl) a hz XQ rfl
theorem HM (a : (List (List Ya))) (hz : Pb (.sl (.sl Sb)) a ≤ Fv) : Ap a a = some (true, ()) := eqS (e := (.sl Sb)) (f := Yl) (F := Ap) a hz RO rfl
theorem SF (a : Ea) (hz : Pb Oa a ≤ Fv) : Rn a a = some (true, ()) := by
 unfold Rn
 have hs : Pb Oa a = Pb (.sl (.sl Sb)) a.2.1 := by simp only [Pb, qy, js, jt]
 simp only [bne_self_eq_false', yu, jg, jb, HM a.2.1 (by omega)]
def Dc (k c m n : Int) : Prop :=
 ((k = 0 ∨ k = 1 ∨ k = 10) ∧ c = 0 ∧ m = 0 ∧ n = 0) ∨
 (k = 2 ∧ n = 0 ∧ (c = 0 ∨ 1 ≤ c ∧ c ≤ 56) ∧ (m = 0 ∨ 1 ≤ m ∧ m ≤ 15) ∧ (c ≠ 0 ∨ m ≠ 0)) ∨
 ((k = 3 ∨ k = 4) ∧ c = 0 ∧ m = 0 ∧ 1 ≤ n ∧ n ≤ 3) ∨
 ((k = 5 ∨ k = 9) ∧ c = 0 ∧ m = 0 ∧ 0 ≤ n ∧ n ≤ 3) ∨
 (k = 6 ∧ 1 ≤ c ∧ c ≤ 56 ∧ 1 ≤ m ∧ m ≤ 15 ∧ n = 0) ∨
 (k = 7 ∧ 1 ≤ c ∧ c ≤ 56 ∧ m = 0 ∧ 1 ≤ n ∧ n ≤ 3) ∨
 (k = 8 ∧ c = 0 ∧ 1 ≤ m ∧ m ≤ 15 ∧ n = 0)
noncomputable def Mc (a : Ya) : Bool := open Classical in decide (Dc a.1 a.2.1 a.2.2.1 a.2.2.2.1)
theorem Nb (a : Ya) : Mc a = true ↔ Dc a.1 a.2.1 a.2.2.1 a.2.2.2.1 := by simp [Mc]
theorem Ru (c : Int) : Vk c = some (decide (1 ≤ c ∧ c ≤ 56), ()) := by
 simp only [Vk, Jm, Km]
 apply Lc; simp only [Uc, decide_eq_true_eq, RA, SA, jq, and_false, false_and, or_false, false_or, and_true, true_and, not_true_eq_false, not_false_eq_true]; try omega
theorem Vz (c : Int) : Wk c = some (decide (1 ≤ c ∧ c ≤ 15), ()) := by
 simp only [Wk, Jm, Km]
 apply Lc; simp only [Uc, decide_eq_true_eq, RA, SA, jq, and_false, false_and, or_false, false_or, and_true, true_and, not_true_eq_false, not_false_eq_true]; try omega
theorem Jy (c : Int) : Wl c = some (decide (1 ≤ c ∧ c ≤ 3), ()) := by
 simp only [Wl, Jm, Km]
 apply Lc; simp only [Uc, decide_eq_true_eq, RA, SA, jq, and_false, false_and, or_false, false_or, and_true, true_and, not_true_eq_false, not_false_eq_true]; try omega
theorem Lf (c a b : Int) : He c a b = some (decide (a ≤ c ∧ c ≤ b), ()) := by
 simp only [He, Jm, Km]
 apply Lc; simp only [Uc, decide_eq_true_eq, RA, SA, jq, and_false, false_and, or_false, false_or, and_true, true_and, not_true_eq_false, not_false_eq_true]; try omega
theorem Us (a : Ya) : Vg a = some (Mc a, ()) := by
 obtain ⟨k, c, m, n, u⟩ := a
 have key : ∀ k c m n : Int, Vg (k, c, m, n, u) = some (Mc (k, c, m, n, u), ()) := by
  intro k c m n
  simp only [Vg, Ru, Vz, Jy, Lf, jb, Jm, Km]
  by_cases h0 : k = 0
  ·subst h0; apply Lc; rw [Nb]; simp [Dc, Uc]; try omega
  by_cases h1 : k = 1
  ·subst h1; apply Lc; rw [Nb]; simp [Dc, Uc]; try omega
  by_cases h2 : k = 2
  ·subst h2; apply Lc; rw [Nb]; simp [Dc, Uc]; intro hn; (repeat' split) <;> omega
  by_cases h3 : k = 3
  ·subst h3; apply Lc; rw [Nb]; simp [Dc, Uc]; try omega
  by_cases h4 : k = 4
  ·subst h4; apply Lc; rw [Nb]; simp [Dc, Uc]; try omega
  by_cases h5 : k = 5
  ·subst h5; apply Lc; rw [Nb]; simp [Dc, Uc]; try omega
  by_cases h6 : k = 6
  ·subst h6; apply Lc; rw [Nb]; simp [Dc, Uc]; try omega
  by_cases h7 : k = 7
  ·subst h7; apply Lc; rw [Nb]; simp [Dc, Uc]; try omega
  by_cases h8 : k = 8
  ·subst h8; apply Lc; rw [Nb]; simp [Dc, Uc]; try omega
  by_cases h9 : k = 9
  ·subst h9; apply Lc; rw [Nb]; simp [Dc, Uc]; try omega
  by_cases h10 : k = 10
  ·subst h10; apply Lc; rw [Nb]; simp [Dc, Uc]; try omega
  have g : ∀ j : Int, (k == j) = decide (k = j) := fun j => by rw [Bool.eq_iff_iff]; simp
  apply Lc; rw [Nb]; simp [Dc, Uc, h0, h1, h2, h3, h4, h5, h6, h7, h8, h9, h10]
 exact key k c m n
theorem Bn (a : Ya) : Yg a = some (Mc a, ()) := by
 obtain ⟨k, c, m, n, u⟩ := a
 have key : ∀ k c m n : Int, Yg (k, c, m, n, u) = some (Mc (k, c, m, n, u), ()) := by
  intro k c m n
  simp only [Yg, Ru, Vz, Jy, Lf, jb, Jm, Km]
  by_cases h0 : k = 0
  ·subst h0; apply Lc; rw [Nb]; simp [Dc, Uc]; try omega
  by_cases h1 : k = 1
  ·subst h1; apply Lc; rw [Nb]; simp [Dc, Uc]; try omega
  by_cases h2 : k = 2
  ·subst h2; apply Lc; rw [Nb]; simp [Dc, Uc]; intro hn; (repeat' split) <;> omega
  by_cases h3 : k = 3
  ·subst h3; apply Lc; rw [Nb]; simp [Dc, Uc]; try omega
  by_cases h4 : k = 4
  ·subst h4; apply Lc; rw [Nb]; simp [Dc, Uc]; try omega
  by_cases h5 : k = 5
  ·subst h5; apply Lc; rw [Nb]; simp [Dc, Uc]; try omega
  by_cases h6 : k = 6
  ·subst h6; apply Lc; rw [Nb]; simp [Dc, Uc]; try omega
  by_cases h7 : k = 7
  ·subst h7; apply Lc; rw [Nb]; simp [Dc, Uc]; try omega
  by_cases h8 : k = 8
  ·subst h8; apply Lc; rw [Nb]; simp [Dc, Uc]; try omega
  by_cases h9 : k = 9
  ·subst h9; apply Lc; rw [Nb]; simp [Dc, Uc]; try omega
  by_cases h10 : k = 10
  ·subst h10; apply Lc; rw [Nb]; simp [Dc, Uc]; try omega
  have g : ∀ j : Int, (k == j) = decide (k = j) := fun j => by rw [Bool.eq_iff_iff]; simp
  apply Lc; rw [Nb]; simp [Dc, Uc, h0, h1, h2, h3, h4, h5, h6, h7, h8, h9, h10]
 exact key k c m n
noncomputable def Ai (nl : Nat) (i : Nat) (a : Ya) : Bool := Mc a && !(((i : Int) == 0) && (a.1 == 1)) && !((a.1 != 9) && decide (a.2.2.2.1 ≥ (nl : Int)))
noncomputable def Rj (keys : Int) (nl : Nat) (i : Nat) (l : List Ya) : Bool := ((ja l : Int) == keys) && Bf (fun _ a => Ai nl i a) 0 l
noncomputable def Ec (m : Ea) : Bool :=
 decide (1 ≤ m.1 ∧ m.1 ≤ 32) && decide (1 ≤ m.2.1.length ∧ m.2.1.length ≤ 4) && Bf (fun i l => Rj m.1 m.2.1.length i l) 0 m.2.1
theorem XG (m : Ea) (i : Nat) (l : List Ya) (L : List (List Ya)) (n : Int) (t : Int) (hl : l.length < 9223372036854775807) :
 Ri (((), (i : Int), L, n, t, l, (l.length : Int), (0 : Int), ()), (m, ())) =
  some (cond (Bf (fun _ a => Ai m.2.1.length i a) 0 l) (.inl (((), L, n, t, ()), (m, ()))) (.inr ((false, ()), ()))) := by
 unfold Ri
 refine Dg (step := _) l (fun _ a => Ai m.2.1.length i a) (fun j => (((), (i : Int), L, n, t, l, (l.length : Int), j, ()), (m, ()))) _ _ ?_ ?_ hl
 ·intro k hk
  simp only [Jr]
  rw [Ia (show (k : Int) < (l.length : Int) by omega), Sc hk]
  simp only [yt, jb, Ai, Us]
  cases Mc l[k] <;> cases ((i : Int) == 0) <;> cases (l[k].1 == 1) <;> cases (l[k].1 != 9) <;> cases decide (l[k].2.2.2.1 ≥ (m.2.1.length : Int)) <;> rfl
 ·simp [Jr]
theorem Rm (m : Ea) (hz : Pb Oa m ≤ Na) : Hi m = some (Ec m, ()) := by
 have h20 : Na = 1048576 := rfl
 have hz' : m.2.1.length + (yq (Pb (.sl Sb)) m.2.1).sum ≤ Na := by
  have : Pb Oa m = Pb (.sl (.sl Sb)) m.2.1 := by simp only [Pb, qy, js]
  rw [this] at hz; exact hz
 have hl : ∀ k (hk : k < m.2.1.length), m.2.1[k].length ≤ Na := by
  intro k hk
  have := Kn (f := Pb (.sl Sb)) hk
  have h2 : m.2.1[k].length ≤ Pb (.sl Sb) m.2.1[k] := Nat.le_add_right _ _
  omega
 have hloop : Qi (((), m.2.1, ((ja m.2.1 : Nat) : Int), (0 : Int), ()), (m, ())) =
  some (cond (Bf (fun i l => Rj m.1 m.2.1.length i l) 0 m.2.1) (.inl ((), ())) (.inr ((false, ()), ()))) := by
  unfold Qi
  refine Dg (step := _) m.2.1 (fun i l => Rj m.1 m.2.1.length i l) (fun j => (((), m.2.1, ((ja m.2.1 : Nat) : Int), j, ()), (m, ()))) _ _ ?_ ?_ (by omega)
  ·intro k hk
   have := hl k hk
   simp only [Ir]
   rw [Ia (show (k : Int) < (m.2.1.length : Int) by omega), Sc hk]
   simp only [yt, jb, Rj]
   rw [XG m k _ _ _ _ (by omega)]
   show (cond (!((m.2.1[k].length : Int) == m.1)) _ _) = _
   cases ((m.2.1[k].length : Int) == m.1) <;> cases Bf (fun _ a => Ai m.2.1.length k a) 0 m.2.1[k] <;> rfl
  ·simp [Ir]
 unfold Hi
 rw [hloop]
 simp only [jb, FL, Jm, Km]
 apply Lc
 simp only [Uc, Ec, jd, decide_eq_true_eq, jq, and_false, false_or, and_true, or_false]
 generalize Bf (fun i l => Rj m.1 m.2.1.length i l) 0 m.2.1 = b
 constructor
 ·rintro ⟨h1, h2, h3, h4, h5⟩; exact ⟨⟨by omega, by omega⟩, h5⟩
 ·rintro ⟨⟨h1, h2⟩, h5⟩; exact ⟨by omega, by omega, by omega, by omega, h5⟩
theorem NH (m : Ea) (i : Nat) (hi : i < m.2.1.length) (hl : m.2.1[i].length < 9223372036854775807) :
 Yi (((), (i : Int), (0 : Int), ()), (m, ())) =
  some (cond (Bf (fun _ a => Ai m.2.1.length i a) 0 m.2.1[i]) (.inl (((), (i : Int), ()), (m, ()))) (.inr ((false, ()), ()))) := by
 unfold Yi
 refine Dg (step := _) m.2.1[i] (fun _ a => Ai m.2.1.length i a) (fun j => (((), (i : Int), j, ()), (m, ()))) _ _ ?_ ?_ hl
 ·intro k hk
  simp only [Mr]
  rw [Sc hi]
  simp only [jb]
  rw [Ia (show (k : Int) < (m.2.1[i].length : Int) by omega), Sc hk]
  simp only [yt, jb, Ai, Bn]
  cases Mc m.2.1[i][k] <;> cases ((i : Int) == 0) <;> cases (m.2.1[i][k].1 == 1) <;> cases (m.2.1[i][k].1 != 9) <;> cases decide (m.2.1[i][k].2.2.2.1 ≥ (m.2.1.length : Int)) <;> rfl
 ·simp [Mr, Sc hi]
theorem Cn (m : Ea) (hz : Pb Oa m ≤ Na) : Ji m = some (Ec m, ()) := by
 have h20 : Na = 1048576 := rfl
 have hz' : m.2.1.length + (yq (Pb (.sl Sb)) m.2.1).sum ≤ Na := by
  have : Pb Oa m = Pb (.sl (.sl Sb)) m.2.1 := by simp only [Pb, qy, js]
  rw [this] at hz; exact hz
 have hl : ∀ k (hk : k < m.2.1.length), m.2.1[k].length ≤ Na := by
  intro k hk
  have := Kn (f := Pb (.sl Sb)) hk
  have h2 : m.2.1[k].length ≤ Pb (.sl Sb) m.2.1[k] := Nat.le_add_right _ _
  omega
 have hloop : Xi (((), (0 : Int), ()), (m, ())) =
  some (cond (Bf (fun i l => Rj m.1 m.2.1.length i l) 0 m.2.1) (.inl (((), ()), (m, ()))) (.inr ((false, ()), ()))) := by
  unfold Xi
  refine Dg (step := _) m.2.1 (fun i l => Rj m.1 m.2.1.length i l) (fun j => (((), j, ()), (m, ()))) _ _ ?_ ?_ (by omega)
  ·intro k hk
   have := hl k hk
   simp only [Lr]
   rw [Ia (show (k : Int) < (m.2.1.length : Int) by omega), Sc hk]
   simp only [yt, jb, Rj]
   rw [NH m k hk (by omega)]
   show (cond (!((m.2.1[k].length : Int) == m.1)) _ _) = _
   cases ((m.2.1[k].length : Int) == m.1) <;> cases Bf (fun _ a => Ai m.2.1.length k a) 0 m.2.1[k] <;> rfl
  ·simp [Lr]
 unfold Ji
 rw [hloop]
 simp only [jb, FL, Jm, Km, Lf]
 apply Lc
 simp only [Uc, Ec, jd, decide_eq_true_eq, jq, and_false, false_or, and_true, or_false]
 generalize Bf (fun i l => Rj m.1 m.2.1.length i l) 0 m.2.1 = b
 constructor
 ·rintro ⟨h1, h2, h3⟩; exact ⟨⟨by omega, by omega⟩, h1⟩
 ·rintro ⟨⟨h1, h2⟩, h5⟩; exact ⟨h5, by omega, by omega⟩
theorem A8 {n : Nat} (h : n ≤ 62) : Ck .i64 1 (n : Int) = ((2 ^ n : Nat) : Int) := by
 unfold Ck
 have h1 : min (jy (n : Int)) (IntKind.bits .i64) = n := by
  show min (jy (n : Int)) 64 = n
  rw [jn]; omega
 rw [h1, Int.one_mul]
 have h2 : (2 : Int) ^ n = ((2 ^ n : Nat) : Int) := by simp
 have h3 : 2 ^ n ≤ 2 ^ 62 := Nat.pow_le_pow_right (by omega) h
 rw [h2]
 clear h1 h2
 generalize 2 ^ n = z at h3
 rw [Fh (by omega) (by omega)]
structure Lu (m : Ea) : Prop where
 k1 : 1 ≤ m.1
 k2 : m.1 ≤ 32
 l1 : 1 ≤ m.2.1.length
 l2 : m.2.1.length ≤ 4
 row : ∀ i (h : i < m.2.1.length), (m.2.1[i].length : Int) = m.1
 act : ∀ i (h : i < m.2.1.length) k (hk : k < m.2.1[i].length), Ai m.2.1.length i m.2.1[i][k] = true
theorem Wg {m : Ea} (h : Ec m = true) : Lu m := by
 simp only [Ec, jd, decide_eq_true_eq] at h
 obtain ⟨⟨h1, h2⟩, h3⟩ := h
 rw [Aj] at h3
 refine ⟨h1.1, h1.2, h2.1, h2.2, fun i hi => ?_, fun i hi k hk => ?_⟩
 ·have := h3 i hi
  simp only [js, Rj, jd, beq_iff_eq] at this
  exact this.1
 ·have := h3 i hi
  simp only [js, Rj, jd, beq_iff_eq] at this
  have := Aj.1 this.2 k hk
  simpa using this
theorem YP {nl i : Nat} {a : Ya} (h : Ai nl i a = true) : Mc a = true := by
 simp only [Ai, jd] at h
 exact h.1.1
theorem HT {nl i : Nat} {a : Ya} (h : Ai nl i a = true) (hk : a.1 ≠ 9) : a.2.2.2.1 < (nl : Int) := by
 simp only [Ai, jd, yc, Bool.and_eq_false_iff] at h
 rcases h.2 with h | h
 ·simp at h; exact absurd h hk
 ·simpa using h
def Rt (m k : Int) : Int := Hr .i64 (CB .i64 m k) 1
theorem YF (m : Int) {k : Int} (h : 0 ≤ k) : Qu m k = some (Rt m k, ()) := by
 unfold Qu
 rw [Ia h]; rfl
def Saj : Ya := (0, 0, 0, 0, ())
def Qo (L : List (List Ya)) (i k : Nat) : Ya := (L.getD i []).getD k Saj
theorem JG {L : List (List Ya)} {i k : Nat} (hi : i < L.length) (hk : k < L[i].length) : Qo L i k = L[i][k] := by
 simp [Qo, qd, hi, hk]
theorem KW {α : Type} {L : List (List Ya)} {i k : Nat} (hi : i < L.length) (hk : k < L[i].length) (K : Ya → Option α) :
 (jz (Ac L (i : Int)) fun x => jz (Ac x (k : Int)) K) = K (Qo L i k) := by
 rw [Sc hi]
 simp only [jb]
 rw [Sc hk, JG hi hk]
 rfl
def Vd (L : List (List Ya)) (on : Int) (k : Nat) : Nat → Nat
 | 0 => 0
 | n + 1 => cond ((Rt on ((n + 1 : Nat) : Int) == 1) && ((Qo L (n + 1) k).1 != 1)) (n + 1) (Vd L on k n)
theorem JD {L : List (List Ya)} {on : Int} {k : Nat} : ∀ n, Vd L on k n ≤ n
 | 0 => jo _
 | n + 1 => by
  simp only [Vd]
  cases ((Rt on ((n + 1 : Nat) : Int) == 1) && ((Qo L (n + 1) k).1 != 1)) with
  | true => exact jo _
  | false => exact Nat.le_succ_of_le (JD n)
theorem Ky {m : Ea} (hm : Lu m) (on : Int) {k : Nat} (hk : (k : Int) < m.1) : ∀ n : Nat, n < m.2.1.length →
 Rf ((on, (k : Int), (), (n : Int), ()), (m, ())) = some (cond (Vd m.2.1 on k n == 0) (.inl ((), ())) (.inr ((((Vd m.2.1 on k n : Nat) : Int), ()), ())))
 | 0, _ => by
  unfold Rf
  rw [Du]
  rfl
 | n + 1, h => by
  have hrow := hm.row (n + 1) h
  unfold Rf
  rw [Du]
  simp only [Lx]
  rw [Ia (show (((n + 1 : Nat) : Int)) > 0 by omega), YF on (show (0 : Int) ≤ ((n + 1 : Nat) : Int) by omega)]
  simp only [yt, jb]
  rw [KW h (by omega), Fh (by have := hm.l2; omega) (by have := hm.l2; omega), show (((n + 1 : Nat) : Int) - 1) = (n : Int) by omega]
  have ih := Ky hm on hk n (by omega)
  unfold Rf at ih
  simp only [Vd]
  cases h1 : (Rt on ((n + 1 : Nat) : Int) == 1) with
  | false =>
   simp only [Bool.false_and, yu, jb, qe]
   exact ih
  | true =>
   cases h2 : ((Qo m.2.1 (n + 1) k).1 != 1) with
   | true => rfl
   | false =>
    simp only [Bool.and_false, yt, yu, jb, qe]
    exact ih
theorem QI {m : Ea} (hm : Lu m) (on : Int) {k : Nat} (hk : (k : Int) < m.1) :
 Gq m on (k : Int) = some (((Vd m.2.1 on k (m.2.1.length - 1) : Nat) : Int), ()) := by
 have h1 := hm.l1
 have h2 := hm.l2
 unfold Gq
 rw [Fh (by omega) (by omega), show ((m.2.1.length : Int) - 1) = ((m.2.1.length - 1 : Nat) : Int) by omega, Ky hm on hk _ (by omega)]
 cases h : (Vd m.2.1 on k (m.2.1.length - 1) == 0) with
 | false => rfl
 | true =>
  have h' : Vd m.2.1 on k (m.2.1.length - 1) = 0 := by simpa using h
  rw [h']; rfl
theorem Xy {m : Ea} (hm : Lu m) (on : Int) {k : Nat} (hk : (k : Int) < m.1) : ∀ n : Nat, n < m.2.1.length →
 Sf ((on, (k : Int), (), (n : Int), ()), (m, ())) = some (cond (Vd m.2.1 on k n == 0) (.inl ((), ())) (.inr ((((Vd m.2.1 on k n : Nat) : Int), ()), ())))
 | 0, _ => by
  unfold Sf
  rw [Du]
  rfl
 | n + 1, h => by
  have hrow := hm.row (n + 1) h
  unfold Sf
  rw [Du]
  simp only [Ux]
  rw [Ia (show (((n + 1 : Nat) : Int)) > 0 by omega), Ia (show (0 : Int) ≤ ((n + 1 : Nat) : Int) by omega)]
  simp only [yt]
  rw [KW h (by omega), Fh (by have := hm.l2; omega) (by have := hm.l2; omega), show (((n + 1 : Nat) : Int) - 1) = (n : Int) by omega]
  have ih := Xy hm on hk n (by omega)
  unfold Sf at ih
  simp only [Vd]
  show jz (cond (Rt on ((n + 1 : Nat) : Int) == 1) _ _) _ = _
  cases h1 : (Rt on ((n + 1 : Nat) : Int) == 1) with
  | false =>
   simp only [Bool.false_and, yu, jb, qe]
   exact ih
  | true =>
   cases h2 : ((Qo m.2.1 (n + 1) k).1 != 1) with
   | true => rfl
   | false =>
    simp only [Bool.and_false, yt, yu, jb, qe]
    exact ih
def Un (m : Ea) (on : Int) (k : Nat) : Nat := Vd m.2.1 on k (m.2.1.length - 1)
theorem KD {m : Ea} (hm : Lu m) (on : Int) (k : Nat) : Un m on k < m.2.1.length := by
 have := JD (L := m.2.1) (on := on) (k := k) (m.2.1.length - 1)
 have := hm.l1
 unfold Un
 omega
theorem IJ {m : Ea} (hz : Pb Oa m ≤ Na) (hv : Ec m = true) (on : Int) {k : Nat} (hk : (k : Int) < m.1) :
 Fu m on (k : Int) = some (((Un m on k : Nat) : Int), ()) := by
 have hm := Wg hv
 have h1 := hm.l1
 have h2 := hm.l2
 have h3 := hm.k2
 unfold Fu
 rw [Cn m hz, hv, Fh (n := m.1 - 1) (by omega) (by omega)]
 simp only [jb, jg, yu, Lf]
 rw [Ia (show (0 : Int) ≤ (k : Int) ∧ (k : Int) ≤ m.1 - 1 by omega), Fh (by omega) (by omega), show ((m.2.1.length : Int) - 1) = ((m.2.1.length - 1 : Nat) : Int) by omega, Xy hm on hk _ (by omega)]
 simp only [jg, yu, jb]
 show _ = some (((Vd m.2.1 on k (m.2.1.length - 1) : Nat) : Int), ())
 cases h : (Vd m.2.1 on k (m.2.1.length - 1) == 0) with
 | false => rfl
 | true =>
  have h' : Vd m.2.1 on k (m.2.1.length - 1) = 0 := by simpa using h
  rw [h']; rfl
theorem LH {m : Ea} (hz : Pb Oa m ≤ Na) (hv : Ec m = true) (on : Int) {k : Nat} (hk : (k : Int) < m.1) :
 Vn m on (k : Int) = some (Qo m.2.1 (Un m on k) k, ()) := by
 have hm := Wg hv
 have hl := KD hm on k
 have hrow := hm.row _ hl
 unfold Vn
 rw [IJ hz hv on hk]
 simp only [jb]
 rw [Ja (by omega)]
 simp only [yu]
 rw [KW hl (by omega)]
noncomputable def Ti (a : Ya) : Bool := Mc a && ((a.1 == 6) || (a.1 == 7))
noncomputable def Xx (a : Ya) : Ya := cond (Ti a) (2, a.2.1, 0, 0, ()) a
theorem HF (a : Ya) : Vl a = some (Ti a, ()) := by
 unfold Vl Ti
 rw [Us]
 cases Mc a <;> cases (a.1 == 6) <;> rfl
theorem Mw (a : Ya) : Kj a = some (Ti a, ()) := by
 unfold Kj Ti
 rw [Bn]
 cases Mc a <;> cases (a.1 == 6) <;> rfl
theorem JM (a : Ya) : Tw a = some (Xx a, ()) := by
 unfold Tw Xx
 rw [HF]
 cases Ti a <;> rfl
theorem SM (a : Ya) : Xw a = some (Xx a, ()) := by
 unfold Xw Xx
 rw [Mw]
 cases Ti a <;> rfl
def Ue {α : Type} (p : α → Bool) : Nat → List α → Int
 | _, [] => -1
 | k, x :: xs => cond (p x) (k : Int) (Ue p (k + 1) xs)
def UY {α β : Type} : α ⊕ β → Bool
 | .inl _ => true
 | .inr _ => false
noncomputable def Jt (s : Int) (x : Qa) : Bool := decide (0 ≤ x.1 ∧ x.1 ≤ 31) && (!(Rt s x.1 == 1) && (Mc x.2.1 && (!(x.2.1.1 == 1) && (!(x.2.1.1 == 6) && !(x.2.1.1 == 7)))))
noncomputable def Iv (s : Int) (x : Qa) : Int ⊕ Unit := cond (Jt s x) (.inl (Zd .i64 s (Ck .i64 1 x.1))) (.inr ())
noncomputable def IW (l : List Qa) : Int ⊕ Unit := Hg (fun _ s x => Iv s x) 0 0 l
noncomputable def Ei (l : List Qa) : Bool := UY (IW l)
theorem Tz (l : List Qa) (hn : l.length ≤ Na) : Dj l = some (Ei l, ()) := by
 have h20 : Na = 1048576 := rfl
 have hl := Yr (step := fun x => Vo x.1.1 x.1.2.1 x.1.2.2.1 x.1.2.2.2.1) l (fun _ s x => Iv s x) (fun s i => ((s, l, ((ja l : Nat) : Int), i, ()), ()))
  (fun _ => .inl ((), ())) (fun _ => .inr ((false, ()), ())) (fun _ _ => True) (by
   intro k hk s _
   refine ⟨?_, fun _ _ => trivial⟩
   simp only [Vo]
   rw [Ia (show (k : Int) < (ja l : Int) by omega), Sc hk]
   simp only [yt, jb]
   generalize l[k] = x
   simp only [Iv, Jt, Us, jb]
   by_cases h1 : 0 ≤ x.1
   ·rw [Ja (show ¬ x.1 < 0 by omega), YF s h1]
    by_cases h2 : x.1 ≤ 31
    ·rw [Ja (show ¬ x.1 > 31 by omega), Ia (show 0 ≤ x.1 ∧ x.1 ≤ 31 from ⟨h1, h2⟩), Ia h1]
     simp only [jb, yu]
     cases Rt s x.1 == 1 <;> cases Mc x.2.1 <;> cases x.2.1.1 == 1 <;> cases x.2.1.1 == 6 <;> cases x.2.1.1 == 7 <;> rfl
    ·rw [Ia (show x.1 > 31 by omega), Ja (show ¬ (0 ≤ x.1 ∧ x.1 ≤ 31) by omega)]; rfl
   ·rw [Ia (show x.1 < 0 by omega), Ja (show ¬ (0 ≤ x.1 ∧ x.1 ≤ 31) by omega)]; rfl)
  (by
   intro s _
   simp only [Vo]
   rw [Ja (by omega)]; rfl) (by omega) 0 trivial
 unfold Dj Bq
 erw [hl]
 show jz (some _) _ = _
 simp only [jb, Ei, IW]
 cases Hg (fun x s x => Iv s x) 0 0 l <;> rfl
theorem CA (l : List Qa) (hn : l.length ≤ Na) : Bl l = some (Ei l, ()) := by
 have h20 : Na = 1048576 := rfl
 have hl := Yr (step := fun x => Gp x.1.1 x.1.2.1 x.1.2.2.1) l (fun _ s x => Iv s x) (fun s i => ((l, s, i, ()), ()))
  (fun _ => .inl ((), ())) (fun _ => .inr ((false, ()), ())) (fun _ _ => True) (by
   intro k hk s _
   refine ⟨?_, fun _ _ => trivial⟩
   simp only [Gp]
   rw [Ia (show (k : Int) < (ja l : Int) by omega), Sc hk]
   simp only [yt, jb]
   generalize l[k] = x
   simp only [Iv, Jt, Bn, Mw, Lf, jb, Ti]
   by_cases h1 : 0 ≤ x.1 ∧ x.1 ≤ 31
   ·rw [Ia h1, Ia h1.1]
    simp only [Rt]
    cases Hr .i64 (CB .i64 s x.1) 1 == 1 <;> cases Mc x.2.1 <;> cases x.2.1.1 == 1 <;> cases x.2.1.1 == 6 <;> cases x.2.1.1 == 7 <;> rfl
   ·rw [Ja h1]; rfl)
  (by
   intro s _
   simp only [Gp]
   rw [Ja (by omega)]; rfl) (by omega) 0 trivial
 unfold Bl Mq
 erw [hl]
 show jz (some _) _ = _
 simp only [jb, Ei, IW]
 cases Hg (fun x s x => Iv s x) 0 0 l <;> rfl
structure YN (x : Qa) : Prop where
 lo : 0 ≤ x.1
 hi : x.1 ≤ 31
 act : Mc x.2.1 = true
 n1 : x.2.1.1 ≠ 1
 n6 : x.2.1.1 ≠ 6
 n7 : x.2.1.1 ≠ 7
theorem Jaa {s : Int} {x : Qa} (h : Jt s x = true) : YN x ∧ Rt s x.1 ≠ 1 := by
 simp only [Jt, jd, decide_eq_true_eq, yc, beq_eq_false_iff_ne] at h
 exact ⟨⟨h.1.1, h.1.2, h.2.2.1, h.2.2.2.1, h.2.2.2.2.1, h.2.2.2.2.2⟩, h.2.1⟩
theorem DP : ∀ {l : List Qa} {k : Nat} {s : Int}, UY (Hg (fun _ s x => Iv s x) k s l) = true → ∀ x ∈ l, YN x
 | [], _, _, _, x, hx => by simp at hx
 | y :: l, k, s, h, x, hx => by
  simp only [Hg, Iv] at h
  cases hc : Jt s y with
  | false => rw [hc] at h; simp [UY] at h
  | true =>
   rw [hc] at h
   simp only [yt] at h
   rcases jp.1 hx with rfl | hx
   ·exact (Jaa hc).1
   ·exact DP h x hx
theorem TY {l : List Qa} (h : Ei l = true) : ∀ x ∈ l, YN x := DP h
theorem JL {α : Type} (p : α → Bool) : ∀ (xs : List α) (k : Nat), Ue p k xs = -1 ∨ ∃ j : Nat, j < xs.length ∧ Ue p k xs = ((k + j : Nat) : Int)
 | [], _ => .inl rfl
 | x :: xs, k => by
  simp only [Ue]
  cases p x with
  | true => exact .inr ⟨0, by simp, by simp⟩
  | false =>
   rcases JL p xs (k + 1) with h | ⟨j, h1, h2⟩
   ·exact .inl h
   ·exact .inr ⟨j + 1, by simp; omega, by simp only [yu]; rw [h2]; omega⟩
theorem XC {α : Type} (p : α → Bool) : ∀ (xs : List α) (k : Nat), (Hg (fun k (_ : Unit) x => cond (p x) (.inr (k : Int)) (.inl ())) k () xs : Unit ⊕ Int) = if Ue p k xs = -1 then .inl () else .inr (Ue p k xs)
 | [], _ => rfl
 | x :: xs, k => by
  rcases Bool.eq_false_or_eq_true (p x) with hp | hp
  ·simp only [Hg, Ue, hp, yt]; rw [if_neg (by omega)]
  ·simp only [Hg, Ue, hp, yu]; exact XC p xs (k + 1)
theorem Gz {X R α : Type} {step : X → Option (X ⊕ R)} (xs : List α) (p : α → Bool) (I : Int → X) (no : R) (yes : Int → R)
 (h : ∀ k (hk : k < xs.length), step (I (k : Int)) = some (cond (p xs[k]) (.inr (yes (k : Int))) (.inl (I (j4 .i64 ((k : Int) + 1))))))
 (he : step (I (xs.length : Int)) = some (.inr no)) (hn : xs.length < 9223372036854775807) :
 Kb step (I 0) = some (if Ue p 0 xs = -1 then no else yes (Ue p 0 xs)) := by
 have := Yr (step := step) xs (fun k (_ : Unit) x => cond (p x) (.inr (k : Int)) (.inl ())) (fun _ i => I i) (fun _ => no) yes (fun _ _ => True) (fun k hk s _ => by
  refine ⟨?_, fun _ _ => trivial⟩
  rw [h k hk]
  cases p xs[k] <;> rfl) (fun _ _ => he) hn () trivial
 rw [this, XC]
 by_cases hc : Ue p 0 xs = -1
 ·rw [if_pos hc, if_pos hc]
 ·rw [if_neg hc, if_neg hc]
def Au (c m : Int) (h : Qa) : Bool := (h.2.1.2.1 == c) && (h.2.1.2.2.1 == m)
theorem TK (l : List Qa) (x : Be) (hn : l.length ≤ Na) : Eo l x = some (Ue (Au x.2.1 x.2.2.1) 0 l, ()) := by
 have h20 : Na = 1048576 := rfl
 have hl := Gz (step := fun y => Kp y.1.1 y.1.2.1 y.1.2.2.1 y.2.1) l (Au x.2.1 x.2.2.1) (fun i => ((l, (), i, ()), (x, ())))
  (.inl ((), ())) (fun i => .inr ((i, ()), ())) (by
   intro k hk
   simp only [Kp]
   rw [Ia (show (k : Int) < (ja l : Int) by omega), Sc hk]
   simp only [yt, jb, Au]
   cases l[k].2.1.2.1 == x.2.1 <;> cases l[k].2.1.2.2.1 == x.2.2.1 <;> rfl) (by
   simp only [Kp]
   rw [Ja (by omega)]; rfl) (by omega)
 unfold Eo Qq
 erw [hl]
 simp only [jb]
 by_cases hc : Ue (Au x.2.1 x.2.2.1) 0 l = -1
 ·rw [if_pos hc, hc]; rfl
 ·rw [if_neg hc]; rfl
def FF {α : Type} (l : List α) (r : Nat) : List α := jf (Zc l 0 r) (Zc l (r + 1) l.length)
theorem GY {α : Type} {l : List α} {r : Nat} (h : r < l.length) : Re (ja l) 0 (r : Int) = true ∧ Re (ja l) ((r + 1 : Nat) : Int) ((ja l : Nat) : Int) = true := by
 simp only [Re, jd, decide_eq_true_eq]
 omega
theorem NF (l : List Qa) {r : Nat} (h : r < l.length) (hn : l.length ≤ Na) : Ze l (r : Int) = some (FF l r, ()) := by
 have h20 : Na = 1048576 := rfl
 have hc := GY h
 unfold Ze
 rw [Gj (by omega), hc.1, hc.2]
 have e1 : jx (ja ([] : List Qa) + ja (Zc l (jy 0) (jy (r : Int)))) Mb = true := ji (by simp [Zc]; rw [Li]; omega)
 have e2 : jx (ja (jf ([] : List Qa) (Zc l (jy 0) (jy (r : Int)))) + ja (Zc l (jy ((r + 1 : Nat) : Int)) (jy ((ja l : Nat) : Int)))) Mb = true :=
  ji (by simp [Zc]; rw [Li]; omega)
 rw [e1, e2]
 simp only [yt]
 rfl
noncomputable def XK (x : Be) (r : Int) : Bool := Mc (2, x.2.1, x.2.2.1, 0, ()) && (((x.1 == 0) && !decide (r ≥ 0)) || (((x.1 == 1) && !decide (r ≥ 0)) || ((x.1 == 2) && decide (r ≥ 0))))
def CP (x : Be) : Qa := (0, (2, x.2.1, x.2.2.1, 0, ()), ())
def V1 (x : Be) (L : List Qa) (r : Int) : List Qa := cond (x.1 == 1) (jf L [CP x]) (cond (x.1 == 2) (FF L r.toNat) L)
noncomputable def ND (L : List Qa) (x : Be) : List Qa ⊕ Unit := cond (XK x (Ue (Au x.2.1 x.2.2.1) 0 L)) (.inl (V1 x L (Ue (Au x.2.1 x.2.2.1) 0 L))) (.inr ())
theorem L7 {L L' : List Qa} {x : Be} (h : ND L x = .inl L') : L'.length ≤ L.length + 1 := by
 unfold ND at h
 cases hc : XK x (Ue (Au x.2.1 x.2.2.1) 0 L) with
 | false => rw [hc] at h; simp at h
 | true =>
  rw [hc] at h
  simp only [yt, Sum.inl.injEq] at h
  rw [← h]
  unfold V1
  cases x.1 == 1 with
  | true => simp
  | false =>
   cases x.1 == 2 with
   | true => simp [FF, Zc]; omega
   | false => simp
theorem UM (l : List Be) (k : Nat) (hk : k < l.length) (L : List Qa) (hL : L.length ≤ k) (hn : l.length ≤ Na) :
 Wj l L (k : Int) = some (match ND L l[k] with | .inl L' => .inl ((l, L', j4 .i64 ((k : Int) + 1), ()), ()) | .inr _ => .inr (.inr ((false, ()), ()))) := by
 have h20 : Na = 1048576 := rfl
 simp only [Wj]
 rw [Ia (show (k : Int) < (ja l : Int) by omega), Sc hk]
 simp only [yt, jb]
 rw [TK L l[k] (by omega)]
 simp only [jb, Lf, Yn, Bn, ND, XK, V1, CP]
 generalize hx : l[k] = x
 generalize hr : Ue (Au x.2.1 x.2.2.1) 0 L = r
 have hble : jx (ja L + ja [CP x]) Mb = true := ji (by simp [Li]; omega)
 have hble' : jx (ja L + ja ([((0 : Int), ((2 : Int), x.2.1, x.2.2.1, (0 : Int), ()), ())] : List Qa)) Mb = true := hble
 have hw : decide (r ≥ 0) = true → Ze L r = some (FF L r.toNat, ()) := by
  intro h
  rcases JL (Au x.2.1 x.2.2.1) L 0 with h1 | ⟨j, h1, h2⟩
  ·rw [hr] at h1; rw [h1] at h; simp at h
  ·rw [hr] at h2
   have : r = (j : Int) := by omega
   rw [this, NF L h1 (by omega)]
   simp
 by_cases k0 : x.1 = 0
 ·simp only [k0]
  cases Mc ((2 : Int), x.2.1, x.2.2.1, (0 : Int), ()) <;> cases decide (r ≥ 0) <;> rfl
 by_cases k1 : x.1 = 1
 ·simp only [k1]
  rw [hble']
  cases Mc ((2 : Int), x.2.1, x.2.2.1, (0 : Int), ()) <;> cases decide (r ≥ 0) <;> rfl
 by_cases k2 : x.1 = 2
 ·simp only [k2]
  cases hd : decide (r ≥ 0) with
  | false => cases Mc ((2 : Int), x.2.1, x.2.2.1, (0 : Int), ()) <;> rfl
  | true =>
   rw [hw hd]
   cases Mc ((2 : Int), x.2.1, x.2.2.1, (0 : Int), ()) <;> rfl
 ·have e0 : (x.1 == 0) = false := by simpa using k0
  have e1 : (x.1 == 1) = false := by simpa using k1
  have e2 : (x.1 == 2) = false := by simpa using k2
  rw [Ja (show ¬ (0 ≤ x.1 ∧ x.1 ≤ 2) by omega), e0, e1, e2]
  cases Mc ((2 : Int), x.2.1, x.2.2.1, (0 : Int), ()) <;> rfl
noncomputable def Gaa (l : List Be) : List Qa ⊕ Unit := Hg (fun _ L x => ND L x) 0 [] l
noncomputable def Vs (l : List Be) : Bool := decide (l.length ≤ 8) && (match Gaa l with | .inl L => ((L.length : Int) == 0) | .inr _ => false)
theorem HJ (l : List Be) (hn : l.length ≤ Na) : Nq l = some (Vs l, ()) := by
 have h20 : Na = 1048576 := rfl
 have hl := Yr (step := fun x => Wj x.1.1 x.1.2.1 x.1.2.2.1) l (fun _ L x => ND L x) (fun L i => ((l, L, i, ()), ()))
  (fun L => .inl ((l, L, ()), ())) (fun _ => .inr ((false, ()), ())) (fun k L => L.length ≤ k) (by
   intro k hk L hL
   refine ⟨?_, fun L' h => by have := L7 h; omega⟩
   rw [UM l k hk L hL hn]
   cases ND L l[k] <;> rfl) (by
   intro s _
   simp only [Wj]
   rw [Ja (by omega)]; rfl) (by omega) [] (by simp)
 unfold Nq No
 erw [hl]
 simp only [jb, Vs, Gaa]
 cases Hg (fun x L x => ND L x) 0 [] l with
 | inl L =>
  simp only [qe]
  by_cases h : l.length ≤ 8
  ·rw [Ia (show ((ja l : Nat) : Int) ≤ 8 by omega), Ia h]; rfl
  ·rw [Ja (show ¬ ((ja l : Nat) : Int) ≤ 8 by omega), Ja h]; rfl
 | inr u => cases decide (l.length ≤ 8) <;> rfl
noncomputable def Ao (keys : Int) (nl : Nat) (x : Qa) : Bool := !decide (x.1 ≥ keys) && !((x.2.1.1 != 9) && decide (x.2.1.2.2.2.1 ≥ (nl : Int)))
noncomputable def Et (e : Db) : Bool :=
 Ec e.1 && (decide (e.2.1.length ≤ 4) && (Ei e.2.2.2.1 && (Bf (fun _ m => Vs m) 0 e.2.1 && (Bf (fun _ x => Ao e.1.1 e.1.2.1.length x) 0 e.2.2.2.1 &&
  (decide (0 ≤ e.2.2.1 ∧ e.2.2.1 < ((2 ^ e.1.2.1.length : Nat) : Int)) && ((Int.tmod e.2.2.1 2 == 0) && decide (0 ≤ e.2.2.2.2.1 ∧ e.2.2.2.2.1 ≤ 15)))))))
theorem Pz (e : Db) : Pb Gb e = Pb Oa e.1 + (Pb (.sl (.sl Dh)) e.2.1 + Pb (.sl Rl) e.2.2.2.1) := by
 simp only [Pb, qy, js]
theorem EA (l : List Qa) : Pb (.sl Rl) l = l.length := WB (e := Rl) rfl l
theorem VT (l : List Be) : Pb (.sl Dh) l = l.length := WB (e := Dh) rfl l
theorem C8 {e : Ty} (l : List (T e)) : ja l ≤ Pb (.sl e) l := Nat.le_add_right _ _
theorem Uaa {e : Ty} {l : List (T e)} {k : Nat} (hk : k < ja l) : Pb e (List.get l ⟨k, hk⟩) ≤ Pb (.sl e) l :=
 j8 (Kn (f := Pb e) hk) (Nat.le_add_left _ _)
theorem KJ (e : Db) (hz : Pb Gb e ≤ Na) : Vi (((), (0 : Int), ()), (e, ())) =
 some (cond (Bf (fun _ m => Vs m) 0 e.2.1) (.inl (((), ()), (e, ()))) (.inr ((false, ()), ()))) := by
 have h20 : Na = 1048576 := rfl
 rw [Pz] at hz
 have hl := C8 (e := .sl Dh) e.2.1
 unfold Vi
 refine Dg (step := fun x => Ol x.1.1 x.1.2.1 x.2.1) e.2.1 (fun _ m => Vs m) (fun i => (((), i, ()), (e, ()))) _ _ ?_ ?_ (by omega)
 ·intro k hk
  simp only [Ol]
  have hk2 : (k : Int) < ((ja e.2.1 : Nat) : Int) := by omega
  rw [Ia hk2, Sc hk]
  simp only [yt, jb]
  have he := Uaa (e := .sl Dh) hk
  rw [VT] at he
  rw [HJ e.2.1[k] (by have : (List.get e.2.1 ⟨k, hk⟩) = e.2.1[k] := rfl; rw [this] at he; omega)]
  simp only [jb]
  cases Vs e.2.1[k] <;> rfl
 ·simp only [Ol]
  rw [Ja (by omega)]; rfl
theorem TM (e : Db) (hz : Pb Gb e ≤ Na) : Wi (((), (0 : Int), ()), (e, ())) =
 some (cond (Bf (fun _ x => Ao e.1.1 e.1.2.1.length x) 0 e.2.2.2.1) (.inl (((), ()), (e, ()))) (.inr ((false, ()), ()))) := by
 have h20 : Na = 1048576 := rfl
 rw [Pz, EA] at hz
 unfold Wi
 refine Dg (step := fun x => Pl x.1.1 x.1.2.1 x.2.1) e.2.2.2.1 (fun _ x => Ao e.1.1 e.1.2.1.length x) (fun i => (((), i, ()), (e, ()))) _ _ ?_ ?_ (by omega)
 ·intro k hk
  simp only [Pl]
  have hk2 : (k : Int) < ((ja e.2.2.2.1 : Nat) : Int) := by omega
  rw [Ia hk2, Sc hk]
  simp only [yt, jb, Ao]
  cases decide (e.2.2.2.1[k].1 ≥ e.1.1) <;> cases (e.2.2.2.1[k].2.1.1 != 9) <;> cases decide (e.2.2.2.1[k].2.1.2.2.2.1 ≥ ((ja e.1.2.1 : Nat) : Int)) <;> rfl
 ·simp only [Pl]
  rw [Ja (by omega)]; rfl
theorem Nh (e : Db) (hz : Pb Gb e ≤ Na) : Yf e = some (Et e, ()) := by
 have h20 : Na = 1048576 := rfl
 have hz' := hz
 rw [Pz, EA] at hz'
 unfold Yf Et
 rw [Cn e.1 (by omega)]
 cases hk : Ec e.1 with
 | false => rfl
 | true =>
  simp only [jb, jg, yu, jk]
  by_cases h4 : e.2.1.length ≤ 4
  ·rw [Ja (show ¬ ((ja e.2.1 : Nat) : Int) > 4 by omega), Ia h4, CA _ (by omega)]
   simp only [jb, yu, jk]
   cases hh : Ei e.2.2.2.1 with
   | false => rfl
   | true =>
    simp only [jg, yu, jk]
    rw [KJ e hz]
    have hl := (Wg hk).l2
    cases Bf (fun _ m => Vs m) 0 e.2.1 with
    | false => rfl
    | true =>
     simp only [yt, jb, qe, jk]
     rw [TM e hz]
     cases Bf (fun _ x => Ao e.1.1 e.1.2.1.length x) 0 e.2.2.2.1 with
     | false => rfl
     | true =>
      simp only [yt, jb, qe, jk, Lf]
      have hp : (2 ^ e.1.2.1.length : Nat) ≤ 16 := Nat.pow_le_pow_right (n := 2) (by omega) hl
      rw [A8 (by omega), Ia (show (0 : Int) ≤ ((ja e.1.2.1 : Nat) : Int) by omega)]
      generalize (2 ^ e.1.2.1.length : Nat) = P2 at hp ⊢
      rw [Fh (by omega) (by omega)]
      have e2 : ((2 : Int) == 0) = false := rfl
      rw [e2]
      simp only [yu, yt, jb]
      have e3 : decide (0 ≤ e.2.2.1 ∧ e.2.2.1 ≤ (P2 : Int) - 1) = decide (0 ≤ e.2.2.1 ∧ e.2.2.1 < (P2 : Int)) := by
       rw [decide_eq_decide]; omega
      rw [e3]
      cases decide (0 ≤ e.2.2.1 ∧ e.2.2.1 < (P2 : Int)) <;> cases Int.tmod e.2.2.1 2 == 0 <;> rfl
  ·rw [Ia (show ((ja e.2.1 : Nat) : Int) > 4 by omega), Ja h4]; rfl


def Zg {S : Type} (g : Nat → S → S) : Nat → S → S
 | 0, s => s
 | n + 1, s => g n (Zg g n s)
theorem Ez {X R S : Type} {step : X → Option (X ⊕ R)} (n : Nat) (hn : n < 9223372036854775807) (g : Nat → S → S) (s0 : S) (I : S → Int → X) (out : S → R)
 (h : ∀ k, k < n → step (I (Zg g k s0) (k : Int)) = some (.inl (I (g k (Zg g k s0)) (j4 .i64 ((k : Int) + 1))))) (he : step (I (Zg g n s0) (n : Int)) = some (.inr (out (Zg g n s0)))) :
 Kb step (I s0 0) = some (out (Zg g n s0)) := by
 have := Ny (step := step) (fun k => I (Zg g k s0) (k : Int)) n (out (Zg g n s0)) (fun k hk => by
  rw [h k hk, Gj (by omega)]; rfl) he
 exact this
theorem J5 {e : Ty} {c : Nat} : ∀ {w : List (T e)}, (∀ x ∈ w, Pb e x ≤ c) → Pb (.sl e) w ≤ (c + 1) * w.length
 | [], _ => by simp [Pb]
 | x :: r, h => by
  have h1 := h x (by simp)
  have h2 : Pb (.sl e) r ≤ (c + 1) * r.length := J5 fun y hy => h y (by simp [hy])
  have h3 : Pb (.sl e) r = ja r + (yq (Pb e) r).sum := rfl
  have h4 : Pb (.sl e) (x :: r) = (ja r + 1) + (Pb e x + (yq (Pb e) r).sum) := by simp [Pb]
  rw [h4, jw, Nat.mul_add]
  omega
theorem Pe {n : Nat} (h : n ≤ 1073741824) : jx n Mb = true := ji h
theorem LI {α β : Type} (f : α → β) : ∀ (xs : List α) (k : Nat) (o : List β), Ch (fun _ o x => jf o [f x]) k o xs = o ++ xs.map f
 | [], _, o => by simp [Ch]
 | x :: r, k, o => by
  simp only [Ch]
  rw [LI f r]
  simp
theorem Vv {X R α β : Type} {step : X → Option (X ⊕ R)} (xs : List α) (f : α → β) (I : List β → Int → X) (out : List β → R) (hn : xs.length ≤ 1073741824)
 (h : ∀ k (hk : k < xs.length) (o : List β), ja o = k → step (I o (k : Int)) = some (.inl (I (jf o [f xs[k]]) (j4 .i64 ((k : Int) + 1)))))
 (he : ∀ o : List β, step (I o (xs.length : Int)) = some (.inr (out o))) : Kb step (I [] 0) = some (out (xs.map f)) := by
 have := (Cu (step := step) xs (fun _ o x => jf o [f x]) I out (fun k o => ja o = k) (fun k hk o ho => ⟨h k hk o ho, by simp [ho]⟩) (fun o _ => he o) (by omega) [] rfl).1
 rw [this, LI]
 rfl
theorem E0 (a : List Ya) : Pb (.sl Sb) a = a.length := WB (e := Sb) rfl a
theorem SK (r : Ga) (h : r.2.1.length ≤ Na) : Ov r = some (r, ()) := by
 have h20 : Na = 1048576 := rfl
 unfold Ov
 rw [Pe (by simp; omega)]
 rfl
theorem BH (l : List Int) (h : l.length ≤ Na) : Wf l = some (l, ()) := by
 have h20 : Na = 1048576 := rfl
 unfold Wf
 rw [Pe (by simp; omega)]
 rfl
def Eu (l : List Int) (k : Nat) (x : Int) : Bool := decide (1 ≤ x ∧ x ≤ 56) && (decide (k = 0) || !decide (l.getD (k - 1) 0 ≥ x))
def Ld (r : Ga) : Bool := decide (0 ≤ r.1 ∧ r.1 ≤ 15) && Bf (fun k x => Eu r.2.1 k x) 0 r.2.1
theorem N2 {l : List Int} {k : Nat} (h0 : 0 < k) (hk : k ≤ l.length) (hn : l.length ≤ Na) : Ac l (j4 .i64 ((k : Int) - 1)) = some (l.getD (k - 1) 0) := by
 have h20 : Na = 1048576 := rfl
 rw [Fh (by omega) (by omega), show (k : Int) - 1 = ((k - 1 : Nat) : Int) by omega, Sc (by omega)]
 simp [qm, je (show k - 1 < l.length by omega)]
theorem ZG (r : Ga) (hn : r.2.1.length ≤ Na) : Es r = some (Ld r, ()) := by
 have h20 : Na = 1048576 := rfl
 have hl := Dg (step := fun x => Kl x.1.1 x.1.2.1 x.1.2.2.1 x.1.2.2.2.1 x.2.1) r.2.1 (fun k x => Eu r.2.1 k x) (fun i => (((), r.2.1, ((ja r.2.1 : Nat) : Int), i, ()), (r, ())))
  (.inl ((), ())) (.inr ((false, ()), ())) (by
   intro k hk
   simp only [Kl]
   rw [Ia (show (k : Int) < ((ja r.2.1 : Nat) : Int) by omega), Sc hk]
   simp only [yt, jb, Ru, Eu]
   by_cases h0 : k = 0
   ·subst h0
    rw [Ja (show ¬ ((0 : Nat) : Int) > 0 by omega)]
    simp only [yu]
    cases decide (1 ≤ r.2.1[0] ∧ r.2.1[0] ≤ 56) <;> rfl
   ·rw [Ia (show (k : Int) > 0 by omega), N2 (by omega) (by omega) hn, Ja h0]
    simp only [yt, jb, yj]
    cases decide (1 ≤ r.2.1[k] ∧ r.2.1[k] ≤ 56) <;> cases decide (r.2.1.getD (k - 1) 0 ≥ r.2.1[k]) <;> rfl) (by
   simp only [Kl]
   rw [Ja (by omega)]; rfl) (by omega)
 unfold Es Sm Ld
 by_cases h1 : 0 ≤ r.1 ∧ r.1 ≤ 15
 ·rw [Ja (show ¬ r.1 < 0 by omega), Ja (show ¬ r.1 > 15 by omega), Ia h1]
  simp only [yu, jk]
  erw [hl]
  cases Bf (fun k x => Eu r.2.1 k x) 0 r.2.1 <;> rfl
 ·rw [Ja h1]
  by_cases h2 : r.1 < 0
  ·rw [Ia h2]; rfl
  ·rw [Ja h2, Ia (show r.1 > 15 by omega)]; rfl
theorem p63 : (2 : Nat) ^ 63 = 9223372036854775808 := rfl
theorem VX {a : Nat} (ha : a < 2 ^ 63) : (BitVec.ofInt 64 (a : Int)).toNat = a := by
 rw [BitVec.ofInt_natCast, BitVec.toNat_ofNat, Nat.mod_eq_of_lt (by omega)]
theorem N1 {a b : Nat} (ha : a < 2 ^ 63) (hb : b < 2 ^ 63) : Hr .i64 (a : Int) (b : Int) = ((a &&& b : Nat) : Int) := by
 have h : (BitVec.ofInt (IntKind.bits .i64) (a : Int) &&& BitVec.ofInt (IntKind.bits .i64) (b : Int)).toNat = a &&& b := by
  rw [BitVec.toNat_and]; erw [VX ha, VX hb]
 unfold Hr
 rw [h]
 have h2 : a &&& b ≤ a := Nat.and_le_left
 have h3 := p63
 exact Fh (by omega) (by omega)
theorem P1 (a : Nat) {k : Nat} (hk : k ≤ 64) : CB .i64 (a : Int) (k : Int) = ((a >>> k : Nat) : Int) := by
 unfold CB
 have h1 : min (jy (k : Int)) (IntKind.bits .i64) = k := by
  show min (jy (k : Int)) 64 = k
  rw [jn]; omega
 rw [h1, Nat.shiftRight_eq_div_pow]
 have h2 : (2 : Int) ^ k = ((2 ^ k : Nat) : Int) := by simp
 rw [h2]
 exact (Int.fdiv_eq_ediv_of_nonneg _ (Int.natCast_nonneg _)).trans (by simp)
theorem Y0 {a k : Nat} (ha : a < 2 ^ 63) (hk : k ≤ 64) : (Rt (a : Int) (k : Int) == 1) = a.testBit k := by
 unfold Rt
 have h1 : a >>> k ≤ a := by rw [Nat.shiftRight_eq_div_pow]; exact Nat.div_le_self _ _
 have h3 := p63
 rw [P1 a hk]
 show (Hr .i64 ((a >>> k : Nat) : Int) ((1 : Nat) : Int) == 1) = _
 rw [N1 (by omega) (by omega), Nat.and_one_is_mod, Nat.testBit_eq_decide_div_mod_eq, Nat.shiftRight_eq_div_pow]
 have : a / 2 ^ k % 2 = 0 ∨ a / 2 ^ k % 2 = 1 := by omega
 rcases this with h | h <;> rw [h] <;> rfl
def cnt : Nat → Nat → Nat
 | 0, _ => 0
 | k + 1, n => n % 2 + cnt k (n / 2)
def u1 (a : Nat) : Nat := ((a / 2) &&& 85) + (a &&& 85)
def u2 (a : Nat) : Nat := ((a / 4) &&& 51) + (a &&& 51)
theorem m3 : ∀ a : Fin 64, ∀ c : Fin 4, (a.val &&& 51) = (a.val + 64 * c.val) &&& 51 := by decide +kernel
def M5 : Nat := 6148914691236517205
def M3 : Nat := 3689348814741910323
def MF : Nat := 1085102592571150095
def s1 (n : Nat) : Nat := (n / 2 &&& M5) + (n &&& M5)
def s2 (n : Nat) : Nat := (n / 4 &&& M3) + (n &&& M3)
def s3 (n : Nat) : Nat := (n / 16 + n) &&& MF




theorem LP {m : Ea} (hz : Pb Oa m ≤ Na) : ja m.2.1 ≤ Na ∧ ∀ k (hk : k < m.2.1.length), m.2.1[k].length ≤ Na := by
 have h0 : Pb Oa m = 0 + (Pb (.sl (.sl Sb)) m.2.1 + 0) := rfl
 have h1 : Pb (.sl (.sl Sb)) m.2.1 = ja m.2.1 + (yq (Pb (.sl Sb)) m.2.1).sum := rfl
 refine ⟨by omega, fun k hk => ?_⟩
 have h2 := Kn (f := Pb (.sl Sb)) hk
 rw [E0] at h2
 omega
theorem DD (m : Ea) (hz : Pb Oa m ≤ Na) : Xo m = some (m, ()) := by
 have h20 : Na = 1048576 := rfl
 obtain ⟨h1, h2⟩ := LP hz
 have hl := Vv (step := fun x : (Unit × Unit × List (List Ya) × Int × Int × Unit) × Ea × Ea × Unit => Xj x.1.1 x.1.2.1 x.1.2.2.1 x.1.2.2.2.1 x.1.2.2.2.2.1 x.2.1 x.2.2.1) m.2.1 (fun x => x)
  (fun o k => (((), (), m.2.1, (m.2.1.length : Int), k, ()), ((0, [], ()), (m.1, o, ()), ()))) (fun o => .inl (((), (), ()), ((0, [], ()), (m.1, o, ()), ()))) (by omega) (fun k hk o ho => by
   have := h2 k hk
   simp only [Xj]
   rw [Ia (by omega), Sc hk]
   simp only [yt, jb]
   rw [Pe (by simp; omega), Pe (by simp only [jw, j6]; omega)]
   rfl) (fun o => by
   simp only [Xj]
   rw [Ja (by omega)]
   rfl)
 unfold Xo Tk
 erw [hl]
 rw [List.map_id']
 rfl
theorem RK (m : Ea) (hz : Pb Oa m ≤ Na) : Nv m = some (m, ()) := by
 have h20 : Na = 1048576 := rfl
 obtain ⟨h1, h2⟩ := LP hz
 have hl := Vv (step := fun x : (Unit × Unit × Unit × Int × Unit) × Ea × Ea × Ea × Unit => Jp x.1.1 x.1.2.1 x.1.2.2.1 x.1.2.2.2.1 x.2.1 x.2.2.1 x.2.2.2.1) m.2.1 (fun x => x)
  (fun o k => (((), (), (), k, ()), (m, (0, [], ()), (m.1, o, ()), ()))) (fun o => .inl (((), (), ()), ((0, [], ()), (m.1, o, ()), ()))) (by omega) (fun k hk o ho => by
   have := h2 k hk
   simp only [Jp]
   rw [Ia (by omega), Sc hk]
   simp only [yt, jb]
   rw [Pe (by simp; omega), Pe (by simp only [jw, j6]; omega)]
   rfl) (fun o => by
   simp only [Jp]
   rw [Ja (by omega)]
   rfl)
 unfold Nv Pq
 erw [hl]
 rw [List.map_id']
 rfl
theorem ZL {L : List (List Be)} (hz : Pb (.sl (.sl Dh)) L ≤ Na) : ja L ≤ Na ∧ ∀ k (hk : k < L.length), L[k].length ≤ Na := by
 have h1 : Pb (.sl (.sl Dh)) L = ja L + (yq (Pb (.sl Dh)) L).sum := rfl
 refine ⟨by omega, fun k hk => ?_⟩
 have h2 := Kn (f := Pb (.sl Dh)) hk
 rw [VT] at h2
 omega
theorem ED (L : List (List Be)) (hz : Pb (.sl (.sl Dh)) L ≤ Na) : Yo L = some (L, ()) := by
 have h20 : Na = 1048576 := rfl
 obtain ⟨h1, h2⟩ := ZL hz
 have hl := Vv (step := fun x => Yj x.1.1 x.1.2.1 x.1.2.2.1 x.1.2.2.2.1) L (fun x => x)
  (fun o k => ((o, L, ((ja L : Nat) : Int), k, ()), ())) (fun o => .inl ((o, ()), ())) (by omega) (fun k hk o ho => by
   have := h2 k hk
   simp only [Yj]
   rw [Ia (by omega), Sc hk]
   simp only [yt, jb]
   rw [Pe (by simp; omega), Pe (by simp only [jw, j6]; omega)]
   rfl) (fun o => by
   simp only [Yj]
   rw [Ja (by omega)]
   rfl)
 unfold Yo Uk
 erw [hl]
 rw [List.map_id']
 rfl
theorem Tv (e : Db) (hz : Pb Gb e ≤ Na) : Jk e = some (e, ()) := by
 have h20 : Na = 1048576 := rfl
 rw [Pz, EA] at hz
 unfold Jk
 rw [DD _ (by omega), ED _ (by omega), Pe (by simp; omega)]
 rfl
theorem Ar (e : Db) (hz : Pb Gb e ≤ Na) : Fj e = some (e, ()) := by
 have h20 : Na = 1048576 := rfl
 rw [Pz, EA] at hz
 obtain ⟨h1, h2⟩ := ZL (L := e.2.1) (by omega)
 have hl := Vv (step := fun x => Lp x.1.1 x.1.2.1 x.1.2.2.1 x.1.2.2.2.1 x.2.1 x.2.2.1 x.2.2.2.1) e.2.1 (fun x => x)
  (fun o k => (((), (), (), k, ()), (e, (((0 : Int), ([] : List (List Ya)), ()), ([] : List (List Be)), (0 : Int), ([] : List Qa), (0 : Int), false, ()), (e.1, o, e.2.2), ())))
  (fun o => .inl (((), (), (), ()), (e, (((0 : Int), ([] : List (List Ya)), ()), ([] : List (List Be)), (0 : Int), ([] : List Qa), (0 : Int), false, ()), (e.1, o, e.2.2), ()))) (by omega) (fun k hk o ho => by
   have := h2 k hk
   simp only [Lp]
   rw [Ia (by omega), Sc hk]
   simp only [yt, jb]
   rw [Pe (by simp; omega), Pe (by simp only [jw, j6]; omega)]
   rfl) (fun o => by
   simp only [Lp]
   rw [Ja (by omega)]
   rfl)
 unfold Fj Rq
 rw [RK _ (by omega)]
 simp only [jb]
 erw [hl]
 rw [List.map_id']
 simp only [jb, qe]
 rw [Pe (by simp; omega)]
 rfl
theorem JP : ∀ (a b : List Int), a.length = b.length → Bf (fun k x => b.getD k 0 == x) 0 a = (b == a)
 | a, b, h => by
  rw [Bool.eq_iff_iff, Aj, beq_iff_eq]
  constructor
  ·intro hj
   apply List.ext_getElem h.symm
   intro i h1 h2
   have := hj i h2
   rw [js, beq_iff_eq, qd, je h1] at this
   exact this
  ·rintro rfl i hi
   rw [js, beq_iff_eq, qd, je hi]; rfl
theorem CH (a b : List Int) (hn : a.length ≤ Mb) : Is a b = some (a == b, ()) := by
 have hlim := Li
 unfold Is
 by_cases h : a.length = b.length
 ·have hl := Dg (step := fun x => Ml x.1.1 x.1.2.1 x.1.2.2.1 x.1.2.2.2.1) a (fun k x => b.getD k 0 == x) (fun i => ((a, b, ((ja a : Nat) : Int), i, ()), ()))
   (.inl ((), ())) (.inr ((false, ()), ())) (by
    intro k hk
    simp only [Ml]
    rw [Ia (show (k : Int) < ((ja a : Nat) : Int) by omega), Sc hk, Sc (show k < b.length by omega), qd, je (show k < b.length by omega)]
    simp only [yt, jb, qs, bne]
    rw [show (a[k] == b[k]) = (b[k] == a[k]) by rw [Bool.eq_iff_iff, beq_iff_eq, beq_iff_eq]; exact eq_comm]
    cases b[k] == a[k] <;> rfl) (by
    simp only [Ml]
    rw [Ja (by omega)]; rfl) (by omega)
  have e : (((ja a : Nat) : Int) != ((ja b : Nat) : Int)) = false := by simp [h]
  rw [e]
  simp only [yu]
  unfold Wm
  erw [hl]
  rw [JP a b h, show (b == a) = (a == b) by rw [Bool.eq_iff_iff, beq_iff_eq, beq_iff_eq]; exact eq_comm]
  cases a == b <;> rfl
 ·have e : (((ja a : Nat) : Int) != ((ja b : Nat) : Int)) = true := by simp; omega
  have e2 : (a == b) = false := by rw [beq_eq_false_iff_ne]; intro hh; exact h (by rw [hh])
  rw [e, e2]; rfl
theorem V2 (a b : T Ge) (h1 : ja a.2.1 ≤ Mb) (_ : ja b.2.1 ≤ Mb) : (fun x : T (.p Ge (.p Ge .u)) => Ik x.1 x.2.1) (a, b, ()) = some (Nf a b, ()) := by
 show Ik a b = _
 unfold Ik
 rw [CH _ _ h1]
 simp only [jb, Nf]
 cases (show Int from a.1) == (show Int from b.1) <;> rfl
theorem BY (c : T Ed → T Ed → Option Bool) (l : List (T Ed)) (hl : ja l ≤ Mb) : ∀ (ys : List (T Ed)) (k : Nat) (out q : List (T Ed)) (a : T Ed), l.drop k = ys → k ≤ ja l → ja out + ja ys ≤ Mb →
 VA c a ys = some q → Zn c (((), out, l, ((ja l : Nat) : Int), (k : Int), ()), (a, ())) = some (.inl ((jf out q, ()), ())) := by
 have hlim := Li
 intro ys
 induction ys with
 | nil =>
  intro k out q a hd hk _ hq
  have := PO hd hk
  subst this
  simp only [VA, jc] at hq
  subst hq
  have hs : Ou c () out l ((ja l : Nat) : Int) ((ja l : Nat) : Int) a = some (.inr (.inl ((out, ()), ()))) := by
   unfold Ou
   rw [Ja (by omega)]; rfl
  unfold Zn
  rw [Ud hs]
  simp
 | cons y ys ih =>
  intro k out q a hd hk hlen hq
  obtain ⟨hk', hy, hd'⟩ := EL hd
  simp only [VA] at hq
  cases hc : c a y with
  | none => rw [hc] at hq; simp at hq
  | some b =>
   rw [hc] at hq
   simp only [jb] at hq
   cases hq2 : VA c y ys with
   | none => rw [hq2] at hq; simp at hq
   | some q2 =>
    rw [hq2] at hq
    simp only [jb, jc] at hq
    have hlc : ja (y :: ys) = ja ys + 1 := rfl
    have hs : Ou c () out l ((ja l : Nat) : Int) (k : Int) a = some (.inl (((), cond b out (jf out [y]), l, ((ja l : Nat) : Int), ((k + 1 : Nat) : Int), ()), (y, ()))) := by
     unfold Ou R4
     rw [Ia (show (k : Int) < ((ja l : Nat) : Int) by omega), Sc hk', hy]
     simp only [yt, jb, hc]
     rw [Gj (by omega)]
     cases b with
     | true => rfl
     | false =>
      rw [show jx (ja out + ja ([y] : List (Int × ((T .o) × Unit)))) Mb = true from ji (by simp only [jw, j6]; omega)]
      rfl
    unfold Zn
    rw [Ud hs]
    simp only [jb, qe]
    have := ih (k + 1) (cond b out (jf out [y])) q2 y hd' hk' (by cases b with
     | true => simp only [yt]; omega
     | false => simp only [yu, List.append_eq, qb, jw, j6]; omega) hq2
    unfold Zn at this
    rw [this, ← hq]
    cases b with
    | true => rfl
    | false => simp
theorem N5 (c : T Ed → T Ed → Option Bool) : ∀ (a : T Ed) (l r : List (T Ed)), ja l ≤ Mb → VA c a l = some r → (fun x : T (.p Ed (.p (.sl Ed) .u)) => CW c x.1 x.2.1) (a, l, ()) = some (r, ()) := by
 intro a l r hl hq
 show CW c a l = _
 unfold CW
 have := BY c l hl l 0 [] r a rfl (Nat.zero_le _) (by simpa using hl) hq
 erw [this]
 rfl
theorem AM : ∀ {a b : List Int}, a.Pairwise (· < ·) → b.Pairwise (· < ·) → (∀ x, x ∈ a ↔ x ∈ b) → a = b
 | [], [], _, _, _ => rfl
 | [], y :: b, _, _, h => by have := (h y).2 (by simp); simp at this
 | x :: a, [], _, _, h => by have := (h x).1 (by simp); simp at this
 | x :: a, y :: b, ha, hb, h => by
  rw [List.pairwise_cons] at ha hb
  have hxy : x = y := by
   rcases jp.1 ((h x).1 (by simp)) with h1 | h1
   ·exact h1
   ·rcases jp.1 ((h y).2 (by simp)) with h2 | h2
    ·exact h2.symm
    ·have := hb.1 x h1; have := ha.1 y h2; omega
  subst hxy
  congr 1
  refine AM ha.2 hb.2 fun z => ⟨fun hz => ?_, fun hz => ?_⟩
  ·rcases jp.1 ((h z).1 (by simp [hz])) with h1 | h1
   ·have := ha.1 z hz; omega
   ·exact h1
  ·rcases jp.1 ((h z).2 (by simp [hz])) with h1 | h1
   ·have := hb.1 z hz; omega
   ·exact h1
def BC (o : List Int) (x : Int) : List Int := cond ((x != 0) && !o.any (fun y => y == x)) (jf o [x]) o
def NO (k : Nat) (o l : List Int) : List Int := Ch (fun _ o x => BC o x) k o l
theorem HY : ∀ (l : List Int) (k : Nat) (o : List Int) (y : Int), y ∈ NO k o l ↔ y ∈ o ∨ (y ∈ l ∧ y ≠ 0)
 | [], _, o, y => by simp [NO, Ch]
 | x :: l, k, o, y => by
  have := HY l (k + 1) (BC o x) y
  simp only [NO, Ch] at this ⊢
  rw [this]
  unfold BC
  by_cases h0 : x = 0
  ·subst h0
   simp only [bne_self_eq_false, Bool.false_and, yu, jp]
   constructor
   ·rintro (h | ⟨h1, h2⟩)
    ·exact .inl h
    ·exact .inr ⟨.inr h1, h2⟩
   ·rintro (h | ⟨h1 | h1, h2⟩)
    ·exact .inl h
    ·exact absurd h1 h2
    ·exact .inr ⟨h1, h2⟩
  ·by_cases h1 : o.any (fun y => y == x) = true
   ·rw [h1]
    simp only [jg, Bool.and_false, yu, jp]
    have hx : x ∈ o := by
     obtain ⟨z, hz, e⟩ := List.any_eq_true.1 h1
     rw [beq_iff_eq] at e; rw [← e]; exact hz
    constructor
    ·rintro (h | ⟨h1, h2⟩)
     ·exact .inl h
     ·exact .inr ⟨.inr h1, h2⟩
    ·rintro (h | ⟨h1 | h1, h2⟩)
     ·exact .inl h
     ·exact .inl (h1 ▸ hx)
     ·exact .inr ⟨h1, h2⟩
   ·have e : ((x != 0) && !o.any (fun y => y == x)) = true := by
     simp only [j7] at h1
     rw [h1]; simp [h0]
    rw [e]
    simp only [yt, List.append_eq, jl, jp, yr, or_false]
    constructor
    ·rintro ((h | h) | ⟨h1, h2⟩)
     ·exact .inl h
     ·exact .inr ⟨.inl h, by rw [h]; exact h0⟩
     ·exact .inr ⟨.inr h1, h2⟩
    ·rintro (h | ⟨h1 | h1, h2⟩)
     ·exact .inl (.inl h)
     ·exact .inl (.inr h1)
     ·exact .inr ⟨h1, h2⟩
theorem DL : ∀ (l : List Int) (k : Nat) (o : List Int), o.Pairwise (· < ·) → l.Pairwise (· ≤ ·) → (∀ y ∈ o, ∀ x ∈ l, y ≤ x) → (NO k o l).Pairwise (· < ·)
 | [], _, o, ho, _, _ => by simpa [NO, Ch] using ho
 | x :: l, k, o, ho, hl, h => by
  rw [List.pairwise_cons] at hl
  have key : (BC o x).Pairwise (· < ·) ∧ ∀ y ∈ BC o x, ∀ z ∈ l, y ≤ z := by
   unfold BC
   cases hc : (x != 0) && !o.any (fun y => y == x) with
   | false => exact ⟨ho, fun y hy z hz => h y hy z (by simp [hz])⟩
   | true =>
    simp only [jd, yc, List.any_eq_false, beq_iff_eq] at hc
    simp only [yt, List.append_eq]
    refine ⟨?_, ?_⟩
    ·rw [List.pairwise_append]
     refine ⟨ho, by simp, fun y hy z hz => ?_⟩
     simp only [jp, yr, or_false] at hz
     subst hz
     have h1 := h y hy z (by simp)
     have h2 := hc.2 y hy
     omega
    ·intro y hy z hz
     rcases jl.1 hy with hy | hy
     ·exact h y hy z (by simp [hz])
     ·simp only [jp, yr, or_false] at hy
      subst hy
      exact hl.1 z hz
  have := DL l (k + 1) (BC o x) key.1 hl.2 key.2
  simpa [NO, Ch] using this
def Ki (l : List Qa) : Nat → List Int
 | 0 => []
 | n + 1 => cond (l.any fun h => h.2.1.2.1 == ((n + 1 : Nat) : Int)) (Ki l n ++ [((n + 1 : Nat) : Int)]) (Ki l n)
theorem Vt (l : List Qa) : ∀ (n : Nat) (x : Int), x ∈ Ki l n ↔ (1 ≤ x ∧ x ≤ (n : Int)) ∧ ∃ h ∈ l, h.2.1.2.1 = x
 | 0, x => by simp [Ki]; intro h1 h2; omega
 | n + 1, x => by
  simp only [Ki]
  cases hc : (l.any fun h => h.2.1.2.1 == ((n + 1 : Nat) : Int)) with
  | true =>
   simp only [yt, jl, Vt l n x, jp, yr, or_false]
   obtain ⟨h, hh, e⟩ := List.any_eq_true.1 hc
   rw [beq_iff_eq] at e
   constructor
   ·rintro (⟨h1, h2⟩ | rfl)
    ·exact ⟨by omega, h2⟩
    ·exact ⟨by omega, h, hh, e⟩
   ·rintro ⟨h1, h2⟩
    by_cases hx : x = ((n + 1 : Nat) : Int)
    ·exact .inr hx
    ·exact .inl ⟨by omega, h2⟩
  | false =>
   simp only [yu, Vt l n x]
   rw [List.any_eq_false] at hc
   constructor
   ·rintro ⟨h1, h2⟩; exact ⟨by omega, h2⟩
   ·rintro ⟨h1, h, hh, e⟩
    refine ⟨?_, h, hh, e⟩
    have := hc h hh
    rw [beq_iff_eq] at this
    omega
theorem Cs (l : List Qa) : ∀ n, (Ki l n).Pairwise (· < ·)
 | 0 => by simp [Ki]
 | n + 1 => by
  simp only [Ki]
  cases (l.any fun h => h.2.1.2.1 == ((n + 1 : Nat) : Int)) with
  | true =>
   simp only [yt]
   rw [List.pairwise_append]
   refine ⟨Cs l n, by simp, fun y hy z hz => ?_⟩
   simp only [jp, yr, or_false] at hz
   have := (Vt l n y).1 hy
   omega
  | false => exact Cs l n
theorem XA (l : List Qa) : ∀ n, (Ki l n).length ≤ n
 | 0 => by simp [Ki]
 | n + 1 => by
  have := XA l n
  simp only [Ki]
  cases (l.any fun h => h.2.1.2.1 == ((n + 1 : Nat) : Int)) <;> simp <;> omega
def AF (l : List Qa) : Int := Ch (fun _ s (h : Qa) => cond (h.2.1.1 == 2 || h.2.1.1 == 8) (Zd .i64 s h.2.1.2.2.1) s) 0 0 l
def Td (l : List Qa) : Ga := (AF l, Ki l 56, ())
theorem QF {a : Ya} (h : Mc a = true) : 0 ≤ a.2.1 ∧ a.2.1 ≤ 56 := by
 rw [Nb] at h
 unfold Dc at h
 omega
theorem FK (l : List Int) (x : Int) (hn : l.length ≤ Mb) : Kv l x = some (l.any (fun y => y == x), ()) := by
 have hlim := Li
 have hl := Dg (step := fun y => Zo y.1.1 y.1.2.1 y.1.2.2.1 y.1.2.2.2.1) l (fun _ y => !(y == x)) (fun i => ((x, l, ((ja l : Nat) : Int), i, ()), ()))
  (.inl ((), ())) (.inr ((true, ()), ())) (by
   intro k hk
   simp only [Zo]
   rw [Ia (show (k : Int) < ((ja l : Nat) : Int) by omega), Sc hk]
   simp only [yt, jb]
   cases l[k] == x <;> rfl) (by
   simp only [Zo]
   rw [Ja (by omega)]; rfl) (by omega)
 unfold Kv Fq
 erw [hl]
 have : ∀ (l : List Int) (k : Nat), Bf (fun _ y => !(y == x)) k l = !l.any (fun y => y == x) := by
  intro l
  induction l with
  | nil => intro k; rfl
  | cons y l ih => intro k; simp only [Bf, List.any_cons, ih, Bool.not_or]
 rw [this]
 cases l.any (fun y => y == x) <;> rfl
theorem PI (l : List Qa) (hn : l.length ≤ Na) (hx : ∀ h ∈ l, 0 ≤ h.2.1.2.1 ∧ h.2.1.2.1 ≤ 56) : Dq (l.map fun h => h.2.1.2.1) = some (Ki l 56, ()) := by
 have h20 : Na = 1048576 := rfl
 have hlim := Li
 generalize hcs : (l.map fun h => h.2.1.2.1) = cs
 have hcl : cs.length = l.length := by rw [← hcs]; simp
 unfold Dq
 rw [BH _ (by omega)]
 simp only [jb, sort_Ints, I5]
 rw [show jx (ja cs) Mb = true from ji (by omega)]
 simp only [yt, jb]
 generalize hss : (List.mergeSort cs fun x y => decide (x ≤ y)) = ss
 have hsl : ss.length = cs.length := by rw [← hss]; exact List.length_mergeSort _
 have hsm : ∀ x, x ∈ ss ↔ x ∈ cs := fun x => by rw [← hss]; exact List.mem_mergeSort
 have hsp : ss.Pairwise (· ≤ ·) := by
  rw [← hss]
  have := List.pairwise_mergeSort (le := fun x y : Int => decide (x ≤ y)) (by intro a b c; simp; omega) (by intro a b; simp; omega) cs
  exact this.imp (by intro a b h; simpa using h)
 have hl := (Cu (step := fun x => Vm x.1.1 x.1.2.1 x.1.2.2.1 x.1.2.2.2.1) ss (fun _ o x => BC o x) (fun o i => ((o, ss, ((ja ss : Nat) : Int), i, ()), ())) (fun o => .inl ((o, ()), ())) (fun k o => o.length ≤ k) (by
  intro k hk o ho
  have hd : (BC o ss[k]).length ≤ k + 1 := by
   unfold BC
   cases (ss[k] != 0) && !o.any (fun y => y == ss[k]) <;> simp <;> omega
  refine ⟨?_, hd⟩
  simp only [Vm]
  rw [Ia (show (k : Int) < ((ja ss : Nat) : Int) by omega), show Xl (ja ss) (k : Int) = true by rw [Yw]; exact Ia hk, jn, je hk]
  simp only [yt, jb]
  rw [FK _ _ (by omega), show jx (ja o + ja ([ss[k]] : List Int)) Mb = true from ji (by simp only [jw, j6]; omega)]
  simp only [jb, BC]
  cases ss[k] != 0 <;> cases o.any (fun y => y == ss[k]) <;> rfl)
  (by
   intro o _
   simp only [Vm]
   rw [Ja (by omega)]; rfl) (by omega) [] (jo _)).1
 unfold Mo
 erw [hl]
 simp only [jb, qe]
 congr 2
 refine AM (DL ss 0 [] (by simp) hsp (by simp)) (Cs l 56) fun x => ?_
 rw [show Ch (fun _ o x => BC o x) 0 [] ss = NO 0 [] ss from rfl, HY, Vt, hsm, ← hcs]
 simp only [yr, false_or, qg]
 constructor
 ·rintro ⟨⟨h, hh, rfl⟩, h0⟩
  have := hx h hh
  exact ⟨by omega, h, hh, rfl⟩
 ·rintro ⟨h1, h, hh, rfl⟩
  exact ⟨⟨h, hh, rfl⟩, by omega⟩
theorem Um (l : List Qa) (hn : l.length ≤ Na) (hv : Ei l = true) : Ub l = some (Td l, ()) := by
 have h20 : Na = 1048576 := rfl
 have hlim := Li
 have hh := TY hv
 have hl := (Cu (step := fun x => Ll x.1.1 x.1.2.1 x.1.2.2.1 x.1.2.2.2.1 x.1.2.2.2.2.1 x.1.2.2.2.2.2.1 x.2.1 x.2.2.1) l
  (fun _ (s : Int × List Int) (h : Qa) => (cond (h.2.1.1 == 2 || h.2.1.1 == 8) (Zd .i64 s.1 h.2.1.2.2.1) s.1, jf s.2 [h.2.1.2.1])) (fun s i => (((), (), s.2, l, ((ja l : Nat) : Int), i, ()), (((0 : Int), ([] : List Int), ()), (s.1, ([] : List Int), ()), ())))
  (fun s => .inl (((), (), s.2, ()), (((0 : Int), ([] : List Int), ()), (s.1, ([] : List Int), ()), ()))) (fun k s => s.2.length = k) (by
   intro k hk s hs
   refine ⟨?_, by simp [hs]⟩
   simp only [Ll]
   rw [Ia (show (k : Int) < ((ja l : Nat) : Int) by omega), Sc hk]
   simp only [yt, jb]
   rw [show jx (ja s.2 + ja ([l[k].2.1.2.1] : List Int)) Mb = true from ji (by simp only [jw, j6]; omega)]
   cases l[k].2.1.1 == 2 <;> cases l[k].2.1.1 == 8 <;> rfl)
  (by
   intro s _
   simp only [Ll]
   rw [Ja (by omega)]; rfl) (by omega) (0, []) rfl).1
 have key : ∀ (l : List Qa) (k : Nat) (s : Int × List Int), Ch (fun _ (s : Int × List Int) (h : Qa) => (cond (h.2.1.1 == 2 || h.2.1.1 == 8) (Zd .i64 s.1 h.2.1.2.2.1) s.1, jf s.2 [h.2.1.2.1])) k s l =
  (Ch (fun _ s (h : Qa) => cond (h.2.1.1 == 2 || h.2.1.1 == 8) (Zd .i64 s h.2.1.2.2.1) s) k s.1 l, s.2 ++ l.map fun h => h.2.1.2.1) := by
  intro l
  induction l with
  | nil => intro k s; simp [Ch]
  | cons x l ih => intro k s; simp only [Ch]; rw [ih]; simp
 unfold Ub Tm
 rw [Tz _ hn, hv]
 simp only [jb, jg, yu]
 erw [hl]
 rw [key]
 simp only [jb, qe, List.nil_append]
 rw [PI l hn (fun h hm => QF (hh h hm).act)]
 rfl
theorem OH (l : List Qa) (hn : l.length ≤ Na) (c : Nat) (hc : c ≤ 56) (m : Int) (o : List Int) (ho : o.length ≤ 56) :
 Gi ((l, (), (), (c : Int), (0 : Int), ()), (((0 : Int), ([] : List Int), ()), (m, o, ()), ())) =
  some (.inl ((l, (), (), (c : Int), ()), (((0 : Int), ([] : List Int), ()), (m, cond (l.any fun h => h.2.1.2.1 == (c : Int)) (jf o [(c : Int)]) o, ()), ()))) := by
 have h20 : Na = 1048576 := rfl
 have hl := Dg (step := fun x => Nk x.1.1 x.1.2.1 x.1.2.2.1 x.1.2.2.2.1 x.1.2.2.2.2.1 x.2.1 x.2.2.1) l (fun _ (h : Qa) => !(h.2.1.2.1 == (c : Int))) (fun i => ((l, (), (), (c : Int), i, ()), (((0 : Int), ([] : List Int), ()), (m, o, ()), ())))
  (.inl ((l, (), (), (c : Int), ()), (((0 : Int), ([] : List Int), ()), (m, o, ()), ()))) (.inl ((l, (), (), (c : Int), ()), (((0 : Int), ([] : List Int), ()), (m, jf o [(c : Int)], ()), ()))) (by
   intro k hk
   simp only [Nk]
   rw [Ia (show (k : Int) < ((ja l : Nat) : Int) by omega), Sc hk]
   simp only [yt, jb]
   rw [show jx (ja o + ja ([(c : Int)] : List Int)) Mb = true from ji (by simp only [jw, j6, Li]; omega)]
   cases l[k].2.1.2.1 == (c : Int) <;> rfl) (by
   simp only [Nk]
   rw [Ja (by omega)]; rfl) (by omega)
 have e : ∀ (l : List Qa) (k : Nat), Bf (fun _ (h : Qa) => !(h.2.1.2.1 == (c : Int))) k l = !l.any fun h => h.2.1.2.1 == (c : Int) := by
  intro l
  induction l with
  | nil => intro k; rfl
  | cons y l ih => intro k; simp only [Bf, List.any_cons, ih, Bool.not_or]
 unfold Gi
 erw [hl]
 rw [e]
 cases l.any fun h => h.2.1.2.1 == (c : Int) <;> rfl
theorem Gn (l : List Qa) (hn : l.length ≤ Na) (hv : Ei l = true) : Vb l = some (Td l, ()) := by
 have h20 : Na = 1048576 := rfl
 have h1 := (Cu (step := fun x => Ql x.1.1 x.1.2.1 x.1.2.2.1 x.1.2.2.2.1 x.2.1 x.2.2.1) l
  (fun _ s (h : Qa) => cond (h.2.1.1 == 2 || h.2.1.1 == 8) (Zd .i64 s h.2.1.2.2.1) s) (fun s i => ((l, (), (), i, ()), (((0 : Int), ([] : List Int), ()), (s, ([] : List Int), ()), ())))
  (fun s => .inl ((l, (), (), ()), (((0 : Int), ([] : List Int), ()), (s, ([] : List Int), ()), ()))) (fun _ _ => True) (by
   intro k hk s _
   refine ⟨?_, trivial⟩
   simp only [Ql]
   rw [Ia (show (k : Int) < ((ja l : Nat) : Int) by omega), Sc hk]
   simp only [yt, jb]
   cases l[k].2.1.1 == 2 <;> cases l[k].2.1.1 == 8 <;> rfl)
  (by
   intro s _
   simp only [Ql]
   rw [Ja (by omega)]; rfl) (by omega) 0 trivial).1
 have h2 := Ny (step := fun x => Mk x.1.1 x.1.2.1 x.1.2.2.1 x.1.2.2.2.1 x.2.1 x.2.2.1) (fun k => ((l, (), (), ((k + 1 : Nat) : Int), ()), (((0 : Int), ([] : List Int), ()), (AF l, Ki l k, ()), ()))) 56
  (.inl (((), (), ()), (((0 : Int), ([] : List Int), ()), (AF l, Ki l 56, ()), ()))) (by
   intro k hk
   simp only [Mk]
   have hlen := XA l k
   rw [Ia (show ((k + 1 : Nat) : Int) ≤ 56 by omega), OH l hn (k + 1) (by omega) (AF l) (Ki l k) (by omega)]
   simp only [yt, jb, qe]
   rw [Gj (by omega)]
   rfl) (by
   simp only [Mk]
   rw [Ja (by decide)]; rfl)
 unfold Vb En Dm
 rw [CA _ hn, hv]
 simp only [jb, jg, yu]
 erw [h1]
 simp only [jb, qe]
 erw [h2]
 rfl
def Wq (c : Int) : Bool := decide (1 ≤ c ∧ c ≤ 36) || ((c == 39) || (c == 42))
theorem CD (c : Int) : Wo c = some (Wq c, ()) := by
 unfold Wo Wq
 by_cases h1 : c ≥ 1
 ·by_cases h2 : c ≤ 36
  ·rw [Ia h1, Ia h2, Ia (show 1 ≤ c ∧ c ≤ 36 by omega)]; rfl
  ·rw [Ia h1, Ja h2, Ja (show ¬ (1 ≤ c ∧ c ≤ 36) by omega)]
   cases c == 39 <;> rfl
 ·rw [Ja h1, Ja (show ¬ (1 ≤ c ∧ c ≤ 36) by omega)]
  cases c == 39 <;> rfl
theorem CE (c : Int) : Hp c = some (Wq c, ()) := by
 unfold Hp Wq
 rw [Lf]
 cases decide (1 ≤ c ∧ c ≤ 36) <;> cases c == 39 <;> rfl
def Ys (f o : Int) (c : Bool) (a : Ya) : Int × Int × Bool × Ya :=
 cond (a.1 == 2) (cond (a.2.1 == 0) (f, o, c, a) (f, 0, c && Wq a.2.1, a.1, a.2.1, cond ((c && Wq a.2.1) && (decide (a.2.1 ≤ 26) && (Sh .i64 (Zd .i64 a.2.2.1 o) 2 == 0))) 2 (Zd .i64 a.2.2.1 o), a.2.2.2))
  (cond (a.1 == 4) (GD .i64 f (Ck .i64 1 a.2.2.2.1), o, c, a) (cond (a.1 == 5) (Sh .i64 (Ck .i64 1 a.2.2.2.1) 1, o, c, a)
   (cond (a.1 == 8) (f, cond (Hr .i64 o a.2.2.1 == a.2.2.1) (Sh .i64 o a.2.2.1) (Zd .i64 o a.2.2.1), c, a) (cond (a.1 == 10) (f, o, !c, a) (f, o, c, a)))))
theorem NA {a : Ya} (h : Mc a = true) : 0 ≤ a.2.2.2.1 := by
 rw [Nb] at h
 unfold Dc at h
 omega
theorem GK (m : Ea) (M : List (List Be)) (f o : Int) (h : List Qa) (c : Bool) (a : Ya) (ha : Mc a = true) :
 Bo (m, M, f, h, o, c, ()) a = some ((m, M, (Ys f o c a).1, h, (Ys f o c a).2.1, (Ys f o c a).2.2.1, ()), (Ys f o c a).2.2.2, ()) := by
 have hn := NA ha
 unfold Bo Ys
 rw [Ia hn]
 cases a.1 == 2 with
 | true =>
  cases a.2.1 == 0 with
  | true => rfl
  | false =>
   simp only [yt, yu, CD, jb]
   cases c with
   | false => rfl
   | true =>
    cases Wq a.2.1 with
    | false => rfl
    | true => cases decide (a.2.1 ≤ 26) <;> cases Sh .i64 (Zd .i64 a.2.2.1 o) 2 == 0 <;> rfl
 | false =>
  cases a.1 == 4 with
  | true => rfl
  | false =>
   cases a.1 == 5 with
   | true => rfl
   | false =>
    cases a.1 == 8 with
    | true => cases Hr .i64 o a.2.2.1 == a.2.2.1 <;> rfl
    | false => cases a.1 == 10 <;> rfl
theorem UK (m : Ea) (M : List (List Be)) (f o : Int) (h : List Qa) (c : Bool) (a : Ya) (ha : Mc a = true) :
 Fk (m, M, f, h, o, c, ()) a = some ((m, M, (Ys f o c a).1, h, (Ys f o c a).2.1, (Ys f o c a).2.2.1, ()), (Ys f o c a).2.2.2, ()) := by
 have hn := NA ha
 have hcode := QF ha
 unfold Fk Ys SB
 rw [Ia hn]
 cases a.1 == 2 with
 | true =>
  by_cases h0 : a.2.1 = 0
  ·rw [Ja (show ¬ a.2.1 > 0 by omega), show (a.2.1 == 0) = true by simp [h0]]; rfl
  ·rw [Ia (show a.2.1 > 0 by omega), show (a.2.1 == 0) = false by simp [h0]]
   simp only [yt, yu, CE, jb]
   cases Wq a.2.1 with
   | false => cases c <;> rfl
   | true =>
    cases c with
    | false => rfl
    | true => cases decide (a.2.1 ≤ 26) <;> cases Sh .i64 (Zd .i64 a.2.2.1 o) 2 == 0 <;> rfl
 | false =>
  cases a.1 == 4 with
  | true => rfl
  | false =>
   cases a.1 == 5 with
   | true => rfl
   | false =>
    cases a.1 == 8 with
    | true => cases Hr .i64 o a.2.2.1 == a.2.2.1 <;> rfl
    | false => cases a.1 == 10 <;> rfl
theorem R5 : ∀ f : Fin 16, ∀ n : Fin 4, ∀ l : Fin 5, 1 ≤ n.val → n.val < l.val → f.val < 2 ^ l.val → f.val % 2 = 0 →
 0 ≤ GD .i64 (f.val : Int) (Ck .i64 1 (n.val : Int)) ∧ GD .i64 (f.val : Int) (Ck .i64 1 (n.val : Int)) < ((2 ^ l.val : Nat) : Int) ∧ (GD .i64 (f.val : Int) (Ck .i64 1 (n.val : Int))).tmod 2 = 0 := by decide +kernel
theorem F8 : ∀ n : Fin 4, ∀ l : Fin 5, n.val < l.val →
 0 ≤ Sh .i64 (Ck .i64 1 (n.val : Int)) 1 ∧ Sh .i64 (Ck .i64 1 (n.val : Int)) 1 < ((2 ^ l.val : Nat) : Int) ∧ (Sh .i64 (Ck .i64 1 (n.val : Int)) 1).tmod 2 = 0 := by decide +kernel
theorem IT : ∀ o m : Fin 16, (0 ≤ Sh .i64 (o.val : Int) (m.val : Int) ∧ Sh .i64 (o.val : Int) (m.val : Int) ≤ 15) ∧ (0 ≤ Zd .i64 (o.val : Int) (m.val : Int) ∧ Zd .i64 (o.val : Int) (m.val : Int) ≤ 15) := by decide +kernel
structure Ps (nl : Nat) (f o : Int) : Prop where
 f0 : 0 ≤ f
 f1 : f < ((2 ^ nl : Nat) : Int)
 f2 : f.tmod 2 = 0
 o0 : 0 ≤ o
 o1 : o ≤ 15
structure RJ (nl : Nat) (a : Ya) : Prop where
 act : Mc a = true
 n1 : a.1 ≠ 1
 n6 : a.1 ≠ 6
 n7 : a.1 ≠ 7
 n : a.1 ≠ 9 → a.2.2.2.1 < (nl : Int)
theorem J2 {a b : Int} (ha : 0 ≤ a ∧ a ≤ 15) (hb : 0 ≤ b ∧ b ≤ 15) : 0 ≤ Zd .i64 a b ∧ Zd .i64 a b ≤ 15 := by
 obtain ⟨n, rfl⟩ := jv ha.1
 obtain ⟨m, rfl⟩ := jv hb.1
 exact (IT ⟨n, by omega⟩ ⟨m, by omega⟩).2
theorem F9 {a b : Int} (ha : 0 ≤ a ∧ a ≤ 15) (hb : 0 ≤ b ∧ b ≤ 15) : 0 ≤ Sh .i64 a b ∧ Sh .i64 a b ≤ 15 := by
 obtain ⟨n, rfl⟩ := jv ha.1
 obtain ⟨m, rfl⟩ := jv hb.1
 exact (IT ⟨n, by omega⟩ ⟨m, by omega⟩).1
theorem Paa {nl : Nat} (h : nl ≤ 4) : 2 ^ nl ≤ 16 := Nat.pow_le_pow_right (n := 2) (by omega) h
theorem Saa {nl : Nat} (hnl : nl ≤ 4) {f o : Int} {c : Bool} {a : Ya} (hs : Ps nl f o) (ha : RJ nl a) :
 Ps nl (Ys f o c a).1 (Ys f o c a).2.1 ∧ RJ nl (Ys f o c a).2.2.2 := by
 have hP := ha.act
 rw [Nb] at hP
 unfold Dc at hP
 have h16 := Paa hnl
 obtain ⟨k, code, mods, n, u⟩ := a
 have hn1 := ha.n1; have hn6 := ha.n6; have hn7 := ha.n7; have hnn := ha.n
 simp only at hP hn1 hn6 hn7 hnn
 have hf1 := hs.f1
 unfold Ys
 simp only
 by_cases h2 : k = 2
 ·subst h2
  by_cases h0 : code = 0
  ·subst h0; exact ⟨hs, ha⟩
  ·rw [show ((2 : Int) == 2) = true from rfl, show (code == 0) = false by simp [h0]]
   simp only [yt, yu]
   refine ⟨⟨hs.f0, hs.f1, hs.f2, by decide, by decide⟩, ?_⟩
   have hm := J2 (a := mods) (b := o) (by omega) ⟨hs.o0, hs.o1⟩
   refine ⟨?_, hn1, hn6, hn7, hnn⟩
   have hn0 : n = 0 := by omega
   have hcd : 1 ≤ code ∧ code ≤ 56 := by omega
   rw [Nb]
   cases ((c && Wq code) && (decide (code ≤ 26) && (Sh .i64 (Zd .i64 mods o) 2 == 0))) with
   | true => exact .inr (.inl ⟨rfl, hn0, .inr hcd, .inr ⟨by show (1 : Int) ≤ 2; decide, by show (2 : Int) ≤ 15; decide⟩, .inl (by show code ≠ 0; omega)⟩)
   | false =>
    refine .inr (.inl ⟨rfl, hn0, .inr hcd, ?_, .inl (by show code ≠ 0; omega)⟩)
    show Zd .i64 mods o = 0 ∨ 1 ≤ Zd .i64 mods o ∧ Zd .i64 mods o ≤ 15
    omega
 ·rw [show (k == 2) = false by simp [h2]]
  simp only [yu]
  by_cases h4 : k = 4
  ·subst h4
   have hr : 1 ≤ n ∧ n ≤ 3 := by omega
   have hlt := hnn (by omega)
   obtain ⟨fn, hfn⟩ := jv hs.f0
   obtain ⟨nn, hnn'⟩ := jv (show 0 ≤ n by omega)
   have hf2 := hs.f2
   rw [hfn] at hf1 hf2
   have hfl : fn < 2 ^ nl := Int.ofNat_lt.1 hf1
   have := R5 ⟨fn, by omega⟩ ⟨nn, by omega⟩ ⟨nl, by omega⟩ (by show 1 ≤ nn; omega) (by show nn < nl; omega) hfl (by
    rw [Int.tmod_eq_emod_of_nonneg (by omega)] at hf2; show fn % 2 = 0; omega)
   simp only [show ((4 : Int) == 4) = true from rfl, yt]
   rw [hfn, hnn']
   exact ⟨⟨this.1, this.2.1, this.2.2, hs.o0, hs.o1⟩, by rw [← hnn']; exact ha⟩
  ·rw [show (k == 4) = false by simp [h4]]
   simp only [yu]
   by_cases h5 : k = 5
   ·subst h5
    have hr : 0 ≤ n ∧ n ≤ 3 := by omega
    have hlt := hnn (by omega)
    obtain ⟨nn, hnn'⟩ := jv (show 0 ≤ n by omega)
    have := F8 ⟨nn, by omega⟩ ⟨nl, by omega⟩ (by show nn < nl; omega)
    simp only [show ((5 : Int) == 5) = true from rfl, yt]
    rw [hnn']
    exact ⟨⟨this.1, this.2.1, this.2.2, hs.o0, hs.o1⟩, by rw [← hnn']; exact ha⟩
   ·rw [show (k == 5) = false by simp [h5]]
    simp only [yu]
    by_cases h8 : k = 8
    ·subst h8
     have hm : 0 ≤ mods ∧ mods ≤ 15 := by omega
     simp only [show ((8 : Int) == 8) = true from rfl, yt]
     cases Hr .i64 o mods == mods with
     | true => have := F9 ⟨hs.o0, hs.o1⟩ hm; exact ⟨⟨hs.f0, hs.f1, hs.f2, this.1, this.2⟩, ha⟩
     | false => have := J2 ⟨hs.o0, hs.o1⟩ hm; exact ⟨⟨hs.f0, hs.f1, hs.f2, this.1, this.2⟩, ha⟩
    ·rw [show (k == 8) = false by simp [h8]]
     simp only [yu]
     cases k == 10 <;> exact ⟨hs, ha⟩
theorem NZ {m : Ea} (hm : Lu m) (on : Int) {k : Nat} (hk : (k : Int) < m.1) : Ai m.2.1.length (Un m on k) (Qo m.2.1 (Un m on k) k) = true ∧ (Qo m.2.1 (Un m on k) k).1 ≠ 1 := by
 have hl := KD hm on k
 have hrow := hm.row _ hl
 have hk' : k < m.2.1[Un m on k].length := by omega
 have hact := hm.act _ hl k hk'
 rw [JG hl hk']
 refine ⟨hact, ?_⟩
 have key : ∀ n, Vd m.2.1 on k n = 0 ∨ (Qo m.2.1 (Vd m.2.1 on k n) k).1 ≠ 1 := by
  intro n
  induction n with
  | zero => exact .inl rfl
  | succ n ih =>
   simp only [Vd]
   cases hc : ((Rt on ((n + 1 : Nat) : Int) == 1) && ((Qo m.2.1 (n + 1) k).1 != 1)) with
   | true =>
    simp only [jd, bne_iff_ne] at hc
    exact .inr hc.2
   | false => exact ih
 rcases key (m.2.1.length - 1) with h0 | h1
 ·have h0' : Un m on k = 0 := h0
  intro h1
  simp only [Ai, jd, yc, Bool.and_eq_false_iff, beq_eq_false_iff_ne] at hact
  rcases hact.1.2 with h2 | h2
  ·exact h2 (by rw [h0']; rfl)
  ·exact h2 h1
 ·have e : Qo m.2.1 (Vd m.2.1 on k (m.2.1.length - 1)) k = m.2.1[Un m on k][k] := JG hl hk'
  rw [e] at h1
  exact h1
theorem E8 {nl i : Nat} {a : Ya} (h : Ai nl i a = true) (h1 : a.1 ≠ 1) : RJ nl (Xx a) := by
 have ha := YP h
 have hP := ha
 rw [Nb] at hP
 unfold Dc at hP
 unfold Xx Ti
 rw [ha]
 by_cases h67 : a.1 = 6 ∨ a.1 = 7
 ·have e : (true && ((a.1 == 6) || (a.1 == 7))) = true := by rcases h67 with h | h <;> rw [h] <;> rfl
  rw [e]
  simp only [yt]
  refine ⟨?_, by show (2 : Int) ≠ 1; decide, by show (2 : Int) ≠ 6; decide, by show (2 : Int) ≠ 7; decide, fun _ => ?_⟩
  ·rw [Nb]
   exact .inr (.inl ⟨rfl, rfl, .inr (by show 1 ≤ a.2.1 ∧ a.2.1 ≤ 56; omega), .inl rfl, .inl (by show a.2.1 ≠ 0; omega)⟩)
  ·show (0 : Int) < (nl : Int)
   have := HT h (by omega)
   omega
 ·have e : (true && ((a.1 == 6) || (a.1 == 7))) = false := by
   rw [jk, Bool.or_eq_false_iff, beq_eq_false_iff_ne, beq_eq_false_iff_ne]; omega
  rw [e]
  exact ⟨ha, h1, fun h => h67 (.inl h), fun h => h67 (.inr h), fun hk => HT h hk⟩
def Cf (m : Ea) (f o : Int) (c : Bool) (h : List Qa) : Db := (m, [], f, h, o, c, ())
theorem S5 {nl : Nat} {k : Nat} (hk : k ≤ 31) {a : Ya} (ha : RJ nl a) : Ei [((k : Int), a, ())] = true := by
 have e : Jt 0 ((k : Int), a, ()) = true := by
  simp only [Jt, ha.act, jk]
  rw [Ia (show 0 ≤ (k : Int) ∧ (k : Int) ≤ 31 by omega)]
  have hb : (Rt 0 (k : Int) == 1) = false := by
   have := Y0 (a := 0) (k := k) (by decide) (by omega)
   rw [Nat.zero_testBit] at this
   exact this
  rw [hb]
  simp [ha.n1, ha.n6, ha.n7]
 show UY (Hg _ 0 0 [_]) = true
 simp only [Hg, Iv, e, yt, UY]
theorem Wt {m : Ea} (hv : Ec m = true) {f o : Int} (hs : Ps m.2.1.length f o) (c : Bool) {h : List Qa} (hh : Ei h = true) (hi : ∀ x ∈ h, Ao m.1 m.2.1.length x = true) : Et (Cf m f o c h) = true := by
 have hk := Wg hv
 have e1 : Bf (fun _ x => Ao m.1 m.2.1.length x) 0 h = true := Aj.2 fun j hj => hi _ (qf hj)
 show (Ec m && (decide (([] : List (List Be)).length ≤ 4) && (Ei h && (true && (Bf (fun _ x => Ao m.1 m.2.1.length x) 0 h &&
  (decide (0 ≤ f ∧ f < ((2 ^ m.2.1.length : Nat) : Int)) && ((Int.tmod f 2 == 0) && decide (0 ≤ o ∧ o ≤ 15)))))))) = true
 rw [hv, hh, e1, Ia (⟨hs.f0, hs.f1⟩ : 0 ≤ f ∧ f < ((2 ^ m.2.1.length : Nat) : Int)), Ia (⟨hs.o0, hs.o1⟩ : 0 ≤ o ∧ o ≤ 15), hs.f2]
 rfl
theorem NR (m : Ea) (f o : Int) (c : Bool) (h : List Qa) : Pb Gb (Cf m f o c h) = Pb Oa m + h.length := by
 rw [Pz, EA]
 have : Pb (.sl (.sl Dh)) (Cf m f o c h).2.1 = 0 := rfl
 rw [this, js]; rfl
theorem I1 {nl : Nat} (h4 : nl ≤ 4) {f o : Int} (hs : Ps nl f o) : 0 ≤ f ∧ f ≤ 15 := by
 have := Paa h4
 have h1 := hs.f1
 have h0 := hs.f0
 omega
theorem GP {f : Int} (hf : 0 ≤ f ∧ f ≤ 15) : Pn f [] = some (Zd .i64 1 f, ()) := by
 unfold Pn
 rw [Ia (show f ≥ 0 by omega), Ia hf.2, Tz [] (by decide)]
 have hs : Lw (Zd .i64 1 f) [] ((ja ([] : List Qa) : Nat) : Int) 0 = some (.inr (.inl ((Zd .i64 1 f, ()), ()))) := rfl
 simp only [yt, jb]
 unfold Pg
 rw [Ud hs]
 rfl
theorem LQ {f : Int} (hf : 0 ≤ f ∧ f ≤ 15) : Xn f [] = some (Zd .i64 1 f, ()) := by
 unfold Xn
 rw [Lf, Ia hf]
 have hs : Nw [] (Zd .i64 1 f) 0 = some (.inr (.inl ((Zd .i64 1 f, ()), ()))) := rfl
 simp only [yt, jb]
 unfold Zi
 rw [Ud hs]
 rfl
theorem EK (e : Db) (k : Int) (hn : e.2.2.2.1.length ≤ Na) : Jv e k = some (Ue (fun h => h.1 == k) 0 e.2.2.2.1, ()) := by
 have h20 : Na = 1048576 := rfl
 have hl := Gz (step := fun x => Uo x.1.1 x.1.2.1 x.1.2.2.1 x.1.2.2.2.1) e.2.2.2.1 (fun h => h.1 == k) (fun i => ((k, e.2.2.2.1, ((ja e.2.2.2.1 : Nat) : Int), i, ()), ())) (.inl ((), ())) (fun i => .inr ((i, ()), ()))
  (by
   intro j hj
   simp only [Uo]
   rw [Ia (show (j : Int) < ((ja e.2.2.2.1 : Nat) : Int) by omega), Sc hj]
   simp only [yt, jb]
   cases e.2.2.2.1[j].1 == k <;> rfl) (by
   simp only [Uo]
   rw [Ja (by omega)]; rfl) (by omega)
 unfold Jv Aq
 erw [hl]
 simp only [jb]
 by_cases hc : Ue (fun h : Qa => h.1 == k) 0 e.2.2.2.1 = -1
 ·rw [if_pos hc, hc]; rfl
 ·rw [if_neg hc]; rfl
theorem Wu (e : Db) (k : Int) (hn : e.2.2.2.1.length ≤ Na) : As e k = some (Ue (fun h => h.1 == k) 0 e.2.2.2.1, ()) := by
 have h20 : Na = 1048576 := rfl
 have hl := Gz (step := fun x => Fp x.1.1 x.1.2.1 x.1.2.2.1 x.2.1) e.2.2.2.1 (fun h => h.1 == k) (fun i => ((k, (), i, ()), (e, ()))) (.inl ((), ())) (fun i => .inr ((i, ()), ()))
  (by
   intro j hj
   simp only [Fp]
   rw [Ia (show (j : Int) < ((ja e.2.2.2.1 : Nat) : Int) by omega), Sc hj]
   simp only [yt, jb]
   cases e.2.2.2.1[j].1 == k <;> rfl) (by
   simp only [Fp]
   rw [Ja (by omega)]; rfl) (by omega)
 unfold As Lq
 erw [hl]
 simp only [jb]
 by_cases hc : Ue (fun h : Qa => h.1 == k) 0 e.2.2.2.1 = -1
 ·rw [if_pos hc, hc]; rfl
 ·rw [if_neg hc]; rfl
theorem Cw (a b : Ga) (hn : a.2.1.length ≤ Mb) : Ok a b = some (Nf a b, ()) := by
 have hlim := Li
 unfold Ok Nf
 simp only [bne]
 cases (show Int from a.1) == (show Int from b.1) with
 | false => rfl
 | true =>
  by_cases h : a.2.1.length = b.2.1.length
  ·have hl := Dg (step := fun x => Zj x.1.1 x.1.2.1 x.1.2.2.1 x.2.1 x.2.2.1) a.2.1 (fun k x => b.2.1.getD k 0 == x) (fun i => (((), (), i, ()), (a, b, ())))
    (.inl ((), ())) (.inr ((false, ()), ())) (by
     intro k hk
     simp only [Zj]
     rw [Ia (show (k : Int) < ((ja a.2.1 : Nat) : Int) by omega), Sc hk, Sc (show k < b.2.1.length by omega), qd, je (show k < b.2.1.length by omega)]
     simp only [yt, jb, qs, bne]
     rw [show (a.2.1[k] == b.2.1[k]) = (b.2.1[k] == a.2.1[k]) by rw [Bool.eq_iff_iff, beq_iff_eq, beq_iff_eq]; exact eq_comm]
     cases b.2.1[k] == a.2.1[k] <;> rfl) (by
     simp only [Zj]
     rw [Ja (by omega)]; rfl) (by omega)
   have e : (((ja a.2.1 : Nat) : Int) == ((ja b.2.1 : Nat) : Int)) = true := by simp [h]
   rw [e]
   simp only [jg, yu, jk]
   unfold Cl
   erw [hl]
   rw [JP a.2.1 b.2.1 h, show (b.2.1 == a.2.1) = (a.2.1 == b.2.1) by rw [Bool.eq_iff_iff, beq_iff_eq, beq_iff_eq]; exact eq_comm]
   cases a.2.1 == b.2.1 <;> rfl
  ·have e : (((ja a.2.1 : Nat) : Int) == ((ja b.2.1 : Nat) : Int)) = false := by simp; omega
   have e2 : (a.2.1 == b.2.1) = false := by rw [beq_eq_false_iff_ne]; intro hh; exact h (by rw [hh])
   rw [e, e2]; rfl
def YX (s : Ga × List Ga) (x : Ga) : Ga × List Ga := (x, cond (Nf s.1 x) s.2 (jf s.2 [x]))
theorem KO : ∀ (l : List Ga) (k : Nat) (a : Ga) (o : List Ga), (Ch (fun _ s x => YX s x) k (a, o) l).2 = jf o (Ko Nf a l)
 | [], _, _, o => by simp [Ch, Ko]
 | x :: l, k, a, o => by
  have ih := KO l (k + 1) x (cond (Nf a x) o (jf o [x]))
  show (Ch (fun _ s x => YX s x) (k + 1) (x, cond (Nf a x) o (jf o [x])) l).2 = _
  rw [ih]
  simp only [Ko]
  cases Nf a x <;> simp
theorem Vy (a : Ga) (l : List Ga) (hn : l.length ≤ Na) (ha : a.2.1.length ≤ Na) (hx : ∀ x ∈ l, x.2.1.length ≤ Na) : Pd a l = some (Ko Nf a l, ()) := by
 have h20 : Na = 1048576 := rfl
 have hlim := Li
 have hl := (Cu (step := fun x => Pk x.1.1 x.1.2.1 x.1.2.2.1 x.1.2.2.2.1 x.2.1) l (fun _ s x => YX s x) (fun s i => ((l, (), s.2, i, ()), (s.1, ()))) (fun s => .inl ((s.2, ()), ())) (fun k s => s.2.length ≤ k ∧ s.1.2.1.length ≤ Na) (by
  intro k hk s ⟨hs1, hs2⟩
  have hxk := hx _ (qf hk)
  refine ⟨?_, ?_, hxk⟩
  ·simp only [Pk]
   rw [Ia (show (k : Int) < ((ja l : Nat) : Int) by omega), Sc hk]
   simp only [yt, jb]
   rw [Cw _ _ (by omega), SK _ hxk]
   simp only [jb, YX]
   rw [show jx (ja s.2 + ja ([l[k]] : List Ga)) Mb = true from ji (by simp only [jw, j6]; omega)]
   cases Nf s.1 l[k] <;> rfl
  ·unfold YX
   cases Nf s.1 l[k] with
   | true => show s.2.length ≤ k + 1; omega
   | false => show (jf s.2 [l[k]]).length ≤ k + 1; simp; omega)
  (by
   intro s _
   simp only [Pk]
   rw [Ja (by omega)]; rfl) (by omega) (a, []) ⟨jo _, ha⟩).1
 unfold Pd Fm
 erw [hl]
 have := KO l 0 a []
 simp only [jb, qe]
 rw [this]; simp
theorem Iy (a : Ga) (l : List Ga) (hn : l.length ≤ Na) (ha : a.2.1.length ≤ Na) (hx : ∀ x ∈ l, x.2.1.length ≤ Na) : Ic a l = some (Ko Nf a l, ()) := by
 have h20 : Na = 1048576 := rfl
 have hlim := Li
 unfold Ic BW
 have e : (jx (ja l) Mb && (Tx a && l.all Tx)) = true := by
  rw [jd, jd, ym]
  refine ⟨ji (by omega), ji (by show ja a.2.1 ≤ _; omega), fun x hm => ji ?_⟩
  have := hx x hm
  show ja x.2.1 ≤ _
  omega
 rw [e]; rfl
theorem Rs : ∀ (l : List Ga) (a : Ga), (Ko Nf a l).length ≤ l.length
 | [], _ => by simp [Ko]
 | x :: l, a => by
  have := Rs l x
  simp only [Ko]
  cases Nf a x <;> simp <;> omega
theorem NB (l : List Qa) : (Td l).2.1.length ≤ 56 := XA l 56
theorem Nu : ∀ (l : List Ga) (a x : Ga), x ∈ Ko Nf a l → x ∈ l
 | [], _, x, h => by simp [Ko] at h
 | y :: l, a, x, h => by
  simp only [Ko] at h
  cases hs : Nf a y with
  | true => rw [hs] at h; exact jr _ (Nu l y x h)
  | false =>
   rw [hs] at h
   rcases jp.1 h with h | h
   ·exact h ▸ List.mem_cons_self ..
   ·exact jr _ (Nu l y x h)
noncomputable def UV (m : Ea) (f : Int) (k : Nat) : Ya := Xx (Qo m.2.1 (Un m (Zd .i64 1 f) k) k)
noncomputable def Pf (m : Ea) (f o : Int) (c : Bool) (k : Nat) : Int × Int × Bool × Ya := Ys f o c (UV m f k)
noncomputable def hK (m : Ea) (f o : Int) (c : Bool) (k : Nat) : List Qa := [((k : Int), (Pf m f o c k).2.2.2, ())]
noncomputable def Hk (m : Ea) (f o : Int) (c : Bool) (k : Nat) : List Ga := Ko Nf (Td []) [Td (hK m f o c k)]
noncomputable def HA (m : Ea) (f o : Int) (c : Bool) (k : Nat) : List Ga := Ko Nf (Td (hK m f o c k)) [Td []]
structure Ph (m : Ea) : Prop where
 v : Ec m = true
 z : Pb Oa m ≤ Na - 10
theorem Gt {m : Ea} (hM : Ph m) {f o : Int} {c : Bool} (hs : Ps m.2.1.length f o) {k : Nat} (hk : (k : Int) < m.1) :
 RJ m.2.1.length (UV m f k) ∧ Ps m.2.1.length (Pf m f o c k).1 (Pf m f o c k).2.1 ∧ RJ m.2.1.length (Pf m f o c k).2.2.2 ∧ Ei (hK m f o c k) = true ∧
  (∀ x ∈ hK m f o c k, Ao m.1 m.2.1.length x = true) := by
 have hm := Wg hM.v
 have h1 := NZ hm (Zd .i64 1 f) hk
 have h2 := E8 h1.1 h1.2
 have h3 := Saa (c := c) hm.l2 hs h2
 refine ⟨h2, h3.1, h3.2, S5 (by have := hm.k2; omega) h3.2, fun x hx => ?_⟩
 simp only [hK, jp, yr, or_false] at hx
 subst hx
 simp only [Ao, jd, yc, Bool.and_eq_false_iff, decide_eq_false_iff_not]
 refine ⟨by omega, ?_⟩
 by_cases h9 : (Pf m f o c k).2.2.2.1 = 9
 ·exact .inl (by show ((Pf m f o c k).2.2.2.1 != 9) = false; simp [h9])
 ·exact .inr (Int.not_le.2 (h3.2.n h9))
theorem z20 {m : Ea} (hM : Ph m) (f o : Int) (c : Bool) (h : List Qa) (hh : h.length ≤ 1) : Pb Gb (Cf m f o c h) ≤ Na := by
 have h20 : Na = 1048576 := rfl
 have := hM.z
 rw [NR]; omega
theorem Ry (l : List Qa) : (Td l).2.1.length ≤ Na := by
 have h20 : Na = 1048576 := rfl
 have := NB l
 omega
theorem Gy : Ei [] = true := rfl
theorem MM {m : Ea} (hM : Ph m) {f o : Int} {c : Bool} (hs : Ps m.2.1.length f o) {k : Nat} (hk : (k : Int) < m.1) :
 Uw (Cf m f o c []) (k : Int) false = some (Cf m (Pf m f o c k).1 (Pf m f o c k).2.1 (Pf m f o c k).2.2.1 (hK m f o c k), Hk m f o c k, ()) := by
 have h20 : Na = 1048576 := rfl
 have hm := Wg hM.v
 obtain ⟨h1, h2, h3, h4, h5⟩ := Gt (o := o) (c := c) hM hs hk
 have hl := KD hm (Zd .i64 1 f) k
 have hrow := hm.row _ hl
 unfold Uw
 rw [Tv _ (z20 hM f o c [] (by simp))]
 show jz (some (Cf m f o c [], ())) _ = _
 simp only [jb]
 show jz (Pn f []) _ = _
 rw [GP (I1 hm.l2 hs)]
 simp only [jb]
 show jz (Gq m (Zd .i64 1 f) (k : Int)) _ = _
 rw [QI hm _ hk]
 simp only [jb]
 show jz (Ac m.2.1 ((Un m (Zd .i64 1 f) k : Nat) : Int)) _ = _
 rw [KW hl (by omega)]
 simp only [yu]
 rw [JM]
 simp only [jb]
 show jz (Bo (m, [], f, [], o, c, ()) (UV m f k)) _ = _
 rw [GK _ _ _ _ _ _ _ h1.act]
 simp only [jb]
 have e9 : decide ((Pf m f o c k).2.2.2.2.2.2.1 < ((ja ([] : List (List Be)) : Nat) : Int)) = false := Ja (by have := NA h3.act; show ¬ _ < (0 : Int); omega)
 have hR1 : Ub (hK m f o c k) = some (Td (hK m f o c k), ()) := Um _ (by simp [hK]; omega) h4
 have hR0 : Ub [] = some (Td [], ()) := Um [] (by decide) Gy
 have hC : Ic (Td []) [Td (hK m f o c k)] = some (Hk m f o c k, ()) := Iy _ _ (by simp; omega) (Ry _) (fun x hx => by
  simp only [jp, yr, or_false] at hx; rw [hx]; exact Ry _)
 have Af : (jz (Ub (hK m f o c k)) fun r29 => jz (Ub ([] : List Qa)) fun r30 => jz (Ic r30.1 [r29.1]) fun r31 =>
  (some (Cf m (Pf m f o c k).1 (Pf m f o c k).2.1 (Pf m f o c k).2.2.1 (hK m f o c k), r31.1, ()) : Option (Db × ((List Ga) × Unit)))) =
  some (Cf m (Pf m f o c k).1 (Pf m f o c k).2.1 (Pf m f o c k).2.2.1 (hK m f o c k), Hk m f o c k, ()) := by
  rw [hR1, hR0]
  simp only [jb]
  rw [hC]
  rfl
 have hb : jx (ja ([] : List Qa) + ja (hK m f o c k)) Mb = true := rfl
 show cond (jx (ja ([] : List Qa) + ja (hK m f o c k)) Mb) (cond ((Pf m f o c k).2.2.2.1 == 9) (cond (decide ((Pf m f o c k).2.2.2.2.2.2.1 < ((ja ([] : List (List Be)) : Nat) : Int))) _ _) _) _ = _
 rw [hb, e9]
 cases (Pf m f o c k).2.2.2.1 == 9 <;> exact Af
theorem VM {m : Ea} (hM : Ph m) {f o : Int} {c : Bool} (hs : Ps m.2.1.length f o) {k : Nat} (hk : (k : Int) < m.1) :
 Dn (Cf m f o c []) (k : Int) false = some (Cf m (Pf m f o c k).1 (Pf m f o c k).2.1 (Pf m f o c k).2.2.1 (hK m f o c k), Hk m f o c k, true, ()) := by
 have h20 : Na = 1048576 := rfl
 have hm := Wg hM.v
 have hz0 := hM.z
 obtain ⟨h1, h2, h3, h4, h5⟩ := Gt (o := o) (c := c) hM hs hk
 have hk2 := hm.k2
 have hv := Wt hM.v hs c Gy (by simp)
 unfold Dn
 rw [Nh _ (z20 hM f o c [] (by simp)), hv, Wu _ _ (by show (0 : Nat) ≤ _; omega), Ar _ (z20 hM f o c [] (by simp))]
 simp only [jb, jg, yu, Lf]
 show cond (!decide (0 ≤ (k : Int) ∧ (k : Int) ≤ j4 .i64 (m.1 - 1))) _ _ = _
 rw [Fh (by omega) (by omega), Ia (show 0 ≤ (k : Int) ∧ (k : Int) ≤ m.1 - 1 by omega)]
 simp only [jg, yu]
 show cond (decide ((-1 : Int) ≥ 0)) _ _ = _
 rw [Ja (by decide)]
 simp only [yu]
 show jz (Xn f []) _ = _
 rw [LQ (I1 hm.l2 hs)]
 simp only [jb]
 show jz (Vn m (Zd .i64 1 f) (k : Int)) _ = _
 rw [LH (by omega) hM.v _ hk]
 simp only [jb]
 rw [SM]
 simp only [jb]
 show jz (Fk (m, [], f, [], o, c, ()) (UV m f k)) _ = _
 rw [UK _ _ _ _ _ _ _ h1.act]
 simp only [jb]
 have e9 : decide ((Pf m f o c k).2.2.2.2.2.2.1 < ((ja ([] : List (List Be)) : Nat) : Int)) = false := Ja (by have := NA h3.act; show ¬ _ < (0 : Int); omega)
 have hR1 : Vb (hK m f o c k) = some (Td (hK m f o c k), ()) := Gn _ (by simp [hK]; omega) h4
 have hR0 : Vb [] = some (Td [], ()) := Gn [] (by decide) Gy
 have hC : Pd (Td []) [Td (hK m f o c k)] = some (Hk m f o c k, ()) := Vy _ _ (by simp; omega) (Ry _) (fun x hx => by
  simp only [jp, yr, or_false] at hx; rw [hx]; exact Ry _)
 have Af : (jz (Vb (hK m f o c k)) fun r29 => jz (Vb ([] : List Qa)) fun r30 => jz (Pd r30.1 [r29.1]) fun r31 =>
  (some (Cf m (Pf m f o c k).1 (Pf m f o c k).2.1 (Pf m f o c k).2.2.1 (hK m f o c k), r31.1, true, ()) : Option (Db × ((List Ga) × (Bool × Unit))))) =
  some (Cf m (Pf m f o c k).1 (Pf m f o c k).2.1 (Pf m f o c k).2.2.1 (hK m f o c k), Hk m f o c k, true, ()) := by
  rw [hR1, hR0]
  simp only [jb]
  rw [hC]
  rfl
 have hb : jx (ja ([] : List Qa) + ja (hK m f o c k)) Mb = true := rfl
 show cond (jx (ja ([] : List Qa) + ja (hK m f o c k)) Mb) (cond ((Pf m f o c k).2.2.2.1 == 9) (cond (decide ((Pf m f o c k).2.2.2.2.2.2.1 < ((ja ([] : List (List Be)) : Nat) : Int))) _ _) _) _ = _
 rw [hb, e9]
 cases (Pf m f o c k).2.2.2.1 == 9 <;> exact Af
theorem VO {m : Ea} {f o : Int} {c : Bool} {k : Nat} : Ue (fun h : Qa => h.1 == (k : Int)) 0 (hK m f o c k) = 0 := by
 have e : ((k : Int) == (k : Int)) = true := by simp
 show cond ((k : Int) == (k : Int)) ((0 : Nat) : Int) _ = 0
 rw [e]; rfl
theorem SI {m : Ea} (hM : Ph m) {f o : Int} {c : Bool} (hs : Ps m.2.1.length f o) {k : Nat} (hk : (k : Int) < m.1) (f' o' : Int) (c' : Bool) :
 Yt (Cf m f' o' c' (hK m f o c k)) (k : Int) = some (Cf m f' o' c' [], HA m f o c k, ()) := by
 have h20 : Na = 1048576 := rfl
 obtain ⟨h1, h2, h3, h4, h5⟩ := Gt (o := o) (c := c) hM hs hk
 have hR1 : Ub (hK m f o c k) = some (Td (hK m f o c k), ()) := Um _ (by simp [hK]; omega) h4
 have hR0 : Ub [] = some (Td [], ()) := Um [] (by decide) Gy
 have hC : Ic (Td (hK m f o c k)) [Td []] = some (HA m f o c k, ()) := Iy _ _ (by simp; omega) (Ry _) (fun x hx => by
  simp only [jp, yr, or_false] at hx; rw [hx]; exact Ry _)
 unfold Yt
 rw [Tv _ (z20 hM f' o' c' _ (by simp [hK])), EK _ _ (by show (hK m f o c k).length ≤ _; simp [hK]; omega)]
 simp only [jb]
 have hf : Ue (fun h : Qa => h.1 == (k : Int)) 0 (Cf m f' o' c' (hK m f o c k)).2.2.2.1 = 0 := VO
 rw [hf]
 show jz (Ub (hK m f o c k)) (fun r3 => jz (Ub []) fun r4 => jz (Ic r3.1 [r4.1]) fun r5 => some (Cf m f' o' c' [], r5.1, ())) = _
 rw [hR1, hR0]
 simp only [jb]
 rw [hC]
 rfl
theorem MJ {m : Ea} (hM : Ph m) {f o : Int} {c : Bool} (hs : Ps m.2.1.length f o) {k : Nat} (hk : (k : Int) < m.1) {f' o' : Int} (hs' : Ps m.2.1.length f' o') (c' : Bool) :
 Cm (Cf m f' o' c' (hK m f o c k)) (k : Int) = some (Cf m f' o' c' [], HA m f o c k, true, ()) := by
 have h20 : Na = 1048576 := rfl
 obtain ⟨h1, h2, h3, h4, h5⟩ := Gt (o := o) (c := c) hM hs hk
 have hR1 : Vb (hK m f o c k) = some (Td (hK m f o c k), ()) := Gn _ (by simp [hK]; omega) h4
 have hR0 : Vb [] = some (Td [], ()) := Gn [] (by decide) Gy
 have hC : Pd (Td (hK m f o c k)) [Td []] = some (HA m f o c k, ()) := Vy _ _ (by simp; omega) (Ry _) (fun x hx => by
  simp only [jp, yr, or_false] at hx; rw [hx]; exact Ry _)
 have hv := Wt hM.v hs' c' h4 h5
 have hW : Ze (hK m f o c k) 0 = some ([], ()) := rfl
 unfold Cm
 rw [Wu _ _ (by show (hK m f o c k).length ≤ _; simp [hK]; omega), Nh _ (z20 hM f' o' c' _ (by simp [hK])), hv, Ar _ (z20 hM f' o' c' _ (by simp [hK]))]
 simp only [jb, jg, yu]
 show cond (decide (Ue (fun h : Qa => h.1 == (k : Int)) 0 (hK m f o c k) < 0)) _ (jz (Ze (hK m f o c k) (Ue (fun h : Qa => h.1 == (k : Int)) 0 (hK m f o c k))) _) = _
 rw [VO, Ja (by decide), hW]
 show jz (Vb (hK m f o c k)) (fun r5 => jz (Vb []) fun r6 => jz (Pd r5.1 [r6.1]) fun r7 => some (Cf m f' o' c' [], r7.1, true, ())) = _
 rw [hR1, hR0]
 simp only [jb]
 rw [hC]
 rfl
def Qv : Db := (((0 : Int), ([] : List (List Ya)), ()), ([] : List (List Be)), (0 : Int), ([] : List Qa), (0 : Int), false, ())
theorem G3 : Et Qv = false := rfl
theorem H3 : Pb Gb Qv ≤ Na := by decide
theorem TP {m : Ea} (hv : Ec m = true) : Ph m := by
 have hm := Wg hv
 refine ⟨hv, ?_⟩
 have h20 : Na = 1048576 := rfl
 have h1 : Pb Oa m = 0 + (Pb (.sl (.sl Sb)) m.2.1 + 0) := rfl
 have h2 : Pb (.sl (.sl Sb)) m.2.1 ≤ (32 + 1) * ja m.2.1 := J5 (e := .sl Sb) (c := 32) fun x hx => by
  obtain ⟨i, hi, rfl⟩ := List.getElem_of_mem hx
  rw [E0]
  have := hm.row i hi
  have := hm.k2
  omega
 have := hm.l2
 omega
abbrev St := (Int × Int × Bool) × List Ga
noncomputable def gT (m : Ea) (s : St) (k : Int) : St ⊕ Unit :=
 cond (decide (0 ≤ k ∧ k < m.1)) (.inl (((Pf m s.1.1 s.1.2.1 s.1.2.2 k.toNat).1, (Pf m s.1.1 s.1.2.1 s.1.2.2 k.toNat).2.1, (Pf m s.1.1 s.1.2.1 s.1.2.2 k.toNat).2.2.1),
  jf (jf s.2 (Hk m s.1.1 s.1.2.1 s.1.2.2 k.toNat)) (HA m s.1.1 s.1.2.1 s.1.2.2 k.toNat))) (.inr ())
structure SJ (m : Ea) (k : Nat) (s : St) : Prop where
 st : Ps m.2.1.length s.1.1 s.1.2.1
 len : s.2.length ≤ 2 * k
 rep : ∀ x ∈ s.2, x.2.1.length ≤ 56
theorem OY {m : Ea} (hM : Ph m) {k : Nat} {s s' : St} {x : Int} (hi : SJ m k s) (h : gT m s x = .inl s') : SJ m (k + 1) s' := by
 unfold gT at h
 by_cases hx : 0 ≤ x ∧ x < m.1
 ·rw [Ia hx] at h
  simp only [yt, Sum.inl.injEq] at h
  obtain ⟨n, rfl⟩ := jv hx.1
  rw [jn] at h
  obtain ⟨h1, h2, h3, h4, h5⟩ := Gt (o := s.1.2.1) (c := s.1.2.2) hM hi.st hx.2
  subst h
  refine ⟨h2, ?_, ?_⟩
  ·have e1 : (Hk m s.1.1 s.1.2.1 s.1.2.2 n).length ≤ 1 := Rs _ _
   have e2 : (HA m s.1.1 s.1.2.1 s.1.2.2 n).length ≤ 1 := Rs _ _
   have := hi.len
   show (jf (jf s.2 _) _).length ≤ _
   simp only [List.append_eq, qb]
   omega
  ·intro y hy
   have hy' : y ∈ (s.2 ++ Hk m s.1.1 s.1.2.1 s.1.2.2 n) ++ HA m s.1.1 s.1.2.1 s.1.2.2 n := hy
   rw [jl, jl] at hy'
   rcases hy' with (hy' | hy') | hy'
   ·exact hi.rep y hy'
   ·have := Nu _ _ _ hy'
    simp only [jp, yr, or_false] at this
    rw [this]; exact NB _
   ·have := Nu _ _ _ hy'
    simp only [jp, yr, or_false] at this
    rw [this]; exact NB _
 ·rw [Ja hx] at h; simp at h
theorem RM {m : Ea} (hM : Ph m) {f o : Int} {c : Bool} (hs : Ps m.2.1.length f o) (x : Int) :
 Dn (Cf m f o c []) x false = some (cond (decide (0 ≤ x ∧ x < m.1)) (Cf m (Pf m f o c x.toNat).1 (Pf m f o c x.toNat).2.1 (Pf m f o c x.toNat).2.2.1 (hK m f o c x.toNat), Hk m f o c x.toNat, true, ()) (Qv, [], false, ())) := by
 have hm := Wg hM.v
 have hk1 := hm.k1
 have hk2 := hm.k2
 by_cases hx : 0 ≤ x ∧ x < m.1
 ·rw [Ia hx]
  obtain ⟨n, rfl⟩ := jv hx.1
  rw [VM hM hs hx.2, jn]; rfl
 ·rw [Ja hx]
  have hv := Wt hM.v hs c Gy (by simp)
  unfold Dn
  rw [Nh _ (z20 hM f o c [] (by simp)), hv]
  simp only [jb, jg, yu, Lf]
  show cond (!decide (0 ≤ x ∧ x ≤ j4 .i64 (m.1 - 1))) _ _ = _
  rw [Fh (by omega) (by omega), Ja (show ¬ (0 ≤ x ∧ x ≤ m.1 - 1) by omega)]
  rfl
theorem IF (x : Int) : Cm Qv x = some (Qv, [], false, ()) := by
 unfold Cm
 rw [Nh _ H3, G3, Wu _ _ (by decide)]; rfl
def eS (m : Ea) (s : St) : Db := Cf m s.1.1 s.1.2.1 s.1.2.2 []
noncomputable def D3 (m : Ea) (s : St) (keys : List Int) : Db × ((List Ga) × (Bool × Unit)) :=
 match Hg (fun _ s x => gT m s x) 0 s keys with | .inl s' => (eS m s', s'.2, true, ()) | .inr _ => (Qv, [], false, ())
theorem AP {m : Ea} (hM : Ph m) : ∀ (l : List Int) (k : Nat) (s s' : St), SJ m k s → Hg (fun _ s x => gT m s x) k s l = .inl s' → SJ m (k + l.length) s'
 | [], k, s, s', h, he => by simp only [Hg, Sum.inl.injEq] at he; rw [← he]; exact h
 | x :: l, k, s, s', h, he => by
  simp only [Hg] at he
  cases hg : gT m s x with
  | inr u => rw [hg] at he; simp at he
  | inl s1 =>
   rw [hg] at he
   have := AP hM l (k + 1) s1 s' (OY hM h hg) he
   rw [jw, Nat.add_comm l.length 1, ← jt]
   exact this
theorem JJ {m : Ea} (hM : Ph m) {f o : Int} {c : Bool} (hs : Ps m.2.1.length f o) (keys : List Int) (hn : keys.length ≤ Na) : Em (Cf m f o c []) keys = some (D3 m ((f, o, c), []) keys) := by
 have h20 : Na = 1048576 := rfl
 have hlim := Li
 have hl := Yr (step := fun x => Hn x.1.1 x.1.2.1 x.1.2.2.1 x.1.2.2.2.1 x.1.2.2.2.2.1 x.2.1 x.2.2.1) keys (fun _ s x => gT m s x) (fun s i => ((keys, (), s.2, (), i, ()), (Qv, eS m s, ())))
  (fun s => .inl (((), s.2, (), ()), (Qv, eS m s, ()))) (fun _ => .inr (((), ([] : List Ga), false, ()), (Qv, ()))) (SJ m) (by
   intro k hk s hi
   refine ⟨?_, fun s' h => OY hM hi h⟩
   simp only [Hn]
   rw [Ia (show (k : Int) < ((ja keys : Nat) : Int) by omega), Sc hk]
   simp only [yt, jb]
   generalize keys[k] = x
   show jz (Dn (Cf m s.1.1 s.1.2.1 s.1.2.2 []) x false) _ = _
   rw [RM hM hi.st]
   unfold gT
   by_cases hx : 0 ≤ x ∧ x < m.1
   ·rw [Ia hx]
    simp only [yt, jb]
    obtain ⟨n, rfl⟩ := jv hx.1
    obtain ⟨_, h2, _⟩ := Gt (o := s.1.2.1) (c := s.1.2.2) hM hi.st hx.2
    rw [jn, MJ hM hi.st hx.2 h2]
    have e1 : (Hk m s.1.1 s.1.2.1 s.1.2.2 n).length ≤ 1 := Rs _ _
    have e2 : (HA m s.1.1 s.1.2.1 s.1.2.2 n).length ≤ 1 := Rs _ _
    have := hi.len
    simp only [jb, jg, yu]
    rw [show jx (ja s.2 + ja (Hk m s.1.1 s.1.2.1 s.1.2.2 n)) Mb = true from ji (by omega),
     show jx (ja (jf s.2 (Hk m s.1.1 s.1.2.1 s.1.2.2 n)) + ja (HA m s.1.1 s.1.2.1 s.1.2.2 n)) Mb = true from ji (by simp only [List.append_eq, qb]; omega)]
    rfl
   ·rw [Ja hx]
    simp only [yu, jb]
    rw [IF]
    rfl)
  (by
   intro s _
   simp only [Hn]
   rw [Ja (by omega)]; rfl) (by omega) ((f, o, c), []) ⟨hs, by simp, by simp⟩
 unfold Em Oo
 erw [hl]
 unfold D3
 simp only [jb]
 cases hf : Hg (fun x s x => gT m s x) 0 ((f, o, c), []) keys with
 | inr u => rfl
 | inl s' =>
  have hi := AP hM keys 0 _ s' (⟨hs, by simp, by simp⟩ : SJ m 0 ((f, o, c), [])) hf
  have hv := Wt hM.v hi.st s'.1.2.2 Gy (by simp)
  show jz (Yf (eS m s')) _ = _
  unfold eS
  rw [Nh _ (z20 hM _ _ _ [] (by simp)), hv]
  simp only [jb, jg, yu]
  show jz (Fj (Cf m s'.1.1 s'.1.2.1 s'.1.2.2 [])) _ = _
  rw [Ar _ (z20 hM _ _ _ [] (by simp))]
  rfl
def JQ {X R : Type} (step : X → Option (X ⊕ R)) : Nat → X → Option R
 | 0, _ => none
 | n + 1, x => match step x with
  | some (.inl y) => JQ step n y
  | some (.inr r) => some r
  | none => none
theorem OT {X R : Type} {step : X → Option (X ⊕ R)} : ∀ (n : Nat) {x : X} {r : R}, JQ step n x = some r → Kb step x = some r
 | 0, _, _, h => by simp [JQ] at h
 | n + 1, x, r, h => by
  unfold JQ at h
  cases hs : step x with
  | none => rw [hs] at h; simp at h
  | some z =>
   rw [hs] at h
   rw [Ud hs]
   cases z with
   | inl y => exact OT n h
   | inr r' => exact h
def Cy : List (List UInt8) := [[97], [98], [99], [100], [101], [102], [103], [104], [105], [106], [107], [108], [109], [110], [111], [112], [113], [114], [115], [116], [117], [118], [119], [120], [121], [122], [49], [50], [51], [52], [53], [54], [55], [56], [57], [48], [101, 110, 116, 101, 114], [101, 115, 99], [98, 97, 99, 107], [116, 97, 98], [115, 112, 97, 99, 101], [109, 105, 110, 117, 115], [101, 113, 117, 97, 108], [108, 101, 102, 116], [114, 105, 103, 104, 116], [117, 112], [100, 111, 119, 110], [102, 49], [102, 50], [102, 51], [102, 52], [102, 53], [102, 54], [102, 55], [102, 56], [102, 57]]
theorem LW : strings_Split FC [32] = some (Cy, ()) := by kernel_rfl
def Sg (c : Int) : List UInt8 := cond (decide (1 ≤ c ∧ c ≤ 56)) (Cy.getD (c - 1).toNat []) []
theorem DY : Cy.length = 56 := by decide +kernel
theorem O7 {c : Int} (h : 1 ≤ c ∧ c ≤ 56) : Cy[(c - 1).toNat]? = some (Sg c) ∧ Xl Cy.length (c - 1) = true := by
 have hl : (c - 1).toNat < Cy.length := by rw [DY]; omega
 constructor
 ·unfold Sg
  rw [Ia h, yt, qd, je hl]; rfl
 ·have : c - 1 = (((c - 1).toNat : Nat) : Int) := by omega
  rw [this, Yw]; exact Ia hl
theorem VG (c : Int) : Ds c = some (Sg c, ()) := by
 unfold Ds
 by_cases h1 : c < 1
 ·rw [Ia h1]; unfold Sg; rw [Ja (show ¬ (1 ≤ c ∧ c ≤ 56) by omega)]; rfl
 rw [Ja h1]
 by_cases h2 : c > 56
 ·rw [Ia h2]; unfold Sg; rw [Ja (show ¬ (1 ≤ c ∧ c ≤ 56) by omega)]; rfl
 rw [Ja h2, LW]
 obtain ⟨e1, e2⟩ := O7 (c := c) (by omega)
 simp only [yu, jb]
 rw [Fh (by omega) (by omega), e1, e2]
 rfl
theorem AH {l : List (List UInt8)} {by_ : List UInt8} (h1 : l.length ≤ 1073741824) (h2 : (Lib.join l by_).length ≤ 1073741824) : Hs l by_ = some (Lib.join l by_, ()) := by
 unfold Hs strings_Join SN
 rw [ji h1, ji h2]
 rfl
theorem Q1 (l : List (List UInt8)) (s : List UInt8) (c : Nat) (h : ∀ x ∈ l, x.length ≤ c) : (Lib.join l s).length ≤ (c + s.length) * l.length := by
 cases l with
 | nil => simp [Lib.join_nil]
 | cons x r =>
  rw [Lib.join_cons, qb, Lib.joinTail_length]
  have h1 := h x (by simp)
  have h2 : Lib.lens r ≤ c * r.length := by
   clear h1
   induction r with
   | nil => simp [Lib.lens]
   | cons y r ih =>
    have := ih (fun z hz => h z (by simp at hz ⊢; rcases hz with hz | hz <;> simp [hz]))
    have h3 := h y (by simp)
    simp only [Lib.lens, ya, List.sum_cons, jw] at this ⊢
    rw [Nat.mul_succ]
    omega
  simp only [jw]
  rw [Nat.mul_succ, q7]
  omega
def Dp (m : Int) : List UInt8 := [[], [67], [83], [67, 83], [65], [67, 65], [83, 65], [67, 83, 65], [71], [67, 71], [83, 71], [67, 83, 71], [65, 71], [67, 65, 71], [83, 65, 71], [67, 83, 65, 71]].getD m.toNat []
theorem LM : ∀ m : Fin 16, JQ (fun x : (Int × List UInt8 × List (List UInt8) × Int × Int × Unit) × Unit => Lo x.1.1 x.1.2.1 x.1.2.2.1 x.1.2.2.2.1 x.1.2.2.2.2.1) 10 (((m.val : Int), [], [[67], [83], [65], [71]], 4, 0, ()), ()) = some (.inl ((Dp m.val, ()), ())) := by
 intro m
 simp only [Lo]
 revert m
 decide +kernel
theorem DH {m : Int} (h : ¬ (1 ≤ m ∧ m ≤ 15)) : Dp m = [] := by
 unfold Dp
 by_cases hm : m < 1
 ·rw [show m.toNat = 0 by omega]; rfl
 ·rw [qd, qn (by simp; omega)]; rfl
theorem AD (m : Int) : To m = some (Dp m, ()) := by
 unfold To
 by_cases h1 : m < 1
 ·rw [Ia h1, DH (by omega)]; rfl
 rw [Ja h1, yu]
 by_cases h2 : m > 15
 ·rw [Ia h2, DH (by omega)]; rfl
 rw [Ja h2, yu]
 have := OT 10 (LM ⟨m.toNat, by omega⟩)
 rw [show (((⟨m.toNat, by omega⟩ : Fin 16).val : Nat) : Int) = m by show ((m.toNat : Nat) : Int) = m; omega] at this
 unfold Sk
 erw [this]
 rfl
theorem VP (m : Int) : (Dp m).length ≤ 4 := by
 by_cases h : 1 ≤ m ∧ m ≤ 15
 ·have : ∀ m : Fin 16, (Dp m.val).length ≤ 4 := by decide +kernel
  have := this ⟨m.toNat, by omega⟩
  rwa [show (((⟨m.toNat, by omega⟩ : Fin 16).val : Nat) : Int) = m by show ((m.toNat : Nat) : Int) = m; omega] at this
 ·rw [DH h]; simp
theorem MY (c : Int) : (Sg c).length ≤ 5 := by
 unfold Sg
 cases decide (1 ≤ c ∧ c ≤ 56) with
 | false => simp
 | true =>
  have h : ∀ x ∈ Cy, x.length ≤ 5 := by decide +kernel
  rw [yt, qd]
  cases hc : Cy[(c - 1).toNat]? with
  | none => simp
  | some y => exact h y (List.mem_of_getElem? hc)
def Hz (r : Ga) : List UInt8 := cond (Ld r) (jf (jf (Dp r.1) [58]) (Lib.join (r.2.1.map Sg) [44])) []
theorem Ey {r : Ga} (h : Ld r = true) : r.2.1.length ≤ 56 := by
 unfold Ld at h
 simp only [jd] at h
 have h2 := Aj.1 h.2
 have key : ∀ j (hj : j < r.2.1.length), (j : Int) + 1 ≤ r.2.1[j] ∧ r.2.1[j] ≤ 56 := by
  intro j
  induction j with
  | zero =>
   intro hj
   have := h2 0 hj
   simp only [Eu, jd, decide_eq_true_eq] at this
   omega
  | succ j ih =>
   intro hj
   have h3 := ih (by omega)
   have := h2 (j + 1) hj
   simp only [Eu, jd, qr, yc, decide_eq_true_eq, decide_eq_false_iff_not] at this
   have e : r.2.1.getD (0 + (j + 1) - 1) 0 = r.2.1[j] := by
    rw [show 0 + (j + 1) - 1 = j by omega, qd, je (by omega)]; rfl
   rw [e] at this
   omega
 apply Classical.byContradiction
 intro hn
 have := key 56 (by omega)
 omega
theorem KL {r : Ga} (h : Ld r = true) : (Lib.join (r.2.1.map Sg) [44]).length ≤ 336 := by
 have h1 := Q1 (r.2.1.map Sg) [44] 5 (fun x hx => by
  obtain ⟨c, _, rfl⟩ := qg.1 hx
  exact MY c)
 have h2 := Ey h
 simp only [yi, jw, j6] at h1
 omega
theorem BP (r : Ga) : (Hz r).length ≤ 341 := by
 unfold Hz
 cases h : Ld r with
 | false => simp
 | true =>
  have := KL h
  have := VP r.1
  simp only [yt, List.append_eq, qb, jw, j6]
  omega
theorem BB (r : Ga) (hn : r.2.1.length ≤ Na) : Jl r = some (Hz r, ()) := by
 have h20 : Na = 1048576 := rfl
 unfold Jl Hz
 rw [ZG r hn]
 cases hv : Ld r with
 | false => rfl
 | true =>
  simp only [jb, jg, yu, yt]
  have hk := Ey hv
  have hl := Vv (step := fun x : (Unit × List (List UInt8) × List Int × Int × Int × Unit) × Ga × Unit => Ci x.1.1 x.1.2.1 x.1.2.2.1 x.1.2.2.2.1 x.1.2.2.2.2.1 x.2.1) r.2.1 Sg
   (fun o k => (((), o, r.2.1, (r.2.1.length : Int), k, ()), (r, ()))) (fun o => .inl (((), o, ()), (r, ()))) (by omega) (fun k hk o ho => by
    simp only [Ci]
    rw [Ia (by omega), Sc hk]
    simp only [yt, jb]
    rw [VG]
    simp only [jb]
    rw [Pe (by simp only [jw, j6]; omega)]
    rfl) (fun o => by
    simp only [Ci]
    rw [Ja (by omega)]
    rfl)
  unfold Pj
  erw [hl]
  simp only [jb, qe]
  rw [AD]
  have h1 := VP r.1
  have h2 := KL hv
  simp only [jb]
  rw [Pe (by simp only [jw, j6]; omega)]
  simp only [yt]
  rw [AH (by simp; omega) (by omega)]
  simp only [jb]
  rw [Pe (by simp only [List.append_eq, qb, jw, j6]; omega)]
  rfl
theorem DF {c : UInt8} : ∀ {a a' b b' : List UInt8}, (∀ x ∈ a, x ≠ c) → (∀ x ∈ a', x ≠ c) → a ++ c :: b = a' ++ c :: b' → a = a' ∧ b = b'
 | [], [], b, b', _, _, h => by simpa using h
 | [], y :: r, b, b', _, h2, h => by
  simp only [List.nil_append, q8, q9] at h
  exact absurd h.1.symm (h2 y (by simp))
 | x :: r, [], b, b', h1, _, h => by
  simp only [List.nil_append, q8, q9] at h
  exact absurd h.1 (h1 x (by simp))
 | x :: r, y :: q, b, b', h1, h2, h => by
  simp only [q8, q9] at h
  obtain ⟨e1, e2⟩ := DF (fun z hz => h1 z (jr _ hz)) (fun z hz => h2 z (jr _ hz)) h.2
  exact ⟨by rw [h.1, e1], e2⟩
theorem PZ : ∀ c : Fin 56, Sg ((c.val : Int) + 1) ≠ [] ∧ ∀ x ∈ Sg ((c.val : Int) + 1), x ≠ 44 ∧ x ≠ 58 ∧ x ≠ 59 := by decide +kernel
theorem P7 : ∀ a b : Fin 56, Sg ((a.val : Int) + 1) = Sg ((b.val : Int) + 1) → a = b := by decide +kernel
theorem TN {c : Int} (h : 1 ≤ c ∧ c ≤ 56) : ∃ i : Fin 56, c = (i.val : Int) + 1 := ⟨⟨(c - 1).toNat, by omega⟩, by show c = (((c - 1).toNat : Nat) : Int) + 1; omega⟩
theorem F5 {c : Int} (h : 1 ≤ c ∧ c ≤ 56) : Sg c ≠ [] := by obtain ⟨i, rfl⟩ := TN h; exact (PZ i).1
theorem BF {c : Int} (h : 1 ≤ c ∧ c ≤ 56) : ∀ x ∈ Sg c, x ≠ 44 ∧ x ≠ 58 ∧ x ≠ 59 := by obtain ⟨i, rfl⟩ := TN h; exact (PZ i).2
theorem QZ {a b : Int} (ha : 1 ≤ a ∧ a ≤ 56) (hb : 1 ≤ b ∧ b ≤ 56) (h : Sg a = Sg b) : a = b := by
 obtain ⟨i, rfl⟩ := TN ha
 obtain ⟨j, rfl⟩ := TN hb
 rw [P7 i j h]
theorem Haa : ∀ a : Fin 16, ∀ x ∈ Dp (a.val : Int), x ≠ 58 ∧ x ≠ 59 := by decide +kernel
theorem N7 : ∀ a b : Fin 16, Dp (a.val : Int) = Dp (b.val : Int) → a = b := by decide +kernel
theorem RW {c : Int} (h : 0 ≤ c ∧ c ≤ 15) : ∃ i : Fin 16, c = (i.val : Int) := ⟨⟨c.toNat, by omega⟩, by show c = ((c.toNat : Nat) : Int); omega⟩
theorem QW {c : Int} (h : 0 ≤ c ∧ c ≤ 15) : ∀ x ∈ Dp c, x ≠ 58 ∧ x ≠ 59 := by obtain ⟨i, rfl⟩ := RW h; exact Haa i
theorem Iaa {a b : Int} (ha : 0 ≤ a ∧ a ≤ 15) (hb : 0 ≤ b ∧ b ≤ 15) (h : Dp a = Dp b) : a = b := by
 obtain ⟨i, rfl⟩ := RW ha
 obtain ⟨j, rfl⟩ := RW hb
 rw [N7 i j h]
theorem Ox (x y : List UInt8) (r : List (List UInt8)) : Lib.join (x :: y :: r) [44] = x ++ 44 :: Lib.join (y :: r) [44] := by
 simp [Lib.join, List.intercalate, List.intersperse]
theorem C5 : ∀ (l : List Int), (∀ c ∈ l, 1 ≤ c ∧ c ≤ 56) → ∀ x ∈ Lib.join (l.map Sg) [44], x ≠ 58 ∧ x ≠ 59
 | [], _, x, hx => by simp [Lib.join_nil] at hx
 | [a], h, x, hx => by
  rw [ya, yb, Lib.join_one] at hx
  exact (BF (h a (by simp)) x hx).2
 | a :: b :: r, h, x, hx => by
  rw [ya, ya, Ox, jl, jp] at hx
  rcases hx with hx | rfl | hx
  ·exact (BF (h a (by simp)) x hx).2
  ·exact ⟨by decide, by decide⟩
  ·exact C5 (b :: r) (fun c hc => h c (jr _ hc)) x (by rw [ya]; exact hx)
theorem VY : ∀ (l q : List Int), (∀ c ∈ l, 1 ≤ c ∧ c ≤ 56) → (∀ c ∈ q, 1 ≤ c ∧ c ≤ 56) → Lib.join (l.map Sg) [44] = Lib.join (q.map Sg) [44] → l = q
 | [], [], _, _, _ => rfl
 | [], [a], _, h2, h => by
  rw [yb, Lib.join_nil, ya, yb, Lib.join_one] at h
  exact absurd h.symm (F5 (h2 a (by simp)))
 | [], a :: b :: r, _, _, h => by
  rw [yb, Lib.join_nil, ya, ya, Ox] at h
  simp at h
 | [a], [], h1, _, h => by
  rw [yb, Lib.join_nil, ya, yb, Lib.join_one] at h
  exact absurd h (F5 (h1 a (by simp)))
 | a :: b :: r, [], _, _, h => by
  rw [yb, Lib.join_nil, ya, ya, Ox] at h
  simp at h
 | [a], [b], h1, h2, h => by
  rw [ya, yb, Lib.join_one, ya, yb, Lib.join_one] at h
  rw [QZ (h1 a (by simp)) (h2 b (by simp)) h]
 | [a], b :: c :: r, h1, _, h => by
  rw [ya, yb, Lib.join_one, ya, ya, Ox] at h
  exact absurd rfl (BF (h1 a (by simp)) 44 (by rw [h]; simp)).1
 | a :: c :: r, [b], _, h2, h => by
  rw [ya, ya, Ox, ya, yb, Lib.join_one] at h
  exact absurd rfl (BF (h2 b (by simp)) 44 (by rw [← h]; simp)).1
 | a :: c :: r, b :: d :: q, h1, h2, h => by
  rw [ya, ya, Ox, ya, ya, Ox] at h
  obtain ⟨e1, e2⟩ := DF (fun x hx => (BF (h1 a (by simp)) x hx).1) (fun x hx => (BF (h2 b (by simp)) x hx).1) h
  rw [QZ (h1 a (by simp)) (h2 b (by simp)) e1, VY (c :: r) (d :: q) (fun x hx => h1 x (jr _ hx)) (fun x hx => h2 x (jr _ hx)) (by rw [ya, ya]; exact e2)]
theorem PK {r : Ga} (h : Ld r = true) : (0 ≤ r.1 ∧ r.1 ≤ 15) ∧ ∀ c ∈ r.2.1, 1 ≤ c ∧ c ≤ 56 := by
 unfold Ld at h
 simp only [jd, decide_eq_true_eq] at h
 refine ⟨h.1, fun c hc => ?_⟩
 obtain ⟨i, hi, rfl⟩ := List.getElem_of_mem hc
 have := Aj.1 h.2 i hi
 simp only [Eu, jd, decide_eq_true_eq] at this
 exact this.1
theorem MK {r : Ga} (h : Ld r = true) : Hz r = Dp r.1 ++ 58 :: Lib.join (r.2.1.map Sg) [44] := by
 unfold Hz
 rw [h, yt]
 simp
theorem NT {r : Ga} (h : Ld r = true) : ∀ x ∈ Hz r, x ≠ 59 := by
 obtain ⟨h1, h2⟩ := PK h
 intro x hx
 rw [MK h, jl, jp] at hx
 rcases hx with hx | rfl | hx
 ·exact (QW h1 x hx).2
 ·decide
 ·exact (C5 _ h2 x hx).2
theorem R2 {r q : Ga} (hr : Ld r = true) (hq : Ld q = true) (h : Hz r = Hz q) : r = q := by
 obtain ⟨r1, r2⟩ := PK hr
 obtain ⟨q1, q2⟩ := PK hq
 rw [MK hr, MK hq] at h
 obtain ⟨e1, e2⟩ := DF (fun x hx => (QW r1 x hx).1) (fun x hx => (QW q1 x hx).1) h
 have g1 := Iaa r1 q1 e1
 have g2 := VY _ _ r2 q2 e2
 exact Prod.ext g1 (Prod.ext g2 rfl)
def Fl : List Ga → List UInt8
 | [] => []
 | r :: l => Hz r ++ 59 :: Fl l
theorem ZT : ∀ (l q : List Ga), (∀ r ∈ l, Ld r = true) → (∀ r ∈ q, Ld r = true) → Fl l = Fl q → l = q
 | [], [], _, _, _ => rfl
 | [], b :: q, _, _, h => by simp [Fl] at h
 | a :: l, [], _, _, h => by simp [Fl] at h
 | a :: l, b :: q, h1, h2, h => by
  simp only [Fl] at h
  obtain ⟨e1, e2⟩ := DF (NT (h1 a (by simp))) (NT (h2 b (by simp))) h
  rw [R2 (h1 a (by simp)) (h2 b (by simp)) e1, ZT l q (fun r hr => h1 r (jr _ hr)) (fun r hr => h2 r (jr _ hr)) e2]
theorem G8 (l q : List Ga) : Fl (l ++ q) = Fl l ++ Fl q := by
 induction l with
 | nil => rfl
 | cons a l ih => simp [Fl, ih]
theorem AU : ∀ (l : List Ga), (Fl l).length ≤ 342 * l.length
 | [] => by simp [Fl]
 | a :: l => by
  have := AU l
  have := BP a
  simp only [Fl, qb, jw]
  omega
theorem UL {a b : Ga} : Nf a b = true ↔ a = b := by
 unfold Nf
 simp only [jd, beq_iff_eq]
 exact ⟨fun h => Prod.ext h.1 (Prod.ext h.2 rfl), fun h => by rw [h]; exact ⟨rfl, rfl⟩⟩
theorem WY {l : List Int} (h : l.Pairwise (· < ·)) (h2 : ∀ c ∈ l, 1 ≤ c ∧ c ≤ 56) : Bf (fun k x => Eu l k x) 0 l = true := by
 rw [Aj]
 intro i hi
 have h1 := h2 l[i] (qf hi)
 simp only [Eu, js, jd, qr, yc, decide_eq_true_eq, decide_eq_false_iff_not]
 refine ⟨by omega, ?_⟩
 by_cases h0 : i = 0
 ·exact .inl h0
 ·right
  have h2 := List.pairwise_iff_getElem.1 h (i - 1) i (by omega) hi (by omega)
  rw [qd, je (by omega)]
  simp only [qs]
  omega
theorem IQ {l : List Qa} (hm : 0 ≤ AF l ∧ AF l ≤ 15) : Ld (Td l) = true := by
 unfold Ld Td
 rw [Ia hm]
 exact WY (Cs l 56) fun c hc => by
  have := ((Vt l 56 c).1 hc).1
  omega
theorem Qaa : Ld (Td []) = true := IQ (by show (0 : Int) ≤ 0 ∧ (0 : Int) ≤ 15; omega)
theorem Raa {k : Nat} {a : Ya} (h : Mc a = true) : Ld (Td [((k : Int), a, ())]) = true := by
 refine IQ ?_
 have hb := (Nb a).1 h
 unfold Dc at hb
 show 0 ≤ cond (a.1 == 2 || a.1 == 8) (Zd .i64 0 a.2.2.1) 0 ∧ cond (a.1 == 2 || a.1 == 8) (Zd .i64 0 a.2.2.1) 0 ≤ 15
 cases hc : (a.1 == 2 || a.1 == 8) with
 | false => simp
 | true =>
  simp only [qr, beq_iff_eq] at hc
  rw [yt]
  exact J2 (by omega) (by omega)
noncomputable def An (m : Ea) (x : Cd) (k : Nat) : List Ga := Hk m x.1 x.2.1 x.2.2.1 k ++ HA m x.1 x.2.1 x.2.2.1 k
noncomputable def Py (m : Ea) (x : Cd) (k : Nat) : Cd := ((Pf m x.1 x.2.1 x.2.2.1 k).1, (Pf m x.1 x.2.1 x.2.2.1 k).2.1, (Pf m x.1 x.2.1 x.2.2.1 k).2.2.1, ())
def Mt (m : Ea) (x : Cd) : Prop := Ps m.2.1.length x.1 x.2.1
theorem SZ {m : Ea} (hM : Ph m) {x : Cd} (hx : Mt m x) {k : Nat} (hk : (k : Int) < m.1) : Mt m (Py m x k) := (Gt (c := x.2.2.1) hM hx hk).2.1
theorem ZD {m : Ea} (hM : Ph m) {x : Cd} (hx : Mt m x) {k : Nat} (hk : (k : Int) < m.1) : (An m x k).length ≤ 2 ∧ ∀ r ∈ An m x k, Ld r = true := by
 have e1 : (Hk m x.1 x.2.1 x.2.2.1 k).length ≤ 1 := Rs _ _
 have e2 : (HA m x.1 x.2.1 x.2.2.1 k).length ≤ 1 := Rs _ _
 obtain ⟨h1, h2, h3, h4, h5⟩ := Gt (o := x.2.1) (c := x.2.2.1) hM hx hk
 refine ⟨by unfold An; rw [qb]; omega, fun r hr => ?_⟩
 rcases jl.1 hr with hr | hr
 ·have := Nu _ _ _ hr
  simp only [jp, yr, or_false] at this
  rw [this]; exact Raa h3.act
 ·have := Nu _ _ _ hr
  simp only [jp, yr, or_false] at this
  rw [this]; exact Qaa
theorem GX (m : Ea) (seen : List (Cd × List Sl)) (x : Cd) (e1 e2 : Db) (o : List Sl) (K k : Int) (L : List Ga) (hL : L.length ≤ 2) (hv : ∀ r ∈ L, Ld r = true) :
 Qg (((), (), (), o, (), ([] : List UInt8), K, k, L, ((ja L : Nat) : Int), (0 : Int), ()), ((m, seen, ()), x, e1, e2, ())) =
  some (.inl (((), (), (), o, (), Fl L, K, k, ()), ((m, seen, ()), x, e1, e2, ()))) := by
 have h20 : Na = 1048576 := rfl
 have hl := Ez (step := fun x => Di x.1.1 x.1.2.1 x.1.2.2.1 x.1.2.2.2.1 x.1.2.2.2.2.1 x.1.2.2.2.2.2.1 x.1.2.2.2.2.2.2.1 x.1.2.2.2.2.2.2.2.1 x.1.2.2.2.2.2.2.2.2.1 x.1.2.2.2.2.2.2.2.2.2.1 x.1.2.2.2.2.2.2.2.2.2.2.1 x.2.1 x.2.2.1 x.2.2.2.1 x.2.2.2.2.1)
  L.length (by omega) (fun k s => s + 1) 0 (fun s i => (((), (), (), o, (), Fl (L.take s), K, k, L, ((ja L : Nat) : Int), i, ()), ((m, seen, ()), x, e1, e2, ())))
  (fun s => .inl (((), (), (), o, (), Fl (L.take s), K, k, ()), ((m, seen, ()), x, e1, e2, ()))) (by
   intro j hj
   have hit : ∀ n, Zg (fun k s => s + 1) n 0 = n := fun n => by
    induction n with
    | zero => rfl
    | succ n ih => simp only [Zg, ih]
   rw [hit]
   simp only [Di]
   rw [Ia (by omega), Yw]
   rw [show decide (j < L.length) = true from decide_eq_true hj]
   simp only [yt]
   rw [jn, je hj]
   simp only [jb]
   have hk1 : L[j].2.1.length ≤ 56 := Ey (hv _ (qf hj))
   rw [BB _ (by omega)]
   have h1 := BP L[j]
   have h2 := AU (L.take j)
   have h3 : (L.take j).length ≤ 2 := by rw [List.length_take]; omega
   simp only [jb]
   rw [Pe (by simp; omega), Pe (by simp only [List.append_eq, qb, jw, j6]; omega)]
   simp only [yt]
   have ht : L.take (j + 1) = L.take j ++ [L[j]] := by simp [hj]
   rw [ht, G8, List.set_getElem_self hj]
   rfl) (by
   have hit : ∀ n, Zg (fun k s => s + 1) n 0 = n := fun n => by
    induction n with
    | zero => rfl
    | succ n ih => simp only [Zg, ih]
   rw [hit]
   simp only [Di]
   rw [Ja (by omega)]; rfl)
 have hit : Zg (fun k s => s + 1) L.length 0 = L.length := by
  generalize L.length = n
  induction n with
  | zero => rfl
  | succ n ih => simp only [Zg, ih]
 rw [hit, List.take_length, List.take_zero] at hl
 unfold Qg
 exact hl
noncomputable def FA (m : Ea) (x : Cd) (k : Nat) : Sl := (Py m x k, Fl (An m x k), ())
noncomputable def Pv (m : Ea) (x : Cd) (n : Nat) : List Sl := (yo n).map (FA m x)
noncomputable def Kg (m : Ea) (x : Cd) : List Sl := Pv m x m.1.toNat
theorem HX (m : Ea) (x : Cd) (n : Nat) : Pv m x (n + 1) = Pv m x n ++ [FA m x n] := by
 unfold Pv
 rw [List.range_succ, yl]; rfl
theorem CM (m : Ea) (x : Cd) (n : Nat) : (Pv m x n).length = n := by simp [Pv]
def ME (m : Ea) (seen : List (Cd × List Sl)) : Prop := ∀ e ∈ seen, e.2 = Kg m e.1
theorem OD {κ : Ty} (hc : κ.cmp = true) {α : Type} : ∀ {xs : List (T κ × α)} {n : T κ} {y : α}, Rd κ xs n = some y → (n, y) ∈ xs
 | [], n, y, h => by simp [Rd] at h
 | (k, x) :: r, n, y, h => by
  simp only [Rd] at h
  cases hk : Te κ n k with
  | true =>
   rw [hk] at h
   simp only [yt, jc] at h
   subst h
   rw [Qz hc hk]; simp
  | false => rw [hk] at h; exact jr _ (OD hc h)
theorem PL {κ : Ty} {α : Type} : ∀ {xs : List (T κ × α)} {n : T κ} {y : α} {e : T κ × α}, e ∈ Uh κ xs n y → e = (n, y) ∨ e ∈ xs
 | [], n, y, e, h => by simp [Uh] at h; exact .inl h
 | (k, x) :: r, n, y, e, h => by
  simp only [Uh] at h
  cases hk : Te κ n k with
  | true =>
   rw [hk] at h
   simp only [yt, jp] at h
   exact h.imp id (jr _)
  | false =>
   rw [hk] at h
   simp only [yu, jp] at h
   rcases h with h | h
   ·exact .inr (by rw [h]; simp)
   ·exact (PL h).imp id (jr _)
theorem Ax {m : Ea} (hM : Ph m) : ((m.1.toNat : Nat) : Int) = m.1 ∧ m.1.toNat ≤ 32 := by
 have hm := Wg hM.v
 have := hm.k1
 have := hm.k2
 omega
theorem XT {m : Ea} (hM : Ph m) {x : Cd} (hx : Mt m x) {seen : List (Cd × List Sl)} (hs : ME m seen) :
 ∃ seen', Qj m seen x = some (m, seen', Kg m x) ∧ ME m seen' := by
 unfold Qj
 cases hg : Rd Pc seen x with
 | some l =>
  refine ⟨seen, ?_, hs⟩
  have := hs _ (OD (by decide) hg)
  simp only [Option.isSome_some, yt, qs]
  rw [show l = Kg m x from this]
 | none =>
  simp only [Option.isSome_none, yu]
  obtain ⟨hk1, hk2⟩ := Ax hM
  have hl := Ez (step := fun x => Si x.1.1 x.1.2.1 x.1.2.2.1 x.1.2.2.2.1 x.1.2.2.2.2.1 x.1.2.2.2.2.2.1 x.2.1 x.2.2.1 x.2.2.2.1)
   m.1.toNat (by omega) (fun k s => s + 1) 0 (fun s i => (((), (), (), Pv m x s, m.1, i, ()), ((m, seen, ()), x, Cf m x.1 x.2.1 x.2.2.1 [], ())))
   (fun s => .inl (((), (), Pv m x s, ()), ((m, seen, ()), x, ()))) (by
    intro j hj
    have hit : ∀ n, Zg (fun k s => s + 1) n 0 = n := fun n => by
     induction n with
     | zero => rfl
     | succ n ih => simp only [Zg, ih]
    rw [hit]
    have hjm : (j : Int) < m.1 := by omega
    obtain ⟨hy1, hy2⟩ := ZD hM hx hjm
    simp only [Si]
    rw [Ia (by omega), MM hM hx hjm]
    simp only [yt, jb]
    rw [SI hM hx hjm]
    simp only [jb]
    have hle : (Hk m x.1 x.2.1 x.2.2.1 j).length + (HA m x.1 x.2.1 x.2.2.1 j).length ≤ 2 := by
     have := hy1; unfold An at this; rw [qb] at this; exact this
    rw [Pe (by omega)]
    simp only [yt]
    rw [show jf (Hk m x.1 x.2.1 x.2.2.1 j) (HA m x.1 x.2.1 x.2.2.1 j) = An m x j from rfl]
    erw [GX m seen x (Cf m x.1 x.2.1 x.2.2.1 []) (Cf m (Pf m x.1 x.2.1 x.2.2.1 j).1 (Pf m x.1 x.2.1 x.2.2.1 j).2.1 (Pf m x.1 x.2.1 x.2.2.1 j).2.2.1 []) (Pv m x j) m.1 (j : Int) (An m x j) hy1 hy2]
    simp only [jb, qe]
    rw [Pe (by rw [CM]; simp; omega)]
    simp only [yt]
    rw [HX]
    rfl) (by
    have hit : ∀ n, Zg (fun k s => s + 1) n 0 = n := fun n => by
     induction n with
     | zero => rfl
     | succ n ih => simp only [Zg, ih]
    rw [hit]
    simp only [Si]
    rw [Ja (by omega)]; rfl)
  have hit : Zg (fun k s => s + 1) m.1.toNat 0 = m.1.toNat := by
   generalize m.1.toNat = n
   induction n with
   | zero => rfl
   | succ n ih => simp only [Zg, ih]
  rw [hit] at hl
  refine ⟨Uh Pc seen x (Kg m x), ?_, fun e he => ?_⟩
  ·unfold Bk
   erw [hl]
   rfl
  ·rcases PL he with rfl | he
   ·rfl
   ·exact hs e he


theorem Aa {n m : Nat} (h : n ≤ 1000) (hm : m ≤ 10) : jx (n + m) Mb = true := ji (by rw [Li]; omega)


theorem XP : ∀ (n : Nat) (l : List Nat), l.Nodup → (∀ x ∈ l, x < n) → l.length ≤ n
 | 0, l, _, h => by
  cases l with
  | nil => exact jo _
  | cons x l => exact absurd (h x (List.mem_cons_self ..)) (Nat.not_lt_zero _)
 | n + 1, l, hn, h => by
  have := XP n (l.erase n) (hn.erase n) (fun x hx => by
   have h1 := (hn.mem_erase_iff).1 hx
   have := h x h1.2
   have := h1.1
   omega)
  have h2 := List.length_erase (a := n) (l := l)
  split at h2 <;> omega
section
variable (nx : Int → Nat → Int) (K : Nat) (fr : Int) (P : Int → Prop)
end
section
variable {nx : Int → Nat → Int} {K : Nat} {fr : Int} {P : Int → Prop}
end


end KF
