/- An evaluator of Go functions on plain data, its soundness, and plain laws on what the functions compute, part 4 (conditions: as each lemma tells). -/
import Derived.Test.YteooipbgmfmhfaaGreatDoorC
import Derived.Lib.Split
import Derived.Lib.Join
import Derived.Lib.ItoaNum
import Derived.Lib.IndexMore
import Derived.Lib.Bytealg
import Derived.Lib.Atoi
import Derived.Shelf.Sort.Plain
import Derived.Shelf.Slices.In.SortNone2
import Derived.Shelf.LaysM
import Derived.Shelf.Strings.Split
import Derived.Shelf.Strings.OnBuilder
import Derived.Shelf.Strconv.Itoa3
import Derived.LaidLaws
import Derived.LaidHandle
import Derived.Lib.LaidTab
import Derived.IntWalk
set_option linter.unusedSimpArgs false
set_option linter.unusedVariables false
namespace KF
open Go
open List renaming length → ja, getElem?_eq_getElem → je, append → jf, mem_append → jl, mem_cons → jp, mem_cons_of_mem → jr, length_cons → jw, set → j5, length_nil → j6, mem_singleton → qa, length_append → qb, getD_eq_getElem?_getD → qd, getElem_mem → qf, mem_map → qg, ext_getElem? → qj, drop_drop → qk, toArray → ql, getD → qm, getElem?_eq_none → qn, mem_append_left → qo, mem_append_right → qp, append_assoc → qt, eq_nil_of_length_eq_zero → qv, getElem?_eq_some_iff → qw, length_eq_one_iff → qx, replicate → q0, cons_append → q8, map_cons → ya, map_nil → yb, nodup_cons → yd, nodup_append → ye, size_toArray → yf, flatten_cons → yg, length_map → yi, mem_map_of_mem → yk, map_append → yl, all_eq_true → ym, range → yo, map → yq, not_mem_nil → yr
open Option renaming bind_some → jb, bind → jz, map_some → j9, bind_eq_some_iff → qc, getD_some → qs, map_eq_some_iff → yn
open Option.some renaming injEq → jc, inj → yp
open Bool renaming and_eq_true → jd, not_true → jg, true_and → jk, false_eq_true → jq, not_eq_true → j7, or_eq_true → qr, not_eq_true' → yc, false_or → yj
open Prod.mk renaming injEq → jh
open Nat renaming ble_eq_true_of_le → ji, mul_le_mul_right → jm, le_refl → jo, zero_add → js, add_assoc → jt, eq_of_beq_eq_true → ju, ble → jx, le_trans → j8, beq → qq, le_of_ble_eq_true → qu, add_zero → qy, blt → qz, blt_eq → q6, add_mul → q7, succ_mul → yh
open Int renaming toNat_natCast → jn, eq_ofNat_of_zero_le → jv, toNat → jy
open Go.IntKind renaming wrap → j4
open Sum renaming elim_inl → qe
open Result renaming andThen_ok → qh
open Sem renaming run_bind → qi
open List.cons renaming injEq → q9
abbrev Je : Ty := .p (.i .i64) (.p (.sl (.i .i64)) .u)
abbrev Gd : Ty := .p (.i .i64) (.p .o .u)
def hd (h : T .o) : Value := .slice h.1 h.2.1 h.2.2
section
variable {P : Program} {w w' : World}
theorem S1 {x : T Je} {cs : List Value} {F : List Nat} (h : Ib w Je x cs F) : ∃ h : T .o, cs = [.int .i64 x.1, hd h] ∧ Ib w (.sl (.i .i64)) x.2.1 [hd h] F := by
 obtain ⟨c1, c2, F1, F2, rfl, rfl, ⟨rfl, rfl⟩, c3, c4, F3, F4, rfl, rfl, h3, rfl, rfl⟩ := h
 have h3' := h3
 obtain ⟨_, ⟨e1, _, _⟩ | ⟨bl, off, cap, cur, et, Fs, e1, _⟩⟩ := h3
 ·subst e1
  exact ⟨(none, 0, 0), rfl, by simpa [hd] using h3'⟩
 ·subst e1
  exact ⟨(some ⟨bl, off, none⟩, ja x.2.1, cap), rfl, by simpa [hd] using h3'⟩
theorem Hab {x : T Je} {h : T .o} {F : List Nat} (ho : Ib w (.sl (.i .i64)) x.2.1 [hd h] F) : Ib w Je x [.int .i64 x.1, hd h] F :=
 ⟨[.int .i64 x.1], [hd h], [], F, rfl, rfl, ⟨rfl, rfl⟩, [hd h], [], F, [], by simp, by simp, ho, rfl, rfl⟩
theorem LV (x : T Gd) (O : Nat → Prop) : Ha w O Gd x [.int .i64 x.1, hd x.2.1] :=
 ⟨[.int .i64 x.1], [hd x.2.1], rfl, rfl, [hd x.2.1], [], by simp, rfl, rfl⟩
theorem FL {x : T Gd} {O : Nat → Prop} {cs : List Value} (h : Ha w O Gd x cs) : cs = [.int .i64 x.1, hd x.2.1] := by
 obtain ⟨c1, c2, rfl, rfl, c3, c4, rfl, rfl, rfl⟩ := h
 rfl
abbrev AJ := T Je × T Gd × List Nat
def UW (w : World) (p : AJ) : Prop := p.2.1.1 = p.1.1 ∧ Ib w (.sl (.i .i64)) p.1.2.1 [hd p.2.1.2.1] p.2.2
theorem Q4 {l : List (T Je)} {cs : List Value} {F : List Nat} (h : Ib w (.sl Je) l cs F) :
 ∃ Q : List AJ, Q.map (·.1) = l ∧ Ha w (fun _ => False) (.sl Gd) (Q.map (·.2.1)) cs ∧ (∀ p ∈ Q, UW w p) ∧ (Q.map (·.2.2)).flatten.Sublist F := by
 obtain ⟨hm, ⟨rfl, rfl, rfl⟩ | ⟨bl, off, cap, cur, et, Fs, rfl, hh, h1, h2, h3, rfl, hl, hv⟩⟩ := h
 ·exact ⟨[], rfl, ⟨none, 0, rfl, jo _, hm, .inl rfl⟩, by simp, by simp⟩
 ·have key : ∀ i : Fin (ja l), ∃ h : T .o, Hc cur (off + i.val * Je.size) Je.size = [.int .i64 (List.get l i).1, hd h] ∧ Ib w (.sl (.i .i64)) (List.get l i).2.1 [hd h] (Fs.getD i.val []) :=
   fun i => S1 (hv i.val i.isLt)
  have ⟨g, hg⟩ := Classical.axiomOfChoice key
  let Q : List AJ := List.ofFn fun i : Fin (ja l) => (List.get l i, ((List.get l i).1, g i, ()), Fs.getD i.val [])
  have hQ : ∀ i (hi : i < ja l), Q[i]'(by simp [Q]; exact hi) = (List.get l ⟨i, hi⟩, ((List.get l ⟨i, hi⟩).1, g ⟨i, hi⟩, ()), Fs.getD i []) := fun i hi => by simp [Q]
  have hQl : Q.length = ja l := by simp [Q]
  refine ⟨Q, ?_, ?_, ?_, ?_⟩
  ·apply List.ext_getElem
   ·simp [hQl]
   ·intro i h1 h2
    rw [List.getElem_map, hQ i h2]; rfl
  ·have hlen : ja (Q.map (·.2.1)) = ja l := by simp [hQl]
   refine ⟨_, cap, by rw [hlen], by rw [hlen]; exact h1, by rw [hlen]; exact hm, .inr ⟨bl, off, cur, et, _, rfl, fun h => h, hh, ?_, fun i hi => ?_⟩⟩
   ·rw [hlen]
    have := jm Je.size h1
    exact j8 (Nat.add_le_add_left this _) h3
   ·have hi' : i < ja l := by rw [← hlen]; exact hi
    have e : List.get (Q.map (·.2.1)) ⟨i, hi⟩ = ((List.get l ⟨i, hi'⟩).1, g ⟨i, hi'⟩, ()) := by
     show (Q.map (·.2.1))[i] = _
     rw [List.getElem_map, hQ i hi']
    rw [e]
    have := (hg ⟨i, hi'⟩).1
    show Ha w _ Gd _ (Hc cur (off + i * Je.size) Je.size)
    rw [this]
    exact LV (((List.get l ⟨i, hi'⟩).1, g ⟨i, hi'⟩, ()) : T Gd) _
  ·intro p hp
   obtain ⟨i, hi, rfl⟩ := List.getElem_of_mem hp
   have hi' : i < ja l := by rw [← hQl]; exact hi
   rw [hQ i hi']
   exact ⟨rfl, (hg ⟨i, hi'⟩).2⟩
  ·have e : Q.map (·.2.2) = Fs := by
    apply List.ext_getElem
    ·simp [hQl, hl]
    ·intro i h1 h2
     have hi' : i < ja l := by rw [← hl]; exact h2
     rw [List.getElem_map, hQ i hi']
     simp [qm, je h2]
   rw [e]
   exact List.sublist_cons_self _ _
theorem C5 {Q : List AJ} {cs : List Value} {F : List Nat} (h : Ib w (.sl Gd) (Q.map (·.2.1)) cs F) (hQ : ∀ p ∈ Q, UW w p) :
 ∃ F', Ib w (.sl Je) (Q.map (·.1)) cs F' ∧ (∀ b, b ∈ F' → b ∈ F ∨ b ∈ (Q.map (·.2.2)).flatten) ∧ ((∀ b, b ∈ F → b ∉ (Q.map (·.2.2)).flatten) → F.Nodup → (Q.map (·.2.2)).flatten.Nodup → F'.Nodup) := by
 obtain ⟨hm, ⟨rfl, hn, rfl⟩ | ⟨bl, off, cap, cur, et, Fs, rfl, hh, h1, h2, h3, rfl, hl, hv⟩⟩ := h
 ·have : Q = [] := List.map_eq_nil_iff.1 hn
  subst this
  exact ⟨[], ⟨hm, .inl ⟨rfl, rfl, rfl⟩⟩, by simp, by simp⟩
 ·have hlen : ja (Q.map (·.2.1)) = Q.length := by simp
  have hlen1 : ja (Q.map (·.1)) = Q.length := by simp
  rw [hlen] at hm h1 hl
  refine ⟨bl :: (Q.map (·.2.2)).flatten, ⟨by rw [hlen1]; exact hm, .inr ⟨bl, off, cap, cur, et, Q.map (·.2.2), by rw [hlen1]; simp, hh, by rw [hlen1]; exact h1, h2, h3, rfl, by simp, fun i hi => ?_⟩⟩, ?_, ?_⟩
  ·have hi' : i < Q.length := by rw [← hlen1]; exact hi
   have hv' := hv i (by rw [hlen]; exact hi')
   have e0 : List.get (Q.map (·.2.1)) ⟨i, by rw [hlen]; exact hi'⟩ = Q[i].2.1 := by
    show (Q.map (·.2.1))[i]'_ = _
    rw [List.getElem_map]
   have e1 : List.get (Q.map (·.1)) ⟨i, hi⟩ = Q[i].1 := by
    show (Q.map (·.1))[i]'_ = _
    rw [List.getElem_map]
   rw [e0] at hv'
   rw [e1]
   have hF0 : ∀ b, b ∈ Fs.getD i [] → False := by
    intro b hb
    obtain ⟨c1, c2, F1, F2, _, hF, ⟨_, rfl⟩, c3, c4, F3, F4, _, rfl, ⟨_, rfl⟩, _, rfl⟩ := hv'
    rw [hF] at hb; simp at hb
   have hcs := FL (Ib.view (O := fun _ => False) hv' (fun b hb h => h))
   have hok := hQ Q[i] (qf hi')
   have e2 : (Q.map (·.2.2)).getD i [] = Q[i].2.2 := by
    simp [qm, je hi']
   rw [e2]
   show Ib w Je _ (Hc cur (off + i * Gd.size) Gd.size) _
   rw [hcs, hok.1]
   exact Hab hok.2
  ·intro b hb
   rcases jp.1 hb with rfl | hb
   ·exact .inl (by simp)
   ·exact .inr hb
  ·intro hdj _ hnd
   exact yd.2 ⟨hdj bl (by simp), hnd⟩
end
def Vo (same : T Je → T Je → Bool) : T Je → List (T Je) → List (T Je)
 | _, [] => []
 | a, x :: r => cond (same a x) (Vo same x r) (x :: Vo same x r)
def Hy (same : T Je → T Je → Bool) : T Je → List AJ → List AJ
 | _, [] => []
 | a, x :: r => cond (same a x.1) (Hy same x.1 r) (x :: Hy same x.1 r)
def DC (c : T Gd → T Gd → Option Bool) : T Gd → List (T Gd) → Option (List (T Gd))
 | _, [] => some []
 | a, x :: r => jz (c a x) fun b => jz (DC c x r) fun q => some (cond b q (x :: q))
theorem TH (same : T Je → T Je → Bool) : ∀ (Q : List AJ) (a : T Je), (Hy same a Q).map (·.1) = Vo same a (Q.map (·.1))
 | [], _ => rfl
 | x :: r, a => by
  simp only [Hy, Vo, ya]
  cases same a x.1 with
  | true => simp only [yt]; exact TH same r x.1
  | false => simp only [yu, ya]; rw [TH same r x.1]
theorem UH (same : T Je → T Je → Bool) : ∀ (Q : List AJ) (a : T Je), (Hy same a Q).Sublist Q
 | [], _ => .slnil
 | x :: r, a => by
  simp only [Hy]
  cases same a x.1 with
  | true => exact (UH same r x.1).cons x
  | false => exact (UH same r x.1).cons_cons x
theorem WS {same : T Je → T Je → Bool} {c : T Gd → T Gd → Option Bool} {R : T Je → T Gd → Prop} (hc : ∀ a ao b bo, R a ao → R b bo → c ao bo = some (same a b)) :
 ∀ (Q : List AJ) (a : T Je) (ao : T Gd), R a ao → (∀ p ∈ Q, R p.1 p.2.1) → DC c ao (Q.map (·.2.1)) = some ((Hy same a Q).map (·.2.1))
 | [], _, _, _, _ => rfl
 | x :: r, a, ao, h, hq => by
  have hx := hq x (by simp)
  simp only [ya, DC, Hy, hc _ _ _ _ h hx, jb]
  rw [WS hc r x.1 x.2.1 hx (fun p hp => hq p (by simp [hp]))]
  simp only [jb]
  cases same a x.1 <;> rfl
theorem QS {α : Type} {a b : List (List α)} (h : a.Sublist b) : a.flatten.Sublist b.flatten := by
 induction h with
 | slnil => simp
 | cons x _ ih => rw [yg]; exact ih.trans (List.sublist_append_right _ _)
 | cons_cons x _ ih => rw [yg, yg]; exact (List.Sublist.refl x).append ih
def Vy (x : T Je) : Bool := jx (ja x.2.1) Ob
noncomputable def LX (same : T Je → T Je → Bool) (a : T Je) (l : List (T Je)) : Option (List (T Je) × Unit) :=
 bif jx (ja l) Ob && (Vy a && l.all Vy) then some (Vo same a l, ()) else none
theorem P7 {w : World} {O O' : Nat → Prop} {xs ys : List Int} {v : Value} (h1 : Ha w O (.sl (.i .i64)) xs [v]) (h2 : Ha w O' (.sl (.i .i64)) ys [v]) : xs = ys := by
 obtain ⟨a, cap, e1, _, _, h1⟩ := h1
 obtain ⟨a', cap', e2, _, _, h2⟩ := h2
 rw [e1] at e2
 simp only [q9, Value.slice.injEq, and_true] at e2
 obtain ⟨rfl, hlen, rfl⟩ := e2
 have hlen' : xs.length = ys.length := hlen
 rcases h1 with h1 | ⟨bl, off, cur, et, fr, ha, _, hh, hs, hv⟩
 ·have h1' : xs = [] := h1
  subst h1'
  exact (qv (by simpa using hlen'.symm)).symm
 ·rcases h2 with h2 | ⟨bl', off', cur', et', fr', ha', _, hh', hs', hv'⟩
  ·have h2' : ys = [] := h2
   subst h2'
   exact qv (by simpa using hlen')
  ·rw [ha] at ha'
   simp only [jc, Addr.mk.injEq, and_true] at ha'
   obtain ⟨rfl, rfl⟩ := ha'
   rw [hh] at hh'
   simp only [jc] at hh'
   injection hh' with e3 _ _
   subst e3
   apply List.ext_getElem hlen'
   intro i h1 h2
   have p1 := hv i h1
   have p2 := hv' i h2
   have p1' : Hc cur (off + i * 1) 1 = [Value.int .i64 xs[i]] := p1
   have p2' : Hc cur (off + i * 1) 1 = [Value.int .i64 ys[i]] := p2
   rw [p1'] at p2'
   simpa using p2'
open Classical in
noncomputable def AE (w : World) (h : T .o) : Option (List Int) :=
 if hx : ∃ xs : List Int, Ha w (fun _ => False) (.sl (.i .i64)) xs [hd h] ∧ ja xs ≤ Ob then some hx.choose else none
theorem KM {w : World} {h : T .o} {xs : List Int} (hc : AE w h = some xs) : Ha w (fun _ => False) (.sl (.i .i64)) xs [hd h] ∧ ja xs ≤ Ob := by
 unfold AE at hc
 split at hc
 ·rename_i hx
  simp only [jc] at hc
  rw [← hc]; exact hx.choose_spec
 ·simp at hc
theorem XS {w : World} {h : T .o} {xs : List Int} (hv : Ha w (fun _ => False) (.sl (.i .i64)) xs [hd h]) (hl : ja xs ≤ Ob) : AE w h = some xs := by
 unfold AE
 have hx : ∃ xs : List Int, Ha w (fun _ => False) (.sl (.i .i64)) xs [hd h] ∧ ja xs ≤ Ob := ⟨xs, hv, hl⟩
 rw [dif_pos hx]
 rw [P7 hx.choose_spec.1 hv]
noncomputable def ZP (w : World) (same : T Je → T Je → Bool) (a b : T Gd) : Option Bool :=
 jz (AE w a.2.1) fun u => jz (AE w b.2.1) fun v => some (same (a.1, u, ()) (b.1, v, ()))
@[reducible] noncomputable def UL (c : T Gd → T Gd → Option Bool) : Xa := .pu (.p Gd (.p Gd .u)) (.p .b .u) [true] (fun x => jz (c x.1 x.2.1) fun b => some (b, ()))
theorem VY {w w2 : World} (h : ∀ b, b < w.heap.size → w2.heap[b]? = w.heap[b]?) {τ : Ty} {x : T τ} {cs : List Value} {O : Nat → Prop} (hv : Ha w O τ x cs) : Ha w2 O τ x cs :=
 Ha.stable (fun b _ hb => h b hb) (fun _ _ h => h) hv
theorem X1 {P : Program} {I0 : Hg} {f f2 : FuncId} {SR : T (.p Je (.p Je .u)) → Option (T (.p .b .u))} {same : T Je → T Je → Bool}
 (hSR : ∀ a b : T Je, ja a.2.1 ≤ Ob → ja b.2.1 ≤ Ob → SR (a, b, ()) = some (same a b, ()))
 (h2 : Tf P I0 f2 (.pu (.p Je (.p Je .u)) (.p .b .u) [true] SR))
 (h : ∀ (I : Hg) (c : T Gd → T Gd → Option Bool), Tf P I f2 (UL c) → ∃ FO, Tf P I f (.pu (.p Gd (.p (.sl Gd) .u)) (.p (.sl Gd) .u) [true] FO) ∧
  ∀ (a : T Gd) (l r : List (T Gd)), ja l ≤ Ob → DC c a l = some r → FO (a, l, ()) = some (r, ())) :
 Tf P I0 f (.co (.p Je (.p (.sl Je) .u)) (.p (.sl Je) .u) [true] (fun x => LX same x.1 x.2.1)) := by
 have hE : Ir P f := by
  have hS0 : Tf P I0 f2 (UL fun _ _ => none) := ⟨h2.1, fun O w x r args hF => by simp at hF⟩
  obtain ⟨FO, hs, _⟩ := h I0 _ hS0
  exact hs.1
 refine ⟨hE, ?_⟩
 intro O w x r F0 args hF hA hnd hO _ hI hbase hF0
 obtain ⟨a, l, u⟩ := x
 match args, hA with
 | [a1, a2], hA =>
 obtain ⟨cs1, F1, F2', rfl, rfl, ho1, cs2, F2, F3, rfl, rfl, ho2, hF3⟩ := hA
 have hF3' : F3 = [] := hF3
 subst hF3'
 rw [List.append_nil] at *
 simp only [LX] at hF
 cases hsm : (jx (ja l) Ob && (Vy a && l.all Vy)) with
 | false => rw [hsm] at hF; simp at hF
 | true =>
 rw [hsm] at hF
 simp only [yt, jc] at hF
 subst hF
 simp only [jd, ym, Vy] at hsm
 have hl1 : ja l ≤ Ob := qu hsm.1
 have hl2 : ja a.2.1 ≤ Ob := qu hsm.2.1
 have hl3 : ∀ x ∈ l, ja x.2.1 ≤ Ob := fun x hx => qu (hsm.2.2 x hx)
 obtain ⟨ah, rfl, hoa⟩ := S1 ho1
 obtain ⟨Q, rfl, hvQ, hokQ, hsub⟩ := Q4 ho2
 let I : Hg := ⟨w.heap.size, fun w2 => w.heap.size ≤ w2.heap.size ∧ ∀ b, b < w.heap.size → w2.heap[b]? = w.heap[b]?, fun w1 w2 hb h1 => by
  refine ⟨?_, fun b hlt => (hb b hlt).trans (h1.2 b hlt)⟩
  rcases Nat.eq_zero_or_pos w.heap.size with h0 | h0
  ·omega
  ·have e := (hb (w.heap.size - 1) (by omega)).trans (h1.2 (w.heap.size - 1) (by omega))
   rw [Array.getElem?_eq_getElem (show w.heap.size - 1 < w.heap.size by omega)] at e
   have := (Array.getElem?_eq_some_iff.1 e).1
   omega⟩
 have hS : Tf P I f2 (UL (ZP w same)) := by
  refine ⟨h2.1, ?_⟩
  intro O2 w2 x2 r2 args2 hF2 hA2 hO2 hI2 hb2
  obtain ⟨p, q, u2⟩ := x2
  match args2, hA2 with
  | [b1, b2], hA2 =>
  obtain ⟨⟨c1, rfl, hv1⟩, ⟨c2, rfl, hv2⟩, _⟩ := hA2
  simp only [ZP] at hF2
  cases hu : AE w p.2.1 with
  | none => rw [hu] at hF2; simp at hF2
  | some xu =>
   cases hv : AE w q.2.1 with
   | none => rw [hu, hv] at hF2; simp at hF2
   | some xv =>
    rw [hu, hv] at hF2
    simp only [jb, jc] at hF2
    subst hF2
    obtain ⟨hxu, lxu⟩ := KM hu
    obtain ⟨hxv, lxv⟩ := KM hv
    have e1 := FL hv1
    have e2 := FL hv2
    subst e1; subst e2
    have mk : ∀ (p : T Gd) (xs : List Int), Ha w (fun _ => False) (.sl (.i .i64)) xs [hd p.2.1] → Ha w2 (fun _ => False) Je (p.1, xs, ()) [.int .i64 p.1, hd p.2.1] := fun p xs hx =>
     ⟨[.int .i64 p.1], [hd p.2.1], rfl, rfl, [hd p.2.1], [], by simp, VY hI2.2 hx, rfl⟩
    have hc := h2.2 (fun _ => False) w2 ((p.1, xu, ()), (q.1, xv, ()), ()) (same (p.1, xu, ()) (q.1, xv, ()), ()) [Cc Gd [.int .i64 p.1, hd p.2.1], Cc Gd [.int .i64 q.1, hd q.2.1]]
     (hSR _ _ lxu lxv) ⟨⟨_, rfl, mk p xu hxu⟩, ⟨_, rfl, mk q xv hxv⟩, trivial⟩ (fun b h => h.elim) (I0.st _ _ (fun b hb => hI2.2 b (Nat.lt_of_lt_of_le hb hbase)) hI) (j8 hbase hI2.1)
    refine hc.mono ?_
    intro e w3 hR
    cases e with
    | returned v =>
     obtain ⟨vs, Fr, hvs, hK, hR, hn, hfr⟩ := hR
     exact ⟨vs, Fr, hvs, hK, hR.all rfl, hn, hfr⟩
    | panicked _ => exact hR
    | outgrown => exact hR
 obtain ⟨FO, hs, hFO⟩ := h I (ZP w same) hS
 have hrel : ∀ a ao b bo, (fun (x : T Je) (y : T Gd) => y.1 = x.1 ∧ Ha w (fun _ => False) (.sl (.i .i64)) x.2.1 [hd y.2.1] ∧ ja x.2.1 ≤ Ob) a ao →
  (fun (x : T Je) (y : T Gd) => y.1 = x.1 ∧ Ha w (fun _ => False) (.sl (.i .i64)) x.2.1 [hd y.2.1] ∧ ja x.2.1 ≤ Ob) b bo → ZP w same ao bo = some (same a b) := by
  rintro a ao b bo ⟨e1, v1, l1⟩ ⟨e2, v2, l2⟩
  simp only [ZP, XS v1 l1, XS v2 l2, jb, e1, e2]
 have hch := WS (R := fun (x : T Je) (y : T Gd) => y.1 = x.1 ∧ Ha w (fun _ => False) (.sl (.i .i64)) x.2.1 [hd y.2.1] ∧ ja x.2.1 ≤ Ob) hrel Q a (a.1, ah, ())
  ⟨rfl, Ib.view hoa fun b _ h => h, hl2⟩ (fun p hp => ⟨(hokQ p hp).1, Ib.view (hokQ p hp).2 fun b _ h => h, hl3 p.1 (yk hp)⟩)
 have hFO' := hFO (a.1, ah, ()) (Q.map (·.2.1)) _ (by simpa using hl1) hch
 have hc := hs.2 (fun _ => False) w ((a.1, ah, ()), Q.map (·.2.1), ()) ((Hy same a Q).map (·.2.1), ()) [Cc Gd [.int .i64 a.1, hd ah], Cc (.sl Gd) cs2] hFO'
  ⟨⟨_, rfl, LV ((a.1, ah, ()) : T Gd) _⟩, ⟨_, rfl, hvQ⟩, trivial⟩ (fun b h => h.elim) ⟨jo _, fun _ _ => rfl⟩ (jo _)
 refine hc.mono ?_
 intro e w3 hR
 cases e with
 | panicked _ => exact hR
 | outgrown => exact hR
 | returned v =>
  obtain ⟨vs, Fr, hvs, hK, hR, hn, hfr⟩ := hR
  match vs, hR with
  | [v1], hR =>
  obtain ⟨cs, G1, G2, rfl, rfl, hown, hG2⟩ := hR
  have hG2' : G2 = [] := hG2
  subst hG2'
  rw [List.append_nil] at *
  simp only [if_true] at hown
  have hlt : ∀ b, b ∈ F2 → b < w.heap.size := fun b hb => ho2.lt b hb
  have hsubQ := UH same Q a
  have hok3 : ∀ p ∈ Hy same a Q, UW w3 p := fun p hp => by
   have h0 := hokQ p (hsubQ.mem hp)
   exact ⟨h0.1, Ib.stable h0.2 fun b hb => hK.block b (h0.2.lt b hb) (fun h => h)⟩
  obtain ⟨F', ho', hm', hnd'⟩ := C5 hown hok3
  have hsub2 : ((Hy same a Q).map (·.2.2)).flatten.Sublist F2 := by
   refine List.Sublist.trans ?_ hsub
   exact QS (hsubQ.map _)
  have hndF2 : F2.Nodup := (ye.1 hnd).2.1
  have hnF' : F'.Nodup := hnd' (fun b hb hb2 => by
   have h3 := hfr b hb
   have h4 := hlt b (hsub2.mem hb2)
   omega) hn (hsub2.nodup hndF2)
  refine ⟨[Cc (.sl Gd) cs], F', hvs, ⟨hK.size, fun b hb _ => hK.block b hb (fun h => h), hK.os, hK.tape, hK.output⟩, ⟨cs, F', [], rfl, by simp, ?_, rfl⟩, hnF', ?_⟩
  ·simp only [if_true]
   rw [← TH]
   exact ho'
  ·intro b hb
   rcases hm' b hb with hb | hb
   ·exact .inl (hfr b hb)
   ·exact .inr (qp _ (hsub2.mem hb))
noncomputable def D7 (xs : List Int) : Option (List Int × Unit) := bif jx (ja xs) Ob then some (List.mergeSort xs (fun x y => decide (x ≤ y)), ()) else none
def V1 (n : Nat) : Bool := jx n 1048576
noncomputable def VR (x y : List UInt8) : Option (List (List UInt8) × Unit) :=
 bif V1 (ja x) && jx 1 (ja y) then some (Lib.split x y, ()) else none
noncomputable def DP (x : List (List UInt8)) (y : List UInt8) : Option (List UInt8 × Unit) :=
 bif jx (ja x) 1073741824 && jx (ja (Lib.join x y)) 1073741824 then some (Lib.join x y, ()) else none
theorem BV {cur : Array Value} {k : Nat} {v : Value} (h : Hc cur k 1 = [v]) : cur[k]? = some v := by
 have := congrArg (·[0]?) h
 simp only [Ud cur k 1 0 (by omega)] at this
 simpa using this
theorem UU {cur : Array Value} {k : Nat} {v : Value} (h : cur[k]? = some v) : Hc cur k 1 = [v] := by
 apply qj
 intro j
 by_cases hj : j = 0
 ·subst hj; rw [Ud cur k 1 0 (by omega)]; simpa using h
 ·have hk : k < cur.size := (Array.getElem?_eq_some_iff.1 h).1
  have hl : (Hc cur k 1).length = 1 := Ic (by omega)
  rw [qn (by omega), qn (by simp; omega)]
theorem NY {P : Program} {ρ : Go.Shelf.Ren} {f : FuncId} {I : Hg} (L : Go.Proofs.Lays.n191 P ρ) (hf : ρ.f 191 = f) : Tf P I f (.io (.sl (.i .i64)) .u .u [] (fun x0 _ => D7 x0)) := by
 subst hf
 refine ⟨⟨_, L.f191, rfl, rfl⟩, ?_⟩
 intro O w x0 x r cs0 F0 args hF ho hnd hA hO _ _ _
 match args, hA with
 | [], _ =>
 simp only [D7] at hF
 cases hl : jx (ja x0) Ob with
 | false => rw [hl] at hF; simp at hF
 | true =>
 rw [hl] at hF
 simp only [yt, jc] at hF
 subst hF
 have hlim : Ob = 1073741824 := rfl
 have hx : ja x0 ≤ Ob := qu hl
 have ho0 := ho
 obtain ⟨hm, ⟨rfl, hn, rfl⟩ | ⟨bl, off, cap, cur, et, Fs, rfl, hh, h1, h2, h3, rfl, hlen, hv⟩⟩ := ho
 ·have hn' : x0 = [] := hn
  subst hn'
  refine (Go.Proofs.Any.sort_Ints_none L none 0 w).mono ?_
  rintro e w' ⟨rfl, rfl⟩
  refine ⟨[], [], [], rfl, ⟨jo _, fun _ _ _ => rfl, rfl, rfl, rfl⟩, ?_, by simp, rfl, List.nodup_nil, by simp⟩
  show Ib w' (.sl (.i .i64)) (List.mergeSort ([] : List Int) _) _ _
  simpa using ho0
 ·have hcell : ∀ i (hi : i < x0.length), cur[off + i]? = some (.int .i64 x0[i]) := by
   intro i hi
   have := (hv i hi).1
   have e : Hc cur (off + i * 1) 1 = [Value.int .i64 x0[i]] := this
   rw [Nat.mul_one] at e
   exact BV e
  have hFs : ∀ b, b ∈ Fs.flatten → False := by
   intro b hb
   obtain ⟨l, hl, hb⟩ := List.mem_flatten.1 hb
   obtain ⟨i, hi, rfl⟩ := List.getElem_of_mem hl
   have := (hv i (by rw [← hlen]; exact hi)).2
   rw [qd, je hi] at this
   simp only [qs] at this
   rw [this] at hb; simp at hb
  have hH : Go.Sort.Holds (Value.int .i64) w bl off x0.toArray := by
   intro j hj
   have hj' : j < x0.length := by simpa using hj
   refine ⟨?_, ?_⟩
   ·unfold World.cell?
    simp only [hh]
    rw [hcell j hj']
    simp [getElem!_pos, hj']
   ·unfold World.frozen?
    simp [hh]
  have hbl : bl < w.heap.size := (Array.getElem?_eq_some_iff.1 hh).1
  refine (Go.Proofs.Any.sort_Ints L bl off cap x0 w hH hbl (by omega)).mono ?_
  rintro e w' ⟨rfl, n, os, rfl⟩
  generalize hzs : (x0.mergeSort fun x y => decide (x ≤ y)) = zs
  have hzl : zs.length = x0.length := by rw [← hzs]; exact List.length_mergeSort _
  have hheap : ∀ b, b < w.heap.size → (Go.Sort.grow (Go.Sort.putRow (Value.int .i64) (Go.Sort.ahead w n) bl off zs.toArray) os).heap[b]? = if bl = b then (w.heap[b]?).map (Go.Sort.onCells (Go.Sort.putCells (Value.int .i64) off zs.toArray)) else w.heap[b]? := by
   intro b hb
   simp only [Go.Sort.grow, Go.Sort.putRow, Go.Sort.mapBlock, Go.Sort.ahead]
   rw [Array.getElem?_append_left (by simpa using hb), Array.getElem?_modify]
  refine ⟨[], bl :: Fs.flatten, [], rfl, ⟨?_, ?_, rfl, rfl, rfl⟩, ?_, fun b hb => .inr hb, rfl, by simpa using hnd, by simp⟩
  ·simp only [Go.Sort.grow, Array.size_append, Go.Sort.size_putRow, Go.Sort.ahead]
   omega
  ·intro b hb hno
   have hne : bl ≠ b := fun e => hno (by rw [e]; simp)
   rw [hheap b hb, if_neg hne]
  ·have hcs : ([.slice (some ⟨bl, off, none⟩) (ja x0) cap] : List Value) = [.slice (some ⟨bl, off, none⟩) (ja (zs : List Int)) cap] := by rw [hzl]
   show Ib _ (.sl (.i .i64)) (zs : List Int) _ _
   rw [hcs]
   refine ⟨by show zs.length ≤ Rg; rw [hzl]; exact hm, .inr ⟨bl, off, cap, _, et, Fs, rfl, (hheap bl hbl).trans (by rw [if_pos rfl, hh]; rfl), by show zs.length ≤ cap; rw [hzl]; exact h1, h2, by simpa [Go.Sort.putCells] using h3, rfl, by show Fs.length = zs.length; rw [hzl]; exact hlen, fun i hi => ?_⟩⟩
   have hi' : i < zs.length := hi
   have hi2 : i < x0.length := by omega
   refine ⟨?_, ?_⟩
   ·show Hc _ (off + i * 1) 1 = [Value.int .i64 zs[i]]
    rw [Nat.mul_one]
    apply UU
    simp only [Go.Sort.putCells, Array.getElem?_mapIdx, hcell i hi2, j9]
    rw [if_pos ⟨by omega, by simp; omega⟩, show off + i - off = i by omega]
    simp [getElem!_pos, hi']
   ·exact (hv i hi2).2
theorem XB (w : World) (o : Obj) : (w.alloc o).heap = w.heap.push o := rfl
theorem PS {P : Program} {ρ : Go.Shelf.Ren} {f : FuncId} {I : Hg} (L : Go.Proofs.LaysM.n146 P ρ) (hf : ρ.f 146 = f)
 (hI : ∀ w, I.p w → ∃ m, w.cell? ⟨ρ.g 1, 0, none⟩ = some (.int .i64 m)) : Tf P I f (.pu (.p .s (.p .s .u)) (.p (.sl .s) .u) [true] (fun x => VR x.1 x.2.1)) := by
 subst hf
 refine ⟨⟨_, L.f146, rfl, rfl⟩, ?_⟩
 intro O w x r args hF hA hO hi hb
 match args, hA with
 | [a, b], hA =>
  obtain ⟨⟨ca, rfl, hca⟩, ⟨cb, rfl, hcb⟩, _⟩ := hA
  have hca' : ca = [.string ⟨ql x.1⟩] := hca
  have hcb' : cb = [.string ⟨ql x.2.1⟩] := hcb
  subst hca'; subst hcb'
  simp only [VR, V1] at hF
  cases h1 : jx (ja x.1) 1048576 with
  | false => rw [h1] at hF; simp at hF
  | true =>
  cases h2 : jx 1 (ja x.2.1) with
  | false => rw [h1, h2] at hF; simp at hF
  | true =>
  rw [h1, h2] at hF
  simp only [Bool.and_true, yt, jc] at hF
  subst hF
  have h1' := qu h1
  have h2' := qu h2
  obtain ⟨m, hm⟩ := hI w hi
  have hs1 : (⟨ql x.1⟩ : ByteArray).size = ja x.1 := by show (ql x.1).size = _; simp
  have hs2 : (⟨ql x.2.1⟩ : ByteArray).size = ja x.2.1 := by show (ql x.2.1).size = _; simp
  have hd : (Lib.splitB ⟨ql x.2.1⟩ 0 (Lib.countB ⟨ql x.1⟩ ⟨ql x.2.1⟩) ⟨ql x.1⟩).map (fun z => z.data.toList) = Lib.split x.1 x.2.1 := by
   rw [Lib.splitB_data]; rfl
  have hlen := Lib.splitB_all ⟨ql x.2.1⟩ (by omega) 0 _ ⟨ql x.1⟩ rfl
  have hle := Lib.countB_le ⟨ql x.2.1⟩ (by omega) _ ⟨ql x.1⟩ (jo _)
  obtain ⟨zs, hz⟩ : ∃ zs, Lib.splitB ⟨ql x.2.1⟩ 0 (Lib.countB ⟨ql x.1⟩ ⟨ql x.2.1⟩) ⟨ql x.1⟩ = zs := ⟨_, rfl⟩
  rw [hz] at hlen hd
  obtain ⟨n, hcn⟩ : ∃ n, Lib.countB ⟨ql x.1⟩ ⟨ql x.2.1⟩ = n := ⟨_, rfl⟩
  rw [hcn] at hlen hle
  have hn : (Lib.split x.1 x.2.1).length = n + 1 := by rw [← hd, yi, hlen]
  refine (Go.Proofs.Any.strings_Split { L with } L.i9 ⟨ql x.1⟩ ⟨ql x.2.1⟩ m w (by omega) hm (by omega)).mono ?_
  rintro e w' ⟨rfl, rfl⟩
  rw [hz]
  refine ⟨[.slice (some ⟨w.heap.size, 0, none⟩) (n + 1) (n + 1)], [w.heap.size], by rw [hcn]; rfl, ⟨?_, ?_, rfl, rfl, rfl⟩, ?_, by simp, by simp⟩
  ·rw [XB]; simp
  ·intro b hb _
   rw [XB]
   simp [Array.getElem?_push_lt hb, Array.getElem?_eq_getElem hb]
  ·refine ⟨[.slice (some ⟨w.heap.size, 0, none⟩) (n + 1) (n + 1)], [w.heap.size], [], rfl, rfl, ?_, rfl⟩
   show Ib _ (.sl .s) (Lib.split x.1 x.2.1) _ _
   refine ⟨by rw [hn]; unfold Rg; omega, .inr ⟨w.heap.size, 0, n + 1, (zs.map Value.string).toArray, ρ.t 9, q0 (n + 1) [], ?_, ?_, by omega, by unfold Rg; omega, ?_, ?_, ?_, ?_⟩⟩
   ·rw [hn]
   ·rw [XB]; simp
   ·simp [Ty.size, hlen]
   ·simp
   ·simp [hn]
   ·intro i hi
    have hi' : i < n + 1 := by omega
    have hiz : i < zs.length := by omega
    refine ⟨?_, by simp [qd, List.getElem?_replicate, hi']⟩
    show Hc _ (0 + i * 1) 1 = _
    apply UU
    have : (Lib.split x.1 x.2.1)[i]'hi = (zs[i]).data.toList := by simp [← hd]
    show _ = some (Value.string ⟨ql ((Lib.split x.1 x.2.1)[i]'hi)⟩)
    rw [this]
    simp [hiz]
theorem WX {P : Program} {ρ : Go.Shelf.Ren} {f : FuncId} {I : Hg} (L : Go.Proofs.Lays.n156 P ρ) (hf : ρ.f 156 = f) (X : Go.Proofs.Builder.Extra P ρ) : Tf P I f (.pu (.p (.sl .s) (.p .s .u)) (.p .s .u) [true] (fun x => DP x.1 x.2.1)) := by
 subst hf
 refine ⟨⟨_, L.f156, rfl, rfl⟩, ?_⟩
 intro O w x r args hF hA hO hi hb
 match args, hA with
 | [a, b], hA =>
  obtain ⟨⟨ca, rfl, hca⟩, ⟨cb, rfl, hcb⟩, _⟩ := hA
  have hcb' : cb = [.string ⟨ql x.2.1⟩] := hcb
  subst hcb'
  obtain ⟨ad, cap, rfl, hcap, hmx, hrow⟩ := hca
  simp only [DP] at hF
  cases h0 : jx (ja x.1) 1073741824 with
  | false => rw [h0] at hF; simp at hF
  | true =>
  cases h1 : jx (ja (Lib.join x.1 x.2.1)) 1073741824 with
  | false => rw [h0, h1] at hF; simp at hF
  | true =>
  rw [h0, h1] at hF
  simp only [Bool.and_true, yt, jc] at hF
  subst hF
  have h1' := qu h1
  have h0' := qu h0
  have hfin : ∀ (e : Ending) (w' : World), e = .returned (.string ⟨(Lib.join x.1 x.2.1).toArray⟩) ∧ Go.RowKit.Below w.heap.size w w' → Sj (fun v w' => ∃ vs Fr, v = Ix vs ∧ Ro w w' (fun _ => False) ∧ Ac w' (fun b => O b ∨ b ∈ Fr) (.p .s .u) ((Lib.join x.1 x.2.1, ()) : List UInt8 × Unit) [true] vs Fr ∧ Fr.Nodup ∧ ∀ b ∈ Fr, w.heap.size ≤ b) e w' := by
   rintro e w' ⟨rfl, hB⟩
   exact ⟨[.string ⟨(Lib.join x.1 x.2.1).toArray⟩], [], rfl, ⟨hB.size, fun b hb _ => hB.block b hb, hB.os, hB.tape, hB.output⟩, ⟨_, [], [], rfl, rfl, ⟨rfl, rfl⟩, rfl⟩, by simp, by simp⟩
  have hmp : yq (fun z : ByteArray => z.data.toList) (yq (fun l : List UInt8 => (⟨l.toArray⟩ : ByteArray)) x.1) = x.1 := by simp [List.map_map, Function.comp_def]
  rcases hrow with hx0 | ⟨bl, off, cur, et, fr, rfl, hno, hh, hsz, hv⟩
  ·have h0' : x.1 = [] := hx0
   have e0 : Lib.join x.1 x.2.1 = [] := by rw [h0']; rfl
   have el : ja x.1 = 0 := by rw [h0']; rfl
   show Calls P (ρ.f 156) #[.slice ad (ja x.1) cap, .string ⟨ql x.2.1⟩] w _
   rw [el]
   refine (Go.Proofs.Any.strings_Join_none L X ad cap ⟨ql x.2.1⟩ w).mono ?_
   rintro e w' ⟨rfl, rfl⟩
   exact hfin _ _ ⟨by rw [e0], Go.RowKit.Below.refl _ _⟩
  ·have hbl : bl < w.heap.size := (Array.getElem?_eq_some_iff.1 hh).1
   have c := Go.Proofs.Any.strings_Join L X bl off cap (yq (fun l : List UInt8 => (⟨l.toArray⟩ : ByteArray)) x.1) ⟨ql x.2.1⟩ w ?_ hbl (by rw [yi]; show ja x.1 ≤ _; omega) (by rw [yi]; exact hcap) (by rw [hmp]; show (Lib.join x.1 (ql x.2.1).toList).length ≤ _; rw [List.toList_toArray]; omega)
   ·rw [hmp, yi] at c
    refine c.mono ?_
    rintro e w' ⟨rfl, hB⟩
    refine hfin _ _ ⟨?_, hB⟩
    show Ending.returned (Value.string ⟨(Lib.join x.1 (ql x.2.1).toList).toArray⟩) = _
    rw [List.toList_toArray]
   ·intro j z hj
    obtain ⟨hj', rfl⟩ := qw.1 hj
    rw [yi] at hj'
    have e : Hc cur (off + j * 1) 1 = [Value.string ⟨ql (x.1[j]'hj')⟩] := hv j hj'
    rw [Nat.mul_one] at e
    unfold World.cell?
    simp only [hh]
    rw [BV e]
    simp
open Go Go.WideShapes Go.ChangeShapes
def GZ : DataW Unit → List Value
 | .lit (.int k n) => [.int k n]
 | .lit (.bool b) => [.bool b]
 | .agg l => cellsDs l
 | _ => []
where cellsDs : List (DataW Unit) → List Value
 | [] => []
 | d :: r => GZ d ++ cellsDs r
def D9 (d : DataW Unit) : Obj → Obj
 | .cells _ t frozen => .cells (GZ d).toArray t frozen
 | o => o
def E9 (P : Program) (h : Array Obj) (x : String × DataW Unit) : Array Obj :=
 match P.globalNamed x.1 with
 | some g => h.modify g (D9 x.2)
 | none => h
noncomputable def Y6 (P : Program) (os : Os) (laid : List (String × DataW Unit)) : World :=
 let w := World.holding P os ⟨#[], #[], []⟩
 { w with heap := laid.foldl (E9 P) w.heap }
def O3 (g : Nat) : Hg := ⟨g + 1, fun w => ∃ m, w.cell? ⟨g, 0, none⟩ = some (.int .i64 m), fun w w' hb h => by
 obtain ⟨m, hm⟩ := h
 refine ⟨m, ?_⟩
 unfold World.cell? at hm ⊢
 rw [hb g (Nat.lt_succ_self g)]
 exact hm⟩
theorem D0 {g : Nat} {w : World} (h : (O3 g).p w) : (O3 g).base ≤ w.heap.size := by
 obtain ⟨m, hm⟩ := h
 unfold World.cell? at hm
 have : g < w.heap.size := by
  apply Classical.byContradiction
  intro hn
  simp only [Array.getElem?_eq_none (show w.heap.size ≤ g by omega)] at hm
  simp at hm
 exact this
theorem HD {P : Program} {l : List (String × DataW Unit)} {w : World} (h : (l.filter fun x => x.2.handleName?.isSome) = []) : laidMetH P l w = laidMet P l w := by
 unfold laidMetH
 rw [h]
section
variable {H : Type} {enc : TypeId × Value → H}
theorem OG {a : Assume} {C : Checked} {os : Os} {f : FuncId} {fn : Func} {s : ChangeSpec} {conds : List PathCond} {apart fresh handsOn again : Bool} {X : World → Array Value → Prop}
 (hX : ∀ (w w' : World) (args : Array Value), w.heap = w'.heap → X w args → X w' args)
 (own : ownKnob C.prog.godebug = none) (started : os.Started) (noInit : C.prog.inits.idxOf? f = none) (hfn : C.prog.funcs[f]? = some fn)
 (witness : ∃ (w : World) (tape : Tape) (i : Input), w.os = os ∧ (w.forCall tape i).Shaped C.prog ∧ i.vars = [] ∧ Input.okWide C.prog (w.forCall tape i) .any w.heap.size f i ∧
  ((s.pre enc C.prog fn conds apart (w.forCall tape i).memory i.args ∧ X (w.forCall tape i).memory i.args) ∧ sizedMet enc C.prog fn (OpenSpec.ofChange s) apart (w.forCall tape i).memory i.args) ∧ a.holds C.prog (lone (Frame.enter C.prog f i.args .normal) [] (w.forCall tape i)))
 (contract : ∀ (W : World) (base : Nat) (args : Array Value) (ds gs : List (DataW H)) (before : List MemPlace),
  (∀ (j : Nat) t v, fn.params[j]? = some t → args[j]? = some v → Value.okWide C.prog W .any base t v) →
  DataW.Whole enc C.prog fn.params.toList s.vars apart W args.toList ds gs before →
  conds.all (PathCond.test C.prog ⟨fn.params.toList, ds, s.plain.varTypes C.prog, gs⟩) = true →
  (DataW.weightsEach C.prog (fn.params.toList ++ s.plain.varTypes C.prog) (ds ++ gs)).all (· ≤ reachBytes) = true → W.ShapedOpen C.prog → X W args →
  a.holds C.prog (lone (Frame.enter C.prog f args .normal) [] W) →
  Calls C.prog f args W fun e W' => ∃ v, e = .returned v ∧ s.post enc C.prog fn apart fresh handsOn again W args v W') :
 ReturnsInHanded a C os f .any (fun w args => (s.pre enc C.prog fn conds apart w args ∧ X w args) ∧ sizedMet enc C.prog fn (OpenSpec.ofChange s) apart w args) (s.post enc C.prog fn apart fresh handsOn again) := by
 refine returnsInHanded_of_calls own started noInit witness ?_
 intro w tape i _ hsh _ hok hpre hholds
 obtain ⟨_, _, _, fn', hfn', _, _, _, _, hval⟩ := hok
 have e : fn' = fn := yp (hfn'.symm.trans hfn)
 subst e
 obtain ⟨⟨⟨ds, gs, before, hw, hc⟩, hx⟩, hz⟩ := hpre
 have hw' := DataW.Whole.of_heap (w' := w.forCall tape i) (by rfl) hw
 refine (contract (w.forCall tape i) w.heap.size i.args ds gs before hval hw' hc (hz.weights hw) hsh (hX _ _ _ (by rfl) hx) hholds).mono fun e W' ⟨v, he, hp⟩ => ?_
 subst he
 exact ChangeSpec.post_blind hp
theorem AR {C : Checked} {os : Os} {f : FuncId} {fn : Func} {s : ChangeSpec} {apart fresh handsOn again : Bool} {pt : Ty} {fl : Bool} {F : T pt → Option (Bool × Unit)} {tb : TypeId} {I : Hg} {laid : List (String × DataW Unit)}
 (own : ownKnob C.prog.godebug = none) (started : os.Started) (noInit : C.prog.inits.idxOf? f = none) (hfn : C.prog.funcs[f]? = some fn)
 (witness : ∃ (w : World) (tape : Tape) (i : Input), w.os = os ∧ (w.forCall tape i).Shaped C.prog ∧ i.vars = [] ∧ Input.okWide C.prog (w.forCall tape i) .any w.heap.size f i ∧
  ((s.pre enc C.prog fn [] apart (w.forCall tape i).memory i.args ∧ laidMetH C.prog laid (w.forCall tape i).memory) ∧ sizedMet enc C.prog fn (OpenSpec.ofChange s) apart (w.forCall tape i).memory i.args) ∧ ({} : Assume).holds C.prog (lone (Frame.enter C.prog f i.args .normal) [] (w.forCall tape i)))
 (hvars : s.vars = []) (hs : ∀ ds : List (DataW H), ds.length = fn.params.toList.length → s.fn H ds = { results := [.lit (.bool true)], args := ds })
 (hp : Ci C.prog pt fn.params.toList = true) (hr : fn.resultTypes = #[tb]) (htb : C.prog.underlying tb = some .bool)
 (hsound : Tf C.prog I f (.pu pt (.p .b .u) [fl] F)) (hF : ∀ x, Eu pt x → F x = some (true, ()))
 (hI : ∀ W : World, W.ShapedOpen C.prog → laidMetH C.prog laid W → I.p W ∧ I.base ≤ W.heap.size) (hnh : (laid.filter fun x => x.2.handleName?.isSome) = []) :
 ReturnsInHanded {} C os f .any (fun w args => (s.pre enc C.prog fn [] apart w args ∧ laidMetH C.prog laid w) ∧ sizedMet enc C.prog fn (OpenSpec.ofChange s) apart w args) (s.post enc C.prog fn apart fresh handsOn again) := by
 refine OG (X := fun w _ => laidMetH C.prog laid w) (fun _ _ _ hh h => by
  rw [HD hnh] at h ⊢
  exact h.of_heap hh) own started noInit hfn witness ?_
 intro W b0 args ds gs before hval hW _ _ hsh hX _
 have hW0 := hW
 obtain ⟨p, q, hA, hV, hps, hfz, hnd⟩ := hW
 rw [hvars] at hV
 have hgs : gs = [] ∧ q = [] := by
  cases gs with
  | nil => exact ⟨rfl, hV⟩
  | cons _ _ => exact hV.elim
 obtain ⟨rfl, rfl⟩ := hgs
 simp only [List.append_nil] at hps
 subst hps
 obtain ⟨x, hx, hrx⟩ := PF (base := b0) hp hA fun j t v h1 h2 => hval j t v (by simpa using h1) (by simpa using h2)
 have hcall := hsound.2 (fun _ => False) W x (true, ()) args.toList (hF x hrx) hx (fun _ h => h.elim) (hI W hsh hX).1 (hI W hsh hX).2
 refine hcall.mono fun e W' hret => ?_
 cases e with
 | returned v =>
  obtain ⟨vs, Fr, hv, hk, hR, _, _⟩ := hret
  have hvt : v = .bool true := by
   cases vs with
   | nil => simp [Ac] at hR
   | cons a r =>
    obtain ⟨cs, F1, F2, ha, _, hown, hrest⟩ := hR
    cases r with
    | cons _ _ => simp [Ac] at hrest
    | nil =>
     have hcs : cs = [.bool true] := by
      cases fl with
      | true => exact hown.1
      | false => exact hown.1
     rw [hv, Ix, ha, hcs]
     rfl
  subst hvt
  refine ⟨_, rfl, ?_⟩
  have hsp := hs ds (MH hA)
  have hlt : ∀ z ∈ before, z.block < W.heap.size := hW0.lt
  have hsame : ∀ z ∈ before, W.sameAt W' z := by
   intro z hz
   have hb := hk.block z.block (hlt z hz) (fun h => h)
   cases z with
   | cell b off =>
    show W'.cell? _ = W.cell? _
    simp only [World.cell?]
    rw [show W'.heap[b]? = W.heap[b]? from hb]
   | map b => exact hb
  have hargs : ∀ sp : Nat → Bool, (∀ z ∈ before, sp z.block = true) → DataW.TrodAll enc C.prog W' 0 sp true fn.params.toList args.toList ds before :=
   fun sp h => LD (GH hp) hA hsame h
  have hres : ∀ (b : Nat) (sp : Nat → Bool) (hd : Bool), DataW.TrodAll enc C.prog W' b sp hd fn.resultTypes.toList ((Value.bool true).resultList fn.resultTypes.size) [.lit (.bool true)] [] := by
   intro b sp hd
   rw [hr]
   exact trodAll_mk1 (Go.RowKit.shut_bool htb true)
  have hold : ∀ z ∈ before, (fun b => decide (b < W.heap.size)) z.block = true := fun z hz => by simpa using hlt z hz
  refine ⟨ds, [], before, [], before, [], hW0, ?_, ?_, ?_, hk.but _, fun _ => ⟨?_, ds.cons (.lit (.bool true)), [], before, ⟨before, [], ?_, ?_, by simp, ?_, ?_⟩, fun z hz _ => hz⟩⟩
  ·rw [List.append_nil, hsp]; exact hres _ _ _
  ·rw [List.append_nil, hsp]; exact hargs _ hold
  ·rw [List.append_nil, hsp, hvars]; rfl
  ·intro j t r hj hv
   rw [hr] at hj hv
   match j, hj, hv with
   | 0, hj, hv =>
    simp only [List.getElem?_toArray, List.getElem?_cons_zero, jc] at hj
    simp [Value.resultList] at hv
    subst hj; subst hv
    exact Go.RowKit.okWide_bool_mk htb true
  ·exact trodAll_append (hargs _ (fun _ _ => rfl)) (hres _ _ _)
  ·rw [hvars]; rfl
  ·intro b off hz
   have := hfz b off hz
   unfold World.frozen? at this ⊢
   rw [show W'.heap[b]? = W.heap[b]? from hk.block b (hlt _ hz) (fun h => h)]
   exact this
  ·exact hnd
 | _ => exact hret.elim
end


def Mg {α S R : Type} (g : Nat → S → α → S ⊕ R) : Nat → S → List α → S ⊕ R
 | _, s, [] => .inl s
 | k, s, x :: xs => match g k s x with
  | .inl s' => Mg g (k + 1) s' xs
  | .inr r => .inr r
section
variable {X R : Type} {step : X → Option (X ⊕ R)}
theorem Id {x : X} {z : Option (X ⊕ R)} (h : step x = z) : Bb step x = z.bind (Sum.elim (Bb step) some) := by
 rw [Vu, h]
theorem KS {α S R' : Type} (xs : List α) (g : Nat → S → α → S ⊕ R') (I : Nat → S → X) (out : S → R) (ex : R' → R) (Hg : Nat → S → Prop)
 (h : ∀ k (hk : k < xs.length) s, Hg k s → step (I k s) = some (match g k s xs[k] with | .inl s' => .inl (I (k + 1) s') | .inr r => .inr (ex r)) ∧ ∀ s', g k s xs[k] = .inl s' → Hg (k + 1) s')
 (he : ∀ s, Hg xs.length s → step (I xs.length s) = some (.inr (out s))) (s0 : S) (h0 : Hg 0 s0) :
 Bb step (I 0 s0) = some (match Mg g 0 s0 xs with | .inl s => out s | .inr r => ex r) := by
 have key : ∀ (ys : List α) (k : Nat) (s : S), xs.drop k = ys → k ≤ xs.length → Hg k s → Bb step (I k s) = some (match Mg g k s ys with | .inl s => out s | .inr r => ex r) := by
  intro ys
  induction ys with
  | nil =>
   intro k s hd hle hi
   have : k = xs.length := by
    have := congrArg ja hd
    simp at this
    omega
   subst this
   rw [Id (he s hi)]
   rfl
  | cons y ys ih =>
   intro k s hd hle hi
   have hk : k < xs.length := by
    have := congrArg ja hd
    simp at this
    omega
   have hy : xs[k] = y := by
    have := congrArg (·[0]?) hd
    simp [List.getElem?_drop, je hk] at this
    exact this
   obtain ⟨h1, h2⟩ := h k hk s hi
   rw [Id h1]
   rw [hy] at h2 ⊢
   simp only [Mg]
   cases hg : g k s y with
   | inl s' =>
    simp only [jb, qe]
    refine ih (k + 1) s' ?_ hk (h2 s' hg)
    rw [← qk, hd]
    rfl
   | inr r => rfl
 exact key xs 0 s0 rfl (Nat.zero_le _) h0
theorem Qw (I : Nat → X) (n : Nat) (out : R) (h : ∀ k, k < n → step (I k) = some (.inl (I (k + 1)))) (he : step (I n) = some (.inr out)) : Bb step (I 0) = some out := by
 have key : ∀ m k, m + k = n → Bb step (I k) = some out := by
  intro m
  induction m with
  | zero =>
   intro k hk
   have : k = n := by omega
   subst this
   rw [Id he]; rfl
  | succ m ih =>
   intro k hk
   rw [Id (h k (by omega))]
   exact ih (k + 1) (by omega)
 exact key n 0 (by omega)
end
theorem Qh {n : Int} (h1 : -9223372036854775808 ≤ n) (h2 : n ≤ 9223372036854775807) : j4 .i64 n = n := IntWalk.i64_in n ⟨h1, h2⟩
theorem Le {k : Nat} (h : k < 9223372036854775807) : j4 .i64 ((k : Int) + 1) = ((k + 1 : Nat) : Int) := by
 rw [Qh (by omega) (by omega)]; omega
section
variable {α : Type}
theorem O7 (xs : List α) (k : Nat) : Yb xs (k : Int) = xs[k]? := by simp [Yb]
theorem Lc {xs : List α} {k : Nat} (h : k < xs.length) : Yb xs (k : Int) = some xs[k] := by rw [O7, je h]
theorem Kr (n k : Nat) : Ui n (k : Int) = decide (k < n) := by
 simp [Ui]
theorem Ia {p : Prop} [Decidable p] (h : p) : decide p = true := decide_eq_true h
theorem Ja {p : Prop} [Decidable p] (h : ¬ p) : decide p = false := decide_eq_false h
theorem C2 {xs : List α} {k : Nat} (h : k < xs.length) : xs.take (k + 1) = xs.take k ++ [xs[k]] := by
 rw [List.take_succ_eq_append_getElem h]
end
theorem V4 {α : Type} {xs : List α} {z : α} {k : Nat} (h : k < xs.length) : (xs.take k ++ q0 (xs.length - k) z).set k xs[k] = xs.take (k + 1) ++ q0 (xs.length - (k + 1)) z := by
 have h1 : (xs.take k).length = k := by simp; omega
 rw [List.set_append_right _ _ (by omega), h1, Nat.sub_self, show xs.length - k = (xs.length - (k + 1)) + 1 by omega, List.replicate_succ, List.set_cons_zero, C2 h, qt]
 rfl
theorem J3 {α : Type} {xs : List α} {z : α} {k : Nat} (h : k ≤ xs.length) : (xs.take k ++ q0 (xs.length - k) z).length = xs.length := by
 simp; omega
theorem OZ {α R : Type} {X : Type} {step : X → Option (X ⊕ R)} (xs : List α) (z : α) (I : List α → Int → X) (out : List α → R)
 (h : ∀ k (hk : k < xs.length) (o : List α), o.length = xs.length → step (I o (k : Int)) = some (.inl (I (o.set k xs[k]) (j4 .i64 ((k : Int) + 1)))))
 (he : ∀ o, step (I o (xs.length : Int)) = some (.inr (out o))) (hn : xs.length < 9223372036854775807) :
 Bb step (I (q0 xs.length z) 0) = some (out xs) := by
 have := Qw (step := step) (fun k => I (xs.take k ++ q0 (xs.length - k) z) (k : Int)) xs.length (out xs) (fun k hk => by
  rw [h k hk _ (J3 (by omega)), V4 hk, Le (by omega)]) (by
  rw [List.take_length, Nat.sub_self]
  simpa using he xs)
 simpa using this
theorem I9 {n : Nat} (h : n ≤ Ob) : (((n : Int) == (n : Int)) && (decide ((0 : Int) ≤ (n : Int)) && decide ((n : Int) ≤ ((Ob : Nat) : Int)))) = true := by
 simp only [beq_self_eq_true, jk, jd, decide_eq_true_eq]
 omega
theorem Vi : Ob = 1073741824 := rfl
def Db : (τ : Ty) → T τ → Nat
 | .i _, _ => 0
 | .b, _ => 0
 | .o, _ => 0
 | .mp _ _, _ => 0
 | .s, x => ja x
 | .sl e, xs => ja xs + (yq (Db e) xs).sum
 | .u, _ => 0
 | .p a c, v => Db a v.1 + Db c v.2
def Ty.hasS : Ty → Bool
 | .s => true
 | .sl e => e.hasS
 | .p x y => x.hasS || y.hasS
 | _ => false
def Pa : Nat := 1048576
theorem Qn {α : Type} {f : α → Nat} {xs : List α} {k : Nat} (hk : k < xs.length) : f xs[k] ≤ (xs.map f).sum := by
 induction xs generalizing k with
 | nil => simp at hk
 | cons x xs ih =>
  cases k with
  | zero => simp
  | succ k =>
   have := ih (k := k) (by simpa using hk)
   simp only [List.getElem_cons_succ, ya, List.sum_cons]
   omega
def JN (n l : Nat) : Int := if n ≤ l then ((l - n : Nat) : Int) else -1
theorem Zy {n l : Nat} (h : n ≤ l) : JN n l = ((l - n : Nat) : Int) := if_pos h
theorem Xw {n l : Nat} (h : ¬ n ≤ l) : JN n l = -1 := if_neg h
theorem Z9 {α X R : Type} {step : X → Option (X ⊕ R)} (xs : List α) (n : α → Nat) (I : Int → Int → X) (yes : Int → R) (no : R)
 (h : ∀ k (hk : k < xs.length) (l : Nat), l ≤ Pa → step (I (l : Int) (k : Int)) = some (if n xs[k] ≤ l then .inl (I ((l - n xs[k] : Nat) : Int) (j4 .i64 ((k : Int) + 1))) else .inr no))
 (he : ∀ l : Nat, step (I (l : Int) (xs.length : Int)) = some (.inr (yes (l : Int)))) (hn : xs.length < 9223372036854775807) (l : Nat) (hl : l ≤ Pa) :
 Bb step (I (l : Int) 0) = some (if (xs.map n).sum ≤ l then yes ((l - (xs.map n).sum : Nat) : Int) else no) := by
 have key : ∀ (ys : List α) (k l : Nat), xs.drop k = ys → k ≤ xs.length → l ≤ Pa → Bb step (I (l : Int) (k : Int)) = some (if (ys.map n).sum ≤ l then yes ((l - (ys.map n).sum : Nat) : Int) else no) := by
  intro ys
  induction ys with
  | nil =>
   intro k l hd hle hi
   have : k = xs.length := by
    have := congrArg ja hd
    simp at this
    omega
   subst this
   rw [Id (he l)]
   simp
  | cons y ys ih =>
   intro k l hd hle hi
   have hk : k < xs.length := by
    have := congrArg ja hd
    simp at this
    omega
   have hy : xs[k] = y := by
    have := congrArg (·[0]?) hd
    simp [List.getElem?_drop, je hk] at this
    exact this
   have hd' : xs.drop (k + 1) = ys := by rw [← qk, hd]; rfl
   rw [Id (h k hk l hi), hy]
   simp only [ya, List.sum_cons]
   by_cases hc : n y ≤ l
   ·simp only [hc, if_true, jb, qe]
    rw [Le (by omega), ih (k + 1) (l - n y) hd' hk (by omega)]
    by_cases hc2 : (ys.map n).sum ≤ l - n y
    ·rw [if_pos hc2, if_pos (by omega)]
     congr 3
     omega
    ·rw [if_neg hc2, if_neg (by omega)]
   ·rw [if_neg hc, if_neg (by omega)]
    rfl
 have := key xs 0 l rfl (Nat.zero_le _) hl
 simpa using this
theorem XI : ∀ {τ : Ty} (_ : (τ.flat && !τ.hasS) = true) {x : T τ}, Db τ x = 0
 | .i _, _, _ => rfl
 | .b, _, _ => rfl
 | .o, _, _ => rfl
 | .mp _ _, _, _ => rfl
 | .s, h, _ => by simp [Ty.hasS] at h
 | .sl _, h, _ => by simp [Ty.flat] at h
 | .u, _, _ => rfl
 | .p a c, h, x => by
  simp only [Ty.flat, Ty.hasS, jd, yc, Bool.or_eq_false_iff] at h
  simp only [Db]
  rw [XI (τ := a) (by simp [h.1.1, h.2.1]), XI (τ := c) (by simp [h.1.2, h.2.2])]
theorem Az {e : Ty} (h : (e.flat && !e.hasS) = true) (xs : List (T e)) : Db (.sl e) xs = ja xs := by
 simp only [Db]
 have : yq (Db e) xs = q0 xs.length 0 := by
  apply List.ext_getElem
  ·simp
  ·intro i h1 h2
   simp [XI h]
 rw [this]
 simp
theorem Rm {α : Type} (b : Bool) (x y : α) : cond b (some x) (some y) = some (cond b x y) := by cases b <;> rfl
theorem Sm {α : Type} (b : Bool) (x y : α) : cond b (x, ()) (y, ()) = (cond b x y, ()) := by cases b <;> rfl
theorem Uc (b x y : Bool) : (cond b x y = true) ↔ ((b = true ∧ x = true) ∨ (¬ b = true ∧ y = true)) := by cases b <;> simp
theorem YK {a b : Bool} (h : a = true ↔ b = true) : a = b := Bool.eq_iff_iff.2 h
theorem Jc {a b : Bool} (h : a = true ↔ b = true) : some (a, ()) = some (b, ()) := by rw [YK h]
theorem ZB (a b : Int) : ((a == b) = true) ↔ a = b := by simp
theorem AC (a b : Int) : ((a != b) = true) ↔ ¬ a = b := by simp
def Gf {α : Type} (p : Nat → α → Bool) : Nat → List α → Bool
 | _, [] => true
 | k, x :: xs => p k x && Gf p (k + 1) xs
theorem Jg {X R : Type} {step : X → Option (X ⊕ R)} {α : Type} (xs : List α) (p : Nat → α → Bool) (I : Int → X) (yes no : R)
 (h : ∀ k (hk : k < xs.length), step (I (k : Int)) = some (cond (p k xs[k]) (.inl (I (j4 .i64 ((k : Int) + 1)))) (.inr no)))
 (he : step (I (xs.length : Int)) = some (.inr yes)) (hn : xs.length < 9223372036854775807) :
 Bb step (I 0) = some (cond (Gf p 0 xs) yes no) := by
 have key : ∀ (ys : List α) (k : Nat), xs.drop k = ys → k ≤ xs.length → Bb step (I (k : Int)) = some (cond (Gf p k ys) yes no) := by
  intro ys
  induction ys with
  | nil =>
   intro k hd hle
   have : k = xs.length := by
    have := congrArg ja hd
    simp at this
    omega
   subst this
   rw [Id he]
   rfl
  | cons y ys ih =>
   intro k hd hle
   have hk : k < xs.length := by
    have := congrArg ja hd
    simp at this
    omega
   have hy : xs[k] = y := by
    have := congrArg (·[0]?) hd
    simp [List.getElem?_drop, je hk] at this
    exact this
   have hd' : xs.drop (k + 1) = ys := by rw [← qk, hd]; rfl
   rw [Id (h k hk), hy]
   simp only [Gf]
   cases hc : p k y with
   | true =>
    simp only [yt, jk, jb, qe]
    rw [← ih (k + 1) hd' hk, Le (by omega)]
   | false => rfl
 have := key xs 0 rfl (Nat.zero_le _)
 simpa using this
theorem Mj {α : Type} {p : Nat → α → Bool} : ∀ {xs : List α} {k : Nat}, Gf p k xs = true ↔ ∀ j (hj : j < xs.length), p (k + j) xs[j] = true
 | [], _ => by simp [Gf]
 | x :: xs, k => by
  simp only [Gf, jd, Mj (xs := xs)]
  constructor
  ·rintro ⟨h1, h2⟩ j hj
   cases j with
   | zero => exact h1
   | succ j => simpa [jt, Nat.add_comm 1 j] using h2 j (by simpa using hj)
  ·intro h
   refine ⟨h 0 (by simp), fun j hj => ?_⟩
   have := h (j + 1) (by simpa using hj)
   rw [jt, Nat.add_comm 1 j]
   exact this
theorem NM {α β γ : Type} (b : Bool) (x : α) (y : β) (f : α → γ) (g : β → γ) : Sum.elim f g (cond b (.inl x) (.inr y)) = cond b (f x) (g y) := by cases b <;> rfl
def Nh {α S : Type} (g : Nat → S → α → S) : Nat → S → List α → S
 | _, s, [] => s
 | k, s, x :: xs => Nh g (k + 1) (g k s x) xs
theorem MM {α : Type} {xs ys : List α} {y : α} {k : Nat} (hd : xs.drop k = y :: ys) : ∃ hk : k < xs.length, xs[k] = y ∧ xs.drop (k + 1) = ys := by
 have hk : k < xs.length := by
  have := congrArg ja hd
  simp at this
  omega
 refine ⟨hk, ?_, by rw [← qk, hd]; rfl⟩
 have := congrArg (·[0]?) hd
 simp [List.getElem?_drop, je hk] at this
 exact this
theorem BQ {α : Type} {xs : List α} {k : Nat} (hd : xs.drop k = []) (hk : k ≤ xs.length) : k = xs.length := by
 have := congrArg ja hd
 simp at this
 omega
theorem Uu {X R : Type} {step : X → Option (X ⊕ R)} {α S : Type} (xs : List α) (g : Nat → S → α → S) (I : S → Int → X) (out : S → R) (Hg : Nat → S → Prop)
 (h : ∀ k (hk : k < xs.length) s, Hg k s → step (I s (k : Int)) = some (.inl (I (g k s xs[k]) (j4 .i64 ((k : Int) + 1)))) ∧ Hg (k + 1) (g k s xs[k]))
 (he : ∀ s, Hg xs.length s → step (I s (xs.length : Int)) = some (.inr (out s))) (hn : xs.length < 9223372036854775807) (s0 : S) (h0 : Hg 0 s0) :
 Bb step (I s0 0) = some (out (Nh g 0 s0 xs)) ∧ Hg xs.length (Nh g 0 s0 xs) := by
 have key : ∀ (ys : List α) (k : Nat) (s : S), xs.drop k = ys → k ≤ xs.length → Hg k s → Bb step (I s (k : Int)) = some (out (Nh g k s ys)) ∧ Hg xs.length (Nh g k s ys) := by
  intro ys
  induction ys with
  | nil =>
   intro k s hd hle hi
   have := BQ hd hle
   subst this
   rw [Id (he s hi)]
   exact ⟨rfl, hi⟩
  | cons y ys ih =>
   intro k s hd hle hi
   obtain ⟨hk, hy, hd'⟩ := MM hd
   obtain ⟨h1, h2⟩ := h k hk s hi
   rw [Id h1, hy, Le (by omega)]
   rw [hy] at h2
   exact ih (k + 1) _ hd' hk h2
 have := key xs 0 s0 rfl (Nat.zero_le _) h0
 simpa using this
theorem Qs {X R : Type} {step : X → Option (X ⊕ R)} {α S R' : Type} (xs : List α) (g : Nat → S → α → S ⊕ R') (I : S → Int → X) (out : S → R) (ex : R' → R) (Hg : Nat → S → Prop)
 (h : ∀ k (hk : k < xs.length) s, Hg k s → step (I s (k : Int)) = some (match g k s xs[k] with | .inl s' => .inl (I s' (j4 .i64 ((k : Int) + 1))) | .inr r => .inr (ex r)) ∧ ∀ s', g k s xs[k] = .inl s' → Hg (k + 1) s')
 (he : ∀ s, Hg xs.length s → step (I s (xs.length : Int)) = some (.inr (out s))) (hn : xs.length < 9223372036854775807) (s0 : S) (h0 : Hg 0 s0) :
 Bb step (I s0 0) = some (match Mg g 0 s0 xs with | .inl s => out s | .inr r => ex r) := by
 have := KS (step := step) xs g (fun k s => I s (k : Int)) out ex Hg (fun k hk s hi => by
  obtain ⟨h1, h2⟩ := h k hk s hi
  refine ⟨?_, h2⟩
  rw [h1, Le (by omega)]) he s0 h0
 simpa using this
theorem K1 {X R X' R' : Type} {stepM : X → Option (X ⊕ R)} {stepH : X' → Option (X' ⊕ R')} {α : Type} (c : α → Nat) (B : Nat) (IM : List α → Int → Int → X) (outM : List α → Int → R) (IH : List α → Int → Int → X') (outH : List α → Int → R')
 (h : ∀ (o : List α) (k i : Nat) (hi : i < o.length), k + c o[i] ≤ B → ∃ x' k', k ≤ k' ∧ k' ≤ k + c o[i] ∧
  stepM (IM o (k : Int) (i : Int)) = some (.inl (IM (o.set i x') (k' : Int) (j4 .i64 ((i : Int) + 1)))) ∧
  ∀ (o2 : List α) (hi2 : i < o2.length), o2[i] = x' → stepH (IH o2 (k : Int) (i : Int)) = some (.inl (IH o2 (k' : Int) (j4 .i64 ((i : Int) + 1)))))
 (heM : ∀ (o : List α) (k : Nat), stepM (IM o (k : Int) (o.length : Int)) = some (.inr (outM o (k : Int))))
 (heH : ∀ (o : List α) (k : Nat), stepH (IH o (k : Int) (o.length : Int)) = some (.inr (outH o (k : Int))))
 (xs : List α) (k : Nat) (hB : k + (xs.map c).sum ≤ B) (hn : xs.length < 9223372036854775807) :
 ∃ (o : List α) (k' : Nat), k ≤ k' ∧ k' ≤ k + (xs.map c).sum ∧ o.length = xs.length ∧ Bb stepM (IM xs (k : Int) 0) = some (outM o (k' : Int)) ∧ Bb stepH (IH o (k : Int) 0) = some (outH o (k' : Int)) := by
 have key : ∀ (m i k : Nat) (o : List α), o.length = xs.length → m + i = xs.length → k + ((o.drop i).map c).sum ≤ B →
  ∃ (o' : List α) (k' : Nat), k ≤ k' ∧ k' ≤ k + ((o.drop i).map c).sum ∧ o'.length = xs.length ∧ o'.take i = o.take i ∧ Bb stepM (IM o (k : Int) (i : Int)) = some (outM o' (k' : Int)) ∧ Bb stepH (IH o' (k : Int) (i : Int)) = some (outH o' (k' : Int)) := by
  intro m
  induction m with
  | zero =>
   intro i k o ho hm hk
   have : i = o.length := by omega
   subst this
   refine ⟨o, k, jo _, by omega, ho, rfl, ?_, ?_⟩
   ·rw [Id (heM o k)]; rfl
   ·rw [Id (heH o k)]; rfl
  | succ m ih =>
   intro i k o ho hm hk
   have hi : i < o.length := by omega
   have hdrop : o.drop i = o[i] :: o.drop (i + 1) := List.drop_eq_getElem_cons hi
   rw [hdrop, ya, List.sum_cons] at hk ⊢
   obtain ⟨x', k1, h1, h2, h3, h4⟩ := h o k i hi (by omega)
   have hd1 : (o.set i x').drop (i + 1) = o.drop (i + 1) := by
    rw [List.drop_set]
    simp
   obtain ⟨o', k', g1, g2, g3, g4, g5, g6⟩ := ih (i + 1) k1 (o.set i x') (by simpa using ho) (by omega) (by rw [hd1]; omega)
   rw [hd1] at g2
   have ht : o'.take i = o.take i := by
    have := congrArg (List.take i) g4
    rw [List.take_take, List.take_take, Nat.min_eq_left (by omega), List.take_set_of_le (jo _)] at this
    exact this
   have hx : o'[i]'(by omega) = x' := by
    have := congrArg (·[i]?) g4
    simp [je (show i < o'.length by omega), hi] at this
    exact this
   refine ⟨o', k', by omega, by omega, g3, ht, ?_, ?_⟩
   ·rw [Id h3, Le (by omega)]
    exact g5
   ·rw [Id (h4 o' (by omega) hx), Le (by omega)]
    exact g6
 obtain ⟨o, k', h1, h2, h3, _, h5, h6⟩ := key xs.length 0 k xs rfl rfl (by simpa using hB)
 exact ⟨o, k', h1, by simpa using h2, h3, by simpa using h5, by simpa using h6⟩
def Cg : Nat := 1099511627776
theorem Dam (e : Ty) (xs : List (T e)) : (yq (fun x => 8 + 8 * Db e x) xs).sum = 8 * Db (.sl e) xs := by
 simp only [Db]
 induction xs with
 | nil => rfl
 | cons x xs ih =>
  simp only [ya, List.sum_cons, jw] at ih ⊢
  omega
theorem z3 : ((3 : Int) == 0) = false := rfl
theorem PZ {n lo hi : Nat} (h1 : lo ≤ hi) (h2 : hi ≤ n) : We n (lo : Int) (hi : Int) = true := by
 simp [We]; omega
def kf : (τ : Ty) → T τ → T τ → Prop
 | .sl _, _, _ => True
 | .p x y, a, c => kf x a.1 c.1 ∧ kf y a.2 c.2
 | .i _, a, c => a = c
 | .b, a, c => a = c
 | .o, a, c => a = c
 | .mp _ _, a, c => a = c
 | .s, a, c => a = c
 | .u, a, c => a = c
theorem JL : ∀ (τ : Ty) (a : T τ), kf τ a a
 | .sl _, _ => trivial
 | .p x y, a => ⟨JL x a.1, JL y a.2⟩
 | .i _, _ => rfl
 | .b, _ => rfl
 | .o, _ => rfl
 | .mp _ _, _ => rfl
 | .s, _ => rfl
 | .u, _ => rfl
section
variable {α β : Type}
def F7 (f : α → Option (α × Unit)) (t0 t3 : List α) (t4 : Int) : Option (((List α × (List α × (Int × Unit))) × Unit) ⊕ (((List α × Unit) × Unit) ⊕ β)) :=
 cond (decide (t4 < ((ja t0 : Nat) : Int))) (jz (Yb t0 t4) fun x7 => jz (f x7) fun r8 => cond (Ui (ja t3) t4)
  (jz t3[(jy t4)]? fun x9 => some (.inl ((t0, j5 t3 (jy t4) r8.1, j4 .i64 (t4 + 1), ()), ()))) none) (some (.inr (.inl ((t3, ()), ()))))
noncomputable def toG (β : Type) (z : α) (f : α → Option (α × Unit)) (a0 : List α) : Option (List α × Unit) :=
 cond ((((ja a0 : Nat) : Int) == ((ja a0 : Nat) : Int)) && (decide ((0 : Int) ≤ ((ja a0 : Nat) : Int)) && decide (((ja a0 : Nat) : Int) ≤ ((Ob : Nat) : Int))))
  (jz (Bb (fun x : (List α × (List α × (Int × Unit))) × Unit => F7 (β := β) f x.1.1 x.1.2.1 x.1.2.2.1) ((a0, q0 (jy ((ja a0 : Nat) : Int)) z, (0 : Int), ()), ())) (Sum.elim (fun y10 => some (y10.1.1, ())) (fun _ => none))) none
theorem Xac (z : α) (f : α → Option (α × Unit)) (a : List α) (hn : a.length ≤ Pa) (hf : ∀ k (h : k < a.length), f a[k] = some (a[k], ())) : toG β z f a = some (a, ()) := by
 have h20 : Pa = 1048576 := rfl
 have hl := OZ (step := fun x : (List α × (List α × (Int × Unit))) × Unit => F7 (β := β) f x.1.1 x.1.2.1 x.1.2.2.1) a z (fun o i => ((a, o, i, ()), ())) (fun o => .inl ((o, ()), ())) (by
  intro k hk o ho
  simp only [F7]
  rw [Ia (show (k : Int) < (ja a : Int) by omega), Lc hk]
  simp only [yt, jb]
  rw [hf k hk]
  simp only [yt, jb]
  rw [Kr, Ia (show k < ja o by omega)]
  simp [je (show k < ja o by omega)]) (by
  intro o
  simp [F7]) (by omega)
 unfold toG
 rw [I9 (by rw [Vi]; omega)]
 simp only [yt]
 rw [show jy ((ja a : Nat) : Int) = ja a by simp]
 erw [hl]
 rfl
theorem toS {e : Ty} (β : Type) (z : T e) {f : T e → Option (T e × Unit)} {F : List (T e) → Option (List (T e) × Unit)} (a : List (T e)) (hz : Db (.sl e) a ≤ Pa) (hf : ∀ x, Db e x ≤ Pa → f x = some (x, ())) (h : F a = toG β z f a) : F a = some (a, ()) := by
 have hz' : ja a + (yq (Db e) a).sum ≤ Pa := hz
 rw [h]
 exact Xac z f a (by omega) fun k hk => hf _ (by have := Qn (f := Db e) hk; omega)
def W6 (f : α → α → Option (Bool × Unit)) (t0 t1 : List α) (t5 : Int) : Option (((List α × (List α × (Int × Unit))) × Unit) ⊕ ((Unit × Unit) ⊕ ((Bool × Unit) × Unit))) :=
 cond (decide (t5 < ((ja t0 : Nat) : Int))) (jz (Yb t0 t5) fun x7 => jz (Yb t1 t5) fun x8 => jz (f x7 x8) fun r9 => cond (!r9.1) (some (.inr (.inr ((false, ()), ()))))
  (some (.inl ((t0, t1, j4 .i64 (t5 + 1), ()), ())))) (some (.inr (.inl ((), ()))))
noncomputable def eqG (f : α → α → Option (Bool × Unit)) (a0 a1 : List α) : Option (Bool × Unit) :=
 cond (((ja a0 : Nat) : Int) != ((ja a1 : Nat) : Int)) (some (false, ()))
  (jz (Bb (fun x : (List α × (List α × (Int × Unit))) × Unit => W6 f x.1.1 x.1.2.1 x.1.2.2.1) ((a0, a1, (0 : Int), ()), ())) (Sum.elim (fun _ => some (true, ())) (fun z11 => some (z11.1.1, ()))))
theorem Fab (f : α → α → Option (Bool × Unit)) (a : List α) (hn : a.length ≤ Cg) (hf : ∀ k (h : k < a.length), f a[k] a[k] = some (true, ())) : eqG f a a = some (true, ()) := by
 have h40 : Cg = 1099511627776 := rfl
 have hl := Qw (step := fun x : (List α × (List α × (Int × Unit))) × Unit => W6 f x.1.1 x.1.2.1 x.1.2.2.1) (fun k => ((a, a, (k : Int), ()), ())) (ja a) (.inl ((), ())) (by
  intro k hk
  simp only [W6]
  rw [Ia (show (k : Int) < (ja a : Int) by omega), Lc hk]
  simp only [yt, jb]
  rw [hf k hk]
  simp only [jb, jg, yu]
  rw [Le (by omega)]) (by
  simp [W6])
 unfold eqG
 rw [bne_self_eq_false']
 simp only [yu]
 erw [hl]
 rfl
theorem eqS {e : Ty} {f : T e → T e → Option (Bool × Unit)} {F : List (T e) → List (T e) → Option (Bool × Unit)} (a : List (T e)) (hz : Db (.sl e) a ≤ Cg) (hf : ∀ x, Db e x ≤ Cg → f x x = some (true, ())) (h : F a a = eqG f a a) : F a a = some (true, ()) := by
 have hz' : ja a + (yq (Db e) a).sum ≤ Cg := hz
 rw [h]
 exact Fab f a (by omega) fun k hk => hf _ (by have := Qn (f := Db e) hk; omega)
def PY (f : α → Int → Option (Int × Unit)) (t0 : List α) (t1 t5 : Int) : Option (((List α × (Int × (Int × Unit))) × Unit) ⊕ (((Int × Unit) × Unit) ⊕ ((Int × Unit) × Unit))) :=
 cond (decide (t5 < ((ja t0 : Nat) : Int))) (jz (Yb t0 t5) fun x5 => jz (f x5 t1) fun r6 => cond (decide (r6.1 < (0 : Int))) (some (.inr (.inr (((-1 : Int), ()), ()))))
  (some (.inl ((t0, r6.1, j4 .i64 (t5 + 1), ()), ())))) (some (.inr (.inl ((t1, ()), ()))))
noncomputable def szG (f : α → Int → Option (Int × Unit)) (a0 : List α) (a1 : Int) : Option (Int × Unit) :=
 cond (decide ((j4 .i64 (a1 - ((ja a0 : Nat) : Int))) < (0 : Int))) (some ((-1 : Int), ()))
  (jz (Bb (fun x : (List α × (Int × (Int × Unit))) × Unit => PY f x.1.1 x.1.2.1 x.1.2.2.1) ((a0, j4 .i64 (a1 - ((ja a0 : Nat) : Int)), (0 : Int), ()), ())) (Sum.elim (fun y7 => some (y7.1.1, ())) (fun z8 => some (z8.1.1, ()))))
theorem szS {e : Ty} {f : T e → Int → Option (Int × Unit)} {F : List (T e) → Int → Option (Int × Unit)} (a : List (T e)) (hr : Eu (.sl e) a) (l : Nat) (hl : l ≤ Pa)
 (hf : ∀ x, Eu e x → ∀ l : Nat, l ≤ Pa → f x (l : Int) = some (JN (Db e x) l, ())) (hF : F a (l : Int) = szG f a (l : Int)) : F a (l : Int) = some (JN (Db (.sl e) a) l, ()) := by
 have h20 : Pa = 1048576 := rfl
 have hlen : ja a ≤ 9223372036854775807 := hr.1
 rw [hF]
 unfold szG
 rw [Qh (by omega) (by omega)]
 by_cases h : ja a ≤ l
 ·rw [Ja (by omega), show (l : Int) - (ja a : Int) = ((l - ja a : Nat) : Int) by omega]
  simp only [yu]
  have hx := Z9 (step := fun x : (List (T e) × (Int × (Int × Unit))) × Unit => PY f x.1.1 x.1.2.1 x.1.2.2.1) a (Db e) (fun l i => ((a, l, i, ()), ())) (fun l => .inl ((l, ()), ())) (.inr (((-1 : Int), ()), ())) (by
   intro k hk l hl
   simp only [PY]
   rw [Ia (show (k : Int) < (ja a : Int) by omega), Lc hk]
   simp only [yt, jb]
   rw [hf a[k] (hr.2 k hk) l hl]
   simp only [jb]
   by_cases hc : Db e a[k] ≤ l
   ·rw [Zy hc, Ja (by omega), if_pos hc]; rfl
   ·rw [Xw hc, if_neg hc]; rfl) (by
   intro l
   simp [PY]) (by omega) (l - ja a) (by omega)
  rw [hx]
  simp only [jb]
  have hs : Db (.sl e) a = ja a + (yq (Db e) a).sum := rfl
  rw [hs]
  by_cases h2 : (yq (Db e) a).sum ≤ l - ja a
  ·rw [if_pos h2, Zy (by omega)]; simp only [qe]; rw [show l - ja a - (yq (Db e) a).sum = l - (ja a + (yq (Db e) a).sum) by omega]
  ·rw [if_neg h2, Xw (by omega)]; rfl
 ·rw [Xw (show ¬ Db (.sl e) a ≤ l by have hs : Db (.sl e) a = ja a + (yq (Db e) a).sum := rfl; omega), Ia (by omega)]; rfl
def Sac (a0 : List α) (a1 : Int) : Option (Int × Unit) :=
 cond (decide ((j4 .i64 (a1 - ((ja a0 : Nat) : Int))) < (0 : Int))) (some ((-1 : Int), ())) (some ((j4 .i64 (a1 - ((ja a0 : Nat) : Int))), ()))
theorem Eam {e : Ty} {F : List (T e) → Int → Option (Int × Unit)} (a : List (T e)) (hr : Eu (.sl e) a) (l : Nat) (hl : l ≤ Pa) (he : (e.flat && !e.hasS) = true) (hF : F a (l : Int) = Sac a (l : Int)) : F a (l : Int) = some (JN (Db (.sl e) a) l, ()) := by
 have h20 : Pa = 1048576 := rfl
 have hlen : ja a ≤ 9223372036854775807 := hr.1
 rw [hF]
 unfold Sac
 rw [Qh (by omega) (by omega), Az he a]
 by_cases h : ja a ≤ l
 ·rw [Zy h, Ja (by omega), show (l : Int) - (ja a : Int) = ((l - ja a : Nat) : Int) by omega]; rfl
 ·rw [Xw h, Ia (by omega)]; rfl
end
theorem ZX {e : Ty} {β β' : Type} {RM : List (T e) → Int → Int → Option (((List (T e) × (Int × (Int × Unit))) × Unit) ⊕ (((List (T e) × (Int × Unit)) × Unit) ⊕ β))}
 {RH : List (T e) → Int → Int → Option (((List (T e) × (Int × (Int × Unit))) × Unit) ⊕ (((Int × Unit) × Unit) ⊕ β'))} {M : List (T e) → Int → Option (List (T e) × (Int × Unit))} {Hd : List (T e) → Int → Option (Int × Unit)} {g : β → Option (List (T e) × (Int × Unit))} {g' : β' → Option (Int × Unit)}
 (hM : ∀ o k, M o k = jz (Bb (fun x => RM x.1.1 x.1.2.1 x.1.2.2.1) ((o, k, 0, ()), ())) (Sum.elim (fun y => some (y.1.1, (y.1.2.1, ()))) g))
 (hH : ∀ o k, Hd o k = jz (Bb (fun x => RH x.1.1 x.1.2.1 x.1.2.2.1) ((o, k, 0, ()), ())) (Sum.elim (fun y => some (y.1.1, ())) g'))
 (h : ∀ (o : List (T e)) (k i : Nat) (hi : i < o.length), k + (8 + 8 * Db e o[i]) ≤ Cg → ∃ (x' : T e) (k' : Nat), k ≤ k' ∧ k' ≤ k + (8 + 8 * Db e o[i]) ∧
  RM o (k : Int) (i : Int) = some (.inl ((o.set i x', (k' : Int), (j4 .i64 ((i : Int) + 1)), ()), ())) ∧
  ∀ (o2 : List (T e)) (hi2 : i < o2.length), o2[i] = x' → RH o2 (k : Int) (i : Int) = some (.inl ((o2, (k' : Int), (j4 .i64 ((i : Int) + 1)), ()), ())))
 (heM : ∀ (o : List (T e)) (k : Int), RM o k (o.length : Int) = some (.inr (.inl ((o, k, ()), ()))))
 (heH : ∀ (o : List (T e)) (k : Int), RH o k (o.length : Int) = some (.inr (.inl ((k, ()), ()))))
 (a : List (T e)) (k : Nat) (hk : k + 8 * Db (.sl e) a ≤ Cg) :
 ∃ (a' : List (T e)) (k' : Nat), k ≤ k' ∧ k' ≤ k + 8 * Db (.sl e) a ∧ M a (k : Int) = some (a', ((k' : Int), ())) ∧ Hd a' (k : Int) = some ((k' : Int), ()) ∧ kf (.sl e) a a' := by
 have h40 : Cg = 1099511627776 := rfl
 by_cases hlen : ja a < 9223372036854775807
 case neg => exfalso; have h1 : ja a ≤ Db (.sl e) a := Nat.le_add_right _ _; omega
 have hsum : (yq (fun x => 8 + 8 * Db e x) a).sum = 8 * Db (.sl e) a := Dam _ _
 have hx := K1 (stepM := fun x : ((List (T e) × (Int × (Int × Unit))) × Unit) => RM x.1.1 x.1.2.1 x.1.2.2.1) (stepH := fun x : ((List (T e) × (Int × (Int × Unit))) × Unit) => RH x.1.1 x.1.2.1 x.1.2.2.1) (fun x => 8 + 8 * Db e x) Cg (fun o k i => ((o, k, i, ()), ())) (fun o k => .inl ((o, k, ()), ())) (fun o k i => ((o, k, i, ()), ())) (fun _ k => .inl ((k, ()), ())) h
  (fun o k => heM o _) (fun o k => heH o _) a k (by rw [hsum]; exact hk) hlen
 obtain ⟨o, k1, h1, h2, _, h4, h5⟩ := hx
 rw [hsum] at h2
 refine ⟨o, k1, h1, h2, ?_, ?_, trivial⟩
 ·rw [hM]
  erw [h4]
  rfl
 ·rw [hH]
  erw [h5]
  rfl
abbrev int : Ty := .i .i64
abbrev Ph : Ty := (.p int (.p int .u))
abbrev Nd : Type := (Int × (Int × Unit))
abbrev Nb : Ty := (.p int (.p (.sl int) .u))
abbrev Ga : Type := (Int × ((List Int) × Unit))
abbrev Pc : Ty := (.p int (.p int (.p .b .u)))
abbrev Fd : Type := (Int × (Int × (Bool × Unit)))
abbrev Oh : Ty := (.p int Ph)
abbrev Fe : Type := (Int × Nd)
abbrev Jb : Ty := (.p int Oh)
abbrev Wa : Type := (Int × Fe)
abbrev Qr : Ty := (.p Pc (.p .s .u))
abbrev Cm : Type := (Fd × ((List UInt8) × Unit))
abbrev Bm : Ty := (.p int (.p Jb .u))
abbrev Sa : Type := (Int × (Wa × Unit))
abbrev Oa : Ty := (.p int (.p (.sl (.sl Jb)) .u))
abbrev Ea : Type := (Int × ((List (List Wa)) × Unit))
abbrev Qd : Ty := (.p Pc (.p Pc .u))
abbrev Nc : Type := (Fd × (Fd × Unit))
abbrev Kb : Ty := (.p Oa (.p (.sl (.sl Oh)) (.p int (.p (.sl Bm) (.p int (.p .b .u))))))
abbrev Hb : Type := (Ea × ((List (List Fe)) × (Int × ((List Sa) × (Int × (Bool × Unit))))))
abbrev Pt : Ty := (.p Kb (.p Kb (.p (.sl int) .u)))
abbrev Um : Type := (Hb × (Hb × ((List Int) × Unit)))
def KD : List UInt8 := [97, 32, 98, 32, 99, 32, 100, 32, 101, 32, 102, 32, 103, 32, 104, 32, 105, 32, 106, 32, 107, 32, 108, 32, 109, 32, 110, 32, 111, 32, 112, 32, 113, 32, 114, 32, 115, 32, 116, 32, 117, 32, 118, 32, 119, 32, 120, 32, 121, 32, 122, 32, 49, 32, 50, 32, 51, 32, 52, 32, 53, 32, 54, 32, 55, 32, 56, 32, 57, 32, 48, 32, 101, 110, 116, 101, 114, 32, 101, 115, 99, 32, 98, 97, 99, 107, 32, 116, 97, 98, 32, 115, 112, 97, 99, 101, 32, 109, 105, 110, 117, 115, 32, 101, 113, 117, 97, 108, 32, 108, 101, 102, 116, 32, 114, 105, 103, 104, 116, 32, 117, 112, 32, 100, 111, 119, 110, 32, 102, 49, 32, 102, 50, 32, 102, 51, 32, 102, 52, 32, 102, 53, 32, 102, 54, 32, 102, 55, 32, 102, 56, 32, 102, 57]
noncomputable section
open Option renaming bind → ob
open Go.IntKind renaming wrap → wr
open Int renaming toNat → tn
open List renaming length → ln, append → ap, set → ls
open Sum renaming elim → se
open Nat renaming ble → bl
abbrev Kf : Type := Int × Unit
abbrev Re : Type := Bool × Unit
abbrev Xd : Type := List Int
abbrev Ve : Type := Unit × Unit
abbrev Ei : Type := List Wa
abbrev Xm : Type := Ea × Unit
abbrev Et : Type := List UInt8
abbrev Ig : Type := List Ga
abbrev Tc : Type := List Sa
abbrev Nx : Type := List Nd
abbrev Jr : Type := Hb × Unit
abbrev Vm : Type := Unit × Kf
abbrev Ox : Type := Re × Unit
abbrev Bg : Type := List Ei
abbrev Vv : Type := Kf × Unit
abbrev Yi : Type := List Fe
abbrev Wv : Type := Xd × Nd
abbrev Wm : Type := Ga × Unit
abbrev Cq : Type := Ga × Wm
abbrev WW : Type := (Tc × (Unit × (Unit × (Xd × (Int × (Bool × Kf)))))) × Cq
abbrev NO : Type := Nx × Nd
abbrev PO : Type := Unit × Nd
abbrev Dz : Type := List Et
abbrev BJ : Type := Xd × Unit
abbrev Xv : Type := Hb × Jr
abbrev Rl : Type := List Cm
abbrev Fu : Type := Bg × Nd
abbrev Gu : Type := Ve ⊕ Ox
abbrev CJ : Type := Et × Unit
abbrev O6 : Type := Int × (Int × (Ei × Nd))
abbrev QO : Type := (Int × (Int × Vm)) × Xm
abbrev XF : Type := Xd × Kf
abbrev Ez : Type := Ig × Unit
abbrev P6 : Type := Nd × Unit
abbrev Q6 : Type := Vv ⊕ Ve
abbrev Yv : Type := Wa × Unit
abbrev Px : Type := List Um
abbrev Zv : Type := List Yi
abbrev RO : Type := (Bg × (Bg × Kf)) × Unit
abbrev YF : Type := Ve ⊕ Vv
abbrev XW : Type := Hb × (Ig × Re)
abbrev TB : Type := Tc × Nd
abbrev VF : Type := (Int × TB) × Unit
abbrev SO : Type := (Ei × (Ei × Kf)) × Unit
abbrev YW : Type := (Ez × Unit) ⊕ Ve
abbrev ZW : Type := ((Unit × (Unit × BJ)) × Cq) ⊕ Ve
abbrev S6 : Type := WW ⊕ (((Tc × (Unit × (Unit × (Xd × (Int × Re))))) × Cq) ⊕ Ve)
abbrev T6 : Type := (Int × Wv) × Unit
abbrev Qx : Type := Unit × Vm
abbrev SB : Type := (Tc × Qx) × Cq
abbrev UB : Type := List (Nc × Xd)
abbrev TO : Type := Nx × (Yi × Nd)
abbrev Pag : Type := (BJ × Unit) ⊕ Ve
abbrev UO : Type := (Ei × Nd) × Unit
abbrev Qag : Type := Dz × Unit
abbrev ZF : Type := Ea × Xm
abbrev VO : Type := (Xd × Wv) × Unit
abbrev AX : Type := (Unit × (Px × Kf)) × Xm
abbrev XO : Type := (Xd × Re) × Unit
abbrev DJ : Type := List (Fd × Rl)
abbrev So : Type := Ea × (DJ × Unit)
abbrev MO : Type := (Unit × (Unit × (Unit × (UB × ((List Nc) × (Unit × (Rl × (Rl × Nd)))))))) × (Ea × (So × (So × (Nc × Unit))))
abbrev VW : Type := (Unit × (Unit × (Unit × (UB × ((List Nc) × Unit))))) × (Ea × (So × (So × Unit)))
abbrev R6 : Type := (Unit × (Unit × (Unit × (Rl × (Unit × (Et × (Int × (Int × (Ig × Nd))))))))) × (So × (Fd × Xv))
abbrev U6 : Type := (Unit × (Unit × (Unit × (Rl × Nd)))) × (So × (Fd × Jr))
abbrev Fi : Hb := ((0, [], ()), [], 0, [], 0, false, ())
def Ke (a0 : Int) (a1 : Int) (a2 : Int) : Option Re :=
 (cond (decide (a0 ≥ a1))
 (some ((decide (a0 ≤ a2)), ()))
 (some (false, ())))
def Hw (a0 : Ga) : Option Wm :=
 (cond (bl (ln ([] : List Int) + ln a0.2.1) Ob)
 (some ((a0.1, (ap [] a0.2.1), ()), ()))
 none)
def Dg (a0 : Xd) : Option BJ :=
 (cond (bl (ln ([] : List Int) + ln a0) Ob)
 (some ((ap [] a0), ()))
 none)
def Pp (t0 : Xd) (t1 : Xd) (t5 : Int) : Option (((Xd × XF) × Unit) ⊕ Gu) :=
 (cond (decide (t5 < ((ln t0 : Nat) : Int)))
 (ob (Yb t0 t5) fun x5 =>
 (ob (Yb t1 t5) fun x6 =>
 (cond (x5 != x6)
 (some (.inr (.inr ((false, ()), ()))))
 (some (.inl ((t0, t1, (wr .i64 (t5 + 1)), ()), ()))))))
 (some (.inr (.inl ((), ())))))
def Tq := Bb fun x : ((Xd × XF) × Unit) => Pp x.1.1 x.1.2.1 x.1.2.2.1
def Mo (a0 : Xd) (a1 : Xd) : Option Re :=
 (cond (((ln a0 : Nat) : Int) != ((ln a1 : Nat) : Int))
 (some (false, ()))
 (ob (Tq ((a0, a1, 0, ()), ())) (se (fun y7 => (some (true, ()))) (fun z8 => (some (z8.1.1, ()))))))
def Xl (t0 : Xd) (t1 : Int) (t5 : Int) : Option ((Wv × Unit) ⊕ ((XF × Unit) ⊕ Ve)) :=
 (cond (decide (t5 < ((ln t0 : Nat) : Int)))
 (cond (Ui (ln t0) t5)
 (ob t0[(tn t5)]? fun x3 =>
 (some (.inl (((ls t0 (tn t5) t1), (wr .i64 (t1 + 1)), (wr .i64 (t5 + 1)), ()), ()))))
 none)
 (some (.inr (.inl ((t0, t1, ()), ())))))
def Su := Bb fun x : (Wv × Unit) => Xl x.1.1 x.1.2.1 x.1.2.2.1
def Hx (a0 : Xd) (a1 : Int) : Option XF :=
 (ob (Su ((a0, a1, 0, ()), ())) (se (fun y4 => (some (y4.1.1, (y4.1.2.1, ())))) (fun z5 => none)))
def Wl (t0 : Xd) (t1 : Int) (t5 : Int) : Option ((Wv × Unit) ⊕ (Vv ⊕ Vv)) :=
 (cond (decide (t5 < ((ln t0 : Nat) : Int)))
 (ob (Yb t0 t5) fun x3 =>
 (cond (x3 != t1)
 (some (.inr (.inr (((-1), ()), ()))))
 (some (.inl ((t0, (wr .i64 (t1 + 1)), (wr .i64 (t5 + 1)), ()), ())))))
 (some (.inr (.inl ((t1, ()), ())))))
def Ru := Bb fun x : (Wv × Unit) => Wl x.1.1 x.1.2.1 x.1.2.2.1
def Zs (a0 : Xd) (a1 : Int) : Option Kf :=
 (ob (Ru ((a0, a1, 0, ()), ())) (se (fun y4 => (some (y4.1.1, ()))) (fun z5 => (some (z5.1.1, ())))))
def Hm (a0 : Ei) (a1 : Int) : Option Kf :=
 (cond (decide ((wr .i64 (a1 - ((ln a0 : Nat) : Int))) < 0))
 (some ((-1), ()))
 (some ((wr .i64 (a1 - ((ln a0 : Nat) : Int))), ())))
def ND (t0 : Bg) (t1 : Int) (t5 : Int) : Option ((Fu × Unit) ⊕ (Vv ⊕ Vv)) :=
 (cond (decide (t5 < ((ln t0 : Nat) : Int)))
 (ob (Yb t0 t5) fun x5 =>
 (ob (Hm x5 t1) fun r6 =>
 (cond (decide (r6.1 < 0))
 (some (.inr (.inr (((-1), ()), ()))))
 (some (.inl ((t0, r6.1, (wr .i64 (t5 + 1)), ()), ()))))))
 (some (.inr (.inl ((t1, ()), ())))))
def Ns := Bb fun x : (Fu × Unit) => ND x.1.1 x.1.2.1 x.1.2.2.1
def Qp (a0 : Bg) (a1 : Int) : Option Kf :=
 (cond (decide ((wr .i64 (a1 - ((ln a0 : Nat) : Int))) < 0))
 (some ((-1), ()))
 (ob (Ns ((a0, (wr .i64 (a1 - ((ln a0 : Nat) : Int))), 0, ()), ())) (se (fun y7 => (some (y7.1.1, ()))) (fun z8 => (some (z8.1.1, ()))))))
def Ao (a0 : Ea) (a1 : Int) : Option Kf :=
 (ob (Qp a0.2.1 a1) fun r1 =>
 (cond (decide (r1.1 < 0))
 (some ((-1), ()))
 (some (r1.1, ()))))
def Bo (a0 : Wa) : Option Yv :=
 (some (a0, ()))
def NE (t0 : Ei) (t3 : Ei) (t4 : Int) : Option (SO ⊕ (((Ei × Unit) × Unit) ⊕ Ve)) :=
 (cond (decide (t4 < ((ln t0 : Nat) : Int)))
 (ob (Yb t0 t4) fun x7 =>
 (ob (Bo x7) fun r8 =>
 (cond (Ui (ln t3) t4)
 (ob t3[(tn t4)]? fun x9 =>
 (some (.inl ((t0, (ls t3 (tn t4) r8.1), (wr .i64 (t4 + 1)), ()), ()))))
 none)))
 (some (.inr (.inl ((t3, ()), ())))))
def Yt := Bb fun x : SO => NE x.1.1 x.1.2.1 x.1.2.2.1
def Mr (a0 : Ei) : Option (Ei × Unit) :=
 (cond ((((ln a0 : Nat) : Int) == ((ln a0 : Nat) : Int)) && (decide (0 ≤ ((ln a0 : Nat) : Int)) && decide (((ln a0 : Nat) : Int) ≤ ((Ob : Nat) : Int))))
 (ob (Yt ((a0, (q0 (tn ((ln a0 : Nat) : Int)) (0, 0, 0, 0, ())), 0, ()), ())) (se (fun y10 => (some (y10.1.1, ()))) (fun z11 => none)))
 none)
def OD (t0 : Bg) (t3 : Bg) (t4 : Int) : Option (RO ⊕ (((Bg × Unit) × Unit) ⊕ Ve)) :=
 (cond (decide (t4 < ((ln t0 : Nat) : Int)))
 (ob (Yb t0 t4) fun x7 =>
 (ob (Mr x7) fun r8 =>
 (cond (Ui (ln t3) t4)
 (ob t3[(tn t4)]? fun x9 =>
 (some (.inl ((t0, (ls t3 (tn t4) r8.1), (wr .i64 (t4 + 1)), ()), ()))))
 none)))
 (some (.inr (.inl ((t3, ()), ())))))
def Ps := Bb fun x : RO => OD x.1.1 x.1.2.1 x.1.2.2.1
def Tu (a0 : Bg) : Option (Bg × Unit) :=
 (cond ((((ln a0 : Nat) : Int) == ((ln a0 : Nat) : Int)) && (decide (0 ≤ ((ln a0 : Nat) : Int)) && decide (((ln a0 : Nat) : Int) ≤ ((Ob : Nat) : Int))))
 (ob (Ps ((a0, (q0 (tn ((ln a0 : Nat) : Int)) []), 0, ()), ())) (se (fun y10 => (some (y10.1.1, ()))) (fun z11 => none)))
 none)
def Bf (a0 : Ea) : Option Xm :=
 (ob (Tu a0.2.1) fun r1 =>
 (some ((a0.1, r1.1, ()), ())))
def Ih (a0 : Wa) : Option Re :=
 (ob (Ke a0.2.1 1 56) fun r1 =>
 (ob (Ke a0.2.2.1 1 15) fun r2 =>
 (ob (Ke a0.2.2.2.1 1 3) fun r3 =>
 (cond (a0.1 == 0)
 (cond (a0.2.1 == 0)
 (cond (a0.2.2.1 == 0)
 (some ((a0.2.2.2.1 == 0), ()))
 (some (false, ())))
 (some (false, ())))
 (cond (a0.1 == 1)
 (cond (a0.2.1 == 0)
 (cond (a0.2.2.1 == 0)
 (some ((a0.2.2.2.1 == 0), ()))
 (some (false, ())))
 (some (false, ())))
 (cond (a0.1 == 10)
 (cond (a0.2.1 == 0)
 (cond (a0.2.2.1 == 0)
 (some ((a0.2.2.2.1 == 0), ()))
 (some (false, ())))
 (some (false, ())))
 (cond (a0.1 == 2)
 (cond (a0.2.2.2.1 == 0)
 (cond r1.1
 (cond r2.1
 (some (true, ()))
 (some ((a0.2.2.1 == 0), ())))
 (cond (a0.2.1 == 0)
 (cond r2.1
 (cond r2.1
 (some (true, ()))
 (some ((a0.2.2.1 == 0), ())))
 (some (false, ())))
 (some (false, ()))))
 (some (false, ())))
 (cond (a0.1 == 3)
 (cond r3.1
 (cond (a0.2.1 == 0)
 (some ((a0.2.2.1 == 0), ()))
 (some (false, ())))
 (some (false, ())))
 (cond (a0.1 == 4)
 (cond r3.1
 (cond (a0.2.1 == 0)
 (some ((a0.2.2.1 == 0), ()))
 (some (false, ())))
 (some (false, ())))
 (cond (a0.1 == 5)
 (ob (Ke a0.2.2.2.1 0 3) fun r4 =>
 (cond r4.1
 (cond (a0.2.1 == 0)
 (some ((a0.2.2.1 == 0), ()))
 (some (false, ())))
 (some (false, ()))))
 (cond (a0.1 == 9)
 (ob (Ke a0.2.2.2.1 0 3) fun r5 =>
 (cond r5.1
 (cond (a0.2.1 == 0)
 (some ((a0.2.2.1 == 0), ()))
 (some (false, ())))
 (some (false, ()))))
 (cond (a0.1 == 6)
 (cond r1.1
 (cond r2.1
 (some ((a0.2.2.2.1 == 0), ()))
 (some (false, ())))
 (some (false, ())))
 (cond (a0.1 == 7)
 (cond r1.1
 (cond r3.1
 (some ((a0.2.2.1 == 0), ()))
 (some (false, ())))
 (some (false, ())))
 (cond (a0.1 == 8)
 (cond r2.1
 (cond (a0.2.1 == 0)
 (some ((a0.2.2.2.1 == 0), ()))
 (some (false, ())))
 (some (false, ())))
 (some (false, ()))))))))))))))))
def Cs (t1 : Unit) (t3 : Int) (t4 : Int) (b1 : Ea) : Option ((PO × Xm) ⊕ ((Vm × Xm) ⊕ Ox)) :=
 (ob (Yb b1.2.1 t3) fun x40 =>
 (cond (decide (t4 < ((ln x40 : Nat) : Int)))
 (ob (Yb b1.2.1 t3) fun x41 =>
 (ob (Yb x41 t4) fun x42 =>
 (ob (Ih x42) fun r43 =>
 (cond (!r43.1)
 (some (.inr (.inr ((false, ()), ()))))
 (cond (x42.1 == 1)
 (cond (t3 == 0)
 (some (.inr (.inr ((false, ()), ()))))
 (cond (x42.1 != 9)
 (cond (decide (x42.2.2.2.1 ≥ ((ln b1.2.1 : Nat) : Int)))
 (some (.inr (.inr ((false, ()), ()))))
 (some (.inl (((), t3, (wr .i64 (t4 + 1)), ()), (b1, ())))))
 (some (.inl (((), t3, (wr .i64 (t4 + 1)), ()), (b1, ()))))))
 (cond (x42.1 != 9)
 (cond (decide (x42.2.2.2.1 ≥ ((ln b1.2.1 : Nat) : Int)))
 (some (.inr (.inr ((false, ()), ()))))
 (some (.inl (((), t3, (wr .i64 (t4 + 1)), ()), (b1, ())))))
 (some (.inl (((), t3, (wr .i64 (t4 + 1)), ()), (b1, ()))))))))))
 (some (.inr (.inl (((), t3, ()), (b1, ())))))))
def Kj := Bb fun x : (PO × Xm) => Cs x.1.1 x.1.2.1 x.1.2.2.1 x.2.1
def Bs (t1 : Unit) (t3 : Int) (b1 : Ea) : Option ((Vm × Xm) ⊕ ((Ve × Xm) ⊕ Ox)) :=
 (cond (decide (t3 < ((ln b1.2.1 : Nat) : Int)))
 (ob (Yb b1.2.1 t3) fun x31 =>
 (cond (((ln x31 : Nat) : Int) != b1.1)
 (some (.inr (.inr ((false, ()), ()))))
 (ob (Kj (((), t3, 0, ()), (b1, ()))) (se (fun y44 => (some (.inl (((), (wr .i64 (y44.1.2.1 + 1)), ()), (y44.2.1, ()))))) (fun z45 => (some (.inr (.inr ((z45.1.1, ()), ())))))))))
 (some (.inr (.inl (((), ()), (b1, ()))))))
def Jj := Bb fun x : (Vm × Xm) => Bs x.1.1 x.1.2.1 x.2.1
def Fo (a0 : Ea) : Option Re :=
 (ob (Jj (((), 0, ()), (a0, ()))) (se (fun y46 => (ob (Ke y46.2.1.1 1 32) fun r48 =>
 (cond r48.1
 (ob (Ke ((ln y46.2.1.2.1 : Nat) : Int) 1 4) fun r49 =>
 (some (r49.1, ())))
 (some (false, ()))))) (fun z47 => (some (z47.1.1, ())))))
def Hl (a0 : Int) : Option Re :=
 (cond (decide (a0 ≥ 1))
 (some ((decide (a0 ≤ 56)), ()))
 (some (false, ())))
def Il (a0 : Int) : Option Re :=
 (cond (decide (a0 ≥ 1))
 (some ((decide (a0 ≤ 15)), ()))
 (some (false, ())))
def Fm (a0 : Int) : Option Re :=
 (cond (decide (a0 ≥ 1))
 (some ((decide (a0 ≤ 3)), ()))
 (some (false, ())))
def Fh (a0 : Wa) : Option Re :=
 (cond (a0.1 == 0)
 (cond (a0.2.1 == 0)
 (cond (a0.2.2.1 == 0)
 (some ((a0.2.2.2.1 == 0), ()))
 (some (false, ())))
 (some (false, ())))
 (cond (a0.1 == 1)
 (cond (a0.2.1 == 0)
 (cond (a0.2.2.1 == 0)
 (some ((a0.2.2.2.1 == 0), ()))
 (some (false, ())))
 (some (false, ())))
 (cond (a0.1 == 10)
 (cond (a0.2.1 == 0)
 (cond (a0.2.2.1 == 0)
 (some ((a0.2.2.2.1 == 0), ()))
 (some (false, ())))
 (some (false, ())))
 (cond (a0.1 == 2)
 (cond (a0.2.2.2.1 == 0)
 (cond (a0.2.1 == 0)
 (cond (a0.2.2.1 == 0)
 (cond (a0.2.1 != 0)
 (some (true, ()))
 (some ((a0.2.2.1 != 0), ())))
 (ob (Il a0.2.2.1) fun r1 =>
 (cond r1.1
 (cond (a0.2.1 != 0)
 (some (true, ()))
 (some ((a0.2.2.1 != 0), ())))
 (some (false, ())))))
 (ob (Hl a0.2.1) fun r2 =>
 (cond r2.1
 (cond (a0.2.2.1 == 0)
 (cond (a0.2.1 != 0)
 (some (true, ()))
 (some ((a0.2.2.1 != 0), ())))
 (ob (Il a0.2.2.1) fun r3 =>
 (cond r3.1
 (cond (a0.2.1 != 0)
 (some (true, ()))
 (some ((a0.2.2.1 != 0), ())))
 (some (false, ())))))
 (some (false, ())))))
 (some (false, ())))
 (cond (a0.1 == 3)
 (cond (a0.2.1 == 0)
 (cond (a0.2.2.1 == 0)
 (ob (Fm a0.2.2.2.1) fun r4 =>
 (some (r4.1, ())))
 (some (false, ())))
 (some (false, ())))
 (cond (a0.1 == 4)
 (cond (a0.2.1 == 0)
 (cond (a0.2.2.1 == 0)
 (ob (Fm a0.2.2.2.1) fun r5 =>
 (some (r5.1, ())))
 (some (false, ())))
 (some (false, ())))
 (cond (a0.1 == 5)
 (cond (a0.2.1 == 0)
 (cond (a0.2.2.1 == 0)
 (cond (decide (a0.2.2.2.1 ≥ 0))
 (some ((decide (a0.2.2.2.1 ≤ 3)), ()))
 (some (false, ())))
 (some (false, ())))
 (some (false, ())))
 (cond (a0.1 == 9)
 (cond (a0.2.1 == 0)
 (cond (a0.2.2.1 == 0)
 (cond (decide (a0.2.2.2.1 ≥ 0))
 (some ((decide (a0.2.2.2.1 ≤ 3)), ()))
 (some (false, ())))
 (some (false, ())))
 (some (false, ())))
 (cond (a0.1 == 6)
 (ob (Hl a0.2.1) fun r6 =>
 (cond r6.1
 (ob (Il a0.2.2.1) fun r7 =>
 (cond r7.1
 (some ((a0.2.2.2.1 == 0), ()))
 (some (false, ()))))
 (some (false, ()))))
 (cond (a0.1 == 7)
 (ob (Hl a0.2.1) fun r8 =>
 (cond r8.1
 (cond (a0.2.2.1 == 0)
 (ob (Fm a0.2.2.2.1) fun r9 =>
 (some (r9.1, ())))
 (some (false, ())))
 (some (false, ()))))
 (cond (a0.1 == 8)
 (cond (a0.2.1 == 0)
 (ob (Il a0.2.2.1) fun r10 =>
 (cond r10.1
 (some ((a0.2.2.2.1 == 0), ()))
 (some (false, ()))))
 (some (false, ())))
 (some (false, ())))))))))))))
def Yr (t1 : Unit) (t3 : Int) (t28 : Bg) (t29 : Int) (t30 : Int) (t40 : Ei) (t41 : Int) (t42 : Int) (b1 : Ea) : Option (((Unit × (Int × (Bg × O6))) × Xm) ⊕ (((Unit × Fu) × Xm) ⊕ Ox)) :=
 (cond (decide (t42 < t41))
 (ob (Yb t40 t42) fun x24 =>
 (ob (Fh x24) fun r25 =>
 (cond (!r25.1)
 (some (.inr (.inr ((false, ()), ()))))
 (cond (t3 == 0)
 (cond (x24.1 == 1)
 (some (.inr (.inr ((false, ()), ()))))
 (cond (x24.1 != 9)
 (cond (decide (x24.2.2.2.1 ≥ ((ln b1.2.1 : Nat) : Int)))
 (some (.inr (.inr ((false, ()), ()))))
 (some (.inl (((), t3, t28, t29, t30, t40, t41, (wr .i64 (t42 + 1)), ()), (b1, ())))))
 (some (.inl (((), t3, t28, t29, t30, t40, t41, (wr .i64 (t42 + 1)), ()), (b1, ()))))))
 (cond (x24.1 != 9)
 (cond (decide (x24.2.2.2.1 ≥ ((ln b1.2.1 : Nat) : Int)))
 (some (.inr (.inr ((false, ()), ()))))
 (some (.inl (((), t3, t28, t29, t30, t40, t41, (wr .i64 (t42 + 1)), ()), (b1, ())))))
 (some (.inl (((), t3, t28, t29, t30, t40, t41, (wr .i64 (t42 + 1)), ()), (b1, ())))))))))
 (some (.inr (.inl (((), t28, t29, t30, ()), (b1, ()))))))
def Cj := Bb fun x : ((Unit × (Int × (Bg × O6))) × Xm) => Yr x.1.1 x.1.2.1 x.1.2.2.1 x.1.2.2.2.1 x.1.2.2.2.2.1 x.1.2.2.2.2.2.1 x.1.2.2.2.2.2.2.1 x.1.2.2.2.2.2.2.2.1 x.2.1
def Xr (t1 : Unit) (t28 : Bg) (t29 : Int) (t30 : Int) (b1 : Ea) : Option (((Unit × Fu) × Xm) ⊕ Gu) :=
 (cond (decide (t30 < t29))
 (ob (Yb t28 t30) fun x19 =>
 (cond (((ln x19 : Nat) : Int) != b1.1)
 (some (.inr (.inr ((false, ()), ()))))
 (ob (Cj (((), t30, t28, t29, t30, x19, ((ln x19 : Nat) : Int), 0, ()), (b1, ()))) (se (fun y26 => (some (.inl (((), y26.1.2.1, y26.1.2.2.1, (wr .i64 (y26.1.2.2.2.1 + 1)), ()), (y26.2.1, ()))))) (fun z27 => (some (.inr (.inr ((z27.1.1, ()), ())))))))))
 (some (.inr (.inl ((), ())))))
def Bj := Bb fun x : ((Unit × Fu) × Xm) => Xr x.1.1 x.1.2.1 x.1.2.2.1 x.1.2.2.2.1 x.2.1
def Wn (a0 : Ea) : Option Re :=
 (cond (decide (a0.1 < 1))
 (some (false, ()))
 (cond (decide (a0.1 > 32))
 (some (false, ()))
 (cond (decide (((ln a0.2.1 : Nat) : Int) < 1))
 (some (false, ()))
 (cond (decide (((ln a0.2.1 : Nat) : Int) > 4))
 (some (false, ()))
 (ob (Bj (((), a0.2.1, ((ln a0.2.1 : Nat) : Int), 0, ()), (a0, ()))) (se (fun y28 => (some (true, ()))) (fun z29 => (some (z29.1.1, ())))))))))
def Yn (a0 : Wa) (a1 : Wa) : Option Re :=
 (cond (a0.1 != a1.1)
 (some (false, ()))
 (cond (a0.2.1 != a1.2.1)
 (some (false, ()))
 (cond (a0.2.2.1 != a1.2.2.1)
 (some (false, ()))
 (cond (a0.2.2.2.1 != a1.2.2.2.1)
 (some (false, ()))
 (some (true, ()))))))
def ME (t0 : Ei) (t1 : Ei) (t5 : Int) : Option (SO ⊕ Gu) :=
 (cond (decide (t5 < ((ln t0 : Nat) : Int)))
 (ob (Yb t0 t5) fun x7 =>
 (ob (Yb t1 t5) fun x8 =>
 (ob (Yn x7 x8) fun r9 =>
 (cond (!r9.1)
 (some (.inr (.inr ((false, ()), ()))))
 (some (.inl ((t0, t1, (wr .i64 (t5 + 1)), ()), ())))))))
 (some (.inr (.inl ((), ())))))
def Xt := Bb fun x : SO => ME x.1.1 x.1.2.1 x.1.2.2.1
def Gm (a0 : Ei) (a1 : Ei) : Option Re :=
 (cond (((ln a0 : Nat) : Int) != ((ln a1 : Nat) : Int))
 (some (false, ()))
 (ob (Xt ((a0, a1, 0, ()), ())) (se (fun y10 => (some (true, ()))) (fun z11 => (some (z11.1.1, ()))))))
def MD (t0 : Bg) (t1 : Bg) (t5 : Int) : Option (RO ⊕ Gu) :=
 (cond (decide (t5 < ((ln t0 : Nat) : Int)))
 (ob (Yb t0 t5) fun x7 =>
 (ob (Yb t1 t5) fun x8 =>
 (ob (Gm x7 x8) fun r9 =>
 (cond (!r9.1)
 (some (.inr (.inr ((false, ()), ()))))
 (some (.inl ((t0, t1, (wr .i64 (t5 + 1)), ()), ())))))))
 (some (.inr (.inl ((), ())))))
def Ms := Bb fun x : RO => MD x.1.1 x.1.2.1 x.1.2.2.1
def Np (a0 : Bg) (a1 : Bg) : Option Re :=
 (cond (((ln a0 : Nat) : Int) != ((ln a1 : Nat) : Int))
 (some (false, ()))
 (ob (Ms ((a0, a1, 0, ()), ())) (se (fun y10 => (some (true, ()))) (fun z11 => (some (z11.1.1, ()))))))
def Zn (a0 : Ea) (a1 : Ea) : Option Re :=
 (cond (a0.1 != a1.1)
 (some (false, ()))
 (ob (Np a0.2.1 a1.2.1) fun r1 =>
 (cond (!r1.1)
 (some (false, ()))
 (some (true, ())))))
def Vj (a0 : Wa) : Option Re :=
 (ob (Ih a0) fun r1 =>
 (cond r1.1
 (cond (a0.1 == 6)
 (some (true, ()))
 (some ((a0.1 == 7), ())))
 (some (false, ()))))
def Wx (a0 : Wa) : Option Yv :=
 (ob (Vj a0) fun r1 =>
 (cond (!r1.1)
 (some (a0, ()))
 (some ((2, a0.2.1, 0, 0, ()), ()))))
def strings_Split (a b : List UInt8) : Option (List Et × Unit) := VR a b
def Vs (a0 : Int) : Option CJ :=
 (cond (decide (a0 < 1))
 (some ([], ()))
 (cond (decide (a0 > 56))
 (some ([], ()))
 (ob (strings_Split KD ([32] : List UInt8)) fun r1 =>
 (cond (Ui (ln r1.1) (wr .i64 (a0 - 1)))
 (ob r1.1[(tn (wr .i64 (a0 - 1)))]? fun x2 =>
 (some (x2, ())))
 none))))
def Em (a0 : Wa) : Option Re :=
 (ob (Fh a0) fun r1 =>
 (cond r1.1
 (cond (a0.1 == 6)
 (some (true, ()))
 (some ((a0.1 == 7), ())))
 (some (false, ()))))
def Sx (a0 : Wa) : Option Yv :=
 (ob (Em a0) fun r1 =>
 (cond (!r1.1)
 (some (a0, ()))
 (some ((2, a0.2.1, 0, 0, ()), ()))))
def Gk (t2 : Unit) (t3 : Unit) (t10 : Bg) (t11 : Int) (t12 : Int) (b2 : Ea) (b3 : Ea) : Option (((Unit × (Unit × Fu)) × ZF) ⊕ (((Unit × Ve) × ZF) ⊕ Ve)) :=
 (cond (decide (t12 < t11))
 (ob (Yb t10 t12) fun x4 =>
 (cond (bl (ln ([] : List Wa) + ln x4) Ob)
 (cond (bl (ln b3.2.1 + ln ([(ap [] x4)] : List Ei)) Ob)
 (some (.inl (((), (), t10, t11, (wr .i64 (t12 + 1)), ()), (b2, (b3.1, (ap b3.2.1 ([(ap [] x4)] : List Ei)), ()), ()))))
 none)
 none))
 (some (.inr (.inl (((), (), ()), (b2, b3, ()))))))
def Fl := Bb fun x : ((Unit × (Unit × Fu)) × ZF) => Gk x.1.1 x.1.2.1 x.1.2.2.1 x.1.2.2.2.1 x.1.2.2.2.2.1 x.2.1 x.2.2.1
def Kp (a0 : Ea) : Option Xm :=
 (ob (Fl (((), (), a0.2.1, ((ln a0.2.1 : Nat) : Int), 0, ()), ((0, [], ()), (a0.1, [], ()), ()))) (se (fun y5 => (some (y5.2.2.1, ()))) (fun z6 => none)))
def Hk (t3 : Zv) (t6 : Zv) (t7 : Int) (t8 : Int) : Option (((Zv × (Zv × Nd)) × Unit) ⊕ (((Zv × Unit) × Unit) ⊕ Ve)) :=
 (cond (decide (t8 < t7))
 (ob (Yb t6 t8) fun x4 =>
 (cond (bl (ln ([] : List Fe) + ln x4) Ob)
 (cond (bl (ln t3 + ln ([(ap [] x4)] : List Yi)) Ob)
 (some (.inl (((ap t3 ([(ap [] x4)] : List Yi)), t6, t7, (wr .i64 (t8 + 1)), ()), ())))
 none)
 none))
 (some (.inr (.inl ((t3, ()), ())))))
def Gl := Bb fun x : ((Zv × (Zv × Nd)) × Unit) => Hk x.1.1 x.1.2.1 x.1.2.2.1 x.1.2.2.2.1
def Lp (a0 : Zv) : Option (Zv × Unit) :=
 (ob (Gl (([], a0, ((ln a0 : Nat) : Int), 0, ()), ())) (se (fun y5 => (some (y5.1.1, ()))) (fun z6 => none)))
def Kv (a0 : Int) (a1 : Int) : Option Kf :=
 (cond (decide (0 ≤ a1))
 (some ((Wr .i64 (KC .i64 a0 a1) 1), ()))
 none)
def Ip (t3 : Int) (t6 : Tc) (t7 : Int) (t8 : Int) : Option (VF ⊕ Gu) :=
 (cond (decide (t8 < t7))
 (ob (Yb t6 t8) fun x7 =>
 (cond (decide (x7.1 < 0))
 (some (.inr (.inr ((false, ()), ()))))
 (cond (decide (x7.1 > 31))
 (some (.inr (.inr ((false, ()), ()))))
 (ob (Kv t3 x7.1) fun r8 =>
 (cond (r8.1 == 1)
 (some (.inr (.inr ((false, ()), ()))))
 (ob (Fh x7.2.1) fun r9 =>
 (cond (!r9.1)
 (some (.inr (.inr ((false, ()), ()))))
 (cond (x7.2.1.1 == 1)
 (some (.inr (.inr ((false, ()), ()))))
 (cond (x7.2.1.1 == 6)
 (some (.inr (.inr ((false, ()), ()))))
 (cond (x7.2.1.1 == 7)
 (some (.inr (.inr ((false, ()), ()))))
 (cond (decide (0 ≤ x7.1))
 (some (.inl (((Ce .i64 t3 (Lk .i64 1 x7.1)), t6, t7, (wr .i64 (t8 + 1)), ()), ())))
 none)))))))))))
 (some (.inr (.inl ((), ())))))
def Oq := Bb fun x : VF => Ip x.1.1 x.1.2.1 x.1.2.2.1 x.1.2.2.2.1
def Pj (a0 : Tc) : Option Re :=
 (ob (Oq ((0, a0, ((ln a0 : Nat) : Int), 0, ()), ())) (se (fun y10 => (some (true, ()))) (fun z11 => (some (z11.1.1, ())))))
def TJ (t3 : Unit) (t7 : Nx) (t8 : Int) (t9 : Int) (b3 : Nd) : Option (((Unit × NO) × P6) ⊕ YF) :=
 (cond (decide (t9 < t8))
 (ob (Yb t7 t9) fun x3 =>
 (cond (Ye Ph x3 b3)
 (some (.inr (.inr ((t9, ()), ()))))
 (some (.inl (((), t7, t8, (wr .i64 (t9 + 1)), ()), (b3, ()))))))
 (some (.inr (.inl ((), ())))))
def Ow := Bb fun x : ((Unit × NO) × P6) => TJ x.1.1 x.1.2.1 x.1.2.2.1 x.1.2.2.2.1 x.2.1
def KA (a0 : Nx) (a1 : Nd) : Option Kf :=
 (ob (Ow (((), a0, ((ln a0 : Nat) : Int), 0, ()), (a1, ()))) (se (fun y4 => (some ((-1), ()))) (fun z5 => (some (z5.1.1, ())))))
def CI (t3 : Nx) (t11 : Yi) (t12 : Int) (t13 : Int) : Option ((TO × Unit) ⊕ (((Nx × Unit) × Unit) ⊕ Ox)) :=
 (cond (decide (t13 < t12))
 (ob (Yb t11 t13) fun x10 =>
 (ob (KA t3 x10.2) fun r11 =>
 (ob (Fh (2, x10.2.1, x10.2.2.1, 0, ())) fun r12 =>
 (cond (!r12.1)
 (some (.inr (.inr ((false, ()), ()))))
 (cond (x10.1 == 0)
 (cond (decide (r11.1 ≥ 0))
 (some (.inr (.inr ((false, ()), ()))))
 (cond (x10.1 == 1)
 (cond (bl (ln t3 + ln ([x10.2] : List Nd)) Ob)
 (some (.inl (((ap t3 ([x10.2] : List Nd)), t11, t12, (wr .i64 (t13 + 1)), ()), ())))
 none)
 (some (.inl ((t3, t11, t12, (wr .i64 (t13 + 1)), ()), ())))))
 (cond (x10.1 == 1)
 (cond (decide (r11.1 ≥ 0))
 (some (.inr (.inr ((false, ()), ()))))
 (cond (x10.1 == 1)
 (cond (bl (ln t3 + ln ([x10.2] : List Nd)) Ob)
 (some (.inl (((ap t3 ([x10.2] : List Nd)), t11, t12, (wr .i64 (t13 + 1)), ()), ())))
 none)
 (some (.inl ((t3, t11, t12, (wr .i64 (t13 + 1)), ()), ())))))
 (cond (x10.1 == 2)
 (cond (decide (r11.1 < 0))
 (some (.inr (.inr ((false, ()), ()))))
 (cond (We (ln t3) 0 r11.1)
 (cond (We (ln t3) (wr .i64 (r11.1 + 1)) ((ln t3 : Nat) : Int))
 (cond (bl (ln (Ad t3 (tn 0) (tn r11.1)) + ln (Ad t3 (tn (wr .i64 (r11.1 + 1))) (tn ((ln t3 : Nat) : Int)))) Ob)
 (some (.inl (((ap (Ad t3 (tn 0) (tn r11.1)) (Ad t3 (tn (wr .i64 (r11.1 + 1))) (tn ((ln t3 : Nat) : Int)))), t11, t12, (wr .i64 (t13 + 1)), ()), ())))
 none)
 none)
 none))
 (some (.inr (.inr ((false, ()), ())))))))))))
 (some (.inr (.inl ((t3, ()), ())))))
def Cv := Bb fun x : (TO × Unit) => CI x.1.1 x.1.2.1 x.1.2.2.1 x.1.2.2.2.1
def GE (a0 : Yi) : Option Re :=
 (cond (decide (((ln a0 : Nat) : Int) > 8))
 (some (false, ()))
 (ob (Cv (([], a0, ((ln a0 : Nat) : Int), 0, ()), ())) (se (fun y13 => (some ((((ln y13.1.1 : Nat) : Int) == 0), ()))) (fun z14 => (some (z14.1.1, ()))))))
def Sk (a0 : Hb) : Option Jr :=
 (ob (Kp a0.1) fun r1 =>
 (ob (Lp a0.2.1) fun r2 =>
 (cond (bl (ln ([] : List Sa) + ln a0.2.2.2.1) Ob)
 (some ((r1.1, r2.1, a0.2.2.1, (ap [] a0.2.2.2.1), a0.2.2.2.2), ()))
 none)))
def Hp (t1 : Int) (t8 : Tc) (t9 : Int) (t10 : Int) : Option (VF ⊕ YF) :=
 (cond (decide (t10 < t9))
 (ob (Yb t8 t10) fun x3 =>
 (cond (x3.1 == t1)
 (some (.inr (.inr ((t10, ()), ()))))
 (some (.inl ((t1, t8, t9, (wr .i64 (t10 + 1)), ()), ())))))
 (some (.inr (.inl ((), ())))))
def Nq := Bb fun x : VF => Hp x.1.1 x.1.2.1 x.1.2.2.1 x.1.2.2.2.1
def Dw (a0 : Hb) (a1 : Int) : Option Kf :=
 (ob (Nq ((a1, a0.2.2.2.1, ((ln a0.2.2.2.1 : Nat) : Int), 0, ()), ())) (se (fun y4 => (some ((-1), ()))) (fun z5 => (some (z5.1.1, ())))))
def sort_Ints (x0 : Xd) : Option BJ := D7 x0
def Mp (t1 : Int) (t7 : Xd) (t8 : Int) (t9 : Int) : Option (T6 ⊕ Gu) :=
 (cond (decide (t9 < t8))
 (ob (Yb t7 t9) fun x3 =>
 (cond (x3 == t1)
 (some (.inr (.inr ((true, ()), ()))))
 (some (.inl ((t1, t7, t8, (wr .i64 (t9 + 1)), ()), ())))))
 (some (.inr (.inl ((), ())))))
def Rq := Bb fun x : T6 => Mp x.1.1 x.1.2.1 x.1.2.2.1 x.1.2.2.2.1
def Ew (a0 : Xd) (a1 : Int) : Option Re :=
 (ob (Rq ((a1, a0, ((ln a0 : Nat) : Int), 0, ()), ())) (se (fun y4 => (some (false, ()))) (fun z5 => (some (z5.1.1, ())))))
def Bn (t4 : Xd) (t11 : Xd) (t12 : Int) (t13 : Int) : Option (VO ⊕ Pag) :=
 (cond (decide (t13 < t12))
 (cond (Ui (ln t11) t13)
 (ob t11[(tn t13)]? fun x9 =>
 (cond (x9 != 0)
 (ob (Ew t4 x9) fun r10 =>
 (cond (!r10.1)
 (cond (bl (ln t4 + ln ([x9] : List Int)) Ob)
 (some (.inl (((ap t4 ([x9] : List Int)), t11, t12, (wr .i64 (t13 + 1)), ()), ())))
 none)
 (some (.inl ((t4, t11, t12, (wr .i64 (t13 + 1)), ()), ())))))
 (some (.inl ((t4, t11, t12, (wr .i64 (t13 + 1)), ()), ())))))
 none)
 (some (.inr (.inl ((t4, ()), ())))))
def Yo := Bb fun x : VO => Bn x.1.1 x.1.2.1 x.1.2.2.1 x.1.2.2.2.1
def Qq (a0 : Xd) : Option BJ :=
 (ob (Dg a0) fun r1 =>
 (ob (sort_Ints r1.1) fun r2 =>
 (ob (Yo (([], r2.1, ((ln r2.1 : Nat) : Int), 0, ()), ())) (se (fun y11 => (some (y11.1.1, ()))) (fun z12 => none)))))
def Ul (t2 : Unit) (t3 : Unit) (t4 : Xd) (t11 : Tc) (t12 : Int) (t13 : Int) (b2 : Ga) (b3 : Ga) : Option (((Unit × (Unit × (Xd × TB))) × Cq) ⊕ ZW) :=
 (cond (decide (t13 < t12))
 (ob (Yb t11 t13) fun x5 =>
 (cond (x5.2.1.1 == 2)
 (cond (bl (ln t4 + ln ([x5.2.1.2.1] : List Int)) Ob)
 (some (.inl (((), (), (ap t4 ([x5.2.1.2.1] : List Int)), t11, t12, (wr .i64 (t13 + 1)), ()), (b2, ((Ce .i64 b3.1 x5.2.1.2.2.1), b3.2.1, ()), ()))))
 none)
 (cond (x5.2.1.1 == 8)
 (cond (bl (ln t4 + ln ([x5.2.1.2.1] : List Int)) Ob)
 (some (.inl (((), (), (ap t4 ([x5.2.1.2.1] : List Int)), t11, t12, (wr .i64 (t13 + 1)), ()), (b2, ((Ce .i64 b3.1 x5.2.1.2.2.1), b3.2.1, ()), ()))))
 none)
 (cond (bl (ln t4 + ln ([x5.2.1.2.1] : List Int)) Ob)
 (some (.inl (((), (), (ap t4 ([x5.2.1.2.1] : List Int)), t11, t12, (wr .i64 (t13 + 1)), ()), (b2, b3, ()))))
 none))))
 (some (.inr (.inl (((), (), t4, ()), (b2, b3, ()))))))
def Zm := Bb fun x : ((Unit × (Unit × (Xd × TB))) × Cq) => Ul x.1.1 x.1.2.1 x.1.2.2.1 x.1.2.2.2.1 x.1.2.2.2.2.1 x.1.2.2.2.2.2.1 x.2.1 x.2.2.1
def Ub (a0 : Tc) : Option Wm :=
 (ob (Pj a0) fun r1 =>
 (cond (!r1.1)
 (some ((0, [], ()), ()))
 (ob (Zm (((), (), [], a0, ((ln a0 : Nat) : Int), 0, ()), ((0, [], ()), (0, [], ()), ()))) (se (fun y6 => (ob (Qq y6.1.2.2.1) fun r8 =>
 (some ((y6.2.2.1.1, r8.1, ()), ())))) (fun z7 => none)))))
def Vl (t0 : Xd) (t1 : Xd) (t12 : Int) (t13 : Int) : Option (VO ⊕ Gu) :=
 (cond (decide (t13 < t12))
 (ob (Yb t0 t13) fun x5 =>
 (ob (Yb t1 t13) fun x6 =>
 (cond (x5 != x6)
 (some (.inr (.inr ((false, ()), ()))))
 (some (.inl ((t0, t1, t12, (wr .i64 (t13 + 1)), ()), ()))))))
 (some (.inr (.inl ((), ())))))
def Cn := Bb fun x : VO => Vl x.1.1 x.1.2.1 x.1.2.2.1 x.1.2.2.2.1
def Ys (a0 : Xd) (a1 : Xd) : Option Re :=
 (cond (((ln a0 : Nat) : Int) != ((ln a1 : Nat) : Int))
 (some (false, ()))
 (ob (Cn ((a0, a1, ((ln a0 : Nat) : Int), 0, ()), ())) (se (fun y7 => (some (true, ()))) (fun z8 => (some (z8.1.1, ()))))))
def Rk (a0 : Ga) (a1 : Ga) : Option Re :=
 (cond (a0.1 == a1.1)
 (ob (Ys a0.2.1 a1.2.1) fun r1 =>
 (some (r1.1, ())))
 (some (false, ())))
def Rf (a b : Ga) : Bool := (a.1 == b.1) && (a.2.1 == b.2.1)
def N6 (c : T Gd → T Gd → Option Bool) (a b : T Gd) : Option Re := ob (c a b) fun x => some (x, ())
def Hv (c : T Gd → T Gd → Option Bool) (t2 : Unit) (t5 : (List (Int × ((T .o) × Unit)))) (t8 : (List (Int × ((T .o) × Unit)))) (t9 : Int) (t10 : Int) (b2 : (Int × ((T .o) × Unit))) : Option (((Unit × ((List (Int × ((T .o) × Unit))) × ((List (Int × ((T .o) × Unit))) × Nd))) × ((Int × ((T .o) × Unit)) × Unit)) ⊕ ((((List (Int × ((T .o) × Unit))) × Unit) × Unit) ⊕ Ve)) :=
 (cond (decide (t10 < t9))
 (ob (Yb t8 t10) fun x7 =>
 (ob (N6 c b2 x7) fun r8 =>
 (cond (!r8.1)
 (cond (bl (ln t5 + ln ([x7] : List (Int × ((T .o) × Unit)))) Ob)
 (some (.inl (((), (ap t5 ([x7] : List (Int × ((T .o) × Unit)))), t8, t9, (wr .i64 (t10 + 1)), ()), (x7, ()))))
 none)
 (some (.inl (((), t5, t8, t9, (wr .i64 (t10 + 1)), ()), (x7, ())))))))
 (some (.inr (.inl ((t5, ()), ())))))
def Jo (c : T Gd → T Gd → Option Bool) (x : ((Unit × ((List (Int × ((T .o) × Unit))) × ((List (Int × ((T .o) × Unit))) × Nd))) × ((Int × ((T .o) × Unit)) × Unit))) : Option ((((List (Int × ((T .o) × Unit))) × Unit) × Unit) ⊕ Ve) := Bb (fun x : ((Unit × ((List (Int × ((T .o) × Unit))) × ((List (Int × ((T .o) × Unit))) × Nd))) × ((Int × ((T .o) × Unit)) × Unit)) => Hv c x.1.1 x.1.2.1 x.1.2.2.1 x.1.2.2.2.1 x.1.2.2.2.2.1 x.2.1) x
def MX (c : T Gd → T Gd → Option Bool) (a0 : (Int × ((T .o) × Unit))) (a1 : (List (Int × ((T .o) × Unit)))) : Option ((List (Int × ((T .o) × Unit))) × Unit) :=
 (ob (Jo c (((), ([] : List (Int × ((T .o) × Unit))), a1, ((ln a1 : Nat) : Int), 0, ()), (a0, ()))) (se (fun y9 => (some (y9.1.1, ()))) (fun z10 => none)))
def Gc (a0 : Ga) (a1 : List Ga) : Option Ez := LX Rf a0 a1
def Ou (a0 : Hb) (a1 : Int) : Option (Hb × Ez) :=
 (ob (Sk a0) fun r1 =>
 (ob (Dw a0 a1) fun r2 =>
 (cond (We (ln r1.1.2.2.2.1) 0 r2.1)
 (cond (We (ln r1.1.2.2.2.1) (wr .i64 (r2.1 + 1)) ((ln r1.1.2.2.2.1 : Nat) : Int))
 (cond (bl (ln (Ad r1.1.2.2.2.1 (tn 0) (tn r2.1)) + ln (Ad r1.1.2.2.2.1 (tn (wr .i64 (r2.1 + 1))) (tn ((ln r1.1.2.2.2.1 : Nat) : Int)))) Ob)
 (ob (Ub a0.2.2.2.1) fun r3 =>
 (ob (Ub (ap (Ad r1.1.2.2.2.1 (tn 0) (tn r2.1)) (Ad r1.1.2.2.2.1 (tn (wr .i64 (r2.1 + 1))) (tn ((ln r1.1.2.2.2.1 : Nat) : Int))))) fun r4 =>
 (ob (Gc r3.1 ([r4.1] : List Ga)) fun r5 =>
 (some ((r1.1.1, r1.1.2.1, r1.1.2.2.1, (ap (Ad r1.1.2.2.2.1 (tn 0) (tn r2.1)) (Ad r1.1.2.2.2.1 (tn (wr .i64 (r2.1 + 1))) (tn ((ln r1.1.2.2.2.1 : Nat) : Int)))), r1.1.2.2.2.2), r5.1, ())))))
 none)
 none)
 none)))
def Jx (t5 : Int) (t21 : Tc) (t22 : Int) (t23 : Int) : Option (VF ⊕ Q6) :=
 (cond (decide (t23 < t22))
 (ob (Yb t21 t23) fun x16 =>
 (cond (x16.2.1.1 == 3)
 (cond (decide (0 ≤ x16.2.1.2.2.2.1))
 (some (.inl (((Ce .i64 t5 (Lk .i64 1 x16.2.1.2.2.2.1)), t21, t22, (wr .i64 (t23 + 1)), ()), ())))
 none)
 (some (.inl ((t5, t21, t22, (wr .i64 (t23 + 1)), ()), ())))))
 (some (.inr (.inl ((t5, ()), ())))))
def Vg := Bb fun x : VF => Jx x.1.1 x.1.2.1 x.1.2.2.1 x.1.2.2.2.1
def Xn (a0 : Int) (a1 : Tc) : Option Kf :=
 (cond (decide (a0 ≥ 0))
 (cond (decide (a0 ≤ 15))
 (ob (Pj a1) fun r1 =>
 (cond (!r1.1)
 (some ((Ce .i64 1 a0), ()))
 (ob (Vg (((Ce .i64 1 a0), a1, ((ln a1 : Nat) : Int), 0, ()), ())) (se (fun y5 => (some (y5.1.1, ()))) (fun z6 => none)))))
 (ob (Pj a1) fun r7 =>
 (cond (!r7.1)
 (some (1, ()))
 (ob (Vg ((1, a1, ((ln a1 : Nat) : Int), 0, ()), ())) (se (fun y11 => (some (y11.1.1, ()))) (fun z12 => none))))))
 (ob (Pj a1) fun r13 =>
 (cond (!r13.1)
 (some (1, ()))
 (ob (Vg ((1, a1, ((ln a1 : Nat) : Int), 0, ()), ())) (se (fun y17 => (some (y17.1.1, ()))) (fun z18 => none))))))
def Ly (t1 : Int) (t2 : Int) (t3 : Unit) (t7 : Int) (b3 : Ea) : Option (QO ⊕ YF) :=
 (cond (decide (t7 > 0))
 (ob (Kv t1 t7) fun r7 =>
 (cond (r7.1 == 1)
 (ob (Yb b3.2.1 t7) fun x8 =>
 (ob (Yb x8 t2) fun x9 =>
 (cond (x9.1 != 1)
 (some (.inr (.inr ((t7, ()), ()))))
 (some (.inl ((t1, t2, (), (wr .i64 (t7 - 1)), ()), (b3, ())))))))
 (some (.inl ((t1, t2, (), (wr .i64 (t7 - 1)), ()), (b3, ()))))))
 (some (.inr (.inl ((), ())))))
def Xf := Bb fun x : QO => Ly x.1.1 x.1.2.1 x.1.2.2.1 x.1.2.2.2.1 x.2.1
def Sq (a0 : Ea) (a1 : Int) (a2 : Int) : Option Kf :=
 (ob (Xf ((a1, a2, (), (wr .i64 (((ln a0.2.1 : Nat) : Int) - 1)), ()), (a0, ()))) (se (fun y10 => (some (0, ()))) (fun z11 => (some (z11.1.1, ())))))
def CH (a0 : Wa) : Option Yv :=
 (ob (Em a0) fun r1 =>
 (cond (!r1.1)
 (some (a0, ()))
 (cond (a0.1 == 6)
 (some ((2, 0, a0.2.2.1, 0, ()), ()))
 (some ((3, 0, 0, a0.2.2.2.1, ()), ())))))
def Jp (a0 : Int) : Option Re :=
 (cond (decide (a0 ≥ 1))
 (cond (decide (a0 ≤ 36))
 (some (true, ()))
 (cond (a0 == 39)
 (some (true, ()))
 (some ((a0 == 42), ()))))
 (cond (a0 == 39)
 (some (true, ()))
 (some ((a0 == 42), ()))))
def Lo (a0 : Hb) (a1 : Wa) : Option (Hb × Yv) :=
 (cond (a1.1 == 2)
 (cond (a1.2.1 == 0)
 (some (a0, (a1, ())))
 (cond a0.2.2.2.2.2.1
 (ob (Jp a1.2.1) fun r1 =>
 (cond r1.1
 (cond (decide (a1.2.1 ≤ 26))
 (cond ((Zh .i64 (Ce .i64 a1.2.2.1 a0.2.2.2.2.1) 2) == 0)
 (some ((a0.1, a0.2.1, a0.2.2.1, a0.2.2.2.1, 0, r1.1, a0.2.2.2.2.2.2), ((a1.1, a1.2.1, 2, a1.2.2.2), ())))
 (some ((a0.1, a0.2.1, a0.2.2.1, a0.2.2.2.1, 0, r1.1, a0.2.2.2.2.2.2), ((a1.1, a1.2.1, (Ce .i64 a1.2.2.1 a0.2.2.2.2.1), a1.2.2.2), ()))))
 (some ((a0.1, a0.2.1, a0.2.2.1, a0.2.2.2.1, 0, r1.1, a0.2.2.2.2.2.2), ((a1.1, a1.2.1, (Ce .i64 a1.2.2.1 a0.2.2.2.2.1), a1.2.2.2), ()))))
 (some ((a0.1, a0.2.1, a0.2.2.1, a0.2.2.2.1, 0, r1.1, a0.2.2.2.2.2.2), ((a1.1, a1.2.1, (Ce .i64 a1.2.2.1 a0.2.2.2.2.1), a1.2.2.2), ())))))
 (some ((a0.1, a0.2.1, a0.2.2.1, a0.2.2.2.1, 0, false, a0.2.2.2.2.2.2), ((a1.1, a1.2.1, (Ce .i64 a1.2.2.1 a0.2.2.2.2.1), a1.2.2.2), ())))))
 (cond (a1.1 == 4)
 (cond (decide (0 ≤ a1.2.2.2.1))
 (some ((a0.1, a0.2.1, (LE .i64 a0.2.2.1 (Lk .i64 1 a1.2.2.2.1)), a0.2.2.2), (a1, ())))
 none)
 (cond (a1.1 == 5)
 (cond (decide (0 ≤ a1.2.2.2.1))
 (some ((a0.1, a0.2.1, (Zh .i64 (Lk .i64 1 a1.2.2.2.1) 1), a0.2.2.2), (a1, ())))
 none)
 (cond (a1.1 == 8)
 (cond ((Wr .i64 a0.2.2.2.2.1 a1.2.2.1) == a1.2.2.1)
 (some ((a0.1, a0.2.1, a0.2.2.1, a0.2.2.2.1, (Zh .i64 a0.2.2.2.2.1 a1.2.2.1), a0.2.2.2.2.2), (a1, ())))
 (some ((a0.1, a0.2.1, a0.2.2.1, a0.2.2.2.1, (Ce .i64 a0.2.2.2.2.1 a1.2.2.1), a0.2.2.2.2.2), (a1, ()))))
 (cond (a1.1 == 10)
 (some ((a0.1, a0.2.1, a0.2.2.1, a0.2.2.2.1, a0.2.2.2.2.1, (!a0.2.2.2.2.2.1), a0.2.2.2.2.2.2), (a1, ())))
 (some (a0, (a1, ()))))))))
def KE (t4 : Unit) (t5 : Unit) (t6 : Xd) (t15 : Nx) (t16 : Int) (t17 : Int) (b4 : Ga) (b5 : Ga) : Option (((Unit × (Unit × (Xd × NO))) × Cq) ⊕ ZW) :=
 (cond (decide (t17 < t16))
 (ob (Yb t15 t17) fun x4 =>
 (cond (bl (ln t6 + ln ([x4.1] : List Int)) Ob)
 (some (.inl (((), (), (ap t6 ([x4.1] : List Int)), t15, t16, (wr .i64 (t17 + 1)), ()), (b4, ((Ce .i64 b5.1 x4.2.1), b5.2.1, ()), ()))))
 none))
 (some (.inr (.inl (((), (), t6, ()), (b4, b5, ()))))))
def Tt := Bb fun x : ((Unit × (Unit × (Xd × NO))) × Cq) => KE x.1.1 x.1.2.1 x.1.2.2.1 x.1.2.2.2.1 x.1.2.2.2.2.1 x.1.2.2.2.2.2.1 x.2.1 x.2.2.1
def Uj (a0 : Ga) (a1 : Nx) : Option Wm :=
 (ob (Dg a0.2.1) fun r1 =>
 (ob (Tt (((), (), r1.1, a1, ((ln a1 : Nat) : Int), 0, ()), ((0, [], ()), (a0.1, [], ()), ()))) (se (fun y5 => (ob (Qq y5.1.2.2.1) fun r7 =>
 (some ((y5.2.2.1.1, r7.1, ()), ())))) (fun z6 => none))))
def CB (t5 : Unit) (t6 : Ig) (t7 : Nx) (t22 : Yi) (t23 : Int) (t24 : Int) (b5 : Ga) : Option (((Unit × (Ig × TO)) × Wm) ⊕ YW) :=
 (cond (decide (t24 < t23))
 (ob (Yb t22 t24) fun x25 =>
 (cond (x25.1 == 0)
 (cond (bl (ln ([] : List Nd) + ln t7) Ob)
 (cond (bl (ln (ap [] t7) + ln ([x25.2] : List Nd)) Ob)
 (ob (Uj b5 (ap (ap [] t7) ([x25.2] : List Nd))) fun r26 =>
 (cond (bl (ln t6 + ln ([r26.1] : List Ga)) Ob)
 (ob (Uj b5 t7) fun r27 =>
 (cond (bl (ln (ap t6 ([r26.1] : List Ga)) + ln ([r27.1] : List Ga)) Ob)
 (some (.inl (((), (ap (ap t6 ([r26.1] : List Ga)) ([r27.1] : List Ga)), t7, t22, t23, (wr .i64 (t24 + 1)), ()), (b5, ()))))
 none))
 none))
 none)
 none)
 (cond (x25.1 == 1)
 (cond (bl (ln t7 + ln ([x25.2] : List Nd)) Ob)
 (ob (Uj b5 (ap t7 ([x25.2] : List Nd))) fun r28 =>
 (cond (bl (ln t6 + ln ([r28.1] : List Ga)) Ob)
 (some (.inl (((), (ap t6 ([r28.1] : List Ga)), (ap t7 ([x25.2] : List Nd)), t22, t23, (wr .i64 (t24 + 1)), ()), (b5, ()))))
 none))
 none)
 (cond (x25.1 == 2)
 (ob (KA t7 x25.2) fun r29 =>
 (cond (We (ln t7) 0 r29.1)
 (cond (We (ln t7) (wr .i64 (r29.1 + 1)) ((ln t7 : Nat) : Int))
 (cond (bl (ln (Ad t7 (tn 0) (tn r29.1)) + ln (Ad t7 (tn (wr .i64 (r29.1 + 1))) (tn ((ln t7 : Nat) : Int)))) Ob)
 (ob (Uj b5 (ap (Ad t7 (tn 0) (tn r29.1)) (Ad t7 (tn (wr .i64 (r29.1 + 1))) (tn ((ln t7 : Nat) : Int))))) fun r30 =>
 (cond (bl (ln t6 + ln ([r30.1] : List Ga)) Ob)
 (some (.inl (((), (ap t6 ([r30.1] : List Ga)), (ap (Ad t7 (tn 0) (tn r29.1)) (Ad t7 (tn (wr .i64 (r29.1 + 1))) (tn ((ln t7 : Nat) : Int)))), t22, t23, (wr .i64 (t24 + 1)), ()), (b5, ()))))
 none))
 none)
 none)
 none))
 (ob (Uj b5 t7) fun r31 =>
 (cond (bl (ln t6 + ln ([r31.1] : List Ga)) Ob)
 (some (.inl (((), (ap t6 ([r31.1] : List Ga)), t7, t22, t23, (wr .i64 (t24 + 1)), ()), (b5, ()))))
 none))))))
 (some (.inr (.inl ((t6, ()), ())))))
def Pq := Bb fun x : ((Unit × (Ig × TO)) × Wm) => CB x.1.1 x.1.2.1 x.1.2.2.1 x.1.2.2.2.1 x.1.2.2.2.2.1 x.1.2.2.2.2.2.1 x.2.1
def Zr (a0 : Tc) (a1 : Yi) : Option Ez :=
 (ob (Pj a0) fun r1 =>
 (cond (!r1.1)
 (some ([], ()))
 (ob (GE a1) fun r2 =>
 (cond (!r2.1)
 (some ([], ()))
 (ob (Ub a0) fun r3 =>
 (ob (Pq (((), [], [], a1, ((ln a1 : Nat) : Int), 0, ()), (r3.1, ()))) (se (fun y32 => (some (y32.1.1, ()))) (fun z33 => none))))))))
def Tx (a0 : Hb) (a1 : Int) (a2 : Bool) : Option (Hb × Ez) :=
 (ob (Sk a0) fun r1 =>
 (ob (Xn a0.2.2.1 a0.2.2.2.1) fun r2 =>
 (ob (Sq a0.1 r2.1 a1) fun r3 =>
 (ob (Yb a0.1.2.1 r3.1) fun x4 =>
 (ob (Yb x4 a1) fun x5 =>
 (cond a2
 (ob (CH x5) fun r6 =>
 (ob (Lo r1.1 r6.1) fun r7 =>
 (cond (bl (ln r7.1.2.2.2.1 + ln ([(a1, r7.2.1, ())] : List Sa)) Ob)
 (cond (r7.2.1.1 == 9)
 (cond (decide (r7.2.1.2.2.2.1 < ((ln a0.2.1 : Nat) : Int)))
 (ob (Yb a0.2.1 r7.2.1.2.2.2.1) fun x8 =>
 (ob (Zr (ap r7.1.2.2.2.1 ([(a1, r7.2.1, ())] : List Sa)) x8) fun r9 =>
 (ob (Ub (ap r7.1.2.2.2.1 ([(a1, r7.2.1, ())] : List Sa))) fun r10 =>
 (cond (bl (ln r9.1 + ln ([r10.1] : List Ga)) Ob)
 (ob (Ub a0.2.2.2.1) fun r11 =>
 (ob (Gc r11.1 (ap r9.1 ([r10.1] : List Ga))) fun r12 =>
 (some ((r7.1.1, r7.1.2.1, r7.1.2.2.1, (ap r7.1.2.2.2.1 ([(a1, r7.2.1, ())] : List Sa)), r7.1.2.2.2.2), r12.1, ()))))
 none))))
 (ob (Ub (ap r7.1.2.2.2.1 ([(a1, r7.2.1, ())] : List Sa))) fun r13 =>
 (cond (bl (ln ([] : List Ga) + ln ([r13.1] : List Ga)) Ob)
 (ob (Ub a0.2.2.2.1) fun r14 =>
 (ob (Gc r14.1 (ap [] ([r13.1] : List Ga))) fun r15 =>
 (some ((r7.1.1, r7.1.2.1, r7.1.2.2.1, (ap r7.1.2.2.2.1 ([(a1, r7.2.1, ())] : List Sa)), r7.1.2.2.2.2), r15.1, ()))))
 none)))
 (ob (Ub (ap r7.1.2.2.2.1 ([(a1, r7.2.1, ())] : List Sa))) fun r16 =>
 (cond (bl (ln ([] : List Ga) + ln ([r16.1] : List Ga)) Ob)
 (ob (Ub a0.2.2.2.1) fun r17 =>
 (ob (Gc r17.1 (ap [] ([r16.1] : List Ga))) fun r18 =>
 (some ((r7.1.1, r7.1.2.1, r7.1.2.2.1, (ap r7.1.2.2.2.1 ([(a1, r7.2.1, ())] : List Sa)), r7.1.2.2.2.2), r18.1, ()))))
 none)))
 none)))
 (ob (Sx x5) fun r19 =>
 (ob (Lo r1.1 r19.1) fun r20 =>
 (cond (bl (ln r20.1.2.2.2.1 + ln ([(a1, r20.2.1, ())] : List Sa)) Ob)
 (cond (r20.2.1.1 == 9)
 (cond (decide (r20.2.1.2.2.2.1 < ((ln a0.2.1 : Nat) : Int)))
 (ob (Yb a0.2.1 r20.2.1.2.2.2.1) fun x21 =>
 (ob (Zr (ap r20.1.2.2.2.1 ([(a1, r20.2.1, ())] : List Sa)) x21) fun r22 =>
 (ob (Ub (ap r20.1.2.2.2.1 ([(a1, r20.2.1, ())] : List Sa))) fun r23 =>
 (cond (bl (ln r22.1 + ln ([r23.1] : List Ga)) Ob)
 (ob (Ub a0.2.2.2.1) fun r24 =>
 (ob (Gc r24.1 (ap r22.1 ([r23.1] : List Ga))) fun r25 =>
 (some ((r20.1.1, r20.1.2.1, r20.1.2.2.1, (ap r20.1.2.2.2.1 ([(a1, r20.2.1, ())] : List Sa)), r20.1.2.2.2.2), r25.1, ()))))
 none))))
 (ob (Ub (ap r20.1.2.2.2.1 ([(a1, r20.2.1, ())] : List Sa))) fun r26 =>
 (cond (bl (ln ([] : List Ga) + ln ([r26.1] : List Ga)) Ob)
 (ob (Ub a0.2.2.2.1) fun r27 =>
 (ob (Gc r27.1 (ap [] ([r26.1] : List Ga))) fun r28 =>
 (some ((r20.1.1, r20.1.2.1, r20.1.2.2.1, (ap r20.1.2.2.2.1 ([(a1, r20.2.1, ())] : List Sa)), r20.1.2.2.2.2), r28.1, ()))))
 none)))
 (ob (Ub (ap r20.1.2.2.2.1 ([(a1, r20.2.1, ())] : List Sa))) fun r29 =>
 (cond (bl (ln ([] : List Ga) + ln ([r29.1] : List Ga)) Ob)
 (ob (Ub a0.2.2.2.1) fun r30 =>
 (ob (Gc r30.1 (ap [] ([r29.1] : List Ga))) fun r31 =>
 (some ((r20.1.1, r20.1.2.1, r20.1.2.2.1, (ap r20.1.2.2.2.1 ([(a1, r20.2.1, ())] : List Sa)), r20.1.2.2.2.2), r31.1, ()))))
 none)))
 none)))))))))
def Tl (t1 : Unit) (t14 : Xd) (t15 : Int) (t16 : Int) (b1 : Ga) : Option (((Unit × Wv) × Wm) ⊕ Gu) :=
 (cond (decide (t16 < t15))
 (ob (Yb t14 t16) fun x7 =>
 (ob (Hl x7) fun r8 =>
 (cond (!r8.1)
 (some (.inr (.inr ((false, ()), ()))))
 (cond (decide (t16 > 0))
 (ob (Yb b1.2.1 (wr .i64 (t16 - 1))) fun x9 =>
 (cond (decide (x9 ≥ x7))
 (some (.inr (.inr ((false, ()), ()))))
 (some (.inl (((), t14, t15, (wr .i64 (t16 + 1)), ()), (b1, ()))))))
 (some (.inl (((), t14, t15, (wr .i64 (t16 + 1)), ()), (b1, ()))))))))
 (some (.inr (.inl ((), ())))))
def Ym := Bb fun x : ((Unit × Wv) × Wm) => Tl x.1.1 x.1.2.1 x.1.2.2.1 x.1.2.2.2.1 x.2.1
def Ws (a0 : Ga) : Option Re :=
 (cond (decide (a0.1 < 0))
 (some (false, ()))
 (cond (decide (a0.1 > 15))
 (some (false, ()))
 (ob (Ym (((), a0.2.1, ((ln a0.2.1 : Nat) : Int), 0, ()), (a0, ()))) (se (fun y10 => (some (true, ()))) (fun z11 => (some (z11.1.1, ())))))))
def JH (a0 : Wa) : Option Yv :=
 (ob (Vj a0) fun r1 =>
 (cond (!r1.1)
 (some (a0, ()))
 (cond (a0.1 == 6)
 (some ((2, 0, a0.2.2.1, 0, ()), ()))
 (some ((3, 0, 0, a0.2.2.2.1, ()), ())))))
def Xy (t1 : Int) (t2 : Int) (t3 : Unit) (t7 : Int) (b3 : Ea) : Option (QO ⊕ YF) :=
 (cond (decide (t7 > 0))
 (cond (decide (0 ≤ t7))
 (cond ((Wr .i64 (KC .i64 t1 t7) 1) == 1)
 (ob (Yb b3.2.1 t7) fun x7 =>
 (ob (Yb x7 t2) fun x8 =>
 (cond (x8.1 != 1)
 (some (.inr (.inr ((t7, ()), ()))))
 (some (.inl ((t1, t2, (), (wr .i64 (t7 - 1)), ()), (b3, ())))))))
 (some (.inl ((t1, t2, (), (wr .i64 (t7 - 1)), ()), (b3, ())))))
 none)
 (some (.inr (.inl ((), ())))))
def Yf := Bb fun x : QO => Xy x.1.1 x.1.2.1 x.1.2.2.1 x.1.2.2.2.1 x.2.1
def Xu (a0 : Ea) (a1 : Int) (a2 : Int) : Option Kf :=
 (ob (Fo a0) fun r1 =>
 (cond (!r1.1)
 (some ((-1), ()))
 (ob (Ke a2 0 (wr .i64 (a0.1 - 1))) fun r2 =>
 (cond (!r2.1)
 (some ((-1), ()))
 (ob (Yf ((a1, a2, (), (wr .i64 (((ln a0.2.1 : Nat) : Int) - 1)), ()), (a0, ()))) (se (fun y9 => (some (0, ()))) (fun z10 => (some (z10.1.1, ())))))))))
def Eo (a0 : Ea) (a1 : Int) (a2 : Int) : Option Yv :=
 (ob (Xu a0 a1 a2) fun r1 =>
 (cond (decide (r1.1 < 0))
 (some ((0, 0, 0, 0, ()), ()))
 (ob (Yb a0.2.1 r1.1) fun x2 =>
 (ob (Yb x2 a2) fun x3 =>
 (some (x3, ()))))))
def Gj (t0 : Ei) (t1 : Int) (t5 : Int) : Option (UO ⊕ (((Ei × Kf) × Unit) ⊕ Ve)) :=
 (cond (decide (t5 < ((ln t0 : Nat) : Int)))
 (cond (Ui (ln t0) t5)
 (ob t0[(tn t5)]? fun x9 =>
 (cond (Ui (ln (ls t0 (tn t5) (t1, x9.2))) t5)
 (ob (ls t0 (tn t5) (t1, x9.2))[(tn t5)]? fun x10 =>
 (cond (Ui (ln (ls (ls t0 (tn t5) (t1, x9.2)) (tn t5) (x10.1, (wr .i64 (t1 + 1)), x10.2.2))) t5)
 (ob (ls (ls t0 (tn t5) (t1, x9.2)) (tn t5) (x10.1, (wr .i64 (t1 + 1)), x10.2.2))[(tn t5)]? fun x11 =>
 (cond (Ui (ln (ls (ls (ls t0 (tn t5) (t1, x9.2)) (tn t5) (x10.1, (wr .i64 (t1 + 1)), x10.2.2)) (tn t5) (x11.1, x11.2.1, (wr .i64 ((wr .i64 (t1 + 1)) + 1)), x11.2.2.2))) t5)
 (ob (ls (ls (ls t0 (tn t5) (t1, x9.2)) (tn t5) (x10.1, (wr .i64 (t1 + 1)), x10.2.2)) (tn t5) (x11.1, x11.2.1, (wr .i64 ((wr .i64 (t1 + 1)) + 1)), x11.2.2.2))[(tn t5)]? fun x12 =>
 (some (.inl (((ls (ls (ls (ls t0 (tn t5) (t1, x9.2)) (tn t5) (x10.1, (wr .i64 (t1 + 1)), x10.2.2)) (tn t5) (x11.1, x11.2.1, (wr .i64 ((wr .i64 (t1 + 1)) + 1)), x11.2.2.2)) (tn t5) (x12.1, x12.2.1, x12.2.2.1, (wr .i64 ((wr .i64 ((wr .i64 (t1 + 1)) + 1)) + 1)), x12.2.2.2.2)), (wr .i64 ((wr .i64 ((wr .i64 ((wr .i64 (t1 + 1)) + 1)) + 1)) + 1)), (wr .i64 (t5 + 1)), ()), ()))))
 none))
 none))
 none))
 none)
 (some (.inr (.inl ((t0, t1, ()), ())))))
def Sr := Bb fun x : UO => Gj x.1.1 x.1.2.1 x.1.2.2.1
def Jt (a0 : Ei) (a1 : Int) : Option (Ei × Kf) :=
 (ob (Sr ((a0, a1, 0, ()), ())) (se (fun y13 => (some (y13.1.1, (y13.1.2.1, ())))) (fun z14 => none)))
def Oi (t0 : Bg) (t1 : Int) (t5 : Int) : Option ((Fu × Unit) ⊕ (((Bg × Kf) × Unit) ⊕ Ve)) :=
 (cond (decide (t5 < ((ln t0 : Nat) : Int)))
 (cond (Ui (ln t0) t5)
 (ob t0[(tn t5)]? fun x5 =>
 (ob (Jt x5 t1) fun r6 =>
 (some (.inl (((ls t0 (tn t5) r6.1), r6.2.1, (wr .i64 (t5 + 1)), ()), ())))))
 none)
 (some (.inr (.inl ((t0, t1, ()), ())))))
def Uq := Bb fun x : (Fu × Unit) => Oi x.1.1 x.1.2.1 x.1.2.2.1
def As (a0 : Bg) (a1 : Int) : Option (Bg × Kf) :=
 (ob (Uq ((a0, a1, 0, ()), ())) (se (fun y7 => (some (y7.1.1, (y7.1.2.1, ())))) (fun z8 => none)))
def Tk (a0 : Ea) (a1 : Int) : Option (Ea × Kf) :=
 (ob (As a0.2.1 a1) fun r1 =>
 (some ((a0.1, r1.1, ()), (r1.2.1, ()))))
def Yp (t1 : Unit) (t2 : Unit) (t3 : Unit) (t4 : Int) (b1 : Ea) (b2 : Ea) (b3 : Ea) : Option (((Unit × Qx) × (Ea × ZF)) ⊕ (((Unit × Ve) × ZF) ⊕ Ve)) :=
 (cond (decide (t4 < ((ln b1.2.1 : Nat) : Int)))
 (ob (Yb b1.2.1 t4) fun x4 =>
 (cond (bl (ln ([] : List Wa) + ln x4) Ob)
 (cond (bl (ln b3.2.1 + ln ([(ap [] x4)] : List Ei)) Ob)
 (some (.inl (((), (), (), (wr .i64 (t4 + 1)), ()), (b1, b2, (b3.1, (ap b3.2.1 ([(ap [] x4)] : List Ei)), ()), ()))))
 none)
 none))
 (some (.inr (.inl (((), (), ()), (b2, b3, ()))))))
def Cr := Bb fun x : ((Unit × Qx) × (Ea × ZF)) => Yp x.1.1 x.1.2.1 x.1.2.2.1 x.1.2.2.2.1 x.2.1 x.2.2.1 x.2.2.2.1
def Gw (a0 : Ea) : Option Xm :=
 (ob (Cr (((), (), (), 0, ()), (a0, (0, [], ()), (a0.1, [], ()), ()))) (se (fun y5 => (some (y5.2.2.1, ()))) (fun z6 => none)))
def Xo (t0 : Int) (t3 : Et) (t12 : Dz) (t13 : Int) (t14 : Int) : Option (((Int × (Et × (Dz × Nd))) × Unit) ⊕ ((CJ × Unit) ⊕ Ve)) :=
 (cond (decide (t14 < t13))
 (cond (Ui (ln t12) t14)
 (ob t12[(tn t14)]? fun x5 =>
 (ob (Kv t0 t14) fun r6 =>
 (cond (r6.1 == 1)
 (cond (bl (ln t3 + ln x5) Ob)
 (some (.inl ((t0, (ap t3 x5), t12, t13, (wr .i64 (t14 + 1)), ()), ())))
 none)
 (some (.inl ((t0, t3, t12, t13, (wr .i64 (t14 + 1)), ()), ()))))))
 none)
 (some (.inr (.inl ((t3, ()), ())))))
def Dl := Bb fun x : ((Int × (Et × (Dz × Nd))) × Unit) => Xo x.1.1 x.1.2.1 x.1.2.2.1 x.1.2.2.2.1 x.1.2.2.2.2.1
def Gp (a0 : Int) : Option CJ :=
 (cond (decide (a0 < 1))
 (some ([], ()))
 (cond (decide (a0 > 15))
 (some ([], ()))
 (ob (Dl ((a0, [], ([([67] : List UInt8), ([83] : List UInt8), ([65] : List UInt8), ([71] : List UInt8)] : List Et), ((ln ([([67] : List UInt8), ([83] : List UInt8), ([65] : List UInt8), ([71] : List UInt8)] : List Et) : Nat) : Int), 0, ()), ())) (se (fun y7 => (some (y7.1.1, ()))) (fun z8 => none)))))
def strings_Join (a : List Et) (b : List UInt8) : Option (List UInt8 × Unit) := DP a b
def Xs (a0 : Dz) (a1 : Et) : Option CJ :=
 (ob (strings_Join a0 a1) fun r1 =>
 (some (r1.1, ())))
def Ki (t1 : Unit) (t3 : Dz) (t10 : Xd) (t11 : Int) (t12 : Int) (b1 : Ga) : Option (((Unit × (Dz × Wv)) × Wm) ⊕ (((Unit × Qag) × Wm) ⊕ Ve)) :=
 (cond (decide (t12 < t11))
 (ob (Yb t10 t12) fun x8 =>
 (ob (Vs x8) fun r9 =>
 (cond (bl (ln t3 + ln ([r9.1] : List Et)) Ob)
 (some (.inl (((), (ap t3 ([r9.1] : List Et)), t10, t11, (wr .i64 (t12 + 1)), ()), (b1, ()))))
 none)))
 (some (.inr (.inl (((), t3, ()), (b1, ()))))))
def Zj := Bb fun x : ((Unit × (Dz × Wv)) × Wm) => Ki x.1.1 x.1.2.1 x.1.2.2.1 x.1.2.2.2.1 x.1.2.2.2.2.1 x.2.1
def Sl (a0 : Ga) : Option CJ :=
 (ob (Ws a0) fun r1 =>
 (cond (!r1.1)
 (some ([], ()))
 (ob (Zj (((), [], a0.2.1, ((ln a0.2.1 : Nat) : Int), 0, ()), (a0, ()))) (se (fun y10 => (ob (Gp y10.2.1.1) fun r12 =>
 (cond (bl (ln r12.1 + ln ([58] : List UInt8)) Ob)
 (ob (Xs y10.1.2.1 ([44] : List UInt8)) fun r13 =>
 (cond (bl (ln (ap r12.1 ([58] : List UInt8)) + ln r13.1) Ob)
 (some ((ap (ap r12.1 ([58] : List UInt8)) r13.1), ()))
 none))
 none))) (fun z11 => none)))))
def Li (t0 : Unit) (t3 : Unit) (t7 : Unit) (t8 : Rl) (t12 : Unit) (t14 : Et) (t43 : Int) (t44 : Int) (t61 : Ig) (t62 : Int) (t63 : Int) (b500000 : So) (b3 : Fd) (b7 : Hb) (b12 : Hb) : Option (R6 ⊕ (((Unit × (Unit × (Unit × (Rl × (Unit × (Et × Nd)))))) × (So × (Fd × Xv))) ⊕ Ve)) :=
 (cond (decide (t63 < t62))
 (cond (Ui (ln t61) t63)
 (ob t61[(tn t63)]? fun x37 =>
 (ob (Sl x37) fun r38 =>
 (cond (bl (ln r38.1 + ln ([59] : List UInt8)) Ob)
 (cond (bl (ln t14 + ln (ap r38.1 ([59] : List UInt8))) Ob)
 (some (.inl (((), (), (), t8, (), (ap t14 (ap r38.1 ([59] : List UInt8))), t43, t44, (ls t61 (tn t63) x37), t62, (wr .i64 (t63 + 1)), ()), ((b500000.1, b500000.2.1, ()), b3, b7, ((b12.1.1, b12.1.2.1, ()), b12.2), ()))))
 none)
 none)))
 none)
 (some (.inr (.inl (((), (), (), t8, (), t14, t43, t44, ()), ((b500000.1, b500000.2.1, ()), b3, b7, ((b12.1.1, b12.1.2.1, ()), b12.2), ()))))))
def Wg := Bb fun x : R6 => Li x.1.1 x.1.2.1 x.1.2.2.1 x.1.2.2.2.1 x.1.2.2.2.2.1 x.1.2.2.2.2.2.1 x.1.2.2.2.2.2.2.1 x.1.2.2.2.2.2.2.2.1 x.1.2.2.2.2.2.2.2.2.1 x.1.2.2.2.2.2.2.2.2.2.1 x.1.2.2.2.2.2.2.2.2.2.2.1 x.2.1 x.2.2.1 x.2.2.2.1 x.2.2.2.2.1
def Dj (t0 : Unit) (t3 : Unit) (t7 : Unit) (t8 : Rl) (t43 : Int) (t44 : Int) (b500000 : So) (b3 : Fd) (b7 : Hb) : Option (U6 ⊕ (((Unit × (Unit × (Rl × Unit))) × (So × (Fd × Unit))) ⊕ Ve)) :=
 (cond (decide (t44 < t43))
 (ob (Tx b7 t44 false) fun r31 =>
 (ob (Ou r31.1 t44) fun r32 =>
 (cond (bl (ln r31.2.1 + ln r32.2.1) Ob)
 (ob (Wg (((), (), (), t8, (), [], t43, t44, (ap r31.2.1 r32.2.1), ((ln (ap r31.2.1 r32.2.1) : Nat) : Int), 0, ()), ((b500000.1, b500000.2.1, ()), b3, b7, r32.1, ()))) (se (fun y39 => (cond (bl (ln y39.1.2.2.2.1 + ln ([((y39.2.2.2.2.1.2.2.1, y39.2.2.2.2.1.2.2.2.2.1, y39.2.2.2.2.1.2.2.2.2.2.1, ()), y39.1.2.2.2.2.2.1, ())] : List Cm)) Ob)
 (some (.inl (((), (), (), (ap y39.1.2.2.2.1 ([((y39.2.2.2.2.1.2.2.1, y39.2.2.2.2.1.2.2.2.2.1, y39.2.2.2.2.1.2.2.2.2.2.1, ()), y39.1.2.2.2.2.2.1, ())] : List Cm)), y39.1.2.2.2.2.2.2.1, (wr .i64 (y39.1.2.2.2.2.2.2.2.1 + 1)), ()), ((y39.2.1.1, y39.2.1.2.1, ()), y39.2.2.1, y39.2.2.2.1, ()))))
 none)) (fun z40 => (some (.inr (.inr ((), ())))))))
 none)))
 (some (.inr (.inl (((), (), t8, ()), ((b500000.1, b500000.2.1, ()), b3, ()))))))
def Kk := Bb fun x : U6 => Dj x.1.1 x.1.2.1 x.1.2.2.1 x.1.2.2.2.1 x.1.2.2.2.2.1 x.1.2.2.2.2.2.1 x.2.1 x.2.2.1 x.2.2.2.1
def Ak (a0 : Ea) (a1 : DJ) (a2 : Fd) : Option (Ea × (DJ × Rl)) :=
 (cond (Td Pc a1 a2).isSome
 (some (a0, (a1, ((Td Pc a1 a2).getD []))))
 (ob (Kk (((), (), (), [], a0.1, 0, ()), ((a0, a1, ()), a2, (a0, [], a2.1, [], a2.2.1, a2.2.2.1, ()), ()))) (se (fun y41 => (some (y41.2.1.1, ((Bi Pc y41.2.1.2.1 y41.2.2.1 y41.1.2.2.1), y41.1.2.2.1)))) (fun z42 => none))))
def Ag (t2 : Unit) (t6 : Unit) (t7 : Unit) (t8 : UB) (t9 : (List Nc)) (t10 : Unit) (t11 : Rl) (t12 : Rl) (t64 : Int) (t65 : Int) (b2 : Ea) (b6 : So) (b7 : So) (b10 : Nc) : Option (MO ⊕ (((Unit × (Unit × (Unit × (UB × ((List Nc) × (Unit × (Rl × (Rl × Unit)))))))) × (Ea × (So × (So × (Nc × Unit))))) ⊕ XO)) :=
 (cond (decide (t65 < t64))
 (ob (Yb t11 t65) fun x62 =>
 (ob (Yb t12 t65) fun x63 =>
 (cond (x62.2.1 != x63.2.1)
 (ob (Dg ((Td Qd t8 b10).getD [])) fun r64 =>
 (cond (bl (ln r64.1 + ln ([t65] : List Int)) Ob)
 (some (.inr (.inr (((ap r64.1 ([t65] : List Int)), true, ()), ()))))
 none))
 (some (.inl (((), (), (), t8, t9, (), t11, t12, t64, (wr .i64 (t65 + 1)), ()), (b2, (b6.1, b6.2.1, ()), (b7.1, b7.2.1, ()), b10, ())))))))
 (some (.inr (.inl (((), (), (), t8, t9, (), t11, t12, ()), (b2, (b6.1, b6.2.1, ()), (b7.1, b7.2.1, ()), b10, ()))))))
def Ng := Bb fun x : MO => Ag x.1.1 x.1.2.1 x.1.2.2.1 x.1.2.2.2.1 x.1.2.2.2.2.1 x.1.2.2.2.2.2.1 x.1.2.2.2.2.2.2.1 x.1.2.2.2.2.2.2.2.1 x.1.2.2.2.2.2.2.2.2.1 x.1.2.2.2.2.2.2.2.2.2.1 x.2.1 x.2.2.1 x.2.2.2.1 x.2.2.2.2.1
def Ai (t2 : Unit) (t6 : Unit) (t7 : Unit) (t8 : UB) (t9 : (List Nc)) (t10 : Unit) (t11 : Rl) (t12 : Rl) (t88 : Int) (t89 : Int) (b2 : Ea) (b6 : So) (b7 : So) (b10 : Nc) : Option (MO ⊕ (VW ⊕ Ve)) :=
 (cond (decide (t89 < t88))
 (ob (Yb t11 t89) fun x73 =>
 (ob (Yb t12 t89) fun x74 =>
 (cond (!(Td Qd t8 (x73.1, x74.1, ())).isSome)
 (ob (Dg ((Td Qd t8 b10).getD [])) fun r75 =>
 (cond (bl (ln r75.1 + ln ([t89] : List Int)) Ob)
 (cond (bl (ln t9 + ln ([(x73.1, x74.1, ())] : List Nc)) Ob)
 (some (.inl (((), (), (), (Bi Qd t8 (x73.1, x74.1, ()) (ap r75.1 ([t89] : List Int))), (ap t9 ([(x73.1, x74.1, ())] : List Nc)), (), t11, t12, t88, (wr .i64 (t89 + 1)), ()), (b2, (b6.1, b6.2.1, ()), (b7.1, b7.2.1, ()), b10, ()))))
 none)
 none))
 (some (.inl (((), (), (), t8, t9, (), t11, t12, t88, (wr .i64 (t89 + 1)), ()), (b2, (b6.1, b6.2.1, ()), (b7.1, b7.2.1, ()), b10, ())))))))
 (some (.inr (.inl (((), (), (), t8, t9, ()), (b2, (b6.1, b6.2.1, ()), (b7.1, b7.2.1, ()), ()))))))
def Og := Bb fun x : MO => Ai x.1.1 x.1.2.1 x.1.2.2.1 x.1.2.2.2.1 x.1.2.2.2.2.1 x.1.2.2.2.2.2.1 x.1.2.2.2.2.2.2.1 x.1.2.2.2.2.2.2.2.1 x.1.2.2.2.2.2.2.2.2.1 x.1.2.2.2.2.2.2.2.2.2.1 x.2.1 x.2.2.1 x.2.2.2.1 x.2.2.2.2.1
def Ji (t2 : Unit) (t6 : Unit) (t7 : Unit) (t8 : UB) (t9 : (List Nc)) (b2 : Ea) (b6 : So) (b7 : So) : Option (VW ⊕ (Ve ⊕ XO)) :=
 (cond (decide (((ln t9 : Nat) : Int) > 0))
 (cond (Ui (ln t9) 0)
 (ob t9[(tn 0)]? fun x53 =>
 (cond (We (ln t9) 1 ((ln t9 : Nat) : Int))
 (ob (Ak b6.1 b6.2.1 x53.1) fun r54 =>
 (ob (Ak b7.1 b7.2.1 x53.2.1) fun r55 =>
 (ob (Ng (((), (), (), t8, (Ad t9 (tn 1) (tn ((ln t9 : Nat) : Int))), (), r54.2.2, r55.2.2, b2.1, 0, ()), (b2, (r54.1, r54.2.1, ()), (r55.1, r55.2.1, ()), x53, ()))) (se (fun y65 => (ob (Og (((), (), (), y65.1.2.2.2.1, y65.1.2.2.2.2.1, (), y65.1.2.2.2.2.2.2.1, y65.1.2.2.2.2.2.2.2.1, y65.2.1.1, 0, ()), (y65.2.1, (y65.2.2.1.1, y65.2.2.1.2.1, ()), (y65.2.2.2.1.1, y65.2.2.2.1.2.1, ()), y65.2.2.2.2.1, ()))) (se (fun y76 => (some (.inl (((), (), (), y76.1.2.2.2.1, y76.1.2.2.2.2.1, ()), (y76.2.1, (y76.2.2.1.1, y76.2.2.1.2.1, ()), (y76.2.2.2.1.1, y76.2.2.2.1.2.1, ()), ()))))) (fun z77 => none)))) (fun z66 => (some (.inr (.inr ((z66.1.1, z66.1.2.1, ()), ())))))))))
 none))
 none)
 (some (.inr (.inl ((), ())))))
def Oe := Bb fun x : VW => Ji x.1.1 x.1.2.1 x.1.2.2.1 x.1.2.2.2.1 x.1.2.2.2.2.1 x.2.1 x.2.2.1 x.2.2.2.1
def Ch (a0 : Ea) (a1 : Ea) : Option (Xd × Re) :=
 (ob (Wn a0) fun r1 =>
 (cond (!r1.1)
 (some ([], false, ()))
 (ob (Wn a1) fun r2 =>
 (cond (!r2.1)
 (some ([], false, ()))
 (cond (a0.1 != a1.1)
 (some ([], false, ()))
 (cond (decide (a0.1 > 6))
 (some ([], false, ()))
 (ob (Oe (((), (), (), (Bi Qd ([] : UB) ((0, 0, false, ()), (0, 0, false, ()), ()) []), ([((0, 0, false, ()), (0, 0, false, ()), ())] : List Nc), ()), (a0, (a0, ([] : DJ), ()), (a1, ([] : DJ), ()), ()))) (se (fun y78 => (some ([], false, ()))) (fun z79 => (some (z79.1.1, z79.1.2.1, ())))))))))))
def Vp (t0 : Tc) (t3 : Int) (t4 : Int) : Option ((TB × Unit) ⊕ Gu) :=
 (cond (decide (t4 < ((ln t0 : Nat) : Int)))
 (ob (Yb t0 t4) fun x15 =>
 (ob (Yb t0 t4) fun x16 =>
 (ob (Ke x16.1 0 31) fun r17 =>
 (cond (!r17.1)
 (some (.inr (.inr ((false, ()), ()))))
 (ob (Yb t0 t4) fun x18 =>
 (cond (decide (0 ≤ x18.1))
 (cond ((Wr .i64 (KC .i64 t3 x18.1) 1) == 1)
 (some (.inr (.inr ((false, ()), ()))))
 (ob (Ih x15.2.1) fun r19 =>
 (cond (!r19.1)
 (some (.inr (.inr ((false, ()), ()))))
 (cond (x15.2.1.1 == 1)
 (some (.inr (.inr ((false, ()), ()))))
 (ob (Vj x15.2.1) fun r20 =>
 (cond r20.1
 (some (.inr (.inr ((false, ()), ()))))
 (ob (Yb t0 t4) fun x21 =>
 (cond (decide (0 ≤ x21.1))
 (some (.inl ((t0, (Ce .i64 t3 (Lk .i64 1 x21.1)), (wr .i64 (t4 + 1)), ()), ())))
 none))))))))
 none))))))
 (some (.inr (.inl ((), ())))))
def Zq := Bb fun x : (TB × Unit) => Vp x.1.1 x.1.2.1 x.1.2.2.1
def Nl (a0 : Tc) : Option Re :=
 (ob (Zq ((a0, 0, 0, ()), ())) (se (fun y22 => (some (true, ()))) (fun z23 => (some (z23.1.1, ())))))
def Zp (t0 : Tc) (t3 : Unit) (t5 : Int) (b3 : Fe) : Option (((Tc × Vm) × (Fe × Unit)) ⊕ YF) :=
 (cond (decide (t5 < ((ln t0 : Nat) : Int)))
 (ob (Yb t0 t5) fun x5 =>
 (cond (x5.2.1.2.1 == b3.2.1)
 (ob (Yb t0 t5) fun x6 =>
 (cond (x6.2.1.2.2.1 == b3.2.2.1)
 (some (.inr (.inr ((t5, ()), ()))))
 (some (.inl ((t0, (), (wr .i64 (t5 + 1)), ()), (b3, ()))))))
 (some (.inl ((t0, (), (wr .i64 (t5 + 1)), ()), (b3, ()))))))
 (some (.inr (.inl ((), ())))))
def Dr := Bb fun x : ((Tc × Vm) × (Fe × Unit)) => Zp x.1.1 x.1.2.1 x.1.2.2.1 x.2.1
def Oo (a0 : Tc) (a1 : Fe) : Option Kf :=
 (ob (Dr ((a0, (), 0, ()), (a1, ()))) (se (fun y7 => (some ((-1), ()))) (fun z8 => (some (z8.1.1, ())))))
def Io (a0 : Fe) : Option Yv :=
 (some ((2, a0.2.1, a0.2.2.1, 0, ()), ()))
def Ff (a0 : Tc) (a1 : Int) : Option (Tc × Unit) :=
 (cond (We (ln a0) 0 a1)
 (cond (bl (ln ([] : List Sa) + ln (Ad a0 (tn 0) (tn a1))) Ob)
 (cond (We (ln a0) (wr .i64 (a1 + 1)) ((ln a0 : Nat) : Int))
 (cond (bl (ln (ap [] (Ad a0 (tn 0) (tn a1))) + ln (Ad a0 (tn (wr .i64 (a1 + 1))) (tn ((ln a0 : Nat) : Int)))) Ob)
 (some ((ap (ap [] (Ad a0 (tn 0) (tn a1))) (Ad a0 (tn (wr .i64 (a1 + 1))) (tn ((ln a0 : Nat) : Int)))), ()))
 none)
 none)
 none)
 none)
def Fk (t0 : Yi) (t3 : Tc) (t4 : Int) : Option (((Yi × (Tc × Kf)) × Unit) ⊕ (((Yi × (Tc × Unit)) × Unit) ⊕ Ox)) :=
 (cond (decide (t4 < ((ln t0 : Nat) : Int)))
 (ob (Yb t0 t4) fun x15 =>
 (ob (Oo t3 x15) fun r16 =>
 (ob (Ke x15.1 0 2) fun r17 =>
 (cond (!r17.1)
 (some (.inr (.inr ((false, ()), ()))))
 (ob (Io x15) fun r18 =>
 (ob (Ih r18.1) fun r19 =>
 (cond (!r19.1)
 (some (.inr (.inr ((false, ()), ()))))
 (cond ((x15.1 == 2) != (decide (r16.1 ≥ 0)))
 (some (.inr (.inr ((false, ()), ()))))
 (cond (x15.1 == 1)
 (ob (Io x15) fun r20 =>
 (cond (bl (ln t3 + ln ([(0, r20.1, ())] : List Sa)) Ob)
 (some (.inl ((t0, (ap t3 ([(0, r20.1, ())] : List Sa)), (wr .i64 (t4 + 1)), ()), ())))
 none))
 (cond (x15.1 == 2)
 (ob (Ff t3 r16.1) fun r21 =>
 (some (.inl ((t0, r21.1, (wr .i64 (t4 + 1)), ()), ()))))
 (some (.inl ((t0, t3, (wr .i64 (t4 + 1)), ()), ())))))))))))))
 (some (.inr (.inl ((t0, t3, ()), ())))))
def Zo := Bb fun x : ((Yi × (Tc × Kf)) × Unit) => Fk x.1.1 x.1.2.1 x.1.2.2.1
def Ar (a0 : Yi) : Option Re :=
 (ob (Zo ((a0, [], 0, ()), ())) (se (fun y22 => (cond (decide (((ln y22.1.1 : Nat) : Int) ≤ 8))
 (some ((((ln y22.1.2.1 : Nat) : Int) == 0), ()))
 (some (false, ())))) (fun z23 => (some (z23.1.1, ())))))
def Yl (t1 : Unit) (t3 : Int) (b1 : Hb) : Option ((Vm × Jr) ⊕ ((Ve × Jr) ⊕ Ox)) :=
 (cond (decide (t3 < ((ln b1.2.1 : Nat) : Int)))
 (ob (Yb b1.2.1 t3) fun x7 =>
 (ob (Ar x7) fun r8 =>
 (cond (!r8.1)
 (some (.inr (.inr ((false, ()), ()))))
 (some (.inl (((), (wr .i64 (t3 + 1)), ()), (b1, ())))))))
 (some (.inr (.inl (((), ()), (b1, ()))))))
def Hj := Bb fun x : (Vm × Jr) => Yl x.1.1 x.1.2.1 x.2.1
def Zl (t1 : Unit) (t4 : Int) (b1 : Hb) : Option ((Vm × Jr) ⊕ ((Ve × Jr) ⊕ Ox)) :=
 (cond (decide (t4 < ((ln b1.2.2.2.1 : Nat) : Int)))
 (ob (Yb b1.2.2.2.1 t4) fun x17 =>
 (cond (decide (x17.1 ≥ b1.1.1))
 (some (.inr (.inr ((false, ()), ()))))
 (ob (Yb b1.2.2.2.1 t4) fun x18 =>
 (cond (x18.2.1.1 != 9)
 (ob (Yb b1.2.2.2.1 t4) fun x19 =>
 (cond (decide (x19.2.1.2.2.2.1 ≥ ((ln b1.1.2.1 : Nat) : Int)))
 (some (.inr (.inr ((false, ()), ()))))
 (some (.inl (((), (wr .i64 (t4 + 1)), ()), (b1, ()))))))
 (some (.inl (((), (wr .i64 (t4 + 1)), ()), (b1, ()))))))))
 (some (.inr (.inl (((), ()), (b1, ()))))))
def Ij := Bb fun x : (Vm × Jr) => Zl x.1.1 x.1.2.1 x.2.1
def Eg (a0 : Hb) : Option Re :=
 (ob (Fo a0.1) fun r1 =>
 (cond (!r1.1)
 (some (false, ()))
 (cond (decide (((ln a0.2.1 : Nat) : Int) > 4))
 (some (false, ()))
 (ob (Nl a0.2.2.2.1) fun r2 =>
 (cond (!r2.1)
 (some (false, ()))
 (ob (Hj (((), 0, ()), (a0, ()))) (se (fun y9 => (ob (Ij (((), 0, ()), (y9.2.1, ()))) (se (fun y20 => (cond (decide (0 ≤ ((ln y20.2.1.1.2.1 : Nat) : Int)))
 (ob (Ke y20.2.1.2.2.1 0 (wr .i64 ((Lk .i64 1 ((ln y20.2.1.1.2.1 : Nat) : Int)) - 1))) fun r22 =>
 (cond r22.1
 (cond ((2 : Int) == 0)
 none
 (cond ((Int.tmod y20.2.1.2.2.1 2) == 0)
 (ob (Ke y20.2.1.2.2.2.2.1 0 15) fun r23 =>
 (some (r23.1, ())))
 (some (false, ()))))
 (some (false, ()))))
 none)) (fun z21 => (some (z21.1.1, ())))))) (fun z10 => (some (z10.1.1, ()))))))))))
def Aq (t1 : Unit) (t2 : Unit) (t3 : Unit) (t4 : Int) (b1 : Hb) (b2 : Hb) (b3 : Hb) : Option (((Unit × Qx) × (Hb × Xv)) ⊕ (((Unit × (Unit × Ve)) × (Hb × Xv)) ⊕ Ve)) :=
 (cond (decide (t4 < ((ln b1.2.1 : Nat) : Int)))
 (ob (Yb b1.2.1 t4) fun x4 =>
 (cond (bl (ln ([] : List Fe) + ln x4) Ob)
 (cond (bl (ln b3.2.1 + ln ([(ap [] x4)] : List Yi)) Ob)
 (some (.inl (((), (), (), (wr .i64 (t4 + 1)), ()), (b1, b2, (b3.1, (ap b3.2.1 ([(ap [] x4)] : List Yi)), b3.2.2), ()))))
 none)
 none))
 (some (.inr (.inl (((), (), (), ()), (b1, b2, b3, ()))))))
def Er := Bb fun x : ((Unit × Qx) × (Hb × Xv)) => Aq x.1.1 x.1.2.1 x.1.2.2.1 x.1.2.2.2.1 x.2.1 x.2.2.1 x.2.2.2.1
def Rj (a0 : Hb) : Option Jr :=
 (ob (Gw a0.1) fun r1 =>
 (ob (Er (((), (), (), 0, ()), (a0, Fi, (r1.1, [], a0.2.2), ()))) (se (fun y5 => (cond (bl (ln ([] : List Sa) + ln y5.2.1.2.2.2.1) Ob)
 (some ((y5.2.2.2.1.1, y5.2.2.2.1.2.1, y5.2.2.2.1.2.2.1, (ap [] y5.2.1.2.2.2.1), y5.2.2.2.1.2.2.2.2), ()))
 none)) (fun z6 => none))))
def Km (a0 : Ea) (a1 : Zv) : Option (Hb × Re) :=
 (ob (Eg (a0, a1, 0, [], 0, false, ())) fun r1 =>
 (cond (!r1.1)
 (some (Fi, false, ()))
 (ob (Rj (a0, a1, 0, [], 0, false, ())) fun r2 =>
 (some (r2.1, true, ())))))
def Up (t1 : Int) (t2 : Unit) (t5 : Int) (b2 : Hb) : Option (((Int × Vm) × Jr) ⊕ YF) :=
 (cond (decide (t5 < ((ln b2.2.2.2.1 : Nat) : Int)))
 (ob (Yb b2.2.2.2.1 t5) fun x3 =>
 (cond (x3.1 == t1)
 (some (.inr (.inr ((t5, ()), ()))))
 (some (.inl ((t1, (), (wr .i64 (t5 + 1)), ()), (b2, ()))))))
 (some (.inr (.inl ((), ())))))
def Yq := Bb fun x : ((Int × Vm) × Jr) => Up x.1.1 x.1.2.1 x.1.2.2.1 x.2.1
def Ts (a0 : Hb) (a1 : Int) : Option Kf :=
 (ob (Yq ((a1, (), 0, ()), (a0, ()))) (se (fun y4 => (some ((-1), ()))) (fun z5 => (some (z5.1.1, ())))))
def Mx (t1 : Tc) (t5 : Int) (t6 : Int) : Option ((TB × Unit) ⊕ Q6) :=
 (cond (decide (t6 < ((ln t1 : Nat) : Int)))
 (ob (Nl t1) fun r19 =>
 (cond r19.1
 (ob (Yb t1 t6) fun x20 =>
 (cond (x20.2.1.1 == 3)
 (ob (Yb t1 t6) fun x21 =>
 (cond (decide (0 ≤ x21.2.1.2.2.2.1))
 (some (.inl ((t1, (Ce .i64 t5 (Lk .i64 1 x21.2.1.2.2.2.1)), (wr .i64 (t6 + 1)), ()), ())))
 none))
 (some (.inl ((t1, t5, (wr .i64 (t6 + 1)), ()), ())))))
 (some (.inr (.inl ((t5, ()), ()))))))
 (some (.inr (.inl ((t5, ()), ())))))
def Lj := Bb fun x : (TB × Unit) => Mx x.1.1 x.1.2.1 x.1.2.2.1
def Ho (a0 : Int) (a1 : Tc) : Option Kf :=
 (ob (Ke a0 0 15) fun r1 =>
 (cond r1.1
 (ob (Lj ((a1, (Ce .i64 1 a0), 0, ()), ())) (se (fun y11 => (some (y11.1.1, ()))) (fun z12 => none)))
 (ob (Lj ((a1, 1, 0, ()), ())) (se (fun y22 => (some (y22.1.1, ()))) (fun z23 => none)))))
def Wp (a0 : Int) : Option Re :=
 (ob (Ke a0 1 36) fun r1 =>
 (cond r1.1
 (some (true, ()))
 (cond (a0 == 39)
 (some (true, ()))
 (some ((a0 == 42), ())))))
def YC (a0 : Hb) (a1 : Wa) : Option (Hb × Yv) :=
 (ob (Wp a1.2.1) fun r1 =>
 (cond (!r1.1)
 (some ((a0.1, a0.2.1, a0.2.2.1, a0.2.2.2.1, 0, false, a0.2.2.2.2.2.2), ((a1.1, a1.2.1, (Ce .i64 a1.2.2.1 a0.2.2.2.2.1), a1.2.2.2), ())))
 (cond a0.2.2.2.2.2.1
 (cond (decide (a1.2.1 ≤ 26))
 (cond ((Zh .i64 (Ce .i64 a1.2.2.1 a0.2.2.2.2.1) 2) == 0)
 (some ((a0.1, a0.2.1, a0.2.2.1, a0.2.2.2.1, 0, a0.2.2.2.2.2), ((a1.1, a1.2.1, 2, a1.2.2.2), ())))
 (some ((a0.1, a0.2.1, a0.2.2.1, a0.2.2.2.1, 0, a0.2.2.2.2.2), ((a1.1, a1.2.1, (Ce .i64 a1.2.2.1 a0.2.2.2.2.1), a1.2.2.2), ()))))
 (some ((a0.1, a0.2.1, a0.2.2.1, a0.2.2.2.1, 0, a0.2.2.2.2.2), ((a1.1, a1.2.1, (Ce .i64 a1.2.2.1 a0.2.2.2.2.1), a1.2.2.2), ()))))
 (some ((a0.1, a0.2.1, a0.2.2.1, a0.2.2.2.1, 0, a0.2.2.2.2.2), ((a1.1, a1.2.1, (Ce .i64 a1.2.2.1 a0.2.2.2.2.1), a1.2.2.2), ()))))))
def Nk (a0 : Hb) (a1 : Wa) : Option (Hb × Yv) :=
 (cond (a1.1 == 2)
 (cond (decide (a1.2.1 > 0))
 (ob (YC a0 a1) fun r1 =>
 (some (r1.1, (r1.2.1, ()))))
 (some (a0, (a1, ()))))
 (cond (a1.1 == 4)
 (cond (decide (0 ≤ a1.2.2.2.1))
 (some ((a0.1, a0.2.1, (LE .i64 a0.2.2.1 (Lk .i64 1 a1.2.2.2.1)), a0.2.2.2), (a1, ())))
 none)
 (cond (a1.1 == 5)
 (cond (decide (0 ≤ a1.2.2.2.1))
 (some ((a0.1, a0.2.1, (Zh .i64 (Lk .i64 1 a1.2.2.2.1) 1), a0.2.2.2), (a1, ())))
 none)
 (cond (a1.1 == 8)
 (cond ((Wr .i64 a0.2.2.2.2.1 a1.2.2.1) == a1.2.2.1)
 (some ((a0.1, a0.2.1, a0.2.2.1, a0.2.2.2.1, (Zh .i64 a0.2.2.2.2.1 a1.2.2.1), a0.2.2.2.2.2), (a1, ())))
 (some ((a0.1, a0.2.1, a0.2.2.1, a0.2.2.2.1, (Ce .i64 a0.2.2.2.2.1 a1.2.2.1), a0.2.2.2.2.2), (a1, ()))))
 (cond (a1.1 == 10)
 (some ((a0.1, a0.2.1, a0.2.2.1, a0.2.2.2.1, a0.2.2.2.2.1, (!a0.2.2.2.2.2.1), a0.2.2.2.2.2.2), (a1, ())))
 (some (a0, (a1, ()))))))))
def Am (t0 : Tc) (t2 : Unit) (t3 : Unit) (t4 : Int) (b2 : Ga) (b3 : Ga) : Option (SB ⊕ (((Tc × (Unit × Ve)) × Cq) ⊕ Ve)) :=
 (cond (decide (t4 < ((ln t0 : Nat) : Int)))
 (ob (Yb t0 t4) fun x10 =>
 (cond (x10.2.1.1 == 2)
 (ob (Yb t0 t4) fun x11 =>
 (some (.inl ((t0, (), (), (wr .i64 (t4 + 1)), ()), (b2, ((Ce .i64 b3.1 x11.2.1.2.2.1), b3.2.1, ()), ())))))
 (ob (Yb t0 t4) fun x12 =>
 (cond (x12.2.1.1 == 8)
 (ob (Yb t0 t4) fun x13 =>
 (some (.inl ((t0, (), (), (wr .i64 (t4 + 1)), ()), (b2, ((Ce .i64 b3.1 x13.2.1.2.2.1), b3.2.1, ()), ())))))
 (some (.inl ((t0, (), (), (wr .i64 (t4 + 1)), ()), (b2, b3, ()))))))))
 (some (.inr (.inl ((t0, (), (), ()), (b2, b3, ()))))))
def Mn := Bb fun x : SB => Am x.1.1 x.1.2.1 x.1.2.2.1 x.1.2.2.2.1 x.2.1 x.2.2.1
def Yk (t0 : Tc) (t2 : Unit) (t3 : Unit) (t5 : Int) (t6 : Int) (b2 : Ga) (b3 : Ga) : Option (((Tc × (Unit × PO)) × Cq) ⊕ (SB ⊕ Ve)) :=
 (cond (decide (t6 < ((ln t0 : Nat) : Int)))
 (ob (Yb t0 t6) fun x28 =>
 (cond (x28.2.1.2.1 == t5)
 (cond (bl (ln b3.2.1 + ln ([t5] : List Int)) Ob)
 (some (.inr (.inl ((t0, (), (), t5, ()), (b2, (b3.1, (ap b3.2.1 ([t5] : List Int)), ()), ())))))
 none)
 (some (.inl ((t0, (), (), t5, (wr .i64 (t6 + 1)), ()), (b2, b3, ()))))))
 (some (.inr (.inl ((t0, (), (), t5, ()), (b2, b3, ()))))))
def Ri := Bb fun x : ((Tc × (Unit × PO)) × Cq) => Yk x.1.1 x.1.2.1 x.1.2.2.1 x.1.2.2.2.1 x.1.2.2.2.2.1 x.2.1 x.2.2.1
def Xk (t0 : Tc) (t2 : Unit) (t3 : Unit) (t5 : Int) (b2 : Ga) (b3 : Ga) : Option (SB ⊕ (((Unit × Ve) × Cq) ⊕ Ve)) :=
 (cond (decide (t5 ≤ 56))
 (ob (Ri ((t0, (), (), t5, 0, ()), (b2, b3, ()))) (se (fun y29 => (some (.inl ((y29.1.1, (), (), (wr .i64 (y29.1.2.2.2.1 + 1)), ()), y29.2)))) (fun z30 => (some (.inr (.inr ((), ())))))))
 (some (.inr (.inl (((), (), ()), (b2, b3, ()))))))
def Mm := Bb fun x : SB => Xk x.1.1 x.1.2.1 x.1.2.2.1 x.1.2.2.2.1 x.2.1 x.2.2.1
def Vb (a0 : Tc) : Option Wm :=
 (ob (Nl a0) fun r1 =>
 (cond (!r1.1)
 (some ((0, [], ()), ()))
 (ob (Mn ((a0, (), (), 0, ()), ((0, [], ()), (0, [], ()), ()))) (se (fun y14 => (ob (Mm ((y14.1.1, (), (), 1, ()), y14.2)) (se (fun y31 => (some (y31.2.2.1, ()))) (fun z32 => none)))) (fun z15 => none)))))
def RG (t1 : Tc) (t4 : Unit) (t5 : Unit) (t6 : Int) (b4 : Ga) (b5 : Ga) : Option (SB ⊕ (((Tc × (Unit × Ve)) × Cq) ⊕ Ve)) :=
 (cond (decide (t6 < ((ln t1 : Nat) : Int)))
 (ob (Yb t1 t6) fun x4 =>
 (some (.inl ((t1, (), (), (wr .i64 (t6 + 1)), ()), (b4, ((Ce .i64 b5.1 x4.2.1.2.2.1), b5.2.1, ()), ())))))
 (some (.inr (.inl ((t1, (), (), ()), (b4, b5, ()))))))
def Av := Bb fun x : SB => RG x.1.1 x.1.2.1 x.1.2.2.1 x.1.2.2.2.1 x.2.1 x.2.2.1
def JF (t1 : Tc) (t4 : Unit) (t5 : Unit) (t7 : Xd) (t8 : Int) (t9 : Bool) (t10 : Int) (b4 : Ga) (b5 : Ga) : Option S6 :=
 (cond (decide (t10 < ((ln b5.2.1 : Nat) : Int)))
 (cond t9
 (some (.inl ((t1, (), (), t7, t8, true, (wr .i64 (t10 + 1)), ()), (b4, b5, ()))))
 (cond (Ui (ln b5.2.1) t10)
 (ob b5.2.1[(tn t10)]? fun x29 =>
 (some (.inl ((t1, (), (), t7, t8, (x29 == t8), (wr .i64 (t10 + 1)), ()), (b4, b5, ())))))
 none))
 (some (.inr (.inl ((t1, (), (), t7, t8, t9, ()), (b4, b5, ()))))))
def Bu := Bb fun x : WW => JF x.1.1 x.1.2.1 x.1.2.2.1 x.1.2.2.2.1 x.1.2.2.2.2.1 x.1.2.2.2.2.2.1 x.1.2.2.2.2.2.2.1 x.2.1 x.2.2.1
def LF (t1 : Tc) (t4 : Unit) (t5 : Unit) (t7 : Xd) (t8 : Int) (t9 : Bool) (t11 : Int) (b4 : Ga) (b5 : Ga) : Option S6 :=
 (cond (decide (t11 < ((ln t1 : Nat) : Int)))
 (cond t9
 (some (.inl ((t1, (), (), t7, t8, true, (wr .i64 (t11 + 1)), ()), (b4, b5, ()))))
 (ob (Yb t1 t11) fun x34 =>
 (some (.inl ((t1, (), (), t7, t8, (x34.2.1.2.1 == t8), (wr .i64 (t11 + 1)), ()), (b4, b5, ()))))))
 (some (.inr (.inl ((t1, (), (), t7, t8, t9, ()), (b4, b5, ()))))))
def Cu := Bb fun x : WW => LF x.1.1 x.1.2.1 x.1.2.2.1 x.1.2.2.2.1 x.1.2.2.2.2.1 x.1.2.2.2.2.2.1 x.1.2.2.2.2.2.2.1 x.2.1 x.2.2.1
def SG (t1 : Tc) (t4 : Unit) (t5 : Unit) (t7 : Xd) (t8 : Int) (b4 : Ga) (b5 : Ga) : Option (((Tc × (Unit × (Unit × XF))) × Cq) ⊕ ZW) :=
 (cond (decide (t8 ≤ 56))
 (ob (Bu ((t1, (), (), t7, t8, false, 0, ()), (b4, b5, ()))) (se (fun y30 => (ob (Cu ((y30.1.1, (), (), y30.1.2.2.2.1, y30.1.2.2.2.2.1, y30.1.2.2.2.2.2.1, 0, ()), y30.2)) (se (fun y35 => (cond y35.1.2.2.2.2.2.1
 (cond (bl (ln y35.1.2.2.2.1 + ln ([y35.1.2.2.2.2.1] : List Int)) Ob)
 (some (.inl ((y35.1.1, (), (), (ap y35.1.2.2.2.1 ([y35.1.2.2.2.2.1] : List Int)), (wr .i64 (y35.1.2.2.2.2.1 + 1)), ()), y35.2)))
 none)
 (some (.inl ((y35.1.1, (), (), y35.1.2.2.2.1, (wr .i64 (y35.1.2.2.2.2.1 + 1)), ()), y35.2))))) (fun z36 => (some (.inr (.inr ((), ())))))))) (fun z31 => (some (.inr (.inr ((), ())))))))
 (some (.inr (.inl (((), (), t7, ()), (b4, b5, ()))))))
def Bv := Bb fun x : ((Tc × (Unit × (Unit × XF))) × Cq) => SG x.1.1 x.1.2.1 x.1.2.2.1 x.1.2.2.2.1 x.1.2.2.2.2.1 x.2.1 x.2.2.1
def Bt (a0 : Tc) (a1 : Tc) : Option Wm :=
 (ob (Vb a0) fun r1 =>
 (ob (Av ((a1, (), (), 0, ()), ((0, [], ()), r1.1, ()))) (se (fun y5 => (ob (Bv ((y5.1.1, (), (), [], 1, ()), y5.2)) (se (fun y37 => (some ((y37.2.2.1.1, y37.1.2.2.1, ()), ()))) (fun z38 => none)))) (fun z6 => none))))
def MB (t0 : Tc) (t1 : Yi) (t5 : Ig) (t6 : Tc) (t7 : Int) : Option (((Tc × (Yi × (Ig × (Tc × Kf)))) × Unit) ⊕ YW) :=
 (cond (decide (t7 < ((ln t1 : Nat) : Int)))
 (ob (Yb t1 t7) fun x21 =>
 (cond (x21.1 != 2)
 (ob (Io x21) fun r22 =>
 (cond (bl (ln t6 + ln ([(0, r22.1, ())] : List Sa)) Ob)
 (ob (Bt t0 (ap t6 ([(0, r22.1, ())] : List Sa))) fun r23 =>
 (cond (bl (ln t5 + ln ([r23.1] : List Ga)) Ob)
 (cond (x21.1 != 1)
 (ob (Oo (ap t6 ([(0, r22.1, ())] : List Sa)) x21) fun r24 =>
 (ob (Ff (ap t6 ([(0, r22.1, ())] : List Sa)) r24.1) fun r25 =>
 (ob (Bt t0 r25.1) fun r26 =>
 (cond (bl (ln (ap t5 ([r23.1] : List Ga)) + ln ([r26.1] : List Ga)) Ob)
 (some (.inl ((t0, t1, (ap (ap t5 ([r23.1] : List Ga)) ([r26.1] : List Ga)), r25.1, (wr .i64 (t7 + 1)), ()), ())))
 none))))
 (some (.inl ((t0, t1, (ap t5 ([r23.1] : List Ga)), (ap t6 ([(0, r22.1, ())] : List Sa)), (wr .i64 (t7 + 1)), ()), ()))))
 none))
 none))
 (cond (x21.1 != 1)
 (ob (Oo t6 x21) fun r27 =>
 (ob (Ff t6 r27.1) fun r28 =>
 (ob (Bt t0 r28.1) fun r29 =>
 (cond (bl (ln t5 + ln ([r29.1] : List Ga)) Ob)
 (some (.inl ((t0, t1, (ap t5 ([r29.1] : List Ga)), r28.1, (wr .i64 (t7 + 1)), ()), ())))
 none))))
 (some (.inl ((t0, t1, t5, t6, (wr .i64 (t7 + 1)), ()), ()))))))
 (some (.inr (.inl ((t5, ()), ())))))
def Br := Bb fun x : ((Tc × (Yi × (Ig × (Tc × Kf)))) × Unit) => MB x.1.1 x.1.2.1 x.1.2.2.1 x.1.2.2.2.1 x.1.2.2.2.2.1
def Ds (a0 : Tc) (a1 : Yi) : Option Ez :=
 (ob (Nl a0) fun r1 =>
 (cond (!r1.1)
 (some ([], ()))
 (ob (Ar a1) fun r2 =>
 (cond (!r2.1)
 (some ([], ()))
 (ob (Br ((a0, a1, [], [], 0, ()), ())) (se (fun y30 => (some (y30.1.1, ()))) (fun z31 => none)))))))
def Ik (t2 : Unit) (t3 : Unit) (t5 : Int) (b2 : Ga) (b3 : Ga) : Option ((Qx × Cq) ⊕ Gu) :=
 (cond (decide (t5 < ((ln b2.2.1 : Nat) : Int)))
 (ob (Yb b2.2.1 t5) fun x5 =>
 (ob (Yb b3.2.1 t5) fun x6 =>
 (cond (x5 != x6)
 (some (.inr (.inr ((false, ()), ()))))
 (some (.inl (((), (), (wr .i64 (t5 + 1)), ()), (b2, b3, ())))))))
 (some (.inr (.inl ((), ())))))
def Ol := Bb fun x : (Qx × Cq) => Ik x.1.1 x.1.2.1 x.1.2.2.1 x.2.1 x.2.2.1
def Zk (a0 : Ga) (a1 : Ga) : Option Re :=
 (cond (a0.1 != a1.1)
 (some (false, ()))
 (cond (((ln a0.2.1 : Nat) : Int) != ((ln a1.2.1 : Nat) : Int))
 (some (false, ()))
 (ob (Ol (((), (), 0, ()), (a0, a1, ()))) (se (fun y7 => (some (true, ()))) (fun z8 => (some (z8.1.1, ())))))))
def Al (t1 : Ig) (t2 : Unit) (t5 : Ig) (t6 : Int) (b2 : Ga) : Option (((Ig × (Unit × (Ig × Kf))) × Wm) ⊕ YW) :=
 (cond (decide (t6 < ((ln t1 : Nat) : Int)))
 (ob (Yb t1 t6) fun x13 =>
 (ob (Zk b2 x13) fun r14 =>
 (cond (!r14.1)
 (ob (Yb t1 t6) fun x15 =>
 (ob (Hw x15) fun r16 =>
 (cond (bl (ln t5 + ln ([r16.1] : List Ga)) Ob)
 (ob (Yb t1 t6) fun x17 =>
 (some (.inl ((t1, (), (ap t5 ([r16.1] : List Ga)), (wr .i64 (t6 + 1)), ()), (x17, ())))))
 none)))
 (ob (Yb t1 t6) fun x18 =>
 (some (.inl ((t1, (), t5, (wr .i64 (t6 + 1)), ()), (x18, ()))))))))
 (some (.inr (.inl ((t5, ()), ())))))
def Om := Bb fun x : ((Ig × (Unit × (Ig × Kf))) × Wm) => Al x.1.1 x.1.2.1 x.1.2.2.1 x.1.2.2.2.1 x.2.1
def Rd (a0 : Ga) (a1 : Ig) : Option Ez :=
 (ob (Om ((a1, (), [], 0, ()), (a0, ()))) (se (fun y19 => (some (y19.1.1, ()))) (fun z20 => none)))
def Ln (a0 : Hb) (a1 : Int) (a2 : Bool) : Option XW :=
 (ob (Eg a0) fun r1 =>
 (cond (!r1.1)
 (some (Fi, [], false, ()))
 (ob (Ke a1 0 (wr .i64 (a0.1.1 - 1))) fun r2 =>
 (cond (!r2.1)
 (some (Fi, [], false, ()))
 (ob (Ts a0 a1) fun r3 =>
 (cond (decide (r3.1 ≥ 0))
 (some (Fi, [], false, ()))
 (ob (Rj a0) fun r4 =>
 (ob (Ho a0.2.2.1 a0.2.2.2.1) fun r5 =>
 (ob (Eo a0.1 r5.1 a1) fun r6 =>
 (cond a2
 (ob (JH r6.1) fun r7 =>
 (ob (Nk r4.1 r7.1) fun r8 =>
 (cond (bl (ln r8.1.2.2.2.1 + ln ([(a1, r8.2.1, ())] : List Sa)) Ob)
 (cond (r8.2.1.1 == 9)
 (cond (decide (r8.2.1.2.2.2.1 < ((ln a0.2.1 : Nat) : Int)))
 (ob (Yb a0.2.1 r8.2.1.2.2.2.1) fun x9 =>
 (ob (Ds (ap r8.1.2.2.2.1 ([(a1, r8.2.1, ())] : List Sa)) x9) fun r10 =>
 (ob (Vb (ap r8.1.2.2.2.1 ([(a1, r8.2.1, ())] : List Sa))) fun r11 =>
 (cond (bl (ln r10.1 + ln ([r11.1] : List Ga)) Ob)
 (ob (Vb a0.2.2.2.1) fun r12 =>
 (ob (Rd r12.1 (ap r10.1 ([r11.1] : List Ga))) fun r13 =>
 (some ((r8.1.1, r8.1.2.1, r8.1.2.2.1, (ap r8.1.2.2.2.1 ([(a1, r8.2.1, ())] : List Sa)), r8.1.2.2.2.2), r13.1, true, ()))))
 none))))
 (ob (Vb (ap r8.1.2.2.2.1 ([(a1, r8.2.1, ())] : List Sa))) fun r14 =>
 (cond (bl (ln ([] : List Ga) + ln ([r14.1] : List Ga)) Ob)
 (ob (Vb a0.2.2.2.1) fun r15 =>
 (ob (Rd r15.1 (ap [] ([r14.1] : List Ga))) fun r16 =>
 (some ((r8.1.1, r8.1.2.1, r8.1.2.2.1, (ap r8.1.2.2.2.1 ([(a1, r8.2.1, ())] : List Sa)), r8.1.2.2.2.2), r16.1, true, ()))))
 none)))
 (ob (Vb (ap r8.1.2.2.2.1 ([(a1, r8.2.1, ())] : List Sa))) fun r17 =>
 (cond (bl (ln ([] : List Ga) + ln ([r17.1] : List Ga)) Ob)
 (ob (Vb a0.2.2.2.1) fun r18 =>
 (ob (Rd r18.1 (ap [] ([r17.1] : List Ga))) fun r19 =>
 (some ((r8.1.1, r8.1.2.1, r8.1.2.2.1, (ap r8.1.2.2.2.1 ([(a1, r8.2.1, ())] : List Sa)), r8.1.2.2.2.2), r19.1, true, ()))))
 none)))
 none)))
 (ob (Wx r6.1) fun r20 =>
 (ob (Nk r4.1 r20.1) fun r21 =>
 (cond (bl (ln r21.1.2.2.2.1 + ln ([(a1, r21.2.1, ())] : List Sa)) Ob)
 (cond (r21.2.1.1 == 9)
 (cond (decide (r21.2.1.2.2.2.1 < ((ln a0.2.1 : Nat) : Int)))
 (ob (Yb a0.2.1 r21.2.1.2.2.2.1) fun x22 =>
 (ob (Ds (ap r21.1.2.2.2.1 ([(a1, r21.2.1, ())] : List Sa)) x22) fun r23 =>
 (ob (Vb (ap r21.1.2.2.2.1 ([(a1, r21.2.1, ())] : List Sa))) fun r24 =>
 (cond (bl (ln r23.1 + ln ([r24.1] : List Ga)) Ob)
 (ob (Vb a0.2.2.2.1) fun r25 =>
 (ob (Rd r25.1 (ap r23.1 ([r24.1] : List Ga))) fun r26 =>
 (some ((r21.1.1, r21.1.2.1, r21.1.2.2.1, (ap r21.1.2.2.2.1 ([(a1, r21.2.1, ())] : List Sa)), r21.1.2.2.2.2), r26.1, true, ()))))
 none))))
 (ob (Vb (ap r21.1.2.2.2.1 ([(a1, r21.2.1, ())] : List Sa))) fun r27 =>
 (cond (bl (ln ([] : List Ga) + ln ([r27.1] : List Ga)) Ob)
 (ob (Vb a0.2.2.2.1) fun r28 =>
 (ob (Rd r28.1 (ap [] ([r27.1] : List Ga))) fun r29 =>
 (some ((r21.1.1, r21.1.2.1, r21.1.2.2.1, (ap r21.1.2.2.2.1 ([(a1, r21.2.1, ())] : List Sa)), r21.1.2.2.2.2), r29.1, true, ()))))
 none)))
 (ob (Vb (ap r21.1.2.2.2.1 ([(a1, r21.2.1, ())] : List Sa))) fun r30 =>
 (cond (bl (ln ([] : List Ga) + ln ([r30.1] : List Ga)) Ob)
 (ob (Vb a0.2.2.2.1) fun r31 =>
 (ob (Rd r31.1 (ap [] ([r30.1] : List Ga))) fun r32 =>
 (some ((r21.1.1, r21.1.2.1, r21.1.2.2.1, (ap r21.1.2.2.2.1 ([(a1, r21.2.1, ())] : List Sa)), r21.1.2.2.2.2), r32.1, true, ()))))
 none)))
 none)))))))))))))
def Lm (a0 : Hb) (a1 : Int) : Option XW :=
 (ob (Ts a0 a1) fun r1 =>
 (ob (Eg a0) fun r2 =>
 (cond (!r2.1)
 (some (Fi, [], false, ()))
 (cond (decide (r1.1 < 0))
 (some (Fi, [], false, ()))
 (ob (Rj a0) fun r3 =>
 (ob (Ff r3.1.2.2.2.1 r1.1) fun r4 =>
 (ob (Vb a0.2.2.2.1) fun r5 =>
 (ob (Vb r4.1) fun r6 =>
 (ob (Rd r5.1 ([r6.1] : List Ga)) fun r7 =>
 (some ((r3.1.1, r3.1.2.1, r3.1.2.2.1, r4.1, r3.1.2.2.2.2), r7.1, true, ())))))))))))
def On (t1 : Xd) (t4 : Unit) (t7 : Ig) (t8 : Unit) (t9 : Int) (b4 : Hb) (b8 : Hb) : Option (((Xd × (Unit × (Ig × Vm))) × Xv) ⊕ (((Unit × (Ig × Ve)) × Xv) ⊕ ((Unit × (Ig × Re)) × Jr))) :=
 (cond (decide (t9 < ((ln t1 : Nat) : Int)))
 (ob (Yb t1 t9) fun x13 =>
 (ob (Ln b8 x13 false) fun r14 =>
 (ob (Yb t1 t9) fun x15 =>
 (ob (Lm r14.1 x15) fun r16 =>
 (cond (!r14.2.2.1)
 (some (.inr (.inr (((), [], false, ()), (Fi, ())))))
 (cond (!r16.2.2.1)
 (some (.inr (.inr (((), [], false, ()), (Fi, ())))))
 (cond (bl (ln t7 + ln r14.2.1) Ob)
 (cond (bl (ln (ap t7 r14.2.1) + ln r16.2.1) Ob)
 (some (.inl ((t1, (), (ap (ap t7 r14.2.1) r16.2.1), (), (wr .i64 (t9 + 1)), ()), (b4, r16.1, ()))))
 none)
 none)))))))
 (some (.inr (.inl (((), t7, (), ()), (b4, b8, ()))))))
def Ap := Bb fun x : ((Xd × (Unit × (Ig × Vm))) × Xv) => On x.1.1 x.1.2.1 x.1.2.2.1 x.1.2.2.2.1 x.1.2.2.2.2.1 x.2.1 x.2.2.1
def Nm (a0 : Hb) (a1 : Xd) : Option XW :=
 (ob (Ap ((a1, (), [], (), 0, ()), (Fi, a0, ()))) (se (fun y17 => (ob (Eg y17.2.2.1) fun r19 =>
 (cond (!r19.1)
 (some (Fi, [], false, ()))
 (ob (Rj y17.2.2.1) fun r20 =>
 (some (r20.1, y17.1.2.1, true, ())))))) (fun z18 => (some (z18.2.1, z18.1.2.1, z18.1.2.2.1, ())))))
def Jk (t0 : Ig) (t1 : Ig) (t5 : Int) : Option (((Ig × (Ig × Kf)) × Unit) ⊕ (((Ig × Ez) × Unit) ⊕ Ox)) :=
 (cond (decide (t5 < ((ln t0 : Nat) : Int)))
 (cond (decide (t5 < ((ln t1 : Nat) : Int)))
 (ob (Yb t0 t5) fun x7 =>
 (ob (Yb t1 t5) fun x8 =>
 (ob (Zk x7 x8) fun r9 =>
 (cond (!r9.1)
 (some (.inr (.inr ((false, ()), ()))))
 (some (.inl ((t0, t1, (wr .i64 (t5 + 1)), ()), ())))))))
 (some (.inr (.inl ((t0, t1, ()), ())))))
 (some (.inr (.inl ((t0, t1, ()), ())))))
def Pl := Bb fun x : ((Ig × (Ig × Kf)) × Unit) => Jk x.1.1 x.1.2.1 x.1.2.2.1
def Xp (a0 : Ig) (a1 : Ig) : Option Re :=
 (ob (Pl ((a0, a1, 0, ()), ())) (se (fun y10 => (some ((((ln y10.1.1 : Nat) : Int) == ((ln y10.1.2.1 : Nat) : Int)), ()))) (fun z11 => (some (z11.1.1, ())))))
def Yu (a0 : Hb) (a1 : Hb) : Option Re :=
 (cond (a0.2.2.1 == a1.2.2.1)
 (cond (a0.2.2.2.2.1 == a1.2.2.2.2.1)
 (some ((a0.2.2.2.2.2.1 == a1.2.2.2.2.2.1), ()))
 (some (false, ())))
 (some (false, ())))
def Pn (t0 : Px) (t4 : Unit) (t5 : Unit) (t7 : Int) (b4 : Hb) (b5 : Hb) : Option (((Px × Qx) × Xv) ⊕ Gu) :=
 (cond (decide (t7 < ((ln t0 : Nat) : Int)))
 (ob (Yb t0 t7) fun x9 =>
 (ob (Yu x9.1 b4) fun r10 =>
 (cond r10.1
 (ob (Yb t0 t7) fun x11 =>
 (ob (Yu x11.2.1 b5) fun r12 =>
 (cond r12.1
 (some (.inr (.inr ((true, ()), ()))))
 (some (.inl ((t0, (), (), (wr .i64 (t7 + 1)), ()), (b4, b5, ())))))))
 (some (.inl ((t0, (), (), (wr .i64 (t7 + 1)), ()), (b4, b5, ())))))))
 (some (.inr (.inl ((), ())))))
def Bp := Bb fun x : ((Px × Qx) × Xv) => Pn x.1.1 x.1.2.1 x.1.2.2.1 x.1.2.2.2.1 x.2.1 x.2.2.1
def Zu (a0 : Px) (a1 : Hb) (a2 : Hb) : Option Re :=
 (ob (Bp ((a0, (), (), 0, ()), (a1, a2, ()))) (se (fun y13 => (some (false, ()))) (fun z14 => (some (z14.1.1, ())))))
def Di (t2 : Unit) (t10 : Px) (t11 : Int) (t12 : Int) (b2 : Ea) : Option (((Unit × (Px × Nd)) × Xm) ⊕ (AX ⊕ XO)) :=
 (cond (decide (t12 < b2.1))
 (cond (Ui (ln t10) t11)
 (ob t10[(tn t11)]? fun x63 =>
 (ob (Nm x63.1 ([t12] : List Int)) fun r64 =>
 (cond (Ui (ln (ls t10 (tn t11) x63)) t11)
 (ob (ls t10 (tn t11) x63)[(tn t11)]? fun x65 =>
 (ob (Nm x65.2.1 ([t12] : List Int)) fun r66 =>
 (cond (Ui (ln (ls (ls t10 (tn t11) x63) (tn t11) x65)) t11)
 (ob (ls (ls t10 (tn t11) x63) (tn t11) x65)[(tn t11)]? fun x67 =>
 (cond (bl (ln ([] : List Int) + ln x67.2.2.1) Ob)
 (cond (bl (ln (ap [] x67.2.2.1) + ln ([t12] : List Int)) Ob)
 (ob (Xp r64.2.1 r66.2.1) fun r68 =>
 (cond (!r68.1)
 (some (.inr (.inr (((ap (ap [] x67.2.2.1) ([t12] : List Int)), true, ()), ()))))
 (ob (Zu (ls (ls (ls t10 (tn t11) x63) (tn t11) x65) (tn t11) x67) r64.1 r66.1) fun r69 =>
 (cond (!r69.1)
 (cond (bl (ln (ls (ls (ls t10 (tn t11) x63) (tn t11) x65) (tn t11) x67) + ln ([(r64.1, r66.1, (ap (ap [] x67.2.2.1) ([t12] : List Int)), ())] : List Um)) Ob)
 (some (.inl (((), (ap (ls (ls (ls t10 (tn t11) x63) (tn t11) x65) (tn t11) x67) ([(r64.1, r66.1, (ap (ap [] x67.2.2.1) ([t12] : List Int)), ())] : List Um)), t11, (wr .i64 (t12 + 1)), ()), (b2, ()))))
 none)
 (some (.inl (((), (ls (ls (ls t10 (tn t11) x63) (tn t11) x65) (tn t11) x67), t11, (wr .i64 (t12 + 1)), ()), (b2, ()))))))))
 none)
 none))
 none)))
 none)))
 none)
 (some (.inr (.inl (((), t10, t11, ()), (b2, ()))))))
def Ie := Bb fun x : ((Unit × (Px × Nd)) × Xm) => Di x.1.1 x.1.2.1 x.1.2.2.1 x.1.2.2.2.1 x.2.1
def Qi (t2 : Unit) (t10 : Px) (t11 : Int) (b2 : Ea) : Option (AX ⊕ (Ve ⊕ XO)) :=
 (cond (decide (t11 < ((ln t10 : Nat) : Int)))
 (ob (Ie (((), t10, t11, 0, ()), (b2, ()))) (se (fun y70 => (some (.inl (((), y70.1.2.1, (wr .i64 (y70.1.2.2.1 + 1)), ()), (y70.2.1, ()))))) (fun z71 => (some (.inr (.inr (z71.1, ())))))))
 (some (.inr (.inl ((), ())))))
def Pe := Bb fun x : AX => Qi x.1.1 x.1.2.1 x.1.2.2.1 x.2.1
def Wi (a0 : Ea) (a1 : Ea) : Option (Xd × Re) :=
 (ob (Km a0 []) fun r1 =>
 (ob (Km a1 []) fun r2 =>
 (cond (!r1.2.1)
 (some ([], false, ()))
 (cond (!r2.2.1)
 (some ([], false, ()))
 (cond (a0.1 != a1.1)
 (some ([], false, ()))
 (cond (decide (a0.1 > 6))
 (some ([], false, ()))
 (ob (Pe (((), ([(r1.1, r2.1, [], ())] : List Um), 0, ()), (a0, ()))) (se (fun y72 => (some ([], false, ()))) (fun z73 => (some z73.1))))))))))
def Fj (t0 : Ei) (t1 : Int) (t5 : Int) : Option (UO ⊕ (Vv ⊕ Vv)) :=
 (cond (decide (t5 < ((ln t0 : Nat) : Int)))
 (ob (Yb t0 t5) fun x9 =>
 (cond (x9.1 != t1)
 (some (.inr (.inr (((-1), ()), ()))))
 (ob (Yb t0 t5) fun x10 =>
 (cond (x10.2.1 != (wr .i64 (t1 + 1)))
 (some (.inr (.inr (((-1), ()), ()))))
 (ob (Yb t0 t5) fun x11 =>
 (cond (x11.2.2.1 != (wr .i64 ((wr .i64 (t1 + 1)) + 1)))
 (some (.inr (.inr (((-1), ()), ()))))
 (ob (Yb t0 t5) fun x12 =>
 (cond (x12.2.2.2.1 != (wr .i64 ((wr .i64 ((wr .i64 (t1 + 1)) + 1)) + 1)))
 (some (.inr (.inr (((-1), ()), ()))))
 (some (.inl ((t0, (wr .i64 ((wr .i64 ((wr .i64 ((wr .i64 (t1 + 1)) + 1)) + 1)) + 1)), (wr .i64 (t5 + 1)), ()), ())))))))))))
 (some (.inr (.inl ((t1, ()), ())))))
def Cz := Bb fun x : UO => Fj x.1.1 x.1.2.1 x.1.2.2.1
def Py (a0 : Ei) (a1 : Int) : Option Kf :=
 (ob (Cz ((a0, a1, 0, ()), ())) (se (fun y13 => (some (y13.1.1, ()))) (fun z14 => (some (z14.1.1, ())))))
def Ni (t0 : Bg) (t1 : Int) (t5 : Int) : Option ((Fu × Unit) ⊕ (Vv ⊕ Vv)) :=
 (cond (decide (t5 < ((ln t0 : Nat) : Int)))
 (ob (Yb t0 t5) fun x5 =>
 (ob (Py x5 t1) fun r6 =>
 (cond (decide (r6.1 < 0))
 (some (.inr (.inr (((-1), ()), ()))))
 (some (.inl ((t0, r6.1, (wr .i64 (t5 + 1)), ()), ()))))))
 (some (.inr (.inl ((t1, ()), ())))))
def Qy := Bb fun x : (Fu × Unit) => Ni x.1.1 x.1.2.1 x.1.2.2.1
def Kx (a0 : Bg) (a1 : Int) : Option Kf :=
 (ob (Qy ((a0, a1, 0, ()), ())) (se (fun y7 => (some (y7.1.1, ()))) (fun z8 => (some (z8.1.1, ())))))
def Rz (a0 : Ea) (a1 : Int) : Option Kf :=
 (ob (Kx a0.2.1 a1) fun r1 =>
 (cond (decide (r1.1 < 0))
 (some ((-1), ()))
 (some (r1.1, ()))))
def Xg (a0 : Ea) (a1 : Ea) : Option Re :=
 (ob (Ao a0 1048576) fun r1 =>
 (cond (decide (r1.1 < 0))
 (some (true, ()))
 (ob (Ao a1 r1.1) fun r2 =>
 (cond (decide (r2.1 < 0))
 (some (true, ()))
 (ob (Bf a0) fun r3 =>
 (ob (Bf a1) fun r4 =>
 (ob (Wi r3.1 r4.1) fun r5 =>
 (ob (Bf a0) fun r6 =>
 (ob (Bf a1) fun r7 =>
 (ob (Ch r6.1 r7.1) fun r8 =>
 (ob (Mo r8.1 r5.1) fun r9 =>
 (cond (!r9.1)
 (some (false, ()))
 (cond (r8.2.1 != r5.2.1)
 (some (false, ()))
 (ob (Bf a0) fun r10 =>
 (ob (Zn r6.1 r10.1) fun r11 =>
 (cond (!r11.1)
 (some (false, ()))
 (ob (Bf a1) fun r12 =>
 (ob (Zn r7.1 r12.1) fun r13 =>
 (cond (!r13.1)
 (some (false, ()))
 (ob (Tk r6.1 1) fun r14 =>
 (ob (Tk r7.1 r14.2.1) fun r15 =>
 (cond (decide (r15.2.1 < 0))
 (some (false, ()))
 (ob (Mo r8.1 r5.1) fun r16 =>
 (cond (!r16.1)
 (some (false, ()))
 (cond (r8.2.1 != r5.2.1)
 (some (false, ()))
 (ob (Hx r8.1 1) fun r17 =>
 (ob (Zs r17.1 1) fun r18 =>
 (cond (decide (r18.1 < 0))
 (some (false, ()))
 (cond (r18.1 != r17.2.1)
 (some (false, ()))
 (ob (Bf a0) fun r19 =>
 (ob (Bf a1) fun r20 =>
 (ob (Ch r19.1 r20.1) fun r21 =>
 (ob (Mo r21.1 r5.1) fun r22 =>
 (cond (!r22.1)
 (some (false, ()))
 (cond (r21.2.1 != r5.2.1)
 (some (false, ()))
 (ob (Zs r17.1 1) fun r23 =>
 (cond (decide (r23.1 < 0))
 (some (false, ()))
 (cond (r23.1 != r17.2.1)
 (some (false, ()))
 (some (true, ()))))))))))))))))))))))))))))))))))))))))
end
theorem VZ (a : (List Int)) (hz : Db (.sl int) a ≤ Cg) : Mo a a = some (true, ()) := by
 have h40 : Cg = 1099511627776 := rfl
 have hz' : ja a + (yq (Db int) a).sum ≤ Cg := hz
 have hl := Qw (step := fun x : (((List Int) × ((List Int) × (Int × Unit))) × Unit) => Pp x.1.1 x.1.2.1 x.1.2.2.1) (fun k => ((a, a, (k : Int), ()), ())) (ja a) (.inl ((), ())) (by
  intro k hk
  simp only [Pp]
  rw [Ia (show (k : Int) < (ja a : Int) by omega), Lc hk]
  simp only [yt, jb]
  rw [bne_self_eq_false']
  simp only [yu]
  rw [Le (by omega)]) (by
  simp [Pp])
 unfold Mo Tq
 rw [bne_self_eq_false']
 simp only [yu]
 erw [hl]
 rfl
theorem WR (a : (List Wa)) (hr : Eu (.sl Jb) a) (l : Nat) (hl : l ≤ Pa) : Hm a (l : Int) = some (JN (Db (.sl Jb) a) l, ()) := Eam (e := Jb) (F := Hm) a hr l hl rfl rfl
theorem DO (a : (List (List Wa))) (hr : Eu (.sl (.sl Jb)) a) (l : Nat) (hl : l ≤ Pa) : Qp a (l : Int) = some (JN (Db (.sl (.sl Jb)) a) l, ()) := szS (e := (.sl Jb)) (f := Hm) (F := Qp) a hr l hl WR rfl
theorem KH (a : Ea) (hr : Eu Oa a) (l : Nat) (hl : l ≤ Pa) : Ao a (l : Int) = some (JN (Db Oa a) l, ()) := by
 unfold Ao
 have hs : Db Oa a = Db (.sl (.sl Jb)) a.2.1 := by simp only [Db, qy, js, jt]
 rw [DO a.2.1 hr.2.1 (l) (by omega)]
 simp only [jb]
 by_cases h0 : Db (.sl (.sl Jb)) a.2.1 ≤ l
 case neg => rw [Xw h0, Xw (by omega)]; rfl
 rw [Zy h0, Ja (by omega)]
 simp only [yu]
 rw [Zy (by omega), hs]
 try simp only [Nat.sub_sub, jt]
theorem RS (a : Wa) (hz : Db Jb a ≤ Pa) : Bo a = some (a, ()) := by
 unfold Bo
 rfl
theorem XR (a : (List Wa)) (hz : Db (.sl Jb) a ≤ Pa) : Mr a = some (a, ()) := toS (e := Jb) _ _ (f := Bo) a hz RS rfl
theorem EO (a : (List (List Wa))) (hz : Db (.sl (.sl Jb)) a ≤ Pa) : Tu a = some (a, ()) := toS (e := (.sl Jb)) _ _ (f := Mr) a hz XR rfl
theorem LH (a : Ea) (hz : Db Oa a ≤ Pa) : Bf a = some (a, ()) := by
 unfold Bf
 have hs : Db Oa a = Db (.sl (.sl Jb)) a.2.1 := by simp only [Db, qy, js, jt]
 rw [EO a.2.1 (by omega)]
 simp only [jb]
theorem HS (a : Wa) (hz : Db Jb a ≤ Cg) : Yn a a = some (true, ()) := by
 unfold Yn
 have hs : Db Jb a = 0 := by simp only [Db, qy, js, jt]
 simp only [bne_self_eq_false', yu, jg, jb]
theorem DQ (a : (List Wa)) (hz : Db (.sl Jb) a ≤ Cg) : Gm a a = some (true, ()) := eqS (e := Jb) (f := Yn) (F := Gm) a hz HS rfl
theorem ON (a : (List (List Wa))) (hz : Db (.sl (.sl Jb)) a ≤ Cg) : Np a a = some (true, ()) := eqS (e := (.sl Jb)) (f := Gm) (F := Np) a hz DQ rfl
theorem YG (a : Ea) (hz : Db Oa a ≤ Cg) : Zn a a = some (true, ()) := by
 unfold Zn
 have hs : Db Oa a = Db (.sl (.sl Jb)) a.2.1 := by simp only [Db, qy, js, jt]
 simp only [bne_self_eq_false', yu, jg, jb, ON a.2.1 (by omega)]
theorem LS (a : (List Int)) (k : Nat) (hk : k + 8 * Db (.sl int) a ≤ Cg) : ∃ (a' : (List Int)) (k' : Nat), k ≤ k' ∧ k' ≤ k + 8 * Db (.sl int) a ∧ Hx a (k : Int) = some (a', ((k' : Int), ())) ∧ Zs a' (k : Int) = some ((k' : Int), ()) ∧ kf (.sl int) a a' := ZX (e := int) (RM := Xl) (RH := Wl) (fun _ _ => rfl) (fun _ _ => rfl) (by
 have h40 : Cg = 1099511627776 := rfl
 intro o k i hi hB
 have hw : j4 .i64 (((k : Nat) : Int) + 1) = (((k + 1) : Nat) : Int) := Le (by omega)
 refine ⟨((k : Nat) : Int), k + 1, by omega, by omega, ?_, ?_⟩
 ·simp only [Xl]
  rw [Ia (show (i : Int) < (ja o : Int) by omega)]
  simp only [hw, yt, Kr, List.length_set, Ia hi, jn, je hi, List.getElem?_set_self hi, jb, List.set_set, z3, yu]
 ·intro o2 hi2 h2
  simp only [Wl]
  rw [Ia (show (i : Int) < (ja o2 : Int) by omega), Lc hi2, h2]
  simp only [hw, yt, jb, bne_self_eq_false', yu, z3]) (by
 intro o k
 simp only [Xl]
 rw [Ja (by omega)]
 rfl) (by
 intro o k
 simp only [Wl]
 rw [Ja (by omega)]
 rfl) a k hk
theorem KL (a : (List Wa)) (k : Nat) (hk : k + 8 * Db (.sl Jb) a ≤ Cg) : ∃ (a' : (List Wa)) (k' : Nat), k ≤ k' ∧ k' ≤ k + 8 * Db (.sl Jb) a ∧ Jt a (k : Int) = some (a', ((k' : Int), ())) ∧ Py a' (k : Int) = some ((k' : Int), ()) ∧ kf (.sl Jb) a a' := ZX (e := Jb) (RM := Gj) (RH := Fj) (fun _ _ => rfl) (fun _ _ => rfl) (by
 have h40 : Cg = 1099511627776 := rfl
 intro o k i hi hB
 have hw : j4 .i64 (((k : Nat) : Int) + 1) = (((k + 1) : Nat) : Int) ∧ j4 .i64 ((((k + 1) : Nat) : Int) + 1) = (((k + 2) : Nat) : Int) ∧ j4 .i64 ((((k + 2) : Nat) : Int) + 1) = (((k + 3) : Nat) : Int) ∧ j4 .i64 ((((k + 3) : Nat) : Int) + 1) = (((k + 4) : Nat) : Int) := ⟨Le (by omega), Le (by omega), Le (by omega), Le (by omega)⟩
 obtain ⟨w0, w1, w2, w3⟩ := hw
 refine ⟨(((k : Nat) : Int), (((k + 1) : Nat) : Int), (((k + 2) : Nat) : Int), (((k + 3) : Nat) : Int), ()), k + 4, by omega, by omega, ?_, ?_⟩
 ·simp only [Gj]
  rw [Ia (show (i : Int) < (ja o : Int) by omega)]
  simp only [w0, w1, w2, w3, yt, Kr, List.length_set, Ia hi, jn, je hi, List.getElem?_set_self hi, jb, List.set_set, z3, yu]
 ·intro o2 hi2 h2
  simp only [Fj]
  rw [Ia (show (i : Int) < (ja o2 : Int) by omega), Lc hi2, h2]
  simp only [w0, w1, w2, w3, yt, jb, bne_self_eq_false', yu, z3]) (by
 intro o k
 simp only [Gj]
 rw [Ja (by omega)]
 rfl) (by
 intro o k
 simp only [Fj]
 rw [Ja (by omega)]
 rfl) a k hk
theorem ZJ (a : (List (List Wa))) (k : Nat) (hk : k + 8 * Db (.sl (.sl Jb)) a ≤ Cg) : ∃ (a' : (List (List Wa))) (k' : Nat), k ≤ k' ∧ k' ≤ k + 8 * Db (.sl (.sl Jb)) a ∧ As a (k : Int) = some (a', ((k' : Int), ())) ∧ Kx a' (k : Int) = some ((k' : Int), ()) ∧ kf (.sl (.sl Jb)) a a' := ZX (e := (.sl Jb)) (RM := Oi) (RH := Ni) (fun _ _ => rfl) (fun _ _ => rfl) (by
 have h40 : Cg = 1099511627776 := rfl
 intro o k i hi hB
 obtain ⟨y0, k0, g0, i0, m0, n0, _⟩ := KL o[i] k (by omega)
 have d0 : decide ((k0 : Int) < 0) = false := Ja (by omega)
 refine ⟨y0, k0, by omega, by omega, ?_, ?_⟩
 ·simp only [Oi]
  rw [Ia (show (i : Int) < (ja o : Int) by omega)]
  simp only [m0, yt, Kr, List.length_set, Ia hi, jn, je hi, List.getElem?_set_self hi, jb, List.set_set, z3, yu]
 ·intro o2 hi2 h2
  simp only [Ni]
  rw [Ia (show (i : Int) < (ja o2 : Int) by omega), Lc hi2, h2]
  simp only [n0, d0, yt, jb, bne_self_eq_false', yu, z3]) (by
 intro o k
 simp only [Oi]
 rw [Ja (by omega)]
 rfl) (by
 intro o k
 simp only [Ni]
 rw [Ja (by omega)]
 rfl) a k hk
theorem ID (a : Ea) (k : Nat) (hk : k + 8 * Db Oa a ≤ Cg) : ∃ (a' : Ea) (k' : Nat), k ≤ k' ∧ k' ≤ k + 8 * Db Oa a ∧ Tk a (k : Int) = some (a', ((k' : Int), ())) ∧ Rz a' (k : Int) = some ((k' : Int), ()) ∧ kf Oa a a' := by
 have h40 : Cg = 1099511627776 := rfl
 have hs : Db Oa a = Db (.sl (.sl Jb)) a.2.1 := by simp only [Db, qy, js, jt]
 obtain ⟨x0, k0, g0, i0, m0, n0, f0⟩ := ZJ a.2.1 k (by omega)
 refine ⟨(a.1, x0, ()), k0, by omega, by omega, ?_, ?_, JL _ _, f0, rfl⟩
 ·unfold Tk
  simp only [m0, jb]
 ·unfold Rz
  simp only [n0, jb]
  rw [Ja (by omega)]
  simp only [yu]
def Ec (k c m n : Int) : Prop :=
 ((k = 0 ∨ k = 1 ∨ k = 10) ∧ c = 0 ∧ m = 0 ∧ n = 0) ∨
 (k = 2 ∧ n = 0 ∧ (c = 0 ∨ 1 ≤ c ∧ c ≤ 56) ∧ (m = 0 ∨ 1 ≤ m ∧ m ≤ 15) ∧ (c ≠ 0 ∨ m ≠ 0)) ∨
 ((k = 3 ∨ k = 4) ∧ c = 0 ∧ m = 0 ∧ 1 ≤ n ∧ n ≤ 3) ∨
 ((k = 5 ∨ k = 9) ∧ c = 0 ∧ m = 0 ∧ 0 ≤ n ∧ n ≤ 3) ∨
 (k = 6 ∧ 1 ≤ c ∧ c ≤ 56 ∧ 1 ≤ m ∧ m ≤ 15 ∧ n = 0) ∨
 (k = 7 ∧ 1 ≤ c ∧ c ≤ 56 ∧ m = 0 ∧ 1 ≤ n ∧ n ≤ 3) ∨
 (k = 8 ∧ c = 0 ∧ 1 ≤ m ∧ m ≤ 15 ∧ n = 0)
noncomputable def Mc (a : Wa) : Bool := open Classical in decide (Ec a.1 a.2.1 a.2.2.1 a.2.2.2.1)
theorem Pb (a : Wa) : Mc a = true ↔ Ec a.1 a.2.1 a.2.2.1 a.2.2.2.1 := by simp [Mc]
theorem Lv (c : Int) : Hl c = some (decide (1 ≤ c ∧ c ≤ 56), ()) := by
 simp only [Hl, Rm, Sm]
 apply Jc; simp only [Uc, decide_eq_true_eq, ZB, AC, jq, and_false, false_and, or_false, false_or, and_true, true_and, not_true_eq_false, not_false_eq_true]; try omega
theorem DB (c : Int) : Il c = some (decide (1 ≤ c ∧ c ≤ 15), ()) := by
 simp only [Il, Rm, Sm]
 apply Jc; simp only [Uc, decide_eq_true_eq, ZB, AC, jq, and_false, false_and, or_false, false_or, and_true, true_and, not_true_eq_false, not_false_eq_true]; try omega
theorem Pz (c : Int) : Fm c = some (decide (1 ≤ c ∧ c ≤ 3), ()) := by
 simp only [Fm, Rm, Sm]
 apply Jc; simp only [Uc, decide_eq_true_eq, ZB, AC, jq, and_false, false_and, or_false, false_or, and_true, true_and, not_true_eq_false, not_false_eq_true]; try omega
theorem Pf (c a b : Int) : Ke c a b = some (decide (a ≤ c ∧ c ≤ b), ()) := by
 simp only [Ke, Rm, Sm]
 apply Jc; simp only [Uc, decide_eq_true_eq, ZB, AC, jq, and_false, false_and, or_false, false_or, and_true, true_and, not_true_eq_false, not_false_eq_true]; try omega
theorem Ht (a : Wa) : Fh a = some (Mc a, ()) := by
 obtain ⟨k, c, m, n, u⟩ := a
 have key : ∀ k c m n : Int, Fh (k, c, m, n, u) = some (Mc (k, c, m, n, u), ()) := by
  intro k c m n
  simp only [Fh, Lv, DB, Pz, Pf, jb, Rm, Sm]
  by_cases h0 : k = 0
  ·subst h0; apply Jc; rw [Pb]; simp [Ec, Uc]; try omega
  by_cases h1 : k = 1
  ·subst h1; apply Jc; rw [Pb]; simp [Ec, Uc]; try omega
  by_cases h2 : k = 2
  ·subst h2; apply Jc; rw [Pb]; simp [Ec, Uc]; intro hn; (repeat' split) <;> omega
  by_cases h3 : k = 3
  ·subst h3; apply Jc; rw [Pb]; simp [Ec, Uc]; try omega
  by_cases h4 : k = 4
  ·subst h4; apply Jc; rw [Pb]; simp [Ec, Uc]; try omega
  by_cases h5 : k = 5
  ·subst h5; apply Jc; rw [Pb]; simp [Ec, Uc]; try omega
  by_cases h6 : k = 6
  ·subst h6; apply Jc; rw [Pb]; simp [Ec, Uc]; try omega
  by_cases h7 : k = 7
  ·subst h7; apply Jc; rw [Pb]; simp [Ec, Uc]; try omega
  by_cases h8 : k = 8
  ·subst h8; apply Jc; rw [Pb]; simp [Ec, Uc]; try omega
  by_cases h9 : k = 9
  ·subst h9; apply Jc; rw [Pb]; simp [Ec, Uc]; try omega
  by_cases h10 : k = 10
  ·subst h10; apply Jc; rw [Pb]; simp [Ec, Uc]; try omega
  have g : ∀ j : Int, (k == j) = decide (k = j) := fun j => by rw [Bool.eq_iff_iff]; simp
  apply Jc; rw [Pb]; simp [Ec, Uc, h0, h1, h2, h3, h4, h5, h6, h7, h8, h9, h10]
 exact key k c m n
theorem Kn (a : Wa) : Ih a = some (Mc a, ()) := by
 obtain ⟨k, c, m, n, u⟩ := a
 have key : ∀ k c m n : Int, Ih (k, c, m, n, u) = some (Mc (k, c, m, n, u), ()) := by
  intro k c m n
  simp only [Ih, Lv, DB, Pz, Pf, jb, Rm, Sm]
  by_cases h0 : k = 0
  ·subst h0; apply Jc; rw [Pb]; simp [Ec, Uc]; try omega
  by_cases h1 : k = 1
  ·subst h1; apply Jc; rw [Pb]; simp [Ec, Uc]; try omega
  by_cases h2 : k = 2
  ·subst h2; apply Jc; rw [Pb]; simp [Ec, Uc]; intro hn; (repeat' split) <;> omega
  by_cases h3 : k = 3
  ·subst h3; apply Jc; rw [Pb]; simp [Ec, Uc]; try omega
  by_cases h4 : k = 4
  ·subst h4; apply Jc; rw [Pb]; simp [Ec, Uc]; try omega
  by_cases h5 : k = 5
  ·subst h5; apply Jc; rw [Pb]; simp [Ec, Uc]; try omega
  by_cases h6 : k = 6
  ·subst h6; apply Jc; rw [Pb]; simp [Ec, Uc]; try omega
  by_cases h7 : k = 7
  ·subst h7; apply Jc; rw [Pb]; simp [Ec, Uc]; try omega
  by_cases h8 : k = 8
  ·subst h8; apply Jc; rw [Pb]; simp [Ec, Uc]; try omega
  by_cases h9 : k = 9
  ·subst h9; apply Jc; rw [Pb]; simp [Ec, Uc]; try omega
  by_cases h10 : k = 10
  ·subst h10; apply Jc; rw [Pb]; simp [Ec, Uc]; try omega
  have g : ∀ j : Int, (k == j) = decide (k = j) := fun j => by rw [Bool.eq_iff_iff]; simp
  apply Jc; rw [Pb]; simp [Ec, Uc, h0, h1, h2, h3, h4, h5, h6, h7, h8, h9, h10]
 exact key k c m n
noncomputable def Ii (nl : Nat) (i : Nat) (a : Wa) : Bool := Mc a && !(((i : Int) == 0) && (a.1 == 1)) && !((a.1 != 9) && decide (a.2.2.2.1 ≥ (nl : Int)))
noncomputable def Bk (keys : Int) (nl : Nat) (i : Nat) (l : List Wa) : Bool := ((ja l : Int) == keys) && Gf (fun _ a => Ii nl i a) 0 l
noncomputable def Sc (m : Ea) : Bool :=
 decide (1 ≤ m.1 ∧ m.1 ≤ 32) && decide (1 ≤ m.2.1.length ∧ m.2.1.length ≤ 4) && Gf (fun i l => Bk m.1 m.2.1.length i l) 0 m.2.1
theorem BI (m : Ea) (i : Nat) (l : List Wa) (L : List (List Wa)) (n : Int) (t : Int) (hl : l.length < 9223372036854775807) :
 Cj (((), (i : Int), L, n, t, l, (l.length : Int), (0 : Int), ()), (m, ())) =
  some (cond (Gf (fun _ a => Ii m.2.1.length i a) 0 l) (.inl (((), L, n, t, ()), (m, ()))) (.inr ((false, ()), ()))) := by
 unfold Cj
 refine Jg (step := _) l (fun _ a => Ii m.2.1.length i a) (fun j => (((), (i : Int), L, n, t, l, (l.length : Int), j, ()), (m, ()))) _ _ ?_ ?_ hl
 ·intro k hk
  simp only [Yr]
  rw [Ia (show (k : Int) < (l.length : Int) by omega), Lc hk]
  simp only [yt, jb, Ii, Ht]
  cases Mc l[k] <;> cases ((i : Int) == 0) <;> cases (l[k].1 == 1) <;> cases (l[k].1 != 9) <;> cases decide (l[k].2.2.2.1 ≥ (m.2.1.length : Int)) <;> rfl
 ·simp [Yr]
theorem Ky (m : Ea) (hz : Db Oa m ≤ Pa) : Wn m = some (Sc m, ()) := by
 have h20 : Pa = 1048576 := rfl
 have hz' : m.2.1.length + (yq (Db (.sl Jb)) m.2.1).sum ≤ Pa := by
  have : Db Oa m = Db (.sl (.sl Jb)) m.2.1 := by simp only [Db, qy, js]
  rw [this] at hz; exact hz
 have hl : ∀ k (hk : k < m.2.1.length), m.2.1[k].length ≤ Pa := by
  intro k hk
  have := Qn (f := Db (.sl Jb)) hk
  have h2 : m.2.1[k].length ≤ Db (.sl Jb) m.2.1[k] := Nat.le_add_right _ _
  omega
 have hloop : Bj (((), m.2.1, ((ja m.2.1 : Nat) : Int), (0 : Int), ()), (m, ())) =
  some (cond (Gf (fun i l => Bk m.1 m.2.1.length i l) 0 m.2.1) (.inl ((), ())) (.inr ((false, ()), ()))) := by
  unfold Bj
  refine Jg (step := _) m.2.1 (fun i l => Bk m.1 m.2.1.length i l) (fun j => (((), m.2.1, ((ja m.2.1 : Nat) : Int), j, ()), (m, ()))) _ _ ?_ ?_ (by omega)
  ·intro k hk
   have := hl k hk
   simp only [Xr]
   rw [Ia (show (k : Int) < (m.2.1.length : Int) by omega), Lc hk]
   simp only [yt, jb, Bk]
   rw [BI m k _ _ _ _ (by omega)]
   show (cond (!((m.2.1[k].length : Int) == m.1)) _ _) = _
   cases ((m.2.1[k].length : Int) == m.1) <;> cases Gf (fun _ a => Ii m.2.1.length k a) 0 m.2.1[k] <;> rfl
  ·simp [Xr]
 unfold Wn
 rw [hloop]
 simp only [jb, NM, Rm, Sm]
 apply Jc
 simp only [Uc, Sc, jd, decide_eq_true_eq, jq, and_false, false_or, and_true, or_false]
 generalize Gf (fun i l => Bk m.1 m.2.1.length i l) 0 m.2.1 = b
 constructor
 ·rintro ⟨h1, h2, h3, h4, h5⟩; exact ⟨⟨by omega, by omega⟩, h5⟩
 ·rintro ⟨⟨h1, h2⟩, h5⟩; exact ⟨by omega, by omega, by omega, by omega, h5⟩
theorem SI (m : Ea) (i : Nat) (hi : i < m.2.1.length) (hl : m.2.1[i].length < 9223372036854775807) :
 Kj (((), (i : Int), (0 : Int), ()), (m, ())) =
  some (cond (Gf (fun _ a => Ii m.2.1.length i a) 0 m.2.1[i]) (.inl (((), (i : Int), ()), (m, ()))) (.inr ((false, ()), ()))) := by
 unfold Kj
 refine Jg (step := _) m.2.1[i] (fun _ a => Ii m.2.1.length i a) (fun j => (((), (i : Int), j, ()), (m, ()))) _ _ ?_ ?_ hl
 ·intro k hk
  simp only [Cs]
  rw [Lc hi]
  simp only [jb]
  rw [Ia (show (k : Int) < (m.2.1[i].length : Int) by omega), Lc hk]
  simp only [yt, jb, Ii, Kn]
  cases Mc m.2.1[i][k] <;> cases ((i : Int) == 0) <;> cases (m.2.1[i][k].1 == 1) <;> cases (m.2.1[i][k].1 != 9) <;> cases decide (m.2.1[i][k].2.2.2.1 ≥ (m.2.1.length : Int)) <;> rfl
 ·simp [Cs, Lc hi]
theorem Wy (m : Ea) (hz : Db Oa m ≤ Pa) : Fo m = some (Sc m, ()) := by
 have h20 : Pa = 1048576 := rfl
 have hz' : m.2.1.length + (yq (Db (.sl Jb)) m.2.1).sum ≤ Pa := by
  have : Db Oa m = Db (.sl (.sl Jb)) m.2.1 := by simp only [Db, qy, js]
  rw [this] at hz; exact hz
 have hl : ∀ k (hk : k < m.2.1.length), m.2.1[k].length ≤ Pa := by
  intro k hk
  have := Qn (f := Db (.sl Jb)) hk
  have h2 : m.2.1[k].length ≤ Db (.sl Jb) m.2.1[k] := Nat.le_add_right _ _
  omega
 have hloop : Jj (((), (0 : Int), ()), (m, ())) =
  some (cond (Gf (fun i l => Bk m.1 m.2.1.length i l) 0 m.2.1) (.inl (((), ()), (m, ()))) (.inr ((false, ()), ()))) := by
  unfold Jj
  refine Jg (step := _) m.2.1 (fun i l => Bk m.1 m.2.1.length i l) (fun j => (((), j, ()), (m, ()))) _ _ ?_ ?_ (by omega)
  ·intro k hk
   have := hl k hk
   simp only [Bs]
   rw [Ia (show (k : Int) < (m.2.1.length : Int) by omega), Lc hk]
   simp only [yt, jb, Bk]
   rw [SI m k hk (by omega)]
   show (cond (!((m.2.1[k].length : Int) == m.1)) _ _) = _
   cases ((m.2.1[k].length : Int) == m.1) <;> cases Gf (fun _ a => Ii m.2.1.length k a) 0 m.2.1[k] <;> rfl
  ·simp [Bs]
 unfold Fo
 rw [hloop]
 simp only [jb, NM, Rm, Sm, Pf]
 apply Jc
 simp only [Uc, Sc, jd, decide_eq_true_eq, jq, and_false, false_or, and_true, or_false]
 generalize Gf (fun i l => Bk m.1 m.2.1.length i l) 0 m.2.1 = b
 constructor
 ·rintro ⟨h1, h2, h3⟩; exact ⟨⟨by omega, by omega⟩, h1⟩
 ·rintro ⟨⟨h1, h2⟩, h5⟩; exact ⟨h5, by omega, by omega⟩
theorem W9 {n : Nat} (h : n ≤ 62) : Lk .i64 1 (n : Int) = ((2 ^ n : Nat) : Int) := by
 unfold Lk
 have h1 : min (jy (n : Int)) (IntKind.bits .i64) = n := by
  show min (jy (n : Int)) 64 = n
  rw [jn]; omega
 rw [h1, Int.one_mul]
 have h2 : (2 : Int) ^ n = ((2 ^ n : Nat) : Int) := by simp
 have h3 : 2 ^ n ≤ 2 ^ 62 := Nat.pow_le_pow_right (by omega) h
 rw [h2]
 clear h1 h2
 generalize 2 ^ n = z at h3
 rw [Qh (by omega) (by omega)]
structure Dv (m : Ea) : Prop where
 k1 : 1 ≤ m.1
 k2 : m.1 ≤ 32
 l1 : 1 ≤ m.2.1.length
 l2 : m.2.1.length ≤ 4
 row : ∀ i (h : i < m.2.1.length), (m.2.1[i].length : Int) = m.1
 act : ∀ i (h : i < m.2.1.length) k (hk : k < m.2.1[i].length), Ii m.2.1.length i m.2.1[i][k] = true
theorem Gh {m : Ea} (h : Sc m = true) : Dv m := by
 simp only [Sc, jd, decide_eq_true_eq] at h
 obtain ⟨⟨h1, h2⟩, h3⟩ := h
 rw [Mj] at h3
 refine ⟨h1.1, h1.2, h2.1, h2.2, fun i hi => ?_, fun i hi k hk => ?_⟩
 ·have := h3 i hi
  simp only [js, Bk, jd, beq_iff_eq] at this
  exact this.1
 ·have := h3 i hi
  simp only [js, Bk, jd, beq_iff_eq] at this
  have := Mj.1 this.2 k hk
  simpa using this
theorem GR {nl i : Nat} {a : Wa} (h : Ii nl i a = true) : Mc a = true := by
 simp only [Ii, jd] at h
 exact h.1.1
theorem SU {nl i : Nat} {a : Wa} (h : Ii nl i a = true) (hk : a.1 ≠ 9) : a.2.2.2.1 < (nl : Int) := by
 simp only [Ii, jd, yc, Bool.and_eq_false_iff] at h
 rcases h.2 with h | h
 ·simp at h; exact absurd h hk
 ·simpa using h
def Ju (m k : Int) : Int := Wr .i64 (KC .i64 m k) 1
theorem DH (m : Int) {k : Int} (h : 0 ≤ k) : Kv m k = some (Ju m k, ()) := by
 unfold Kv
 rw [Ia h]; rfl
def Gam : Wa := (0, 0, 0, 0, ())
def Dp (L : List (List Wa)) (i k : Nat) : Wa := (L.getD i []).getD k Gam
theorem PH {L : List (List Wa)} {i k : Nat} (hi : i < L.length) (hk : k < L[i].length) : Dp L i k = L[i][k] := by
 simp [Dp, qd, hi, hk]
theorem TX {α : Type} {L : List (List Wa)} {i k : Nat} (hi : i < L.length) (hk : k < L[i].length) (K : Wa → Option α) :
 (jz (Yb L (i : Int)) fun x => jz (Yb x (k : Int)) K) = K (Dp L i k) := by
 rw [Lc hi]
 simp only [jb]
 rw [Lc hk, PH hi hk]
 rfl
def Wd (L : List (List Wa)) (on : Int) (k : Nat) : Nat → Nat
 | 0 => 0
 | n + 1 => cond ((Ju on ((n + 1 : Nat) : Int) == 1) && ((Dp L (n + 1) k).1 != 1)) (n + 1) (Wd L on k n)
theorem OE {L : List (List Wa)} {on : Int} {k : Nat} : ∀ n, Wd L on k n ≤ n
 | 0 => jo _
 | n + 1 => by
  simp only [Wd]
  cases ((Ju on ((n + 1 : Nat) : Int) == 1) && ((Dp L (n + 1) k).1 != 1)) with
  | true => exact jo _
  | false => exact Nat.le_succ_of_le (OE n)
theorem Qz {m : Ea} (hm : Dv m) (on : Int) {k : Nat} (hk : (k : Int) < m.1) : ∀ n : Nat, n < m.2.1.length →
 Xf ((on, (k : Int), (), (n : Int), ()), (m, ())) = some (cond (Wd m.2.1 on k n == 0) (.inl ((), ())) (.inr ((((Wd m.2.1 on k n : Nat) : Int), ()), ())))
 | 0, _ => by
  unfold Xf
  rw [Vu]
  rfl
 | n + 1, h => by
  have hrow := hm.row (n + 1) h
  unfold Xf
  rw [Vu]
  simp only [Ly]
  rw [Ia (show (((n + 1 : Nat) : Int)) > 0 by omega), DH on (show (0 : Int) ≤ ((n + 1 : Nat) : Int) by omega)]
  simp only [yt, jb]
  rw [TX h (by omega), Qh (by have := hm.l2; omega) (by have := hm.l2; omega), show (((n + 1 : Nat) : Int) - 1) = (n : Int) by omega]
  have ih := Qz hm on hk n (by omega)
  unfold Xf at ih
  simp only [Wd]
  cases h1 : (Ju on ((n + 1 : Nat) : Int) == 1) with
  | false =>
   simp only [Bool.false_and, yu, jb, qe]
   exact ih
  | true =>
   cases h2 : ((Dp m.2.1 (n + 1) k).1 != 1) with
   | true => rfl
   | false =>
    simp only [Bool.and_false, yt, yu, jb, qe]
    exact ih
theorem SJ {m : Ea} (hm : Dv m) (on : Int) {k : Nat} (hk : (k : Int) < m.1) :
 Sq m on (k : Int) = some (((Wd m.2.1 on k (m.2.1.length - 1) : Nat) : Int), ()) := by
 have h1 := hm.l1
 have h2 := hm.l2
 unfold Sq
 rw [Qh (by omega) (by omega), show ((m.2.1.length : Int) - 1) = ((m.2.1.length - 1 : Nat) : Int) by omega, Qz hm on hk _ (by omega)]
 cases h : (Wd m.2.1 on k (m.2.1.length - 1) == 0) with
 | false => rfl
 | true =>
  have h' : Wd m.2.1 on k (m.2.1.length - 1) = 0 := by simpa using h
  rw [h']; rfl
theorem DA {m : Ea} (hm : Dv m) (on : Int) {k : Nat} (hk : (k : Int) < m.1) : ∀ n : Nat, n < m.2.1.length →
 Yf ((on, (k : Int), (), (n : Int), ()), (m, ())) = some (cond (Wd m.2.1 on k n == 0) (.inl ((), ())) (.inr ((((Wd m.2.1 on k n : Nat) : Int), ()), ())))
 | 0, _ => by
  unfold Yf
  rw [Vu]
  rfl
 | n + 1, h => by
  have hrow := hm.row (n + 1) h
  unfold Yf
  rw [Vu]
  simp only [Xy]
  rw [Ia (show (((n + 1 : Nat) : Int)) > 0 by omega), Ia (show (0 : Int) ≤ ((n + 1 : Nat) : Int) by omega)]
  simp only [yt]
  rw [TX h (by omega), Qh (by have := hm.l2; omega) (by have := hm.l2; omega), show (((n + 1 : Nat) : Int) - 1) = (n : Int) by omega]
  have ih := DA hm on hk n (by omega)
  unfold Yf at ih
  simp only [Wd]
  show jz (cond (Ju on ((n + 1 : Nat) : Int) == 1) _ _) _ = _
  cases h1 : (Ju on ((n + 1 : Nat) : Int) == 1) with
  | false =>
   simp only [Bool.false_and, yu, jb, qe]
   exact ih
  | true =>
   cases h2 : ((Dp m.2.1 (n + 1) k).1 != 1) with
   | true => rfl
   | false =>
    simp only [Bool.and_false, yt, yu, jb, qe]
    exact ih
def Co (m : Ea) (on : Int) (k : Nat) : Nat := Wd m.2.1 on k (m.2.1.length - 1)
theorem PE {m : Ea} (hm : Dv m) (on : Int) (k : Nat) : Co m on k < m.2.1.length := by
 have := OE (L := m.2.1) (on := on) (k := k) (m.2.1.length - 1)
 have := hm.l1
 unfold Co
 omega
theorem KK {m : Ea} (hz : Db Oa m ≤ Pa) (hv : Sc m = true) (on : Int) {k : Nat} (hk : (k : Int) < m.1) :
 Xu m on (k : Int) = some (((Co m on k : Nat) : Int), ()) := by
 have hm := Gh hv
 have h1 := hm.l1
 have h2 := hm.l2
 have h3 := hm.k2
 unfold Xu
 rw [Wy m hz, hv, Qh (n := m.1 - 1) (by omega) (by omega)]
 simp only [jb, jg, yu, Pf]
 rw [Ia (show (0 : Int) ≤ (k : Int) ∧ (k : Int) ≤ m.1 - 1 by omega), Qh (by omega) (by omega), show ((m.2.1.length : Int) - 1) = ((m.2.1.length - 1 : Nat) : Int) by omega, DA hm on hk _ (by omega)]
 simp only [jg, yu, jb]
 show _ = some (((Wd m.2.1 on k (m.2.1.length - 1) : Nat) : Int), ())
 cases h : (Wd m.2.1 on k (m.2.1.length - 1) == 0) with
 | false => rfl
 | true =>
  have h' : Wd m.2.1 on k (m.2.1.length - 1) = 0 := by simpa using h
  rw [h']; rfl
theorem RI {m : Ea} (hz : Db Oa m ≤ Pa) (hv : Sc m = true) (on : Int) {k : Nat} (hk : (k : Int) < m.1) :
 Eo m on (k : Int) = some (Dp m.2.1 (Co m on k) k, ()) := by
 have hm := Gh hv
 have hl := PE hm on k
 have hrow := hm.row _ hl
 unfold Eo
 rw [KK hz hv on hk]
 simp only [jb]
 rw [Ja (by omega)]
 simp only [yu]
 rw [TX hl (by omega)]
noncomputable def Ej (a : Wa) : Bool := Mc a && ((a.1 == 6) || (a.1 == 7))
noncomputable def Bz (a : Wa) : Wa := cond (Ej a) (2, a.2.1, 0, 0, ()) a
theorem PG (a : Wa) : Em a = some (Ej a, ()) := by
 unfold Em Ej
 rw [Ht]
 cases Mc a <;> cases (a.1 == 6) <;> rfl
theorem Lx (a : Wa) : Vj a = some (Ej a, ()) := by
 unfold Vj Ej
 rw [Kn]
 cases Mc a <;> cases (a.1 == 6) <;> rfl
theorem QN (a : Wa) : Sx a = some (Bz a, ()) := by
 unfold Sx Bz
 rw [PG]
 cases Ej a <;> rfl
theorem YN (a : Wa) : Wx a = some (Bz a, ()) := by
 unfold Wx Bz
 rw [Lx]
 cases Ej a <;> rfl
def Ze {α : Type} (p : α → Bool) : Nat → List α → Int
 | _, [] => -1
 | k, x :: xs => cond (p x) (k : Int) (Ze p (k + 1) xs)
def H0 {α β : Type} : α ⊕ β → Bool
 | .inl _ => true
 | .inr _ => false
noncomputable def Zt (s : Int) (x : Sa) : Bool := decide (0 ≤ x.1 ∧ x.1 ≤ 31) && (!(Ju s x.1 == 1) && (Mc x.2.1 && (!(x.2.1.1 == 1) && (!(x.2.1.1 == 6) && !(x.2.1.1 == 7)))))
noncomputable def Cw (s : Int) (x : Sa) : Int ⊕ Unit := cond (Zt s x) (.inl (Ce .i64 s (Lk .i64 1 x.1))) (.inr ())
noncomputable def SX (l : List Sa) : Int ⊕ Unit := Mg (fun _ s x => Cw s x) 0 0 l
noncomputable def Mi (l : List Sa) : Bool := H0 (SX l)
theorem BB (l : List Sa) (hn : l.length ≤ Pa) : Pj l = some (Mi l, ()) := by
 have h20 : Pa = 1048576 := rfl
 have hl := Qs (step := fun x => Ip x.1.1 x.1.2.1 x.1.2.2.1 x.1.2.2.2.1) l (fun _ s x => Cw s x) (fun s i => ((s, l, ((ja l : Nat) : Int), i, ()), ()))
  (fun _ => .inl ((), ())) (fun _ => .inr ((false, ()), ())) (fun _ _ => True) (by
   intro k hk s _
   refine ⟨?_, fun _ _ => trivial⟩
   simp only [Ip]
   rw [Ia (show (k : Int) < (ja l : Int) by omega), Lc hk]
   simp only [yt, jb]
   generalize l[k] = x
   simp only [Cw, Zt, Ht, jb]
   by_cases h1 : 0 ≤ x.1
   ·rw [Ja (show ¬ x.1 < 0 by omega), DH s h1]
    by_cases h2 : x.1 ≤ 31
    ·rw [Ja (show ¬ x.1 > 31 by omega), Ia (show 0 ≤ x.1 ∧ x.1 ≤ 31 from ⟨h1, h2⟩), Ia h1]
     simp only [jb, yu]
     cases Ju s x.1 == 1 <;> cases Mc x.2.1 <;> cases x.2.1.1 == 1 <;> cases x.2.1.1 == 6 <;> cases x.2.1.1 == 7 <;> rfl
    ·rw [Ia (show x.1 > 31 by omega), Ja (show ¬ (0 ≤ x.1 ∧ x.1 ≤ 31) by omega)]; rfl
   ·rw [Ia (show x.1 < 0 by omega), Ja (show ¬ (0 ≤ x.1 ∧ x.1 ≤ 31) by omega)]; rfl)
  (by
   intro s _
   simp only [Ip]
   rw [Ja (by omega)]; rfl) (by omega) 0 trivial
 unfold Pj Oq
 erw [hl]
 show jz (some _) _ = _
 simp only [jb, Mi, SX]
 cases Mg (fun x s x => Cw s x) 0 0 l <;> rfl
theorem LB (l : List Sa) (hn : l.length ≤ Pa) : Nl l = some (Mi l, ()) := by
 have h20 : Pa = 1048576 := rfl
 have hl := Qs (step := fun x => Vp x.1.1 x.1.2.1 x.1.2.2.1) l (fun _ s x => Cw s x) (fun s i => ((l, s, i, ()), ()))
  (fun _ => .inl ((), ())) (fun _ => .inr ((false, ()), ())) (fun _ _ => True) (by
   intro k hk s _
   refine ⟨?_, fun _ _ => trivial⟩
   simp only [Vp]
   rw [Ia (show (k : Int) < (ja l : Int) by omega), Lc hk]
   simp only [yt, jb]
   generalize l[k] = x
   simp only [Cw, Zt, Kn, Lx, Pf, jb, Ej]
   by_cases h1 : 0 ≤ x.1 ∧ x.1 ≤ 31
   ·rw [Ia h1, Ia h1.1]
    simp only [Ju]
    cases Wr .i64 (KC .i64 s x.1) 1 == 1 <;> cases Mc x.2.1 <;> cases x.2.1.1 == 1 <;> cases x.2.1.1 == 6 <;> cases x.2.1.1 == 7 <;> rfl
   ·rw [Ja h1]; rfl)
  (by
   intro s _
   simp only [Vp]
   rw [Ja (by omega)]; rfl) (by omega) 0 trivial
 unfold Nl Zq
 erw [hl]
 show jz (some _) _ = _
 simp only [jb, Mi, SX]
 cases Mg (fun x s x => Cw s x) 0 0 l <;> rfl
structure KP (x : Sa) : Prop where
 lo : 0 ≤ x.1
 hi : x.1 ≤ 31
 act : Mc x.2.1 = true
 n1 : x.2.1.1 ≠ 1
 n6 : x.2.1.1 ≠ 6
 n7 : x.2.1.1 ≠ 7
theorem Iac {s : Int} {x : Sa} (h : Zt s x = true) : KP x ∧ Ju s x.1 ≠ 1 := by
 simp only [Zt, jd, decide_eq_true_eq, yc, beq_eq_false_iff_ne] at h
 exact ⟨⟨h.1.1, h.1.2, h.2.2.1, h.2.2.2.1, h.2.2.2.2.1, h.2.2.2.2.2⟩, h.2.1⟩
theorem OQ : ∀ {l : List Sa} {k : Nat} {s : Int}, H0 (Mg (fun _ s x => Cw s x) k s l) = true → ∀ x ∈ l, KP x
 | [], _, _, _, x, hx => by simp at hx
 | y :: l, k, s, h, x, hx => by
  simp only [Mg, Cw] at h
  cases hc : Zt s y with
  | false => rw [hc] at h; simp [H0] at h
  | true =>
   rw [hc] at h
   simp only [yt] at h
   rcases jp.1 hx with rfl | hx
   ·exact (Iac hc).1
   ·exact OQ h x hx
theorem G0 {l : List Sa} (h : Mi l = true) : ∀ x ∈ l, KP x := OQ h
theorem TM {α : Type} (p : α → Bool) : ∀ (xs : List α) (k : Nat), Ze p k xs = -1 ∨ ∃ j : Nat, j < xs.length ∧ Ze p k xs = ((k + j : Nat) : Int)
 | [], _ => .inl rfl
 | x :: xs, k => by
  simp only [Ze]
  cases p x with
  | true => exact .inr ⟨0, by simp, by simp⟩
  | false =>
   rcases TM p xs (k + 1) with h | ⟨j, h1, h2⟩
   ·exact .inl h
   ·exact .inr ⟨j + 1, by simp; omega, by simp only [yu]; rw [h2]; omega⟩
theorem CE {α : Type} (p : α → Bool) : ∀ (xs : List α) (k : Nat), (Mg (fun k (_ : Unit) x => cond (p x) (.inr (k : Int)) (.inl ())) k () xs : Unit ⊕ Int) = if Ze p k xs = -1 then .inl () else .inr (Ze p k xs)
 | [], _ => rfl
 | x :: xs, k => by
  rcases Bool.eq_false_or_eq_true (p x) with hp | hp
  ·simp only [Mg, Ze, hp, yt]; rw [if_neg (by omega)]
  ·simp only [Mg, Ze, hp, yu]; exact CE p xs (k + 1)
theorem MA {X R α : Type} {step : X → Option (X ⊕ R)} (xs : List α) (p : α → Bool) (I : Int → X) (no : R) (yes : Int → R)
 (h : ∀ k (hk : k < xs.length), step (I (k : Int)) = some (cond (p xs[k]) (.inr (yes (k : Int))) (.inl (I (j4 .i64 ((k : Int) + 1))))))
 (he : step (I (xs.length : Int)) = some (.inr no)) (hn : xs.length < 9223372036854775807) :
 Bb step (I 0) = some (if Ze p 0 xs = -1 then no else yes (Ze p 0 xs)) := by
 have := Qs (step := step) xs (fun k (_ : Unit) x => cond (p x) (.inr (k : Int)) (.inl ())) (fun _ i => I i) (fun _ => no) yes (fun _ _ => True) (fun k hk s _ => by
  refine ⟨?_, fun _ _ => trivial⟩
  rw [h k hk]
  cases p xs[k] <;> rfl) (fun _ _ => he) hn () trivial
 rw [this, CE]
 by_cases hc : Ze p 0 xs = -1
 ·rw [if_pos hc, if_pos hc]
 ·rw [if_neg hc, if_neg hc]
def Qu (c m : Int) (h : Sa) : Bool := (h.2.1.2.1 == c) && (h.2.1.2.2.1 == m)
theorem YL (l : List Sa) (x : Fe) (hn : l.length ≤ Pa) : Oo l x = some (Ze (Qu x.2.1 x.2.2.1) 0 l, ()) := by
 have h20 : Pa = 1048576 := rfl
 have hl := MA (step := fun y => Zp y.1.1 y.1.2.1 y.1.2.2.1 y.2.1) l (Qu x.2.1 x.2.2.1) (fun i => ((l, (), i, ()), (x, ())))
  (.inl ((), ())) (fun i => .inr ((i, ()), ())) (by
   intro k hk
   simp only [Zp]
   rw [Ia (show (k : Int) < (ja l : Int) by omega), Lc hk]
   simp only [yt, jb, Qu]
   cases l[k].2.1.2.1 == x.2.1 <;> cases l[k].2.1.2.2.1 == x.2.2.1 <;> rfl) (by
   simp only [Zp]
   rw [Ja (by omega)]; rfl) (by omega)
 unfold Oo Dr
 erw [hl]
 simp only [jb]
 by_cases hc : Ze (Qu x.2.1 x.2.2.1) 0 l = -1
 ·rw [if_pos hc, hc]; rfl
 ·rw [if_neg hc]; rfl
def MG {α : Type} (l : List α) (r : Nat) : List α := jf (Ad l 0 r) (Ad l (r + 1) l.length)
theorem QZ {α : Type} {l : List α} {r : Nat} (h : r < l.length) : We (ja l) 0 (r : Int) = true ∧ We (ja l) ((r + 1 : Nat) : Int) ((ja l : Nat) : Int) = true := by
 simp only [We, jd, decide_eq_true_eq]
 omega
theorem TG (l : List Sa) {r : Nat} (h : r < l.length) (hn : l.length ≤ Pa) : Ff l (r : Int) = some (MG l r, ()) := by
 have h20 : Pa = 1048576 := rfl
 have hc := QZ h
 unfold Ff
 rw [Le (by omega), hc.1, hc.2]
 have e1 : jx (ja ([] : List Sa) + ja (Ad l (jy 0) (jy (r : Int)))) Ob = true := ji (by simp [Ad]; rw [Vi]; omega)
 have e2 : jx (ja (jf ([] : List Sa) (Ad l (jy 0) (jy (r : Int)))) + ja (Ad l (jy ((r + 1 : Nat) : Int)) (jy ((ja l : Nat) : Int)))) Ob = true :=
  ji (by simp [Ad]; rw [Vi]; omega)
 rw [e1, e2]
 simp only [yt]
 rfl
noncomputable def DM (x : Fe) (r : Int) : Bool := Mc (2, x.2.1, x.2.2.1, 0, ()) && (((x.1 == 0) && !decide (r ≥ 0)) || (((x.1 == 1) && !decide (r ≥ 0)) || ((x.1 == 2) && decide (r ≥ 0))))
def NQ (x : Fe) : Sa := (0, (2, x.2.1, x.2.2.1, 0, ()), ())
def V3 (x : Fe) (L : List Sa) (r : Int) : List Sa := cond (x.1 == 1) (jf L [NQ x]) (cond (x.1 == 2) (MG L r.toNat) L)
noncomputable def RE (L : List Sa) (x : Fe) : List Sa ⊕ Unit := cond (DM x (Ze (Qu x.2.1 x.2.2.1) 0 L)) (.inl (V3 x L (Ze (Qu x.2.1 x.2.2.1) 0 L))) (.inr ())
theorem H9 {L L' : List Sa} {x : Fe} (h : RE L x = .inl L') : L'.length ≤ L.length + 1 := by
 unfold RE at h
 cases hc : DM x (Ze (Qu x.2.1 x.2.2.1) 0 L) with
 | false => rw [hc] at h; simp at h
 | true =>
  rw [hc] at h
  simp only [yt, Sum.inl.injEq] at h
  rw [← h]
  unfold V3
  cases x.1 == 1 with
  | true => simp
  | false =>
   cases x.1 == 2 with
   | true => simp [MG, Ad]; omega
   | false => simp
theorem AO (l : List Fe) (k : Nat) (hk : k < l.length) (L : List Sa) (hL : L.length ≤ k) (hn : l.length ≤ Pa) :
 Fk l L (k : Int) = some (match RE L l[k] with | .inl L' => .inl ((l, L', j4 .i64 ((k : Int) + 1), ()), ()) | .inr _ => .inr (.inr ((false, ()), ()))) := by
 have h20 : Pa = 1048576 := rfl
 simp only [Fk]
 rw [Ia (show (k : Int) < (ja l : Int) by omega), Lc hk]
 simp only [yt, jb]
 rw [YL L l[k] (by omega)]
 simp only [jb, Pf, Io, Kn, RE, DM, V3, NQ]
 generalize hx : l[k] = x
 generalize hr : Ze (Qu x.2.1 x.2.2.1) 0 L = r
 have hble : jx (ja L + ja [NQ x]) Ob = true := ji (by simp [Vi]; omega)
 have hble' : jx (ja L + ja ([((0 : Int), ((2 : Int), x.2.1, x.2.2.1, (0 : Int), ()), ())] : List Sa)) Ob = true := hble
 have hw : decide (r ≥ 0) = true → Ff L r = some (MG L r.toNat, ()) := by
  intro h
  rcases TM (Qu x.2.1 x.2.2.1) L 0 with h1 | ⟨j, h1, h2⟩
  ·rw [hr] at h1; rw [h1] at h; simp at h
  ·rw [hr] at h2
   have : r = (j : Int) := by omega
   rw [this, TG L h1 (by omega)]
   simp
 by_cases k0 : x.1 = 0
 ·simp only [k0]
  cases Mc ((2 : Int), x.2.1, x.2.2.1, (0 : Int), ()) <;> cases decide (r ≥ 0) <;> rfl
 by_cases k1 : x.1 = 1
 ·simp only [k1]
  rw [hble']
  cases Mc ((2 : Int), x.2.1, x.2.2.1, (0 : Int), ()) <;> cases decide (r ≥ 0) <;> rfl
 by_cases k2 : x.1 = 2
 ·simp only [k2]
  cases hd : decide (r ≥ 0) with
  | false => cases Mc ((2 : Int), x.2.1, x.2.2.1, (0 : Int), ()) <;> rfl
  | true =>
   rw [hw hd]
   cases Mc ((2 : Int), x.2.1, x.2.2.1, (0 : Int), ()) <;> rfl
 ·have e0 : (x.1 == 0) = false := by simpa using k0
  have e1 : (x.1 == 1) = false := by simpa using k1
  have e2 : (x.1 == 2) = false := by simpa using k2
  rw [Ja (show ¬ (0 ≤ x.1 ∧ x.1 ≤ 2) by omega), e0, e1, e2]
  cases Mc ((2 : Int), x.2.1, x.2.2.1, (0 : Int), ()) <;> rfl
noncomputable def Fac (l : List Fe) : List Sa ⊕ Unit := Mg (fun _ L x => RE L x) 0 [] l
noncomputable def It (l : List Fe) : Bool := decide (l.length ≤ 8) && (match Fac l with | .inl L => ((L.length : Int) == 0) | .inr _ => false)
theorem JK (l : List Fe) (hn : l.length ≤ Pa) : Ar l = some (It l, ()) := by
 have h20 : Pa = 1048576 := rfl
 have hl := Qs (step := fun x => Fk x.1.1 x.1.2.1 x.1.2.2.1) l (fun _ L x => RE L x) (fun L i => ((l, L, i, ()), ()))
  (fun L => .inl ((l, L, ()), ())) (fun _ => .inr ((false, ()), ())) (fun k L => L.length ≤ k) (by
   intro k hk L hL
   refine ⟨?_, fun L' h => by have := H9 h; omega⟩
   rw [AO l k hk L hL hn]
   cases RE L l[k] <;> rfl) (by
   intro s _
   simp only [Fk]
   rw [Ja (by omega)]; rfl) (by omega) [] (by simp)
 unfold Ar Zo
 erw [hl]
 simp only [jb, It, Fac]
 cases Mg (fun x L x => RE L x) 0 [] l with
 | inl L =>
  simp only [qe]
  by_cases h : l.length ≤ 8
  ·rw [Ia (show ((ja l : Nat) : Int) ≤ 8 by omega), Ia h]; rfl
  ·rw [Ja (show ¬ ((ja l : Nat) : Int) ≤ 8 by omega), Ja h]; rfl
 | inr u => cases decide (l.length ≤ 8) <;> rfl
noncomputable def Ko (keys : Int) (nl : Nat) (x : Sa) : Bool := !decide (x.1 ≥ keys) && !((x.2.1.1 != 9) && decide (x.2.1.2.2.2.1 ≥ (nl : Int)))
noncomputable def Ut (e : Hb) : Bool :=
 Sc e.1 && (decide (e.2.1.length ≤ 4) && (Mi e.2.2.2.1 && (Gf (fun _ m => It m) 0 e.2.1 && (Gf (fun _ x => Ko e.1.1 e.1.2.1.length x) 0 e.2.2.2.1 &&
  (decide (0 ≤ e.2.2.1 ∧ e.2.2.1 < ((2 ^ e.1.2.1.length : Nat) : Int)) && ((Int.tmod e.2.2.1 2 == 0) && decide (0 ≤ e.2.2.2.2.1 ∧ e.2.2.2.2.1 ≤ 15)))))))
theorem WA (e : Hb) : Db Kb e = Db Oa e.1 + (Db (.sl (.sl Oh)) e.2.1 + Db (.sl Bm) e.2.2.2.1) := by
 simp only [Db, qy, js]
theorem NB (l : List Sa) : Db (.sl Bm) l = l.length := Az (e := Bm) rfl l
theorem FV (l : List Fe) : Db (.sl Oh) l = l.length := Az (e := Oh) rfl l
theorem Y9 {e : Ty} (l : List (T e)) : ja l ≤ Db (.sl e) l := Nat.le_add_right _ _
theorem Uac {e : Ty} {l : List (T e)} {k : Nat} (hk : k < ja l) : Db e (List.get l ⟨k, hk⟩) ≤ Db (.sl e) l :=
 j8 (Qn (f := Db e) hk) (Nat.le_add_left _ _)
theorem MK (e : Hb) (hz : Db Kb e ≤ Pa) : Hj (((), (0 : Int), ()), (e, ())) =
 some (cond (Gf (fun _ m => It m) 0 e.2.1) (.inl (((), ()), (e, ()))) (.inr ((false, ()), ()))) := by
 have h20 : Pa = 1048576 := rfl
 rw [WA] at hz
 have hl := Y9 (e := .sl Oh) e.2.1
 unfold Hj
 refine Jg (step := fun x => Yl x.1.1 x.1.2.1 x.2.1) e.2.1 (fun _ m => It m) (fun i => (((), i, ()), (e, ()))) _ _ ?_ ?_ (by omega)
 ·intro k hk
  simp only [Yl]
  have hk2 : (k : Int) < ((ja e.2.1 : Nat) : Int) := by omega
  rw [Ia hk2, Lc hk]
  simp only [yt, jb]
  have he := Uac (e := .sl Oh) hk
  rw [FV] at he
  rw [JK e.2.1[k] (by have : (List.get e.2.1 ⟨k, hk⟩) = e.2.1[k] := rfl; rw [this] at he; omega)]
  simp only [jb]
  cases It e.2.1[k] <;> rfl
 ·simp only [Yl]
  rw [Ja (by omega)]; rfl
theorem ZN (e : Hb) (hz : Db Kb e ≤ Pa) : Ij (((), (0 : Int), ()), (e, ())) =
 some (cond (Gf (fun _ x => Ko e.1.1 e.1.2.1.length x) 0 e.2.2.2.1) (.inl (((), ()), (e, ()))) (.inr ((false, ()), ()))) := by
 have h20 : Pa = 1048576 := rfl
 rw [WA, NB] at hz
 unfold Ij
 refine Jg (step := fun x => Zl x.1.1 x.1.2.1 x.2.1) e.2.2.2.1 (fun _ x => Ko e.1.1 e.1.2.1.length x) (fun i => (((), i, ()), (e, ()))) _ _ ?_ ?_ (by omega)
 ·intro k hk
  simp only [Zl]
  have hk2 : (k : Int) < ((ja e.2.2.2.1 : Nat) : Int) := by omega
  rw [Ia hk2, Lc hk]
  simp only [yt, jb, Ko]
  cases decide (e.2.2.2.1[k].1 ≥ e.1.1) <;> cases (e.2.2.2.1[k].2.1.1 != 9) <;> cases decide (e.2.2.2.1[k].2.1.2.2.2.1 ≥ ((ja e.1.2.1 : Nat) : Int)) <;> rfl
 ·simp only [Zl]
  rw [Ja (by omega)]; rfl
theorem Wh (e : Hb) (hz : Db Kb e ≤ Pa) : Eg e = some (Ut e, ()) := by
 have h20 : Pa = 1048576 := rfl
 have hz' := hz
 rw [WA, NB] at hz'
 unfold Eg Ut
 rw [Wy e.1 (by omega)]
 cases hk : Sc e.1 with
 | false => rfl
 | true =>
  simp only [jb, jg, yu, jk]
  by_cases h4 : e.2.1.length ≤ 4
  ·rw [Ja (show ¬ ((ja e.2.1 : Nat) : Int) > 4 by omega), Ia h4, LB _ (by omega)]
   simp only [jb, yu, jk]
   cases hh : Mi e.2.2.2.1 with
   | false => rfl
   | true =>
    simp only [jg, yu, jk]
    rw [MK e hz]
    have hl := (Gh hk).l2
    cases Gf (fun _ m => It m) 0 e.2.1 with
    | false => rfl
    | true =>
     simp only [yt, jb, qe, jk]
     rw [ZN e hz]
     cases Gf (fun _ x => Ko e.1.1 e.1.2.1.length x) 0 e.2.2.2.1 with
     | false => rfl
     | true =>
      simp only [yt, jb, qe, jk, Pf]
      have hp : (2 ^ e.1.2.1.length : Nat) ≤ 16 := Nat.pow_le_pow_right (n := 2) (by omega) hl
      rw [W9 (by omega), Ia (show (0 : Int) ≤ ((ja e.1.2.1 : Nat) : Int) by omega)]
      generalize (2 ^ e.1.2.1.length : Nat) = P2 at hp ⊢
      rw [Qh (by omega) (by omega)]
      have e2 : ((2 : Int) == 0) = false := rfl
      rw [e2]
      simp only [yu, yt, jb]
      have e3 : decide (0 ≤ e.2.2.1 ∧ e.2.2.1 ≤ (P2 : Int) - 1) = decide (0 ≤ e.2.2.1 ∧ e.2.2.1 < (P2 : Int)) := by
       rw [decide_eq_decide]; omega
      rw [e3]
      cases decide (0 ≤ e.2.2.1 ∧ e.2.2.1 < (P2 : Int)) <;> cases Int.tmod e.2.2.1 2 == 0 <;> rfl
  ·rw [Ia (show ((ja e.2.1 : Nat) : Int) > 4 by omega), Ja h4]; rfl


def Kh {S : Type} (g : Nat → S → S) : Nat → S → S
 | 0, s => s
 | n + 1, s => g n (Kh g n s)
theorem LA {X R S : Type} {step : X → Option (X ⊕ R)} (n : Nat) (hn : n < 9223372036854775807) (g : Nat → S → S) (s0 : S) (I : S → Int → X) (out : S → R)
 (h : ∀ k, k < n → step (I (Kh g k s0) (k : Int)) = some (.inl (I (g k (Kh g k s0)) (j4 .i64 ((k : Int) + 1))))) (he : step (I (Kh g n s0) (n : Int)) = some (.inr (out (Kh g n s0)))) :
 Bb step (I s0 0) = some (out (Kh g n s0)) := by
 have := Qw (step := step) (fun k => I (Kh g k s0) (k : Int)) n (out (Kh g n s0)) (fun k hk => by
  rw [h k hk, Le (by omega)]; rfl) he
 exact this
theorem E7 {e : Ty} {c : Nat} : ∀ {w : List (T e)}, (∀ x ∈ w, Db e x ≤ c) → Db (.sl e) w ≤ (c + 1) * w.length
 | [], _ => by simp [Db]
 | x :: r, h => by
  have h1 := h x (by simp)
  have h2 : Db (.sl e) r ≤ (c + 1) * r.length := E7 fun y hy => h y (by simp [hy])
  have h3 : Db (.sl e) r = ja r + (yq (Db e) r).sum := rfl
  have h4 : Db (.sl e) (x :: r) = (ja r + 1) + (Db e x + (yq (Db e) r).sum) := by simp [Db]
  rw [h4, jw, Nat.mul_add]
  omega
theorem Ue {n : Nat} (h : n ≤ 1073741824) : jx n Ob = true := ji h
theorem OJ {α β : Type} (f : α → β) : ∀ (xs : List α) (k : Nat) (o : List β), Nh (fun _ o x => jf o [f x]) k o xs = o ++ xs.map f
 | [], _, o => by simp [Nh]
 | x :: r, k, o => by
  simp only [Nh]
  rw [OJ f r]
  simp
theorem Pw {X R α β : Type} {step : X → Option (X ⊕ R)} (xs : List α) (f : α → β) (I : List β → Int → X) (out : List β → R) (hn : xs.length ≤ 1073741824)
 (h : ∀ k (hk : k < xs.length) (o : List β), ja o = k → step (I o (k : Int)) = some (.inl (I (jf o [f xs[k]]) (j4 .i64 ((k : Int) + 1)))))
 (he : ∀ o : List β, step (I o (xs.length : Int)) = some (.inr (out o))) : Bb step (I [] 0) = some (out (xs.map f)) := by
 have := (Uu (step := step) xs (fun _ o x => jf o [f x]) I out (fun k o => ja o = k) (fun k hk o ho => ⟨h k hk o ho, by simp [ho]⟩) (fun o _ => he o) (by omega) [] rfl).1
 rw [this, OJ]
 rfl
theorem Tac (a : List Int) : Db (.sl int) a = a.length := Az (e := int) rfl a
theorem B2 (a : List Wa) : Db (.sl Jb) a = a.length := Az (e := Jb) rfl a
theorem XL (r : Ga) (h : r.2.1.length ≤ Pa) : Hw r = some (r, ()) := by
 have h20 : Pa = 1048576 := rfl
 unfold Hw
 rw [Ue (by simp; omega)]
 rfl
theorem FI (l : List Int) (h : l.length ≤ Pa) : Dg l = some (l, ()) := by
 have h20 : Pa = 1048576 := rfl
 unfold Dg
 rw [Ue (by simp; omega)]
 rfl
def Wu (l : List Int) (k : Nat) (x : Int) : Bool := decide (1 ≤ x ∧ x ≤ 56) && (decide (k = 0) || !decide (l.getD (k - 1) 0 ≥ x))
def Od (r : Ga) : Bool := decide (0 ≤ r.1 ∧ r.1 ≤ 15) && Gf (fun k x => Wu r.2.1 k x) 0 r.2.1
theorem M4 {l : List Int} {k : Nat} (h0 : 0 < k) (hk : k ≤ l.length) (hn : l.length ≤ Pa) : Yb l (j4 .i64 ((k : Int) - 1)) = some (l.getD (k - 1) 0) := by
 have h20 : Pa = 1048576 := rfl
 rw [Qh (by omega) (by omega), show (k : Int) - 1 = ((k - 1 : Nat) : Int) by omega, Lc (by omega)]
 simp [qm, je (show k - 1 < l.length by omega)]
theorem DI (r : Ga) (hn : r.2.1.length ≤ Pa) : Ws r = some (Od r, ()) := by
 have h20 : Pa = 1048576 := rfl
 have hl := Jg (step := fun x => Tl x.1.1 x.1.2.1 x.1.2.2.1 x.1.2.2.2.1 x.2.1) r.2.1 (fun k x => Wu r.2.1 k x) (fun i => (((), r.2.1, ((ja r.2.1 : Nat) : Int), i, ()), (r, ())))
  (.inl ((), ())) (.inr ((false, ()), ())) (by
   intro k hk
   simp only [Tl]
   rw [Ia (show (k : Int) < ((ja r.2.1 : Nat) : Int) by omega), Lc hk]
   simp only [yt, jb, Lv, Wu]
   by_cases h0 : k = 0
   ·subst h0
    rw [Ja (show ¬ ((0 : Nat) : Int) > 0 by omega)]
    simp only [yu]
    cases decide (1 ≤ r.2.1[0] ∧ r.2.1[0] ≤ 56) <;> rfl
   ·rw [Ia (show (k : Int) > 0 by omega), M4 (by omega) (by omega) hn, Ja h0]
    simp only [yt, jb, yj]
    cases decide (1 ≤ r.2.1[k] ∧ r.2.1[k] ≤ 56) <;> cases decide (r.2.1.getD (k - 1) 0 ≥ r.2.1[k]) <;> rfl) (by
   simp only [Tl]
   rw [Ja (by omega)]; rfl) (by omega)
 unfold Ws Ym Od
 by_cases h1 : 0 ≤ r.1 ∧ r.1 ≤ 15
 ·rw [Ja (show ¬ r.1 < 0 by omega), Ja (show ¬ r.1 > 15 by omega), Ia h1]
  simp only [yu, jk]
  erw [hl]
  cases Gf (fun k x => Wu r.2.1 k x) 0 r.2.1 <;> rfl
 ·rw [Ja h1]
  by_cases h2 : r.1 < 0
  ·rw [Ia h2]; rfl
  ·rw [Ja h2, Ia (show r.1 > 15 by omega)]; rfl
theorem p63 : (2 : Nat) ^ 63 = 9223372036854775808 := rfl
theorem FZ {a : Nat} (ha : a < 2 ^ 63) : (BitVec.ofInt 64 (a : Int)).toNat = a := by
 rw [BitVec.ofInt_natCast, BitVec.toNat_ofNat, Nat.mod_eq_of_lt (by omega)]
theorem N3 {a b : Nat} (ha : a < 2 ^ 63) (hb : b < 2 ^ 63) : Wr .i64 (a : Int) (b : Int) = ((a &&& b : Nat) : Int) := by
 have h : (BitVec.ofInt (IntKind.bits .i64) (a : Int) &&& BitVec.ofInt (IntKind.bits .i64) (b : Int)).toNat = a &&& b := by
  rw [BitVec.toNat_and]; erw [FZ ha, FZ hb]
 unfold Wr
 rw [h]
 have h2 : a &&& b ≤ a := Nat.and_le_left
 have h3 := p63
 exact Qh (by omega) (by omega)
theorem P3 (a : Nat) {k : Nat} (hk : k ≤ 64) : KC .i64 (a : Int) (k : Int) = ((a >>> k : Nat) : Int) := by
 unfold KC
 have h1 : min (jy (k : Int)) (IntKind.bits .i64) = k := by
  show min (jy (k : Int)) 64 = k
  rw [jn]; omega
 rw [h1, Nat.shiftRight_eq_div_pow]
 have h2 : (2 : Int) ^ k = ((2 ^ k : Nat) : Int) := by simp
 rw [h2]
 exact (Int.fdiv_eq_ediv_of_nonneg _ (Int.natCast_nonneg _)).trans (by simp)
theorem Z2 {a k : Nat} (ha : a < 2 ^ 63) (hk : k ≤ 64) : (Ju (a : Int) (k : Int) == 1) = a.testBit k := by
 unfold Ju
 have h1 : a >>> k ≤ a := by rw [Nat.shiftRight_eq_div_pow]; exact Nat.div_le_self _ _
 have h3 := p63
 rw [P3 a hk]
 show (Wr .i64 ((a >>> k : Nat) : Int) ((1 : Nat) : Int) == 1) = _
 rw [N3 (by omega) (by omega), Nat.and_one_is_mod, Nat.testBit_eq_decide_div_mod_eq, Nat.shiftRight_eq_div_pow]
 have : a / 2 ^ k % 2 = 0 ∨ a / 2 ^ k % 2 = 1 := by omega
 rcases this with h | h <;> rw [h] <;> rfl
def cnt : Nat → Nat → Nat
 | 0, _ => 0
 | k + 1, n => n % 2 + cnt k (n / 2)
def u1 (a : Nat) : Nat := ((a / 2) &&& 85) + (a &&& 85)
def u2 (a : Nat) : Nat := ((a / 4) &&& 51) + (a &&& 51)
theorem m3 : ∀ a : Fin 64, ∀ c : Fin 4, (a.val &&& 51) = (a.val + 64 * c.val) &&& 51 := by decide +kernel
def M5 : Nat := 6148914691236517205
def M3 : Nat := 3689348814741910323
def MF : Nat := 1085102592571150095
def s1 (n : Nat) : Nat := (n / 2 &&& M5) + (n &&& M5)
def s2 (n : Nat) : Nat := (n / 4 &&& M3) + (n &&& M3)
def s3 (n : Nat) : Nat := (n / 16 + n) &&& MF




theorem VQ {m : Ea} (hz : Db Oa m ≤ Pa) : ja m.2.1 ≤ Pa ∧ ∀ k (hk : k < m.2.1.length), m.2.1[k].length ≤ Pa := by
 have h0 : Db Oa m = 0 + (Db (.sl (.sl Jb)) m.2.1 + 0) := rfl
 have h1 : Db (.sl (.sl Jb)) m.2.1 = ja m.2.1 + (yq (Db (.sl Jb)) m.2.1).sum := rfl
 refine ⟨by omega, fun k hk => ?_⟩
 have h2 := Qn (f := Db (.sl Jb)) hk
 rw [B2] at h2
 omega
theorem IE (m : Ea) (hz : Db Oa m ≤ Pa) : Kp m = some (m, ()) := by
 have h20 : Pa = 1048576 := rfl
 obtain ⟨h1, h2⟩ := VQ hz
 have hl := Pw (step := fun x : (Unit × Unit × List (List Wa) × Int × Int × Unit) × Ea × Ea × Unit => Gk x.1.1 x.1.2.1 x.1.2.2.1 x.1.2.2.2.1 x.1.2.2.2.2.1 x.2.1 x.2.2.1) m.2.1 (fun x => x)
  (fun o k => (((), (), m.2.1, (m.2.1.length : Int), k, ()), ((0, [], ()), (m.1, o, ()), ()))) (fun o => .inl (((), (), ()), ((0, [], ()), (m.1, o, ()), ()))) (by omega) (fun k hk o ho => by
   have := h2 k hk
   simp only [Gk]
   rw [Ia (by omega), Lc hk]
   simp only [yt, jb]
   rw [Ue (by simp; omega), Ue (by simp only [jw, j6]; omega)]
   rfl) (fun o => by
   simp only [Gk]
   rw [Ja (by omega)]
   rfl)
 unfold Kp Fl
 erw [hl]
 rw [List.map_id']
 rfl
theorem VL (m : Ea) (hz : Db Oa m ≤ Pa) : Gw m = some (m, ()) := by
 have h20 : Pa = 1048576 := rfl
 obtain ⟨h1, h2⟩ := VQ hz
 have hl := Pw (step := fun x : (Unit × Unit × Unit × Int × Unit) × Ea × Ea × Ea × Unit => Yp x.1.1 x.1.2.1 x.1.2.2.1 x.1.2.2.2.1 x.2.1 x.2.2.1 x.2.2.2.1) m.2.1 (fun x => x)
  (fun o k => (((), (), (), k, ()), (m, (0, [], ()), (m.1, o, ()), ()))) (fun o => .inl (((), (), ()), ((0, [], ()), (m.1, o, ()), ()))) (by omega) (fun k hk o ho => by
   have := h2 k hk
   simp only [Yp]
   rw [Ia (by omega), Lc hk]
   simp only [yt, jb]
   rw [Ue (by simp; omega), Ue (by simp only [jw, j6]; omega)]
   rfl) (fun o => by
   simp only [Yp]
   rw [Ja (by omega)]
   rfl)
 unfold Gw Cr
 erw [hl]
 rw [List.map_id']
 rfl
theorem HN {L : List (List Fe)} (hz : Db (.sl (.sl Oh)) L ≤ Pa) : ja L ≤ Pa ∧ ∀ k (hk : k < L.length), L[k].length ≤ Pa := by
 have h1 : Db (.sl (.sl Oh)) L = ja L + (yq (Db (.sl Oh)) L).sum := rfl
 refine ⟨by omega, fun k hk => ?_⟩
 have h2 := Qn (f := Db (.sl Oh)) hk
 rw [FV] at h2
 omega
theorem JE (L : List (List Fe)) (hz : Db (.sl (.sl Oh)) L ≤ Pa) : Lp L = some (L, ()) := by
 have h20 : Pa = 1048576 := rfl
 obtain ⟨h1, h2⟩ := HN hz
 have hl := Pw (step := fun x => Hk x.1.1 x.1.2.1 x.1.2.2.1 x.1.2.2.2.1) L (fun x => x)
  (fun o k => ((o, L, ((ja L : Nat) : Int), k, ()), ())) (fun o => .inl ((o, ()), ())) (by omega) (fun k hk o ho => by
   have := h2 k hk
   simp only [Hk]
   rw [Ia (by omega), Lc hk]
   simp only [yt, jb]
   rw [Ue (by simp; omega), Ue (by simp only [jw, j6]; omega)]
   rfl) (fun o => by
   simp only [Hk]
   rw [Ja (by omega)]
   rfl)
 unfold Lp Gl
 erw [hl]
 rw [List.map_id']
 rfl
theorem Nw (e : Hb) (hz : Db Kb e ≤ Pa) : Sk e = some (e, ()) := by
 have h20 : Pa = 1048576 := rfl
 rw [WA, NB] at hz
 unfold Sk
 rw [IE _ (by omega), JE _ (by omega), Ue (by simp; omega)]
 rfl
theorem Pr (e : Hb) (hz : Db Kb e ≤ Pa) : Rj e = some (e, ()) := by
 have h20 : Pa = 1048576 := rfl
 rw [WA, NB] at hz
 obtain ⟨h1, h2⟩ := HN (L := e.2.1) (by omega)
 have hl := Pw (step := fun x => Aq x.1.1 x.1.2.1 x.1.2.2.1 x.1.2.2.2.1 x.2.1 x.2.2.1 x.2.2.2.1) e.2.1 (fun x => x)
  (fun o k => (((), (), (), k, ()), (e, (((0 : Int), ([] : List (List Wa)), ()), ([] : List (List Fe)), (0 : Int), ([] : List Sa), (0 : Int), false, ()), (e.1, o, e.2.2), ())))
  (fun o => .inl (((), (), (), ()), (e, (((0 : Int), ([] : List (List Wa)), ()), ([] : List (List Fe)), (0 : Int), ([] : List Sa), (0 : Int), false, ()), (e.1, o, e.2.2), ()))) (by omega) (fun k hk o ho => by
   have := h2 k hk
   simp only [Aq]
   rw [Ia (by omega), Lc hk]
   simp only [yt, jb]
   rw [Ue (by simp; omega), Ue (by simp only [jw, j6]; omega)]
   rfl) (fun o => by
   simp only [Aq]
   rw [Ja (by omega)]
   rfl)
 unfold Rj Er
 rw [VL _ (by omega)]
 simp only [jb]
 erw [hl]
 rw [List.map_id']
 simp only [jb, qe]
 rw [Ue (by simp; omega)]
 rfl
theorem TQ : ∀ (a b : List Int), a.length = b.length → Gf (fun k x => b.getD k 0 == x) 0 a = (b == a)
 | a, b, h => by
  rw [Bool.eq_iff_iff, Mj, beq_iff_eq]
  constructor
  ·intro hj
   apply List.ext_getElem h.symm
   intro i h1 h2
   have := hj i h2
   rw [js, beq_iff_eq, qd, je h1] at this
   exact this
  ·rintro rfl i hi
   rw [js, beq_iff_eq, qd, je hi]; rfl
theorem GI (a b : List Int) (hn : a.length ≤ Ob) : Ys a b = some (a == b, ()) := by
 have hlim := Vi
 unfold Ys
 by_cases h : a.length = b.length
 ·have hl := Jg (step := fun x => Vl x.1.1 x.1.2.1 x.1.2.2.1 x.1.2.2.2.1) a (fun k x => b.getD k 0 == x) (fun i => ((a, b, ((ja a : Nat) : Int), i, ()), ()))
   (.inl ((), ())) (.inr ((false, ()), ())) (by
    intro k hk
    simp only [Vl]
    rw [Ia (show (k : Int) < ((ja a : Nat) : Int) by omega), Lc hk, Lc (show k < b.length by omega), qd, je (show k < b.length by omega)]
    simp only [yt, jb, qs, bne]
    rw [show (a[k] == b[k]) = (b[k] == a[k]) by rw [Bool.eq_iff_iff, beq_iff_eq, beq_iff_eq]; exact eq_comm]
    cases b[k] == a[k] <;> rfl) (by
    simp only [Vl]
    rw [Ja (by omega)]; rfl) (by omega)
  have e : (((ja a : Nat) : Int) != ((ja b : Nat) : Int)) = false := by simp [h]
  rw [e]
  simp only [yu]
  unfold Cn
  erw [hl]
  rw [TQ a b h, show (b == a) = (a == b) by rw [Bool.eq_iff_iff, beq_iff_eq, beq_iff_eq]; exact eq_comm]
  cases a == b <;> rfl
 ·have e : (((ja a : Nat) : Int) != ((ja b : Nat) : Int)) = true := by simp; omega
  have e2 : (a == b) = false := by rw [beq_eq_false_iff_ne]; intro hh; exact h (by rw [hh])
  rw [e, e2]; rfl
theorem S4 (a b : T Je) (h1 : ja a.2.1 ≤ Ob) (_ : ja b.2.1 ≤ Ob) : (fun x : T (.p Je (.p Je .u)) => Rk x.1 x.2.1) (a, b, ()) = some (Rf a b, ()) := by
 show Rk a b = _
 unfold Rk
 rw [GI _ _ h1]
 simp only [jb, Rf]
 cases (show Int from a.1) == (show Int from b.1) <;> rfl
theorem LZ (c : T Gd → T Gd → Option Bool) (l : List (T Gd)) (hl : ja l ≤ Ob) : ∀ (ys : List (T Gd)) (k : Nat) (out q : List (T Gd)) (a : T Gd), l.drop k = ys → k ≤ ja l → ja out + ja ys ≤ Ob →
 DC c a ys = some q → Jo c (((), out, l, ((ja l : Nat) : Int), (k : Int), ()), (a, ())) = some (.inl ((jf out q, ()), ())) := by
 have hlim := Vi
 intro ys
 induction ys with
 | nil =>
  intro k out q a hd hk _ hq
  have := BQ hd hk
  subst this
  simp only [DC, jc] at hq
  subst hq
  have hs : Hv c () out l ((ja l : Nat) : Int) ((ja l : Nat) : Int) a = some (.inr (.inl ((out, ()), ()))) := by
   unfold Hv
   rw [Ja (by omega)]; rfl
  unfold Jo
  rw [Id hs]
  simp
 | cons y ys ih =>
  intro k out q a hd hk hlen hq
  obtain ⟨hk', hy, hd'⟩ := MM hd
  simp only [DC] at hq
  cases hc : c a y with
  | none => rw [hc] at hq; simp at hq
  | some b =>
   rw [hc] at hq
   simp only [jb] at hq
   cases hq2 : DC c y ys with
   | none => rw [hq2] at hq; simp at hq
   | some q2 =>
    rw [hq2] at hq
    simp only [jb, jc] at hq
    have hlc : ja (y :: ys) = ja ys + 1 := rfl
    have hs : Hv c () out l ((ja l : Nat) : Int) (k : Int) a = some (.inl (((), cond b out (jf out [y]), l, ((ja l : Nat) : Int), ((k + 1 : Nat) : Int), ()), (y, ()))) := by
     unfold Hv N6
     rw [Ia (show (k : Int) < ((ja l : Nat) : Int) by omega), Lc hk', hy]
     simp only [yt, jb, hc]
     rw [Le (by omega)]
     cases b with
     | true => rfl
     | false =>
      rw [show jx (ja out + ja ([y] : List (Int × ((T .o) × Unit)))) Ob = true from ji (by simp only [jw, j6]; omega)]
      rfl
    unfold Jo
    rw [Id hs]
    simp only [jb, qe]
    have := ih (k + 1) (cond b out (jf out [y])) q2 y hd' hk' (by cases b with
     | true => simp only [yt]; omega
     | false => simp only [yu, List.append_eq, qb, jw, j6]; omega) hq2
    unfold Jo at this
    rw [this, ← hq]
    cases b with
    | true => rfl
    | false => simp
theorem I7 (c : T Gd → T Gd → Option Bool) : ∀ (a : T Gd) (l r : List (T Gd)), ja l ≤ Ob → DC c a l = some r → (fun x : T (.p Gd (.p (.sl Gd) .u)) => MX c x.1 x.2.1) (a, l, ()) = some (r, ()) := by
 intro a l r hl hq
 show MX c a l = _
 unfold MX
 have := LZ c l hl l 0 [] r a rfl (Nat.zero_le _) (by simpa using hl) hq
 erw [this]
 rfl
theorem IN : ∀ {a b : List Int}, a.Pairwise (· < ·) → b.Pairwise (· < ·) → (∀ x, x ∈ a ↔ x ∈ b) → a = b
 | [], [], _, _, _ => rfl
 | [], y :: b, _, _, h => by have := (h y).2 (by simp); simp at this
 | x :: a, [], _, _, h => by have := (h x).1 (by simp); simp at this
 | x :: a, y :: b, ha, hb, h => by
  rw [List.pairwise_cons] at ha hb
  have hxy : x = y := by
   rcases jp.1 ((h x).1 (by simp)) with h1 | h1
   ·exact h1
   ·rcases jp.1 ((h y).2 (by simp)) with h2 | h2
    ·exact h2.symm
    ·have := hb.1 x h1; have := ha.1 y h2; omega
  subst hxy
  congr 1
  refine IN ha.2 hb.2 fun z => ⟨fun hz => ?_, fun hz => ?_⟩
  ·rcases jp.1 ((h z).1 (by simp [hz])) with h1 | h1
   ·have := ha.1 z hz; omega
   ·exact h1
  ·rcases jp.1 ((h z).2 (by simp [hz])) with h1 | h1
   ·have := hb.1 z hz; omega
   ·exact h1
def FD (o : List Int) (x : Int) : List Int := cond ((x != 0) && !o.any (fun y => y == x)) (jf o [x]) o
def AQ (k : Nat) (o l : List Int) : List Int := Nh (fun _ o x => FD o x) k o l
theorem RZ : ∀ (l : List Int) (k : Nat) (o : List Int) (y : Int), y ∈ AQ k o l ↔ y ∈ o ∨ (y ∈ l ∧ y ≠ 0)
 | [], _, o, y => by simp [AQ, Nh]
 | x :: l, k, o, y => by
  have := RZ l (k + 1) (FD o x) y
  simp only [AQ, Nh] at this ⊢
  rw [this]
  unfold FD
  by_cases h0 : x = 0
  ·subst h0
   simp only [bne_self_eq_false, Bool.false_and, yu, jp]
   constructor
   ·rintro (h | ⟨h1, h2⟩)
    ·exact .inl h
    ·exact .inr ⟨.inr h1, h2⟩
   ·rintro (h | ⟨h1 | h1, h2⟩)
    ·exact .inl h
    ·exact absurd h1 h2
    ·exact .inr ⟨h1, h2⟩
  ·by_cases h1 : o.any (fun y => y == x) = true
   ·rw [h1]
    simp only [jg, Bool.and_false, yu, jp]
    have hx : x ∈ o := by
     obtain ⟨z, hz, e⟩ := List.any_eq_true.1 h1
     rw [beq_iff_eq] at e; rw [← e]; exact hz
    constructor
    ·rintro (h | ⟨h1, h2⟩)
     ·exact .inl h
     ·exact .inr ⟨.inr h1, h2⟩
    ·rintro (h | ⟨h1 | h1, h2⟩)
     ·exact .inl h
     ·exact .inl (h1 ▸ hx)
     ·exact .inr ⟨h1, h2⟩
   ·have e : ((x != 0) && !o.any (fun y => y == x)) = true := by
     simp only [j7] at h1
     rw [h1]; simp [h0]
    rw [e]
    simp only [yt, List.append_eq, jl, jp, yr, or_false]
    constructor
    ·rintro ((h | h) | ⟨h1, h2⟩)
     ·exact .inl h
     ·exact .inr ⟨.inl h, by rw [h]; exact h0⟩
     ·exact .inr ⟨.inr h1, h2⟩
    ·rintro (h | ⟨h1 | h1, h2⟩)
     ·exact .inl (.inl h)
     ·exact .inl (.inr h1)
     ·exact .inr ⟨h1, h2⟩
theorem LM : ∀ (l : List Int) (k : Nat) (o : List Int), o.Pairwise (· < ·) → l.Pairwise (· ≤ ·) → (∀ y ∈ o, ∀ x ∈ l, y ≤ x) → (AQ k o l).Pairwise (· < ·)
 | [], _, o, ho, _, _ => by simpa [AQ, Nh] using ho
 | x :: l, k, o, ho, hl, h => by
  rw [List.pairwise_cons] at hl
  have key : (FD o x).Pairwise (· < ·) ∧ ∀ y ∈ FD o x, ∀ z ∈ l, y ≤ z := by
   unfold FD
   cases hc : (x != 0) && !o.any (fun y => y == x) with
   | false => exact ⟨ho, fun y hy z hz => h y hy z (by simp [hz])⟩
   | true =>
    simp only [jd, yc, List.any_eq_false, beq_iff_eq] at hc
    simp only [yt, List.append_eq]
    refine ⟨?_, ?_⟩
    ·rw [List.pairwise_append]
     refine ⟨ho, by simp, fun y hy z hz => ?_⟩
     simp only [jp, yr, or_false] at hz
     subst hz
     have h1 := h y hy z (by simp)
     have h2 := hc.2 y hy
     omega
    ·intro y hy z hz
     rcases jl.1 hy with hy | hy
     ·exact h y hy z (by simp [hz])
     ·simp only [jp, yr, or_false] at hy
      subst hy
      exact hl.1 z hz
  have := LM l (k + 1) (FD o x) key.1 hl.2 key.2
  simpa [AQ, Nh] using this
def Ti (l : List Sa) : Nat → List Int
 | 0 => []
 | n + 1 => cond (l.any fun h => h.2.1.2.1 == ((n + 1 : Nat) : Int)) (Ti l n ++ [((n + 1 : Nat) : Int)]) (Ti l n)
theorem Lu (l : List Sa) : ∀ (n : Nat) (x : Int), x ∈ Ti l n ↔ (1 ≤ x ∧ x ≤ (n : Int)) ∧ ∃ h ∈ l, h.2.1.2.1 = x
 | 0, x => by simp [Ti]; intro h1 h2; omega
 | n + 1, x => by
  simp only [Ti]
  cases hc : (l.any fun h => h.2.1.2.1 == ((n + 1 : Nat) : Int)) with
  | true =>
   simp only [yt, jl, Lu l n x, jp, yr, or_false]
   obtain ⟨h, hh, e⟩ := List.any_eq_true.1 hc
   rw [beq_iff_eq] at e
   constructor
   ·rintro (⟨h1, h2⟩ | rfl)
    ·exact ⟨by omega, h2⟩
    ·exact ⟨by omega, h, hh, e⟩
   ·rintro ⟨h1, h2⟩
    by_cases hx : x = ((n + 1 : Nat) : Int)
    ·exact .inr hx
    ·exact .inl ⟨by omega, h2⟩
  | false =>
   simp only [yu, Lu l n x]
   rw [List.any_eq_false] at hc
   constructor
   ·rintro ⟨h1, h2⟩; exact ⟨by omega, h2⟩
   ·rintro ⟨h1, h, hh, e⟩
    refine ⟨?_, h, hh, e⟩
    have := hc h hh
    rw [beq_iff_eq] at this
    omega
theorem Us (l : List Sa) : ∀ n, (Ti l n).Pairwise (· < ·)
 | 0 => by simp [Ti]
 | n + 1 => by
  simp only [Ti]
  cases (l.any fun h => h.2.1.2.1 == ((n + 1 : Nat) : Int)) with
  | true =>
   simp only [yt]
   rw [List.pairwise_append]
   refine ⟨Us l n, by simp, fun y hy z hz => ?_⟩
   simp only [jp, yr, or_false] at hz
   have := (Lu l n y).1 hy
   omega
  | false => exact Us l n
theorem FC (l : List Sa) : ∀ n, (Ti l n).length ≤ n
 | 0 => by simp [Ti]
 | n + 1 => by
  have := FC l n
  simp only [Ti]
  cases (l.any fun h => h.2.1.2.1 == ((n + 1 : Nat) : Int)) <;> simp <;> omega
def GG (l : List Sa) : Int := Nh (fun _ s (h : Sa) => cond (h.2.1.1 == 2 || h.2.1.1 == 8) (Ce .i64 s h.2.1.2.2.1) s) 0 0 l
def Vd (l : List Sa) : Ga := (GG l, Ti l 56, ())
theorem VG {a : Wa} (h : Mc a = true) : 0 ≤ a.2.1 ∧ a.2.1 ≤ 56 := by
 rw [Pb] at h
 unfold Ec at h
 omega
theorem HL (l : List Int) (x : Int) (hn : l.length ≤ Ob) : Ew l x = some (l.any (fun y => y == x), ()) := by
 have hlim := Vi
 have hl := Jg (step := fun y => Mp y.1.1 y.1.2.1 y.1.2.2.1 y.1.2.2.2.1) l (fun _ y => !(y == x)) (fun i => ((x, l, ((ja l : Nat) : Int), i, ()), ()))
  (.inl ((), ())) (.inr ((true, ()), ())) (by
   intro k hk
   simp only [Mp]
   rw [Ia (show (k : Int) < ((ja l : Nat) : Int) by omega), Lc hk]
   simp only [yt, jb]
   cases l[k] == x <;> rfl) (by
   simp only [Mp]
   rw [Ja (by omega)]; rfl) (by omega)
 unfold Ew Rq
 erw [hl]
 have : ∀ (l : List Int) (k : Nat), Gf (fun _ y => !(y == x)) k l = !l.any (fun y => y == x) := by
  intro l
  induction l with
  | nil => intro k; rfl
  | cons y l ih => intro k; simp only [Gf, List.any_cons, ih, Bool.not_or]
 rw [this]
 cases l.any (fun y => y == x) <;> rfl
theorem RJ (l : List Sa) (hn : l.length ≤ Pa) (hx : ∀ h ∈ l, 0 ≤ h.2.1.2.1 ∧ h.2.1.2.1 ≤ 56) : Qq (l.map fun h => h.2.1.2.1) = some (Ti l 56, ()) := by
 have h20 : Pa = 1048576 := rfl
 have hlim := Vi
 generalize hcs : (l.map fun h => h.2.1.2.1) = cs
 have hcl : cs.length = l.length := by rw [← hcs]; simp
 unfold Qq
 rw [FI _ (by omega)]
 simp only [jb, sort_Ints, D7]
 rw [show jx (ja cs) Ob = true from ji (by omega)]
 simp only [yt, jb]
 generalize hss : (List.mergeSort cs fun x y => decide (x ≤ y)) = ss
 have hsl : ss.length = cs.length := by rw [← hss]; exact List.length_mergeSort _
 have hsm : ∀ x, x ∈ ss ↔ x ∈ cs := fun x => by rw [← hss]; exact List.mem_mergeSort
 have hsp : ss.Pairwise (· ≤ ·) := by
  rw [← hss]
  have := List.pairwise_mergeSort (le := fun x y : Int => decide (x ≤ y)) (by intro a b c; simp; omega) (by intro a b; simp; omega) cs
  exact this.imp (by intro a b h; simpa using h)
 have hl := (Uu (step := fun x => Bn x.1.1 x.1.2.1 x.1.2.2.1 x.1.2.2.2.1) ss (fun _ o x => FD o x) (fun o i => ((o, ss, ((ja ss : Nat) : Int), i, ()), ())) (fun o => .inl ((o, ()), ())) (fun k o => o.length ≤ k) (by
  intro k hk o ho
  have hd : (FD o ss[k]).length ≤ k + 1 := by
   unfold FD
   cases (ss[k] != 0) && !o.any (fun y => y == ss[k]) <;> simp <;> omega
  refine ⟨?_, hd⟩
  simp only [Bn]
  rw [Ia (show (k : Int) < ((ja ss : Nat) : Int) by omega), show Ui (ja ss) (k : Int) = true by rw [Kr]; exact Ia hk, jn, je hk]
  simp only [yt, jb]
  rw [HL _ _ (by omega), show jx (ja o + ja ([ss[k]] : List Int)) Ob = true from ji (by simp only [jw, j6]; omega)]
  simp only [jb, FD]
  cases ss[k] != 0 <;> cases o.any (fun y => y == ss[k]) <;> rfl)
  (by
   intro o _
   simp only [Bn]
   rw [Ja (by omega)]; rfl) (by omega) [] (jo _)).1
 unfold Yo
 erw [hl]
 simp only [jb, qe]
 congr 2
 refine IN (LM ss 0 [] (by simp) hsp (by simp)) (Us l 56) fun x => ?_
 rw [show Nh (fun _ o x => FD o x) 0 [] ss = AQ 0 [] ss from rfl, RZ, Lu, hsm, ← hcs]
 simp only [yr, false_or, qg]
 constructor
 ·rintro ⟨⟨h, hh, rfl⟩, h0⟩
  have := hx h hh
  exact ⟨by omega, h, hh, rfl⟩
 ·rintro ⟨h1, h, hh, rfl⟩
  exact ⟨⟨h, hh, rfl⟩, by omega⟩
theorem An (l : List Sa) (hn : l.length ≤ Pa) (hv : Mi l = true) : Ub l = some (Vd l, ()) := by
 have h20 : Pa = 1048576 := rfl
 have hlim := Vi
 have hh := G0 hv
 have hl := (Uu (step := fun x => Ul x.1.1 x.1.2.1 x.1.2.2.1 x.1.2.2.2.1 x.1.2.2.2.2.1 x.1.2.2.2.2.2.1 x.2.1 x.2.2.1) l
  (fun _ (s : Int × List Int) (h : Sa) => (cond (h.2.1.1 == 2 || h.2.1.1 == 8) (Ce .i64 s.1 h.2.1.2.2.1) s.1, jf s.2 [h.2.1.2.1])) (fun s i => (((), (), s.2, l, ((ja l : Nat) : Int), i, ()), (((0 : Int), ([] : List Int), ()), (s.1, ([] : List Int), ()), ())))
  (fun s => .inl (((), (), s.2, ()), (((0 : Int), ([] : List Int), ()), (s.1, ([] : List Int), ()), ()))) (fun k s => s.2.length = k) (by
   intro k hk s hs
   refine ⟨?_, by simp [hs]⟩
   simp only [Ul]
   rw [Ia (show (k : Int) < ((ja l : Nat) : Int) by omega), Lc hk]
   simp only [yt, jb]
   rw [show jx (ja s.2 + ja ([l[k].2.1.2.1] : List Int)) Ob = true from ji (by simp only [jw, j6]; omega)]
   cases l[k].2.1.1 == 2 <;> cases l[k].2.1.1 == 8 <;> rfl)
  (by
   intro s _
   simp only [Ul]
   rw [Ja (by omega)]; rfl) (by omega) (0, []) rfl).1
 have key : ∀ (l : List Sa) (k : Nat) (s : Int × List Int), Nh (fun _ (s : Int × List Int) (h : Sa) => (cond (h.2.1.1 == 2 || h.2.1.1 == 8) (Ce .i64 s.1 h.2.1.2.2.1) s.1, jf s.2 [h.2.1.2.1])) k s l =
  (Nh (fun _ s (h : Sa) => cond (h.2.1.1 == 2 || h.2.1.1 == 8) (Ce .i64 s h.2.1.2.2.1) s) k s.1 l, s.2 ++ l.map fun h => h.2.1.2.1) := by
  intro l
  induction l with
  | nil => intro k s; simp [Nh]
  | cons x l ih => intro k s; simp only [Nh]; rw [ih]; simp
 unfold Ub Zm
 rw [BB _ hn, hv]
 simp only [jb, jg, yu]
 erw [hl]
 rw [key]
 simp only [jb, qe, List.nil_append]
 rw [RJ l hn (fun h hm => VG (hh h hm).act)]
 rfl
theorem TI (l : List Sa) (hn : l.length ≤ Pa) (c : Nat) (hc : c ≤ 56) (m : Int) (o : List Int) (ho : o.length ≤ 56) :
 Ri ((l, (), (), (c : Int), (0 : Int), ()), (((0 : Int), ([] : List Int), ()), (m, o, ()), ())) =
  some (.inl ((l, (), (), (c : Int), ()), (((0 : Int), ([] : List Int), ()), (m, cond (l.any fun h => h.2.1.2.1 == (c : Int)) (jf o [(c : Int)]) o, ()), ()))) := by
 have h20 : Pa = 1048576 := rfl
 have hl := Jg (step := fun x => Yk x.1.1 x.1.2.1 x.1.2.2.1 x.1.2.2.2.1 x.1.2.2.2.2.1 x.2.1 x.2.2.1) l (fun _ (h : Sa) => !(h.2.1.2.1 == (c : Int))) (fun i => ((l, (), (), (c : Int), i, ()), (((0 : Int), ([] : List Int), ()), (m, o, ()), ())))
  (.inl ((l, (), (), (c : Int), ()), (((0 : Int), ([] : List Int), ()), (m, o, ()), ()))) (.inl ((l, (), (), (c : Int), ()), (((0 : Int), ([] : List Int), ()), (m, jf o [(c : Int)], ()), ()))) (by
   intro k hk
   simp only [Yk]
   rw [Ia (show (k : Int) < ((ja l : Nat) : Int) by omega), Lc hk]
   simp only [yt, jb]
   rw [show jx (ja o + ja ([(c : Int)] : List Int)) Ob = true from ji (by simp only [jw, j6, Vi]; omega)]
   cases l[k].2.1.2.1 == (c : Int) <;> rfl) (by
   simp only [Yk]
   rw [Ja (by omega)]; rfl) (by omega)
 have e : ∀ (l : List Sa) (k : Nat), Gf (fun _ (h : Sa) => !(h.2.1.2.1 == (c : Int))) k l = !l.any fun h => h.2.1.2.1 == (c : Int) := by
  intro l
  induction l with
  | nil => intro k; rfl
  | cons y l ih => intro k; simp only [Gf, List.any_cons, ih, Bool.not_or]
 unfold Ri
 erw [hl]
 rw [e]
 cases l.any fun h => h.2.1.2.1 == (c : Int) <;> rfl
theorem Nn (l : List Sa) (hn : l.length ≤ Pa) (hv : Mi l = true) : Vb l = some (Vd l, ()) := by
 have h20 : Pa = 1048576 := rfl
 have h1 := (Uu (step := fun x => Am x.1.1 x.1.2.1 x.1.2.2.1 x.1.2.2.2.1 x.2.1 x.2.2.1) l
  (fun _ s (h : Sa) => cond (h.2.1.1 == 2 || h.2.1.1 == 8) (Ce .i64 s h.2.1.2.2.1) s) (fun s i => ((l, (), (), i, ()), (((0 : Int), ([] : List Int), ()), (s, ([] : List Int), ()), ())))
  (fun s => .inl ((l, (), (), ()), (((0 : Int), ([] : List Int), ()), (s, ([] : List Int), ()), ()))) (fun _ _ => True) (by
   intro k hk s _
   refine ⟨?_, trivial⟩
   simp only [Am]
   rw [Ia (show (k : Int) < ((ja l : Nat) : Int) by omega), Lc hk]
   simp only [yt, jb]
   cases l[k].2.1.1 == 2 <;> cases l[k].2.1.1 == 8 <;> rfl)
  (by
   intro s _
   simp only [Am]
   rw [Ja (by omega)]; rfl) (by omega) 0 trivial).1
 have h2 := Qw (step := fun x => Xk x.1.1 x.1.2.1 x.1.2.2.1 x.1.2.2.2.1 x.2.1 x.2.2.1) (fun k => ((l, (), (), ((k + 1 : Nat) : Int), ()), (((0 : Int), ([] : List Int), ()), (GG l, Ti l k, ()), ()))) 56
  (.inl (((), (), ()), (((0 : Int), ([] : List Int), ()), (GG l, Ti l 56, ()), ()))) (by
   intro k hk
   simp only [Xk]
   have hlen := FC l k
   rw [Ia (show ((k + 1 : Nat) : Int) ≤ 56 by omega), TI l hn (k + 1) (by omega) (GG l) (Ti l k) (by omega)]
   simp only [yt, jb, qe]
   rw [Le (by omega)]
   rfl) (by
   simp only [Xk]
   rw [Ja (by decide)]; rfl)
 unfold Vb Mn Mm
 rw [LB _ hn, hv]
 simp only [jb, jg, yu]
 erw [h1]
 simp only [jb, qe]
 erw [h2]
 rfl
def Lr (c : Int) : Bool := decide (1 ≤ c ∧ c ≤ 36) || ((c == 39) || (c == 42))
theorem HE (c : Int) : Jp c = some (Lr c, ()) := by
 unfold Jp Lr
 by_cases h1 : c ≥ 1
 ·by_cases h2 : c ≤ 36
  ·rw [Ia h1, Ia h2, Ia (show 1 ≤ c ∧ c ≤ 36 by omega)]; rfl
  ·rw [Ia h1, Ja h2, Ja (show ¬ (1 ≤ c ∧ c ≤ 36) by omega)]
   cases c == 39 <;> rfl
 ·rw [Ja h1, Ja (show ¬ (1 ≤ c ∧ c ≤ 36) by omega)]
  cases c == 39 <;> rfl
theorem GF (c : Int) : Wp c = some (Lr c, ()) := by
 unfold Wp Lr
 rw [Pf]
 cases decide (1 ≤ c ∧ c ≤ 36) <;> cases c == 39 <;> rfl
def Nt (f o : Int) (c : Bool) (a : Wa) : Int × Int × Bool × Wa :=
 cond (a.1 == 2) (cond (a.2.1 == 0) (f, o, c, a) (f, 0, c && Lr a.2.1, a.1, a.2.1, cond ((c && Lr a.2.1) && (decide (a.2.1 ≤ 26) && (Zh .i64 (Ce .i64 a.2.2.1 o) 2 == 0))) 2 (Ce .i64 a.2.2.1 o), a.2.2.2))
  (cond (a.1 == 4) (LE .i64 f (Lk .i64 1 a.2.2.2.1), o, c, a) (cond (a.1 == 5) (Zh .i64 (Lk .i64 1 a.2.2.2.1) 1, o, c, a)
   (cond (a.1 == 8) (f, cond (Wr .i64 o a.2.2.1 == a.2.2.1) (Zh .i64 o a.2.2.1) (Ce .i64 o a.2.2.1), c, a) (cond (a.1 == 10) (f, o, !c, a) (f, o, c, a)))))
theorem VB {a : Wa} (h : Mc a = true) : 0 ≤ a.2.2.2.1 := by
 rw [Pb] at h
 unfold Ec at h
 omega
theorem IL (m : Ea) (M : List (List Fe)) (f o : Int) (h : List Sa) (c : Bool) (a : Wa) (ha : Mc a = true) :
 Lo (m, M, f, h, o, c, ()) a = some ((m, M, (Nt f o c a).1, h, (Nt f o c a).2.1, (Nt f o c a).2.2.1, ()), (Nt f o c a).2.2.2, ()) := by
 have hn := VB ha
 unfold Lo Nt
 rw [Ia hn]
 cases a.1 == 2 with
 | true =>
  cases a.2.1 == 0 with
  | true => rfl
  | false =>
   simp only [yt, yu, HE, jb]
   cases c with
   | false => rfl
   | true =>
    cases Lr a.2.1 with
    | false => rfl
    | true => cases decide (a.2.1 ≤ 26) <;> cases Zh .i64 (Ce .i64 a.2.2.1 o) 2 == 0 <;> rfl
 | false =>
  cases a.1 == 4 with
  | true => rfl
  | false =>
   cases a.1 == 5 with
   | true => rfl
   | false =>
    cases a.1 == 8 with
    | true => cases Wr .i64 o a.2.2.1 == a.2.2.1 <;> rfl
    | false => cases a.1 == 10 <;> rfl
theorem ZL (m : Ea) (M : List (List Fe)) (f o : Int) (h : List Sa) (c : Bool) (a : Wa) (ha : Mc a = true) :
 Nk (m, M, f, h, o, c, ()) a = some ((m, M, (Nt f o c a).1, h, (Nt f o c a).2.1, (Nt f o c a).2.2.1, ()), (Nt f o c a).2.2.2, ()) := by
 have hn := VB ha
 have hcode := VG ha
 unfold Nk Nt YC
 rw [Ia hn]
 cases a.1 == 2 with
 | true =>
  by_cases h0 : a.2.1 = 0
  ·rw [Ja (show ¬ a.2.1 > 0 by omega), show (a.2.1 == 0) = true by simp [h0]]; rfl
  ·rw [Ia (show a.2.1 > 0 by omega), show (a.2.1 == 0) = false by simp [h0]]
   simp only [yt, yu, GF, jb]
   cases Lr a.2.1 with
   | false => cases c <;> rfl
   | true =>
    cases c with
    | false => rfl
    | true => cases decide (a.2.1 ≤ 26) <;> cases Zh .i64 (Ce .i64 a.2.2.1 o) 2 == 0 <;> rfl
 | false =>
  cases a.1 == 4 with
  | true => rfl
  | false =>
   cases a.1 == 5 with
   | true => rfl
   | false =>
    cases a.1 == 8 with
    | true => cases Wr .i64 o a.2.2.1 == a.2.2.1 <;> rfl
    | false => cases a.1 == 10 <;> rfl
theorem M7 : ∀ f : Fin 16, ∀ n : Fin 4, ∀ l : Fin 5, 1 ≤ n.val → n.val < l.val → f.val < 2 ^ l.val → f.val % 2 = 0 →
 0 ≤ LE .i64 (f.val : Int) (Lk .i64 1 (n.val : Int)) ∧ LE .i64 (f.val : Int) (Lk .i64 1 (n.val : Int)) < ((2 ^ l.val : Nat) : Int) ∧ (LE .i64 (f.val : Int) (Lk .i64 1 (n.val : Int))).tmod 2 = 0 := by decide +kernel
theorem Baa : ∀ n : Fin 4, ∀ l : Fin 5, n.val < l.val →
 0 ≤ Zh .i64 (Lk .i64 1 (n.val : Int)) 1 ∧ Zh .i64 (Lk .i64 1 (n.val : Int)) 1 < ((2 ^ l.val : Nat) : Int) ∧ (Zh .i64 (Lk .i64 1 (n.val : Int)) 1).tmod 2 = 0 := by decide +kernel
theorem TU : ∀ o m : Fin 16, (0 ≤ Zh .i64 (o.val : Int) (m.val : Int) ∧ Zh .i64 (o.val : Int) (m.val : Int) ≤ 15) ∧ (0 ≤ Ce .i64 (o.val : Int) (m.val : Int) ∧ Ce .i64 (o.val : Int) (m.val : Int) ≤ 15) := by decide +kernel
structure Dt (nl : Nat) (f o : Int) : Prop where
 f0 : 0 ≤ f
 f1 : f < ((2 ^ nl : Nat) : Int)
 f2 : f.tmod 2 = 0
 o0 : 0 ≤ o
 o1 : o ≤ 15
structure TK (nl : Nat) (a : Wa) : Prop where
 act : Mc a = true
 n1 : a.1 ≠ 1
 n6 : a.1 ≠ 6
 n7 : a.1 ≠ 7
 n : a.1 ≠ 9 → a.2.2.2.1 < (nl : Int)
theorem I4 {a b : Int} (ha : 0 ≤ a ∧ a ≤ 15) (hb : 0 ≤ b ∧ b ≤ 15) : 0 ≤ Ce .i64 a b ∧ Ce .i64 a b ≤ 15 := by
 obtain ⟨n, rfl⟩ := jv ha.1
 obtain ⟨m, rfl⟩ := jv hb.1
 exact (TU ⟨n, by omega⟩ ⟨m, by omega⟩).2
theorem Aab {a b : Int} (ha : 0 ≤ a ∧ a ≤ 15) (hb : 0 ≤ b ∧ b ≤ 15) : 0 ≤ Zh .i64 a b ∧ Zh .i64 a b ≤ 15 := by
 obtain ⟨n, rfl⟩ := jv ha.1
 obtain ⟨m, rfl⟩ := jv hb.1
 exact (TU ⟨n, by omega⟩ ⟨m, by omega⟩).1
theorem Oac {nl : Nat} (h : nl ≤ 4) : 2 ^ nl ≤ 16 := Nat.pow_le_pow_right (n := 2) (by omega) h
theorem Rac {nl : Nat} (hnl : nl ≤ 4) {f o : Int} {c : Bool} {a : Wa} (hs : Dt nl f o) (ha : TK nl a) :
 Dt nl (Nt f o c a).1 (Nt f o c a).2.1 ∧ TK nl (Nt f o c a).2.2.2 := by
 have hP := ha.act
 rw [Pb] at hP
 unfold Ec at hP
 have h16 := Oac hnl
 obtain ⟨k, code, mods, n, u⟩ := a
 have hn1 := ha.n1; have hn6 := ha.n6; have hn7 := ha.n7; have hnn := ha.n
 simp only at hP hn1 hn6 hn7 hnn
 have hf1 := hs.f1
 unfold Nt
 simp only
 by_cases h2 : k = 2
 ·subst h2
  by_cases h0 : code = 0
  ·subst h0; exact ⟨hs, ha⟩
  ·rw [show ((2 : Int) == 2) = true from rfl, show (code == 0) = false by simp [h0]]
   simp only [yt, yu]
   refine ⟨⟨hs.f0, hs.f1, hs.f2, by decide, by decide⟩, ?_⟩
   have hm := I4 (a := mods) (b := o) (by omega) ⟨hs.o0, hs.o1⟩
   refine ⟨?_, hn1, hn6, hn7, hnn⟩
   have hn0 : n = 0 := by omega
   have hcd : 1 ≤ code ∧ code ≤ 56 := by omega
   rw [Pb]
   cases ((c && Lr code) && (decide (code ≤ 26) && (Zh .i64 (Ce .i64 mods o) 2 == 0))) with
   | true => exact .inr (.inl ⟨rfl, hn0, .inr hcd, .inr ⟨by show (1 : Int) ≤ 2; decide, by show (2 : Int) ≤ 15; decide⟩, .inl (by show code ≠ 0; omega)⟩)
   | false =>
    refine .inr (.inl ⟨rfl, hn0, .inr hcd, ?_, .inl (by show code ≠ 0; omega)⟩)
    show Ce .i64 mods o = 0 ∨ 1 ≤ Ce .i64 mods o ∧ Ce .i64 mods o ≤ 15
    omega
 ·rw [show (k == 2) = false by simp [h2]]
  simp only [yu]
  by_cases h4 : k = 4
  ·subst h4
   have hr : 1 ≤ n ∧ n ≤ 3 := by omega
   have hlt := hnn (by omega)
   obtain ⟨fn, hfn⟩ := jv hs.f0
   obtain ⟨nn, hnn'⟩ := jv (show 0 ≤ n by omega)
   have hf2 := hs.f2
   rw [hfn] at hf1 hf2
   have hfl : fn < 2 ^ nl := Int.ofNat_lt.1 hf1
   have := M7 ⟨fn, by omega⟩ ⟨nn, by omega⟩ ⟨nl, by omega⟩ (by show 1 ≤ nn; omega) (by show nn < nl; omega) hfl (by
    rw [Int.tmod_eq_emod_of_nonneg (by omega)] at hf2; show fn % 2 = 0; omega)
   simp only [show ((4 : Int) == 4) = true from rfl, yt]
   rw [hfn, hnn']
   exact ⟨⟨this.1, this.2.1, this.2.2, hs.o0, hs.o1⟩, by rw [← hnn']; exact ha⟩
  ·rw [show (k == 4) = false by simp [h4]]
   simp only [yu]
   by_cases h5 : k = 5
   ·subst h5
    have hr : 0 ≤ n ∧ n ≤ 3 := by omega
    have hlt := hnn (by omega)
    obtain ⟨nn, hnn'⟩ := jv (show 0 ≤ n by omega)
    have := Baa ⟨nn, by omega⟩ ⟨nl, by omega⟩ (by show nn < nl; omega)
    simp only [show ((5 : Int) == 5) = true from rfl, yt]
    rw [hnn']
    exact ⟨⟨this.1, this.2.1, this.2.2, hs.o0, hs.o1⟩, by rw [← hnn']; exact ha⟩
   ·rw [show (k == 5) = false by simp [h5]]
    simp only [yu]
    by_cases h8 : k = 8
    ·subst h8
     have hm : 0 ≤ mods ∧ mods ≤ 15 := by omega
     simp only [show ((8 : Int) == 8) = true from rfl, yt]
     cases Wr .i64 o mods == mods with
     | true => have := Aab ⟨hs.o0, hs.o1⟩ hm; exact ⟨⟨hs.f0, hs.f1, hs.f2, this.1, this.2⟩, ha⟩
     | false => have := I4 ⟨hs.o0, hs.o1⟩ hm; exact ⟨⟨hs.f0, hs.f1, hs.f2, this.1, this.2⟩, ha⟩
    ·rw [show (k == 8) = false by simp [h8]]
     simp only [yu]
     cases k == 10 <;> exact ⟨hs, ha⟩
theorem I1 {m : Ea} (hm : Dv m) (on : Int) {k : Nat} (hk : (k : Int) < m.1) : Ii m.2.1.length (Co m on k) (Dp m.2.1 (Co m on k) k) = true ∧ (Dp m.2.1 (Co m on k) k).1 ≠ 1 := by
 have hl := PE hm on k
 have hrow := hm.row _ hl
 have hk' : k < m.2.1[Co m on k].length := by omega
 have hact := hm.act _ hl k hk'
 rw [PH hl hk']
 refine ⟨hact, ?_⟩
 have key : ∀ n, Wd m.2.1 on k n = 0 ∨ (Dp m.2.1 (Wd m.2.1 on k n) k).1 ≠ 1 := by
  intro n
  induction n with
  | zero => exact .inl rfl
  | succ n ih =>
   simp only [Wd]
   cases hc : ((Ju on ((n + 1 : Nat) : Int) == 1) && ((Dp m.2.1 (n + 1) k).1 != 1)) with
   | true =>
    simp only [jd, bne_iff_ne] at hc
    exact .inr hc.2
   | false => exact ih
 rcases key (m.2.1.length - 1) with h0 | h1
 ·have h0' : Co m on k = 0 := h0
  intro h1
  simp only [Ii, jd, yc, Bool.and_eq_false_iff, beq_eq_false_iff_ne] at hact
  rcases hact.1.2 with h2 | h2
  ·exact h2 (by rw [h0']; rfl)
  ·exact h2 h1
 ·have e : Dp m.2.1 (Wd m.2.1 on k (m.2.1.length - 1)) k = m.2.1[Co m on k][k] := PH hl hk'
  rw [e] at h1
  exact h1
theorem Aaa {nl i : Nat} {a : Wa} (h : Ii nl i a = true) (h1 : a.1 ≠ 1) : TK nl (Bz a) := by
 have ha := GR h
 have hP := ha
 rw [Pb] at hP
 unfold Ec at hP
 unfold Bz Ej
 rw [ha]
 by_cases h67 : a.1 = 6 ∨ a.1 = 7
 ·have e : (true && ((a.1 == 6) || (a.1 == 7))) = true := by rcases h67 with h | h <;> rw [h] <;> rfl
  rw [e]
  simp only [yt]
  refine ⟨?_, by show (2 : Int) ≠ 1; decide, by show (2 : Int) ≠ 6; decide, by show (2 : Int) ≠ 7; decide, fun _ => ?_⟩
  ·rw [Pb]
   exact .inr (.inl ⟨rfl, rfl, .inr (by show 1 ≤ a.2.1 ∧ a.2.1 ≤ 56; omega), .inl rfl, .inl (by show a.2.1 ≠ 0; omega)⟩)
  ·show (0 : Int) < (nl : Int)
   have := SU h (by omega)
   omega
 ·have e : (true && ((a.1 == 6) || (a.1 == 7))) = false := by
   rw [jk, Bool.or_eq_false_iff, beq_eq_false_iff_ne, beq_eq_false_iff_ne]; omega
  rw [e]
  exact ⟨ha, h1, fun h => h67 (.inl h), fun h => h67 (.inr h), fun hk => SU h hk⟩
def Hf (m : Ea) (f o : Int) (c : Bool) (h : List Sa) : Hb := (m, [], f, h, o, c, ())
theorem N7 {nl : Nat} {k : Nat} (hk : k ≤ 31) {a : Wa} (ha : TK nl a) : Mi [((k : Int), a, ())] = true := by
 have e : Zt 0 ((k : Int), a, ()) = true := by
  simp only [Zt, ha.act, jk]
  rw [Ia (show 0 ≤ (k : Int) ∧ (k : Int) ≤ 31 by omega)]
  have hb : (Ju 0 (k : Int) == 1) = false := by
   have := Z2 (a := 0) (k := k) (by decide) (by omega)
   rw [Nat.zero_testBit] at this
   exact this
  rw [hb]
  simp [ha.n1, ha.n6, ha.n7]
 show H0 (Mg _ 0 0 [_]) = true
 simp only [Mg, Cw, e, yt, H0]
theorem Mu {m : Ea} (hv : Sc m = true) {f o : Int} (hs : Dt m.2.1.length f o) (c : Bool) {h : List Sa} (hh : Mi h = true) (hi : ∀ x ∈ h, Ko m.1 m.2.1.length x = true) : Ut (Hf m f o c h) = true := by
 have hk := Gh hv
 have e1 : Gf (fun _ x => Ko m.1 m.2.1.length x) 0 h = true := Mj.2 fun j hj => hi _ (qf hj)
 show (Sc m && (decide (([] : List (List Fe)).length ≤ 4) && (Mi h && (true && (Gf (fun _ x => Ko m.1 m.2.1.length x) 0 h &&
  (decide (0 ≤ f ∧ f < ((2 ^ m.2.1.length : Nat) : Int)) && ((Int.tmod f 2 == 0) && decide (0 ≤ o ∧ o ≤ 15)))))))) = true
 rw [hv, hh, e1, Ia (⟨hs.f0, hs.f1⟩ : 0 ≤ f ∧ f < ((2 ^ m.2.1.length : Nat) : Int)), Ia (⟨hs.o0, hs.o1⟩ : 0 ≤ o ∧ o ≤ 15), hs.f2]
 rfl
theorem YS (m : Ea) (f o : Int) (c : Bool) (h : List Sa) : Db Kb (Hf m f o c h) = Db Oa m + h.length := by
 rw [WA, NB]
 have : Db (.sl (.sl Oh)) (Hf m f o c h).2.1 = 0 := rfl
 rw [this, js]; rfl
theorem I3 {nl : Nat} (h4 : nl ≤ 4) {f o : Int} (hs : Dt nl f o) : 0 ≤ f ∧ f ≤ 15 := by
 have := Oac h4
 have h1 := hs.f1
 have h0 := hs.f0
 omega
theorem QQ {f : Int} (hf : 0 ≤ f ∧ f ≤ 15) : Xn f [] = some (Ce .i64 1 f, ()) := by
 unfold Xn
 rw [Ia (show f ≥ 0 by omega), Ia hf.2, BB [] (by decide)]
 have hs : Jx (Ce .i64 1 f) [] ((ja ([] : List Sa) : Nat) : Int) 0 = some (.inr (.inl ((Ce .i64 1 f, ()), ()))) := rfl
 simp only [yt, jb]
 unfold Vg
 rw [Id hs]
 rfl
theorem UR {f : Int} (hf : 0 ≤ f ∧ f ≤ 15) : Ho f [] = some (Ce .i64 1 f, ()) := by
 unfold Ho
 rw [Pf, Ia hf]
 have hs : Mx [] (Ce .i64 1 f) 0 = some (.inr (.inl ((Ce .i64 1 f, ()), ()))) := rfl
 simp only [yt, jb]
 unfold Lj
 rw [Id hs]
 rfl
theorem GL (e : Hb) (k : Int) (hn : e.2.2.2.1.length ≤ Pa) : Dw e k = some (Ze (fun h => h.1 == k) 0 e.2.2.2.1, ()) := by
 have h20 : Pa = 1048576 := rfl
 have hl := MA (step := fun x => Hp x.1.1 x.1.2.1 x.1.2.2.1 x.1.2.2.2.1) e.2.2.2.1 (fun h => h.1 == k) (fun i => ((k, e.2.2.2.1, ((ja e.2.2.2.1 : Nat) : Int), i, ()), ())) (.inl ((), ())) (fun i => .inr ((i, ()), ()))
  (by
   intro j hj
   simp only [Hp]
   rw [Ia (show (j : Int) < ((ja e.2.2.2.1 : Nat) : Int) by omega), Lc hj]
   simp only [yt, jb]
   cases e.2.2.2.1[j].1 == k <;> rfl) (by
   simp only [Hp]
   rw [Ja (by omega)]; rfl) (by omega)
 unfold Dw Nq
 erw [hl]
 simp only [jb]
 by_cases hc : Ze (fun h : Sa => h.1 == k) 0 e.2.2.2.1 = -1
 ·rw [if_pos hc, hc]; rfl
 ·rw [if_neg hc]; rfl
theorem Qv (e : Hb) (k : Int) (hn : e.2.2.2.1.length ≤ Pa) : Ts e k = some (Ze (fun h => h.1 == k) 0 e.2.2.2.1, ()) := by
 have h20 : Pa = 1048576 := rfl
 have hl := MA (step := fun x => Up x.1.1 x.1.2.1 x.1.2.2.1 x.2.1) e.2.2.2.1 (fun h => h.1 == k) (fun i => ((k, (), i, ()), (e, ()))) (.inl ((), ())) (fun i => .inr ((i, ()), ()))
  (by
   intro j hj
   simp only [Up]
   rw [Ia (show (j : Int) < ((ja e.2.2.2.1 : Nat) : Int) by omega), Lc hj]
   simp only [yt, jb]
   cases e.2.2.2.1[j].1 == k <;> rfl) (by
   simp only [Up]
   rw [Ja (by omega)]; rfl) (by omega)
 unfold Ts Yq
 erw [hl]
 simp only [jb]
 by_cases hc : Ze (fun h : Sa => h.1 == k) 0 e.2.2.2.1 = -1
 ·rw [if_pos hc, hc]; rfl
 ·rw [if_neg hc]; rfl
theorem Ww (a b : Ga) (hn : a.2.1.length ≤ Ob) : Zk a b = some (Rf a b, ()) := by
 have hlim := Vi
 unfold Zk Rf
 simp only [bne]
 cases (show Int from a.1) == (show Int from b.1) with
 | false => rfl
 | true =>
  by_cases h : a.2.1.length = b.2.1.length
  ·have hl := Jg (step := fun x => Ik x.1.1 x.1.2.1 x.1.2.2.1 x.2.1 x.2.2.1) a.2.1 (fun k x => b.2.1.getD k 0 == x) (fun i => (((), (), i, ()), (a, b, ())))
    (.inl ((), ())) (.inr ((false, ()), ())) (by
     intro k hk
     simp only [Ik]
     rw [Ia (show (k : Int) < ((ja a.2.1 : Nat) : Int) by omega), Lc hk, Lc (show k < b.2.1.length by omega), qd, je (show k < b.2.1.length by omega)]
     simp only [yt, jb, qs, bne]
     rw [show (a.2.1[k] == b.2.1[k]) = (b.2.1[k] == a.2.1[k]) by rw [Bool.eq_iff_iff, beq_iff_eq, beq_iff_eq]; exact eq_comm]
     cases b.2.1[k] == a.2.1[k] <;> rfl) (by
     simp only [Ik]
     rw [Ja (by omega)]; rfl) (by omega)
   have e : (((ja a.2.1 : Nat) : Int) == ((ja b.2.1 : Nat) : Int)) = true := by simp [h]
   rw [e]
   simp only [jg, yu, jk]
   unfold Ol
   erw [hl]
   rw [TQ a.2.1 b.2.1 h, show (b.2.1 == a.2.1) = (a.2.1 == b.2.1) by rw [Bool.eq_iff_iff, beq_iff_eq, beq_iff_eq]; exact eq_comm]
   cases a.2.1 == b.2.1 <;> rfl
  ·have e : (((ja a.2.1 : Nat) : Int) == ((ja b.2.1 : Nat) : Int)) = false := by simp; omega
   have e2 : (a.2.1 == b.2.1) = false := by rw [beq_eq_false_iff_ne]; intro hh; exact h (by rw [hh])
   rw [e, e2]; rfl
def IZ (s : Ga × List Ga) (x : Ga) : Ga × List Ga := (x, cond (Rf s.1 x) s.2 (jf s.2 [x]))
theorem XP : ∀ (l : List Ga) (k : Nat) (a : Ga) (o : List Ga), (Nh (fun _ s x => IZ s x) k (a, o) l).2 = jf o (Vo Rf a l)
 | [], _, _, o => by simp [Nh, Vo]
 | x :: l, k, a, o => by
  have ih := XP l (k + 1) x (cond (Rf a x) o (jf o [x]))
  show (Nh (fun _ s x => IZ s x) (k + 1) (x, cond (Rf a x) o (jf o [x])) l).2 = _
  rw [ih]
  simp only [Vo]
  cases Rf a x <;> simp
theorem BA (a : Ga) (l : List Ga) (hn : l.length ≤ Pa) (ha : a.2.1.length ≤ Pa) (hx : ∀ x ∈ l, x.2.1.length ≤ Pa) : Rd a l = some (Vo Rf a l, ()) := by
 have h20 : Pa = 1048576 := rfl
 have hlim := Vi
 have hl := (Uu (step := fun x => Al x.1.1 x.1.2.1 x.1.2.2.1 x.1.2.2.2.1 x.2.1) l (fun _ s x => IZ s x) (fun s i => ((l, (), s.2, i, ()), (s.1, ()))) (fun s => .inl ((s.2, ()), ())) (fun k s => s.2.length ≤ k ∧ s.1.2.1.length ≤ Pa) (by
  intro k hk s ⟨hs1, hs2⟩
  have hxk := hx _ (qf hk)
  refine ⟨?_, ?_, hxk⟩
  ·simp only [Al]
   rw [Ia (show (k : Int) < ((ja l : Nat) : Int) by omega), Lc hk]
   simp only [yt, jb]
   rw [Ww _ _ (by omega), XL _ hxk]
   simp only [jb, IZ]
   rw [show jx (ja s.2 + ja ([l[k]] : List Ga)) Ob = true from ji (by simp only [jw, j6]; omega)]
   cases Rf s.1 l[k] <;> rfl
  ·unfold IZ
   cases Rf s.1 l[k] with
   | true => show s.2.length ≤ k + 1; omega
   | false => show (jf s.2 [l[k]]).length ≤ k + 1; simp; omega)
  (by
   intro s _
   simp only [Al]
   rw [Ja (by omega)]; rfl) (by omega) (a, []) ⟨jo _, ha⟩).1
 unfold Rd Om
 erw [hl]
 have := XP l 0 a []
 simp only [jb, qe]
 rw [this]; simp
theorem Oz (a : Ga) (l : List Ga) (hn : l.length ≤ Pa) (ha : a.2.1.length ≤ Pa) (hx : ∀ x ∈ l, x.2.1.length ≤ Pa) : Gc a l = some (Vo Rf a l, ()) := by
 have h20 : Pa = 1048576 := rfl
 have hlim := Vi
 unfold Gc LX
 have e : (jx (ja l) Ob && (Vy a && l.all Vy)) = true := by
  rw [jd, jd, ym]
  refine ⟨ji (by omega), ji (by show ja a.2.1 ≤ _; omega), fun x hm => ji ?_⟩
  have := hx x hm
  show ja x.2.1 ≤ _
  omega
 rw [e]; rfl
theorem Ft : ∀ (l : List Ga) (a : Ga), (Vo Rf a l).length ≤ l.length
 | [], _ => by simp [Vo]
 | x :: l, a => by
  have := Ft l x
  simp only [Vo]
  cases Rf a x <;> simp <;> omega
theorem TC (l : List Sa) : (Vd l).2.1.length ≤ 56 := FC l 56
theorem Gv : ∀ (l : List Ga) (a x : Ga), x ∈ Vo Rf a l → x ∈ l
 | [], _, x, h => by simp [Vo] at h
 | y :: l, a, x, h => by
  simp only [Vo] at h
  cases hs : Rf a y with
  | true => rw [hs] at h; exact jr _ (Gv l y x h)
  | false =>
   rw [hs] at h
   rcases jp.1 h with h | h
   ·exact h ▸ List.mem_cons_self ..
   ·exact jr _ (Gv l y x h)
noncomputable def EX (m : Ea) (f : Int) (k : Nat) : Wa := Bz (Dp m.2.1 (Co m (Ce .i64 1 f) k) k)
noncomputable def Vf (m : Ea) (f o : Int) (c : Bool) (k : Nat) : Int × Int × Bool × Wa := Nt f o c (EX m f k)
noncomputable def hK (m : Ea) (f o : Int) (c : Bool) (k : Nat) : List Sa := [((k : Int), (Vf m f o c k).2.2.2, ())]
noncomputable def Qk (m : Ea) (f o : Int) (c : Bool) (k : Nat) : List Ga := Vo Rf (Vd []) [Vd (hK m f o c k)]
noncomputable def PB (m : Ea) (f o : Int) (c : Bool) (k : Nat) : List Ga := Vo Rf (Vd (hK m f o c k)) [Vd []]
structure Xh (m : Ea) : Prop where
 v : Sc m = true
 z : Db Oa m ≤ Pa - 10
theorem Wt {m : Ea} (hM : Xh m) {f o : Int} {c : Bool} (hs : Dt m.2.1.length f o) {k : Nat} (hk : (k : Int) < m.1) :
 TK m.2.1.length (EX m f k) ∧ Dt m.2.1.length (Vf m f o c k).1 (Vf m f o c k).2.1 ∧ TK m.2.1.length (Vf m f o c k).2.2.2 ∧ Mi (hK m f o c k) = true ∧
  (∀ x ∈ hK m f o c k, Ko m.1 m.2.1.length x = true) := by
 have hm := Gh hM.v
 have h1 := I1 hm (Ce .i64 1 f) hk
 have h2 := Aaa h1.1 h1.2
 have h3 := Rac (c := c) hm.l2 hs h2
 refine ⟨h2, h3.1, h3.2, N7 (by have := hm.k2; omega) h3.2, fun x hx => ?_⟩
 simp only [hK, jp, yr, or_false] at hx
 subst hx
 simp only [Ko, jd, yc, Bool.and_eq_false_iff, decide_eq_false_iff_not]
 refine ⟨by omega, ?_⟩
 by_cases h9 : (Vf m f o c k).2.2.2.1 = 9
 ·exact .inl (by show ((Vf m f o c k).2.2.2.1 != 9) = false; simp [h9])
 ·exact .inr (Int.not_le.2 (h3.2.n h9))
theorem z20 {m : Ea} (hM : Xh m) (f o : Int) (c : Bool) (h : List Sa) (hh : h.length ≤ 1) : Db Kb (Hf m f o c h) ≤ Pa := by
 have h20 : Pa = 1048576 := rfl
 have := hM.z
 rw [YS]; omega
theorem Yz (l : List Sa) : (Vd l).2.1.length ≤ Pa := by
 have h20 : Pa = 1048576 := rfl
 have := TC l
 omega
theorem Mz : Mi [] = true := rfl
theorem TN {m : Ea} (hM : Xh m) {f o : Int} {c : Bool} (hs : Dt m.2.1.length f o) {k : Nat} (hk : (k : Int) < m.1) :
 Tx (Hf m f o c []) (k : Int) false = some (Hf m (Vf m f o c k).1 (Vf m f o c k).2.1 (Vf m f o c k).2.2.1 (hK m f o c k), Qk m f o c k, ()) := by
 have h20 : Pa = 1048576 := rfl
 have hm := Gh hM.v
 obtain ⟨h1, h2, h3, h4, h5⟩ := Wt (o := o) (c := c) hM hs hk
 have hl := PE hm (Ce .i64 1 f) k
 have hrow := hm.row _ hl
 unfold Tx
 rw [Nw _ (z20 hM f o c [] (by simp))]
 show jz (some (Hf m f o c [], ())) _ = _
 simp only [jb]
 show jz (Xn f []) _ = _
 rw [QQ (I3 hm.l2 hs)]
 simp only [jb]
 show jz (Sq m (Ce .i64 1 f) (k : Int)) _ = _
 rw [SJ hm _ hk]
 simp only [jb]
 show jz (Yb m.2.1 ((Co m (Ce .i64 1 f) k : Nat) : Int)) _ = _
 rw [TX hl (by omega)]
 simp only [yu]
 rw [QN]
 simp only [jb]
 show jz (Lo (m, [], f, [], o, c, ()) (EX m f k)) _ = _
 rw [IL _ _ _ _ _ _ _ h1.act]
 simp only [jb]
 have e9 : decide ((Vf m f o c k).2.2.2.2.2.2.1 < ((ja ([] : List (List Fe)) : Nat) : Int)) = false := Ja (by have := VB h3.act; show ¬ _ < (0 : Int); omega)
 have hR1 : Ub (hK m f o c k) = some (Vd (hK m f o c k), ()) := An _ (by simp [hK]; omega) h4
 have hR0 : Ub [] = some (Vd [], ()) := An [] (by decide) Mz
 have hC : Gc (Vd []) [Vd (hK m f o c k)] = some (Qk m f o c k, ()) := Oz _ _ (by simp; omega) (Yz _) (fun x hx => by
  simp only [jp, yr, or_false] at hx; rw [hx]; exact Yz _)
 have Te : (jz (Ub (hK m f o c k)) fun r29 => jz (Ub ([] : List Sa)) fun r30 => jz (Gc r30.1 [r29.1]) fun r31 =>
  (some (Hf m (Vf m f o c k).1 (Vf m f o c k).2.1 (Vf m f o c k).2.2.1 (hK m f o c k), r31.1, ()) : Option (Hb × ((List Ga) × Unit)))) =
  some (Hf m (Vf m f o c k).1 (Vf m f o c k).2.1 (Vf m f o c k).2.2.1 (hK m f o c k), Qk m f o c k, ()) := by
  rw [hR1, hR0]
  simp only [jb]
  rw [hC]
  rfl
 have hb : jx (ja ([] : List Sa) + ja (hK m f o c k)) Ob = true := rfl
 show cond (jx (ja ([] : List Sa) + ja (hK m f o c k)) Ob) (cond ((Vf m f o c k).2.2.2.1 == 9) (cond (decide ((Vf m f o c k).2.2.2.2.2.2.1 < ((ja ([] : List (List Fe)) : Nat) : Int))) _ _) _) _ = _
 rw [hb, e9]
 cases (Vf m f o c k).2.2.2.1 == 9 <;> exact Te
theorem BO {m : Ea} (hM : Xh m) {f o : Int} {c : Bool} (hs : Dt m.2.1.length f o) {k : Nat} (hk : (k : Int) < m.1) :
 Ln (Hf m f o c []) (k : Int) false = some (Hf m (Vf m f o c k).1 (Vf m f o c k).2.1 (Vf m f o c k).2.2.1 (hK m f o c k), Qk m f o c k, true, ()) := by
 have h20 : Pa = 1048576 := rfl
 have hm := Gh hM.v
 have hz0 := hM.z
 obtain ⟨h1, h2, h3, h4, h5⟩ := Wt (o := o) (c := c) hM hs hk
 have hk2 := hm.k2
 have hv := Mu hM.v hs c Mz (by simp)
 unfold Ln
 rw [Wh _ (z20 hM f o c [] (by simp)), hv, Qv _ _ (by show (0 : Nat) ≤ _; omega), Pr _ (z20 hM f o c [] (by simp))]
 simp only [jb, jg, yu, Pf]
 show cond (!decide (0 ≤ (k : Int) ∧ (k : Int) ≤ j4 .i64 (m.1 - 1))) _ _ = _
 rw [Qh (by omega) (by omega), Ia (show 0 ≤ (k : Int) ∧ (k : Int) ≤ m.1 - 1 by omega)]
 simp only [jg, yu]
 show cond (decide ((-1 : Int) ≥ 0)) _ _ = _
 rw [Ja (by decide)]
 simp only [yu]
 show jz (Ho f []) _ = _
 rw [UR (I3 hm.l2 hs)]
 simp only [jb]
 show jz (Eo m (Ce .i64 1 f) (k : Int)) _ = _
 rw [RI (by omega) hM.v _ hk]
 simp only [jb]
 rw [YN]
 simp only [jb]
 show jz (Nk (m, [], f, [], o, c, ()) (EX m f k)) _ = _
 rw [ZL _ _ _ _ _ _ _ h1.act]
 simp only [jb]
 have e9 : decide ((Vf m f o c k).2.2.2.2.2.2.1 < ((ja ([] : List (List Fe)) : Nat) : Int)) = false := Ja (by have := VB h3.act; show ¬ _ < (0 : Int); omega)
 have hR1 : Vb (hK m f o c k) = some (Vd (hK m f o c k), ()) := Nn _ (by simp [hK]; omega) h4
 have hR0 : Vb [] = some (Vd [], ()) := Nn [] (by decide) Mz
 have hC : Rd (Vd []) [Vd (hK m f o c k)] = some (Qk m f o c k, ()) := BA _ _ (by simp; omega) (Yz _) (fun x hx => by
  simp only [jp, yr, or_false] at hx; rw [hx]; exact Yz _)
 have Te : (jz (Vb (hK m f o c k)) fun r29 => jz (Vb ([] : List Sa)) fun r30 => jz (Rd r30.1 [r29.1]) fun r31 =>
  (some (Hf m (Vf m f o c k).1 (Vf m f o c k).2.1 (Vf m f o c k).2.2.1 (hK m f o c k), r31.1, true, ()) : Option (Hb × ((List Ga) × (Bool × Unit))))) =
  some (Hf m (Vf m f o c k).1 (Vf m f o c k).2.1 (Vf m f o c k).2.2.1 (hK m f o c k), Qk m f o c k, true, ()) := by
  rw [hR1, hR0]
  simp only [jb]
  rw [hC]
  rfl
 have hb : jx (ja ([] : List Sa) + ja (hK m f o c k)) Ob = true := rfl
 show cond (jx (ja ([] : List Sa) + ja (hK m f o c k)) Ob) (cond ((Vf m f o c k).2.2.2.1 == 9) (cond (decide ((Vf m f o c k).2.2.2.2.2.2.1 < ((ja ([] : List (List Fe)) : Nat) : Int))) _ _) _) _ = _
 rw [hb, e9]
 cases (Vf m f o c k).2.2.2.1 == 9 <;> exact Te
theorem GQ {m : Ea} {f o : Int} {c : Bool} {k : Nat} : Ze (fun h : Sa => h.1 == (k : Int)) 0 (hK m f o c k) = 0 := by
 have e : ((k : Int) == (k : Int)) = true := by simp
 show cond ((k : Int) == (k : Int)) ((0 : Nat) : Int) _ = 0
 rw [e]; rfl
theorem UJ {m : Ea} (hM : Xh m) {f o : Int} {c : Bool} (hs : Dt m.2.1.length f o) {k : Nat} (hk : (k : Int) < m.1) (f' o' : Int) (c' : Bool) :
 Ou (Hf m f' o' c' (hK m f o c k)) (k : Int) = some (Hf m f' o' c' [], PB m f o c k, ()) := by
 have h20 : Pa = 1048576 := rfl
 obtain ⟨h1, h2, h3, h4, h5⟩ := Wt (o := o) (c := c) hM hs hk
 have hR1 : Ub (hK m f o c k) = some (Vd (hK m f o c k), ()) := An _ (by simp [hK]; omega) h4
 have hR0 : Ub [] = some (Vd [], ()) := An [] (by decide) Mz
 have hC : Gc (Vd (hK m f o c k)) [Vd []] = some (PB m f o c k, ()) := Oz _ _ (by simp; omega) (Yz _) (fun x hx => by
  simp only [jp, yr, or_false] at hx; rw [hx]; exact Yz _)
 unfold Ou
 rw [Nw _ (z20 hM f' o' c' _ (by simp [hK])), GL _ _ (by show (hK m f o c k).length ≤ _; simp [hK]; omega)]
 simp only [jb]
 have hf : Ze (fun h : Sa => h.1 == (k : Int)) 0 (Hf m f' o' c' (hK m f o c k)).2.2.2.1 = 0 := GQ
 rw [hf]
 show jz (Ub (hK m f o c k)) (fun r3 => jz (Ub []) fun r4 => jz (Gc r3.1 [r4.1]) fun r5 => some (Hf m f' o' c' [], r5.1, ())) = _
 rw [hR1, hR0]
 simp only [jb]
 rw [hC]
 rfl
theorem OK {m : Ea} (hM : Xh m) {f o : Int} {c : Bool} (hs : Dt m.2.1.length f o) {k : Nat} (hk : (k : Int) < m.1) {f' o' : Int} (hs' : Dt m.2.1.length f' o') (c' : Bool) :
 Lm (Hf m f' o' c' (hK m f o c k)) (k : Int) = some (Hf m f' o' c' [], PB m f o c k, true, ()) := by
 have h20 : Pa = 1048576 := rfl
 obtain ⟨h1, h2, h3, h4, h5⟩ := Wt (o := o) (c := c) hM hs hk
 have hR1 : Vb (hK m f o c k) = some (Vd (hK m f o c k), ()) := Nn _ (by simp [hK]; omega) h4
 have hR0 : Vb [] = some (Vd [], ()) := Nn [] (by decide) Mz
 have hC : Rd (Vd (hK m f o c k)) [Vd []] = some (PB m f o c k, ()) := BA _ _ (by simp; omega) (Yz _) (fun x hx => by
  simp only [jp, yr, or_false] at hx; rw [hx]; exact Yz _)
 have hv := Mu hM.v hs' c' h4 h5
 have hW : Ff (hK m f o c k) 0 = some ([], ()) := rfl
 unfold Lm
 rw [Qv _ _ (by show (hK m f o c k).length ≤ _; simp [hK]; omega), Wh _ (z20 hM f' o' c' _ (by simp [hK])), hv, Pr _ (z20 hM f' o' c' _ (by simp [hK]))]
 simp only [jb, jg, yu]
 show cond (decide (Ze (fun h : Sa => h.1 == (k : Int)) 0 (hK m f o c k) < 0)) _ (jz (Ff (hK m f o c k) (Ze (fun h : Sa => h.1 == (k : Int)) 0 (hK m f o c k))) _) = _
 rw [GQ, Ja (by decide), hW]
 show jz (Vb (hK m f o c k)) (fun r5 => jz (Vb []) fun r6 => jz (Rd r5.1 [r6.1]) fun r7 => some (Hf m f' o' c' [], r7.1, true, ())) = _
 rw [hR1, hR0]
 simp only [jb]
 rw [hC]
 rfl
def Jw : Hb := (((0 : Int), ([] : List (List Wa)), ()), ([] : List (List Fe)), (0 : Int), ([] : List Sa), (0 : Int), false, ())
theorem D5 : Ut Jw = false := rfl
theorem E5 : Db Kb Jw ≤ Pa := by decide
theorem CR {m : Ea} (hv : Sc m = true) : Xh m := by
 have hm := Gh hv
 refine ⟨hv, ?_⟩
 have h20 : Pa = 1048576 := rfl
 have h1 : Db Oa m = 0 + (Db (.sl (.sl Jb)) m.2.1 + 0) := rfl
 have h2 : Db (.sl (.sl Jb)) m.2.1 ≤ (32 + 1) * ja m.2.1 := E7 (e := .sl Jb) (c := 32) fun x hx => by
  obtain ⟨i, hi, rfl⟩ := List.getElem_of_mem hx
  rw [B2]
  have := hm.row i hi
  have := hm.k2
  omega
 have := hm.l2
 omega
abbrev St := (Int × Int × Bool) × List Ga
noncomputable def gT (m : Ea) (s : St) (k : Int) : St ⊕ Unit :=
 cond (decide (0 ≤ k ∧ k < m.1)) (.inl (((Vf m s.1.1 s.1.2.1 s.1.2.2 k.toNat).1, (Vf m s.1.1 s.1.2.1 s.1.2.2 k.toNat).2.1, (Vf m s.1.1 s.1.2.1 s.1.2.2 k.toNat).2.2.1),
  jf (jf s.2 (Qk m s.1.1 s.1.2.1 s.1.2.2 k.toNat)) (PB m s.1.1 s.1.2.1 s.1.2.2 k.toNat))) (.inr ())
structure UK (m : Ea) (k : Nat) (s : St) : Prop where
 st : Dt m.2.1.length s.1.1 s.1.2.1
 len : s.2.length ≤ 2 * k
 rep : ∀ x ∈ s.2, x.2.1.length ≤ 56
theorem A0 {m : Ea} (hM : Xh m) {k : Nat} {s s' : St} {x : Int} (hi : UK m k s) (h : gT m s x = .inl s') : UK m (k + 1) s' := by
 unfold gT at h
 by_cases hx : 0 ≤ x ∧ x < m.1
 ·rw [Ia hx] at h
  simp only [yt, Sum.inl.injEq] at h
  obtain ⟨n, rfl⟩ := jv hx.1
  rw [jn] at h
  obtain ⟨h1, h2, h3, h4, h5⟩ := Wt (o := s.1.2.1) (c := s.1.2.2) hM hi.st hx.2
  subst h
  refine ⟨h2, ?_, ?_⟩
  ·have e1 : (Qk m s.1.1 s.1.2.1 s.1.2.2 n).length ≤ 1 := Ft _ _
   have e2 : (PB m s.1.1 s.1.2.1 s.1.2.2 n).length ≤ 1 := Ft _ _
   have := hi.len
   show (jf (jf s.2 _) _).length ≤ _
   simp only [List.append_eq, qb]
   omega
  ·intro y hy
   have hy' : y ∈ (s.2 ++ Qk m s.1.1 s.1.2.1 s.1.2.2 n) ++ PB m s.1.1 s.1.2.1 s.1.2.2 n := hy
   rw [jl, jl] at hy'
   rcases hy' with (hy' | hy') | hy'
   ·exact hi.rep y hy'
   ·have := Gv _ _ _ hy'
    simp only [jp, yr, or_false] at this
    rw [this]; exact TC _
   ·have := Gv _ _ _ hy'
    simp only [jp, yr, or_false] at this
    rw [this]; exact TC _
 ·rw [Ja hx] at h; simp at h
theorem XN {m : Ea} (hM : Xh m) {f o : Int} {c : Bool} (hs : Dt m.2.1.length f o) (x : Int) :
 Ln (Hf m f o c []) x false = some (cond (decide (0 ≤ x ∧ x < m.1)) (Hf m (Vf m f o c x.toNat).1 (Vf m f o c x.toNat).2.1 (Vf m f o c x.toNat).2.2.1 (hK m f o c x.toNat), Qk m f o c x.toNat, true, ()) (Jw, [], false, ())) := by
 have hm := Gh hM.v
 have hk1 := hm.k1
 have hk2 := hm.k2
 by_cases hx : 0 ≤ x ∧ x < m.1
 ·rw [Ia hx]
  obtain ⟨n, rfl⟩ := jv hx.1
  rw [BO hM hs hx.2, jn]; rfl
 ·rw [Ja hx]
  have hv := Mu hM.v hs c Mz (by simp)
  unfold Ln
  rw [Wh _ (z20 hM f o c [] (by simp)), hv]
  simp only [jb, jg, yu, Pf]
  show cond (!decide (0 ≤ x ∧ x ≤ j4 .i64 (m.1 - 1))) _ _ = _
  rw [Qh (by omega) (by omega), Ja (show ¬ (0 ≤ x ∧ x ≤ m.1 - 1) by omega)]
  rfl
theorem QG (x : Int) : Lm Jw x = some (Jw, [], false, ()) := by
 unfold Lm
 rw [Wh _ E5, D5, Qv _ _ (by decide)]; rfl
def eS (m : Ea) (s : St) : Hb := Hf m s.1.1 s.1.2.1 s.1.2.2 []
noncomputable def B5 (m : Ea) (s : St) (keys : List Int) : Hb × ((List Ga) × (Bool × Unit)) :=
 match Mg (fun _ s x => gT m s x) 0 s keys with | .inl s' => (eS m s', s'.2, true, ()) | .inr _ => (Jw, [], false, ())
theorem KQ {m : Ea} (hM : Xh m) : ∀ (l : List Int) (k : Nat) (s s' : St), UK m k s → Mg (fun _ s x => gT m s x) k s l = .inl s' → UK m (k + l.length) s'
 | [], k, s, s', h, he => by simp only [Mg, Sum.inl.injEq] at he; rw [← he]; exact h
 | x :: l, k, s, s', h, he => by
  simp only [Mg] at he
  cases hg : gT m s x with
  | inr u => rw [hg] at he; simp at he
  | inl s1 =>
   rw [hg] at he
   have := KQ hM l (k + 1) s1 s' (A0 hM h hg) he
   rw [jw, Nat.add_comm l.length 1, ← jt]
   exact this
theorem LK {m : Ea} (hM : Xh m) {f o : Int} {c : Bool} (hs : Dt m.2.1.length f o) (keys : List Int) (hn : keys.length ≤ Pa) : Nm (Hf m f o c []) keys = some (B5 m ((f, o, c), []) keys) := by
 have h20 : Pa = 1048576 := rfl
 have hlim := Vi
 have hl := Qs (step := fun x => On x.1.1 x.1.2.1 x.1.2.2.1 x.1.2.2.2.1 x.1.2.2.2.2.1 x.2.1 x.2.2.1) keys (fun _ s x => gT m s x) (fun s i => ((keys, (), s.2, (), i, ()), (Jw, eS m s, ())))
  (fun s => .inl (((), s.2, (), ()), (Jw, eS m s, ()))) (fun _ => .inr (((), ([] : List Ga), false, ()), (Jw, ()))) (UK m) (by
   intro k hk s hi
   refine ⟨?_, fun s' h => A0 hM hi h⟩
   simp only [On]
   rw [Ia (show (k : Int) < ((ja keys : Nat) : Int) by omega), Lc hk]
   simp only [yt, jb]
   generalize keys[k] = x
   show jz (Ln (Hf m s.1.1 s.1.2.1 s.1.2.2 []) x false) _ = _
   rw [XN hM hi.st]
   unfold gT
   by_cases hx : 0 ≤ x ∧ x < m.1
   ·rw [Ia hx]
    simp only [yt, jb]
    obtain ⟨n, rfl⟩ := jv hx.1
    obtain ⟨_, h2, _⟩ := Wt (o := s.1.2.1) (c := s.1.2.2) hM hi.st hx.2
    rw [jn, OK hM hi.st hx.2 h2]
    have e1 : (Qk m s.1.1 s.1.2.1 s.1.2.2 n).length ≤ 1 := Ft _ _
    have e2 : (PB m s.1.1 s.1.2.1 s.1.2.2 n).length ≤ 1 := Ft _ _
    have := hi.len
    simp only [jb, jg, yu]
    rw [show jx (ja s.2 + ja (Qk m s.1.1 s.1.2.1 s.1.2.2 n)) Ob = true from ji (by omega),
     show jx (ja (jf s.2 (Qk m s.1.1 s.1.2.1 s.1.2.2 n)) + ja (PB m s.1.1 s.1.2.1 s.1.2.2 n)) Ob = true from ji (by simp only [List.append_eq, qb]; omega)]
    rfl
   ·rw [Ja hx]
    simp only [yu, jb]
    rw [QG]
    rfl)
  (by
   intro s _
   simp only [On]
   rw [Ja (by omega)]; rfl) (by omega) ((f, o, c), []) ⟨hs, by simp, by simp⟩
 unfold Nm Ap
 erw [hl]
 unfold B5
 simp only [jb]
 cases hf : Mg (fun x s x => gT m s x) 0 ((f, o, c), []) keys with
 | inr u => rfl
 | inl s' =>
  have hi := KQ hM keys 0 _ s' (⟨hs, by simp, by simp⟩ : UK m 0 ((f, o, c), [])) hf
  have hv := Mu hM.v hi.st s'.1.2.2 Mz (by simp)
  show jz (Eg (eS m s')) _ = _
  unfold eS
  rw [Wh _ (z20 hM _ _ _ [] (by simp)), hv]
  simp only [jb, jg, yu]
  show jz (Rj (Hf m s'.1.1 s'.1.2.1 s'.1.2.2 [])) _ = _
  rw [Pr _ (z20 hM _ _ _ [] (by simp))]
  rfl
def RR {X R : Type} (step : X → Option (X ⊕ R)) : Nat → X → Option R
 | 0, _ => none
 | n + 1, x => match step x with
  | some (.inl y) => RR step n y
  | some (.inr r) => some r
  | none => none
theorem ZU {X R : Type} {step : X → Option (X ⊕ R)} : ∀ (n : Nat) {x : X} {r : R}, RR step n x = some r → Bb step x = some r
 | 0, _, _, h => by simp [RR] at h
 | n + 1, x, r, h => by
  unfold RR at h
  cases hs : step x with
  | none => rw [hs] at h; simp at h
  | some z =>
   rw [hs] at h
   rw [Id hs]
   cases z with
   | inl y => exact ZU n h
   | inr r' => exact h
def Iz : List (List UInt8) := [[97], [98], [99], [100], [101], [102], [103], [104], [105], [106], [107], [108], [109], [110], [111], [112], [113], [114], [115], [116], [117], [118], [119], [120], [121], [122], [49], [50], [51], [52], [53], [54], [55], [56], [57], [48], [101, 110, 116, 101, 114], [101, 115, 99], [98, 97, 99, 107], [116, 97, 98], [115, 112, 97, 99, 101], [109, 105, 110, 117, 115], [101, 113, 117, 97, 108], [108, 101, 102, 116], [114, 105, 103, 104, 116], [117, 112], [100, 111, 119, 110], [102, 49], [102, 50], [102, 51], [102, 52], [102, 53], [102, 54], [102, 55], [102, 56], [102, 57]]
theorem UX : strings_Split KD [32] = some (Iz, ()) := by kernel_rfl
def Zg (c : Int) : List UInt8 := cond (decide (1 ≤ c ∧ c ≤ 56)) (Iz.getD (c - 1).toNat []) []
theorem NZ : Iz.length = 56 := by decide +kernel
theorem K9 {c : Int} (h : 1 ≤ c ∧ c ≤ 56) : Iz[(c - 1).toNat]? = some (Zg c) ∧ Ui Iz.length (c - 1) = true := by
 have hl : (c - 1).toNat < Iz.length := by rw [NZ]; omega
 constructor
 ·unfold Zg
  rw [Ia h, yt, qd, je hl]; rfl
 ·have : c - 1 = (((c - 1).toNat : Nat) : Int) := by omega
  rw [this, Kr]; exact Ia hl
theorem AI (c : Int) : Vs c = some (Zg c, ()) := by
 unfold Vs
 by_cases h1 : c < 1
 ·rw [Ia h1]; unfold Zg; rw [Ja (show ¬ (1 ≤ c ∧ c ≤ 56) by omega)]; rfl
 rw [Ja h1]
 by_cases h2 : c > 56
 ·rw [Ia h2]; unfold Zg; rw [Ja (show ¬ (1 ≤ c ∧ c ≤ 56) by omega)]; rfl
 rw [Ja h2, UX]
 obtain ⟨e1, e2⟩ := K9 (c := c) (by omega)
 simp only [yu, jb]
 rw [Qh (by omega) (by omega), e1, e2]
 rfl
theorem EI {l : List (List UInt8)} {by_ : List UInt8} (h1 : l.length ≤ 1073741824) (h2 : (Lib.join l by_).length ≤ 1073741824) : Xs l by_ = some (Lib.join l by_, ()) := by
 unfold Xs strings_Join DP
 rw [ji h1, ji h2]
 rfl
theorem Q3 (l : List (List UInt8)) (s : List UInt8) (c : Nat) (h : ∀ x ∈ l, x.length ≤ c) : (Lib.join l s).length ≤ (c + s.length) * l.length := by
 cases l with
 | nil => simp [Lib.join_nil]
 | cons x r =>
  rw [Lib.join_cons, qb, Lib.joinTail_length]
  have h1 := h x (by simp)
  have h2 : Lib.lens r ≤ c * r.length := by
   clear h1
   induction r with
   | nil => simp [Lib.lens]
   | cons y r ih =>
    have := ih (fun z hz => h z (by simp at hz ⊢; rcases hz with hz | hz <;> simp [hz]))
    have h3 := h y (by simp)
    simp only [Lib.lens, ya, List.sum_cons, jw] at this ⊢
    rw [Nat.mul_succ]
    omega
  simp only [jw]
  rw [Nat.mul_succ, q7]
  omega
def Rp (m : Int) : List UInt8 := [[], [67], [83], [67, 83], [65], [67, 65], [83, 65], [67, 83, 65], [71], [67, 71], [83, 71], [67, 83, 71], [65, 71], [67, 65, 71], [83, 65, 71], [67, 83, 65, 71]].getD m.toNat []
theorem SN : ∀ m : Fin 16, RR (fun x : (Int × List UInt8 × List (List UInt8) × Int × Int × Unit) × Unit => Xo x.1.1 x.1.2.1 x.1.2.2.1 x.1.2.2.2.1 x.1.2.2.2.2.1) 10 (((m.val : Int), [], [[67], [83], [65], [71]], 4, 0, ()), ()) = some (.inl ((Rp m.val, ()), ())) := by
 intro m
 simp only [Xo]
 revert m
 decide +kernel
theorem JI {m : Int} (h : ¬ (1 ≤ m ∧ m ≤ 15)) : Rp m = [] := by
 unfold Rp
 by_cases hm : m < 1
 ·rw [show m.toNat = 0 by omega]; rfl
 ·rw [qd, qn (by simp; omega)]; rfl
theorem FE (m : Int) : Gp m = some (Rp m, ()) := by
 unfold Gp
 by_cases h1 : m < 1
 ·rw [Ia h1, JI (by omega)]; rfl
 rw [Ja h1, yu]
 by_cases h2 : m > 15
 ·rw [Ia h2, JI (by omega)]; rfl
 rw [Ja h2, yu]
 have := ZU 10 (SN ⟨m.toNat, by omega⟩)
 rw [show (((⟨m.toNat, by omega⟩ : Fin 16).val : Nat) : Int) = m by show ((m.toNat : Nat) : Int) = m; omega] at this
 unfold Dl
 erw [this]
 rfl
theorem ER (m : Int) : (Rp m).length ≤ 4 := by
 by_cases h : 1 ≤ m ∧ m ≤ 15
 ·have : ∀ m : Fin 16, (Rp m.val).length ≤ 4 := by decide +kernel
  have := this ⟨m.toNat, by omega⟩
  rwa [show (((⟨m.toNat, by omega⟩ : Fin 16).val : Nat) : Int) = m by show ((m.toNat : Nat) : Int) = m; omega] at this
 ·rw [JI h]; simp
theorem YZ (c : Int) : (Zg c).length ≤ 5 := by
 unfold Zg
 cases decide (1 ≤ c ∧ c ≤ 56) with
 | false => simp
 | true =>
  have h : ∀ x ∈ Iz, x.length ≤ 5 := by decide +kernel
  rw [yt, qd]
  cases hc : Iz[(c - 1).toNat]? with
  | none => simp
  | some y => exact h y (List.mem_of_getElem? hc)
def NA (r : Ga) : List UInt8 := cond (Od r) (jf (jf (Rp r.1) [58]) (Lib.join (r.2.1.map Zg) [44])) []
theorem Lz {r : Ga} (h : Od r = true) : r.2.1.length ≤ 56 := by
 unfold Od at h
 simp only [jd] at h
 have h2 := Mj.1 h.2
 have key : ∀ j (hj : j < r.2.1.length), (j : Int) + 1 ≤ r.2.1[j] ∧ r.2.1[j] ≤ 56 := by
  intro j
  induction j with
  | zero =>
   intro hj
   have := h2 0 hj
   simp only [Wu, jd, decide_eq_true_eq] at this
   omega
  | succ j ih =>
   intro hj
   have h3 := ih (by omega)
   have := h2 (j + 1) hj
   simp only [Wu, jd, qr, yc, decide_eq_true_eq, decide_eq_false_iff_not] at this
   have e : r.2.1.getD (0 + (j + 1) - 1) 0 = r.2.1[j] := by
    rw [show 0 + (j + 1) - 1 = j by omega, qd, je (by omega)]; rfl
   rw [e] at this
   omega
 apply Classical.byContradiction
 intro hn
 have := key 56 (by omega)
 omega
theorem UM {r : Ga} (h : Od r = true) : (Lib.join (r.2.1.map Zg) [44]).length ≤ 336 := by
 have h1 := Q3 (r.2.1.map Zg) [44] 5 (fun x hx => by
  obtain ⟨c, _, rfl⟩ := qg.1 hx
  exact YZ c)
 have h2 := Lz h
 simp only [yi, jw, j6] at h1
 omega
theorem LQ (r : Ga) : (NA r).length ≤ 341 := by
 unfold NA
 cases h : Od r with
 | false => simp
 | true =>
  have := UM h
  have := ER r.1
  simp only [yt, List.append_eq, qb, jw, j6]
  omega
theorem JC (r : Ga) (hn : r.2.1.length ≤ Pa) : Sl r = some (NA r, ()) := by
 have h20 : Pa = 1048576 := rfl
 unfold Sl NA
 rw [DI r hn]
 cases hv : Od r with
 | false => rfl
 | true =>
  simp only [jb, jg, yu, yt]
  have hk := Lz hv
  have hl := Pw (step := fun x : (Unit × List (List UInt8) × List Int × Int × Int × Unit) × Ga × Unit => Ki x.1.1 x.1.2.1 x.1.2.2.1 x.1.2.2.2.1 x.1.2.2.2.2.1 x.2.1) r.2.1 Zg
   (fun o k => (((), o, r.2.1, (r.2.1.length : Int), k, ()), (r, ()))) (fun o => .inl (((), o, ()), (r, ()))) (by omega) (fun k hk o ho => by
    simp only [Ki]
    rw [Ia (by omega), Lc hk]
    simp only [yt, jb]
    rw [AI]
    simp only [jb]
    rw [Ue (by simp only [jw, j6]; omega)]
    rfl) (fun o => by
    simp only [Ki]
    rw [Ja (by omega)]
    rfl)
  unfold Zj
  erw [hl]
  simp only [jb, qe]
  rw [FE]
  have h1 := ER r.1
  have h2 := UM hv
  simp only [jb]
  rw [Ue (by simp only [jw, j6]; omega)]
  simp only [yt]
  rw [EI (by simp; omega) (by omega)]
  simp only [jb]
  rw [Ue (by simp only [List.append_eq, qb, jw, j6]; omega)]
  rfl
theorem KG {c : UInt8} : ∀ {a a' b b' : List UInt8}, (∀ x ∈ a, x ≠ c) → (∀ x ∈ a', x ≠ c) → a ++ c :: b = a' ++ c :: b' → a = a' ∧ b = b'
 | [], [], b, b', _, _, h => by simpa using h
 | [], y :: r, b, b', _, h2, h => by
  simp only [List.nil_append, q8, q9] at h
  exact absurd h.1.symm (h2 y (by simp))
 | x :: r, [], b, b', h1, _, h => by
  simp only [List.nil_append, q8, q9] at h
  exact absurd h.1 (h1 x (by simp))
 | x :: r, y :: q, b, b', h1, h2, h => by
  simp only [q8, q9] at h
  obtain ⟨e1, e2⟩ := KG (fun z hz => h1 z (jr _ hz)) (fun z hz => h2 z (jr _ hz)) h.2
  exact ⟨by rw [h.1, e1], e2⟩
theorem L1 : ∀ c : Fin 56, Zg ((c.val : Int) + 1) ≠ [] ∧ ∀ x ∈ Zg ((c.val : Int) + 1), x ≠ 44 ∧ x ≠ 58 ∧ x ≠ 59 := by decide +kernel
theorem L9 : ∀ a b : Fin 56, Zg ((a.val : Int) + 1) = Zg ((b.val : Int) + 1) → a = b := by decide +kernel
theorem EP {c : Int} (h : 1 ≤ c ∧ c ≤ 56) : ∃ i : Fin 56, c = (i.val : Int) + 1 := ⟨⟨(c - 1).toNat, by omega⟩, by show c = (((c - 1).toNat : Nat) : Int) + 1; omega⟩
theorem A7 {c : Int} (h : 1 ≤ c ∧ c ≤ 56) : Zg c ≠ [] := by obtain ⟨i, rfl⟩ := EP h; exact (L1 i).1
theorem HG {c : Int} (h : 1 ≤ c ∧ c ≤ 56) : ∀ x ∈ Zg c, x ≠ 44 ∧ x ≠ 58 ∧ x ≠ 59 := by obtain ⟨i, rfl⟩ := EP h; exact (L1 i).2
theorem M1 {a b : Int} (ha : 1 ≤ a ∧ a ≤ 56) (hb : 1 ≤ b ∧ b ≤ 56) (h : Zg a = Zg b) : a = b := by
 obtain ⟨i, rfl⟩ := EP ha
 obtain ⟨j, rfl⟩ := EP hb
 rw [L9 i j h]
theorem Gac : ∀ a : Fin 16, ∀ x ∈ Rp (a.val : Int), x ≠ 58 ∧ x ≠ 59 := by decide +kernel
theorem J9 : ∀ a b : Fin 16, Rp (a.val : Int) = Rp (b.val : Int) → a = b := by decide +kernel
theorem BY {c : Int} (h : 0 ≤ c ∧ c ≤ 15) : ∃ i : Fin 16, c = (i.val : Int) := ⟨⟨c.toNat, by omega⟩, by show c = ((c.toNat : Nat) : Int); omega⟩
theorem AY {c : Int} (h : 0 ≤ c ∧ c ≤ 15) : ∀ x ∈ Rp c, x ≠ 58 ∧ x ≠ 59 := by obtain ⟨i, rfl⟩ := BY h; exact Gac i
theorem Hac {a b : Int} (ha : 0 ≤ a ∧ a ≤ 15) (hb : 0 ≤ b ∧ b ≤ 15) (h : Rp a = Rp b) : a = b := by
 obtain ⟨i, rfl⟩ := BY ha
 obtain ⟨j, rfl⟩ := BY hb
 rw [J9 i j h]
theorem Oy (x y : List UInt8) (r : List (List UInt8)) : Lib.join (x :: y :: r) [44] = x ++ 44 :: Lib.join (y :: r) [44] := by
 simp [Lib.join, List.intercalate, List.intersperse]
theorem X6 : ∀ (l : List Int), (∀ c ∈ l, 1 ≤ c ∧ c ≤ 56) → ∀ x ∈ Lib.join (l.map Zg) [44], x ≠ 58 ∧ x ≠ 59
 | [], _, x, hx => by simp [Lib.join_nil] at hx
 | [a], h, x, hx => by
  rw [ya, yb, Lib.join_one] at hx
  exact (HG (h a (by simp)) x hx).2
 | a :: b :: r, h, x, hx => by
  rw [ya, ya, Oy, jl, jp] at hx
  rcases hx with hx | rfl | hx
  ·exact (HG (h a (by simp)) x hx).2
  ·exact ⟨by decide, by decide⟩
  ·exact X6 (b :: r) (fun c hc => h c (jr _ hc)) x (by rw [ya]; exact hx)
theorem J0 : ∀ (l q : List Int), (∀ c ∈ l, 1 ≤ c ∧ c ≤ 56) → (∀ c ∈ q, 1 ≤ c ∧ c ≤ 56) → Lib.join (l.map Zg) [44] = Lib.join (q.map Zg) [44] → l = q
 | [], [], _, _, _ => rfl
 | [], [a], _, h2, h => by
  rw [yb, Lib.join_nil, ya, yb, Lib.join_one] at h
  exact absurd h.symm (A7 (h2 a (by simp)))
 | [], a :: b :: r, _, _, h => by
  rw [yb, Lib.join_nil, ya, ya, Oy] at h
  simp at h
 | [a], [], h1, _, h => by
  rw [yb, Lib.join_nil, ya, yb, Lib.join_one] at h
  exact absurd h (A7 (h1 a (by simp)))
 | a :: b :: r, [], _, _, h => by
  rw [yb, Lib.join_nil, ya, ya, Oy] at h
  simp at h
 | [a], [b], h1, h2, h => by
  rw [ya, yb, Lib.join_one, ya, yb, Lib.join_one] at h
  rw [M1 (h1 a (by simp)) (h2 b (by simp)) h]
 | [a], b :: c :: r, h1, _, h => by
  rw [ya, yb, Lib.join_one, ya, ya, Oy] at h
  exact absurd rfl (HG (h1 a (by simp)) 44 (by rw [h]; simp)).1
 | a :: c :: r, [b], _, h2, h => by
  rw [ya, ya, Oy, ya, yb, Lib.join_one] at h
  exact absurd rfl (HG (h2 b (by simp)) 44 (by rw [← h]; simp)).1
 | a :: c :: r, b :: d :: q, h1, h2, h => by
  rw [ya, ya, Oy, ya, ya, Oy] at h
  obtain ⟨e1, e2⟩ := KG (fun x hx => (HG (h1 a (by simp)) x hx).1) (fun x hx => (HG (h2 b (by simp)) x hx).1) h
  rw [M1 (h1 a (by simp)) (h2 b (by simp)) e1, J0 (c :: r) (d :: q) (fun x hx => h1 x (jr _ hx)) (fun x hx => h2 x (jr _ hx)) (by rw [ya, ya]; exact e2)]
theorem TL {r : Ga} (h : Od r = true) : (0 ≤ r.1 ∧ r.1 ≤ 15) ∧ ∀ c ∈ r.2.1, 1 ≤ c ∧ c ≤ 56 := by
 unfold Od at h
 simp only [jd, decide_eq_true_eq] at h
 refine ⟨h.1, fun c hc => ?_⟩
 obtain ⟨i, hi, rfl⟩ := List.getElem_of_mem hc
 have := Mj.1 h.2 i hi
 simp only [Wu, jd, decide_eq_true_eq] at this
 exact this.1
theorem RL {r : Ga} (h : Od r = true) : NA r = Rp r.1 ++ 58 :: Lib.join (r.2.1.map Zg) [44] := by
 unfold NA
 rw [h, yt]
 simp
theorem YU {r : Ga} (h : Od r = true) : ∀ x ∈ NA r, x ≠ 59 := by
 obtain ⟨h1, h2⟩ := TL h
 intro x hx
 rw [RL h, jl, jp] at hx
 rcases hx with hx | rfl | hx
 ·exact (AY h1 x hx).2
 ·decide
 ·exact (X6 _ h2 x hx).2
theorem O4 {r q : Ga} (hr : Od r = true) (hq : Od q = true) (h : NA r = NA q) : r = q := by
 obtain ⟨r1, r2⟩ := TL hr
 obtain ⟨q1, q2⟩ := TL hq
 rw [RL hr, RL hq] at h
 obtain ⟨e1, e2⟩ := KG (fun x hx => (AY r1 x hx).1) (fun x hx => (AY q1 x hx).1) h
 have g1 := Hac r1 q1 e1
 have g2 := J0 _ _ r2 q2 e2
 exact Prod.ext g1 (Prod.ext g2 rfl)
def Ql : List Ga → List UInt8
 | [] => []
 | r :: l => NA r ++ 59 :: Ql l
theorem JV : ∀ (l q : List Ga), (∀ r ∈ l, Od r = true) → (∀ r ∈ q, Od r = true) → Ql l = Ql q → l = q
 | [], [], _, _, _ => rfl
 | [], b :: q, _, _, h => by simp [Ql] at h
 | a :: l, [], _, _, h => by simp [Ql] at h
 | a :: l, b :: q, h1, h2, h => by
  simp only [Ql] at h
  obtain ⟨e1, e2⟩ := KG (YU (h1 a (by simp))) (YU (h2 b (by simp))) h
  rw [O4 (h1 a (by simp)) (h2 b (by simp)) e1, JV l q (fun r hr => h1 r (jr _ hr)) (fun r hr => h2 r (jr _ hr)) e2]
theorem Caa (l q : List Ga) : Ql (l ++ q) = Ql l ++ Ql q := by
 induction l with
 | nil => rfl
 | cons a l ih => simp [Ql, ih]
theorem KV : ∀ (l : List Ga), (Ql l).length ≤ 342 * l.length
 | [] => by simp [Ql]
 | a :: l => by
  have := KV l
  have := LQ a
  simp only [Ql, qb, jw]
  omega
theorem DN {a b : Ga} : Rf a b = true ↔ a = b := by
 unfold Rf
 simp only [jd, beq_iff_eq]
 exact ⟨fun h => Prod.ext h.1 (Prod.ext h.2 rfl), fun h => by rw [h]; exact ⟨rfl, rfl⟩⟩
theorem K0 {l : List Int} (h : l.Pairwise (· < ·)) (h2 : ∀ c ∈ l, 1 ≤ c ∧ c ≤ 56) : Gf (fun k x => Wu l k x) 0 l = true := by
 rw [Mj]
 intro i hi
 have h1 := h2 l[i] (qf hi)
 simp only [Wu, js, jd, qr, yc, decide_eq_true_eq, decide_eq_false_iff_not]
 refine ⟨by omega, ?_⟩
 by_cases h0 : i = 0
 ·exact .inl h0
 ·right
  have h2 := List.pairwise_iff_getElem.1 h (i - 1) i (by omega) hi (by omega)
  rw [qd, je (by omega)]
  simp only [qs]
  omega
theorem QR {l : List Sa} (hm : 0 ≤ GG l ∧ GG l ≤ 15) : Od (Vd l) = true := by
 unfold Od Vd
 rw [Ia hm]
 exact K0 (Us l 56) fun c hc => by
  have := ((Lu l 56 c).1 hc).1
  omega
theorem Pac : Od (Vd []) = true := QR (by show (0 : Int) ≤ 0 ∧ (0 : Int) ≤ 15; omega)
theorem Qac {k : Nat} {a : Wa} (h : Mc a = true) : Od (Vd [((k : Int), a, ())]) = true := by
 refine QR ?_
 have hb := (Pb a).1 h
 unfold Ec at hb
 show 0 ≤ cond (a.1 == 2 || a.1 == 8) (Ce .i64 0 a.2.2.1) 0 ∧ cond (a.1 == 2 || a.1 == 8) (Ce .i64 0 a.2.2.1) 0 ≤ 15
 cases hc : (a.1 == 2 || a.1 == 8) with
 | false => simp
 | true =>
  simp only [qr, beq_iff_eq] at hc
  rw [yt]
  exact I4 (by omega) (by omega)
noncomputable def Jn (m : Ea) (x : Fd) (k : Nat) : List Ga := Qk m x.1 x.2.1 x.2.2.1 k ++ PB m x.1 x.2.1 x.2.2.1 k
noncomputable def Wz (m : Ea) (x : Fd) (k : Nat) : Fd := ((Vf m x.1 x.2.1 x.2.2.1 k).1, (Vf m x.1 x.2.1 x.2.2.1 k).2.1, (Vf m x.1 x.2.1 x.2.2.1 k).2.2.1, ())
def Du (m : Ea) (x : Fd) : Prop := Dt m.2.1.length x.1 x.2.1
theorem O1 {m : Ea} (hM : Xh m) {x : Fd} (hx : Du m x) {k : Nat} (hk : (k : Int) < m.1) : Du m (Wz m x k) := (Wt (c := x.2.2.1) hM hx hk).2.1
theorem DF {m : Ea} (hM : Xh m) {x : Fd} (hx : Du m x) {k : Nat} (hk : (k : Int) < m.1) : (Jn m x k).length ≤ 2 ∧ ∀ r ∈ Jn m x k, Od r = true := by
 have e1 : (Qk m x.1 x.2.1 x.2.2.1 k).length ≤ 1 := Ft _ _
 have e2 : (PB m x.1 x.2.1 x.2.2.1 k).length ≤ 1 := Ft _ _
 obtain ⟨h1, h2, h3, h4, h5⟩ := Wt (o := x.2.1) (c := x.2.2.1) hM hx hk
 refine ⟨by unfold Jn; rw [qb]; omega, fun r hr => ?_⟩
 rcases jl.1 hr with hr | hr
 ·have := Gv _ _ _ hr
  simp only [jp, yr, or_false] at this
  rw [this]; exact Qac h3.act
 ·have := Gv _ _ _ hr
  simp only [jp, yr, or_false] at this
  rw [this]; exact Pac
end KF
