/- An evaluator of Go functions on plain data, its soundness, and plain laws on what the functions compute, part 2 (conditions: as each lemma tells). -/
import Derived.Test.YthipacpeljffpaaGreatA
import Derived.Deep.AppendSrc
import Derived.Deep.Upon
import Derived.Laws.CopyRow
import Derived.MapKept
import Derived.Orders
set_option linter.unusedSimpArgs false
set_option linter.unusedVariables false
namespace KF
open Go
open List renaming length → ja, getElem?_eq_getElem → je, append → jf, mem_append → jl, mem_cons → jp, mem_cons_of_mem → jr, length_cons → jw, set → qa, length_nil → qb, mem_singleton → qg, length_append → qh, getD_eq_getElem?_getD → qj, getElem_mem → qt, getElem_of_mem → qu, mem_map → qv, length_drop → qw, ext_getElem? → q0, drop_drop → q7, toArray → q8, getD → q9, getElem?_eq_none → ya, mem_append_left → yb, mem_append_right → yc, any_eq_true → yf, append_assoc → yh, eq_nil_of_length_eq_zero → yj, getElem?_eq_some_iff → yk, drop → yo, replicate → yp, cons_append → yu, map_cons → yw, nodup_cons → yy, nodup_append → yz, flatten_cons → y0, mem_map_of_mem → ze, map_append → zf, all_eq_true → zg, range → zi, append_eq → zv, not_mem_nil → zw, pairwise_append → zx
open Option renaming bind_some → jb, bind → jz, map_some → qf, bind_eq_some_iff → qi, getD_some → yg, map_eq_some_iff → zh
open Option.some renaming injEq → jc
open Bool renaming and_eq_true → jd, not_true → jg, true_and → jk, false_eq_true → jq, not_false → qc, not_eq_true → qd, false_and → qr, eq_iff_iff → qx, or_eq_true → ye, not_eq_true' → yx, or_eq_false_iff → zb, false_or → zd
open Prod.mk renaming injEq → jh
open Nat renaming ble_eq_true_of_le → ji, mul_le_mul_right → jm, le_refl → jo, zero_add → js, add_assoc → jt, eq_of_beq_eq_true → ju, ble → jx, le_trans → qe, shiftLeft_eq → ql, lt_of_lt_of_le → qn, pow_le_pow_right → qo, testBit_xor → qp, testBit_two_pow → qq, xor_lt_two_pow → qs, beq → yd, le_of_ble_eq_true → yi, add_zero → yl, blt → ym, blt_eq → yq, add_mul → yr, one_mul → yt, succ_mul → y3, zero_le → zj, and_le_left → zm, or_lt_two_pow → zn, shiftRight_eq_div_pow → zo, eq_of_testBit_eq → zp, testBit_or → zq, testBit_and → zr, two_pow_pos → zt, testBit_lt_two_pow → zu, testBit → zy
open Int renaming toNat_natCast → jn, eq_ofNat_of_zero_le → jv, toNat → jy, tmod → yn, le_refl → za
open Go.IntKind renaming wrap → j8, wrap → j9
open Sum renaming elim_inl → qm
open Result renaming andThen_ok → qy
open Sem renaming run_bind → qz
open List.cons renaming injEq → yv
open Sum.inl renaming injEq → zk
open Sum.inr renaming injEq → zl
def NC (L : List Value) (i size : Nat) : List Value := (L.drop (i * size)).take size
structure El (w : World) (O : Nat → Prop) (dq : Bool) (e : Ty) (xs : List (T e)) (L : List Value) (Fs : List (List Nat)) : Prop where
 len : L.length = ja xs * e.size
 flen : Fs.length = ja xs
 el : ∀ i (h : i < ja xs), if dq then Kc w e (List.get xs ⟨i, h⟩) (NC L i e.size) (Fs.getD i []) else Ta w O e (List.get xs ⟨i, h⟩) (NC L i e.size) ∧ Fs.getD i [] = []
def Fk (w : World) (O : Nat → Prop) (dq : Bool) (e : Ty) (xs : List (T e)) (v : Value) (F : List Nat) : Prop :=
 ja xs ≤ Xk ∧ ((v = .slice none 0 0 ∧ xs = ([] : List (T e)) ∧ F = []) ∨
  ∃ bl off cap cur et Fs, v = .slice (some ⟨bl, off, none⟩) (ja xs) cap ∧ w.heap[bl]? = some (.cells cur et (0, 0)) ∧
   ja xs ≤ cap ∧ cap ≤ Xk ∧ off + cap * e.size ≤ cur.size ∧ F = bl :: List.flatten Fs ∧ El w O dq e xs (Ee cur off (ja xs * e.size)) Fs)
theorem SO {cur : Array Value} {off n i size : Nat} (hi : i < n) : NC (Ee cur off (n * size)) i size = Ee cur (off + i * size) size := by
 unfold NC
 refine RP _ _ _ _ _ ?_
 have : (i + 1) * size ≤ n * size := jm _ hi
 rw [y3] at this
 exact this
theorem OF {Fs : List (List Nat)} (h : ∀ i, i < Fs.length → Fs.getD i [] = []) : Fs.flatten = [] := by
 rw [List.flatten_eq_nil_iff]
 intro l hl'
 obtain ⟨i, hi, rfl⟩ := List.mem_iff_getElem.1 hl'
 have := h i hi
 simpa [q9, hi] using this
theorem Ym {w : World} {O : Nat → Prop} {hp : Nat → Option La} {σ : Nat → Value} {id : Nat} {dq : Bool} {e : Ty} {xs : List (T e)} {F : List Nat} :
 Hd w O hp σ id (.row e dq xs) F ↔ Fk w O dq e xs (σ id) F := by
 cases dq with
 | true =>
  simp only [Hd, Kc, Fk]
  constructor
  ·rintro ⟨hm, ⟨h1, h2, h3⟩ | ⟨bl, off, cap, cur, et, Fs, h1, hh, h2, h3, h4, hF, hl, hv⟩⟩
   ·simp only [yv, and_true] at h1
    exact ⟨hm, .inl ⟨h1, h2, h3⟩⟩
   ·simp only [yv, and_true] at h1
    have := jm e.size h2
    refine ⟨hm, .inr ⟨bl, off, cap, cur, et, Fs, h1, hh, h2, h3, h4, hF, ⟨Ie (by omega), hl, fun i hi => ?_⟩⟩⟩
    rw [if_pos rfl, SO hi]
    exact hv i hi
  ·rintro ⟨hm, ⟨h1, h2, h3⟩ | ⟨bl, off, cap, cur, et, Fs, h1, hh, h2, h3, h4, hF, hel⟩⟩
   ·exact ⟨hm, .inl ⟨by rw [h1], h2, h3⟩⟩
   ·refine ⟨hm, .inr ⟨bl, off, cap, cur, et, Fs, by rw [h1], hh, h2, h3, h4, hF, hel.flen, fun i hi => ?_⟩⟩
    have := hel.el i hi
    rw [if_pos rfl, SO hi] at this
    exact this
 | false =>
  simp only [Hd, Fk]
  constructor
  ·rintro ⟨hm, ⟨h1, h2, h3⟩ | ⟨bl, off, cap, cur, et, h1, hh, h2, h3, h4, hF, hv⟩⟩
   ·exact ⟨hm, .inl ⟨h1, h2, h3⟩⟩
   ·have := jm e.size h2
    refine ⟨hm, .inr ⟨bl, off, cap, cur, et, yp (ja xs) [], h1, hh, h2, h3, h4, by rw [hF]; simp, ⟨Ie (by omega), by simp, fun i hi => ?_⟩⟩⟩
    rw [if_neg (by simp), SO hi]
    exact ⟨hv i hi, by simp [q9, hi]⟩
  ·rintro ⟨hm, ⟨h1, h2, h3⟩ | ⟨bl, off, cap, cur, et, Fs, h1, hh, h2, h3, h4, hF, hel⟩⟩
   ·exact ⟨hm, .inl ⟨h1, h2, h3⟩⟩
   ·refine ⟨hm, .inr ⟨bl, off, cap, cur, et, h1, hh, h2, h3, h4, ?_, fun i hi => ?_⟩⟩
    ·rw [hF, OF]
     intro i hi
     have := hel.el i (by rw [← hel.flen]; exact hi)
     rw [if_neg (by simp)] at this
     exact this.2
    ·have := hel.el i hi
     rw [if_neg (by simp), SO hi] at this
     exact this.1
theorem El.stable {w w' : World} {O O' : Nat → Prop} {dq : Bool} {e : Ty} {xs : List (T e)} {L : List Value} {Fs : List (List Nat)} (h : El w O dq e xs L Fs)
 (hv : ∀ b, ¬ O b → b < w.heap.size → w'.heap[b]? = w.heap[b]?) (hO : ∀ b, b < w.heap.size → ¬ O b → ¬ O' b) (hF : ∀ b, b ∈ Fs.flatten → w'.heap[b]? = w.heap[b]?) :
 El w' O' dq e xs L Fs := by
 refine ⟨h.len, h.flen, fun i hi => ?_⟩
 have := h.el i hi
 cases dq with
 | true =>
  simp only [if_true] at this ⊢
  exact this.stable fun b hb => hF b (Kl hb)
 | false =>
  simp only [jq, if_false] at this ⊢
  exact ⟨Ta.stable hv hO this.1, this.2⟩
theorem H1 {L L' : List Value} {i size : Nat} (h : (i + 1) * size ≤ L.length) : NC (L ++ L') i size = NC L i size := by
 rw [y3] at h
 unfold NC
 rw [List.drop_append_of_le_length (by omega), List.take_append_of_le_length (by simp; omega)]
theorem GY {L L' : List Value} {n j size : Nat} (h : L.length = n * size) : NC (L ++ L') (n + j) size = NC L' j size := by
 unfold NC
 rw [yr, ← h, List.drop_append, List.drop_eq_nil_of_le (by omega)]
 simp
theorem El.append {w : World} {O : Nat → Prop} {dq : Bool} {e : Ty} {xs ys : List (T e)} {L L' : List Value} {Fs Gs : List (List Nat)} (h : El w O dq e xs L Fs) (h' : El w O dq e ys L' Gs) :
 El w O dq e (jf xs ys) (L ++ L') (Fs ++ Gs) := by
 have ha : jf xs ys = xs ++ ys := rfl
 refine ⟨by rw [ha, qh, qh, h.len, h'.len, yr], by rw [ha, qh, qh, h.flen, h'.flen], fun i hi => ?_⟩
 have hi' : i < ja xs + ja ys := by rw [ha, qh] at hi; exact hi
 rcases Nat.lt_or_ge i (ja xs) with hl | hg
 ·have h1 : List.get (jf xs ys) ⟨i, hi⟩ = List.get xs ⟨i, hl⟩ := by
   show (xs ++ ys)[i] = xs[i]
   exact List.getElem_append_left hl
  have h2 : (Fs ++ Gs).getD i [] = Fs.getD i [] := by
   have : i < Fs.length := by rw [h.flen]; exact hl
   simp [q9, List.getElem?_append_left this]
  rw [h1, h2, H1 (by rw [h.len]; exact jm _ hl)]
  exact h.el i hl
 ·obtain ⟨j, rfl⟩ := Nat.exists_eq_add_of_le hg
  have hj : j < ja ys := by omega
  have h1 : List.get (jf xs ys) ⟨ja xs + j, hi⟩ = List.get ys ⟨j, hj⟩ := by
   show (xs ++ ys)[ja xs + j] = ys[j]
   rw [List.getElem_append_right (by omega)]
   congr 1; omega
  have h2 : (Fs ++ Gs).getD (ja xs + j) [] = Gs.getD j [] := by
   rw [← h.flen]
   simp [q9, List.getElem?_append_right]
  rw [h1, h2, GY h.len]
  exact h'.el j hj
theorem El.nil {w : World} {O : Nat → Prop} {dq : Bool} {e : Ty} : El w O dq e ([] : List (T e)) [] [] :=
 ⟨by simp, rfl, fun i h => absurd h (by simp)⟩
section
variable {P : Program} {w : World}
theorem DZ (t tx ty et : TypeId) (i : TypeInfo) (ht : P.underlying t = some (.slice et)) (hi : P.info? et = some i) {b off sLen sCap : Nat} {x : Value} {n : Nat} {news : List Value} (hs : Src P i.size tx x n news w)
 {cur : Array Value} {ct : TypeId} (hh : w.heap[b]? = some (.cells cur ct (0, 0))) (hroom : sLen + n ≤ sCap) (hfit : off + sLen * i.size + news.length ≤ cur.size) :
 (Builtin.append_ #[t, tx] ty #[.slice (some ⟨b, off, none⟩) sLen sCap, x]).run P w = .ok (.slice (some ⟨b, off, none⟩) (sLen + n) sCap) (w.setRow b (Hc cur.toList (off + sLen * i.size) news).toArray) := by
 have hst := run_storeCells_at P b (off + sLen * i.size) ct news 0 cur w hh (by simpa using hfit) hs.one
 simp only [yl] at hst
 rcases hs.kind with ⟨e', hk⟩ | hk <;> simp [Builtin.append_, run_underlying ht, run_underlying hk, Go.sizeOf, typeInfo, hi, hs.len, hroom, hs.cells, Addr.add_lit, hst, Hc]
theorem W4 {cur : Array Value} {off n : Nat} {news : List Value} (h : off + n + news.length ≤ cur.size) :
 Ee (Hc cur.toList (off + n) news).toArray off (n + news.length) = Ee cur off n ++ news := by
 have hs : (Hc cur.toList (off + n) news).length = cur.size := by rw [Wh (by simpa using h)]; simp
 apply q0
 intro j
 by_cases hj : j < n + news.length
 ·rw [Bg _ _ _ _ hj, List.getElem?_toArray, Nj (by simpa using h)]
  by_cases hn : j < n
  ·rw [if_pos (by omega), List.getElem?_append_left (by rw [Ie (by omega)]; exact hn), Bg _ _ _ _ hn]; simp
  ·rw [if_neg (by omega), if_pos (by omega), List.getElem?_append_right (by rw [Ie (by omega)]; omega), Ie (by omega)]
   congr 1; omega
 ·rw [ya (by rw [Ie (by simp only [List.size_toArray, hs]; omega)]; omega), ya (by rw [qh, Ie (by omega)]; omega)]
theorem Vac {e : Ty} {t tx ty et : TypeId} (ht : P.underlying t = some (.slice et)) (hte : Ke P e et = true) {O : Nat → Prop} {dq : Bool} {xs ys : List (T e)} {v x : Value} {F : List Nat}
 (hx : Fk w O dq e xs v F) {news : List Value} {Gs : List (List Nat)} (hs : Src P e.size tx x (ja ys) news w) (hy : El w O dq e ys news Gs) (hn : (F ++ Gs.flatten).Nodup)
 (hlim : ja xs + ja ys ≤ Xa) (hFO : ∀ c, c ∈ F → O c) (hGO : ∀ c, c ∈ Gs.flatten → c < w.heap.size) :
 ∃ v' w' F', (Builtin.append_ #[t, tx] ty #[v, x]).run P w = .ok v' w' ∧ v'.oneCell' = true ∧ w.heap.size ≤ w'.heap.size ∧ (∀ c, c < w.heap.size → c ∉ F → w'.heap[c]? = w.heap[c]?) ∧
  w'.os = w.os ∧ w'.tape = w.tape ∧ w'.output = w.output ∧ F'.Nodup ∧ (∀ c, c ∈ F' → w.heap.size ≤ c ∨ c ∈ F ∨ c ∈ Gs.flatten) ∧
  (∀ O', (∀ b, b < w.heap.size → ¬ O b → ¬ O' b) → Fk w' O' dq e (jf xs ys) v' F') := by
 obtain ⟨i, hi, hsz, hby, hz⟩ := Tok.size hte
 have hal : ja (jf xs ys) = ja xs + ja ys := by show (xs ++ ys).length = _; simp
 have hs' : Src P i.size tx x (ja ys) news w := by rw [hsz]; exact hs
 have hzs : (Oe e e.zc).cells.size = e.size := by
  have := HS e
  rw [← Array.length_toList, this, EJ]
 have hmaxl : maxLen = 9223372036854775807 := rfl
 have hmaxn : Xk = 9223372036854775807 := rfl
 have hlim' : ja xs + ja ys ≤ 1073741824 := hlim
 have hbytes : (ja xs + ja ys) * i.bytes ≤ 140737488355328 := by
  have := Nat.mul_le_mul hlim' hby
  omega
 have grow : ∀ (base : Option Addr) (cap : Nat) (olds : List Value) (Fs : List (List Nat)), v = .slice base (ja xs) cap → cap < ja xs + ja ys →
  (Builtin.firstCells i.size (ja xs) (.slice base (ja xs) cap)).run P w.drew = .ok olds.toArray w.drew → El w O dq e xs olds Fs → (∀ c, c ∈ Fs.flatten → c ∈ F) → (Fs.flatten ++ Gs.flatten).Nodup →
  (∀ c, c ∈ Fs.flatten → c < w.heap.size) →
  ∃ v' w' F', (Builtin.append_ #[t, tx] ty #[v, x]).run P w = .ok v' w' ∧ v'.oneCell' = true ∧ w.heap.size ≤ w'.heap.size ∧ (∀ c, c < w.heap.size → c ∉ F → w'.heap[c]? = w.heap[c]?) ∧
  w'.os = w.os ∧ w'.tape = w.tape ∧ w'.output = w.output ∧ F'.Nodup ∧ (∀ c, c ∈ F' → w.heap.size ≤ c ∨ c ∈ F ∨ c ∈ Gs.flatten) ∧
  (∀ O', (∀ b, b < w.heap.size → ¬ O b → ¬ O' b) → Fk w' O' dq e (jf xs ys) v' F') := by
  intro base cap olds Fs hv hg hold hel hsub hnd hlt
  have hr := run_append_grow_src (P := P) w t tx ty et i _ ht hi hz base (ja xs) cap olds hold x (ja ys) news hs' hg (by omega) (growslice_fits hg hbytes)
  have hge := grownCap_ge w (ja xs + ja ys) cap et
  have hle := grownCap_le_maxLen w (ja xs + ja ys) cap et (by omega)
  have hold' : ∀ b, b < w.heap.size → (w.drew.alloc (.cells ((olds ++ news).toArray ++ Builtin.zeroCells (Oe e e.zc).cells (grownCap w (ja xs + ja ys) cap et - (ja xs + ja ys))) et)).heap[b]? = w.heap[b]? :=
   fun b hb => Ni w.drew _ b hb
  refine ⟨_, _, w.heap.size :: (Fs ++ Gs).flatten, by rw [hv]; exact hr, rfl, by simp, fun c hc _ => hold' c hc, rfl, rfl, rfl, ?_, ?_, ?_⟩
  ·rw [yy, List.flatten_append]
   refine ⟨fun hm => ?_, hnd⟩
   rcases jl.1 hm with hm | hm
   ·exact absurd (hlt _ hm) (by omega)
   ·exact absurd (hGO _ hm) (by omega)
  ·intro c hc
   rw [List.flatten_append] at hc
   rcases jp.1 hc with rfl | hc
   ·exact .inl (jo _)
   ·rcases jl.1 hc with hc | hc
    ·exact .inr (.inl (hsub c hc))
    ·exact .inr (.inr hc)
  ·intro O' hO'
   have happ := (hel.append hy).stable (w' := w.drew.alloc (.cells ((olds ++ news).toArray ++ Builtin.zeroCells (Oe e e.zc).cells (grownCap w (ja xs + ja ys) cap et - (ja xs + ja ys))) et)) (O' := O')
    (fun b _ hb => hold' b hb) hO' (by
     intro b hb
     rw [List.flatten_append] at hb
     rcases jl.1 hb with hb | hb
     ·exact hold' b (hlt b hb)
     ·exact hold' b (hGO b hb))
   have hol : (olds ++ news).length = ja (jf xs ys) * e.size := (hel.append hy).len
   refine ⟨by rw [hal]; omega, .inr ⟨w.heap.size, 0, _, _, et, Fs ++ Gs, by rw [hal], heap_alloc_new w.drew _, by rw [hal]; exact hge, by omega, ?_, rfl, ?_⟩⟩
   ·simp only [Array.size_append, List.size_toArray, size_zeroCells, hzs, hol, hal, ← yr, js]
    exact jm _ (by omega)
   ·have : Ee ((olds ++ news).toArray ++ Builtin.zeroCells (Oe e e.zc).cells (grownCap w (ja xs + ja ys) cap et - (ja xs + ja ys))) 0 (ja (jf xs ys) * e.size) = olds ++ news := by
     simp only [Ee, List.drop_zero, Array.toList_append]
     rw [← hol]
     exact List.take_left
    rw [this]
    exact happ
 obtain ⟨hm, ⟨h1, h2, h3⟩ | ⟨bl, off, cap, cur, ct, Fs, h1, hh, h2, h3, h4, hF, hel⟩⟩ := hx
 ·subst h2
  by_cases hm0 : ja ys = 0
  ·have hy0 : ys = ([] : List (T e)) := yj hm0
   subst hy0
   have hnews : news = [] := yj (by rw [hs.newsLen]; simp)
   subst hnews
   have hr := run_append_nothing (P := P) w t tx ty et i ht hi none 0 0 (jo _) x hs'
   refine ⟨_, w, [], by rw [h1]; exact hr, rfl, jo _, fun _ _ _ => rfl, rfl, rfl, rfl, List.nodup_nil, by simp, fun O' _ => ⟨by simp, .inl ⟨rfl, rfl, rfl⟩⟩⟩
  ·refine grow none 0 [] [] (by rw [h1]; rfl) (by simp; omega) ?_ El.nil (by simp) (by simpa [h3] using hn) (by simp)
   simpa using run_firstCells_none (P := P) w.drew i.size 0 0 0
 ·have hcap := jm e.size h2
  by_cases hroom : ja xs + ja ys ≤ cap
  ·have hcap2 := jm e.size hroom
   rw [yr] at hcap2
   have hnl := hs.newsLen
   have hr := DZ (P := P) (w := w) (b := bl) (off := off) (sLen := ja xs) (sCap := cap) t tx ty et i ht hi hs' hh hroom (by rw [hsz]; omega)
   rw [hsz] at hr
   have hbF : bl ∉ Fs.flatten ∧ bl ∉ Gs.flatten := by
    rw [hF] at hn
    simp only [yu, yy, jl, not_or] at hn
    exact hn.1
   have hblO : O bl := hFO bl (by rw [hF]; simp)
   have hoth : ∀ c, c ≠ bl → (w.setRow bl (Hc cur.toList (off + ja xs * e.size) news).toArray).heap[c]? = w.heap[c]? := fun c hc => setRow_other w bl c _ hc
   refine ⟨_, _, bl :: (Fs ++ Gs).flatten, by rw [h1]; exact hr, rfl, by simp, fun c _ hc => hoth c fun e => hc (by rw [hF, e]; simp), rfl, rfl, rfl, ?_, ?_, ?_⟩
   ·rw [hF] at hn
    rw [List.flatten_append]
    simpa using hn
   ·intro c hc
    rw [List.flatten_append] at hc
    rw [hF]
    simp only [jp, jl] at hc ⊢
    grind
   ·intro O' hO'
    have happ := (hel.append hy).stable (w' := w.setRow bl (Hc cur.toList (off + ja xs * e.size) news).toArray) (O' := O')
     (fun b hb _ => hoth b fun e => hb (e ▸ hblO)) hO' (by
      intro b hb
      rw [List.flatten_append] at hb
      exact hoth b fun e => by
       subst e
       rcases jl.1 hb with hb | hb
       ·exact hbF.1 hb
       ·exact hbF.2 hb)
    refine ⟨by rw [hal]; omega, .inr ⟨bl, off, cap, _, ct, Fs ++ Gs, by rw [hal], setRow_heap w bl cur _ ct (0, 0) hh, by rw [hal]; exact hroom, h3, ?_, rfl, ?_⟩⟩
    ·have hcl : cur.toList.length = cur.size := Array.length_toList
     have hsl := Wh (cs := cur.toList) (ce := news) (o := off + ja xs * e.size) (by omega)
     rw [List.size_toArray, hsl, hcl]
     exact h4
    ·rw [hal, yr, ← hnl, W4 (by omega)]
     exact happ
  ·refine grow (some ⟨bl, off, none⟩) cap (Ee cur off (ja xs * e.size)) Fs h1 (by omega) ?_ hel (fun c hc => by rw [hF]; exact jr _ hc) ?_ ?_
   ·refine run_firstCells_some (P := P) w.drew i.size (ja xs) ⟨bl, off, none⟩ (ja xs) cap _ (by rw [hsz]; exact Ie (by omega)) ?_
    intro j u hu
    rw [Ko]
    show w.cell? _ = _
    rw [cell_of_row w bl (off + j) cur ct (0, 0) hh]
    have hj : j < ja xs * e.size := by
     have := (yk.1 hu).1
     rwa [Ie (by omega)] at this
    rwa [Bg _ _ _ _ hj] at hu
   ·rw [hF] at hn
    exact (yy.1 (by simpa using hn)).2
   ·intro c hc
    obtain ⟨i', hi', hm'⟩ := Hx hc
    have := hel.el i' (by rw [← hel.flen]; exact hi')
    cases dq with
    | true =>
     simp only [if_true] at this
     exact this.lt c hm'
    | false =>
     simp only [jq, if_false] at this
     rw [this.2] at hm'
     simp at hm'
end
theorem QT {L : List Value} {i size j : Nat} (hj : j < size) : (NC L i size)[j]? = L[i * size + j]? := by
 simp [NC, hj]
theorem El.one {w : World} {O : Nat → Prop} {dq : Bool} {e : Ty} {xs : List (T e)} {L : List Value} {Fs : List (List Nat)} (h : El w O dq e xs L Fs) : ∀ v ∈ L, v.oneCell' = true := by
 intro v hv
 obtain ⟨p, hp, hpv⟩ := List.mem_iff_getElem.1 hv
 have hlen := h.len
 rcases Nat.eq_zero_or_pos e.size with h0 | h0
 ·rw [h0, Nat.mul_zero] at hlen
  omega
 ·have hi : p / e.size < ja xs := by
   rw [Nat.div_lt_iff_lt_mul h0]
   omega
  have hdm : p / e.size * e.size + p % e.size = p := Nat.div_add_mod' p e.size
  have hm : (NC L (p / e.size) e.size)[p % e.size]? = some v := by
   rw [QT (Nat.mod_lt _ h0), hdm, je hp, hpv]
  have hmem : v ∈ NC L (p / e.size) e.size := List.mem_of_getElem? hm
  have := h.el _ hi
  cases dq with
  | true =>
   simp only [if_true] at this
   exact this.one v hmem
  | false =>
   simp only [jq, if_false] at this
   exact this.1.one v hmem
theorem Fk.up {w : World} {O : Nat → Prop} {dp : Bool} {e : Ty} {xs : List (T e)} {v : Value} {F : List Nat} (h : Fk w O dp e xs v F) : Fk w O (dp || e.flat) e xs v F := by
 cases dp with
 | true => exact h
 | false =>
  cases hf : e.flat with
  | false => exact h
  | true =>
   obtain ⟨hm, h | ⟨bl, off, cap, cur, et, Fs, h1, hh, h2, h3, h4, hF, hel⟩⟩ := h
   ·exact ⟨hm, .inl h⟩
   ·refine ⟨hm, .inr ⟨bl, off, cap, cur, et, Fs, h1, hh, h2, h3, h4, hF, hel.len, hel.flen, fun i hi => ?_⟩⟩
    have := hel.el i hi
    simp only [jq, if_false] at this
    simp only [zd, if_true]
    rw [this.2]
    exact this.1.flat hf
theorem I3 {L M : List (List Nat)} (h : L.Sublist M) : L.flatten.Sublist M.flatten := by
 induction h with
 | slnil => simp
 | cons a _ ih => rw [y0]; exact ih.trans (List.sublist_append_right _ _)
 | cons_cons a _ ih => rw [y0, y0]; exact (List.Sublist.refl a).append ih
theorem El.nils {w : World} {O : Nat → Prop} {e : Ty} {xs : List (T e)} {L : List Value} {Fs : List (List Nat)} (h : El w O e.flat e xs L Fs) : Fs.flatten = [] :=
 OF fun i hi => by
  have := h.el i (by rw [← h.flen]; exact hi)
  split at this
  ·rename_i hfl; exact Lv hfl this
  ·exact this.2
theorem El.cut {w : World} {O : Nat → Prop} {dq : Bool} {e : Ty} {xs : List (T e)} {L : List Value} {Fs : List (List Nat)} (h : El w O dq e xs L Fs) {lo hi : Nat} (hlo : lo ≤ hi) (hhi : hi ≤ ja xs) :
 El w O dq e (Lb xs lo hi) ((L.drop (lo * e.size)).take ((hi - lo) * e.size)) ((Fs.drop lo).take (hi - lo)) := by
 have hlen : ja (Lb xs lo hi) = hi - lo := RH (xs := (xs : List (T e))) (lo := lo) hhi
 have hmul : (lo + (hi - lo)) * e.size ≤ ja xs * e.size := jm _ (by omega)
 rw [yr] at hmul
 refine ⟨?_, ?_, fun i hi' => ?_⟩
 ·rw [List.length_take, qw, h.len, hlen]; omega
 ·rw [List.length_take, qw, h.flen, hlen]; omega
 ·have hi2 : i < hi - lo := by rw [← hlen]; exact hi'
  have h2 : lo + i < ja xs := by omega
  have := h.el (lo + i) h2
  rw [EY (xs := (xs : List (T e))) hi' h2]
  have hg : ((Fs.drop lo).take (hi - lo)).getD i [] = Fs.getD (lo + i) [] := by
   simp [q9, hi2]
  have he : NC ((L.drop (lo * e.size)).take ((hi - lo) * e.size)) i e.size = NC L (lo + i) e.size := by
   unfold NC
   have h3 : (i + 1) * e.size ≤ (hi - lo) * e.size := jm _ hi2
   rw [y3] at h3
   rw [List.drop_take, List.take_take, q7, yr]
   congr 1
   omega
  rw [hg, he]
  exact this
theorem Fk.slice {w : World} {O : Nat → Prop} {dp : Bool} {e : Ty} {xs : List (T e)} {v : Value} {F : List Nat} (h : Fk w O dp e xs v F) : ∃ ad cap, v = .slice ad (ja xs) cap ∧ ja xs ≤ cap := by
 obtain ⟨hm, ⟨h1, h2, h3⟩ | ⟨bl, off, cap, cur, et, Fs, h1, hh, h2, _⟩⟩ := h
 ·subst h2; exact ⟨none, 0, h1, jo _⟩
 ·exact ⟨_, cap, h1, h2⟩
theorem Fk.addr {w : World} {O : Nat → Prop} {dp : Bool} {e : Ty} {xs : List (T e)} {v : Value} {F : List Nat} (h : Fk w O dp e xs v F) {ad : Addr} {n cap : Nat} (hv : v = .slice (some ad) n cap) : ∃ b off, ad = ⟨b, off, none⟩ := by
 obtain ⟨hm, ⟨h1, h2, h3⟩ | ⟨bl, off, cap, cur, et, Fs, h1, hh, h2, _⟩⟩ := h
 ·rw [hv] at h1; simp at h1
 ·rw [hv] at h1
  simp only [Value.slice.injEq, jc] at h1
  exact ⟨bl, off, h1.1⟩
theorem Fk.cut {w : World} {O : Nat → Prop} {dp : Bool} {e : Ty} {xs : List (T e)} {v : Value} {F : List Nat} (h : Fk w O dp e xs v F) {ad : Option Addr} {n cap lo hi j : Nat} (hv : v = .slice ad n cap) (hlo : lo ≤ hi) (hhi : hi ≤ ja xs)
 (hj1 : j ≤ lo) (hj2 : lo < cap → j = lo) :
 ∃ F', F'.Sublist F ∧ (F.length ≤ 1 → F' = F) ∧ Fk w O dp e (Lb xs lo hi) (.slice (ad.map (·.add (j * e.size))) (hi - lo) (cap - lo)) F' := by
 have hlen : ja (Lb xs lo hi) = hi - lo := RH (xs := (xs : List (T e))) (lo := lo) hhi
 obtain ⟨hm, ⟨h1, h2, h3⟩ | ⟨bl, off, cap', cur, et, Fs, h1, hh, h2, h3, h4, hF, hel⟩⟩ := h
 ·subst h2
  rw [hv] at h1
  simp only [Value.slice.injEq] at h1
  obtain ⟨rfl, rfl, rfl⟩ := h1
  simp at hhi
  obtain rfl : lo = 0 := by omega
  subst hhi
  exact ⟨[], by simp, fun _ => h3.symm, by simp [Lb], .inl ⟨by simp, by simp [Lb], rfl⟩⟩
 ·rw [hv] at h1
  simp only [Value.slice.injEq] at h1
  obtain ⟨rfl, rfl, rfl⟩ := h1
  have hcap := jm e.size h2
  have hjc : j * e.size ≤ cap * e.size := jm _ (by omega)
  have hmul : (lo + (hi - lo)) * e.size ≤ ja xs * e.size := jm _ (by omega)
  rw [yr] at hmul
  have hsl : ((Fs.drop lo).take (hi - lo)).flatten.Sublist Fs.flatten := I3 ((List.take_sublist _ _).trans (List.drop_sublist _ _))
  refine ⟨bl :: ((Fs.drop lo).take (hi - lo)).flatten, ?_, ?_, by rw [hlen]; omega, .inr ⟨bl, off + j * e.size, cap - lo, cur, et, _, ?_, hh, by rw [hlen]; omega, by omega, ?_, rfl, ?_⟩⟩
  ·rw [hF]
   exact hsl.cons_cons _
  ·intro h1
   rw [hF] at h1 ⊢
   simp only [jw] at h1
   have h2 : Fs.flatten = [] := yj (by omega)
   rw [h2] at hsl ⊢
   rw [List.eq_nil_of_sublist_nil hsl]
  ·rw [hlen]; simp [Ko]
  ·have : (j + (cap - lo)) * e.size ≤ cap * e.size := jm _ (by omega)
   rw [yr] at this
   omega
  ·have hc := hel.cut hlo hhi
   rw [hlen]
   rcases Nat.lt_or_ge lo cap with hl | hl
   ·obtain rfl := hj2 hl
    rw [RP _ _ _ _ _ hmul] at hc
    exact hc
   ·have h0 : hi - lo = 0 := by omega
    have hx0 : Lb xs lo hi = ([] : List (T e)) := yj (hlen.trans h0)
    rw [h0] at hc ⊢
    simpa [Ee] using hc
theorem Fk.flatup {w : World} {O : Nat → Prop} {dp : Bool} {e : Ty} {xs : List (T e)} {v : Value} {F : List Nat} (h : Fk w O dp e xs v F) (hf : e.flat = true ∨ dp = false) : Fk w O e.flat e xs v F := by
 cases hfl : e.flat with
 | true => have := h.up; rw [hfl, Bool.or_true] at this; exact this
 | false =>
  rcases hf with h1 | h1
  ·rw [hfl] at h1; simp at h1
  ·rw [h1] at h; exact h
theorem Fk.len1 {w : World} {O : Nat → Prop} {e : Ty} {xs : List (T e)} {v : Value} {F : List Nat} (h : Fk w O e.flat e xs v F) : F.length ≤ 1 := by
 obtain ⟨hm, ⟨_, _, h3⟩ | ⟨bl, off, cap, cur, et, Fs, h1, hh, h2, h3, h4, hF, hel⟩⟩ := h
 ·rw [h3]; simp
 ·have : Fs.flatten = [] := hel.nils
  rw [hF, this]; simp
theorem Fk.stable {w w' : World} {O O' : Nat → Prop} {dp : Bool} {e : Ty} {xs : List (T e)} {v : Value} {F : List Nat} (h : Fk w O dp e xs v F)
 (hv : ∀ b, ¬ O b → b < w.heap.size → w'.heap[b]? = w.heap[b]?) (hO : ∀ b, b < w.heap.size → ¬ O b → ¬ O' b) (hF : ∀ b, b ∈ F → w'.heap[b]? = w.heap[b]?) : Fk w' O' dp e xs v F := by
 obtain ⟨hm, h | ⟨bl, off, cap, cur, et, Fs, h1, hh, h2, h3, h4, hF', hel⟩⟩ := h
 ·exact ⟨hm, .inl h⟩
 ·subst hF'
  exact ⟨hm, .inr ⟨bl, off, cap, cur, et, Fs, h1, (hF bl (by simp)).trans hh, h2, h3, h4, rfl, hel.stable hv hO fun b hb => hF b (jr _ hb)⟩⟩
section
variable {P : Program} {Out : Type} {n0 : Nat} {A : Fx} {O0 : Nat → Prop} {w0 w w' : World} {s : AS} {σ σ' : Nat → Value} {φ φ' : Nat → List Nat} {a : Act}
variable {o : Oper} {Q : Exit → Act → World → Prop} {k : AS → Option Out} {out : Out} {d : D} {v : Value} {upd : List (Nat × Option La)} {dst : Option Tmp} {G : Yf}
theorem E5 {size : Nat} {tx : TypeId} (hk : (∃ e', P.underlying tx = some (.slice e')) ∨ P.underlying tx = some .string) (cap : Nat) : Src P size tx (.slice none 0 cap) 0 [] w :=
 ⟨hk, fun _ => rfl, run_firstCells_none w size 0 0 cap, run_firstCells_none w.drew size 0 0 cap, by simp, fun _ h => by cases h⟩
theorem MZ {size : Nat} {tx : TypeId} (hk : (∃ e', P.underlying tx = some (.slice e')) ∨ P.underlying tx = some .string) (ad : Addr) (n cap : Nat) (news : List Value) (hl : news.length = n * size)
 (hnews : ∀ j u, news[j]? = some u → w.cell? (ad.add j) = some u) (h1 : ∀ u ∈ news, u.oneCell' = true) : Src P size tx (.slice (some ad) n cap) n news w :=
 ⟨hk, fun _ => rfl, run_firstCells_some w size n ad n cap news hl hnews, run_firstCells_some w.drew size n ad n cap news hl (by simpa using hnews), hl, h1⟩
theorem R6 {bl off n : Nat} {cur : Array Value} {et : TypeId} {fr : Nat × Nat} (hh : w.heap[bl]? = some (.cells cur et fr)) (hs : off + n ≤ cur.size) :
 ∀ j u, (Ee cur off n)[j]? = some u → w.cell? ((⟨bl, off, none⟩ : Addr).add j) = some u := by
 intro j u hu
 rw [Ko, cell_of_row w bl (off + j) cur et fr hh]
 have hj : j < n := by
  have := (yk.1 hu).1
  rwa [Ie hs] at this
 rwa [Bg _ _ _ _ hj] at hu
theorem Bah {e : Ty} {O : Nat → Prop} {dq : Bool} {ys : List (T e)} {F : List Nat} {tx : TypeId} (hk : (∃ e', P.underlying tx = some (.slice e')) ∨ P.underlying tx = some .string) (h : Fk w O dq e ys v F) :
 ∃ news Gs, Src P e.size tx v (ja ys) news w ∧ El w O dq e ys news Gs ∧ Gs.flatten.Sublist F := by
 obtain ⟨hm, ⟨h1, h2, h3⟩ | ⟨bl, off, cap, cur, et, Fs, h1, hh, h2, h3, h4, hF, hel⟩⟩ := h
 ·subst h2
  rw [h1]
  exact ⟨[], [], E5 hk 0, El.nil, by simp⟩
 ·have := jm e.size h2
  refine ⟨_, Fs, ?_, hel, by rw [hF]; exact List.sublist_cons_self _ _⟩
  rw [h1]
  exact MZ hk _ _ _ _ hel.len (R6 hh (by omega)) hel.one
theorem CZ (h : Bb n0 A O0 w0 s σ φ a w) {id : Nat} {e : Ty} {dp : Bool} {xs : List (T e)} (hb : s.heap id = some (.row e dp xs)) (hv : Pd w (OO O0 s φ) s.heap σ (.own id) v) :
 Fk w (OO O0 s φ) (dp || e.flat) e xs v (φ id) := by
 have := Ym.1 (h.hp id _ hb)
 rw [UL] at hv
 rw [hv.2 _ _ hb rfl]
 exact this.up
theorem Aah (h : Bb n0 A O0 w0 s σ φ a w) {e : Ty} {db : D} {ys : List (T e)} {dq : Bool} {m : List Nat} (hs : BV s e db = some (ys, dq, m)) (hv : Pd w (OO O0 s φ) s.heap σ db v)
 {tx : TypeId} (hk : (∃ e', P.underlying tx = some (.slice e')) ∨ P.underlying tx = some .string) :
 ∃ news Gs, Src P e.size tx v (ja ys) news w ∧ El w (OO O0 s φ) dq e ys news Gs ∧ Gs.flatten.Sublist (Ha φ m) ∧ ∀ j, j ∈ m → ∃ b, s.heap j = some b := by
 unfold BV at hs
 split at hs
 ·simp only [jc, jh] at hs
  obtain ⟨rfl, rfl, rfl⟩ := hs
  rw [TL] at hv
  rw [hv]
  exact ⟨[], [], E5 hk 0, El.nil, by simp, by simp⟩
 ·rename_i e' ys'
  split at hs
  ·rename_i q hq
   subst q
   simp only [jc, jh] at hs
   obtain ⟨rfl, rfl, rfl⟩ := hs
   rw [JK] at hv
   obtain ⟨ad, cap, hv, hc, hm, hd⟩ := hv
   simp only [yv, and_true] at hv
   rcases hd with hd | ⟨bl, off, cur, et, fr, hd, hO, hh, hsz, hel⟩
   ·subst hd
    rw [hv]
    refine ⟨[], [], ?_, El.nil, by simp, by simp⟩
    cases ad with
    | none => exact E5 hk cap
    | some ad => exact MZ hk ad 0 cap [] (by simp) (by simp) (by simp)
   ·have hEl : El w (OO O0 s φ) e'.flat e' ys' (Ee cur off (ja ys' * e'.size)) (yp (ja ys') []) := by
     refine ⟨Ie hsz, by simp, fun i hi => ?_⟩
     have hg : (yp (ja ys') ([] : List Nat)).getD i [] = [] := by simp [q9, hi]
     rw [SO hi, hg]
     cases hf : e'.flat with
     | true => exact (hel i hi).flat hf
     | false => simpa using hel i hi
    refine ⟨_, _, ?_, hEl, by simp, by simp⟩
    rw [hv, hd]
    exact MZ hk _ _ _ _ hEl.len (R6 hh hsz) hEl.one
  ·simp at hs
 ·rename_i y
  split at hs
  ·rename_i q hq
   subst q
   simp only [jc, jh] at hs
   obtain ⟨rfl, rfl, rfl⟩ := hs
   rw [Xm] at hv
   rw [hv]
   have hbl : ja (Wp y) = (⟨q8 y⟩ : ByteArray).size := by simp [Wp, ByteArray.size]
   have hEl : El w (OO O0 s φ) true (.i .u8) (Wp y) (byteCells ⟨q8 y⟩) (yp (ja (Wp y)) []) := by
    refine ⟨by rw [byteCells_length, ← hbl]; simp [Ty.size], by simp, fun i hi => ?_⟩
    have hg : (yp (ja (Wp y)) ([] : List Nat)).getD i [] = [] := by simp [q9, hi]
    rw [hg]
    simp only [if_true, Kc, and_true]
    apply q0
    intro j
    cases j with
    | zero =>
     rw [QT (by simp [Ty.size])]
     have hi' : i < y.length := by simpa [Wp] using hi
     simp [Ty.size, byteCells, Wp, hi']
    | succ j => simp [NC, Ty.size]; omega
   refine ⟨byteCells ⟨q8 y⟩, _, ⟨hk, fun _ => ?_, ?_, ?_, hEl.len, hEl.one⟩, hEl, by simp, by simp⟩
   ·rw [hbl]; rfl
   ·rw [hbl]; exact firstCells_string _ _
   ·rw [hbl]; exact firstCells_string _ _
  ·simp at hs
 ·rename_i id
  split at hs
  ·rename_i e' dp ys' hb
   split at hs
   ·rename_i q hq
    subst q
    simp only [jc, jh] at hs
    obtain ⟨rfl, rfl, rfl⟩ := hs
    have hrow := CZ h hb hv
    obtain ⟨news, Gs, h1, h2, h3⟩ := Bah (P := P) (tx := tx) hk hrow
    refine ⟨news, Gs, h1, h2, ?_, ?_⟩
    ·cases hf : e'.flat with
     | false => simpa [Ha] using h3
     | true =>
      have : Gs.flatten = [] := OF fun i hi => by
       have := h2.el i (by rw [← h2.flen]; exact hi)
       simp only [hf, Bool.or_true, if_true] at this
       exact Lv hf this
      rw [this]; simp
    ·intro j hj
     cases hf : e'.flat with
     | true => rw [hf] at hj; simp at hj
     | false => rw [hf] at hj; simp at hj; subst hj; exact ⟨_, hb⟩
   ·simp at hs
  ·simp at hs
 ·rename_i id lo hi
  split at hs
  ·rename_i e' dp ys' hb
   split at hs
   ·rename_i q hq
    subst q
    cases hf : (e'.flat || !dp) with
    | false => rw [hf] at hs; simp at hs
    | true =>
     rw [hf] at hs
     simp only [zz, jc, jh] at hs
     obtain ⟨rfl, rfl, rfl⟩ := hs
     simp only [Pd, Pf, D.isAgg, jq, if_false, Gb] at hv
     obtain ⟨u, hu', h1c, hv⟩ := hv
     simp only [yv, and_true] at hu'
     obtain ⟨hlo, hhi, ad, cap, j, hs0, hcap, hj1, hj2, hu2⟩ := hv _ _ _ hb rfl
     have hrow := Ym.1 (h.hp id _ hb)
     obtain ⟨F', hsub, _, hrow'⟩ := hrow.cut hs0 hlo hhi hj1 hj2
     have hrow2 := hrow'.flatup (by simpa using hf)
     rw [← hu2, ← hu'] at hrow2
     obtain ⟨news, Gs, h1, h2, h3⟩ := Bah (P := P) (tx := tx) hk hrow2
     refine ⟨news, Gs, h1, h2, ?_, by simp⟩
     have : Gs.flatten = [] := h2.nils
     rw [this]; simp [Ha]
   ·simp at hs
  ·simp at hs
 ·simp at hs
theorem Xay (h : Bb n0 A O0 w0 s σ φ a w) {e : Ty} {da : D} {xs : List (T e)} {dp : Option Bool} {l : List Nat} (hs : FY s e da = some (xs, dp, l)) (hv : Pd w (OO O0 s φ) s.heap σ da v)
 {dq : Bool} (hd : dp.getD dq = dq) : Fk w (OO O0 s φ) dq e xs v (Ha φ l) ∧ ∀ j, j ∈ l → ∃ b, s.heap j = some b := by
 unfold FY at hs
 split at hs
 ·simp only [jc, jh] at hs
  obtain ⟨rfl, rfl, rfl⟩ := hs
  rw [TL] at hv
  exact ⟨⟨by simp, .inl ⟨hv, rfl, by simp [Ha]⟩⟩, by simp⟩
 ·rename_i id
  split at hs
  ·rename_i e' dp' ys' hb
   split at hs
   ·rename_i q hq
    subst q
    simp only [jc, jh] at hs
    obtain ⟨rfl, rfl, rfl⟩ := hs
    simp only [yg] at hd
    have hrow := CZ h hb hv
    rw [hd] at hrow
    refine ⟨by simpa [Ha] using hrow, ?_⟩
    intro j hj
    simp at hj
    subst hj
    exact ⟨_, hb⟩
   ·simp at hs
  ·simp at hs
 ·rename_i id lo hi
  split at hs
  ·rename_i e' dp' ys' hb
   split at hs
   ·rename_i q hq
    subst q
    cases hf : (e'.flat || !dp') with
    | false => rw [hf] at hs; simp at hs
    | true =>
     rw [hf] at hs
     simp only [zz, jc, jh] at hs
     obtain ⟨rfl, rfl, rfl⟩ := hs
     simp only [yg] at hd
     simp only [Pd, Pf, D.isAgg, jq, if_false, Gb] at hv
     obtain ⟨u, hu', h1c, hv⟩ := hv
     simp only [yv, and_true] at hu'
     obtain ⟨hlo, hhi, ad, cap, j, hs0, hcap, hj1, hj2, hu2⟩ := hv _ _ _ hb rfl
     have hrow := Ym.1 (h.hp id _ hb)
     have hrow1 := hrow.flatup (by simpa using hf)
     obtain ⟨F', hsub, hF', hrow'⟩ := hrow1.cut hs0 hlo hhi hj1 hj2
     rw [← hu2, ← hu', hF' hrow1.len1, hd] at hrow'
     refine ⟨by simpa [Ha] using hrow', ?_⟩
     intro j hj
     simp at hj
     subst hj
     exact ⟨_, hb⟩
   ·simp at hs
  ·simp at hs
 ·simp at hs
theorem Zap (hG : EnvTy P G) (h : Bb n0 A O0 w0 s σ φ a w) {args : Array Operand} {ts : Array TypeId} (ho : o.op = .call ⟨.builtin .append, args, ts⟩)
 (he : Mg G s o k = some out) : o.wp P a w (Vf n0 A O0 w0 k out) Q := by
 simp only [Mg, Zb, ho] at he
 split at he
 ·rename_i x y t tx hargs hts
  unfold Ez at he
  split at he
  ·rename_i tt e da db hd hty hx hy
   split at he
   ·rename_i xs dp l ys dq m hdst hsrc
    cases hc : ((dp.getD dq == dq) && s.newOk tt && Rh (l ++ m) && MW (Sb G.ty tx)) with
    | false => rw [hc] at he; simp at he
    | true =>
     rw [hc] at he
     simp only [zz] at he
     simp only [jd, beq_iff_eq] at hc
     obtain ⟨⟨⟨hdq, hnew⟩, hnd⟩, hkx⟩ := hc
     have hnd := Wj hnd
     cases hlim : jx (ja xs + ja ys) Xa with
     | false => rw [hlim] at he; simp at he
     | true =>
      rw [hlim] at he
      simp only [zz] at he
      have hlim := yi hlim
      obtain ⟨et, hu, hte⟩ := Tok.sl (hG.ty _ _ hty)
      have hk : (∃ e', P.underlying tx = some (.slice e')) ∨ P.underlying tx = some .string := by
       unfold MW at hkx
       split at hkx
       ·rename_i e' hq
        obtain ⟨et', hu', _⟩ := Tok.sl (hG.ty _ _ hq)
        exact .inl ⟨et', hu'⟩
       ·rename_i hq
        exact .inr (Tok.s (hG.ty _ _ hq))
       ·simp at hkx
      obtain ⟨hrow, hl1⟩ := Xay h hdst (h.ev hx) hdq
      obtain ⟨news, Gs, hS, hEl, hsub, hl2⟩ := Aah (P := P) h hsrc (h.ev hy) hk
      have hlive : ∀ j, j ∈ l ++ m → ∃ b, s.heap j = some b := by
       intro j hj
       rcases jl.1 hj with hj | hj
       ·exact hl1 j hj
       ·exact hl2 j hj
      have hbn := Vh h hnd hlive
      rw [Xe] at hbn
      obtain ⟨v', w', F', hr, h1, hsz, hbl, hos, htape, hout, hF', hsubF, hres⟩ := Vac (P := P) (t := t) (tx := tx) (ty := o.type) hu hte hrow hS hEl
       (List.Sublist.nodup (List.Sublist.append (List.Sublist.refl _) hsub) hbn) hlim
       (by
        intro c hc
        obtain ⟨j, hj, hm⟩ := Pb.1 hc
        obtain ⟨b, hb⟩ := hl1 j hj
        exact .inr ⟨j, b, hb, hm⟩)
       (by
        intro c hc
        obtain ⟨j, hj, hm⟩ := Pb.1 (hsub.subset hc)
        obtain ⟨b, hb⟩ := hl2 j hj
        exact (h.hp j b hb).lt c hm)
      have hc := h.absorb (w' := w') hnew (l ++ m) hlive (.row e dq (jf xs ys)) v' F' hsz
       (by
        intro b hb hno
        refine hbl b hb fun hm => ?_
        obtain ⟨j, hj, hm⟩ := Pb.1 hm
        exact hno j (yb _ hj) hm)
       hos htape hout hF'
       (by
        intro b hb
        rcases hsubF b hb with hb | hb | hb
        ·exact .inl hb
        ·obtain ⟨j, hj, hm⟩ := Pb.1 hb
         exact .inr ⟨j, yb _ hj, hm⟩
        ·obtain ⟨j, hj, hm⟩ := Pb.1 (hsub.subset hb)
         exact .inr ⟨j, yc _ hj, hm⟩)
       (by
        intro hp' σ' O' hσ hO'
        rw [Ym, hσ]
        exact hres O' hO')
      refine Gc (w' := w') (v := v') ?_ (Ig rfl hc ?_ he)
      ·have hts' : ts = #[t, tx] := by
        apply Array.ext'
        rw [hts]
       rw [Gt ho hargs, hts']
       simp [builtin, hr]
      ·exact IA (e := e) (dp := dq) (xs := jf xs ys) h1 (by rw [yu, Lh, if_pos rfl])
   ·simp at he
  ·simp at he
 ·simp at he
end
section
variable {P : Program} {Out : Type} {n0 : Nat} {A : Fx} {O0 : Nat → Prop} {w0 w w' : World} {s : AS} {σ σ' : Nat → Value} {φ φ' : Nat → List Nat} {a : Act}
variable {o : Oper} {Q : Exit → Act → World → Prop} {k : AS → Option Out} {out : Out} {d : D} {v : Value} {upd : List (Nat × Option La)} {dst : Option Tmp} {G : Yf}
theorem Kau (hG : EnvTy P G) (h : Bb n0 A O0 w0 s σ φ a w) {t : TypeId} {x : Operand} {lo hi : Option Operand} (ho : o.op = .slice t x lo hi none)
 (he : Mg G s o k = some out) : o.wp P a w (Vf n0 A O0 w0 k out) Q := by
 simp only [Mg, Zb, ho] at he
 split at he
 ·rename_i v hx
  split at he
  ·rename_i l m hl hm ht
   cases hc : We (ja v) l m with
   | false => simp [hc] at he
   | true =>
    simp only [hc, zz] at he
    have hv := h.ev hx
    rw [Xm] at hv
    have hu := Tok.s (hG.ty _ _ ht)
    have hsz : (ByteArray.mk (q8 v)).size = ja v := by simp [ByteArray.size]
    have hb := Vq (P := P) (cap := ja v) h hl hm hc (jo _) false
    have hex : (ByteArray.mk (q8 v)).extract l.toNat m.toNat = ⟨q8 (Lb v l.toNat m.toNat)⟩ := by
     apply ByteArray.ext
     simp [Lb, List.drop_take]
    refine Gc (w' := w) (v := .string ⟨q8 (Lb v l.toNat m.toNat)⟩) ?_ (Uc h (Xm.2 rfl) he)
    have hr : (Instr.sliceAt t (.string ⟨q8 v⟩) (lo.map a.eval) (hi.map a.eval) none).run P w = .ok (.string ⟨q8 (Lb v l.toNat m.toNat)⟩) w := by
     simp [Instr.sliceAt, Instr.slice, run_underlying hu, hsz, hb, hex]
    simp [execOp, ho, hv, hr]
  ·simp at he
 ·rename_i e v hx
  split at he
  ·rename_i l m e' hl hm ht
   split at he
   ·rename_i q hq
    obtain rfl := Sf hq
    cases hc : We (ja v) l m with
    | false => simp [hc] at he
    | true =>
     simp only [hc, zz] at he
     have hv := h.ev hx
     rw [JK] at hv
     obtain ⟨et, hu, hte⟩ := Tok.sl (hG.ty _ _ ht)
     obtain ⟨ad, cap, hcs, hcap, hmx, hcase⟩ := hv
     simp at hcs
     have hb := Vq (P := P) (cap := cap) h hl hm hc hcap true
     have hc' := hc
     simp only [We, jd, decide_eq_true_eq] at hc'
     have hml : m.toNat ≤ ja v := by omega
     have hlen := RH (xs := (v : List (T e))) (lo := l.toNat) hml
     have hlen' : ja (Lb v l.toNat m.toNat) = m.toNat - l.toNat := hlen
     refine Gc (w' := w) (v := .slice (if cap = l.toNat then ad else ad.map (·.add (l.toNat * e.size))) (m.toNat - l.toNat) (cap - l.toNat)) ?_ (Uc h ?_ he)
     ·have hr : (Instr.sliceAt t (.slice ad (ja v) cap) (lo.map a.eval) (hi.map a.eval) none).run P w = .ok (.slice (if cap = l.toNat then ad else ad.map (·.add (l.toNat * e.size))) (m.toNat - l.toNat) (cap - l.toNat)) w := by
       simp [Instr.sliceAt, Instr.slice, run_underlying hu, hb, Tok.sizeOf hte w]
      simp [execOp, ho, hcs, hr]
     ·rw [JK]
      refine ⟨_, cap - l.toNat, by rw [hlen'], by rw [hlen']; omega, by rw [hlen']; omega, ?_⟩
      rcases Nat.eq_or_lt_of_le (show l.toNat ≤ m.toNat by omega) with heq | hlt
      ·left
       exact yj (by rw [hlen']; omega)
      ·right
       rcases hcase with hemp | ⟨bl, off, cur, et', fr, rfl, hO, hh, hs, hvv⟩
       ·rw [hemp] at hml; simp at hml; omega
       ·have hne : ¬ cap = l.toNat := by omega
        have hmul : (l.toNat + (m.toNat - l.toNat)) * e.size ≤ ja v * e.size := jm _ (by omega)
        rw [yr] at hmul
        refine ⟨bl, off + l.toNat * e.size, cur, et', fr, by rw [if_neg hne]; simp [Ko], hO, hh, by rw [hlen']; omega, fun i hi => ?_⟩
        have hi2 : i < m.toNat - l.toNat := by rw [← hlen']; exact hi
        have h2 : l.toNat + i < ja v := by omega
        have := hvv (l.toNat + i) h2
        rw [EY (xs := (v : List (T e))) hi h2]
        rw [yr, ← jt] at this
        exact this
   ·simp at he
  ·simp at he
 ·rename_i id hx
  unfold QV at he
  split at he
  ·rename_i e dp xs hb
   split at he
   ·rename_i l m e' hl hm ht
    split at he
    ·rename_i q hq
     obtain rfl := Sf hq
     cases hc : We (ja xs) l m with
     | false => simp [hc] at he
     | true =>
      simp only [hc, zz] at he
      obtain ⟨et, hu, hte⟩ := Tok.sl (hG.ty _ _ ht)
      have hv := h.ev hx
      rw [UL] at hv
      have hσ := hv.2 _ _ hb rfl
      have hrow := Ym.1 (h.hp id _ hb)
      obtain ⟨ad, cap, hsl, hcap⟩ := hrow.slice
      have hb' := Vq (P := P) (cap := cap) h hl hm hc hcap true
      have hc' := hc
      simp only [We, jd, decide_eq_true_eq] at hc'
      have hlm : l.toNat ≤ m.toNat := by omega
      have hml : m.toNat ≤ ja xs := by omega
      obtain ⟨j, hj1, hj2, hj3⟩ : ∃ j, j ≤ l.toNat ∧ (l.toNat < cap → j = l.toNat) ∧ (if cap = l.toNat then ad else ad.map (·.add (l.toNat * e.size))) = ad.map (·.add (j * e.size)) := by
       by_cases hcl : cap = l.toNat
       ·refine ⟨0, by omega, by omega, ?_⟩
        rw [if_pos hcl]
        cases ad with
        | none => rfl
        | some ad =>
         have := hrow.addr hsl
         obtain ⟨b, off, rfl⟩ := this
         simp [Ko]
       ·exact ⟨l.toNat, by omega, fun _ => rfl, by rw [if_neg hcl]⟩
      have hr : (execOp a.eval o).run P w = .ok (.value (.slice (ad.map (·.add (j * e.size))) (m.toNat - l.toNat) (cap - l.toNat))) w := by
       rw [← hj3]
       have hr : (Instr.sliceAt t (.slice ad (ja xs) cap) (lo.map a.eval) (hi.map a.eval) none).run P w = .ok (.slice (if cap = l.toNat then ad else ad.map (·.add (l.toNat * e.size))) (m.toNat - l.toNat) (cap - l.toNat)) w := by
        simp [Instr.sliceAt, Instr.slice, run_underlying hu, hb', Tok.sizeOf hte w]
       simp [execOp, ho, hσ.trans hsl, hr]
      split at he
      ·rename_i tt hd
       cases hmv : VF G.mv tt with
       | true =>
        rw [hmv] at he
        simp only [zz] at he
        cases hn : s.newOk tt with
        | false => rw [hn] at he; simp at he
        | true =>
         rw [hn] at he
         simp only [zz] at he
         obtain ⟨F', hsub, _, hrow'⟩ := hrow.cut hsl hlm hml hj1 hj2
         have hne : ∀ b, s.heap id = some b → F'.Nodup := fun b hbb => hsub.nodup (h.nodup id b hbb)
         have hc2 := h.absorb (w' := w) hn [id] (fun j hj => by simp at hj; subst hj; exact ⟨_, hb⟩) (.row e dp (Lb xs l.toNat m.toNat))
          (.slice (ad.map (·.add (j * e.size))) (m.toNat - l.toNat) (cap - l.toNat)) F' (jo _) (fun _ _ _ => rfl) rfl rfl rfl (hne _ hb)
          (fun b hbm => .inr ⟨id, by simp, hsub.subset hbm⟩)
          (by
           intro hp' σ' O' hσ' hO'
           rw [Ym, hσ']
           exact hrow'.stable (fun _ _ _ => rfl) hO' (fun _ _ => rfl))
         refine Gc (w' := w) hr ?_
         rw [hd]
         rw [hd] at he
         exact Ig rfl hc2 (IA (e := e) (dp := dp) (xs := Lb xs l.toNat m.toNat) rfl (by rw [yu]; exact Ti ⟨s.n, s.tm, (id, none) :: s.hp⟩ _ _)) he
       | false =>
        rw [hmv] at he
        simp only [ua] at he
        refine Gc (w' := w) hr (Uc (d := .cut id l.toNat m.toNat) h ?_ he)
        simp only [Pd, Pf, D.isAgg, jq, if_false, Gb]
        refine ⟨_, rfl, rfl, fun blk' e' n' hb2 hr' => ?_⟩
        rw [hb] at hb2
        cases hb2
        simp only [La.rowN, jc, jh] at hr'
        obtain ⟨rfl, rfl⟩ := hr'
        exact ⟨hlm, hml, ad, cap, j, hsl, hcap, hj1, hj2, rfl⟩
      ·simp at he
    ·simp at he
   ·simp at he
  ·simp at he
 ·rename_i hx
  split at he
  ·rename_i l m e' hl hm ht
   cases hc : We 0 l m with
   | false => simp [hc] at he
   | true =>
    simp only [hc, zz] at he
    obtain ⟨et, hu, hte⟩ := Tok.sl (hG.ty _ _ ht)
    have hv := h.ev hx
    rw [TL] at hv
    have hb' := Vq (P := P) (cap := 0) h hl hm hc (jo _) true
    have hc' := hc
    simp only [We, jd, decide_eq_true_eq] at hc'
    have h0 : l.toNat = 0 := by omega
    have h1 : m.toNat = 0 := by omega
    rw [h0, h1] at hb'
    refine Gc (w' := w) (v := .slice none 0 0) ?_ (Uc h (TL.2 rfl) he)
    have hr : (Instr.sliceAt t (.slice none 0 0) (lo.map a.eval) (hi.map a.eval) none).run P w = .ok (.slice none 0 0) w := by
     simp [Instr.sliceAt, Instr.slice, run_underlying hu, hb', Tok.sizeOf hte w]
    simp [execOp, ho, hv, hr]
  ·simp at he
 ·rename_i id p q hx
  unfold MO at he
  split at he
  ·rename_i e dp xs hb
   split at he
   ·rename_i l m e' hl hm ht
    split at he
    ·rename_i q' hq
     obtain rfl := Sf hq
     cases hc : We (q - p) l m with
     | false => simp [hc] at he
     | true =>
      simp only [hc, zz] at he
      obtain ⟨et, hu, hte⟩ := Tok.sl (hG.ty _ _ ht)
      have hv := h.ev hx
      simp only [Pd, Pf, D.isAgg, jq, if_false, Gb] at hv
      obtain ⟨u, hu', h1c, hv⟩ := hv
      simp only [yv, and_true] at hu'
      obtain ⟨hpq, hqn, ad, cap, j, hs0, hcap, hj1, hj2, hu2⟩ := hv _ _ _ hb rfl
      have hb' := Vq (P := P) (cap := cap - p) h hl hm hc (by omega) true
      have hc' := hc
      simp only [We, jd, decide_eq_true_eq] at hc'
      have hlm : l.toNat ≤ m.toNat := by omega
      have hml : m.toNat ≤ q - p := by omega
      refine Gc (w' := w) (v := .slice (if cap - p = l.toNat then ad.map (·.add (j * e.size)) else (ad.map (·.add (j * e.size))).map (·.add (l.toNat * e.size))) (m.toNat - l.toNat) (cap - p - l.toNat)) ?_ (Uc h ?_ he)
      ·have hr : (Instr.sliceAt t (.slice (ad.map (·.add (j * e.size))) (q - p) (cap - p)) (lo.map a.eval) (hi.map a.eval) none).run P w = .ok (.slice (if cap - p = l.toNat then ad.map (·.add (j * e.size)) else (ad.map (·.add (j * e.size))).map (·.add (l.toNat * e.size))) (m.toNat - l.toNat) (cap - p - l.toNat)) w := by
        simp only [Instr.sliceAt, Instr.slice, run_underlying hu, hb', Tok.sizeOf hte w, qz, qy, Sem.run_pure]
       simp [execOp, ho, hu'.trans hu2, hr]
      ·simp only [Pd, Pf, D.isAgg, jq, if_false, Gb]
       refine ⟨_, rfl, rfl, fun blk' e' n' hb2 hr' => ?_⟩
       rw [hb] at hb2
       cases hb2
       simp only [La.rowN, jc, jh] at hr'
       obtain ⟨rfl, rfl⟩ := hr'
       have e1 : m.toNat - l.toNat = p + m.toNat - (p + l.toNat) := by omega
       have e2 : cap - p - l.toNat = cap - (p + l.toNat) := by omega
       by_cases h2 : cap - p = l.toNat
       ·refine ⟨by omega, by omega, ad, cap, j, hs0, hcap, by omega, by omega, ?_⟩
        rw [if_pos h2, e1, e2]
       ·refine ⟨by omega, by omega, ad, cap, j + l.toNat, hs0, hcap, by omega, fun hl => by have := hj2 (by omega); omega, ?_⟩
        rw [if_neg h2, e1, e2]
        have hrow := Ym.1 (h.hp id _ hb)
        cases ad with
        | none => rfl
        | some ad =>
         obtain ⟨b, off, rfl⟩ := hrow.addr hs0
         simp only [qf, Ko, yr, jt]
    ·simp at he
   ·simp at he
  ·simp at he
 ·simp at he
end
def Xh (w : World) (O : Nat → Prop) : (τ : Ty) → T τ → List Value → Prop
 | .p x y, v, a :: r => (∃ cs, a = Oe x cs ∧ Ta w O x v.1 cs) ∧ Xh w O y v.2 r
 | .u, _, [] => True
 | _, _, _ => False
def Od (w : World) (O : Nat → Prop) : (τ : Ty) → T τ → List Bool → List Value → List Nat → Prop
 | .p x y, v, f :: r, a :: as, F => ∃ cs F1 F2, a = Oe x cs ∧ F = F1 ++ F2 ∧ (if f then Kc w x v.1 cs F1 else Ta w O x v.1 cs ∧ F1 = []) ∧ Od w O y v.2 r as F2
 | .u, _, [], [], F => F = []
 | _, _, _, _, _ => False
def JJ : List Value → Value
 | [v] => v
 | vs => .tuple vs.toArray
structure AF (w w' : World) (F : Nat → Prop) : Prop where
 size : w.heap.size ≤ w'.heap.size
 block : ∀ b, b < w.heap.size → ¬ F b → w'.heap[b]? = w.heap[b]?
 os : w'.os = w.os
 tape : w'.tape = w.tape
 output : w'.output = w.output
def LG (P : Program) (f : FuncId) : Prop := ∃ fn, P.funcs[f]? = some fn ∧ (fn.name == "runtime.NumGoroutine") = false ∧ fn.body.isNone = false
def Uw (R : Value → World → Prop) : Ending → World → Prop
 | .returned v, w' => R v w'
 | _, _ => False
def Pg (w : World) : (τ : Ty) → T τ → List Value → List Nat → Prop
 | .p x y, v, a :: r, F => ∃ cs F1 F2, a = Oe x cs ∧ F = F1 ++ F2 ∧ Kc w x v.1 cs F1 ∧ Pg w y v.2 r F2
 | .u, _, [], F => F = []
 | _, _, _, _ => False
def Zj (P : Program) (I : Oi) (f : FuncId) : Qa → Prop
 | .pu pt rt fr F => LG P f ∧ ∀ (O : Nat → Prop) (w : World) (x : T pt) (r : T rt) (args : List Value), F x = some r → Xh w O pt x args → (∀ b, O b → b < w.heap.size) → I.p w → I.base ≤ w.heap.size →
  Calls P f args.toArray w (Uw fun v w' => ∃ vs Fr, v = JJ vs ∧ AF w w' (fun _ => False) ∧ Od w' (fun b => O b ∨ b ∈ Fr) rt r fr vs Fr ∧ Fr.Nodup ∧ ∀ b ∈ Fr, w.heap.size ≤ b)
 | .io τ pt rt fr F => LG P f ∧ ∀ (O : Nat → Prop) (w : World) (x0 : T τ) (x : T pt) (r : T τ × T rt) (cs0 : List Value) (F0 : List Nat) (args : List Value), F x0 x = some r →
  Kc w τ x0 cs0 F0 → F0.Nodup → Xh w (fun b => O b ∨ b ∈ F0) pt x args → (∀ b, O b → b < w.heap.size) → I.p w → I.base ≤ w.heap.size → (∀ b, b ∈ F0 → I.base ≤ b) →
  Calls P f (Oe τ cs0 :: args).toArray w (Uw fun v w' => ∃ vs F1 Fr, v = JJ vs ∧ AF w w' (· ∈ F0) ∧ Kc w' τ r.1 cs0 F1 ∧ (∀ b ∈ F1, w.heap.size ≤ b ∨ b ∈ F0) ∧
   Od w' (fun b => O b ∨ b ∈ F0 ∨ b ∈ F1 ∨ b ∈ Fr) rt r.2 fr vs Fr ∧ (F1 ++ Fr).Nodup ∧ ∀ b ∈ Fr, w.heap.size ≤ b ∨ b ∈ F0)
 | .co pt rt fr F => LG P f ∧ ∀ (O : Nat → Prop) (w : World) (x : T pt) (r : T rt) (F0 : List Nat) (args : List Value), F x = some r →
  Pg w pt x args F0 → F0.Nodup → (∀ b, O b → b < w.heap.size) → I.p w → I.base ≤ w.heap.size → (∀ b, b ∈ F0 → I.base ≤ b) →
  Calls P f args.toArray w (Uw fun v w' => ∃ vs Fr, v = JJ vs ∧ AF w w' (· ∈ F0) ∧
   Od w' (fun b => O b ∨ b ∈ F0 ∨ b ∈ Fr) rt r fr vs Fr ∧ Fr.Nodup ∧ ∀ b ∈ Fr, w.heap.size ≤ b ∨ b ∈ F0)
 | .bx vw cv τ pt rt fr F => LG P f ∧ ∀ (O : Nat → Prop) (w : World) (x0 : T τ) (x : T pt) (r : T τ × T rt) (b : Nat) (cur : Array Value) (et : TypeId) (F0 F2 : List Nat) (args : List Value), F x0 x = some r →
  w.heap[b]? = some (.cells cur et (0, 0)) → cur.size = τ.size → (if vw then Ta w (fun c => O c ∨ c = b ∨ c ∈ F2) τ x0 cur.toList ∧ F0 = [] else Kc w τ x0 cur.toList F0) →
  (if cv then Pg w pt x args F2 else Xh w (fun c => O c ∨ c = b ∨ c ∈ F0) pt x args ∧ F2 = []) → (b :: (F0 ++ F2)).Nodup → (∀ b, O b → b < w.heap.size) → I.p w → I.base ≤ w.heap.size → (∀ c, c ∈ b :: (F0 ++ F2) → I.base ≤ c) →
  Calls P f (.pointer (some ⟨b, 0, none⟩) :: args).toArray w (Uw fun v w' => ∃ vs cur' et' F1 Fr, v = JJ vs ∧ AF w w' (· ∈ b :: (F0 ++ F2)) ∧ w'.heap[b]? = some (.cells cur' et' (0, 0)) ∧ cur'.size = τ.size ∧
   (if vw then Ta w' (fun c => O c ∨ c ∈ b :: (F0 ++ F2) ∨ c ∈ Fr) τ r.1 cur'.toList ∧ F1 = [] else Kc w' τ r.1 cur'.toList F1) ∧
   Od w' (fun c => O c ∨ c ∈ b :: (F0 ++ F2) ∨ c ∈ F1 ∨ c ∈ Fr) rt r.2 fr vs Fr ∧ (b :: (F1 ++ Fr)).Nodup ∧ ∀ c ∈ F1 ++ Fr, w.heap.size ≤ c ∨ c ∈ F0 ++ F2)
 | .nw pt τ F => LG P f ∧ ∀ (O : Nat → Prop) (w : World) (x : T pt) (r : T τ) (args : List Value), F x = some r → Xh w O pt x args → (∀ b, O b → b < w.heap.size) → I.p w → I.base ≤ w.heap.size →
  Calls P f args.toArray w (Uw fun v w' => ∃ b cur et, v = .pointer (some ⟨b, 0, none⟩) ∧ AF w w' (fun _ => False) ∧ w.heap.size ≤ b ∧ w'.heap[b]? = some (.cells cur et (0, 0)) ∧ cur.size = τ.size ∧ Ta w' (fun c => O c ∨ c = b) τ r cur.toList)
structure Dk (P : Program) (I : Oi) (G : Yf) : Prop extends EnvTy P G where
 fn : ∀ f sem, Sb G.fn f = some sem → Zj P I f sem
theorem XN {s : AS} : ∀ {d : D} {τ : Ty} {x : T τ}, d.hasOwn = false → Cb s d τ = some x → Bk d τ = some x := by
 intro d
 induction d with
 | pr a b iha ihb =>
  intro τ x ho he
  simp only [D.hasOwn, zb] at ho
  cases τ with
  | p t1 t2 =>
   simp only [Cb] at he
   split at he
   ·rename_i u v hu hv
    simp only [Bk, iha ho.1 hu, ihb ho.2 hv]
    exact he
   ·simp at he
  | _ => simp [Cb] at he
 | own id => intro τ x ho; simp [D.hasOwn] at ho
 | cut id lo hi => intro τ x ho; simp [D.hasOwn] at ho
 | t τ' y => intro τ x _ he; simpa [Cb, Bk] using he
 | nil => intro τ x _ he; cases τ <;> simp_all [Cb, Bk]
 | un => intro τ x _ he; cases τ <;> simp_all [Cb, Bk]
 | _ => intro τ x _ he; cases τ <;> simp [Cb] at he
theorem Fac {w : World} {σ : Nat → Value} {O : Nat → Prop} {hp : Nat → Option La} {τ : Ty} {d : D} {cs : List Value} (hs : Kb τ d) (h : Gb w O hp σ d cs) : Pf w O hp σ d (Oe τ cs) := by
 have ha := hs.isAgg
 have hl := Gb.length hs h
 unfold Pf Oe
 rw [ha]
 cases hτ : τ.isAgg with
 | true => simp only [if_true]; exact ⟨cs.toArray, rfl, by simpa using h⟩
 | false =>
  simp only [jq, if_false]
  rw [Ty.size_one hτ] at hl
  obtain ⟨v, rfl⟩ := List.length_eq_one_iff.1 hl
  simpa using h
section
variable {P : Program} {Out : Type} {n0 : Nat} {A : Fx} {O0 : Nat → Prop} {w0 w w' : World} {s : AS} {σ σ' : Nat → Value} {φ φ' : Nat → List Nat} {a : Act}
variable {o : Oper} {Q : Exit → Act → World → Prop} {k : AS → Option Out} {out : Out} {d : D} {v : Value} {upd : List (Nat × Option La)} {dst : Option Tmp} {G : Yf}
theorem LH (h : Bb n0 A O0 w0 s σ φ a w) {O : Nat → Prop} (hV : ∀ (d : D) (τ : Ty) (x : T τ) (cs : List Value), Cb s d τ = some x → Gb w (OO O0 s φ) s.heap σ d cs → (O = noO ∨ d.hasOwn = false) → Ta w O τ x cs) :
 ∀ {args : List Operand} {ds : D} {pt : Ty} {x : T pt}, Hu s args = some ds → Cb s ds pt = some x → (O = noO ∨ ds.hasOwn = false) → Xh w O pt x (args.map a.eval)
 | [], ds, pt, x, he, hv, _ => by
  simp only [Hu, jc] at he
  subst he
  cases pt <;> simp [Cb] at hv
  trivial
 | y :: r, ds, pt, x, he, hv, ho => by
  simp only [Hu] at he
  split at he
  ·rename_i d1 d2 h1 h2
   simp only [jc] at he
   subst he
   cases pt with
   | p t1 t2 =>
    simp only [Cb] at hv
    split at hv
    ·rename_i u1 u2 hu1 hu2
     simp only [jc] at hv
     subst hv
     have ho1 : O = noO ∨ d1.hasOwn = false := ho.imp id fun h => by simp only [D.hasOwn, zb] at h; exact h.1
     have ho2 : O = noO ∨ d2.hasOwn = false := ho.imp id fun h => by simp only [D.hasOwn, zb] at h; exact h.2
     obtain ⟨hr, hvv⟩ := Zf (ZC hu1) (h.ev h1)
     exact ⟨⟨_, hvv, hV _ _ _ _ hu1 hr ho1⟩, LH h hV h2 hu2 ho2⟩
    ·simp at hv
   | _ => simp [Cb] at hv
  ·simp at he
theorem Bb.adopt (h : Bb n0 A O0 w0 s σ φ a w) (U : List (Nat × Option La)) (hU : (U.map (·.1)).Nodup)
 (hσ : ∀ id, id ∉ U.map (·.1) → σ' id = σ id ∧ φ' id = φ id)
 (hnew : ∀ p, p ∈ U → s.newOk p.1 = true ∨ (∃ Ia blk', s.heap p.1 = some Ia ∧ p.2 = some blk' ∧ Ia.like blk' ∧ σ' p.1 = σ p.1))
 (hK : AF w w' (fun b => ∃ p, p ∈ U ∧ ∃ Ia, s.heap p.1 = some Ia ∧ b ∈ φ p.1))
 (hblk : ∀ p, p ∈ U → ∃ e xs, p.2 = some (.row e true xs) ∧ Kc w' (.sl e) xs [σ' p.1] (φ' p.1))
 (hnd : (Ha φ' (U.map (·.1))).Nodup)
 (hsub : ∀ b, b ∈ Ha φ' (U.map (·.1)) → w.heap.size ≤ b ∨ ∃ p, p ∈ U ∧ ∃ Ia, s.heap p.1 = some Ia ∧ b ∈ φ p.1) :
 Bb n0 A O0 w0 ⟨s.n, s.tm, U ++ s.hp⟩ σ' φ' a w' := by
 have hget : ∀ (U : List (Nat × Option La)) (id : Nat), id ∉ U.map (·.1) → Sb (U ++ s.hp) id = Sb s.hp id := by
  intro U id
  induction U with
  | nil => simp
  | cons p U ih =>
   intro hn
   simp only [yw, jp, not_or] at hn
   rw [yu, Id, if_neg (Ne.symm hn.1), ih hn.2]
 have hgetm : ∀ (U : List (Nat × Option La)), (U.map (·.1)).Nodup → ∀ p, p ∈ U → Sb (U ++ s.hp) p.1 = some p.2 := by
  intro U
  induction U with
  | nil => simp
  | cons q U ih =>
   intro hn p hp
   simp only [yw, yy] at hn
   rw [yu, Id]
   rcases jp.1 hp with rfl | hp
   ·rw [if_pos rfl]
   ·rw [if_neg (fun e : q.1 = p.1 => hn.1 (by rw [e]; exact ze hp)), ih hn.2 p hp]
 have hh1 : ∀ id, id ∉ U.map (·.1) → AS.heap ⟨s.n, s.tm, U ++ s.hp⟩ id = s.heap id := fun id hid => by simp [AS.heap, hget U id hid]
 have hh2 : ∀ p, p ∈ U → AS.heap ⟨s.n, s.tm, U ++ s.hp⟩ p.1 = p.2 := fun p hp => by simp [AS.heap, hgetm U hU p hp]
 have hmemb : ∀ id, id ∈ U.map (·.1) → ∃ p, p ∈ U ∧ p.1 = id := fun id hid => by
  obtain ⟨p, hp, he⟩ := qv.1 hid
  exact ⟨p, hp, he⟩
 refine h.trans (fun id => id ∈ U.map (·.1)) rfl rfl ?_ ?_ hK.size ?_ ?_ ?_ ?_ hK.os hK.tape hK.output ?_
 ·intro id hid
  exact ⟨hh1 id hid, hσ id hid⟩
 ·intro b hb hno
  refine hK.block b hb ?_
  rintro ⟨p, hp, Ia, hl, hm⟩
  exact hno p.1 Ia (ze hp) hl hm
 ·intro id blk' hid hl b hbm
  rcases hsub b (Pb.2 ⟨id, hid, hbm⟩) with hb | ⟨p, hp, Ia, hb, hm⟩
  ·exact .inl hb
  ·exact .inr ⟨p.1, Ia, ze hp, hb, hm⟩
 ·intro id blk' hid hl hm
  obtain ⟨p, hp, rfl⟩ := hmemb id hid
  rw [hh2 p hp] at hl
  rcases hnew p hp with hn | ⟨Ia, blk'', h1, h2, h3, h4⟩
  ·simp only [AS.newOk, jd, yx] at hn
   rw [hn.1] at hm; simp at hm
  ·rw [h2] at hl
   simp only [jc] at hl
   subst hl
   exact ⟨Ia, h1, h3, h4⟩
 ·intro id blk' hid hl
  obtain ⟨p, hp, rfl⟩ := hmemb id hid
  rw [hh2 p hp] at hl
  obtain ⟨e, xs, he, hown⟩ := hblk p hp
  rw [he] at hl
  simp only [jc] at hl
  subst hl
  refine ⟨hown, ?_⟩
  have : (φ' p.1).Sublist (Ha φ' (U.map (·.1))) := by
   unfold Ha
   exact List.sublist_flatten_of_mem (ze (ze hp))
  exact this.nodup hnd
 ·intro id id' b1 b2 hid hid' hne _ _ b hb hb'
  have : ∀ (L : List Nat), (Ha φ' L).Nodup → id ∈ L → id' ∈ L → False := by
   intro L
   induction L with
   | nil => simp
   | cons x L ih =>
    intro hn hi hi'
    have hx : Ha φ' (x :: L) = φ' x ++ Ha φ' L := by simp [Ha]
    rw [hx, yz] at hn
    rcases jp.1 hi with e1 | q1
    ·rcases jp.1 hi' with e2 | q2
     ·exact hne (e1.trans e2.symm)
     ·exact hn.2.2 b (e1 ▸ hb) b (Pb.2 ⟨id', q2, hb'⟩) rfl
    ·rcases jp.1 hi' with e2 | q2
     ·exact hn.2.2 b (e2 ▸ hb') b (Pb.2 ⟨id, q1, hb⟩) rfl
     ·exact ih hn.2.1 q1 q2
  exact this _ hnd hid hid'
 ·intro id hid
  obtain ⟨p, hp, rfl⟩ := hmemb id hid
  rcases hnew p hp with hn | ⟨_, _, _, _, _, h4⟩
  ·exact .inr (KE hn)
  ·exact .inl h4
theorem FA : ∀ {τ : Ty} {x : T τ} {n m : Nat} {d : D} {l : List (Nat × Option La)} {cs : List Value} {F : List Nat}, Ff τ x n = (d, l, m) → Kc w' τ x cs F →
 n ≤ m ∧ (∀ p, p ∈ l → n ≤ p.1 ∧ p.1 < m) ∧ Kb τ d ∧ ∃ (ψ : Nat → List Nat) (ν : Nat → Value), Ha ψ (l.map (·.1)) = F ∧ (∀ p, p ∈ l → ∃ e xs, p.2 = some (.row e true xs) ∧ Kc w' (.sl e) xs [ν p.1] (ψ p.1)) ∧
  ∀ (w2 : World) (hp' : Nat → Option La) (σ' : Nat → Value) (O' : Nat → Prop), (∀ p, p ∈ l → σ' p.1 = ν p.1) → Gb w2 O' hp' σ' d cs
 | .i k, x, n, m, d, l, cs, F, he, h => by
  simp only [Ff, jh] at he
  obtain ⟨rfl, rfl, rfl⟩ := he
  simp only [Kc] at h
  exact ⟨jo _, by simp, rfl, fun _ => [], fun _ => undef, by simp [Ha, h.2], by simp, fun _ _ _ _ _ => h.1⟩
 | .b, x, n, m, d, l, cs, F, he, h => by
  simp only [Ff, jh] at he
  obtain ⟨rfl, rfl, rfl⟩ := he
  simp only [Kc] at h
  exact ⟨jo _, by simp, rfl, fun _ => [], fun _ => undef, by simp [Ha, h.2], by simp, fun _ _ _ _ _ => h.1⟩
 | .o, x, n, m, d, l, cs, F, he, h => by
  simp only [Ff, jh] at he
  obtain ⟨rfl, rfl, rfl⟩ := he
  simp only [Kc] at h
  exact ⟨jo _, by simp, rfl, fun _ => [], fun _ => undef, by simp [Ha, h.2], by simp, fun _ _ _ _ _ => h.1⟩
 | .mp _ _, x, n, m, d, l, cs, F, he, h => by
  simp only [Ff, jh] at he
  obtain ⟨rfl, rfl, rfl⟩ := he
  simp only [Kc] at h
  exact ⟨jo _, by simp, rfl, fun _ => [], fun _ => undef, by simp [Ha, h.2.2], by simp, fun _ _ _ _ _ => .inl ⟨h.1, h.2.1⟩⟩
 | .s, x, n, m, d, l, cs, F, he, h => by
  simp only [Ff, jh] at he
  obtain ⟨rfl, rfl, rfl⟩ := he
  simp only [Kc] at h
  exact ⟨jo _, by simp, rfl, fun _ => [], fun _ => undef, by simp [Ha, h.2], by simp, fun _ _ _ _ _ => h.1⟩
 | .u, x, n, m, d, l, cs, F, he, h => by
  simp only [Ff, jh] at he
  obtain ⟨rfl, rfl, rfl⟩ := he
  simp only [Kc] at h
  exact ⟨jo _, by simp, trivial, fun _ => [], fun _ => undef, by simp [Ha, h.2], by simp, fun _ _ _ _ _ => h.1⟩
 | .sl e, x, n, m, d, l, cs, F, he, h => by
  simp only [Ff, jh] at he
  obtain ⟨rfl, rfl, rfl⟩ := he
  have hlen := Kc.length h
  simp only [Ty.size] at hlen
  obtain ⟨v, rfl⟩ := List.length_eq_one_iff.1 hlen
  refine ⟨by omega, by simp, trivial, fun _ => F, fun _ => v, by simp [Ha], ?_, ?_⟩
  ·intro p hp
   simp only [qg] at hp
   subst hp
   exact ⟨e, x, rfl, h⟩
  ·intro w2 hp' σ' O' hσ
   refine ⟨v, rfl, h.one v (by simp), fun _ _ _ _ => ?_⟩
   exact (hσ (n, some (.row e true x)) (by simp)).symm
 | .p t1 t2, x, n, m, d, l, cs, F, he, h => by
  obtain ⟨c1, c2, F1, F2, hc, hF, h1, h2⟩ := h
  simp only [Ff] at he
  rcases ho1 : Ff t1 x.1 n with ⟨d1, l1, m1⟩
  rcases ho2 : Ff t2 x.2 m1 with ⟨d2, l2, m2⟩
  rw [ho1] at he
  simp only at he
  rw [ho2] at he
  simp only [jh] at he
  obtain ⟨rfl, rfl, rfl⟩ := he
  obtain ⟨a1, a2, a3, ψ1, ν1, a4, a5, a6⟩ := FA ho1 h1
  obtain ⟨b1, b2, b3, ψ2, ν2, b4, b5, b6⟩ := FA ho2 h2
  refine ⟨by omega, ?_, a3.mkpr b3, fun id => if id < m1 then ψ1 id else ψ2 id, fun id => if id < m1 then ν1 id else ν2 id, ?_, ?_, ?_⟩
  ·intro p hp
   rcases jl.1 hp with hp | hp
   ·have := a2 p hp; omega
   ·have := b2 p hp; omega
  ·rw [zf, Xe, hF, ← a4, ← b4]
   congr 1
   ·unfold Ha
    congr 1
    apply List.map_congr_left
    intro id hid
    obtain ⟨p, hp, rfl⟩ := qv.1 hid
    rw [if_pos (a2 p hp).2]
   ·unfold Ha
    congr 1
    apply List.map_congr_left
    intro id hid
    obtain ⟨p, hp, rfl⟩ := qv.1 hid
    rw [if_neg (by have := b2 p hp; omega)]
  ·intro p hp
   rcases jl.1 hp with hp | hp
   ·have := (a2 p hp).2
    simp only [if_pos this]
    exact a5 p hp
   ·have : ¬ p.1 < m1 := by have := b2 p hp; omega
    simp only [if_neg this]
    exact b5 p hp
  ·intro w2 hp' σ' O' hσ
   rw [hc]
   refine Gb.mkpr (a6 w2 hp' σ' O' fun p hp => ?_) (b6 w2 hp' σ' O' fun p hp => ?_)
   ·have h1 := hσ p (yb _ hp)
    simp only [if_pos (a2 p hp).2] at h1
    exact h1
   ·have h1 := hσ p (yc _ hp)
    have h2 : ¬ p.1 < m1 := by have := b2 p hp; omega
    simp only [if_neg h2] at h1
    exact h1
theorem XR {O' : Nat → Prop} : ∀ {rt : Ty} {r : T rt} {fr : List Bool} {n m : Nat} {d : D} {l : List (Nat × Option La)} {vs : List Value} {F : List Nat}, Yg rt r fr n = some (d, l, m) → Od w' O' rt r fr vs F →
 n ≤ m ∧ (∀ p, p ∈ l → n ≤ p.1 ∧ p.1 < m) ∧ ∃ (ψ : Nat → List Nat) (ν : Nat → Value), Ha ψ (l.map (·.1)) = F ∧ (∀ p, p ∈ l → ∃ e xs, p.2 = some (.row e true xs) ∧ Kc w' (.sl e) xs [ν p.1] (ψ p.1)) ∧
  ∀ (hp' : Nat → Option La) (σ' : Nat → Value) (O'' : Nat → Prop), (∀ p, p ∈ l → σ' p.1 = ν p.1) → (∀ b, b < w'.heap.size → ¬ O' b → ¬ O'' b) → Mh w' O'' hp' σ' d vs
 | .u, r, [], n, m, d, l, vs, F, he, h => by
  simp only [Yg, jc, jh] at he
  obtain ⟨rfl, rfl, rfl⟩ := he
  cases vs with
  | nil =>
   simp only [Od] at h
   exact ⟨jo _, by simp, fun _ => [], fun _ => undef, by simp [Ha, h], by simp, fun _ _ _ _ _ => trivial⟩
  | cons a r => simp [Od] at h
 | .p t1 t2, r, f :: fr, n, m, d, l, vs, F, he, h => by
  cases vs with
  | nil => simp [Od] at h
  | cons v vs =>
   obtain ⟨cs, F1, F2, hv, hF, h1, h2⟩ := h
   simp only [Yg] at he
   rcases ho1 : (bif f then Ff t1 r.1 n else (.t t1 r.1, [], n)) with ⟨d1, l1, m1⟩
   rw [ho1] at he
   simp only at he
   split at he
   ·rename_i d2 l2 m2 ho2
    simp only [jc, jh] at he
    obtain ⟨rfl, rfl, rfl⟩ := he
    obtain ⟨b1, b2, ψ2, ν2, b4, b5, b6⟩ := XR ho2 h2
    have hA : n ≤ m1 ∧ (∀ p, p ∈ l1 → n ≤ p.1 ∧ p.1 < m1) ∧ Kb t1 d1 ∧ ∃ (ψ : Nat → List Nat) (ν : Nat → Value), Ha ψ (l1.map (·.1)) = F1 ∧ (∀ p, p ∈ l1 → ∃ e xs, p.2 = some (.row e true xs) ∧ Kc w' (.sl e) xs [ν p.1] (ψ p.1)) ∧
     ∀ (hp' : Nat → Option La) (σ' : Nat → Value) (O'' : Nat → Prop), (∀ p, p ∈ l1 → σ' p.1 = ν p.1) → (∀ b, b < w'.heap.size → ¬ O' b → ¬ O'' b) → Gb w' O'' hp' σ' d1 cs := by
     cases f with
     | true =>
      simp only [zz] at ho1
      simp only [if_true] at h1
      obtain ⟨a1, a2, a3, ψ1, ν1, a4, a5, a6⟩ := FA ho1 h1
      exact ⟨a1, a2, a3, ψ1, ν1, a4, a5, fun hp' σ' O'' hσ _ => a6 w' hp' σ' O'' hσ⟩
     | false =>
      simp only [ua, jh] at ho1
      obtain ⟨rfl, rfl, rfl⟩ := ho1
      simp only [jq, if_false] at h1
      exact ⟨jo _, by simp, by simp [Kb], fun _ => [], fun _ => undef, by simp [Ha, h1.2], by simp, fun hp' σ' O'' _ hO => Ta.stable (fun _ _ _ => rfl) hO h1.1⟩
    obtain ⟨a1, a2, a3, ψ1, ν1, a4, a5, a6⟩ := hA
    refine ⟨by omega, ?_, fun id => if id < m1 then ψ1 id else ψ2 id, fun id => if id < m1 then ν1 id else ν2 id, ?_, ?_, ?_⟩
    ·intro p hp
     rcases jl.1 hp with hp | hp
     ·have := a2 p hp; omega
     ·have := b2 p hp; omega
    ·rw [zf, Xe, hF, ← a4, ← b4]
     congr 1
     ·unfold Ha
      congr 1
      apply List.map_congr_left
      intro id hid
      obtain ⟨p, hp, rfl⟩ := qv.1 hid
      rw [if_pos (a2 p hp).2]
     ·unfold Ha
      congr 1
      apply List.map_congr_left
      intro id hid
      obtain ⟨p, hp, rfl⟩ := qv.1 hid
      rw [if_neg (by have := b2 p hp; omega)]
    ·intro p hp
     rcases jl.1 hp with hp | hp
     ·have := (a2 p hp).2
      simp only [if_pos this]
      exact a5 p hp
     ·have : ¬ p.1 < m1 := by have := b2 p hp; omega
      simp only [if_neg this]
      exact b5 p hp
    ·intro hp' σ' O'' hσ hO
     rw [hv]
     refine ⟨Fac a3 (a6 hp' σ' O'' (fun p hp => ?_) hO), b6 hp' σ' O'' (fun p hp => ?_) hO⟩
     ·have h1 := hσ p (yb _ hp)
      simp only [if_pos (a2 p hp).2] at h1
      exact h1
     ·have h1 := hσ p (yc _ hp)
      have h2 : ¬ p.1 < m1 := by have := b2 p hp; omega
      simp only [if_neg h2] at h1
      exact h1
   ·simp at he
 | .u, _, _ :: _, _, _, _, _, _, _, he, _ => by simp [Yg] at he
 | .p _ _, _, [], _, _, _, _, _, _, he, _ => by simp [Yg] at he
 | .i _, _, fr, _, _, _, _, _, _, he, _ => by cases fr <;> simp [Yg] at he
 | .b, _, fr, _, _, _, _, _, _, he, _ => by cases fr <;> simp [Yg] at he
 | .o, _, fr, _, _, _, _, _, _, he, _ => by cases fr <;> simp [Yg] at he
 | .mp _ _, _, fr, _, _, _, _, _, _, he, _ => by cases fr <;> simp [Yg] at he
 | .s, _, fr, _, _, _, _, _, _, he, _ => by cases fr <;> simp [Yg] at he
 | .sl _, _, fr, _, _, _, _, _, _, he, _ => by cases fr <;> simp [Yg] at he
theorem U4 {O : Nat → Prop} {hp : Nat → Option La} {d d' : D} {vs : List Value} (he : VL d = some d') (h : Mh w O hp σ d vs) : Pd w O hp σ d' (JJ vs) := by
 unfold VL at he
 split at he
 ·rename_i a
  simp only [jc] at he
  subst he
  cases vs with
  | nil => simp [Mh] at h
  | cons v vs =>
   cases vs with
   | nil => exact HA h.1
   | cons u vs => simp [Mh] at h
 ·rename_i hne
  simp only [jc] at he
  subst he
  refine ⟨vs.toArray, ?_, by simpa using h⟩
  cases vs with
  | nil => rfl
  | cons v vs =>
   cases vs with
   | nil =>
    exfalso
    cases d with
    | pr a b =>
     have hb := h.2
     cases b with
     | un => exact hne a rfl
     | _ => simp [Mh] at hb
    | _ => simp [Mh] at h
   | cons u vs => rfl
theorem ZE {f : FuncId} {args : Array Operand} {ts : Array TypeId} (ho : o.op = .call ⟨.value (.func f), args, ts⟩) (hf : LG P f) :
 (execOp a.eval o).run P w = .ok (.enter f (args.toList.map a.eval).toArray) w := by
 obtain ⟨fn, h1, h2, h3⟩ := hf
 have : (args.toList.map a.eval).toArray = args.map a.eval := by rw [← Array.toList_map, Array.toArray_toList]
 have h2' : ¬ fn.name = "runtime.NumGoroutine" := by simpa using h2
 have h3' : ¬ fn.body = none := by
  intro e
  rw [e] at h3
  simp at h3
 rw [this]
 simp [execOp, ho, resolve, Deferred.ofValue, invoke, callFunc, Act.eval, run_program, h1, h2', h3']
theorem RC {u : List (Nat × Option La)} (h : Se s u = true) : (∀ p, p ∈ u → s.newOk p.1 = true) ∧ (u.map (·.1)).Nodup := by
 simp only [Se, jd, zg] at h
 exact ⟨fun p hp => h.1 p hp, Wj h.2⟩
end
theorem Od.all {w : World} {O O' : Nat → Prop} : ∀ {rt : Ty} {r : T rt} {fr : List Bool} {vs : List Value} {F : List Nat}, fr.all id = true → Od w O rt r fr vs F → Od w O' rt r fr vs F
 | .u, _, [], [], _, _, h => h
 | .p x y, r, f :: fr, v :: vs, F, ha, h => by
  simp only [List.all_cons, id, jd] at ha
  obtain ⟨cs, F1, F2, hv, hF, h1, h2⟩ := h
  have hf : f = true := ha.1
  subst hf
  exact ⟨cs, F1, F2, hv, hF, h1, Od.all (O := O) ha.2 h2⟩
 | .u, _, _ :: _, _, _, _, h => by simp [Od] at h
 | .u, _, [], _ :: _, _, _, h => by simp [Od] at h
 | .p _ _, _, [], _, _, _, h => by simp [Od] at h
 | .p _ _, _, _ :: _, [], _, _, h => by simp [Od] at h
 | .i _, _, fr, vs, _, _, h => by simp [Od] at h
 | .b, _, fr, vs, _, _, h => by simp [Od] at h
 | .o, _, fr, vs, _, _, h => by simp [Od] at h
 | .mp _ _, _, fr, vs, _, _, h => by simp [Od] at h
 | .s, _, fr, vs, _, _, h => by simp [Od] at h
 | .sl _, _, fr, vs, _, _, h => by simp [Od] at h
theorem SaB {w w' : World} {e : Ty} {xs ys : List (T e)} {v : Value} {F F' : List Nat} (h : Kc w (.sl e) xs [v] F) (h' : Kc w' (.sl e) ys [v] F') : ja xs = ja ys := by
 obtain ⟨_, ⟨h1, h2, _⟩ | ⟨_, _, _, _, _, _, h1, _⟩⟩ := h <;> obtain ⟨_, ⟨g1, g2, _⟩ | ⟨_, _, _, _, _, _, g1, _⟩⟩ := h'
 ·rw [h2, g2]
 ·rw [h1] at g1; simp at g1
 ·rw [h1] at g1; simp at g1
 ·rw [h1] at g1; simp at g1; exact g1.2.1
section
variable {P : Program} {Out : Type} {n0 : Nat} {A : Fx} {O0 : Nat → Prop} {w0 w w' : World} {s : AS} {σ σ' : Nat → Value} {φ φ' : Nat → List Nat} {a : Act}
variable {o : Oper} {Q : Exit → Act → World → Prop} {k : AS → Option Out} {out : Out} {d : D} {v : Value} {upd : List (Nat × Option La)} {dst : Option Tmp} {G : Yf}
theorem XO {x : Operand} (hx : s.ev x = some d) {j : Nat} (hj : d.ment j = true) : s.ment j = true := by
 cases x with
 | tmp q => exact AS.ment_tm hx hj
 | const c =>
  exfalso
  simp only [AS.ev] at hx
  unfold LT at hx
  split at hx <;> simp at hx <;> subst hx <;> simp [D.ment] at hj
 | _ => simp [AS.ev] at hx
theorem TU : ∀ {d : D} {τ : Ty} {x : T τ} {l : List Nat}, Wc s d τ = some (x, l) → ∀ j, j ∈ l → d.ment j = true := by
 intro d
 induction d with
 | t τ' y =>
  intro τ x l he j hj
  simp only [Wc] at he
  cases hf : τ'.flat with
  | false => rw [hf] at he; simp at he
  | true =>
   rw [hf] at he
   simp only [zz] at he
   split at he
   ·simp only [jc, jh] at he
    rw [← he.2] at hj
    simp at hj
   ·simp at he
 | nil => intro τ x l he j hj; cases τ <;> simp [Wc] at he; rw [he.2] at hj; simp at hj
 | own id =>
  intro τ x l he j hj
  cases τ with
  | sl e =>
   simp only [Wc] at he
   split at he
   ·rename_i e' dp xs hb
    cases hc : (dp || e'.flat) with
    | false => rw [hc] at he; simp at he
    | true =>
     rw [hc] at he
     simp only [zz] at he
     split at he
     ·simp only [jc, jh] at he
      rw [← he.2] at hj
      simp at hj
      subst hj
      simp [D.ment]
     ·simp at he
   ·simp at he
  | _ => simp [Wc] at he
 | pr a b iha ihb =>
  intro τ x l he j hj
  cases τ with
  | p t1 t2 =>
   simp only [Wc] at he
   split at he
   ·rename_i u l1 v l2 h1 h2
    simp only [jc, jh] at he
    rw [← he.2] at hj
    simp only [D.ment, ye]
    rcases jl.1 hj with hj | hj
    ·exact .inl (iha h1 j hj)
    ·exact .inr (ihb h2 j hj)
   ·simp at he
  | _ => simp [Wc] at he
 | un => intro τ x l he j hj; cases τ <;> simp [Wc] at he; rw [he] at hj; simp at hj
 | _ => intro τ x l he; cases τ <;> simp [Wc] at he
theorem IaC (h : Bb n0 A O0 w0 s σ φ a w) : ∀ {d : D} {τ : Ty} {x x' : T τ} {l : List Nat} {cs : List Value} {F : List Nat}, Wc s d τ = some (x, l) → l.Nodup → Gb w (OO O0 s φ) s.heap σ d cs → Kc w' τ x' cs F →
 (LJ d τ x').map (·.1) = l ∧ ∃ ψ : Nat → List Nat, Ha ψ l = F ∧ ∀ p, p ∈ LJ d τ x' → ∃ e xs Ia, p.2 = some (.row e true xs) ∧ Kc w' (.sl e) xs [σ p.1] (ψ p.1) ∧ s.heap p.1 = some Ia ∧ Ia.like (.row e true xs) := by
 intro d
 induction d with
 | t τ' y =>
  intro τ x x' l cs F he hn hr ho
  simp only [Wc] at he
  cases hf : τ'.flat with
  | false => rw [hf] at he; simp at he
  | true =>
   rw [hf] at he
   simp only [zz] at he
   split at he
   ·rename_i q hq
    subst q
    simp only [jc, jh] at he
    obtain ⟨rfl, rfl⟩ := he
    have hF := Lv hf ho
    have hup : LJ (.t τ' y) τ' x' = [] := by cases τ' <;> rfl
    rw [hup]
    exact ⟨rfl, fun _ => [], by simp [Ha, hF], by simp⟩
   ·simp at he
 | nil =>
  intro τ x x' l cs F he hn hr ho
  cases τ with
  | sl e =>
   simp only [Wc, jc, jh] at he
   obtain ⟨rfl, rfl⟩ := he
   simp only [Gb] at hr
   subst hr
   refine ⟨rfl, fun _ => [], ?_, by simp [LJ]⟩
   obtain ⟨_, ⟨_, _, h3⟩ | ⟨_, _, _, _, _, _, h1, _⟩⟩ := ho
   ·simp [Ha, h3]
   ·simp at h1
  | _ => simp [Wc] at he
 | own id =>
  intro τ x x' l cs F he hn hr ho
  cases τ with
  | sl e =>
   simp only [Wc] at he
   split at he
   ·rename_i e' dp xs hb
    cases hc : (dp || e'.flat) with
    | false => rw [hc] at he; simp at he
    | true =>
     rw [hc] at he
     simp only [zz] at he
     split at he
     ·rename_i q hq
      subst q
      simp only [jc, jh] at he
      obtain ⟨rfl, rfl⟩ := he
      obtain ⟨u, hcs, _, hu⟩ := hr
      have hu' := hu _ _ hb rfl
      subst hu'
      subst hcs
      have hold := LW (h.hp id _ hb) (by simpa using hc)
      refine ⟨rfl, fun _ => F, by simp [Ha], ?_⟩
      intro p hp
      simp only [LJ, qg] at hp
      subst hp
      exact ⟨e', x', _, rfl, ho, hb, rfl, SaB hold ho⟩
     ·simp at he
   ·simp at he
  | _ => simp [Wc] at he
 | pr d1 d2 iha ihb =>
  intro τ x x' l cs F he hn hr ho
  cases τ with
  | p t1 t2 =>
   simp only [Wc] at he
   split at he
   ·rename_i u l1 v l2 h1 h2
    simp only [jc, jh] at he
    obtain ⟨rfl, rfl⟩ := he
    obtain ⟨c1, c2, hc, r1, r2⟩ := hr
    obtain ⟨e1, e2, F1, F2, hc', hF, o1, o2⟩ := ho
    have hlen : c1.length = e1.length := by
     rw [Gb.length (Wl h1) r1, Kc.length o1]
    rw [hc] at hc'
    obtain ⟨q1, q2⟩ := List.append_inj hc' hlen
    subst q1; subst q2
    rw [yz] at hn
    obtain ⟨i1, ψ1, i2, i3⟩ := iha h1 hn.1 r1 o1
    obtain ⟨j1, ψ2, j2, j3⟩ := ihb h2 hn.2.1 r2 o2
    have hnot : ∀ j, j ∈ l2 → j ∉ l1 := fun j hj hj' => hn.2.2 j hj' j hj rfl
    refine ⟨by simp [LJ, i1, j1], fun j => if j ∈ l1 then ψ1 j else ψ2 j, ?_, ?_⟩
    ·rw [Xe, hF, ← i2, ← j2]
     congr 1
     ·unfold Ha
      congr 1
      exact List.map_congr_left fun j hj => by rw [if_pos hj]
     ·unfold Ha
      congr 1
      exact List.map_congr_left fun j hj => by rw [if_neg (hnot j hj)]
    ·intro p hp
     simp only [LJ] at hp
     rcases jl.1 hp with hp | hp
     ·have hm : p.1 ∈ l1 := by rw [← i1]; exact ze hp
      simp only [if_pos hm]
      exact i3 p hp
     ·have hm : p.1 ∈ l2 := by rw [← j1]; exact ze hp
      simp only [if_neg (hnot _ hm)]
      exact j3 p hp
   ·simp at he
  | _ => simp [Wc] at he
 | un =>
  intro τ x x' l cs F he hn hr ho
  cases τ with
  | u =>
   simp only [Wc, jc, jh] at he
   obtain ⟨_, rfl⟩ := he
   simp only [Kc] at ho
   exact ⟨rfl, fun _ => [], by simp [Ha, ho.2], by simp [LJ]⟩
  | _ => simp [Wc] at he
 | _ => intro τ x x' l cs F he; cases τ <;> simp [Wc] at he
theorem Yl {l : List Nat} (h : ∀ j, j ∈ l → φ j = φ' j) : Ha φ l = Ha φ' l := by
 unfold Ha
 congr 1
 exact List.map_congr_left h
theorem PQ (h : Bb n0 A O0 w0 s σ φ a w) {l : List Nat} {V : List (Nat × Option La)} (hV : V.map (·.1) = l) (hl : l.Nodup) (hlm : ∀ j, j ∈ l → s.ment j = true) {ψ0 : Nat → List Nat} {F1 : List Nat}
 (hb0 : Ha ψ0 l = F1) (hVp : ∀ p, p ∈ V → ∃ e xs Ia, p.2 = some (.row e true xs) ∧ Kc w' (.sl e) xs [σ p.1] (ψ0 p.1) ∧ s.heap p.1 = some Ia ∧ Ia.like (.row e true xs))
 (hK : AF w w' (· ∈ Ha φ l)) (hF1 : ∀ b, b ∈ F1 → w.heap.size ≤ b ∨ b ∈ Ha φ l) {rt : Ty} {r : T rt} {fr : List Bool} {n m : Nat} {d d' : D} {u : List (Nat × Option La)} {vs : List Value} {Fr : List Nat}
 (hop : Yg rt r fr n = some (d, u, m)) (hfi : Se s u = true) (hR : Od w' (fun b => OO O0 s φ b ∨ b ∈ F1 ∨ b ∈ Fr) rt r fr vs Fr) (hnd : (F1 ++ Fr).Nodup) (hFr : ∀ b, b ∈ Fr → w.heap.size ≤ b ∨ b ∈ Ha φ l)
 (hres : VL d = some d') (he : Sg s dst d' (u ++ V) k = some out) : Vf n0 A O0 w0 k out (a.put dst (JJ vs)) w' := by
 obtain ⟨hnew, hun⟩ := RC hfi
 obtain ⟨_, _, ψ, ν, hb1, hup, hrep⟩ := XR hop hR
 have hul : ∀ j, j ∈ u.map (·.1) → j ∉ l := by
  intro j hj hj'
  obtain ⟨p, hp, rfl⟩ := qv.1 hj
  have h1 := hnew p hp
  simp only [AS.newOk, jd, yx] at h1
  rw [hlm _ hj'] at h1
  simp at h1
 let σ' : Nat → Value := fun j => if j ∈ u.map (·.1) then ν j else σ j
 let φ' : Nat → List Nat := fun j => if j ∈ u.map (·.1) then ψ j else if j ∈ l then ψ0 j else φ j
 have hσu : ∀ p, p ∈ u → σ' p.1 = ν p.1 := fun p hp => if_pos (ze hp)
 have hφu : ∀ j, j ∈ u.map (·.1) → φ' j = ψ j := fun j hj => if_pos hj
 have hφl : ∀ j, j ∈ l → φ' j = ψ0 j := fun j hj => by
  have : j ∉ u.map (·.1) := fun hj' => hul j hj' hj
  show (if j ∈ u.map (·.1) then ψ j else if j ∈ l then ψ0 j else φ j) = ψ0 j
  rw [if_neg this, if_pos hj]
 have hbl : Ha φ' ((u ++ V).map (·.1)) = Fr ++ F1 := by
  rw [zf, Xe, hV, ← hb1, ← hb0, Yl hφu, Yl hφl]
 have hc : Bb n0 A O0 w0 ⟨s.n, s.tm, (u ++ V) ++ s.hp⟩ σ' φ' a w' := by
  refine h.adopt (u ++ V) ?_ ?_ ?_ ⟨hK.size, fun b hb hno => hK.block b hb fun hm => hno ?_, hK.os, hK.tape, hK.output⟩ ?_ ?_ ?_
  ·rw [zf, hV, yz]
   exact ⟨hun, hl, fun x hx y hy e => hul x hx (e ▸ hy)⟩
  ·intro j hj
   rw [zf, hV, jl, not_or] at hj
   exact ⟨if_neg hj.1, (if_neg hj.1).trans (if_neg hj.2)⟩
  ·intro p hp
   rcases jl.1 hp with hp | hp
   ·exact .inl (hnew p hp)
   ·obtain ⟨e, xs, Ia, h1, h2, h3, h4⟩ := hVp p hp
    have hpl : p.1 ∈ l := by rw [← hV]; exact ze hp
    exact .inr ⟨Ia, _, h3, h1, h4, if_neg fun hj => hul _ hj hpl⟩
  ·obtain ⟨j, hj, hm'⟩ := Pb.1 hm
   rw [← hV] at hj
   obtain ⟨p, hp, rfl⟩ := qv.1 hj
   obtain ⟨e, xs, Ia, h1, h2, h3, h4⟩ := hVp p hp
   exact ⟨p, yc _ hp, Ia, h3, hm'⟩
  ·intro p hp
   rcases jl.1 hp with hp | hp
   ·obtain ⟨e, xs, h1, h2⟩ := hup p hp
    refine ⟨e, xs, h1, ?_⟩
    rw [hσu p hp, hφu _ (ze hp)]
    exact h2
   ·obtain ⟨e, xs, Ia, h1, h2, h3, h4⟩ := hVp p hp
    have hpl : p.1 ∈ l := by rw [← hV]; exact ze hp
    refine ⟨e, xs, h1, ?_⟩
    have : σ' p.1 = σ p.1 := if_neg fun hj => hul _ hj hpl
    rw [this, hφl _ hpl]
    exact h2
  ·rw [hbl]
   exact (List.perm_append_comm.nodup_iff).1 hnd
  ·intro b hb
   rw [hbl] at hb
   have hb2 : w.heap.size ≤ b ∨ b ∈ Ha φ l := by
    rcases jl.1 hb with hb | hb
    ·exact hFr b hb
    ·exact hF1 b hb
   rcases hb2 with hb | hb
   ·exact .inl hb
   ·obtain ⟨j, hj, hm'⟩ := Pb.1 hb
    rw [← hV] at hj
    obtain ⟨p, hp, rfl⟩ := qv.1 hj
    obtain ⟨e, xs, Ia, h1, h2, h3, h4⟩ := hVp p hp
    exact .inr ⟨p, yc _ hp, Ia, h3, hm'⟩
 refine Ig rfl hc ?_ he
 refine U4 hres (hrep _ _ _ hσu ?_)
 intro b hb hno hO
 apply hno
 rcases hO with hO | ⟨j, Ia, hl', hm⟩
 ·exact .inl (.inl hO)
 ·by_cases hju : j ∈ u.map (·.1)
  ·rw [hφu j hju] at hm
   exact .inr (.inr (by rw [← hb1]; exact Pb.2 ⟨j, hju, hm⟩))
  ·by_cases hjl : j ∈ l
   ·rw [hφl j hjl] at hm
    exact .inr (.inl (by rw [← hb0]; exact Pb.2 ⟨j, hjl, hm⟩))
   ·have hφ : φ' j = φ j := (if_neg hju).trans (if_neg hjl)
    rw [hφ] at hm
    have hne : ∀ (U : List (Nat × Option La)), j ∉ U.map (·.1) → Sb (U ++ s.hp) j = Sb s.hp j := by
     intro U
     induction U with
     | nil => simp
     | cons p U ih =>
      intro hn
      simp only [yw, jp, not_or] at hn
      rw [yu, Id, if_neg (Ne.symm hn.1), ih hn.2]
    have hjUV : j ∉ (u ++ V).map (·.1) := by
     rw [zf, hV, jl, not_or]; exact ⟨hju, hjl⟩
    have : s.heap j = some Ia := by
     have h1 := hl'
     simp only [AS.heap] at h1 ⊢
     rw [hne _ hjUV] at h1
     exact h1
    exact .inl (.inr ⟨j, Ia, this, hm⟩)
theorem CT (h : Bb n0 A O0 w0 s σ φ a w) {l : List Nat} (hlive : ∀ j, j ∈ l → ∃ b, s.heap j = some b) : ∀ b, b ∈ Ha φ l → A.I.base ≤ b := by
 intro b hb
 obtain ⟨j, hj, hm⟩ := Pb.1 hb
 obtain ⟨Ia, hbj⟩ := hlive j hj
 exact h.ivb hbj hm
theorem LC {α : Type} {l m : List (Nat × α)} {k : Nat} (h : k ∉ l.map (·.1)) : Sb (l ++ m) k = Sb m k := by
 induction l with
 | nil => rfl
 | cons p l ih =>
  simp only [yw, jp, not_or] at h
  rw [yu, Id, if_neg (Ne.symm h.1), ih h.2]
theorem ZS {α : Type} {l m : List (Nat × α)} : (l.map (·.1)).Nodup → ∀ p, p ∈ l → Sb (l ++ m) p.1 = some p.2 := by
 induction l with
 | nil => simp
 | cons q l ih =>
  intro hn p hp
  simp only [yw, yy] at hn
  rw [yu, Id]
  rcases jp.1 hp with rfl | hp
  ·rw [if_pos rfl]
  ·rw [if_neg (fun e : q.1 = p.1 => hn.1 (by rw [e]; exact ze hp)), ih hn.2 p hp]
theorem Naj {ψ : Nat → List Nat} : ∀ {L : List Nat}, (Ha ψ L).Nodup → ∀ {i j b : Nat}, i ∈ L → j ∈ L → i ≠ j → b ∈ ψ i → b ∉ ψ j := by
 intro L
 induction L with
 | nil => simp
 | cons x L ih =>
  intro hn i j b hi hj hne hbi hbj
  have hx : Ha ψ (x :: L) = ψ x ++ Ha ψ L := by simp [Ha]
  rw [hx, yz] at hn
  rcases jp.1 hi with e1 | q1
  ·rcases jp.1 hj with e2 | q2
   ·exact hne (e1.trans e2.symm)
   ·exact hn.2.2 b (e1 ▸ hbi) b (Pb.2 ⟨j, q2, hbj⟩) rfl
  ·rcases jp.1 hj with e2 | q2
   ·exact hn.2.2 b (e2 ▸ hbj) b (Pb.2 ⟨i, q1, hbi⟩) rfl
   ·exact ih hn.2.1 q1 q2 hne hbi hbj
theorem Bb.after (h : Bb n0 A O0 w0 s σ φ a w) {U X : List (Nat × Option La)} {l : List Nat} {ψ : Nat → List Nat} {ν : Nat → Value}
 (hU : (U.map (·.1)).Nodup) (hUn : ∀ p, p ∈ U → s.newOk p.1 = true) (hX : (X.map (·.1)).Nodup) (hl : ∀ j, j ∈ l → ∃ b, s.heap j = some b) (hXl : ∀ j, j ∈ X.map (·.1) → j ∉ l)
 (hK : AF w w' (· ∈ Ha φ (X.map (·.1) ++ l))) (hUr : ∀ p, p ∈ U → ∃ e xs, p.2 = some (.row e true xs) ∧ Kc w' (.sl e) xs [ν p.1] (ψ p.1))
 (hnd : (Ha ψ (U.map (·.1))).Nodup) (hsub : ∀ b, b ∈ Ha ψ (U.map (·.1)) → w.heap.size ≤ b ∨ b ∈ Ha φ l)
 (hlm : ∀ j, j ∈ X.map (·.1) ++ l → s.newOk j = false)
 (hXr : ∀ p, p ∈ X → ∃ ρ d e, p.2 = some (.box ρ e) ∧ s.heap p.1 = some (.box ρ d) ∧
  ∀ (hp' : Nat → Option La) (σ' : Nat → Value) (O' : Nat → Prop), σ' p.1 = σ p.1 → (∀ q, q ∈ U → σ' q.1 = ν q.1) → (∀ b, O' b → OO O0 s φ b ∨ b ∈ Ha ψ (U.map (·.1))) → Hd w' O' hp' σ' p.1 (.box ρ e) (φ p.1)) :
 ∃ σ' φ', Bb n0 A O0 w0 ⟨s.n, s.tm, U ++ (X ++ He l) ++ s.hp⟩ σ' φ' a w' ∧ (∀ q, q ∈ U → σ' q.1 = ν q.1) ∧ (∀ b, OO O0 ⟨s.n, s.tm, U ++ (X ++ He l) ++ s.hp⟩ φ' b → OO O0 s φ b ∨ b ∈ Ha ψ (U.map (·.1))) := by
 have hUX : ∀ j, j ∈ U.map (·.1) → j ∉ X.map (·.1) ++ l := by
  intro j hj hj'
  obtain ⟨p, hp, rfl⟩ := qv.1 hj
  have h1 := hlm _ hj'
  rw [hUn p hp] at h1
  simp at h1
 let σ' : Nat → Value := fun j => if j ∈ U.map (·.1) then ν j else σ j
 let φ' : Nat → List Nat := fun j => if j ∈ U.map (·.1) then ψ j else φ j
 have hσu : ∀ p, p ∈ U → σ' p.1 = ν p.1 := fun p hp => if_pos (ze hp)
 have hφu : ∀ j, j ∈ U.map (·.1) → φ' j = ψ j := fun j hj => if_pos hj
 have hφn : ∀ j, j ∉ U.map (·.1) → φ' j = φ j := fun j hj => if_neg hj
 have hσn : ∀ j, j ∉ U.map (·.1) → σ' j = σ j := fun j hj => if_neg hj
 have hget : ∀ j, AS.heap ⟨s.n, s.tm, U ++ (X ++ He l) ++ s.hp⟩ j = (Sb (U ++ (X ++ He l) ++ s.hp) j).join := fun _ => rfl
 have hgU : ∀ p, p ∈ U → AS.heap ⟨s.n, s.tm, U ++ (X ++ He l) ++ s.hp⟩ p.1 = p.2 := fun p hp => by
  rw [hget, yh, ZS hU p hp]; rfl
 have hgX : ∀ p, p ∈ X → AS.heap ⟨s.n, s.tm, U ++ (X ++ He l) ++ s.hp⟩ p.1 = p.2 := fun p hp => by
  have h1 : p.1 ∉ U.map (·.1) := fun hc => hUX _ hc (yb _ (ze hp))
  rw [hget, yh, LC h1, yh, ZS hX p hp]; rfl
 have hgl : ∀ j, j ∈ l → AS.heap ⟨s.n, s.tm, U ++ (X ++ He l) ++ s.hp⟩ j = none := fun j hj => by
  have h1 : j ∉ U.map (·.1) := fun hc => hUX _ hc (yc _ hj)
  have h2 : j ∉ X.map (·.1) := fun hc => hXl j hc hj
  rw [hget, yh, LC h1, yh, LC h2, Mu, if_pos hj]; rfl
 have hgo : ∀ j, j ∉ U.map (·.1) → j ∉ X.map (·.1) → j ∉ l → AS.heap ⟨s.n, s.tm, U ++ (X ++ He l) ++ s.hp⟩ j = s.heap j := fun j h1 h2 h3 => by
  rw [hget, yh, LC h1, yh, LC h2, Mu, if_neg h3]; rfl
 have hbX : ∀ p, p ∈ X → ∃ Ia, s.heap p.1 = some Ia := fun p hp => by
  obtain ⟨ρ, d, e, _, h2, _⟩ := hXr p hp
  exact ⟨_, h2⟩
 have hOO : ∀ b, OO O0 ⟨s.n, s.tm, U ++ (X ++ He l) ++ s.hp⟩ φ' b → OO O0 s φ b ∨ b ∈ Ha ψ (U.map (·.1)) := by
  rintro b (hb | ⟨j, Ia, hl', hm⟩)
  ·exact .inl (.inl hb)
  ·by_cases hju : j ∈ U.map (·.1)
   ·rw [hφu j hju] at hm
    exact .inr (Pb.2 ⟨j, hju, hm⟩)
   ·rw [hφn j hju] at hm
    by_cases hjx : j ∈ X.map (·.1)
    ·obtain ⟨p, hp, rfl⟩ := qv.1 hjx
     obtain ⟨blk', hb'⟩ := hbX p hp
     exact .inl (.inr ⟨p.1, blk', hb', hm⟩)
    ·by_cases hjl : j ∈ l
     ·rw [hgl j hjl] at hl'; simp at hl'
     ·rw [hgo j hju hjx hjl] at hl'
      exact .inl (.inr ⟨j, Ia, hl', hm⟩)
 refine ⟨σ', φ', ?_, hσu, hOO⟩
 refine h.trans (fun j => j ∈ U.map (·.1) ∨ j ∈ X.map (·.1) ∨ j ∈ l) rfl rfl ?_ ?_ hK.size ?_ ?_ ?_ ?_ hK.os hK.tape hK.output ?_
 ·intro j hj
  simp only [not_or] at hj
  exact ⟨hgo j hj.1 hj.2.1 hj.2.2, hσn j hj.1, hφn j hj.1⟩
 ·intro b hb hno
  refine hK.block b hb fun hm => ?_
  obtain ⟨j, hj, hm⟩ := Pb.1 hm
  rcases jl.1 hj with hj | hj
  ·obtain ⟨p, hp, rfl⟩ := qv.1 hj
   obtain ⟨blk', hb'⟩ := hbX p hp
   exact hno p.1 blk' (.inr (.inl hj)) hb' hm
  ·obtain ⟨blk', hb'⟩ := hl j hj
   exact hno j blk' (.inr (.inr hj)) hb' hm
 ·intro j blk' hj hl' b hbm
  rcases hj with hj | hj | hj
  ·rw [hφu j hj] at hbm
   rcases hsub b (Pb.2 ⟨j, hj, hbm⟩) with h1 | h1
   ·exact .inl h1
   ·obtain ⟨i, hi, hm⟩ := Pb.1 h1
    obtain ⟨Ia, hb⟩ := hl i hi
    exact .inr ⟨i, Ia, .inr (.inr hi), hb, hm⟩
  ·have hju : j ∉ U.map (·.1) := fun hc => hUX _ hc (yb _ hj)
   rw [hφn j hju] at hbm
   obtain ⟨p, hp, rfl⟩ := qv.1 hj
   obtain ⟨Ia, hb⟩ := hbX p hp
   exact .inr ⟨p.1, Ia, .inr (.inl hj), hb, hbm⟩
  ·rw [hgl j hj] at hl'; simp at hl'
 ·intro j blk' hj hl' hm
  rcases hj with hj | hj | hj
  ·obtain ⟨p, hp, rfl⟩ := qv.1 hj
   have hn := hUn p hp
   simp only [AS.newOk, jd, yx] at hn
   rw [hn.1] at hm; simp at hm
  ·have hju : j ∉ U.map (·.1) := fun hc => hUX _ hc (yb _ hj)
   obtain ⟨p, hp, rfl⟩ := qv.1 hj
   obtain ⟨ρ, d, e, h1, h2, _⟩ := hXr p hp
   rw [hgX p hp, h1] at hl'
   simp only [jc] at hl'
   subst hl'
   exact ⟨_, h2, by simp [La.like], hσn _ hju⟩
  ·rw [hgl j hj] at hl'; simp at hl'
 ·intro j blk' hj hl'
  rcases hj with hj | hj | hj
  ·rw [hφu j hj]
   obtain ⟨p, hp, rfl⟩ := qv.1 hj
   obtain ⟨e, xs, he, ho⟩ := hUr p hp
   rw [hgU p hp, he] at hl'
   simp only [jc] at hl'
   subst hl'
   refine ⟨?_, ?_⟩
   ·show Kc w' (.sl e) xs [σ' p.1] (ψ p.1)
    rw [hσu p hp]; exact ho
   ·have : (ψ p.1).Sublist (Ha ψ (U.map (·.1))) := by
     unfold Ha
     exact List.sublist_flatten_of_mem (ze (ze hp))
    exact this.nodup hnd
  ·have hju : j ∉ U.map (·.1) := fun hc => hUX _ hc (yb _ hj)
   rw [hφn j hju]
   obtain ⟨p, hp, rfl⟩ := qv.1 hj
   obtain ⟨ρ, d, e, h1, h2, h3⟩ := hXr p hp
   rw [hgX p hp, h1] at hl'
   simp only [jc] at hl'
   subst hl'
   exact ⟨h3 _ _ _ (hσn _ hju) hσu hOO, h.nodup _ _ h2⟩
  ·rw [hgl j hj] at hl'; simp at hl'
 ·intro i j b1 b2 hi hj hne hl1 hl2 b hbi hbj
  have hlt : ∀ p, p ∈ X → b ∈ φ p.1 → b ∉ Ha ψ (U.map (·.1)) := by
   intro p hp hm hc
   obtain ⟨Ia, hb⟩ := hbX p hp
   rcases hsub b hc with h1 | h1
   ·have := (h.hp p.1 Ia hb).lt b hm; omega
   ·obtain ⟨q, hq, hmq⟩ := Pb.1 h1
    obtain ⟨blk2, hb2⟩ := hl q hq
    exact h.disj p.1 q Ia blk2 (fun e => hXl p.1 (ze hp) (e ▸ hq)) hb hb2 b hm hmq
  rcases hi with hi | hi | hi
  ·rw [hφu i hi] at hbi
   rcases hj with hj | hj | hj
   ·rw [hφu j hj] at hbj
    exact Naj hnd hi hj hne hbi hbj
   ·have hju : j ∉ U.map (·.1) := fun hc => hUX _ hc (yb _ hj)
    rw [hφn j hju] at hbj
    obtain ⟨p, hp, rfl⟩ := qv.1 hj
    exact hlt p hp hbj (Pb.2 ⟨i, hi, hbi⟩)
   ·rw [hgl j hj] at hl2; simp at hl2
  ·have hiu : i ∉ U.map (·.1) := fun hc => hUX _ hc (yb _ hi)
   rw [hφn i hiu] at hbi
   rcases hj with hj | hj | hj
   ·rw [hφu j hj] at hbj
    obtain ⟨p, hp, rfl⟩ := qv.1 hi
    exact hlt p hp hbi (Pb.2 ⟨j, hj, hbj⟩)
   ·have hju : j ∉ U.map (·.1) := fun hc => hUX _ hc (yb _ hj)
    rw [hφn j hju] at hbj
    obtain ⟨p, hp, rfl⟩ := qv.1 hi
    obtain ⟨q, hq, rfl⟩ := qv.1 hj
    obtain ⟨Ia, hb⟩ := hbX p hp
    obtain ⟨blk2, hb2⟩ := hbX q hq
    exact h.disj _ _ Ia blk2 hne hb hb2 b hbi hbj
   ·rw [hgl j hj] at hl2; simp at hl2
  ·rw [hgl i hi] at hl1; simp at hl1
 ·intro j hj
  by_cases hju : j ∈ U.map (·.1)
  ·obtain ⟨p, hp, rfl⟩ := qv.1 hju
   exact .inr (KE (hUn p hp))
  ·exact .inl (hσn j hju)
theorem MH {f : FuncId} {args : List Value} (hrun : (execOp a.eval o).run P w = .ok (.enter f args.toArray) w) {R : Value → World → Prop} (hc : Calls P f args.toArray w (Uw R))
 (hg : ∀ v w', R v w' → Vf n0 A O0 w0 k out (a.put o.dst v) w') : o.wp P a w (Vf n0 A O0 w0 k out) Q := by
 unfold Oper.wp
 rw [hrun, Oper.upon_enter]
 refine hc.mono fun e w' hR => ?_
 cases e with
 | returned v => exact hg v w' hR
 | panicked chain => exact hR.elim
 | outgrown => exact hR.elim
theorem XY (h : Bb n0 A O0 w0 s σ φ a w) : ∀ {args : List Operand} {ds : D} {pt : Ty} {x : T pt} {l : List Nat}, Hu s args = some ds → Wc s ds pt = some (x, l) →
 Pg w pt x (args.map a.eval) (Ha φ l) ∧ (∀ j, j ∈ l → ∃ b, s.heap j = some b) ∧ (∀ j, j ∈ l → s.ment j = true)
 | [], ds, pt, x, l, he, hv => by
  simp only [Hu, jc] at he
  subst he
  cases pt <;> simp [Wc] at hv
  subst hv
  exact ⟨rfl, by simp, by simp⟩
 | y :: r, ds, pt, x, l, he, hv => by
  simp only [Hu] at he
  split at he
  ·rename_i d1 d2 h1 h2
   simp only [jc] at he
   subst he
   cases pt with
   | p t1 t2 =>
    simp only [Wc] at hv
    split at hv
    ·rename_i u1 l1 u2 l2 hu1 hu2
     simp only [jc, jh] at hv
     obtain ⟨rfl, rfl⟩ := hv
     obtain ⟨hr, hvv⟩ := Zf (Wl hu1) (h.ev h1)
     obtain ⟨ho, hlive⟩ := Bq h hu1 hr
     obtain ⟨a1, a2, a3⟩ := XY h h2 hu2
     refine ⟨⟨_, Ha φ l1, Ha φ l2, hvv, Xe, ho, a1⟩, fun j hj => ?_, fun j hj => ?_⟩
     ·rcases jl.1 hj with hj | hj
      ·exact hlive j hj
      ·exact a2 j hj
     ·rcases jl.1 hj with hj | hj
      ·exact XO h1 (TU hu1 j hj)
      ·exact a3 j hj
    ·simp at hv
   | _ => simp [Wc] at hv
  ·simp at he
theorem J2 {j : Nat} (h : s.ment j = true) : s.newOk j = false := by simp [AS.newOk, h]
theorem V2 {id : Nat} {e : Ty} {dp : Bool} {xs : List (T e)} {O O' : Nat → Prop} {hp : Nat → Option La} {F : List Nat} (h : Hd w O hp σ id (.row e dp xs) F) (hO : ∀ b, O' b → O b) (hF : ∀ b, b ∈ F → ¬ O' b) :
 Ta w O' (.sl e) xs [σ id] := by
 cases dp with
 | true => exact Kc.view (show Kc w (.sl e) xs [σ id] F from h) hF
 | false =>
  simp only [Hd] at h
  obtain ⟨hm, ⟨h1, h2, _⟩ | ⟨bl, off, cap, cur, et, h1, hh, h2, h3, h4, hF', hv⟩⟩ := h
  ·subst h2; exact ⟨none, 0, by rw [h1]; rfl, jo _, hm, .inl rfl⟩
  ·have := jm e.size h2
   exact ⟨_, cap, by rw [h1], h2, hm, .inr ⟨bl, off, cur, et, _, rfl, hF bl (by rw [hF']; simp), hh, by omega, fun i hi => (hv i hi).weaken hO⟩⟩
theorem Bb.drop (h : Bb n0 A O0 w0 s σ φ a w) (l : List Nat) : Bb n0 A O0 w0 ⟨s.n, s.tm, He l ++ s.hp⟩ σ φ a w := by
 have hn : ∀ j, j ∈ l → AS.heap ⟨s.n, s.tm, He l ++ s.hp⟩ j = none := fun j hj => by simp only [AS.heap, Mu, if_pos hj]; rfl
 refine h.trans (· ∈ l) rfl rfl (fun id hid => ⟨by simp only [AS.heap, Mu, if_neg hid], rfl, rfl⟩) (fun _ _ _ => rfl) (jo _) ?_ ?_ ?_ ?_ rfl rfl rfl (fun _ _ => .inl rfl)
 ·intro id Ia hid hl; rw [hn id hid] at hl; simp at hl
 ·intro id Ia hid hl; rw [hn id hid] at hl; simp at hl
 ·intro id Ia hid hl; rw [hn id hid] at hl; simp at hl
 ·intro id id' Ia blk' hid _ _ hl; rw [hn id hid] at hl; simp at hl
theorem Rad {l : List Nat} {b : Nat} (hb : OO O0 ⟨s.n, s.tm, He l ++ s.hp⟩ φ b) : O0 b ∨ ∃ j Ia, j ∉ l ∧ s.heap j = some Ia ∧ b ∈ φ j := by
 rcases hb with hb | ⟨j, Ia, hl, hm⟩
 ·exact .inl hb
 ·by_cases hj : j ∈ l
  ·simp only [AS.heap, Mu, if_pos hj] at hl; simp at hl
  ·simp only [AS.heap, Mu, if_neg hj] at hl
   exact .inr ⟨j, Ia, hj, hl, hm⟩
theorem Uak {l : List Nat} {j : Nat} : AS.newOk ⟨s.n, s.tm, He l ++ s.hp⟩ j = s.newOk j := by
 have : AS.ment ⟨s.n, s.tm, He l ++ s.hp⟩ j = s.ment j := by
  simp only [AS.ment, List.any_append]
  have : (He l).any (fun x => (x.2.map (La.ment j)).getD false) = false := by
   rw [List.any_eq_false]
   intro x hx
   obtain ⟨k, _, rfl⟩ := qv.1 hx
   simp
  rw [this, zd]
 simp only [AS.newOk, this]
theorem I7 {l : List Nat} {u : List (Nat × Option La)} : Se ⟨s.n, s.tm, He l ++ s.hp⟩ u = Se s u := by
 simp only [Se, Uak]
def WS (G : Yf) (A : Fx) : Prop := G.fz = true → (∀ b, ¬ A.A b) ∨ (JS G.att = true ∧ ∀ c, A.A c → A.pin 500000 = some (.pointer (some ⟨c, 0, none⟩)))
def NoA (A : Fx) (s : AS) (φ : Nat → List Nat) : Prop := ∀ id Ia, s.heap id = some Ia → (∀ ρ d, Ia ≠ .box ρ d) → ∀ b, b ∈ φ id → ¬ A.A b
theorem noA {bm : Bool} (hz : (∀ b, ¬ A.A b) ∨ (bm = true ∧ ∀ c, A.A c → A.pin 500000 = some (.pointer (some ⟨c, 0, none⟩)))) (hl : (!bm || s.boxLive) = true) (h : Bb n0 A O0 w0 s σ φ a w) : NoA A s φ := by
 intro id Ia hb hne b hm hA
 rcases hz with hz | ⟨rfl, hz⟩
 ·exact hz b hA
 ·have hp := h.pin 500000 _ (hz b hA)
  simp only [jg, zd, AS.boxLive] at hl
  split at hl
  ·rename_i ρ d hbx
   obtain ⟨_, b', cur, et, h1, h2, h3, _⟩ := h.hp 500000 _ hbx
   rw [hp] at h1
   simp only [Value.pointer.injEq, jc, Addr.mk.injEq, and_true] at h1
   subst h1
   have hid : id ≠ 500000 := by
    rintro rfl
    rw [hbx] at hb
    simp only [jc] at hb
    exact hne ρ d hb.symm
   exact h.disj id 500000 _ _ hid hb hbx b hm (by rw [h3]; simp)
  ·simp at hl
theorem Ral (hA : NoA A s φ) (h : Bb n0 A O0 w0 s σ φ a w) {L : List Nat} : ∀ {d : D} {τ : Ty} {x : T τ} {cs : List Value}, Cb s d τ = some x → Gb w (OO O0 s φ) s.heap σ d cs → d.noCut = true → (∀ j, j ∈ d.owns → j ∈ L) →
 Ta w (OO O0 ⟨s.n, s.tm, He L ++ s.hp⟩ φ) τ x cs := by
 have hO : ∀ b, OO O0 ⟨s.n, s.tm, He L ++ s.hp⟩ φ b → OO O0 s φ b := fun b hb => by
  rcases Rad hb with hb | ⟨j, Ia, _, hl, hm⟩
  ·exact .inl hb
  ·exact .inr ⟨j, Ia, hl, hm⟩
 intro d
 induction d with
 | t τ' y =>
  intro τ x cs he hr _ _
  simp only [Cb] at he
  split at he
  ·rename_i q hq
   obtain rfl := Sf hq
   simp only [jc] at he
   subst he
   exact Ta.weaken hO hr
  ·simp at he
 | nil =>
  intro τ x cs he hr _ _
  cases τ with
  | sl e =>
   simp only [Cb, jc] at he
   subst he
   simp only [Gb] at hr
   exact ⟨none, 0, hr, jo _, by simp, .inl rfl⟩
  | _ => simp [Cb] at he
 | own id =>
  intro τ x cs he hr _ hL
  cases τ with
  | sl e =>
   simp only [Cb] at he
   split at he
   ·rename_i e' dp xs hb
    split at he
    ·rename_i q hq
     obtain rfl := Sf hq
     simp only [jc] at he
     subst he
     obtain ⟨v, hcs, _, hv⟩ := hr
     rw [hcs, hv _ _ hb rfl]
     refine V2 (h.hp id _ hb) hO fun b hm hb' => ?_
     have hid : id ∈ L := hL id (by simp [D.owns])
     rcases Rad hb' with ho | ⟨j, Ia, hj, hl, hm'⟩
     ·rcases h.fresh id _ hb b hm with hge | hA'
      ·have := h.o0 b ho; omega
      ·exact hA id _ hb (fun _ _ e => by simp at e) b hm hA'
     ·exact h.disj id j _ Ia (fun e => hj (e ▸ hid)) hb hl b hm hm'
    ·simp at he
   ·simp at he
  | _ => simp [Cb] at he
 | pr y z ih1 ih2 =>
  intro τ x cs he hr hc hL
  cases τ with
  | p t1 t2 =>
   simp only [Cb] at he
   split at he
   ·rename_i u v hu hv
    simp only [jc] at he
    subst he
    simp only [D.noCut, jd] at hc
    obtain ⟨c1, c2, h0, h1, h2⟩ := hr
    exact ⟨c1, c2, h0, ih1 hu h1 hc.1 fun j hj => hL j (by simp [D.owns, hj]), ih2 hv h2 hc.2 fun j hj => hL j (by simp [D.owns, hj])⟩
   ·simp at he
  | _ => simp [Cb] at he
 | un =>
  intro τ x cs he hr _ _
  cases τ with
  | u => simp only [Gb] at hr; exact hr
  | _ => simp [Cb] at he
 | cut id lo hi => intro τ x cs _ _ hc; simp [D.noCut] at hc
 | _ => intro τ x cs he; cases τ <;> simp [Cb] at he
theorem K3 (hA : NoA A s φ) (h : Bb n0 A O0 w0 s σ φ a w) {L : List Nat} :
 ∀ {args : List Operand} {ds : D} {pt : Ty} {x : T pt}, Hu s args = some ds → Cb s ds pt = some x → ds.noCut = true → (∀ j, j ∈ ds.owns → j ∈ L) → Xh w (OO O0 ⟨s.n, s.tm, He L ++ s.hp⟩ φ) pt x (args.map a.eval)
 | [], ds, pt, x, he, hv, _, _ => by
  simp only [Hu, jc] at he
  subst he
  cases pt <;> simp [Cb] at hv
  trivial
 | y :: r, ds, pt, x, he, hv, hc, hL => by
  simp only [Hu] at he
  split at he
  ·rename_i d1 d2 h1 h2
   simp only [jc] at he
   subst he
   cases pt with
   | p t1 t2 =>
    simp only [Cb] at hv
    split at hv
    ·rename_i u1 u2 hu1 hu2
     simp only [jc] at hv
     subst hv
     simp only [D.noCut, jd] at hc
     obtain ⟨hr, hvv⟩ := Zf (ZC hu1) (h.ev h1)
     exact ⟨⟨_, hvv, Ral hA h hu1 hr hc.1 fun j hj => hL j (by simp [D.owns, hj])⟩, K3 hA h h2 hu2 hc.2 fun j hj => hL j (by simp [D.owns, hj])⟩
    ·simp at hv
   | _ => simp [Cb] at hv
  ·simp at he
theorem MaB (hG : Dk P A.I G) (hfz : WS G A) (h : Bb n0 A O0 w0 s σ φ a w) {f : FuncId} {args : Array Operand} {ts : Array TypeId} (ho : o.op = .call ⟨.value (.func f), args, ts⟩)
 (he : Mg G s o k = some out) : o.wp P a w (Vf n0 A O0 w0 k out) Q := by
 simp only [Mg, Zb, ho] at he
 unfold OI at he
 split at he
 ·
  rename_i pt rt fr F hfn
  obtain ⟨hE, hS⟩ := hG.fn _ _ hfn
  split at he
  ·rename_i ds hds
   split at he
   ·rename_i x hx
    cases hr : F x with
    | none => simp [hr] at he
    | some r =>
     simp only [hr, jb] at he
     split at he
     ·rename_i d u m hop
      split at he
      ·rename_i d' hres
       cases hc : (jx m (100064 + 64 * o.dst.getD 0) && Se s u && ((!ds.hasOwn || fr.all id) || ((G.fz && !JS G.att) && ds.noCut))) with
       | false => rw [hc] at he; simp at he
       | true =>
        rw [hc] at he
        simp only [zz] at he
        simp only [jd] at hc
        obtain ⟨⟨_, hfi⟩, hno⟩ := hc
        cases hno1 : (!ds.hasOwn || fr.all id) with
        | false =>
         rw [hno1] at hno he
         simp only [zd, jd, yx] at hno
         simp only [ua] at he
         have h1 := h.drop ds.owns
         have hV := K3 (noA (hfz hno.1.1) (by rw [hno.1.2]; rfl) h) h (L := ds.owns) hds hx hno.2 fun j hj => hj
         refine MH (ZE ho hE) (hS _ w x r _ hr hV (fun b hb => h1.OO_lt hb) h.iv (qe h.iv0 h.fr.size)) ?_
         rintro v w' ⟨vs, Fr, rfl, hK, hR, hFn, hFr⟩
         have e : (fun b => OO O0 ⟨s.n, s.tm, He ds.owns ++ s.hp⟩ φ b ∨ b ∈ ([] : List Nat) ∨ b ∈ Fr) = (fun b => OO O0 ⟨s.n, s.tm, He ds.owns ++ s.hp⟩ φ b ∨ b ∈ Fr) := by
          funext b; simp
         refine PQ (s := ⟨s.n, s.tm, He ds.owns ++ s.hp⟩) (V := []) (l := []) (ψ0 := fun _ => []) (F1 := []) h1 rfl List.nodup_nil (by simp) (by simp [Ha]) (by simp) ⟨hK.size, fun b hb _ => hK.block b hb (fun h => h), hK.os, hK.tape, hK.output⟩ (by simp)
          hop (I7.trans hfi) (by rw [e]; exact hR) (by simpa using hFn) (fun b hb => .inl (hFr b hb)) hres ?_
         unfold Sg at he ⊢
         simp only [List.append_nil, ← yh]
         exact he
        | true =>
        rw [hno1] at he
        simp only [zz] at he
        simp only [ye, yx] at hno1
        have hno := hno1
        have key : ∃ O : Nat → Prop, (∀ b, O b → b < w.heap.size) ∧ Xh w O pt x (args.toList.map a.eval) ∧
         ∀ (w' : World) (vs : List Value) (Fr : List Nat), Od w' (fun b => O b ∨ b ∈ Fr) rt r fr vs Fr → Od w' (fun b => OO O0 s φ b ∨ b ∈ ([] : List Nat) ∨ b ∈ Fr) rt r fr vs Fr := by
         rcases hno with hno | hno
         ·refine ⟨OO O0 s φ, fun b hb => h.OO_lt hb, LH h (fun d τ x cs he hr ho => ?_) hds hx (.inr hno), fun w' vs Fr hR => ?_⟩
          ·rcases ho with ho | ho
           ·rw [ho]; exact Ku h he hr
           ·exact (Ai (XN ho he)).2 _ hr
          ·have : (fun b => OO O0 s φ b ∨ b ∈ ([] : List Nat) ∨ b ∈ Fr) = (fun b => OO O0 s φ b ∨ b ∈ Fr) := by
            funext b; simp
           rw [this]; exact hR
         ·exact ⟨noO, fun b hb => hb.elim, LH h (fun d τ x cs he hr _ => Ku h he hr) hds hx (.inl rfl), fun w' vs Fr hR => hR.all hno⟩
        obtain ⟨O, hO1, hO2, hO3⟩ := key
        refine MH (ZE ho hE) (hS O w x r _ hr hO2 hO1 h.iv (qe h.iv0 h.fr.size)) ?_
        rintro v w' ⟨vs, Fr, rfl, hK, hR, hFn, hFr⟩
        exact PQ (V := []) (l := []) (ψ0 := fun _ => []) (F1 := []) h rfl List.nodup_nil (by simp) (by simp [Ha]) (by simp) ⟨hK.size, fun b hb _ => hK.block b hb (fun h => h), hK.os, hK.tape, hK.output⟩ (by simp)
         hop hfi (hO3 _ _ _ hR) (by simpa using hFn) (fun b hb => .inl (hFr b hb)) hres (by simpa using he)
      ·simp at he
     ·simp at he
   ·simp at he
  ·simp at he
 ·
  rename_i τ pt rt fr F hfn
  obtain ⟨hE, hS⟩ := hG.fn _ _ hfn
  split at he
  ·rename_i a0 args' hargs
   split at he
   ·rename_i d0 ds hd0 hds
    split at he
    ·rename_i x0 l x hx0 hx
     cases hr : F x0 x with
     | none => simp [hr] at he
     | some r =>
      simp only [hr, jb] at he
      split at he
      ·rename_i d u m hop
       split at he
       ·rename_i d' hres
        cases hc : (jx m (100064 + 64 * o.dst.getD 0) && Se s u && Rh l && !ds.hasOwn) with
        | false => rw [hc] at he; simp at he
        | true =>
         rw [hc] at he
         simp only [zz] at he
         simp only [jd, yx] at hc
         obtain ⟨⟨⟨_, hfi⟩, hnd⟩, hno⟩ := hc
         have hnd := Wj hnd
         obtain ⟨hrep, hval⟩ := Zf (Wl hx0) (h.ev hd0)
         obtain ⟨hown, hlive⟩ := Bq h hx0 hrep
         have hbn := Vh h hnd hlive
         have hva : Xh w (OO O0 s φ) pt x (args'.map a.eval) := by
          refine LH h (fun d τ x cs he hr ho => ?_) hds hx (.inr hno)
          rcases ho with ho | ho
          ·rw [ho]; exact Ku h he hr
          ·exact (Ai (XN ho he)).2 _ hr
         have hsub : ∀ b, b ∈ Ha φ l → OO O0 s φ b := by
          intro b hb
          obtain ⟨j, hj, hm⟩ := Pb.1 hb
          obtain ⟨Ia, hbj⟩ := hlive j hj
          exact .inr ⟨j, Ia, hbj, hm⟩
         have hOO : (fun b => OO O0 s φ b ∨ b ∈ Ha φ l) = OO O0 s φ := by
          funext b
          exact propext ⟨fun h => h.elim id (hsub b), .inl⟩
         have hrun := ZE (a := a) (w := w) ho hE
         rw [hargs, yw, hval] at hrun
         refine MH hrun (hS (OO O0 s φ) w x0 x r _ _ _ hr hown hbn (by rw [hOO]; exact hva) (fun b hb => h.OO_lt hb) h.iv (qe h.iv0 h.fr.size) (CT h hlive)) ?_
         rintro v w' ⟨vs, F1, Fr, rfl, hK, hown', hF1, hR, hFn, hFr⟩
         obtain ⟨g1, ψ, g2, g3⟩ := IaC h hx0 hnd hrep hown'
         refine PQ (V := LJ d0 τ r.1) (l := l) (ψ0 := ψ) (F1 := F1) h g1 hnd (fun j hj => XO hd0 (TU hx0 j hj)) g2 g3 hK hF1 hop hfi ?_ hFn hFr hres he
         have : (fun b => OO O0 s φ b ∨ b ∈ F1 ∨ b ∈ Fr) = (fun b => OO O0 s φ b ∨ b ∈ Ha φ l ∨ b ∈ F1 ∨ b ∈ Fr) := by
          funext b
          refine propext ⟨fun h => h.elim .inl fun h => .inr (.inr h), fun h => h.elim .inl fun h => h.elim (fun h => .inl (hsub b h)) .inr⟩
         rw [this]
         exact hR
       ·simp at he
      ·simp at he
    ·simp at he
   ·simp at he
  ·simp at he
 ·
  rename_i pt rt fr F hfn
  obtain ⟨hE, hS⟩ := hG.fn _ _ hfn
  split at he
  ·rename_i ds hds
   split at he
   ·rename_i x l hx
    cases hr : F x with
    | none => simp [hr] at he
    | some r =>
     simp only [hr, jb] at he
     split at he
     ·rename_i d u m hop
      split at he
      ·rename_i d' hres
       cases hc : (jx m (100064 + 64 * o.dst.getD 0) && Se s u && Rh l) with
       | false => rw [hc] at he; simp at he
       | true =>
        rw [hc] at he
        simp only [zz] at he
        simp only [jd] at hc
        obtain ⟨⟨_, hfi⟩, hnd⟩ := hc
        have hnd := Wj hnd
        obtain ⟨hnew, hun⟩ := RC hfi
        obtain ⟨hoa, hlive, hlm⟩ := XY h hds hx
        have hbn := Vh h hnd hlive
        have hsub : ∀ b, b ∈ Ha φ l → OO O0 s φ b := by
         intro b hb
         obtain ⟨j, hj, hm⟩ := Pb.1 hb
         obtain ⟨Ia, hbj⟩ := hlive j hj
         exact .inr ⟨j, Ia, hbj, hm⟩
        refine MH (ZE ho hE) (hS (OO O0 s φ) w x r _ _ hr hoa hbn (fun b hb => h.OO_lt hb) h.iv (qe h.iv0 h.fr.size) (CT h hlive)) ?_
        rintro v w' ⟨vs, Fr, rfl, hK, hR, hFn, hFr⟩
        obtain ⟨_, _, ψ, ν, hb1, hup, hrep⟩ := XR hop hR
        obtain ⟨σ', φ', hc', g1, g2⟩ := h.after (U := u) (X := []) (l := l) (ψ := ψ) (ν := ν) hun hnew (by simp) hlive (by simp) (by simpa using hK) hup (by rw [hb1]; exact hFn)
         (by rw [hb1]; exact hFr) (fun j hj => J2 (hlm j (by simpa using hj))) (by simp)
        refine Ig (upd := u ++ He l) rfl hc' ?_ he
        refine U4 hres (hrep _ _ _ g1 fun b _ hno hO => hno ?_)
        rcases g2 b hO with h1 | h1
        ·exact .inl h1
        ·exact .inr (.inr (hb1 ▸ h1))
      ·simp at he
     ·simp at he
   ·simp at he
  ·simp at he
 ·
  rename_i vw cv τ pt rt fr F hfn
  obtain ⟨hE, hS⟩ := hG.fn _ _ hfn
  split at he
  ·rename_i a0 args' hargs
   split at he
   ·rename_i bid ds hd0 hds
    split at he
    ·rename_i τ' d0 hbx
     split at he
     ·rename_i q x0 l x l2 hq hx0 hx
      obtain rfl := Sf hq
      cases hr : F x0 x with
      | none => simp [hr] at he
      | some r =>
       simp only [hr, jb] at he
       split at he
       ·rename_i d u m hop
        split at he
        ·rename_i d' e v m' hres hev
         cases hc : (jx m' (100064 + 64 * o.dst.getD 0) && Se s (u ++ v) && Rh (bid :: (l ++ l2)) && (cv || !ds.hasOwn)) with
         | false => rw [hc] at he; simp at he
         | true =>
          rw [hc] at he
          simp only [zz] at he
          simp only [jd] at hc
          obtain ⟨⟨⟨_, hfi⟩, hnd⟩, hcv⟩ := hc
          have hnd := Wj hnd
          rw [yy] at hnd
          obtain ⟨hnew, hun⟩ := RC hfi
          have hptr := h.ev hd0
          rw [Pr] at hptr
          obtain ⟨b, hσb, hval⟩ := hptr.2 _ _ hbx
          obtain ⟨hsh, b', cur, et, hσ', hh, hF, hrep0, hsz⟩ := h.hp bid _ hbx
          rw [hσ'] at hσb
          simp only [Value.pointer.injEq, jc, Addr.mk.injEq, and_true] at hσb
          subst hσb
          simp only [Nb] at hval
          have hl : (∀ j, j ∈ l → ∃ Ia, s.heap j = some Ia) ∧ (∀ j, j ∈ l → s.ment j = true) ∧ (if vw then Ta w (OO O0 s φ) τ' x0 cur.toList ∧ l = [] else Kc w τ' x0 cur.toList (Ha φ l)) := by
           cases vw with
           | true =>
            simp only [zz] at hx0
            split at hx0
            ·rename_i y hy
             simp only [jc, jh] at hx0
             obtain ⟨rfl, rfl⟩ := hx0
             exact ⟨by simp, by simp, by simp only [if_true]; exact ⟨(Ai hy).2 _ hrep0, trivial⟩⟩
            ·simp at hx0
           | false =>
            simp only [ua] at hx0
            obtain ⟨g1, g2⟩ := Bq h hx0 hrep0
            refine ⟨g2, fun j hj => AS.ment_heap hbx ?_, by simpa using g1⟩
            exact TU hx0 j hj
          obtain ⟨hl1, hl2, hl3⟩ := hl
          have hx' : (∀ j, j ∈ l2 → ∃ Ia, s.heap j = some Ia) ∧ (∀ j, j ∈ l2 → s.ment j = true) ∧ (if cv then Pg w pt x (args'.map a.eval) (Ha φ l2) else Xh w (OO O0 s φ) pt x (args'.map a.eval) ∧ l2 = []) := by
           cases cv with
           | true =>
            simp only [zz] at hx
            obtain ⟨g1, g2, g3⟩ := XY h hds hx
            exact ⟨g2, g3, by simpa using g1⟩
           | false =>
            simp only [ua] at hx
            split at hx
            ·rename_i y hy
             simp only [jc, jh] at hx
             obtain ⟨rfl, rfl⟩ := hx
             have hno : ds.hasOwn = false := by simpa using hcv
             have hva : Xh w (OO O0 s φ) pt y (args'.map a.eval) := by
              refine LH h (fun d τ x cs he hr ho => ?_) hds hy (.inr hno)
              rcases ho with ho | ho
              ·rw [ho]; exact Ku h he hr
              ·exact (Ai (XN ho he)).2 _ hr
             exact ⟨by simp, by simp, by simp only [jq, if_false]; exact ⟨hva, trivial⟩⟩
            ·simp at hx
          obtain ⟨hx1, hx2, hx3⟩ := hx'
          have hlive : ∀ j, j ∈ bid :: (l ++ l2) → ∃ Ia, s.heap j = some Ia := by
           intro j hj
           rcases jp.1 hj with rfl | hj
           ·exact ⟨_, hbx⟩
           ·rcases jl.1 hj with hj | hj
            ·exact hl1 j hj
            ·exact hx1 j hj
          have hbn := Vh h (yy.2 hnd) hlive
          have hblk : Ha φ (bid :: (l ++ l2)) = b' :: (Ha φ l ++ Ha φ l2) := by
           have : Ha φ (bid :: (l ++ l2)) = φ bid ++ Ha φ (l ++ l2) := by simp [Ha]
           rw [this, hF, Xe]; rfl
          have hsub : ∀ c, c ∈ b' :: (Ha φ l ++ Ha φ l2) → OO O0 s φ c := by
           intro c hc
           rw [← hblk] at hc
           obtain ⟨j, hj, hm⟩ := Pb.1 hc
           obtain ⟨Ia, hbj⟩ := hlive j hj
           exact .inr ⟨j, Ia, hbj, hm⟩
          have hO1 : (fun c => OO O0 s φ c ∨ c = b' ∨ c ∈ Ha φ l2) = OO O0 s φ := by
           funext c
           refine propext ⟨fun hc => ?_, .inl⟩
           rcases hc with hc | rfl | hc
           ·exact hc
           ·exact hsub _ List.mem_cons_self
           ·exact hsub _ (jr _ (yc _ hc))
          have hO2 : (fun c => OO O0 s φ c ∨ c = b' ∨ c ∈ Ha φ l) = OO O0 s φ := by
           funext c
           refine propext ⟨fun hc => ?_, .inl⟩
           rcases hc with hc | rfl | hc
           ·exact hc
           ·exact hsub _ List.mem_cons_self
           ·exact hsub _ (jr _ (yb _ hc))
          have hrun := ZE (a := a) (w := w) ho hE
          rw [hargs, yw, hval] at hrun
          refine MH hrun (hS (OO O0 s φ) w x0 x r b' cur et (Ha φ l) (Ha φ l2) _ hr hh hsz ?_ ?_ (by rw [← hblk]; exact hbn) (fun b hb => h.OO_lt hb) h.iv (qe h.iv0 h.fr.size)
           (by rw [← hblk]; exact CT h hlive)) ?_
          ·cases vw with
           | true =>
            simp only [if_true] at hl3 ⊢
            rw [hO1]
            exact ⟨hl3.1, by rw [hl3.2]; simp [Ha]⟩
           | false => simpa using hl3
          ·cases cv with
           | true => simpa using hx3
           | false =>
            simp only [jq, if_false] at hx3 ⊢
            rw [hO2]
            exact ⟨hx3.1, by rw [hx3.2]; simp [Ha]⟩
          ·rintro v' w' ⟨vs, cur', et', F1, Fr, rfl, hK, hh', hsz', hcont, hR, hFn, hFr⟩
           obtain ⟨hnm, hun1, ψ1, ν1, hb1, hup1, hrep1⟩ := XR hop hR
           have hb'lt : b' < w.heap.size := (Array.getElem?_eq_some_iff.1 hh).1
           have hSub2 : ∀ c, (OO O0 s φ c ∨ c ∈ b' :: (Ha φ l ++ Ha φ l2)) → OO O0 s φ c := fun c hc => hc.elim id (hsub c)
           have key : ∃ (ψ : Nat → List Nat) (ν : Nat → Value), Ha ψ ((u ++ v).map (·.1)) = Fr ++ F1 ∧ (∀ p, p ∈ u ++ v → ∃ e xs, p.2 = some (.row e true xs) ∧ Kc w' (.sl e) xs [ν p.1] (ψ p.1)) ∧
            (∀ p, p ∈ u → ν p.1 = ν1 p.1) ∧ ∀ (hp' : Nat → Option La) (σ2 : Nat → Value) (O' : Nat → Prop), σ2 bid = σ bid → (∀ q, q ∈ u ++ v → σ2 q.1 = ν q.1) → (∀ c, O' c → OO O0 s φ c ∨ c ∈ Fr ++ F1) → Hd w' O' hp' σ2 bid (.box τ' e) (φ bid) := by
            cases vw with
            | true =>
             simp only [zz, jh] at hev
             obtain ⟨rfl, rfl, rfl⟩ := hev
             simp only [if_true] at hcont
             obtain ⟨hcv', rfl⟩ := hcont
             refine ⟨ψ1, ν1, by simpa using hb1, by simpa using hup1, fun _ _ => rfl, fun hp' σ2 O' h1 _ h2 => ⟨by simp [Kb], b', cur', et', h1.trans hσ', hh', hF, ?_, hsz'⟩⟩
             refine Ta.weaken (fun c hc => ?_) hcv'
             rcases h2 c hc with h3 | h3
             ·exact .inl h3
             ·exact .inr (.inr (by simpa using h3))
            | false =>
             simp only [ua] at hev
             simp only [jq, if_false] at hcont
             obtain ⟨a1, a2, a3, ψ2, ν2, a4, a5, a6⟩ := FA hev hcont
             refine ⟨fun id => if id < m then ψ1 id else ψ2 id, fun id => if id < m then ν1 id else ν2 id, ?_, ?_, ?_, fun hp' σ2 O' h1 h3 h2 => ⟨a3, b', cur', et', h1.trans hσ', hh', hF, ?_, hsz'⟩⟩
             ·rw [zf, Xe, ← hb1, ← a4]
              congr 1
              ·exact Yl fun j hj => by
                obtain ⟨p, hp, rfl⟩ := qv.1 hj
                rw [if_pos (hun1 p hp).2]
              ·exact Yl fun j hj => by
                obtain ⟨p, hp, rfl⟩ := qv.1 hj
                rw [if_neg (by have := a2 p hp; omega)]
             ·intro p hp
              rcases jl.1 hp with hp | hp
              ·simp only [if_pos (hun1 p hp).2]; exact hup1 p hp
              ·have : ¬ p.1 < m := by have := a2 p hp; omega
               simp only [if_neg this]; exact a5 p hp
             ·intro p hp
              simp only [if_pos (hun1 p hp).2]
             ·refine a6 w' hp' σ2 O' fun p hp => ?_
              have h4 := h3 p (yc _ hp)
              have : ¬ p.1 < m := by have := a2 p hp; omega
              simp only [if_neg this] at h4
              exact h4
           obtain ⟨ψ, ν, k1, k2, k3, k4⟩ := key
           rw [yy] at hFn
           obtain ⟨σ', φ', hc', g1, g2⟩ := h.after (U := u ++ v) (X := [(bid, some (.box τ' e))]) (l := l ++ l2) (ψ := ψ) (ν := ν) hun hnew (by simp) (fun j hj => hlive j (jr _ hj))
            (by intro j hj; simp at hj; subst hj; exact hnd.1) (by
             have : Ha φ ([(bid, some (La.box τ' e))].map (·.1) ++ (l ++ l2)) = b' :: (Ha φ l ++ Ha φ l2) := hblk
             rw [this]; exact hK) k2 (by rw [k1]; exact (List.perm_append_comm.nodup_iff).1 hFn.2)
            (by
             rw [k1, Xe]
             intro c hc
             refine hFr c ?_
             rcases jl.1 hc with hc | hc
             ·exact yc _ hc
             ·exact yb _ hc)
            (by
             intro j hj
             refine J2 ?_
             have hj : j ∈ bid :: (l ++ l2) := hj
             rcases jp.1 hj with rfl | hj
             ·exact XO hd0 (by simp [D.ment])
             ·rcases jl.1 hj with hj | hj
              ·exact hl2 j hj
              ·exact hx2 j hj)
            (by
             intro p hp
             simp only [qg] at hp
             subst hp
             exact ⟨τ', d0, e, rfl, hbx, fun hp' σ2 O' h1 h2 h3 => k4 hp' σ2 O' h1 h2 (by rw [k1] at h3; exact h3)⟩)
           refine Ig (upd := u ++ (v ++ ((bid, some (.box τ' e)) :: He (l ++ l2)))) (s₁ := ⟨s.n, s.tm, u ++ v ++ ([(bid, some (.box τ' e))] ++ He (l ++ l2)) ++ s.hp⟩) (by simp) hc' ?_ he
           refine U4 hres (hrep1 _ _ _ (fun p hp => (g1 p (yb _ hp)).trans (k3 p hp)) fun c _ hno hO => hno ?_)
           rcases g2 c hO with h1 | h1
           ·exact .inl h1
           ·rw [k1] at h1
            rcases jl.1 h1 with h1 | h1
            ·exact .inr (.inr (.inr h1))
            ·exact .inr (.inr (.inl h1))
        ·simp at he
       ·simp at he
     ·simp at he
    ·simp at he
   ·simp at he
  ·simp at he
 ·
  rename_i pt τ F hfn
  obtain ⟨hE, hS⟩ := hG.fn _ _ hfn
  split at he
  ·rename_i tt ds hd hds
   split at he
   ·rename_i x hx
    cases hr : F x with
    | none => simp [hr] at he
    | some r =>
     simp only [hr, jb] at he
     cases hc : (s.newOk tt && !ds.hasOwn) with
     | false => rw [hc] at he; simp at he
     | true =>
      rw [hc] at he
      simp only [zz] at he
      simp only [jd, yx] at hc
      obtain ⟨hnew, hno⟩ := hc
      have hva : Xh w (OO O0 s φ) pt x (args.toList.map a.eval) := by
       refine LH h (fun d τ x cs he hr ho => ?_) hds hx (.inr hno)
       rcases ho with ho | ho
       ·rw [ho]; exact Ku h he hr
       ·exact (Ai (XN ho he)).2 _ hr
      refine MH (ZE ho hE) (hS (OO O0 s φ) w x r _ hr hva (fun b hb => h.OO_lt hb) h.iv (qe h.iv0 h.fr.size)) ?_
      rintro v w' ⟨b, cur, et, rfl, hK, hb, hh, hsz, hvw⟩
      have hc := h.new1b (w' := w') hnew (.box τ (.t τ r)) (.pointer (some ⟨b, 0, none⟩)) [b] hK.size (fun c hc => hK.block c hc (fun h => h)) hK.os hK.tape hK.output (by simp) (by simpa using hb)
       (fun hp' σ' O' hσ hO => ⟨by simp [Kb], b, cur, et, hσ, hh, rfl, Ta.weaken (fun c hc => by
        rcases hO c hc with h1 | h1
        ·exact .inl h1
        ·exact .inr (by simpa using h1)) hvw, hsz⟩)
      exact Ig rfl hc (OK _ rfl (Ti _ _ _)) he
   ·simp at he
  ·simp at he
 ·simp at he
end
theorem El.drop {w : World} {O : Nat → Prop} {dq : Bool} {e : Ty} {xs : List (T e)} {L : List Value} {Fs : List (List Nat)} (h : El w O dq e xs L Fs) {k : Nat} (hk : k ≤ ja xs) :
 El w O dq e (yo k xs) (L.drop (k * e.size)) (Fs.drop k) := by
 have hl := h.len
 refine ⟨?_, ?_, ?_⟩
 ·rw [qw, hl, qw, Nat.sub_mul]
 ·rw [qw, qw, h.flen]
 ·intro i hi
  have hi' : k + i < ja xs := by
   have : i < ja xs - k := by simpa using hi
   omega
  have := h.el (k + i) hi'
  have e1 : NC (L.drop (k * e.size)) i e.size = NC L (k + i) e.size := by
   unfold NC
   rw [q7, yr]
  have e2 : List.get (yo k xs) ⟨i, hi⟩ = List.get xs ⟨k + i, hi'⟩ := by simp
  have e3 : (Fs.drop k).getD i [] = Fs.getD (k + i) [] := by simp [qj]
  rw [e1, e2, e3]
  exact this
theorem El.upf {w : World} {O : Nat → Prop} {dq : Bool} {e : Ty} {xs : List (T e)} {L : List Value} {Fs : List (List Nat)} (h : El w O dq e xs L Fs) (hf : e.flat = true) : El w O true e xs L Fs := by
 refine ⟨h.len, h.flen, fun i hi => ?_⟩
 have := h.el i hi
 cases dq with
 | true => exact this
 | false =>
  simp only [jq, if_false] at this
  rw [if_pos rfl, this.2]
  exact this.1.flat hf
theorem El.flats {w : World} {O : Nat → Prop} {e : Ty} {xs : List (T e)} {L : List Value} {Fs : List (List Nat)} (h : El w O true e xs L Fs) (hf : e.flat = true) : Fs.flatten = [] :=
 OF fun i hi => by
  have := h.el i (by rw [← h.flen]; exact hi)
  rw [if_pos rfl] at this
  exact Lv hf this
section
variable {P : Program} {Out : Type} {n0 : Nat} {A : Fx} {O0 : Nat → Prop} {w0 w w' : World} {s : AS} {σ σ' : Nat → Value} {φ φ' : Nat → List Nat} {a : Act}
variable {o : Oper} {Q : Exit → Act → World → Prop} {k : AS → Option Out} {out : Out} {d : D} {v : Value} {upd : List (Nat × Option La)} {dst : Option Tmp} {G : Yf}
theorem EZ {cur : Array Value} {off n : Nat} {news : List Value} (h : off + n ≤ cur.size) (hn : news.length ≤ n) :
 Ee (Hc cur.toList off news).toArray off n = news ++ (Ee cur off n).drop news.length := by
 have := Cz (cur := cur) (o := off) (n := n) (o' := 0) (ce := news) h (by omega)
 simp only [yl] at this
 rw [this]
 unfold Hc
 simp
theorem Dav (t tx ty et : TypeId) (i : TypeInfo) (ht : P.underlying t = some (.slice et)) (hi : P.info? et = some i) {b off n cap : Nat} {x : Value} {m : Nat} {news : List Value} (hs : Src P i.size tx x m news w)
 {cur : Array Value} {ct : TypeId} (hh : w.heap[b]? = some (.cells cur ct (0, 0))) (hm : m ≤ n) (hfit : off + news.length ≤ cur.size) :
 (Builtin.copy_ #[t, tx] ty #[.slice (some ⟨b, off, none⟩) n cap, x]).run P w = .ok (.int .i64 (m : Int)) (w.setRow b (Hc cur.toList off news).toArray) := by
 have hst := run_storeCells_at P b off ct news 0 cur w hh (by simpa using hfit) hs.one
 simp only [yl] at hst
 have hmin : Nat.min m n = m := Nat.min_eq_left hm
 simp [Builtin.copy_, run_underlying ht, Go.sizeOf, typeInfo, hi, hs.len, hmin, hs.cells, hst, Hc, goInt]
theorem NaB (hG : EnvTy P G) (h : Bb n0 A O0 w0 s σ φ a w) {args : Array Operand} {ts : Array TypeId} (ho : o.op = .call ⟨.builtin .copy, args, ts⟩)
 (he : Mg G s o k = some out) : o.wp P a w (Vf n0 A O0 w0 k out) Q := by
 simp only [Mg, Zb, ho] at he
 split at he
 ·rename_i x y t tx hargs hts
  unfold PI at he
  split at he
  ·rename_i e id db hty hx hy
   split at he
   ·rename_i e' dp xs hb
    split at he
    ·rename_i q ys dq m hq hsrc
     obtain rfl := Sf hq
     cases hc : (e'.flat && MW (Sb G.ty tx)) with
     | false => rw [hc] at he; simp at he
     | true =>
      rw [hc] at he
      simp only [zz] at he
      simp only [jd] at hc
      obtain ⟨hfl, hkx⟩ := hc
      cases hlim : jx (ja ys) (ja xs) with
      | false => rw [hlim] at he; simp at he
      | true =>
       rw [hlim] at he
       simp only [zz] at he
       have hlim := yi hlim
       obtain ⟨et, hu, hte⟩ := Tok.sl (hG.ty _ _ hty)
       obtain ⟨i, hi, hsz, _, _⟩ := Tok.size hte
       have hk : (∃ e', P.underlying tx = some (.slice e')) ∨ P.underlying tx = some .string := by
        unfold MW at hkx
        split at hkx
        ·rename_i e' hq
         obtain ⟨et', hu', _⟩ := Tok.sl (hG.ty _ _ hq)
         exact .inl ⟨et', hu'⟩
        ·rename_i hq
         exact .inr (Tok.s (hG.ty _ _ hq))
        ·simp at hkx
       have hev := h.ev hx
       have hrow := CZ h hb hev
       rw [hfl, Bool.or_true] at hrow
       obtain ⟨news, Gs, hS, hEl, hsub, hl2⟩ := Aah (P := P) h hsrc (h.ev hy) hk
       have hEl := hEl.upf hfl
       have hnl := hS.newsLen
       have hS' : Src P i.size tx (a.eval y) (ja ys) news w := by rw [hsz]; exact hS
       have hts' : ts = #[t, tx] := by
        apply Array.ext'
        rw [hts]
       have hal : ja (jf ys (yo (ja ys) xs)) = ja xs := by
        show (ys ++ yo ys.length xs).length = _
        rw [qh, qw]; omega
       obtain ⟨hm, ⟨h1, h2, h3⟩ | ⟨bl, off, cap, cur, ct, Fs, h1, hh, h2, h3, h4, hF, hel⟩⟩ := hrow
       ·subst h2
        have hy0 : ys = ([] : List (T e')) := yj (by simpa using hlim)
        subst hy0
        have hc : Bb n0 A O0 w0 ⟨s.n, s.tm, (id, some (.row e' dp (jf ([] : List (T e')) (yo 0 ([] : List (T e')))))) :: (He [] ++ s.hp)⟩ σ (Lk φ id (φ id)) a w := by
         refine h.turn (blk0 := .row e' dp []) hb (by simp [La.like]) [] (by simp) (by simp) (φ id) (jo _) (fun _ _ _ _ => rfl) rfl rfl rfl (h.nodup _ _ hb) (fun c hc => .inr (.inl hc)) ?_
         intro hp' O' hO hcp
         have h0 := h.hp id _ hb
         exact Hd.stable (fun _ _ _ => rfl) hO (fun _ _ => rfl) rfl (fun j _ => hcp j) h0
        refine Gc (w' := w) (v := .int .i64 0) ?_ (Ig rfl hc ?_ he)
        ·rw [Gt ho hargs, hts']
         have := hS'.cells
         simp only [qb] at this
         simp [builtin, Builtin.copy_, h1, run_underlying hu, Go.sizeOf, typeInfo, hi, hS'.len, this, goInt]
        ·exact Xf.2 rfl
       ·have hcap := jm e'.size h2
        have hmul := jm e'.size hlim
        have hr := Dav (P := P) (w := w) (b := bl) (off := off) (n := ja xs) (cap := cap) t tx o.type et i hu hi hS' hh hlim (by omega)
        have hF' : φ id = [bl] := by rw [hF, hel.flats hfl]
        have hoth : ∀ c, c ≠ bl → (w.setRow bl (Hc cur.toList off news).toArray).heap[c]? = w.heap[c]? := fun c hc => setRow_other w bl c _ hc
        have hc : Bb n0 A O0 w0 ⟨s.n, s.tm, (id, some (.row e' dp (jf ys (yo (ja ys) xs)))) :: (He [] ++ s.hp)⟩ σ (Lk φ id (φ id)) a (w.setRow bl (Hc cur.toList off news).toArray) := by
         refine h.turn (blk0 := .row e' dp xs) hb (by simp only [La.like, true_and]; exact hal.symm) [] (by simp) (by simp) (φ id) (by simp) ?_ rfl rfl rfl (h.nodup _ _ hb) (fun c hc => .inr (.inl hc)) ?_
         ·intro c _ hc _
          rw [hF'] at hc
          exact hoth c (by simpa using hc)
         ·intro hp' O' hO hcp
          have hnew : Hd (w.setRow bl (Hc cur.toList off news).toArray) O' hp' σ id (.row e' true (jf ys (yo (ja ys) xs))) (φ id) := by
           rw [Ym]
           have hσ : σ id = a.eval x := by
            rw [UL] at hev
            exact (hev.2 _ _ hb rfl).symm
           rw [hσ, h1, hF']
           have happ := hEl.append (hel.drop hlim)
           have hcl : cur.toList.length = cur.size := Array.length_toList
           refine ⟨by rw [hal]; exact hm, .inr ⟨bl, off, cap, _, ct, Gs ++ Fs.drop (ja ys), by rw [hal], setRow_heap w bl cur _ ct (0, 0) hh, by rw [hal]; exact h2, h3, ?_, ?_, ?_⟩⟩
           ·rw [List.size_toArray, Wh (by omega)]
            omega
           ·rw [happ.flats hfl]
           ·rw [hal, EZ (by omega) (by omega), hnl]
            refine happ.stable ?_ ?_ ?_
            ·intro b hb' _
             refine hoth b fun e => hb' (.inr ⟨id, _, hb, ?_⟩)
             rw [hF', e]; simp
            ·exact hO
            ·rw [happ.flats hfl]; simp
          cases dp with
          | true => exact hnew
          | false => exact R4 hnew hfl
        refine Gc (w' := w.setRow bl (Hc cur.toList off news).toArray) (v := .int .i64 (ja ys : Int)) ?_ (Ig rfl hc ?_ he)
        ·rw [Gt ho hargs, hts']
         simp [builtin, h1, hr]
        ·exact Xf.2 rfl
    ·simp at he
   ·simp at he
  ·simp at he
 ·simp at he
end
theorem Zab {w : World} : ∀ {e : Ty} {x : T e} {p : List Nat} {τ : Ty} {y : D} {y' : T τ} {cs : List Value} {F : List Nat}, Of e p = some τ → (D.t e x).at p = some y → Bk y τ = some y' →
 Kc w e x cs F → ∃ F1 Fy F3, F = F1 ++ Fy ++ F3 ∧ Kc w τ y' ((cs.drop (Nb e p)).take τ.size) Fy ∧
  ∀ (w' : World) (c' : List Value), c'.length = τ.size → (∀ b, b ∈ F1 ++ F3 → w'.heap[b]? = w.heap[b]?) → ∀ (z : T τ) (Fz : List Nat) (x' : T e), Kc w' τ z c' Fz → Mi e x p τ z = some x' →
   Kc w' e x' (Hc cs (Nb e p) c') (F1 ++ Fz ++ F3)
 | e, x, [], τ, y, y', cs, F, ht, hy, hy', h => by
  simp only [Of, jc] at ht
  subst ht
  simp only [D.at, jc] at hy
  subst hy
  simp only [Bk] at hy'
  split at hy'
  ·simp only [jc] at hy'
   subst hy'
   have hl := Kc.length h
   have hcs : (cs.drop (Nb e [])).take e.size = cs := by rw [← hl]; simp [Nb]
   refine ⟨[], F, [], by simp, by rw [hcs]; exact h, fun w' c' hc' _ z Fz x' hz hs => ?_⟩
   unfold Mi at hs
   split at hs
   ·simp only [jc] at hs
    subst hs
    simp only [Nb]
    rw [ES (by omega)]
    simpa using hz
   ·simp at hs
  ·simp at hy'
 | .p a b', x, 0 :: p, τ, y, y', cs, F, ht, hy, hy', h => by
  have ht' : Of a p = some τ := by simpa [Of, Ua] using ht
  have hy1 : (D.t a x.1).at p = some y := by simpa [D.at, D.field, D.fst] using hy
  obtain ⟨c1, c2, Fa, Fb, hc, hF, h1, h2⟩ := h
  obtain ⟨F1, Fy, F3, e1, e2, e3⟩ := Zab ht' hy1 hy' h1
  have hle := Ej ht'
  have l1 := Kc.length h1
  have ho : Nb (.p a b') (0 :: p) = Nb a p := by simp [Nb, Ld, Ua]
  have hcs : (cs.drop (Nb (.p a b') (0 :: p))).take τ.size = (c1.drop (Nb a p)).take τ.size := by
   rw [ho, hc, List.drop_append_of_le_length (by omega), List.take_append_of_le_length (by simp; omega)]
  rw [hcs]
  refine ⟨F1, Fy, F3 ++ Fb, by simp [hF, e1], e2, fun w' c' hc' hw z Fz x' hz hs => ?_⟩
  simp only [Mi] at hs
  split at hs
  ·rename_i u hu
   simp only [jc] at hs
   subst hs
   rw [ho, hc, KO (by omega)]
   refine ⟨_, c2, F1 ++ Fz ++ F3, Fb, rfl, by simp, e3 w' c' hc' (fun b hb => hw b ?_) z Fz u hz hu, h2.stable fun b hb => hw b ?_⟩
   ·rcases jl.1 hb with hb | hb <;> simp [hb]
   ·simp [hb]
  ·simp at hs
 | .p a b', x, (n + 1) :: p, τ, y, y', cs, F, ht, hy, hy', h => by
  have ht' : Of b' (n :: p) = some τ := by simpa [Of, Ua] using ht
  have hy1 : (D.t b' x.2).at (n :: p) = some y := by simpa [D.at, D.field, D.snd] using hy
  obtain ⟨c1, c2, Fa, Fb, hc, hF, h1, h2⟩ := h
  obtain ⟨F1, Fy, F3, e1, e2, e3⟩ := Zab ht' hy1 hy' h2
  have l1 := Kc.length h1
  have ho : Nb (.p a b') ((n + 1) :: p) = c1.length + Nb b' (n :: p) := by simp [Nb, Ld, Ua, l1, jt]
  have hcs : (cs.drop (Nb (.p a b') ((n + 1) :: p))).take τ.size = (c2.drop (Nb b' (n :: p))).take τ.size := by
   rw [ho, hc]; simp [List.drop_append, List.drop_eq_nil_of_le]
  rw [hcs]
  refine ⟨Fa ++ F1, Fy, F3, by simp [hF, e1], e2, fun w' c' hc' hw z Fz x' hz hs => ?_⟩
  simp only [Mi] at hs
  split at hs
  ·rename_i u hu
   simp only [jc] at hs
   subst hs
   rw [ho, hc, VD]
   refine ⟨c1, _, Fa, F1 ++ Fz ++ F3, rfl, by simp, h1.stable fun b hb => hw b ?_, e3 w' c' hc' (fun b hb => hw b ?_) z Fz u hz hu⟩
   ·simp [hb]
   ·rcases jl.1 hb with hb | hb <;> simp [hb]
  ·simp at hs
 | .i _, _, _ :: _, _, _, _, _, _, ht, _, _, _ => by simp [Of, Ua] at ht
 | .b, _, _ :: _, _, _, _, _, _, ht, _, _, _ => by simp [Of, Ua] at ht
 | .o, _, _ :: _, _, _, _, _, _, ht, _, _, _ => by simp [Of, Ua] at ht
 | .mp _ _, _, _ :: _, _, _, _, _, _, ht, _, _, _ => by simp [Of, Ua] at ht
 | .s, _, _ :: _, _, _, _, _, _, ht, _, _, _ => by simp [Of, Ua] at ht
 | .sl _, _, _ :: _, _, _, _, _, _, ht, _, _, _ => by simp [Of, Ua] at ht
 | .u, _, _ :: _, _, _, _, _, _, ht, _, _, _ => by simp [Of, Ua] at ht
theorem O6 {w : World} {e τ : Ty} {xs : List (T e)} {b off cap : Nat} {F : List Nat} {i : Nat} {x : T e} {y : D} {y' : T τ} {p : List Nat}
 (h : Kc w (.sl e) xs [.slice (some ⟨b, off, none⟩) (ja xs) cap] F) (hi : xs[i]? = some x) (ht : Of e p = some τ) (hy : (D.t e x).at p = some y) (hy' : Bk y τ = some y') :
 ∃ cur et F1 Fy, w.heap[b]? = some (.cells cur et (0, 0)) ∧ b ∈ F1 ∧ off + i * e.size + e.size ≤ cur.size ∧ F.Perm (F1 ++ Fy) ∧ Kc w τ y' (Ee cur (off + i * e.size + Nb e p) τ.size) Fy ∧
  (b ∉ F1.erase b → ∀ (w' : World) (c' : List Value), c'.length = τ.size → (∀ c, c ∈ F1 → c ≠ b → w'.heap[c]? = w.heap[c]?) →
   w'.heap[b]? = some (.cells (Hc cur.toList (off + i * e.size + Nb e p) c').toArray et (0, 0)) → ∀ (z : T τ) (Fz : List Nat) (x' : T e), Kc w' τ z c' Fz → Mi e x p τ z = some x' →
   ∃ F', F'.Perm (F1 ++ Fz) ∧ Kc w' (.sl e) (qa xs i x') [.slice (some ⟨b, off, none⟩) (ja xs) cap] F') := by
 obtain ⟨hm, ⟨h1, _⟩ | ⟨bl, off', cap', cur, et, Fs, h1, hh, h2, h3, h4, hF, hl, hv⟩⟩ := h
 ·simp at h1
 ·simp at h1
  obtain ⟨⟨rfl, rfl⟩, rfl⟩ := h1
  have hil : i < ja xs := (yk.1 hi).1
  have hxe : List.get xs ⟨i, hil⟩ = x := by simpa [je hil] using hi
  have hle := Ej ht
  have hcap := jm e.size h2
  have hlt : (i + 1) * e.size ≤ ja xs * e.size := jm _ hil
  rw [yr, yt] at hlt
  have hoi := hv i hil
  rw [hxe] at hoi
  obtain ⟨Fa, Fy, Fc, hFi, hown, hwand⟩ := Zab ht hy hy' hoi
  have hseg := RP cur (off + i * e.size) e.size (Nb e p) τ.size hle
  rw [hseg] at hown
  have hiF : i < Fs.length := by omega
  refine ⟨cur, et, b :: ((Fs.take i).flatten ++ (Fa ++ Fc) ++ (Fs.drop (i + 1)).flatten), Fy, hh, by simp, by omega, ?_, hown, fun hbn w' c' hc' hw hwb z Fz x' hz hs => ?_⟩
  ·rw [hF, (SH hiF []).1, hFi, List.perm_iff_count]
   intro c
   simp only [List.count_append, List.count_cons]
   omega
  ·simp only [List.erase_cons_head] at hbn
   obtain ⟨_, g2⟩ := SH hiF (Fa ++ Fz ++ Fc)
   refine ⟨b :: (Fs.set i (Fa ++ Fz ++ Fc)).flatten, ?_, by simpa using hm, .inr ⟨b, off, cap, _, et, _, by simp, hwb, by simpa using h2, h3, ?_, rfl, by simpa using hl, fun j hj => ?_⟩⟩
   ·rw [g2, List.perm_iff_count]
    intro c
    simp only [List.count_append, List.count_cons]
    omega
   ·rw [List.size_toArray, Wh (by simp; omega)]
    simpa using h4
   ·have hjl : j < ja xs := by simpa using hj
    by_cases hji : j = i
    ·subst hji
     have e1 : List.get (qa xs j x') ⟨j, hj⟩ = x' := by simp
     have e2 : (Fs.set j (Fa ++ Fz ++ Fc)).getD j [] = Fa ++ Fz ++ Fc := by simp [q9, hiF]
     rw [e1, e2, Cz (by omega) (by omega)]
     refine hwand w' c' hc' (fun c hc => hw c ?_ ?_) z Fz x' hz hs
     ·simp only [jp, jl] at hc ⊢
      grind
     ·rintro rfl
      apply hbn
      simp only [jl] at hc ⊢
      grind
    ·have e1 : List.get (qa xs i x') ⟨j, hj⟩ = List.get xs ⟨j, hjl⟩ := by simp [Ne.symm hji]
     have e2 : (Fs.set i (Fa ++ Fz ++ Fc)).getD j [] = Fs.getD j [] := by simp [q9, Ne.symm hji]
     have hjle : (j + 1) * e.size ≤ ja xs * e.size := jm _ hjl
     rw [yr, yt] at hjle
     have hjF : j < Fs.length := by omega
     have hinF : ∀ c, c ∈ Fs.getD j [] → c ∈ (Fs.take i).flatten ++ (Fa ++ Fc) ++ (Fs.drop (i + 1)).flatten := by
      intro c hc
      have hc' : c ∈ Fs[j] := by simpa [q9, hjF] using hc
      simp only [jl]
      rcases Nat.lt_or_gt_of_ne hji with hlt' | hlt'
      ·exact .inl (.inl (List.mem_flatten.2 ⟨Fs[j], List.mem_take_iff_getElem.2 ⟨j, by omega, rfl⟩, hc'⟩))
      ·exact .inr (List.mem_flatten.2 ⟨Fs[j], List.mem_drop_iff_getElem.2 ⟨j - (i + 1), by omega, by congr 1; omega⟩, hc'⟩)
     rw [e1, e2, OE (by omega) (by omega) ?_]
     ·refine (hv j hjl).stable fun c hc => hw c (jr _ (hinF c hc)) ?_
      rintro rfl
      exact hbn (hinF c hc)
     ·rcases Nat.lt_or_gt_of_ne hji with hlt' | hlt'
      ·left
       have := jm e.size hlt'
       rw [y3] at this
       omega
      ·right
       have := jm e.size hlt'
       rw [y3] at this
       omega
theorem Lad {cs : List Value} {o n : Nat} (h : o + n ≤ cs.length) : Hc cs o ((cs.drop o).take n) = cs := by
 apply q0
 intro j
 have hl : ((cs.drop o).take n).length = n := by simp; omega
 rw [Nj (by omega), hl]
 split
 ·rfl
 ·split
  ·rw [List.getElem?_take, if_pos (by omega), List.getElem?_drop]; congr 1; omega
  ·rfl
section
variable {P : Program} {Out : Type} {n0 : Nat} {A : Fx} {O0 : Nat → Prop} {w0 w w' : World} {s : AS} {σ σ' : Nat → Value} {φ φ' : Nat → List Nat} {a : Act}
variable {o : Oper} {Q : Exit → Act → World → Prop} {k : AS → Option Out} {out : Out} {d : D} {v : Value} {upd : List (Nat × Option La)} {dst : Option Tmp} {G : Yf}
theorem Bb.focus (h : Bb n0 A O0 w0 s σ φ a w) {id : Nat} {e τ : Ty} {xs : List (T e)} {i : Nat} {x : T e} {p : List Nat} {y : D} {y' : T τ} {n m : Nat} {u : List (Nat × Option La)}
 (hb : s.heap id = some (.row e true xs)) (hm : s.ment id = true) (hi : xs[i]? = some x) (ht : Of e p = some τ) (hy : (D.t e x).at p = some y) (hy' : Bk y τ = some y')
 {b off cap : Nat} (hσ : σ id = .slice (some ⟨b, off, none⟩) (ja xs) cap) (ho : Ff τ y' n = (d, u, m)) (hu : Se s u = true) :
 ∃ cur et σ' φ', w.heap[b]? = some (.cells cur et (0, 0)) ∧ off + i * e.size + e.size ≤ cur.size ∧
  Bb n0 A O0 w0 ⟨s.n, s.tm, ((id, some (.hol e xs i x p τ d)) :: u) ++ s.hp⟩ σ' φ' a w ∧ Kb τ d ∧
  ∀ hp' O', Gb w O' hp' σ' d (Ee cur (off + i * e.size + Nb e p) τ.size) := by
 have hown := h.hp id _ hb
 simp only [Hd, hσ] at hown
 obtain ⟨cur, et, F1, Fy, hh, hbF, hsz, hperm, hoy, hwand⟩ := O6 hown hi ht hy hy'
 obtain ⟨hnm, hrange, hsh, ψ, ν, hbl, hrows, hrep⟩ := FA ho hoy
 obtain ⟨hnew, hnd⟩ := RC hu
 have hnm' : ∀ q, q ∈ u → s.ment q.1 = false := fun q hq => by
  have := hnew q hq
  simp only [AS.newOk, jd, yx] at this
  exact this.1
 have hidu : id ∉ u.map (·.1) := fun hid => by
  obtain ⟨q, hq, he⟩ := qv.1 hid
  rw [← he, hnm' q hq] at hm
  simp at hm
 have hndF : (F1 ++ Fy).Nodup := hperm.nodup_iff.1 (h.nodup id _ hb)
 let σ' : Nat → Value := fun j => if j ∈ u.map (·.1) then ν j else σ j
 let φ' : Nat → List Nat := fun j => if j = id then F1 else if j ∈ u.map (·.1) then ψ j else φ j
 have hσid : σ' id = σ id := if_neg hidu
 have hσu : ∀ q, q ∈ u → σ' q.1 = ν q.1 := fun q hq => if_pos (ze hq)
 have hφid : φ' id = F1 := if_pos rfl
 have hφu : ∀ j, j ∈ u.map (·.1) → φ' j = ψ j := fun j hj => by
  have : j ≠ id := fun e => hidu (e ▸ hj)
  simp only [φ', if_neg this, if_pos hj]
 have hget : ∀ (U : List (Nat × Option La)) (j : Nat), j ∉ U.map (·.1) → Sb (U ++ s.hp) j = Sb s.hp j := by
  intro U j
  induction U with
  | nil => simp
  | cons q U ih =>
   intro hn
   simp only [yw, jp, not_or] at hn
   rw [yu, Id, if_neg (Ne.symm hn.1), ih hn.2]
 have hgetm : ∀ (U : List (Nat × Option La)), (U.map (·.1)).Nodup → ∀ q, q ∈ U → Sb (U ++ s.hp) q.1 = some q.2 := by
  intro U
  induction U with
  | nil => simp
  | cons r U ih =>
   intro hn q hp
   simp only [yw, yy] at hn
   rw [yu, Id]
   rcases jp.1 hp with rfl | hp
   ·rw [if_pos rfl]
   ·rw [if_neg (fun e : r.1 = q.1 => hn.1 (by rw [e]; exact ze hp)), ih hn.2 q hp]
 have hU : (((id, some (La.hol e xs i x p τ d)) :: u).map (·.1)).Nodup := by
  simp only [yw, yy]
  exact ⟨hidu, hnd⟩
 have hh1 : ∀ j, ¬ (j = id ∨ j ∈ u.map (·.1)) → AS.heap ⟨s.n, s.tm, ((id, some (La.hol e xs i x p τ d)) :: u) ++ s.hp⟩ j = s.heap j := fun j hj => by
  simp only [AS.heap]
  rw [hget _ j (by simpa using hj)]
 have hh2 : AS.heap ⟨s.n, s.tm, ((id, some (La.hol e xs i x p τ d)) :: u) ++ s.hp⟩ id = some (.hol e xs i x p τ d) := by
  simp only [AS.heap]
  rw [hgetm _ hU (id, some (.hol e xs i x p τ d)) (by simp)]
  rfl
 have hh3 : ∀ q, q ∈ u → AS.heap ⟨s.n, s.tm, ((id, some (La.hol e xs i x p τ d)) :: u) ++ s.hp⟩ q.1 = q.2 := fun q hq => by
  simp only [AS.heap]
  rw [hgetm _ hU q (by simp [hq])]
  rfl
 have hmemu : ∀ j, j ∈ u.map (·.1) → ∃ q, q ∈ u ∧ q.1 = j := fun j hj => by
  obtain ⟨q, hq, he⟩ := qv.1 hj
  exact ⟨q, hq, he⟩
 have hψ : ∀ j, j ∈ u.map (·.1) → ∀ c, c ∈ ψ j → c ∈ Fy := fun j hj c hc => by
  rw [← hbl]; exact Pb.2 ⟨j, hj, hc⟩
 have hin : ∀ j, (j = id ∨ j ∈ u.map (·.1)) → ∀ c, c ∈ φ' j → c ∈ φ id := by
  intro j hj c hc
  refine hperm.mem_iff.2 ?_
  rcases hj with rfl | hj
  ·rw [hφid] at hc
   exact yb _ hc
  ·rw [hφu j hj] at hc
   exact yc _ (hψ j hj c hc)
 have hrep' : ∀ hp' O', Gb w O' hp' σ' d (Ee cur (off + i * e.size + Nb e p) τ.size) := fun hp' O' => hrep w hp' σ' O' hσu
 refine ⟨cur, et, σ', φ', hh, hsz, ?_, hsh, hrep'⟩
 refine h.trans (fun j => j = id ∨ j ∈ u.map (·.1)) rfl rfl ?_ (fun _ _ _ => rfl) (jo _) ?_ ?_ ?_ ?_ rfl rfl rfl ?_
 ·intro j hj
  refine ⟨hh1 j hj, ?_, ?_⟩
  ·exact if_neg fun hm => hj (.inr hm)
  ·simp only [not_or] at hj
   simp only [φ', if_neg hj.1, if_neg hj.2]
 ·intro j blk' hj _ c hc
  exact .inr ⟨id, _, .inl rfl, hb, hin j hj c hc⟩
 ·intro j blk' hj hl hmj
  rcases hj with rfl | hj
  ·rw [hh2] at hl
   simp only [jc] at hl
   subst hl
   exact ⟨_, hb, by simp [La.like], hσid⟩
  ·obtain ⟨q, hq, rfl⟩ := hmemu j hj
   rw [hnm' q hq] at hmj
   simp at hmj
 ·intro j blk' hj hl
  rcases hj with rfl | hj
  ·rw [hh2] at hl
   simp only [jc] at hl
   subst hl
   rw [hφid]
   have hF1 : F1.Nodup := hndF.sublist (List.sublist_append_left _ _)
   refine ⟨⟨hsh, hi, ht, fun c hc => (h.hp _ _ hb).lt c (hperm.mem_iff.2 (yb _ hc)), b, off, cap, cur, et, hσid.trans hσ, hh, hbF, hsz, hrep' _ _, fun w' c' hc' hw hwb z Fz x' hz hs => ?_⟩, hF1⟩
   obtain ⟨F', hp', ho'⟩ := hwand (fun hm => ((List.Nodup.mem_erase_iff hF1).1 hm).1 rfl) w' c' hc' hw hwb z Fz x' hz hs
   exact ⟨F', hp', by rw [hσid, hσ]; exact ho'⟩
  ·obtain ⟨q, hq, rfl⟩ := hmemu j hj
   rw [hh3 q hq] at hl
   obtain ⟨e2, xs2, he2, hown2⟩ := hrows q hq
   rw [he2] at hl
   simp only [jc] at hl
   subst hl
   rw [hφu _ hj]
   refine ⟨?_, ?_⟩
   ·simp only [Hd]
    rw [hσu q hq]
    exact hown2
   ·have hs : (ψ q.1).Sublist Fy := by
     rw [← hbl]
     unfold Ha
     exact List.sublist_flatten_of_mem (ze hj)
    exact hs.nodup (hndF.sublist (List.sublist_append_right _ _))
 ·intro j j' b1 b2 hj hj' hne _ _ c hc hc'
  rw [yz] at hndF
  rcases hj with rfl | hj
  ·rcases hj' with e | hj'
   ·exact hne e.symm
   ·rw [hφid] at hc
    rw [hφu _ hj'] at hc'
    exact hndF.2.2 c hc c (hψ _ hj' c hc') rfl
  ·rcases hj' with rfl | hj'
   ·rw [hφid] at hc'
    rw [hφu _ hj] at hc
    exact hndF.2.2 c hc' c (hψ _ hj c hc) rfl
   ·rw [hφu _ hj] at hc
    rw [hφu _ hj'] at hc'
    have : ∀ (L : List Nat), (Ha ψ L).Nodup → j ∈ L → j' ∈ L → False := by
     intro L
     induction L with
     | nil => simp
     | cons z L ih =>
      intro hn hi hi'
      have hx : Ha ψ (z :: L) = ψ z ++ Ha ψ L := by simp [Ha]
      rw [hx, yz] at hn
      rcases jp.1 hi with e1 | q1
      ·rcases jp.1 hi' with e2 | q2
       ·exact hne (e1.trans e2.symm)
       ·exact hn.2.2 c (e1 ▸ hc) c (Pb.2 ⟨j', q2, hc'⟩) rfl
      ·rcases jp.1 hi' with e2 | q2
       ·exact hn.2.2 c (e2 ▸ hc') c (Pb.2 ⟨j, q1, hc⟩) rfl
       ·exact ih hn.2.1 q1 q2
    exact this _ (by rw [hbl]; exact hndF.2.1) hj hj'
 ·intro j hj
  rcases hj with rfl | hj
  ·exact .inl hσid
  ·obtain ⟨q, hq, rfl⟩ := hmemu j hj
   exact .inr (KE (hnew q hq))
theorem Gac {w : World} {O : Nat → Prop} {hp : Nat → Option La} {σ : Nat → Value} {id : Nat} {e : Ty} {xs : List (T e)} {F : List Nat} (h : Hd w O hp σ id (.row e true xs) F) : Hd w O hp σ id (.mov e xs 0) F := by
 simp only [Hd, Kc] at h
 obtain ⟨hm, ⟨h1, h2, h3⟩ | ⟨bl, off, cap, cur, et, Fs, h1, hh, h2, h3, h4, hF, hl, hv⟩⟩ := h
 ·simp only [yv, and_true] at h1
  exact ⟨hm, .inl ⟨h1, h2, h3⟩⟩
 ·simp only [yv, and_true] at h1
  exact ⟨hm, .inr ⟨bl, off, cap, cur, et, Fs, h1, hh, h2, h3, h4, hF, hl, fun i hi _ => hv i hi, fun i hi => by omega⟩⟩
theorem Bb.moveout (h : Bb n0 A O0 w0 s σ φ a w) {id : Nat} {e : Ty} {xs : List (T e)} {i : Nat} {x : T e} {Ia : La} {n m : Nat} {d : D} {u : List (Nat × Option La)}
 (hb : s.heap id = some Ia) (hlike : Ia.like (.mov e xs (i + 1))) (hmv : Hd w (OO O0 s φ) s.heap σ id (.mov e xs i) (φ id)) (hm : s.ment id = true) (hi : xs[i]? = some x)
 {b off cap : Nat} (hσ : σ id = .slice (some ⟨b, off, none⟩) (ja xs) cap) (ho : Ff e x n = (d, u, m)) (hu : Se s u = true) :
 ∃ cur et σ' φ', w.heap[b]? = some (.cells cur et (0, 0)) ∧ off + i * e.size + e.size ≤ cur.size ∧
  Bb n0 A O0 w0 ⟨s.n, s.tm, ((id, some (.mov e xs (i + 1))) :: u) ++ s.hp⟩ σ' φ' a w ∧ Kb e d ∧
  ∀ hp' O', Gb w O' hp' σ' d (Ee cur (off + i * e.size) e.size) := by
 obtain ⟨hlen, ⟨h1, _⟩ | ⟨bl, off', cap', cur, et, Fs, h1, hh, h2, h3, h4, hF, hl, hv, hk⟩⟩ := hmv
 ·rw [hσ] at h1; simp at h1
 rw [hσ] at h1
 simp only [Value.slice.injEq, jc, Addr.mk.injEq, and_true, true_and] at h1
 obtain ⟨⟨rfl, rfl⟩, rfl⟩ := h1
 have hil : i < ja xs := (yk.1 hi).1
 have hxe : List.get xs ⟨i, hil⟩ = x := by simpa [je hil] using hi
 have hcap := jm e.size h2
 have hlt : (i + 1) * e.size ≤ ja xs * e.size := jm _ hil
 rw [yr, yt] at hlt
 have hoy := hv i hil (jo _)
 rw [hxe] at hoy
 have hiF : i < Fs.length := by omega
 obtain ⟨F1, hF1e⟩ : ∃ F1, F1 = b :: (Fs.set i []).flatten := ⟨_, rfl⟩
 obtain ⟨Fy, hFye⟩ : ∃ Fy, Fy = Fs.getD i [] := ⟨_, rfl⟩
 rw [← hFye] at hoy
 have hsz : off + i * e.size + e.size ≤ cur.size := by omega
 have hperm : (φ id).Perm (F1 ++ Fy) := by
  obtain ⟨g1, g2⟩ := SH hiF []
  rw [hF, hF1e, hFye, g2, g1, List.perm_iff_count]
  intro c
  simp only [List.count_append, List.count_cons, List.count_nil]
  omega
 obtain ⟨hnm, hrange, hsh, ψ, ν, hbl, hrows, hrep⟩ := FA ho hoy
 obtain ⟨hnew, hnd⟩ := RC hu
 have hnm' : ∀ q, q ∈ u → s.ment q.1 = false := fun q hq => by
  have := hnew q hq
  simp only [AS.newOk, jd, yx] at this
  exact this.1
 have hidu : id ∉ u.map (·.1) := fun hid => by
  obtain ⟨q, hq, he⟩ := qv.1 hid
  rw [← he, hnm' q hq] at hm
  simp at hm
 have hndF : (F1 ++ Fy).Nodup := hperm.nodup_iff.1 (h.nodup id _ hb)
 let σ' : Nat → Value := fun j => if j ∈ u.map (·.1) then ν j else σ j
 let φ' : Nat → List Nat := fun j => if j = id then F1 else if j ∈ u.map (·.1) then ψ j else φ j
 have hσid : σ' id = σ id := if_neg hidu
 have hσu : ∀ q, q ∈ u → σ' q.1 = ν q.1 := fun q hq => if_pos (ze hq)
 have hφid : φ' id = F1 := if_pos rfl
 have hφu : ∀ j, j ∈ u.map (·.1) → φ' j = ψ j := fun j hj => by
  have : j ≠ id := fun e => hidu (e ▸ hj)
  simp only [φ', if_neg this, if_pos hj]
 have hget : ∀ (U : List (Nat × Option La)) (j : Nat), j ∉ U.map (·.1) → Sb (U ++ s.hp) j = Sb s.hp j := by
  intro U j
  induction U with
  | nil => simp
  | cons q U ih =>
   intro hn
   simp only [yw, jp, not_or] at hn
   rw [yu, Id, if_neg (Ne.symm hn.1), ih hn.2]
 have hgetm : ∀ (U : List (Nat × Option La)), (U.map (·.1)).Nodup → ∀ q, q ∈ U → Sb (U ++ s.hp) q.1 = some q.2 := by
  intro U
  induction U with
  | nil => simp
  | cons r U ih =>
   intro hn q hp
   simp only [yw, yy] at hn
   rw [yu, Id]
   rcases jp.1 hp with rfl | hp
   ·rw [if_pos rfl]
   ·rw [if_neg (fun e : r.1 = q.1 => hn.1 (by rw [e]; exact ze hp)), ih hn.2 q hp]
 have hU : (((id, some (La.mov e xs (i + 1))) :: u).map (·.1)).Nodup := by
  simp only [yw, yy]
  exact ⟨hidu, hnd⟩
 have hh1 : ∀ j, ¬ (j = id ∨ j ∈ u.map (·.1)) → AS.heap ⟨s.n, s.tm, ((id, some (La.mov e xs (i + 1))) :: u) ++ s.hp⟩ j = s.heap j := fun j hj => by
  simp only [AS.heap]
  rw [hget _ j (by simpa using hj)]
 have hh2 : AS.heap ⟨s.n, s.tm, ((id, some (La.mov e xs (i + 1))) :: u) ++ s.hp⟩ id = some (.mov e xs (i + 1)) := by
  simp only [AS.heap]
  rw [hgetm _ hU (id, some (.mov e xs (i + 1))) (by simp)]
  rfl
 have hh3 : ∀ q, q ∈ u → AS.heap ⟨s.n, s.tm, ((id, some (La.mov e xs (i + 1))) :: u) ++ s.hp⟩ q.1 = q.2 := fun q hq => by
  simp only [AS.heap]
  rw [hgetm _ hU q (by simp [hq])]
  rfl
 have hmemu : ∀ j, j ∈ u.map (·.1) → ∃ q, q ∈ u ∧ q.1 = j := fun j hj => by
  obtain ⟨q, hq, he⟩ := qv.1 hj
  exact ⟨q, hq, he⟩
 have hψ : ∀ j, j ∈ u.map (·.1) → ∀ c, c ∈ ψ j → c ∈ Fy := fun j hj c hc => by
  rw [← hbl]; exact Pb.2 ⟨j, hj, hc⟩
 have hin : ∀ j, (j = id ∨ j ∈ u.map (·.1)) → ∀ c, c ∈ φ' j → c ∈ φ id := by
  intro j hj c hc
  refine hperm.mem_iff.2 ?_
  rcases hj with rfl | hj
  ·rw [hφid] at hc
   exact yb _ hc
  ·rw [hφu j hj] at hc
   exact yc _ (hψ j hj c hc)
 have hrep' : ∀ hp' O', Gb w O' hp' σ' d (Ee cur (off + i * e.size) e.size) := fun hp' O' => hrep w hp' σ' O' hσu
 refine ⟨cur, et, σ', φ', hh, hsz, ?_, hsh, hrep'⟩
 refine h.trans (fun j => j = id ∨ j ∈ u.map (·.1)) rfl rfl ?_ (fun _ _ _ => rfl) (jo _) ?_ ?_ ?_ ?_ rfl rfl rfl ?_
 ·intro j hj
  refine ⟨hh1 j hj, ?_, ?_⟩
  ·exact if_neg fun hm => hj (.inr hm)
  ·simp only [not_or] at hj
   simp only [φ', if_neg hj.1, if_neg hj.2]
 ·intro j blk' hj _ c hc
  exact .inr ⟨id, _, .inl rfl, hb, hin j hj c hc⟩
 ·intro j blk' hj hl hmj
  rcases hj with rfl | hj
  ·rw [hh2] at hl
   simp only [jc] at hl
   subst hl
   exact ⟨_, hb, hlike, hσid⟩
  ·obtain ⟨q, hq, rfl⟩ := hmemu j hj
   rw [hnm' q hq] at hmj
   simp at hmj
 ·intro j blk' hj hl
  rcases hj with rfl | hj
  ·rw [hh2] at hl
   simp only [jc] at hl
   subst hl
   rw [hφid]
   have hF1 : F1.Nodup := hndF.sublist (List.sublist_append_left _ _)
   refine ⟨⟨hlen, .inr ⟨b, off, cap, cur, et, Fs.set i [], hσid.trans hσ, hh, h2, h3, h4, hF1e, by rw [List.length_set]; exact hl, fun j hj hij => ?_, fun j hj => ?_⟩⟩, hF1⟩
   ·have hne : j ≠ i := by omega
    have : (Fs.set i []).getD j [] = Fs.getD j [] := by simp [q9, Ne.symm hne]
    rw [this]
    exact hv j hj (by omega)
   ·by_cases hji : j = i
    ·subst hji; simp [q9, hiF]
    ·have : (Fs.set i []).getD j [] = Fs.getD j [] := by simp [q9, Ne.symm hji]
     rw [this]
     exact hk j (by omega)
  ·obtain ⟨q, hq, rfl⟩ := hmemu j hj
   rw [hh3 q hq] at hl
   obtain ⟨e2, xs2, he2, hown2⟩ := hrows q hq
   rw [he2] at hl
   simp only [jc] at hl
   subst hl
   rw [hφu _ hj]
   refine ⟨?_, ?_⟩
   ·simp only [Hd]
    rw [hσu q hq]
    exact hown2
   ·have hs : (ψ q.1).Sublist Fy := by
     rw [← hbl]
     unfold Ha
     exact List.sublist_flatten_of_mem (ze hj)
    exact hs.nodup (hndF.sublist (List.sublist_append_right _ _))
 ·intro j j' b1 b2 hj hj' hne _ _ c hc hc'
  rw [yz] at hndF
  rcases hj with rfl | hj
  ·rcases hj' with e | hj'
   ·exact hne e.symm
   ·rw [hφid] at hc
    rw [hφu _ hj'] at hc'
    exact hndF.2.2 c hc c (hψ _ hj' c hc') rfl
  ·rcases hj' with rfl | hj'
   ·rw [hφid] at hc'
    rw [hφu _ hj] at hc
    exact hndF.2.2 c hc' c (hψ _ hj c hc) rfl
   ·rw [hφu _ hj] at hc
    rw [hφu _ hj'] at hc'
    have : ∀ (L : List Nat), (Ha ψ L).Nodup → j ∈ L → j' ∈ L → False := by
     intro L
     induction L with
     | nil => simp
     | cons z L ih =>
      intro hn hi hi'
      have hx : Ha ψ (z :: L) = ψ z ++ Ha ψ L := by simp [Ha]
      rw [hx, yz] at hn
      rcases jp.1 hi with e1 | q1
      ·rcases jp.1 hi' with e2 | q2
       ·exact hne (e1.trans e2.symm)
       ·exact hn.2.2 c (e1 ▸ hc) c (Pb.2 ⟨j', q2, hc'⟩) rfl
      ·rcases jp.1 hi' with e2 | q2
       ·exact hn.2.2 c (e2 ▸ hc') c (Pb.2 ⟨j, q1, hc⟩) rfl
       ·exact ih hn.2.1 q1 q2
    exact this _ (by rw [hbl]; exact hndF.2.1) hj hj'
 ·intro j hj
  rcases hj with rfl | hj
  ·exact .inl hσid
  ·obtain ⟨q, hq, rfl⟩ := hmemu j hj
   exact .inr (KE (hnew q hq))
theorem QM {α : Type} {b : Bool} {x : Option α} {y : α} : (bif b then x else none) = some y ↔ b = true ∧ x = some y := by cases b <;> simp
theorem Jam (h : Bb n0 A O0 w0 s σ φ a w) {id : Nat} {s' : AS} (he : s.attach id = some s') : ∃ φ', Bb n0 A O0 w0 s' σ φ' a w := by
 unfold AS.attach at he
 split at he
 ·rename_i e xs i x path τ d hb
  split at he
  ·rename_i y l hy
   cases hnd : Rh (id :: l) with
   | false => simp [hnd] at he
   | true =>
    simp only [hnd, zz] at he
    split at he
    ·rename_i x' hx'
     simp only [jc] at he
     subst he
     have hnd := Wj hnd
     obtain ⟨hsh, hi, ht, hlt, bl, off, cap, cur, et, hσ, hh, hbF, hsz, hrep, hwand⟩ := h.hp id _ hb
     obtain ⟨hown, hlive⟩ := Bq h hy hrep
     have hle := Ej ht
     have hcl : cur.toList.length = cur.size := Array.length_toList
     have hsame : Hc cur.toList (off + i * e.size + Nb e path) (Ee cur (off + i * e.size + Nb e path) τ.size) = cur.toList := Lad (by omega)
     obtain ⟨F', hperm, hown'⟩ := hwand w _ (Ie (by omega)) (fun _ _ _ => rfl) (by rw [hsame]; exact hh) y _ x' hown hx'
     have hFF : (φ id ++ Ha φ l).Nodup := by
      have := Vh h hnd (by
       intro j hj
       rcases jp.1 hj with rfl | hj
       ·exact ⟨_, hb⟩
       ·exact hlive j hj)
      simpa [Ha] using this
     refine ⟨_, h.turn (blk0 := .hol e xs i x path τ d) (Ia := .row e true (qa xs i x')) hb (by simp [La.like]) l hlive (yy.1 hnd).1 F' (jo _) (fun _ _ _ _ => rfl) rfl rfl rfl (hperm.nodup_iff.2 hFF) ?_ ?_⟩
     ·intro c hc
      rcases jl.1 (hperm.mem_iff.1 hc) with hc | hc
      ·exact .inr (.inl hc)
      ·exact .inr (.inr (Pb.1 hc))
     ·intro hp' O' _ _
      exact hown'
    ·simp at he
  ·simp at he
 ·simp only [jc] at he
  subst he
  exact ⟨φ, h⟩
theorem VX {α β : Type} (f : α → β) : ∀ (l : List (Nat × α)) (k : Nat), Sb (l.map fun p => (p.1, f p.2)) k = (Sb l k).map f
 | [], k => rfl
 | (j, a) :: r, k => by
  rw [yw, Id, Id]
  split
  ·rfl
  ·exact VX f r k
theorem BZ {id : Nat} {τ : Ty} {x : T τ} (b : La) : (b.frz id τ x).rowN = b.rowN := by cases b <;> rfl
theorem Uan {id : Nat} {τ : Ty} {x : T τ} (d : D) : (d.frz id τ x).isAgg = d.isAgg := by
 cases d with
 | own j =>
  simp only [D.frz]
  cases yd j id with
  | false => rfl
  | true => cases τ <;> rfl
 | mpo j =>
  simp only [D.frz]
  cases yd j id with
  | false => rfl
  | true => cases τ <;> rfl
 | _ => rfl
section
variable {O O' : Nat → Prop} {hp hp' : Nat → Option La} {id : Nat} {ζ : Ty} {xs : T ζ}
theorem Gb.frz (hsl : ζ.isSl = true → ∃ b0 r, hp id = some b0 ∧ b0.rowN = some r) (hmp : ζ.isMp = true → ∃ k m ys, hp id = some (.mp k m ys)) (hn : hp' id = none) (hh : ∀ j, j ≠ id → hp' j = (hp j).map (La.frz id ζ xs)) (hO : ∀ b, O' b → O b) (hv : Ta w O' ζ xs [σ id]) :
 ∀ (d : D) (cs : List Value), Gb w O hp σ d cs → Gb w O' hp' σ (d.frz id ζ xs) cs
 | .und, cs, h => h
 | .anyv, cs, h => h
 | .t τ x, cs, h => Ta.weaken hO h
 | .nil, cs, h => h
 | .own j, cs, h => by
  obtain ⟨v, hcs, h1, h2⟩ := h
  simp only [D.frz]
  cases hj : yd j id && ζ.isSl with
  | true =>
   simp only [jd] at hj
   have := ju hj.1
   subst this
   obtain ⟨b0, r, hb0, hr⟩ := hsl hj.2
   rw [hcs, h2 _ _ hb0 hr]
   exact hv
  | false =>
   refine ⟨v, hcs, h1, fun Ia r hl hr => ?_⟩
   by_cases hne : j = id
   ·subst hne; rw [hn] at hl; simp at hl
   rw [hh j hne, zh] at hl
   obtain ⟨b0, hb0, rfl⟩ := hl
   rw [BZ] at hr
   exact h2 b0 r hb0 hr
 | .mpo j, cs, h => by
  obtain ⟨v, hcs, h1, h2⟩ := h
  simp only [D.frz]
  cases hj : yd j id && ζ.isMp with
  | true =>
   simp only [jd] at hj
   have := ju hj.1
   subst this
   obtain ⟨k, m, ys, hb0⟩ := hmp hj.2
   rw [hcs, h2 _ _ _ hb0]
   exact hv
  | false =>
   refine ⟨v, hcs, h1, fun k m ys hl => ?_⟩
   by_cases hne : j = id
   ·subst hne; rw [hn] at hl; simp at hl
   rw [hh j hne, zh] at hl
   obtain ⟨b0, hb0, hbe⟩ := hl
   cases b0 with
   | mp k' m' ys' => simp only [La.frz] at hbe; exact h2 _ _ _ hb0
   | _ => simp [La.frz] at hbe
 | .cut j lo hi, cs, h => by
  obtain ⟨v, hcs, h1, h2⟩ := h
  refine ⟨v, hcs, h1, fun Ia e' n hl hr => ?_⟩
  by_cases hne : j = id
  ·subst hne; rw [hn] at hl; simp at hl
  rw [hh j hne, zh] at hl
  obtain ⟨b0, hb0, rfl⟩ := hl
  rw [BZ] at hr
  exact h2 b0 e' n hb0 hr
 | .ptr j path, cs, h => by
  obtain ⟨v, hcs, h1, h2⟩ := h
  refine ⟨v, hcs, h1, fun ρ d hl => ?_⟩
  by_cases hne : j = id
  ·subst hne; rw [hn] at hl; simp at hl
  rw [hh j hne, zh] at hl
  obtain ⟨b0, hb0, hbe⟩ := hl
  cases b0 with
  | box ρ' d' =>
   simp only [La.frz, La.box.injEq] at hbe
   rw [← hbe.1]
   exact h2 ρ' d' hb0
  | _ => simp [La.frz] at hbe
 | .eptr j i path, cs, h => by
  obtain ⟨v, hcs, h1, h2⟩ := h
  refine ⟨v, hcs, h1, fun Ia e' n hl hr => ?_⟩
  by_cases hne : j = id
  ·subst hne; rw [hn] at hl; simp at hl
  rw [hh j hne, zh] at hl
  obtain ⟨b0, hb0, rfl⟩ := hl
  rw [BZ] at hr
  exact h2 b0 e' n hb0 hr
 | .rp τ x, cs, h => by
  obtain ⟨b, off, cur, et, fr, hcs, hb', hh', hs, hvw⟩ := h
  exact ⟨b, off, cur, et, fr, hcs, fun h => hb' (hO _ h), hh', hs, Ta.weaken hO hvw⟩
 | .pr a b, cs, h => by
  obtain ⟨c1, c2, h0, h1, h2⟩ := h
  exact ⟨c1, c2, h0, Gb.frz hsl hmp hn hh hO hv a c1 h1, Gb.frz hsl hmp hn hh hO hv b c2 h2⟩
 | .un, cs, h => h
 | .tup d, cs, h => h
theorem Pf.frz (hsl : ζ.isSl = true → ∃ b0 r, hp id = some b0 ∧ b0.rowN = some r) (hmp : ζ.isMp = true → ∃ k m ys, hp id = some (.mp k m ys)) (hn : hp' id = none) (hh : ∀ j, j ≠ id → hp' j = (hp j).map (La.frz id ζ xs)) (hO : ∀ b, O' b → O b) (hv : Ta w O' ζ xs [σ id])
 {d : D} {v : Value} (h : Pf w O hp σ d v) : Pf w O' hp' σ (d.frz id ζ xs) v := by
 unfold Pf at *
 rw [Uan]
 split
 ·rename_i ha
  rw [if_pos ha] at h
  obtain ⟨cs, h1, h2⟩ := h
  exact ⟨cs, h1, Gb.frz hsl hmp hn hh hO hv d _ h2⟩
 ·rename_i ha
  rw [if_neg ha] at h
  exact Gb.frz hsl hmp hn hh hO hv d _ h
theorem Mh.frz (hsl : ζ.isSl = true → ∃ b0 r, hp id = some b0 ∧ b0.rowN = some r) (hmp : ζ.isMp = true → ∃ k m ys, hp id = some (.mp k m ys)) (hn : hp' id = none) (hh : ∀ j, j ≠ id → hp' j = (hp j).map (La.frz id ζ xs)) (hO : ∀ b, O' b → O b) (hv : Ta w O' ζ xs [σ id]) :
 ∀ (d : D) (vs : List Value), Mh w O hp σ d vs → Mh w O' hp' σ (d.frz id ζ xs) vs
 | .pr a b, v :: vs, h => ⟨Pf.frz hsl hmp hn hh hO hv h.1, Mh.frz hsl hmp hn hh hO hv b vs h.2⟩
 | .un, [], _ => trivial
 | .pr _ _, [], h => h.elim
 | .un, _ :: _, h => h.elim
 | .und, _, h => by simp [Mh] at h
 | .anyv, _, h => by simp [Mh] at h
 | .t _ _, _, h => by simp [Mh] at h
 | .nil, _, h => by simp [Mh] at h
 | .own _, _, h => by simp [Mh] at h
 | .mpo _, _, h => by simp [Mh] at h
 | .ptr _ _, _, h => by simp [Mh] at h
 | .eptr _ _ _, _, h => by simp [Mh] at h
 | .rp _ _, _, h => by simp [Mh] at h
 | .tup _, _, h => by simp [Mh] at h
theorem Pd.frz (hsl : ζ.isSl = true → ∃ b0 r, hp id = some b0 ∧ b0.rowN = some r) (hmp : ζ.isMp = true → ∃ k m ys, hp id = some (.mp k m ys)) (hn : hp' id = none) (hh : ∀ j, j ≠ id → hp' j = (hp j).map (La.frz id ζ xs)) (hO : ∀ b, O' b → O b) (hv : Ta w O' ζ xs [σ id])
 {d : D} {v : Value} (h : Pd w O hp σ d v) : Pd w O' hp' σ (d.frz id ζ xs) v := by
 cases d with
 | tup ds =>
  obtain ⟨vs, h1, h2⟩ := h
  exact ⟨vs, h1, Mh.frz hsl hmp hn hh hO hv ds _ h2⟩
 | und => exact h
 | anyv => exact h
 | _ => exact HA (Pf.frz hsl hmp hn hh hO hv h)
end
theorem B6 (hA : NoA A s φ) (h : Bb n0 A O0 w0 s σ φ a w) {id : Nat} {ζ : Ty} {xs : T ζ} {b0 : La} (hb : s.heap id = some b0) (hnb : ∀ ρ d, b0 ≠ .box ρ d) (hsl : ζ.isSl = true → ∃ b0 r, s.heap id = some b0 ∧ b0.rowN = some r) (hmp : ζ.isMp = true → ∃ k m ys, s.heap id = some (.mp k m ys))
 (hfz : ∀ O' : Nat → Prop, (∀ b, O' b → OO O0 s φ b) → (∀ b, b ∈ φ id → ¬ O' b) → Ta w O' ζ xs [σ id])
 (hsh : ((s.hp.map fun p => (p.1, p.2.map (La.frz id ζ xs))).all fun p => (p.2.map La.shaped).getD true) = true) :
 Bb n0 A O0 w0 ⟨s.n, s.tm.map fun p => (p.1, p.2.frz id ζ xs), (id, none) :: s.hp.map fun p => (p.1, p.2.map (La.frz id ζ xs))⟩ σ φ a w := by
 have hheap : ∀ j, AS.heap ⟨s.n, s.tm.map fun p => (p.1, p.2.frz id ζ xs), (id, none) :: s.hp.map fun p => (p.1, p.2.map (La.frz id ζ xs))⟩ j = if j = id then none else (s.heap j).map (La.frz id ζ xs) := by
  intro j
  simp only [AS.heap, Id]
  by_cases hj : id = j
  ·subst hj; simp
  ·rw [if_neg hj, if_neg (Ne.symm hj), VX]
   cases Sb s.hp j with
   | none => rfl
   | some o => cases o <;> rfl
 generalize hs' : (⟨s.n, s.tm.map fun p => (p.1, p.2.frz id ζ xs), (id, none) :: s.hp.map fun p => (p.1, p.2.map (La.frz id ζ xs))⟩ : AS) = s' at hheap
 have hback : ∀ j Ia, s'.heap j = some Ia → j ≠ id ∧ ∃ b0, s.heap j = some b0 ∧ Ia = b0.frz id ζ xs := by
  intro j Ia hl
  rw [hheap] at hl
  split at hl
  ·simp at hl
  ·rename_i hne
   obtain ⟨b0, h1, h2⟩ := zh.1 hl
   exact ⟨hne, b0, h1, h2.symm⟩
 have hO : ∀ b, OO O0 s' φ b → OO O0 s φ b := by
  rintro b (ho | ⟨j, Ia, hl, hm⟩)
  ·exact .inl ho
  ·obtain ⟨_, b0, h1, _⟩ := hback j Ia hl
   exact .inr ⟨j, b0, h1, hm⟩
 have hF : ∀ b, b ∈ φ id → ¬ OO O0 s' φ b := by
  rintro b hm (ho | ⟨j, Ia, hl, hm'⟩)
  ·rcases h.fresh id _ hb b hm with hge | hA'
   ·have := h.o0 b ho; omega
   ·exact hA id _ hb hnb b hm hA'
  ·obtain ⟨hne, b0, h1, _⟩ := hback j Ia hl
   exact h.disj id j _ b0 (Ne.symm hne) hb h1 b hm hm'
 have hv := hfz (OO O0 s' φ) hO hF
 have hn' : s'.heap id = none := by rw [hheap, if_pos rfl]
 have hh' : ∀ j, j ≠ id → s'.heap j = (s.heap j).map (La.frz id ζ xs) := fun j hj => by rw [hheap, if_neg hj]
 refine ⟨by subst hs'; exact h.sz, h.df, ?_, ?_, ?_, ?_, ?_, h.o0, h.fr, h.pin, h.iv0, h.ivw⟩
 ·intro t d hd
  subst hs'
  simp only at hd
  rw [VX, zh] at hd
  obtain ⟨d0, hd0, rfl⟩ := hd
  obtain ⟨v, hv1, hr⟩ := h.tm t d0 hd0
  exact ⟨v, hv1, Pd.frz hsl hmp hn' hh' hO hv hr⟩
 ·intro j Ia hl
  obtain ⟨hne, b0, h1, rfl⟩ := hback j Ia hl
  have hsb : (b0.frz id ζ xs).shaped = true := by
   have hm := AS.heap_mem hl
   subst hs'
   simp only [jp, jh] at hm
   rcases hm with ⟨_, hx⟩ | hm
   ·simp at hx
   ·have := zg.1 hsh _ hm
    simpa using this
  have hbr := h.hp j b0 h1
  cases b0 with
  | box ρ d =>
   obtain ⟨_, b, cur, et, g1, g2, g3, g4, g5⟩ := hbr
   exact ⟨Ao hsb, b, cur, et, g1, g2, g3, Gb.frz hsl hmp hn' hh' hO hv d _ g4, g5⟩
  | row e' dp' xs' =>
   cases dp' with
   | true => exact hbr
   | false =>
    obtain ⟨hm, g | ⟨bl, off, cap, cur, et, g1, g2, g3, g4, g5, g6, g7⟩⟩ := hbr
    ·exact ⟨hm, .inl g⟩
    ·exact ⟨hm, .inr ⟨bl, off, cap, cur, et, g1, g2, g3, g4, g5, g6, fun i hi => (g7 i hi).weaken hO⟩⟩
  | hol e' xs' i x p τ d =>
   obtain ⟨_, g1, g2, g3, bl, off, cap, cur, et, g4, g5, g6, g7, g8, g9⟩ := hbr
   exact ⟨Ao hsb, g1, g2, g3, bl, off, cap, cur, et, g4, g5, g6, g7, Gb.frz hsl hmp hn' hh' hO hv d _ g8, g9⟩
  | mov e' xs' k => exact hbr
  | mp k m ys =>
   obtain ⟨r, es, clk, g1, g2, g3, g4, g5⟩ := hbr
   refine ⟨r, es, clk, g1, g2, g3, g4, fun i hi => ?_⟩
   obtain ⟨e, ck, cv, q1, q2, q3, q4, q5⟩ := g5 i hi
   exact ⟨e, ck, cv, q1, q2, q3, q4.weaken hO, q5.weaken hO⟩
 ·intro j Ia hl
  obtain ⟨_, b0, h1, _⟩ := hback j Ia hl
  exact h.nodup j b0 h1
 ·intro j j' Ia blk' hne hl hl'
  obtain ⟨_, b0, h1, _⟩ := hback j Ia hl
  obtain ⟨_, b1, h2, _⟩ := hback j' blk' hl'
  exact h.disj j j' b0 b1 hne h1 h2
 ·intro j Ia hl
  obtain ⟨_, b0, h1, _⟩ := hback j Ia hl
  exact h.fresh j b0 h1
theorem Rak {k m : Ty} {xs : List (T k × T m)} {O O' : Nat → Prop} {hp : Nat → Option La} {id : Nat} {F : List Nat} (h : Hd w O hp σ id (.mp k m xs) F) (hO : ∀ b, O' b → O b) (hF : ∀ b, b ∈ F → ¬ O' b) : Ta w O' (.mp k m) xs [σ id] := by
 obtain ⟨r, es, clk, g1, g2, g3, g4, g5⟩ := h
 subst g3
 refine .inr ⟨r, es, clk, by rw [g1], hF r (by simp), g2, g4, fun i hi => ?_⟩
 obtain ⟨e, ck, cv, q1, q2, q3, q4, q5⟩ := g5 i hi
 exact ⟨e, ck, cv, q1, q2, q3, q4.weaken hO, q5.weaken hO⟩
theorem Lan (hA : NoA A s φ) (h : Bb n0 A O0 w0 s σ φ a w) {id : Nat} {s' : AS} (he : s.freeze id = some s') : Bb n0 A O0 w0 s' σ φ a w := by
 unfold AS.freeze at he
 split at he
 ·rename_i e dp xs hb
  simp only [QM] at he
  obtain ⟨hsh, he⟩ := he
  simp only [jc] at he
  subst he
  exact B6 hA h hb (fun _ _ e => by simp at e) (ζ := .sl e) (xs := xs) (fun _ => ⟨_, _, hb, rfl⟩) (fun h => by simp [Ty.isMp] at h) (fun O' hO hF => V2 (h.hp id _ hb) hO hF) hsh
 ·rename_i k m xs hb
  simp only [QM] at he
  obtain ⟨hsh, he⟩ := he
  simp only [jc] at he
  subst he
  exact B6 hA h hb (fun _ _ e => by simp at e) (ζ := .mp k m) (xs := xs) (fun h => by simp [Ty.isSl] at h) (fun _ => ⟨_, _, _, hb⟩) (fun O' hO hF => Rak (h.hp id _ hb) hO hF) hsh
 ·simp only [jc] at he
  subst he
  exact h
theorem Bad (hA : NoA A s φ) (h : Bb n0 A O0 w0 s σ φ a w) (id : Nat) : ∃ φ', Bb n0 A O0 w0 (s.frzParts id) σ φ' a w := by
 unfold AS.frzParts
 split
 ·rename_i e xs hb
  have hO : Kc w (.sl e) xs [σ id] (φ id) := h.hp id _ hb
  have hnd := h.nodup id _ hb
  have hNA := hA id _ hb (fun _ _ e => by simp at e)
  have hfr := h.fresh id _ hb
  have hlt := hO.lt
  let s' : AS := ⟨s.n, s.tm, (id, some (.row e false xs)) :: s.hp⟩
  have hheap : ∀ j, s'.heap j = if j = id then some (.row e false xs) else s.heap j := by
   intro j
   simp only [s', AS.heap, Id]
   by_cases hj : id = j
   ·subst hj; simp
   ·rw [if_neg hj, if_neg (Ne.symm hj)]
  obtain ⟨G, hG1, hG2, hG3⟩ : ∃ G : List Nat, (∀ b, b ∈ G → b ∈ φ id) ∧ G.Nodup ∧ ∀ O' : Nat → Prop, (∀ b, b ∈ φ id → b ∉ G → ¬ O' b) → (ja xs ≤ Xk ∧ ((σ id = .slice none 0 0 ∧ xs = ([] : List (T e)) ∧ G = []) ∨
   ∃ bl off cap cur et, σ id = .slice (some ⟨bl, off, none⟩) (ja xs) cap ∧ w.heap[bl]? = some (.cells cur et (0, 0)) ∧
    ja xs ≤ cap ∧ cap ≤ Xk ∧ off + cap * e.size ≤ cur.size ∧ G = [bl] ∧
    ∀ i (h : i < ja xs), Ta w O' e (List.get xs ⟨i, h⟩) (Ee cur (off + i * e.size) e.size))) := by
   obtain ⟨hm, ⟨h1, h2, h3⟩ | ⟨bl, off, cap, cur, et, Fs, h1, hh, h2, h3, h4, hF, hFs, hv⟩⟩ := hO
   ·exact ⟨[], by simp, List.nodup_nil, fun O' _ => ⟨hm, .inl ⟨by simpa using h1, h2, rfl⟩⟩⟩
   ·rw [hF] at hnd ⊢
    rw [yy] at hnd
    refine ⟨[bl], by simp, by simp, fun O' hO' => ⟨hm, .inr ⟨bl, off, cap, cur, et, by simpa using h1, hh, h2, h3, h4, rfl, fun i hi => Kc.view (hv i hi) fun b hb => ?_⟩⟩⟩
    have hmem : b ∈ List.flatten Fs := by
     have : Fs.getD i [] ∈ Fs := by
      rw [qj, je (by omega)]
      exact qt _
     exact List.mem_flatten.2 ⟨_, this, hb⟩
    refine hO' b (jr _ hmem) fun hb' => ?_
    simp only [qg] at hb'
    subst hb'
    exact hnd.1 hmem
  let φ' : Nat → List Nat := fun j => if j = id then G else φ j
  have hφ : φ' id = G := if_pos rfl
  have hOO : ∀ b, b ∈ φ id → b ∉ G → ¬ OO O0 s' φ' b := by
   rintro b hm hng (ho | ⟨j, Ia, hl, hm'⟩)
   ·rcases hfr b hm with hge | hA'
    ·have := h.o0 b ho; omega
    ·exact hNA b hm hA'
   ·rw [hheap] at hl
    by_cases hj : j = id
    ·subst hj
     rw [hφ] at hm'
     exact hng hm'
    ·rw [if_neg hj] at hl
     simp only [φ', if_neg hj] at hm'
     exact h.disj id j _ Ia (Ne.symm hj) hb hl b hm hm'
  refine ⟨φ', ?_⟩
  show Bb n0 A O0 w0 s' σ φ' a w
  refine h.trans (· = id) rfl rfl (fun j hj => ⟨by rw [hheap, if_neg hj], rfl, if_neg hj⟩) (fun _ _ _ => rfl) (jo _) ?_ ?_ ?_ ?_ rfl rfl rfl (fun _ _ => .inl rfl)
  ·rintro j Ia rfl _ b hm
   rw [hφ] at hm
   exact .inr ⟨j, _, rfl, hb, hG1 b hm⟩
  ·rintro j Ia rfl hl _
   rw [hheap, if_pos rfl] at hl
   simp only [jc] at hl
   subst hl
   exact ⟨_, hb, ⟨rfl, rfl⟩, rfl⟩
  ·rintro j Ia rfl hl
   rw [hheap, if_pos rfl] at hl
   simp only [jc] at hl
   subst hl
   rw [hφ]
   exact ⟨hG3 _ hOO, hG2⟩
  ·rintro j j' _ _ rfl rfl hne
   exact absurd rfl hne
 ·exact ⟨φ, h⟩
theorem PG {fz bm : Bool} (hfz : fz = true → (∀ b, ¬ A.A b) ∨ (bm = true ∧ ∀ c, A.A c → A.pin 500000 = some (.pointer (some ⟨c, 0, none⟩)))) : ∀ {l : List (Nat × Nat)} {n : Nat} {s s' : AS} {φ : Nat → List Nat}, Bb n0 A O0 w0 s σ φ a w → BO fz bm l n s = some s' → ∃ φ', Bb n0 A O0 w0 s' σ φ' a w
 | [], n, s, s', φ, h, he => by
  simp only [BO, jc] at he
  subst he
  exact ⟨φ, h⟩
 | (r, id) :: l, n, s, s', φ, h, he => by
  simp only [BO] at he
  cases hr : yd r n with
  | false => rw [hr] at he; exact PG hfz h he
  | true =>
   rw [hr] at he
   simp only [zz] at he
   cases hq : jx 1000000000 id with
   | false =>
    rw [hq] at he
    simp only [ua] at he
    split at he
    ·rename_i s1 h1
     obtain ⟨φ1, hc⟩ := Jam h h1
     exact PG hfz hc he
    ·simp at he
   | true =>
    rw [hq] at he
    simp only [zz] at he
    cases hz : (fz && (!bm || s.boxLive)) with
    | false => rw [hz] at he; simp at he
    | true =>
     rw [hz] at he
     simp only [jd] at hz
     have hN := noA (hfz hz.1) hz.2 h
     simp only [zz] at he
     cases hq2 : jx 2000000000 id with
     | true =>
      rw [hq2] at he
      simp only [zz] at he
      obtain ⟨φ1, hc⟩ := Bad hN h (id - 2000000000)
      exact PG hfz hc he
     | false =>
      rw [hq2] at he
      simp only [ua] at he
      split at he
      ·rename_i s1 h1
       exact PG hfz (Lan hN h h1) he
      ·simp at he
theorem Eah : ∀ {n : Nat} {e τ : Ty} {x : T e} {y : D}, Ua e n = some τ → (D.t e x).field n = some y → ∃ z : T τ, y = .t τ z
 | 0, .p a c, τ, x, y, ht, hy => by
  simp only [Ua, jc] at ht
  subst ht
  simp only [D.field, D.fst, jc] at hy
  exact ⟨x.1, hy.symm⟩
 | n + 1, .p a c, τ, x, y, ht, hy => by
  simp only [D.field, D.snd] at hy
  exact Eah (e := c) ht hy
 | n, .i _, _, _, _, ht, _ => by cases n <;> simp [Ua] at ht
 | n, .b, _, _, _, ht, _ => by cases n <;> simp [Ua] at ht
 | n, .o, _, _, _, ht, _ => by cases n <;> simp [Ua] at ht
 | n, .mp _ _, _, _, _, ht, _ => by cases n <;> simp [Ua] at ht
 | n, .s, _, _, _, ht, _ => by cases n <;> simp [Ua] at ht
 | n, .sl _, _, _, _, ht, _ => by cases n <;> simp [Ua] at ht
 | n, .u, _, _, _, ht, _ => by cases n <;> simp [Ua] at ht
theorem VG : ∀ τ : Ty, Ty.dec τ τ = some ⟨rfl⟩
 | .i _ => by simp [Ty.dec]
 | .b => rfl
 | .o => rfl
 | .mp x y => by simp only [Ty.dec, VG x, VG y]
 | .s => rfl
 | .u => rfl
 | .sl e => by simp only [Ty.dec, VG e]
 | .p x y => by simp only [Ty.dec, VG x, VG y]
theorem EaI : ∀ {p : List Nat} {e τ : Ty} {x : T e} {y : D}, Of e p = some τ → (D.t e x).at p = some y → ∃ z : T τ, y = .t τ z ∧ Bk y τ = some z
 | [], e, τ, x, y, ht, hy => by
  simp only [Of, jc] at ht
  subst ht
  simp only [D.at, jc] at hy
  subst hy
  exact ⟨x, rfl, by simp only [Bk, VG e]⟩
 | f :: p, e, τ, x, y, ht, hy => by
  simp only [Of] at ht
  cases hf : Ua e f with
  | none => simp [hf] at ht
  | some τ' =>
   simp only [hf, jb] at ht
   simp only [D.at] at hy
   cases hd : (D.t e x).field f with
   | none => simp [hd] at hy
   | some z =>
    simp only [hd] at hy
    obtain ⟨u, rfl⟩ := Eah hf hd
    exact EaI ht hy
theorem OaB (hG : EnvTy P G) (h : Bb n0 A O0 w0 s σ φ a w) {t : TypeId} {x : Operand} (ho : o.op = .load t x)
 (he : Mg G s o k = some out) : o.wp P a w (Vf n0 A O0 w0 k out) Q := by
 simp only [Mg, Zb, ho] at he
 split at he
 ·
  rename_i τ id path hty hx
  split at he
  ·rename_i ρ d hb
   split at he
   ·rename_i τ' e ht hd
    split at he
    ·rename_i q hq
     obtain rfl := Sf hq
     have hv := h.ev hx
     rw [Pr] at hv
     obtain ⟨b, hσ, hv⟩ := hv.2 ρ d hb
     obtain ⟨hs, b', cur, et, hσ', hh, hF, hr, hsz⟩ := h.hp id _ hb
     rw [hσ] at hσ'
     simp at hσ'
     subst hσ'
     obtain ⟨hse, hre⟩ := Gb.at hs ht hd hr
     have hle := Ej ht
     have hl := Zt (hG.ty _ _ hty) hh (by omega : Nb ρ path + τ'.size ≤ cur.size)
     refine Gc (w' := w) (v := Oe τ' (Ee cur (Nb ρ path) τ'.size)) ?_ (Uc h ?_ he)
     ·simp [execOp, ho, hv, Instr.loadAt, Instr.sureAddr, hl]
     ·exact Qr hse hre
    ·simp at he
   ·simp at he
  ·simp at he
 ·
  rename_i τ τ' y hty hx
  split at he
  ·rename_i q hq
   obtain rfl := Sf hq
   have hv := h.ev hx
   rw [OP] at hv
   obtain ⟨b, off, cur, et, fr, hv, hO, hh, hs, hvw⟩ := hv
   have hl := Zt (hG.ty _ _ hty) hh hs
   refine Gc (w' := w) (v := Oe τ' (Ee cur off τ'.size)) ?_ (Uc h ?_ he)
   ·simp [execOp, ho, hv, Instr.loadAt, Instr.sureAddr, hl]
   ·exact Qr (τ := τ') (by simp [Kb]) hvw
  ·simp at he
 ·
  rename_i τ id i path hty hx
  cases hml : Nak G o.dst with
  | true =>
   rw [hml] at he
   simp only [zz] at he
   have key : ∀ (e : Ty) (xs : List (T e)) (kk : Nat) (Ia : La), path = [] → s.heap id = some Ia → (Ia = .row e true xs ∧ kk = 0 ∨ Ia = .mov e xs kk) → Zv s o.dst τ id i e xs kk (fun d u => Sg s o.dst d u k) = some out →
    o.wp P a w (Vf n0 A O0 w0 k out) Q := by
    intro e xs kk Ia hp hb hbk hgo
    subst hp
    unfold Zv at hgo
    split at hgo
    ·rename_i q hq
     obtain rfl := Sf hq
     cases hik : yd i kk with
     | false => rw [hik] at hgo; simp at hgo
     | true =>
      obtain rfl := ju hik
      rw [Nat.beq_refl] at hgo
      simp only [zz] at hgo
      cases hxi : xs[i]? with
      | none => simp [hxi] at hgo
      | some x0 =>
       simp only [hxi, jb] at hgo
       rcases hop : Ff e x0 (100000 + 64 * o.dst.getD 0) with ⟨d, u, m⟩
       rw [hop] at hgo
       simp only at hgo
       cases hck : (jx m (100064 + 64 * o.dst.getD 0) && Se s u) with
       | false => rw [hck] at hgo; simp at hgo
       | true =>
        rw [hck] at hgo
        simp only [zz] at hgo
        simp only [jd] at hck
        have hm : s.ment id = true := XO hx (by simp [D.ment])
        have hN : Ia.rowN = some (e, ja xs) := by rcases hbk with ⟨rfl, _⟩ | rfl <;> rfl
        have hlike : Ia.like (.mov e xs (i + 1)) := by rcases hbk with ⟨rfl, _⟩ | rfl <;> simp [La.like]
        have hv := h.ev hx
        rw [Sk] at hv
        obtain ⟨hi, b, off, cap, hσ, hv⟩ := hv.2 _ _ _ hb hN
        have hmv : Hd w (OO O0 s φ) s.heap σ id (.mov e xs i) (φ id) := by
         have := h.hp id _ hb
         rcases hbk with ⟨rfl, rfl⟩ | rfl
         ·exact Gac this
         ·exact this
        obtain ⟨cur, et, σ', φ', hh, hs, hc, hsh, hrep⟩ := h.moveout hb hlike hmv hm hxi hσ hop hck.2
        have hl := Zt (hG.ty _ _ hty) hh hs
        refine Gc (w' := w) (v := Oe e (Ee cur (off + i * e.size) e.size)) ?_ (Ig rfl hc (Qr hsh (hrep _ _)) hgo)
        simp [execOp, ho, hv, Instr.loadAt, Instr.sureAddr, Nb, hl]
    ·simp at hgo
   split at he
   ·rename_i e xs hb
    exact key e xs 0 _ rfl hb (.inl ⟨rfl, rfl⟩) he
   ·rename_i e xs kk hb
    exact key e xs kk _ rfl hb (.inr rfl) he
   ·simp at he
  | false =>
  rw [hml] at he
  simp only [ua] at he
  split at he
  ·rename_i e dp xs hb
   cases hxi : xs[i]? with
   | none => simp [hxi] at he
   | some x0 =>
    simp only [hxi, jb] at he
    split at he
    ·rename_i τ' y ht hd
     split at he
     ·rename_i q hq
      obtain rfl := Sf hq
      have hv := h.ev hx
      rw [Sk] at hv
      obtain ⟨hi, b, off, cap, hσ, hv⟩ := hv.2 _ _ _ hb rfl
      have hle := Ej ht
      cases hf : ((!dp || e.flat) || τ'.flat) with
      | true =>
       simp only [hf, zz] at he
       have hel : ∃ cur et, w.heap[b]? = some (.cells cur et (0, 0)) ∧ off + i * e.size + e.size ≤ cur.size ∧ Kb τ' y ∧ Gb w (OO O0 s φ) s.heap σ y (Ee cur (off + i * e.size + Nb e path) τ'.size) := by
        cases hf1 : (!dp || e.flat) with
        | true =>
         obtain ⟨cur, et, hh, hs, hvw⟩ := Zau (h.hp id _ hb) (by simpa using hf1) hxi hσ
         have hrep : Gb w (OO O0 s φ) s.heap σ (.t e x0) (Ee cur (off + i * e.size) e.size) := hvw
         obtain ⟨hse, hre⟩ := Gb.at (τ := τ') (by simp [Kb]) ht hd hrep
         rw [RP _ _ _ _ _ hle] at hre
         exact ⟨cur, et, hh, hs, hse, hre⟩
        | false =>
         have hfl : τ'.flat = true := by simpa [hf1] using hf
         have hdp : dp = true := by
          simp only [zb] at hf1
          simpa using hf1.1
         subst hdp
         have hown := h.hp id _ hb
         simp only [Hd, hσ] at hown
         obtain ⟨y', hy1, hy2⟩ := EaI ht hd
         subst hy1
         obtain ⟨cur, et, F1, Fy, hh, _, hsz, _, hoy, _⟩ := O6 hown hxi ht hd hy2
         refine ⟨cur, et, hh, hsz, by simp [Kb], ?_⟩
         have hnil := Lv hfl hoy
         exact hoy.view (by rw [hnil]; simp)
       obtain ⟨cur, et, hh, hs, hse, hre⟩ := hel
       have hl := Zt (hG.ty _ _ hty) hh (by omega : off + i * e.size + Nb e path + τ'.size ≤ cur.size)
       refine Gc (w' := w) (v := Oe τ' (Ee cur (off + i * e.size + Nb e path) τ'.size)) ?_ (Uc h (Qr hse hre) he)
       simp [execOp, ho, hv, Instr.loadAt, Instr.sureAddr, hl]
      | false =>
       simp only [hf, ua] at he
       split at he
       ·rename_i y' hy'
        rcases hop : Ff τ' y' (100000 + 64 * o.dst.getD 0) with ⟨d, u, m⟩
        rw [hop] at he
        simp only at he
        cases hck : (jx m (100064 + 64 * o.dst.getD 0) && Se s u) with
        | false => rw [hck] at he; simp at he
        | true =>
         rw [hck] at he
         simp only [zz] at he
         simp only [jd] at hck
         have hdp : dp = true := by
          simp only [zb] at hf
          simpa using hf.1.1
         subst hdp
         have hm : s.ment id = true := XO hx (by simp [D.ment])
         obtain ⟨cur, et, σ', φ', hh, hs, hc, hsh, hrep⟩ := h.focus hb hm hxi ht hd hy' hσ hop hck.2
         have hl := Zt (hG.ty _ _ hty) hh (by omega : off + i * e.size + Nb e path + τ'.size ≤ cur.size)
         refine Gc (w' := w) (v := Oe τ' (Ee cur (off + i * e.size + Nb e path) τ'.size)) ?_ (Ig rfl hc (Qr hsh (hrep _ _)) he)
         simp [execOp, ho, hv, Instr.loadAt, Instr.sureAddr, hl]
       ·simp at he
     ·simp at he
    ·simp at he
  ·simp at he
 ·simp at he
end
section
variable {P : Program} {Out : Type} {n0 : Nat} {A : Fx} {O0 : Nat → Prop} {w0 w w' : World} {s : AS} {σ σ' : Nat → Value} {φ φ' : Nat → List Nat} {a : Act}
variable {o : Oper} {Q : Exit → Act → World → Prop} {k : AS → Option Out} {out : Out} {d : D} {v : Value} {upd : List (Nat × Option La)} {dst : Option Tmp} {G : Yf}
theorem Iam (hG : Dk P A.I G) (hfz : WS G A) (h : Bb n0 A O0 w0 s σ φ a w) (he : Mg G s o k = some out) : o.wp P a w (Vf n0 A O0 w0 k out) Q := by
 have hT := hG.toEnvTy
 cases ho : o.op with
 | move x => exact Pag h (.inl ho) (by simp only [Mg, Zb, ho] at he; cases hx : s.ev x with | none => simp [hx] at he | some d => simpa [hx] using he)
 | assign x => exact Pag h (.inr ho) (by simp only [Mg, Zb, ho] at he; cases hx : s.ev x with | none => simp [hx] at he | some d => simpa [hx] using he)
 | pick c x y => exact PaB h ho he
 | alloc t => exact Fau hT h ho he
 | box t x => exact NaH hT h ho he
 | build t ps => exact Hau hT h ho he
 | buildSlice t n ps => exact R7 hT h ho he
 | load t x => exact OaB hT h ho he
 | store t x y => exact Lau hT h ho he
 | nilCheck x => exact Jad h ho he
 | binOp op t x y t' => exact Aaq hT h ho he
 | unOp op t x => exact QaB h ho he
 | convert src t x => exact Wak hT h ho he
 | slice t x lo hi max =>
  cases max with
  | none => exact Kau hT h ho he
  | some m => simp [Mg, Zb, ho] at he
 | fieldAddr t x f => exact Wab hT h ho he
 | field t x f => exact Iau hT h ho he
 | indexAddr t x i => exact Xab hT h ho he
 | index t x i => exact Jau h hT ho he
 | makeSlice t l c => exact Yab hT h ho he
 | extract x n => exact Xak h ho he
 | call c =>
  obtain ⟨callee, args, ts⟩ := c
  cases callee with
  | value f =>
   cases f with
   | func f => exact MaB hG hfz h ho he
   | _ => simp [Mg, Zb, ho] at he
  | invoke r m => simp [Mg, Zb, ho] at he
  | builtin b =>
   cases b with
   | len => exact OaH hT h ho he
   | append => exact Zap hT h ho he
   | copy => exact NaB hT h ho he
   | max => exact PaH h ho he
   | min => exact QaH h ho he
   | _ => simp [Mg, Zb, ho] at he
 | _ => simp [Mg, Zb, ho] at he
end
def WE {α : Type} : List (Int × α) → Int → Option Nat
 | [], _ => none
 | (k, _) :: r, n => bif n == k then some 0 else (WE r n).map (· + 1)
theorem Lag {α : Type} : ∀ (xs : List (Int × α)) (n : Int), FC xs n = (WE xs n).bind fun i => (xs[i]?).map (·.2)
 | [], n => rfl
 | (k, x) :: r, n => by
  simp only [FC, WE]
  cases hn : n == k with
  | true => simp
  | false =>
   simp only [ua]
   rw [Lag r n]
   cases WE r n <;> simp
theorem Sab {α : Type} : ∀ {xs : List (Int × α)} {n : Int} {i : Nat}, WE xs n = some i → ∃ h : i < xs.length, xs[i].1 = n
 | [], n, i, h => by simp [WE] at h
 | (k, x) :: r, n, i, h => by
  simp only [WE] at h
  cases hn : n == k with
  | true => rw [hn] at h; simp at h hn; subst h; exact ⟨by simp, hn.symm⟩
  | false =>
   rw [hn] at h
   simp only [ua, zh] at h
   obtain ⟨j, hj, rfl⟩ := h
   obtain ⟨h1, h2⟩ := Sab hj
   exact ⟨by simp; omega, by simpa using h2⟩
theorem VY {α : Type} : ∀ {xs : List (Int × α)} {n : Int} {i : Nat} (y : α), WE xs n = some i → VR xs n y = xs.set i (n, y)
 | [], n, i, y, h => by simp [WE] at h
 | (k, x) :: r, n, i, y, h => by
  simp only [WE] at h
  simp only [VR]
  cases hn : n == k with
  | true => rw [hn] at h; simp at h hn; subst h; simp [hn]
  | false =>
   rw [hn] at h
   simp only [ua, zh] at h
   obtain ⟨j, hj, rfl⟩ := h
   simp [VY y hj]
theorem UY {α : Type} : ∀ {xs : List (Int × α)} {n : Int} (y : α), WE xs n = none → VR xs n y = xs ++ [(n, y)]
 | [], n, y, h => rfl
 | (k, x) :: r, n, y, h => by
  simp only [WE] at h
  simp only [VR]
  cases hn : n == k with
  | true => rw [hn] at h; simp at h
  | false =>
   rw [hn] at h
   simp only [ua, Option.map_eq_none_iff] at h
   simp [UY y h]
def VS (w : World) (O : Nat → Prop) (k v : Ty) (xs : List (T k × T v)) (es : Array MapEntry) : Prop := es.size = ja xs ∧
 ∀ i (h : i < ja xs), ∃ e ck cv, es[i]? = some e ∧ e.key = Qn k ck ∧ e.val = Qn v cv ∧ Ta w O k (List.get xs ⟨i, h⟩).1 ck ∧ Ta w O v (List.get xs ⟨i, h⟩).2 cv
theorem PR (τ : Ty) (cs : List Value) : Qn τ cs = Oe τ cs := by cases τ <;> rfl
theorem CX {kk : IntKind} {w : World} {O : Nat → Prop} {v : Ty} (n : Int) : ∀ (xs : List (Int × T v)) (es : List MapEntry) (j : Nat), es.length = xs.length →
 (∀ i (h : i < xs.length), ∃ e, es[i]? = some e ∧ e.key = .int kk xs[i].1) →
 Instr.findNow (.int kk) (.int kk n) es j = some ((WE xs n).bind fun i => (es[i]?).map fun e => (j + i, e.val))
 | [], [], j, _, _ => rfl
 | [], _ :: _, j, h, _ => by simp at h
 | _ :: _, [], j, h, _ => by simp at h
 | (k, x) :: xs, e :: es, j, h, hk => by
  obtain ⟨e0, h0, h1⟩ := hk 0 (by simp)
  simp only [List.getElem?_cons_zero, jc] at h0
  subst h0
  simp only [List.getElem_cons_zero] at h1
  have ih := CX (w := w) (O := O) n xs es (j + 1) (by simpa using h) (fun i hi => by
   obtain ⟨e', h2, h3⟩ := hk (i + 1) (by simp; omega)
   exact ⟨e', by simpa using h2, by simpa using h3⟩)
  simp only [Instr.findNow, h1, Instr.sameNow, if_true, WE]
  cases hn : n == k with
  | true => simp
  | false =>
   simp only [ua]
   rw [ih]
   cases WE xs n with
   | none => rfl
   | some i => simp [jt, Nat.add_comm 1 i]
section
variable {P : Program} {Out : Type} {n0 : Nat} {A : Fx} {O0 : Nat → Prop} {w0 w w' : World} {s : AS} {σ σ' : Nat → Value} {φ φ' : Nat → List Nat} {a : Act}
variable {o : Oper} {Q : Exit → Act → World → Prop} {k : AS → Option Out} {out : Out} {d : D} {v : Value} {upd : List (Nat × Option La)} {dst : Option Tmp} {G : Yf}
theorem XF {kk : IntKind} {kt : TypeId} {O : Nat → Prop} {τ : Ty} {xs : List (Int × T τ)} {es : Array MapEntry} (hk : P.underlying kt = some (.int kk)) (he : VS w O (.i kk) τ xs es) (n : Int) (w1 : World) :
 (Instr.findKey kt (.int kk n) es.toList).run P w1 = .ok ((WE xs n).bind fun i => (es[i]?).map fun e => (i, e.val)) w1 := by
 have := CX (w := w) (O := O) (v := τ) (kk := kk) n xs es.toList 0 (by simpa using he.1) (fun i hi => by
  obtain ⟨e, ck, cv, h1, h2, h3, h4, h5⟩ := he.2 i hi
  refine ⟨e, by simpa using h1, ?_⟩
  have h4' : ck = [.int kk (List.get xs ⟨i, hi⟩).1] := h4
  rw [h2, h4']; rfl)
 simp only [js, Array.getElem?_toList] at this
 simp [Instr.findKey, run_underlying hk, this]
theorem Mv {kk : IntKind} {kt : TypeId} (hk : P.underlying kt = some (.int kk)) (b : Bool) (n : Int) (w1 : World) : (Instr.checkKey b 10000 kt (.int kk n)).run P w1 = .ok () w1 := by
 have h : ∀ m : Nat, (Instr.checkKey b (m + 1) kt (.int kk n)).run P w1 = .ok () w1 := fun m => by simp [Instr.checkKey, run_underlying hk]
 exact h 9999
theorem Eat {O : Nat → Prop} {kk : IntKind} {τ : Ty} {xs : List (Int × T τ)} {es : Array MapEntry} (he : VS w O (.i kk) τ xs es) (n : Int) :
 (FC xs n = none ∧ WE xs n = none) ∨ ∃ i e y cv, WE xs n = some i ∧ es[i]? = some e ∧ FC xs n = some y ∧ e.val = Qn τ cv ∧ Ta w O τ y cv := by
 rw [Lag]
 cases hm : WE xs n with
 | none => exact .inl ⟨rfl, rfl⟩
 | some i =>
  obtain ⟨hi, _⟩ := Sab hm
  obtain ⟨e, ck, cv, h1, h2, h3, h4, h5⟩ := he.2 i hi
  exact .inr ⟨i, e, _, cv, rfl, h1, by simp [je hi], h3, h5⟩
theorem QP {kk : IntKind} {t kt et : TypeId} {O : Nat → Prop} {τ : Ty} {xs : List (Int × T τ)} {es : Array MapEntry} {clk r : Nat} (ht : P.underlying t = some (.map kt et)) (hk : P.underlying kt = some (.int kk)) (hte : Ke P τ et = true)
 (hh : w.heap[r]? = some (.map es clk)) (he : VS w O (.i kk) τ xs es) (n : Int) (ok : Bool) :
 ∃ cv, Ta w O τ ((FC xs n).getD (zT τ)) cv ∧ (Instr.lookup t (.map (some r)) (.int kk n) ok).run P w = .ok (if ok then .tuple #[Qn τ cv, .bool (FC xs n).isSome] else Qn τ cv) w := by
 have hg : (getObj r).run P w = .ok (.map es clk) w := by simp [getObj, Sem.run, hh]
 have hf := XF (P := P) hk he n w
 have hc := Mv (P := P) hk es.isEmpty n w
 rcases Eat he n with ⟨h1, h2⟩ | ⟨i, e, y, cv, h1, h2, h3, h4, h5⟩
 ·refine ⟨τ.zc, ?_, ?_⟩
  ·rw [h1]
   exact (J5 w τ).view (by simp)
  ·rw [h2] at hf
   rw [h1, PR]
   simp [Instr.lookup, run_underlying ht, hg, hc, hf, Tok.zero hte]
 ·refine ⟨cv, by rw [h3]; exact h5, ?_⟩
  rw [h1] at hf
  simp only [jb, h2, qf] at hf
  rw [h3]
  simp [Instr.lookup, run_underlying ht, hg, hc, hf, h4]
theorem V4 {kk : IntKind} {t kt et : TypeId} {τ : Ty} (ht : P.underlying t = some (.map kt et)) (hk : P.underlying kt = some (.int kk)) (hte : Ke P τ et = true) (n : Int) (ok : Bool) :
 (Instr.lookup t (.map none) (.int kk n) ok).run P w = .ok (if ok then .tuple #[Qn τ τ.zc, .bool false] else Qn τ τ.zc) w := by
 have hc := Mv (P := P) hk true n w
 have hf : (Instr.findKey kt (.int kk n) []).run P w = .ok none w := by simp [Instr.findKey, run_underlying hk, Instr.findNow]
 rw [PR]
 simp [Instr.lookup, run_underlying ht, hc, hf, Tok.zero hte]
theorem ZW {O O' : Nat → Prop} {kk v : Ty} {xs : List (T kk × T v)} {es : Array MapEntry} (hv : ∀ b, ¬ O b → b < w.heap.size → w'.heap[b]? = w.heap[b]?) (hO : ∀ b, b < w.heap.size → ¬ O b → ¬ O' b) (h : VS w O kk v xs es) : VS w' O' kk v xs es := by
 refine ⟨h.1, fun i hi => ?_⟩
 obtain ⟨e, ck, cv, h1, h2, h3, h4, h5⟩ := h.2 i hi
 exact ⟨e, ck, cv, h1, h2, h3, h4.stable hv hO, h5.stable hv hO⟩
theorem Fat {O : Nat → Prop} {kk : IntKind} {τ : Ty} {xs : List (Int × T τ)} {es : Array MapEntry} (he : VS w O (.i kk) τ xs es) (n : Int) {y : T τ} {cv : List Value} (hy : Ta w O τ y cv) (clk : Nat) :
 ∃ es' clk', VS w O (.i kk) τ (VR xs n y) es' ∧ ∀ (t kt et : TypeId) (r : Nat) (w1 : World), P.underlying t = some (.map kt et) → P.underlying kt = some (.int kk) → w1.heap[r]? = some (.map es clk) →
  (Instr.mapUpdate t (.map (some r)) (.int kk n) (Qn τ cv)).run P w1 = .ok () { w1 with heap := w1.heap.setIfInBounds r (.map es' clk') } := by
 cases hm : WE xs n with
 | none =>
  refine ⟨es.push { key := .int kk n, val := Qn τ cv, born := clk }, clk + 1, ⟨?_, ?_⟩, ?_⟩
  ·rw [UY y hm, Array.size_push, he.1]; simp
  ·rw [UY y hm]
   intro i hi
   by_cases h : i < xs.length
   ·obtain ⟨e, ck, cv', h1, h2, h3, h4, h5⟩ := he.2 i h
    have hlt : i < es.size := by rw [he.1]; exact h
    refine ⟨e, ck, cv', ?_, h2, h3, ?_, ?_⟩
    ·rw [Array.getElem?_push_lt hlt]
     rw [Array.getElem?_eq_getElem hlt] at h1
     exact h1
    ·have : List.get (xs ++ [(n, y)]) ⟨i, hi⟩ = List.get xs ⟨i, h⟩ := List.getElem_append_left h
     rw [this]; exact h4
    ·have : List.get (xs ++ [(n, y)]) ⟨i, hi⟩ = List.get xs ⟨i, h⟩ := List.getElem_append_left h
     rw [this]; exact h5
   ·have hi2 : i = xs.length := by
     have : (xs ++ [(n, y)]).length = xs.length + 1 := by simp
     have hi' : i < (xs ++ [(n, y)]).length := hi
     omega
    subst hi2
    have : List.get (xs ++ [(n, y)]) ⟨xs.length, hi⟩ = (n, y) := by simp
    refine ⟨{ key := .int kk n, val := Qn τ cv, born := clk }, [.int kk n], cv, ?_, rfl, rfl, ?_, ?_⟩
    ·rw [show xs.length = es.size from he.1.symm]
     exact Array.getElem?_push_size
    ·rw [this]; rfl
    ·rw [this]; exact hy
  ·intro t kt et r w1 ht hk hh
   have hg : (getObj r).run P w1 = .ok (.map es clk) w1 := by simp [getObj, Sem.run, hh]
   have hf := XF (P := P) hk he n w1
   have hc := Mv (P := P) hk false n w1
   rw [hm] at hf
   have hs := MapKept.run_setObj_map (P := P) (.map (es.push { key := .int kk n, val := Qn τ cv, born := clk }) (clk + 1)) hh
   simp [Instr.mapUpdate, run_underlying ht, hg, hc, hf, hs]
 | some i =>
  obtain ⟨hi, hik⟩ := Sab hm
  obtain ⟨e0, ck0, cv0, g1, g2, g3, g4, g5⟩ := he.2 i hi
  have g4' : ck0 = [.int kk n] := by
   have : ck0 = [.int kk (List.get xs ⟨i, hi⟩).1] := g4
   rw [this, show (List.get xs ⟨i, hi⟩).1 = n from hik]
  have hlt : i < es.size := by rw [he.1]; exact hi
  refine ⟨es.modify i fun e => { e with key := .int kk n, val := Qn τ cv }, clk, ⟨?_, ?_⟩, ?_⟩
  ·rw [VY y hm, Array.size_modify, he.1]; simp
  ·rw [VY y hm]
   intro j hj
   have hj' : j < xs.length := by
    have : j < (xs.set i (n, y)).length := hj
    simpa using this
   have hjs : j < es.size := by rw [he.1]; exact hj'
   by_cases hji : i = j
   ·subst hji
    have : List.get (xs.set i (n, y)) ⟨i, hj⟩ = (n, y) := by simp
    refine ⟨{ es[i] with key := .int kk n, val := Qn τ cv }, [.int kk n], cv, ?_, rfl, rfl, ?_, ?_⟩
    ·rw [Array.getElem?_modify]; simp [Array.getElem?_eq_getElem hjs]
    ·rw [this]; rfl
    ·rw [this]; exact hy
   ·obtain ⟨e, ck, cv', h1, h2, h3, h4, h5⟩ := he.2 j hj'
    have : List.get (xs.set i (n, y)) ⟨j, hj⟩ = List.get xs ⟨j, hj'⟩ := by simp [hji]
    refine ⟨e, ck, cv', ?_, h2, h3, ?_, ?_⟩
    ·rw [Array.getElem?_modify, if_neg hji]; exact h1
    ·rw [this]; exact h4
    ·rw [this]; exact h5
  ·intro t kt et r w1 ht hk hh
   have hg : (getObj r).run P w1 = .ok (.map es clk) w1 := by simp [getObj, Sem.run, hh]
   have hf := XF (P := P) hk he n w1
   have hc := Mv (P := P) hk false n w1
   rw [hm] at hf
   simp only [jb, g1, qf] at hf
   have hs := MapKept.run_setObj_map (P := P) (.map (es.modify i fun e => { e with key := .int kk n, val := Qn τ cv }) clk) hh
   have hkey : e0.key = .int kk n := by rw [g2, g4']; rfl
   have hst : (Instr.keyThatStays (.int kk n) (.int kk n)).run P w1 = .ok (.int kk n) w1 := by simp [Instr.keyThatStays, Instr.sameBits]
   simp [Instr.mapUpdate, run_underlying ht, hg, hc, hf, g1, hkey, hst, hs]
theorem AZ {O : Nat → Prop} {hp : Nat → Option La} {id : Nat} {v : Value} : Pd w O hp σ (.mpo id) v ↔ v.oneCell' = true ∧ ∀ k m xs, hp id = some (.mp k m xs) → v = σ id := by
 simp only [Pd, Pf, D.isAgg, Gb, jq, if_false]
 constructor
 ·rintro ⟨u, h, h1, h2⟩
  simp only [yv, and_true] at h
  subst h
  exact ⟨h1, h2⟩
 ·rintro ⟨h1, h2⟩
  exact ⟨v, rfl, h1, h2⟩
theorem Yak (h : Bb n0 A O0 w0 s σ φ a w) {t : TypeId} {r : Option Operand} (ho : o.op = .makeMap t r)
 (he : LQ G s o (fun d u => Sg s o.dst d u k) = some out) : o.wp P a w (Vf n0 A O0 w0 k out) Q := by
 simp only [LQ, ho] at he
 cases r with
 | some r => simp at he
 | none =>
 simp only at he
 split at he
 ·rename_i tt kk v hd hty
  cases hn : s.newOk tt with
  | false => simp [hn] at he
  | true =>
   simp only [hn, zz] at he
   have hc := h.new1 (id := tt) (w' := w.alloc (.map #[] 0)) hn (.mp kk v ([] : List (T kk × T v))) (.map (some w.heap.size)) [w.heap.size] (by simp) (fun b hb => Ni w _ b hb) rfl rfl rfl (by simp) (by simp)
    (by
     intro hp' σ' O' hσ _ _
     exact ⟨w.heap.size, #[], 0, hσ, heap_alloc_new w _, rfl, rfl, fun i hi => by simp at hi⟩)
   refine Gc (w' := w.alloc (.map #[] 0)) (v := .map (some w.heap.size)) ?_ (Ig rfl hc (AZ.2 ⟨rfl, fun _ _ _ _ => (Rg _ _ _).symm⟩) he)
   simp [execOp, ho, Instr.makeMap]
 ·simp at he
theorem FaC {O : Nat → Prop} {hp : Nat → Option La} {d : D} {τ : Ty} {x : T τ} {v : Value} (ht : Bk d τ = some x) (h : Pd w O hp σ d v) : Ta w O τ x v.cells.toList ∧ v = Qn τ v.cells.toList := by
 obtain ⟨hs, hv⟩ := Ai (w := w) (O := O) (hp := hp) (σ := σ) ht
 obtain ⟨h1, h2⟩ := Zf hs h
 exact ⟨hv _ h1, by rw [PR]; exact h2⟩
theorem N6 (hG : EnvTy P G) (h : Bb n0 A O0 w0 s σ φ a w) {t : TypeId} {m x v : Operand} (ho : o.op = .mapUpdate t m x v ∨ o.op = .insert t m x v)
 (he : SV G s t m x v (fun d u => Sg s o.dst d u k) = some out) : o.wp P a w (Vf n0 A O0 w0 k out) Q := by
 unfold SV at he
 split at he
 ·rename_i kk τ id k2 n d hty hm hx hv
  split at he
  ·rename_i k3 τ3 xs y hid hy
   split at he
   ·rename_i hdec hq
    obtain rfl := hdec
    cases hkk : (kk == k2) && (kk == k3) with
    | false => simp [hkk] at he
    | true =>
     simp only [hkk, zz] at he
     simp only [jd, beq_iff_eq] at hkk
     obtain ⟨rfl, rfl⟩ := hkk
     obtain ⟨kt, et, hu, hk, hte⟩ := Tok.mp (hG.ty _ _ hty)
     obtain ⟨r, es, clk, hσ, hh, hF, hz, hen⟩ := h.hp id _ hid
     have hE : VS w (OO O0 s φ) (.i kk) τ xs es := ⟨hz, hen⟩
     obtain ⟨hyv, hvv⟩ := FaC hy (h.ev hv)
     obtain ⟨es', clk', hE', hrun⟩ := Fat (P := P) hE n hyv clk
     have hmv := (AZ.1 (h.ev hm)).2 _ _ _ hid
     rw [hσ] at hmv
     have hxv := Xf.1 (h.ev hx)
     have hrlt : r < w.heap.size := (Array.getElem?_eq_some_iff.1 hh).1
     have hOr : OO O0 s φ r := .inr ⟨id, _, hid, by rw [hF]; simp⟩
     have hne : ∀ b, b ≠ r → (w.heap.setIfInBounds r (.map es' clk'))[b]? = w.heap[b]? := fun b hb => by
      rw [Array.getElem?_setIfInBounds, if_neg (fun e => hb e.symm)]
     have hc := h.turn (w' := { w with heap := w.heap.setIfInBounds r (.map es' clk') }) hid (Ia := .mp (.i kk) τ (VR xs n y)) ⟨rfl, rfl⟩ [] (by simp) (by simp) (φ id) (by simp)
      (fun b _ hb _ => hne b (fun e => hb (by rw [hF, e]; simp))) rfl rfl rfl (h.nodup id _ hid) (fun b hb => .inr (.inl hb))
      (by
       intro hp' O' hO _
       refine ⟨r, es', clk', hσ, ?_, hF, ?_⟩
       ·show (w.heap.setIfInBounds r (.map es' clk'))[r]? = _
        rw [Array.getElem?_setIfInBounds]; simp [hrlt]
       ·exact ZW (fun b hb hlt => hne b (fun e => hb (e ▸ hOr))) hO hE')
     refine FM (w' := { w with heap := w.heap.setIfInBounds r (.map es' clk') }) ?_ (Ig (upd := [(id, some (.mp (.i kk) τ (VR xs n y)))]) rfl hc (ME.2 rfl) he)
     have := hrun t kt et r w hu (Tok.i hk) hh
     rw [← hvv] at this
     rcases ho with ho | ho <;> simp [execOp, ho, hmv, hxv, this]
   ·simp at he
  ·simp at he
 ·simp at he
theorem KY (h : Bb n0 A O0 w0 s σ φ a w) {τ : Ty} {xs : List (Int × T τ)} {n : Int} {ok : Bool} {cv : List Value} (hv : Ta w (OO O0 s φ) τ ((FC xs n).getD (zT τ)) cv)
 (hrun : (execOp a.eval o).run P w = .ok (.value (if ok then .tuple #[Qn τ cv, .bool (FC xs n).isSome] else Qn τ cv)) w)
 (he : RV xs n ok (fun d u => Sg s o.dst d u k) = some out) : o.wp P a w (Vf n0 A O0 w0 k out) Q := by
 have h1 : Pf w (OO O0 s φ) s.heap σ (.t τ ((FC xs n).getD (zT τ))) (Qn τ cv) := by
  rw [PR]
  exact Fac (d := .t τ ((FC xs n).getD (zT τ))) (by simp [Kb]) hv
 unfold RV at he
 cases ok with
 | true =>
  simp only [zz] at he
  refine Gc hrun (Uc h ?_ he)
  simp only [if_true]
  refine ⟨#[Qn τ cv, .bool (FC xs n).isSome], rfl, h1, ?_, trivial⟩
  simp [Pf, D.isAgg, Gb, Ta]
 | false =>
  simp only [ua] at he
  refine Gc hrun (Uc h ?_ he)
  exact HA h1
theorem Baq (hG : EnvTy P G) (h : Bb n0 A O0 w0 s σ φ a w) {t : TypeId} {m x : Operand} {ok : Bool} (ho : o.op = .lookup t m x ok)
 (he : LQ G s o (fun d u => Sg s o.dst d u k) = some out) : o.wp P a w (Vf n0 A O0 w0 k out) Q := by
 simp only [LQ, ho] at he
 split at he
 ·rename_i kk τ id k2 n hty hm hx
  split at he
  ·rename_i k3 τ3 xs hid
   split at he
   ·rename_i hdec
    obtain rfl := Sf hdec
    cases hkk : (kk == k2) && (kk == k3) with
    | false => simp [hkk] at he
    | true =>
     simp only [hkk, zz] at he
     simp only [jd, beq_iff_eq] at hkk
     obtain ⟨rfl, rfl⟩ := hkk
     obtain ⟨kt, et, hu, hk, hte⟩ := Tok.mp (hG.ty _ _ hty)
     obtain ⟨r, es, clk, hσ, hh, hF, hz, hen⟩ := h.hp id _ hid
     have hmv := (AZ.1 (h.ev hm)).2 _ _ _ hid
     rw [hσ] at hmv
     have hxv := Xf.1 (h.ev hx)
     obtain ⟨cv, g1, g2⟩ := QP (P := P) hu (Tok.i hk) hte hh (O := OO O0 s φ) (xs := xs) ⟨hz, hen⟩ n ok
     refine KY h g1 ?_ he
     simp [execOp, ho, hmv, hxv, g2]
   ·simp at he
  ·simp at he
 ·rename_i kk τ k3 τ3 xs k2 n hty hm hx
  split at he
  ·rename_i hdec
   obtain rfl := Sf hdec
   cases hkk : (kk == k2) && (kk == k3) with
   | false => simp [hkk] at he
   | true =>
    simp only [hkk, zz] at he
    simp only [jd, beq_iff_eq] at hkk
    obtain ⟨rfl, rfl⟩ := hkk
    obtain ⟨kt, et, hu, hk, hte⟩ := Tok.mp (hG.ty _ _ hty)
    have hxv := Xf.1 (h.ev hx)
    have hmv : Ta w (OO O0 s φ) (.mp (.i kk) τ) xs [a.eval m] := by
     have := h.ev hm
     simpa [Pd, Pf, D.isAgg, Gb] using this
    obtain ⟨hc, hxs⟩ | ⟨r, es, clk, hc, hO, hh, hz, hen⟩ := hmv
    ·simp only [yv, and_true] at hc
     have hxs' : xs = ([] : List (Int × T τ)) := hxs
     refine KY h (cv := τ.zc) ?_ ?_ he
     ·rw [hxs']; exact (J5 w τ).view (by simp)
     ·rw [hxs']
      simp [execOp, ho, hc, hxv, V4 (P := P) (w := w) hu (Tok.i hk) hte n ok, FC]
    ·simp only [yv, and_true] at hc
     obtain ⟨cv, g1, g2⟩ := QP (P := P) hu (Tok.i hk) hte hh (O := OO O0 s φ) (xs := xs) ⟨hz, hen⟩ n ok
     refine KY h g1 ?_ he
     simp [execOp, ho, hc, hxv, g2]
  ·simp at he
 ·simp at he
theorem May (hG : Dk P A.I G) (hfz : WS G A) (h : Bb n0 A O0 w0 s σ φ a w) (he : S3 G s o k = some out) : o.wp P a w (Vf n0 A O0 w0 k out) Q := by
 have hT := hG.toEnvTy
 unfold S3 at he
 cases hb : Fab o.op with
 | false => rw [hb] at he; exact Iam hG hfz h he
 | true =>
  rw [hb] at he
  simp only [zz] at he
  cases ho : o.op with
  | makeMap t r => exact Yak h ho he
  | lookup t m x ok => exact Baq hT h ho he
  | mapUpdate t m x v => exact N6 hT h (.inl ho) (by simpa [LQ, ho] using he)
  | insert t m x v => exact N6 hT h (.inr ho) (by simpa [LQ, ho] using he)
  | _ => simp [Fab, ho] at hb
end
def Wm (dst : Option Tmp) (id : Nat) : Prop := dst = some id ∨ (100000 + 64 * dst.getD 0 ≤ id ∧ id < 100064 + 64 * dst.getD 0)
def La.kind : La → Option Ty × Option (Ty × Nat)
 | .box ρ _ => (some ρ, none)
 | .row e _ xs => (none, some (e, ja xs))
 | .hol e xs _ _ _ _ _ => (none, some (e, ja xs))
 | .mov e xs _ => (none, some (e, ja xs))
 | .mp _ _ _ => (none, none)
theorem La.kind_rowN {b : La} : b.rowN = b.kind.2 := by cases b <;> rfl
theorem kind_rowN {a b : Option La} (h : a.map La.kind = b.map La.kind) : a.bind La.rowN = b.bind La.rowN := by
 cases a <;> cases b <;> simp at h ⊢
 rw [La.kind_rowN, La.kind_rowN, h]
theorem Kab {a b : Option La} (h : a.map La.kind = b.map La.kind) : ∀ ρ, (∃ d, a = some (.box ρ d)) ↔ ∃ d, b = some (.box ρ d) := by
 intro ρ
 cases a with
 | none => cases b with
  | none => simp
  | some b => simp at h
 | some a => cases b with
  | none => simp at h
  | some b =>
   simp only [qf, jc] at h
   cases a <;> cases b <;> simp [La.kind] at h ⊢
   rw [h]
structure Agr (s s' : AS) (o : Oper) : Prop where
 ev : ∀ x, x ∈ Td o.op → s'.ev x = s.ev x
 hp : UE o.op = false → Ki o.op = false → ∀ x, x ∈ Td o.op → ∀ d, s.ev x = some d → ∀ id, d.ment id = true → s'.heap id = s.heap id
 sh : Ki o.op = true → ∀ x, x ∈ Td o.op → ∀ d, s.ev x = some d → ∀ id, d.ment id = true → (s'.heap id).map La.kind = (s.heap id).map La.kind
 nw : ∀ id, Wm o.dst id → s'.newOk id = s.newOk id
 bx : AH o.op = true → Ki o.op = false → ∀ x, x ∈ Td o.op → ∀ bid p, s.ev x = some (.ptr bid p) → ∀ ρ d, s.heap bid = some (.box ρ d) → ∀ id, d.ment id = true → s'.heap id = s.heap id
def Wr (s s' : AS) (d : D) : Prop := ∀ id, d.ment id = true → s'.heap id = s.heap id
section
variable {s s' : AS} {G : Yf} {o : Oper} {Out : Type}
theorem Wr.left {a b : D} (h : Wr s s' (.pr a b)) : Wr s s' a := fun id hi => h id (by simp [D.ment, hi])
theorem Wr.right {a b : D} (h : Wr s s' (.pr a b)) : Wr s s' b := fun id hi => h id (by simp [D.ment, hi])
theorem Wr.own {id : Nat} (h : Wr s s' (.own id)) : s'.heap id = s.heap id := h id (by simp [D.ment])
theorem Wr.cut {id lo hi : Nat} (h : Wr s s' (.cut id lo hi)) : s'.heap id = s.heap id := h id (by simp [D.ment])
theorem Wr.ptr {id : Nat} {p : List Nat} (h : Wr s s' (.ptr id p)) : s'.heap id = s.heap id := h id (by simp [D.ment])
theorem Wr.eptr {id i : Nat} {p : List Nat} (h : Wr s s' (.eptr id i p)) : s'.heap id = s.heap id := h id (by simp [D.ment])
theorem YC : ∀ {d : D} {τ : Ty}, Wr s s' d → Cb s' d τ = Cb s d τ := by
 intro d
 induction d with
 | pr a b iha ihb =>
  intro τ h
  cases τ with
  | p x y => simp only [Cb, iha h.left, ihb h.right]
  | _ => rfl
 | own id => intro τ h; cases τ <;> simp [Cb, h.own]
 | cut id lo hi => intro τ h; cases τ <;> simp [Cb, h.cut]
 | _ => intro τ h; cases τ <;> rfl
theorem NB : ∀ {d : D} {τ : Ty}, Wr s s' d → Wc s' d τ = Wc s d τ := by
 intro d
 induction d with
 | pr a b iha ihb =>
  intro τ h
  cases τ with
  | p x y => simp only [Wc, iha h.left, ihb h.right]
  | _ => rfl
 | own id => intro τ h; cases τ <;> simp [Wc, h.own]
 | _ => intro τ h; cases τ <;> rfl
theorem SE : ∀ {l : List Operand}, (∀ x, x ∈ l → s'.ev x = s.ev x) → Hu s' l = Hu s l
 | [], _ => rfl
 | x :: r, h => by simp only [Hu, h x (by simp), SE fun y hy => h y (jr _ hy)]
theorem BL : ∀ {l : List Operand} {d : D}, Hu s l = some d → (∀ x, x ∈ l → ∀ d, s.ev x = some d → Wr s s' d) → Wr s s' d
 | [], d, h, _ => by
  simp only [Hu, jc] at h
  subst h
  intro id hi; simp [D.ment] at hi
 | x :: r, d, h, ha => by
  simp only [Hu] at h
  split at h
  ·rename_i d1 d2 h1 h2
   simp only [jc] at h
   subst h
   intro id hi
   simp only [D.ment, ye] at hi
   rcases hi with hi | hi
   ·exact ha x (by simp) d1 h1 id hi
   ·exact BL h2 (fun y hy => ha y (jr _ hy)) id hi
  ·simp at h
theorem BX {τ : Ty} : ∀ {ps : List (Nat × Operand)} {d : D}, (∀ x, x ∈ ps.map (·.2) → s'.ev x = s.ev x) → TM s' τ d ps = TM s τ d ps
 | [], _, _ => rfl
 | (i, x) :: r, d, h => by
  simp only [TM, h x (by simp)]
  split
  ·rename_i e τ' _ _
   cases Jd τ' e with
   | false => rfl
   | true =>
    simp only [zz]
    split
    ·exact BX fun y hy => h y (jr _ hy)
    ·rfl
  ·rfl
theorem H2 {e : Ty} : ∀ {ps : List (Nat × Operand)} {n : Nat}, (∀ x, x ∈ ps.map (·.2) → s'.ev x = s.ev x) → (∀ x, x ∈ ps.map (·.2) → ∀ d, s.ev x = some d → Wr s s' d) → JU s' e n ps = JU s e n ps
 | [], _, _, _ => rfl
 | (i, x) :: r, n, h, ha => by
  have ih := H2 (e := e) (ps := r) (n := n + 1) (fun y hy => h y (jr _ hy)) (fun y hy => ha y (jr _ hy))
  simp only [JU, h x (by simp)]
  cases yd i n with
  | false => rfl
  | true =>
   simp only [zz]
   cases hx : s.ev x with
   | none => rfl
   | some d => simp only [NB (ha x (by simp) d hx), ih]
theorem GX {e : Ty} : ∀ {ps : List (Nat × Operand)} {n : Nat}, (∀ x, x ∈ ps.map (·.2) → s'.ev x = s.ev x) → DN s' e n ps = DN s e n ps
 | [], _, _ => rfl
 | (i, x) :: r, n, h => by
  have ih := GX (e := e) (ps := r) (n := n + 1) (fun y hy => h y (jr _ hy))
  simp only [DN, h x (by simp), ih]
theorem Oap {x : Option Operand} (h : ∀ y, x = some y → s'.ev y = s.ev y) : KP s' x = KP s x := by
 cases x with
 | none => rfl
 | some y => simp only [KP, h y rfl]
theorem Oan {x : Option Operand} {n : Nat} (h : ∀ y, x = some y → s'.ev y = s.ev y) : ZT s' n x = ZT s n x := by
 cases x with
 | none => rfl
 | some y => simp only [ZT, h y rfl]
theorem G3 {e : Ty} {d : D} (h : Wr s s' d) : BV s' e d = BV s e d := by
 cases d with
 | own id => simp only [BV, h.own]
 | cut id lo hi => simp only [BV, h.cut]
 | t τ x => cases τ <;> rfl
 | _ => rfl
theorem Waj {e : Ty} {d : D} (h : Wr s s' d) : FY s' e d = FY s e d := by
 cases d with
 | own id => simp only [FY, h.own]
 | cut id lo hi => simp only [FY, h.cut]
 | _ => rfl
theorem XG {u : List (Nat × Option La)} (h : ∀ p, p ∈ u → s'.newOk p.1 = s.newOk p.1) : Se s' u = Se s u := by
 unfold Se
 congr 1
 induction u with
 | nil => rfl
 | cons p u ih => simp only [List.all_cons, h p (by simp), ih fun q hq => h q (jr _ hq)]
theorem WI : ∀ {τ : Ty} {x : T τ} {n m : Nat} {d : D} {l : List (Nat × Option La)}, Ff τ x n = (d, l, m) → n ≤ m ∧ ∀ p, p ∈ l → n ≤ p.1 ∧ p.1 < m
 | .i k, x, n, m, d, l, he => by simp only [Ff, jh] at he; obtain ⟨rfl, rfl, rfl⟩ := he; simp
 | .b, x, n, m, d, l, he => by simp only [Ff, jh] at he; obtain ⟨rfl, rfl, rfl⟩ := he; simp
 | .o, x, n, m, d, l, he => by simp only [Ff, jh] at he; obtain ⟨rfl, rfl, rfl⟩ := he; simp
 | .mp _ _, x, n, m, d, l, he => by simp only [Ff, jh] at he; obtain ⟨rfl, rfl, rfl⟩ := he; simp
 | .s, x, n, m, d, l, he => by simp only [Ff, jh] at he; obtain ⟨rfl, rfl, rfl⟩ := he; simp
 | .u, x, n, m, d, l, he => by simp only [Ff, jh] at he; obtain ⟨rfl, rfl, rfl⟩ := he; simp
 | .sl e, x, n, m, d, l, he => by simp only [Ff, jh] at he; obtain ⟨rfl, rfl, rfl⟩ := he; simp
 | .p t1 t2, x, n, m, d, l, he => by
  simp only [Ff] at he
  rcases ho1 : Ff t1 x.1 n with ⟨d1, l1, m1⟩
  rcases ho2 : Ff t2 x.2 m1 with ⟨d2, l2, m2⟩
  rw [ho1] at he
  simp only at he
  rw [ho2] at he
  simp only [jh] at he
  obtain ⟨rfl, rfl, rfl⟩ := he
  have a := WI ho1
  have b := WI ho2
  refine ⟨by omega, fun p hp => ?_⟩
  rcases jl.1 hp with hp | hp
  ·have := a.2 p hp; omega
  ·have := b.2 p hp; omega
theorem SU : ∀ {rt : Ty} {r : T rt} {fr : List Bool} {n m : Nat} {d : D} {l : List (Nat × Option La)}, Yg rt r fr n = some (d, l, m) → n ≤ m ∧ ∀ p, p ∈ l → n ≤ p.1 ∧ p.1 < m
 | .u, r, [], n, m, d, l, he => by simp only [Yg, jc, jh] at he; obtain ⟨rfl, rfl, rfl⟩ := he; simp
 | .p t1 t2, r, f :: fr, n, m, d, l, he => by
  simp only [Yg] at he
  rcases ho1 : (bif f then Ff t1 r.1 n else (.t t1 r.1, [], n)) with ⟨d1, l1, m1⟩
  rw [ho1] at he
  simp only at he
  split at he
  ·rename_i d2 l2 m2 ho2
   simp only [jc, jh] at he
   obtain ⟨rfl, rfl, rfl⟩ := he
   have b := SU ho2
   have a : n ≤ m1 ∧ ∀ p, p ∈ l1 → n ≤ p.1 ∧ p.1 < m1 := by
    cases f with
    | true => exact WI (by simpa using ho1)
    | false =>
     simp only [ua, jh] at ho1
     obtain ⟨rfl, rfl, rfl⟩ := ho1
     simp
   refine ⟨by omega, fun p hp => ?_⟩
   rcases jl.1 hp with hp | hp
   ·have := a.2 p hp; omega
   ·have := b.2 p hp; omega
  ·simp at he
 | .u, _, _ :: _, _, _, _, _, he => by simp [Yg] at he
 | .p _ _, _, [], _, _, _, _, he => by simp [Yg] at he
 | .i _, _, fr, _, _, _, _, he => by cases fr <;> simp [Yg] at he
 | .b, _, fr, _, _, _, _, he => by cases fr <;> simp [Yg] at he
 | .o, _, fr, _, _, _, _, he => by cases fr <;> simp [Yg] at he
 | .mp _ _, _, fr, _, _, _, _, he => by cases fr <;> simp [Yg] at he
 | .s, _, fr, _, _, _, _, he => by cases fr <;> simp [Yg] at he
 | .sl _, _, fr, _, _, _, _, he => by cases fr <;> simp [Yg] at he
theorem FR {dst : Option Tmp} {u : List (Nat × Option La)} {rt : Ty} {r : T rt} {fr : List Bool} {m : Nat} {d : D} (hop : Yg rt r fr (100000 + 64 * dst.getD 0) = some (d, u, m)) (hn : ∀ id, Wm dst id → s'.newOk id = s.newOk id) :
 (jx m (100064 + 64 * dst.getD 0) && Se s' u) = (jx m (100064 + 64 * dst.getD 0) && Se s u) := by
 cases hb : jx m (100064 + 64 * dst.getD 0) with
 | false => rfl
 | true =>
  have hle := yi hb
  rw [jk, jk]
  refine XG fun p hp => hn p.1 (.inr ?_)
  have := (SU hop).2 p hp
  exact ⟨this.1, by omega⟩
theorem Aad {dst : Option Tmp} {vw : Bool} {τ : Ty} {y : T τ} {u v : List (Nat × Option La)} {rt : Ty} {r : T rt} {fr : List Bool} {m m' : Nat} {d e : D} (hop : Yg rt r fr (100000 + 64 * dst.getD 0) = some (d, u, m))
 (hev : (bif vw then (D.t τ y, [], m) else Ff τ y m) = (e, v, m')) (hn : ∀ id, Wm dst id → s'.newOk id = s.newOk id) :
 (jx m' (100064 + 64 * dst.getD 0) && Se s' (u ++ v)) = (jx m' (100064 + 64 * dst.getD 0) && Se s (u ++ v)) := by
 cases hb : jx m' (100064 + 64 * dst.getD 0) with
 | false => rfl
 | true =>
  have hle := yi hb
  rw [jk, jk]
  refine XG fun p hp => hn p.1 (.inr ?_)
  have h1 := SU hop
  have h2 : m ≤ m' ∧ ∀ p, p ∈ v → m ≤ p.1 ∧ p.1 < m' := by
   cases vw with
   | true =>
    simp only [zz, jh] at hev
    obtain ⟨_, rfl, rfl⟩ := hev
    exact ⟨jo _, by simp⟩
   | false =>
    simp only [ua] at hev
    exact WI hev
  rcases jl.1 hp with hp | hp
  ·have := h1.2 p hp; have h3 := h2.1; exact ⟨this.1, by omega⟩
  ·have h4 := h2.2 p hp; have h3 := h1.1; exact ⟨qe h3 h4.1, by omega⟩
theorem N1 {dst : Option Tmp} (hn : ∀ id, Wm dst id → s'.newOk id = s.newOk id) (τ : Ty) (y : T τ) :
 (jx (Ff τ y (100000 + 64 * dst.getD 0)).2.2 (100064 + 64 * dst.getD 0) && Se s' (Ff τ y (100000 + 64 * dst.getD 0)).2.1) =
  (jx (Ff τ y (100000 + 64 * dst.getD 0)).2.2 (100064 + 64 * dst.getD 0) && Se s (Ff τ y (100000 + 64 * dst.getD 0)).2.1) := by
 cases hb : jx (Ff τ y (100000 + 64 * dst.getD 0)).2.2 (100064 + 64 * dst.getD 0) with
 | false => rfl
 | true =>
  have hle := yi hb
  rw [jk, jk]
  refine XG fun p hp => hn p.1 (.inr ?_)
  have := (WI (τ := τ) (x := y) rfl).2 p hp
  exact ⟨this.1, qn this.2 hle⟩
theorem B9 {dst : Option Tmp} {τ : Ty} {id i : Nat} {e : Ty} {xs : List (T e)} {k : Nat} {K : D → List (Nat × Option La) → Option Out} (hn : ∀ id, Wm dst id → s'.newOk id = s.newOk id) :
 Zv s' dst τ id i e xs k K = Zv s dst τ id i e xs k K := by
 unfold Zv
 simp only [N1 hn]
theorem Z8 {dst : Option Tmp} {f : FuncId} {args : List Operand} {K : D → List (Nat × Option La) → Option Out} (hev : ∀ x, x ∈ args → s'.ev x = s.ev x) (hag : ∀ x, x ∈ args → ∀ d, s.ev x = some d → Wr s s' d)
 (hn : ∀ id, Wm dst id → s'.newOk id = s.newOk id) (hbx : ∀ x, x ∈ args → ∀ bid p, s.ev x = some (.ptr bid p) → ∀ ρ d, s.heap bid = some (.box ρ d) → Wr s s' d) : OI G s' dst f args K = OI G s dst f args K := by
 unfold OI
 split
 ·rename_i pt rt fr F _
  rw [SE hev]
  cases hds : Hu s args with
  | none => rfl
  | some ds =>
   simp only []
   rw [YC (BL hds hag)]
   cases Cb s ds pt with
   | none => rfl
   | some x =>
    simp only []
    congr 1
    funext r
    cases hop : Yg rt r fr (100000 + 64 * dst.getD 0) with
    | none => rfl
    | some t =>
     obtain ⟨d, u, m⟩ := t
     simp only []
     cases VL d with
     | none => rfl
     | some d' => simp only [FR hop hn]
 ·rename_i τ pt rt fr F _
  cases args with
  | nil => rfl
  | cons a0 args =>
   simp only []
   rw [hev a0 (by simp), SE fun x hx => hev x (jr _ hx)]
   cases h0 : s.ev a0 with
   | none => rfl
   | some d0 =>
    cases hds : Hu s args with
    | none => rfl
    | some ds =>
     simp only []
     rw [NB (hag a0 (by simp) d0 h0), YC (BL hds fun x hx => hag x (jr _ hx))]
     cases Wc s d0 τ with
     | none => rfl
     | some xl =>
      obtain ⟨x0, l⟩ := xl
      cases Cb s ds pt with
      | none => rfl
      | some x =>
       simp only []
       congr 1
       funext r
       cases hop : Yg rt r.2 fr (100000 + 64 * dst.getD 0) with
       | none => rfl
       | some t =>
        obtain ⟨d, u, m⟩ := t
        simp only []
        cases VL d with
        | none => rfl
        | some d' => simp only [FR hop hn]
 ·rename_i pt rt fr F _
  rw [SE hev]
  cases hds : Hu s args with
  | none => rfl
  | some ds =>
   simp only []
   rw [NB (BL hds hag)]
   cases Wc s ds pt with
   | none => rfl
   | some xl =>
    simp only []
    congr 1
    funext r
    cases hop : Yg rt r fr (100000 + 64 * dst.getD 0) with
    | none => rfl
    | some t =>
     obtain ⟨d, u, m⟩ := t
     simp only []
     cases VL d with
     | none => rfl
     | some d' => simp only [FR hop hn]
 ·rename_i vw cv τ pt rt fr F _
  cases args with
  | nil => rfl
  | cons a0 args =>
   simp only []
   rw [hev a0 (by simp), SE fun x hx => hev x (jr _ hx)]
   cases h0 : s.ev a0 with
   | none => rfl
   | some d0 =>
    cases hds : Hu s args with
    | none =>
     cases d0 with
     | ptr bid path => cases path <;> rfl
     | _ => rfl
    | some ds =>
     cases d0 with
     | ptr bid path =>
      cases path with
      | cons _ _ => rfl
      | nil =>
       simp only []
       rw [(hag a0 (by simp) _ h0).ptr]
       cases hb : s.heap bid with
       | none => rfl
       | some Ia =>
        cases Ia with
        | box τ' d1 =>
         simp only []
         rw [NB (hbx a0 (by simp) bid [] h0 τ' d1 hb), NB (BL hds fun x hx => hag x (jr _ hx)), YC (BL hds fun x hx => hag x (jr _ hx))]
         split
         ·rename_i x0 l x l2 _ _ _
          congr 1
          funext r
          cases hop : Yg rt r.2 fr (100000 + 64 * dst.getD 0) with
          | none => rfl
          | some t =>
           obtain ⟨d, u, m⟩ := t
           simp only []
           cases VL d with
           | none => rfl
           | some d' =>
            rcases hev2 : (bif vw then (D.t τ r.1, [], m) else Ff τ r.1 m) with ⟨e, v, m'⟩
            simp only [Aad hop hev2 hn]
         ·rfl
        | _ => rfl
     | _ => rfl
 ·rename_i pt τ F _
  rw [SE hev]
  cases dst with
  | none => rfl
  | some tt =>
   cases hds : Hu s args with
   | none => rfl
   | some ds =>
    simp only []
    rw [YC (BL hds hag), hn tt (.inl rfl)]
 ·rfl
theorem R3 {dst : Option Tmp} {t tx : TypeId} {x y : Operand} {K : D → List (Nat × Option La) → Option Out} (hx : s'.ev x = s.ev x) (hy : s'.ev y = s.ev y)
 (ax : ∀ d, s.ev x = some d → Wr s s' d) (ay : ∀ d, s.ev y = some d → Wr s s' d) (hn : ∀ id, Wm dst id → s'.newOk id = s.newOk id) : Ez G s' dst t tx x y K = Ez G s dst t tx x y K := by
 unfold Ez
 rw [hx, hy]
 split
 ·rename_i tt e da db _ h2 h3
  rw [Waj (ax _ h2), G3 (ay _ h3), hn tt (.inl rfl)]
 ·rfl
theorem A9 {t tx : TypeId} {x y : Operand} {K : D → List (Nat × Option La) → Option Out} (hx : s'.ev x = s.ev x) (hy : s'.ev y = s.ev y)
 (ax : ∀ d, s.ev x = some d → Wr s s' d) (ay : ∀ d, s.ev y = some d → Wr s s' d) : PI G s' t tx x y K = PI G s t tx x y K := by
 unfold PI
 rw [hx, hy]
 split
 ·rename_i e id db _ h2 h3
  rw [ax _ h2 id (by simp [D.ment])]
  split
  ·rw [G3 (ay _ h3)]
  ·rfl
 ·rfl
theorem Laj {K : D → List (Nat × Option La) → Option Out} (h : Agr s s' o) : Zb G s' o K = Zb G s o K := by
 obtain ⟨hev, hag, hsh, hn, hbx⟩ := h
 cases hmv : UE o.op with
 | true =>
  cases ho : o.op with
  | move x => rw [ho] at hev; simp only [Zb, ho, hev x (by simp [Td])]
  | assign x => rw [ho] at hev; simp only [Zb, ho, hev x (by simp [Td])]
  | _ => rw [ho] at hmv; simp [UE] at hmv
 | false =>
 cases hsp : Ki o.op with
 | true =>
  have hk := hsh hsp
  clear hag hn hbx hsh
  cases ho : o.op with
  | nilCheck x =>
   rw [ho] at hev hk
   simp only [Zb, ho, hev x (by simp [Td])]
   split
   ·rename_i id p hx
    have h1 := Kab (hk x (by simp [Td]) _ hx id (by simp [D.ment]))
    split
    ·rename_i ρ d hb
     obtain ⟨d', hd'⟩ := (h1 ρ).1 ⟨d, hb⟩
     simp only [hd']
    ·rename_i hne
     split
     ·rename_i ρ d hb
      obtain ⟨d', hd'⟩ := (h1 ρ).2 ⟨d, hb⟩
      exact absurd hd' (hne ρ d')
     ·rfl
   ·rfl
   ·rename_i id i p hx
    rw [kind_rowN (hk x (by simp [Td]) _ hx id (by simp [D.ment]))]
   ·rfl
  | fieldAddr t x f =>
   rw [ho] at hev hk
   simp only [Zb, ho, hev x (by simp [Td])]
   split
   ·rename_i τ id path hτ hx
    have h1 := Kab (hk x (by simp [Td]) _ hx id (by simp [D.ment]))
    split
    ·rename_i ρ d hb
     obtain ⟨d', hd'⟩ := (h1 ρ).1 ⟨d, hb⟩
     simp only [hd']
    ·rename_i hne
     split
     ·rename_i ρ d hb
      obtain ⟨d', hd'⟩ := (h1 ρ).2 ⟨d, hb⟩
      exact absurd hd' (hne ρ d')
     ·rfl
   ·rename_i τ id i path hτ hx
    rw [kind_rowN (hk x (by simp [Td]) _ hx id (by simp [D.ment]))]
   ·rfl
   ·rfl
  | indexAddr t x i =>
   rw [ho] at hev hk
   simp only [Zb, ho, hev x (by simp [Td]), hev i (by simp [Td])]
   split
   ·rfl
   ·rename_i hx _; rw [kind_rowN (hk x (by simp [Td]) _ hx _ (by simp [D.ment]))]
   ·rename_i hx _; rw [kind_rowN (hk x (by simp [Td]) _ hx _ (by simp [D.ment]))]
   ·rename_i hx _; rw [kind_rowN (hk x (by simp [Td]) _ hx _ (by simp [D.ment]))]
   ·rfl
  | call c =>
   obtain ⟨callee, args, ts⟩ := c
   rw [ho] at hev hk hsp
   simp only [Td] at hev hk
   cases callee with
   | builtin b =>
    cases b with
    | len =>
     simp only [Zb, ho]
     split
     ·rename_i x t hx _
      rw [hev x (by rw [hx]; simp)]
      split
      ·rfl
      ·rfl
      ·rfl
      ·rename_i hd; rw [kind_rowN (hk x (by rw [hx]; simp) _ hd _ (by simp [D.ment]))]
      ·rename_i hd; rw [kind_rowN (hk x (by rw [hx]; simp) _ hd _ (by simp [D.ment]))]
      ·rfl
     ·rfl
    | _ => simp [Ki] at hsp
   | _ => simp [Ki] at hsp
  | _ => rw [ho] at hsp; simp [Ki] at hsp
 | false =>
 have hag' : ∀ x, x ∈ Td o.op → ∀ d, s.ev x = some d → Wr s s' d := hag hmv hsp
 cases ho : o.op with
 | move x => rw [ho] at hev; simp only [Zb, ho, hev x (by simp [Td])]
 | assign x => rw [ho] at hev; simp only [Zb, ho, hev x (by simp [Td])]
 | pick c x y => rw [ho] at hev; simp only [Zb, ho, hev c (by simp [Td]), hev x (by simp [Td]), hev y (by simp [Td])]
 | alloc t =>
  simp only [Zb, ho]
  split
  ·rename_i tt τ hd _; rw [hn tt (.inl hd)]
  ·rename_i tt hd _; rw [hn tt (.inl hd)]
  ·rfl
 | box t x =>
  rw [ho] at hev
  simp only [Zb, ho, hev x (by simp [Td])]
  split
  ·rename_i tt τ d hd _ _; rw [hn tt (.inl hd)]
  ·rfl
 | build t ps =>
  rw [ho] at hev
  have := fun τ d => BX (s := s) (s' := s') (τ := τ) (ps := ps.toList) (d := d) hev
  simp only [Zb, ho, this]
 | buildSlice t n ps =>
  rw [ho] at hev hag'
  have h1 := fun e n => H2 (s := s) (s' := s') (e := e) (ps := ps.toList) (n := n) hev hag'
  have h2 := fun e n => GX (s := s) (s' := s') (e := e) (ps := ps.toList) (n := n) hev
  simp only [Zb, ho, h1, h2]
  split
  ·rename_i tt e hd _
   rw [hn tt (.inl hd)]
  ·rfl
 | load t x =>
  rw [ho] at hev hag'
  simp only [Zb, ho, hev x (by simp [Td])]
  split
  ·rename_i hx; rw [(hag' x (by simp [Td]) _ hx).ptr]
  ·rfl
  ·rename_i hx; rw [(hag' x (by simp [Td]) _ hx).eptr]; simp only [N1 hn, B9 hn]
  ·rfl
 | store t x y =>
  rw [ho] at hev hag'
  simp only [Zb, ho, hev x (by simp [Td]), hev y (by simp [Td])]
  split
  ·rename_i hx _; rw [(hag' x (by simp [Td]) _ hx).ptr]
  ·rename_i dv _ hx hy
   have := fun τ => NB (τ := τ) (hag' y (by simp [Td]) _ hy)
   simp only [(hag' x (by simp [Td]) _ hx).eptr, this]
  ·rfl
 | nilCheck x => rw [ho] at hsp; simp [Ki] at hsp
 | binOp op t x y t' => rw [ho] at hev; simp only [Zb, ho, hev x (by simp [Td]), hev y (by simp [Td])]
 | unOp op t x => rw [ho] at hev; simp only [Zb, ho, hev x (by simp [Td])]
 | convert src t x =>
  rw [ho] at hev hag'
  simp only [Zb, ho, hev x (by simp [Td])]
  split
  ·rfl
  ·rfl
  ·rename_i hx; rw [YC (hag' x (by simp [Td]) _ hx)]
  ·rfl
  ·rfl
 | slice t x lo hi mx =>
  rw [ho] at hev hag'
  have h1 : KP s' lo = KP s lo := Oap fun y hy => hev y (by simp [Td, hy])
  have h2 := fun n => Oan (s := s) (s' := s') (x := hi) (n := n) fun y hy => hev y (by simp [Td, hy])
  cases mx with
  | some m => simp only [Zb, ho]
  | none =>
   simp only [Zb, ho, hev x (by simp [Td]), h1, h2]
   split
   ·rfl
   ·rfl
   ·rename_i hx
    unfold QV
    rw [(hag' x (by simp [Td]) _ hx).own, h1]
    simp only [h2]
    split
    ·split
     ·split
      ·split
       ·rename_i tt hd; rw [hn tt (.inl hd)]
       ·rfl
      ·rfl
     ·rfl
    ·rfl
   ·simp only [h2]
   ·rename_i hx
    unfold MO
    rw [(hag' x (by simp [Td]) _ hx).cut, h1]
    simp only [h2]
   ·rfl
 | fieldAddr t x f => rw [ho] at hsp; simp [Ki] at hsp
 | field t x f => rw [ho] at hev; simp only [Zb, ho, hev x (by simp [Td])]
 | indexAddr t x i => rw [ho] at hsp; simp [Ki] at hsp
 | index t x i => rw [ho] at hev; simp only [Zb, ho, hev x (by simp [Td]), hev i (by simp [Td])]
 | makeSlice t l c =>
  rw [ho] at hev
  simp only [Zb, ho, hev l (by simp [Td]), hev c (by simp [Td])]
  split
  ·rename_i hd _ _ _; rw [hn _ (.inl hd)]
  ·rfl
 | extract x n => rw [ho] at hev; simp only [Zb, ho, hev x (by simp [Td])]
 | call c =>
  obtain ⟨callee, args, ts⟩ := c
  rw [ho] at hev hag'
  simp only [Td] at hev hag'
  cases callee with
  | value f =>
   cases f with
   | func f => simp only [Zb, ho]; exact Z8 hev hag' hn (by rw [ho] at hbx; exact hbx rfl rfl)
   | _ => simp only [Zb, ho]
  | invoke r m => simp only [Zb, ho]
  | builtin b =>
   cases b with
   | len => rw [ho] at hsp; simp [Ki] at hsp
   | append =>
    simp only [Zb, ho]
    split
    ·rename_i x y t tx hx _
     exact R3 (hev x (by rw [hx]; simp)) (hev y (by rw [hx]; simp)) (hag' x (by rw [hx]; simp)) (hag' y (by rw [hx]; simp)) hn
    ·rfl
   | copy =>
    simp only [Zb, ho]
    split
    ·rename_i x y t tx hx _
     exact A9 (hev x (by rw [hx]; simp)) (hev y (by rw [hx]; simp)) (hag' x (by rw [hx]; simp)) (hag' y (by rw [hx]; simp))
    ·rfl
   | max =>
    simp only [Zb, ho]
    split
    ·rename_i x y hx
     rw [hev x (by rw [hx]; simp), hev y (by rw [hx]; simp)]
    ·rfl
   | min =>
    simp only [Zb, ho]
    split
    ·rename_i x y hx
     rw [hev x (by rw [hx]; simp), hev y (by rw [hx]; simp)]
    ·rfl
   | _ => simp only [Zb, ho]
 | _ => simp only [Zb, ho]
end
theorem Ja {α : Type} {c : Bool} {x : Option α} {r : α} : (bif c then x else none) = some r ↔ c = true ∧ x = some r := by cases c <;> simp
theorem Q4 {α : Type} {c : Bool} {x : Option α} {r : α} : (bif c then none else x) = some r ↔ c = false ∧ x = some r := by cases c <;> simp
section
variable {s s' : AS} {G : Yf} {o : Oper} {Out : Type} {K : D → List (Nat × Option La) → Option Out} {out : Out}
theorem Dam {tb : Bool} {op : BinOp} {a b : D} (he : PV tb op a b K = some out) : ∃ d u, K d u = some out ∧ ∀ (Out' : Type) (K' : D → List (Nat × Option La) → Option Out'), PV tb op a b K' = K' d u := by
 unfold PV at he ⊢
 split at he
 ·split at he
  ·simp only [Ja] at he; exact ⟨_, _, he.2, fun _ _ => by simp [he.1]⟩
  ·simp only [Ja] at he; exact ⟨_, _, he.2, fun _ _ => by simp [he.1]⟩
  ·simp only [Ja] at he
   obtain ⟨hk, he⟩ := he
   simp only [hk, zz]
   split at he
   all_goals first
    | exact ⟨_, _, he, fun _ _ => rfl⟩
    | (simp only [Q4] at he; exact ⟨_, _, he.2, fun _ _ => by simp [he.1]⟩)
    | simp at he
 ·split at he
  ·simp only [Ja] at he; exact ⟨_, _, he.2, fun _ _ => by simp [he.1]⟩
  ·exact ⟨_, _, he, fun _ _ => rfl⟩
  ·exact ⟨_, _, he, fun _ _ => rfl⟩
  ·simp at he
 ·split at he
  ·simp only [Ja] at he; exact ⟨_, _, he.2, fun _ _ => by simp [he.1]⟩
  ·simp only [Ja] at he; exact ⟨_, _, he.2, fun _ _ => by simp [he.1]⟩
  ·simp at he
 ·simp at he
theorem Haj {dst : Option Tmp} {f : FuncId} {args : List Operand} (he : OI G s dst f args K = some out) : ∃ d u, K d u = some out ∧ ∀ (Out' : Type) (K' : D → List (Nat × Option La) → Option Out'), OI G s dst f args K' = K' d u := by
 unfold OI at he ⊢
 split at he
 ·rename_i h1
  split at he
  ·rename_i h2
   split at he
   ·rename_i h3
    simp only [qi] at he
    obtain ⟨r, h4, he⟩ := he
    split at he
    ·rename_i h5
     split at he
     ·rename_i h6
      simp only [Ja] at he
      exact ⟨_, _, he.2, fun _ _ => by simp [h4, h5, h6, he.1]⟩
     ·simp at he
    ·simp at he
   ·simp at he
  ·simp at he
 ·rename_i h1
  split at he
  ·split at he
   ·rename_i h2 h3
    split at he
    ·rename_i h4 h5
     simp only [qi] at he
     obtain ⟨r, h6, he⟩ := he
     split at he
     ·rename_i h7
      split at he
      ·rename_i h8
       simp only [Ja] at he
       exact ⟨_, _, he.2, fun _ _ => by simp [h6, h7, h8, he.1]⟩
      ·simp at he
     ·simp at he
    ·simp at he
   ·simp at he
  ·simp at he
 ·rename_i h1
  split at he
  ·rename_i h2
   split at he
   ·rename_i h3
    simp only [qi] at he
    obtain ⟨r, h4, he⟩ := he
    split at he
    ·rename_i h5
     split at he
     ·rename_i h6
      simp only [Ja] at he
      exact ⟨_, _, he.2, fun _ _ => by simp [h4, h5, h6, he.1]⟩
     ·simp at he
    ·simp at he
   ·simp at he
  ·simp at he
 ·rename_i h1
  split at he
  ·split at he
   ·rename_i h2 h3
    split at he
    ·rename_i h4
     split at he
     ·rename_i h5 h6 h7
      simp only [qi] at he
      obtain ⟨r, h8, he⟩ := he
      split at he
      ·rename_i h9
       split at he
       ·rename_i h10 h11
        simp only [Ja] at he
        exact ⟨_, _, he.2, fun _ _ => by simp only [h8, h9, h10, h11, jb, he.1, zz]⟩
       ·simp at he
      ·simp at he
     ·simp at he
    ·simp at he
   ·simp at he
  ·simp at he
 ·rename_i h1
  split at he
  ·rename_i h2
   split at he
   ·rename_i h3
    simp only [qi, Ja] at he
    obtain ⟨r, h4, h5, he⟩ := he
    exact ⟨_, _, he, fun _ _ => by simp only [h4, jb, h5, zz]⟩
   ·simp at he
  ·simp at he
 ·simp at he
theorem Y8 {dst : Option Tmp} {t tx : TypeId} {x y : Operand} (he : Ez G s dst t tx x y K = some out) : ∃ d u, K d u = some out ∧ ∀ (Out' : Type) (K' : D → List (Nat × Option La) → Option Out'), Ez G s dst t tx x y K' = K' d u := by
 unfold Ez at he ⊢
 split at he
 ·rename_i h1 h2 h3
  split at he
  ·rename_i h4 h5
   simp only [Ja] at he
   exact ⟨_, _, he.2.2, fun _ _ => by simp [he.1, he.2.1]⟩
  ·simp at he
 ·simp at he
theorem Iaj {t tx : TypeId} {x y : Operand} (he : PI G s t tx x y K = some out) : ∃ d u, K d u = some out ∧ ∀ (Out' : Type) (K' : D → List (Nat × Option La) → Option Out'), PI G s t tx x y K' = K' d u := by
 unfold PI at he ⊢
 split at he
 ·split at he
  ·rename_i h4
   split at he
   ·rename_i h5 h6
    simp only [Ja] at he
    exact ⟨_, _, he.2.2, fun _ _ => by simp [he.1, he.2.1]⟩
   ·simp at he
  ·simp at he
 ·simp at he
theorem M0 {dst : Option Tmp} {τ : Ty} {id i : Nat} {e : Ty} {xs : List (T e)} {k : Nat} (he : Zv s dst τ id i e xs k K = some out) :
 ∃ d u, K d u = some out ∧ ∀ (Out' : Type) (K' : D → List (Nat × Option La) → Option Out'), Zv s dst τ id i e xs k K' = K' d u := by
 unfold Zv at he ⊢
 split at he
 ·rename_i h1
  simp only [Ja, qi] at he
  obtain ⟨h2, x, h3, h4, h5⟩ := he
  exact ⟨_, _, h5, fun _ _ => by simp only [h2, h3, jb, h4, zz]⟩
 ·simp at he
theorem Eam {dst : Option Tmp} {t : TypeId} {id : Nat} {lo hi : Option Operand} (he : QV G s dst t id lo hi K = some out) :
 ∃ d u, K d u = some out ∧ ∀ (Out' : Type) (K' : D → List (Nat × Option La) → Option Out'), QV G s dst t id lo hi K' = K' d u := by
 unfold QV at he ⊢
 split at he
 ·rename_i h1
  split at he
  ·rename_i h2 h3 h4
   split at he
   ·rename_i h5
    simp only [Ja] at he
    obtain ⟨h6, he⟩ := he
    split at he
    ·rename_i tt
     cases hm : VF G.mv tt with
     | true =>
      rw [hm] at he
      simp only [zz, Ja] at he
      exact ⟨_, _, he.2, fun _ _ => by simp only [h6, he.1, zz]⟩
     | false =>
      rw [hm] at he
      simp only [ua] at he
      exact ⟨_, _, he, fun _ _ => by simp only [h6, zz, ua]⟩
    ·simp at he
   ·simp at he
  ·simp at he
 ·simp at he
theorem Jaj {t : TypeId} {id a b : Nat} {lo hi : Option Operand} (he : MO G s t id a b lo hi K = some out) :
 ∃ d u, K d u = some out ∧ ∀ (Out' : Type) (K' : D → List (Nat × Option La) → Option Out'), MO G s t id a b lo hi K' = K' d u := by
 unfold MO at he ⊢
 split at he
 ·rename_i h1
  split at he
  ·rename_i h2 h3 h4
   split at he
   ·rename_i h5
    simp only [Ja] at he
    exact ⟨_, _, he.2, fun _ _ => by simp only [he.1, zz]⟩
   ·simp at he
  ·simp at he
 ·simp at he
theorem Pas (he : Zb G s o K = some out) : ∃ d u, K d u = some out ∧ ∀ (Out' : Type) (K' : D → List (Nat × Option La) → Option Out'), Zb G s o K' = K' d u := by
 cases ho : o.op with
 | move x => simp only [Zb, ho] at he ⊢; split at he <;> first | (simp at he; done) | (rename_i h1; exact ⟨_, _, he, fun _ _ => by simp⟩)
 | assign x => simp only [Zb, ho] at he ⊢; split at he <;> first | (simp at he; done) | (rename_i h1; exact ⟨_, _, he, fun _ _ => by simp⟩)
 | pick c x y =>
  simp only [Zb, ho] at he ⊢
  split at he
  ·rename_i β hc
   cases hb : (show Bool from β) with
   | true =>
    have hb' : β = true := hb
    subst hb'
    simp only [zz] at he
    split at he
    ·rename_i h1; exact ⟨_, _, he, fun _ _ => by simp⟩
    ·simp at he
   | false =>
    have hb' : β = false := hb
    subst hb'
    simp only [ua] at he
    split at he
    ·rename_i h1; exact ⟨_, _, he, fun _ _ => by simp⟩
    ·simp at he
  ·simp at he
 | alloc t =>
  simp only [Zb, ho] at he ⊢
  split at he
  ·rename_i h1 h2; simp only [Ja] at he; exact ⟨_, _, he.2, fun _ _ => by simp [he.1]⟩
  ·split at he
   ·rename_i h3; simp only [Ja] at he; exact ⟨_, _, he.2, fun _ _ => by simp only [he.1, zz]⟩
   ·simp at he
  ·simp at he
 | box t x =>
  simp only [Zb, ho] at he ⊢
  split at he
  ·rename_i h1 h2 h3; simp only [Ja] at he; exact ⟨_, _, he.2, fun _ _ => by simp [he.1]⟩
  ·simp at he
 | build t ps =>
  simp only [Zb, ho] at he ⊢
  split at he
  ·rename_i h1
   split at he
   ·rename_i h2; simp only [Ja] at he; exact ⟨_, _, he.2, fun _ _ => by simp [he.1]⟩
   ·simp at he
  ·simp at he
 | buildSlice t n ps =>
  simp only [Zb, ho] at he ⊢
  split at he
  ·rename_i h1 h2
   split at he
   ·rename_i h3; simp only [Ja] at he; exact ⟨_, _, he.2, fun _ _ => by simp [he.1]⟩
   ·rename_i h3
    split at he
    ·rename_i h4; simp only [Ja] at he; exact ⟨_, _, he.2, fun _ _ => by simp [he.1]⟩
    ·simp at he
  ·simp at he
 | load t x =>
  simp only [Zb, ho] at he ⊢
  split at he
  ·rename_i h1 h2
   split at he
   ·rename_i h3
    split at he
    ·rename_i h4 h5
     split at he
     ·rename_i h6; exact ⟨_, _, he, fun _ _ => by simp⟩
     ·simp at he
    ·simp at he
   ·simp at he
  ·rename_i h1 h2
   split at he
   ·rename_i h3; exact ⟨_, _, he, fun _ _ => by simp⟩
   ·simp at he
  ·rename_i h1 h2
   cases hml : Nak G o.dst with
   | true =>
    rw [hml] at he
    simp only [zz] at he
    split at he
    ·rename_i h3; obtain ⟨d, u, g1, g2⟩ := M0 he; exact ⟨d, u, g1, fun _ _ => by simp only [zz]; exact g2 _ _⟩
    ·rename_i h3; obtain ⟨d, u, g1, g2⟩ := M0 he; exact ⟨d, u, g1, fun _ _ => by simp only [zz]; exact g2 _ _⟩
    ·simp at he
   | false =>
   rw [hml] at he
   simp only [ua] at he
   split at he
   ·rename_i h3
    simp only [qi] at he
    obtain ⟨z, hz, he⟩ := he
    split at he
    ·rename_i τ' y h4 h5
     split at he
     ·rename_i h6
      cases hc : ((!_ || Ty.flat _) || Ty.flat _) with
      | true =>
       rw [hc] at he
       exact ⟨_, _, he, fun _ _ => by simp only [ua, hz, jb, h4, h5, h6, hc, zz]⟩
      | false =>
       rw [hc] at he
       simp only [ua] at he
       split at he
       ·rename_i h7
        simp only [Ja] at he
        obtain ⟨hc2, he⟩ := he
        exact ⟨_, _, he, fun _ _ => by simp only [hz, jb, h4, h5, h6, hc, ua, h7, hc2, zz]⟩
       ·simp at he
     ·simp at he
    ·simp at he
   ·simp at he
  ·simp at he
 | store t x y =>
  simp only [Zb, ho] at he ⊢
  split at he
  ·rename_i h1 h2 h3
   split at he
   ·rename_i h4
    split at he
    ·rename_i h5 h6
     split at he
     ·rename_i h7; simp only [Ja] at he; exact ⟨_, _, he.2, fun _ _ => by simp [he.1]⟩
     ·simp at he
    ·simp at he
   ·simp at he
  ·rename_i h1 h2 h3
   split at he
   ·rename_i e dp xs h4
    split at he
    ·rename_i h5
     split at he
     ·rename_i h6
      cases hf : (dp || e.flat) with
      | true =>
       rw [hf] at he
       simp only [zz] at he
       split at he
       ·rename_i h7
        simp only [Ja, qi] at he
        obtain ⟨hc, z, hz, he⟩ := he
        split at he
        ·rename_i h8; exact ⟨_, _, he, fun _ _ => by simp only [hc, zz, hz, jb, h8]⟩
        ·simp at he
       ·simp at he
      | false =>
       rw [hf] at he
       simp only [ua] at he
       split at he
       ·rename_i h7
        simp only [qi] at he
        obtain ⟨z, hz, he⟩ := he
        split at he
        ·rename_i h8; exact ⟨_, _, he, fun _ _ => by simp only [ua, hz, jb, h8]⟩
        ·simp at he
       ·simp at he
     ·simp at he
    ·simp at he
   ·split at he
    ·rename_i h5
     split at he
     ·rename_i h6
      split at he
      ·rename_i h7
       simp only [Ja] at he
       obtain ⟨hc, hd, he⟩ := he
       split at he
       ·rename_i h8; exact ⟨_, _, he, fun _ _ => by simp only [hc, hd, zz]⟩
       ·simp at he
      ·simp at he
     ·simp at he
    ·simp at he
   ·simp at he
  ·simp at he
 | nilCheck x =>
  simp only [Zb, ho] at he ⊢
  split at he
  ·rename_i h1
   split at he
   ·rename_i h2; exact ⟨_, _, he, fun _ _ => by simp⟩
   ·simp at he
  ·rename_i h1; exact ⟨_, _, he, fun _ _ => by simp⟩
  ·rename_i h1
   split at he
   ·exact ⟨_, _, he, fun _ _ => by simp only⟩
   ·simp at he
  ·simp at he
 | binOp op t x y t' =>
  simp only [Zb, ho] at he ⊢
  split at he
  ·rename_i u v h1 h2
   cases ha : u.isAgg with
   | true =>
    rw [ha] at he
    simp only [zz] at he
    split at he
    ·rename_i h3
     split at he
     ·rename_i h4 h5
      simp only [Ja] at he
      obtain ⟨hc, he⟩ := he
      split at he
      ·exact ⟨_, _, he, fun _ _ => by simp only [zz, h3, hc]⟩
      ·exact ⟨_, _, he, fun _ _ => by simp only [zz, h3, hc]⟩
      ·simp at he
     ·simp at he
    ·simp at he
   | false =>
    rw [ha] at he
    simp only [ua] at he
    obtain ⟨d, u', h3, h4⟩ := Dam he
    exact ⟨d, u', h3, fun _ _ => by simp only [ua]; exact h4 _ _⟩
  ·simp at he
 | unOp op t x =>
  simp only [Zb, ho] at he ⊢
  split at he
  ·rename_i h1; exact ⟨_, _, he, fun _ _ => by simp⟩
  ·rename_i h1; exact ⟨_, _, he, fun _ _ => by simp⟩
  ·simp at he
 | convert src t x =>
  simp only [Zb, ho] at he ⊢
  split at he
  ·rename_i h1 h2 h3; exact ⟨_, _, he, fun _ _ => by simp⟩
  ·rename_i h1 h2 h3; exact ⟨_, _, he, fun _ _ => by simp⟩
  ·rename_i h1 h2 h3
   split at he
   ·rename_i h4; exact ⟨_, _, he, fun _ _ => by simp only⟩
   ·simp at he
  ·rename_i h1 h2 h3; simp only [Ja] at he; exact ⟨_, _, he.2, fun _ _ => by simp [he.1]⟩
  ·simp at he
 | slice t x lo hi mx =>
  cases mx with
  | some m => simp [Zb, ho] at he
  | none =>
   simp only [Zb, ho] at he ⊢
   split at he
   ·rename_i h1
    split at he
    ·rename_i h2 h3 h4; simp only [Ja] at he; exact ⟨_, _, he.2, fun _ _ => by simp only [he.1, zz]⟩
    ·simp at he
   ·rename_i h1
    split at he
    ·rename_i h2 h3 h4
     split at he
     ·rename_i h5; simp only [Ja] at he; exact ⟨_, _, he.2, fun _ _ => by simp only [he.1, zz]⟩
     ·simp at he
    ·simp at he
   ·exact Eam he
   ·split at he
    ·simp only [Ja] at he
     exact ⟨_, _, he.2, fun _ _ => by simp only [he.1, zz]⟩
    ·simp at he
   ·exact Jaj he
   ·simp at he
 | fieldAddr t x f =>
  simp only [Zb, ho] at he ⊢
  split at he
  ·rename_i h1 h2
   split at he
   ·rename_i h3
    split at he
    ·rename_i h4 h5
     split at he
     ·rename_i h6; simp only [Ja] at he; exact ⟨_, _, he.2, fun _ _ => by simp only [he.1, zz]⟩
     ·simp at he
    ·simp at he
   ·simp at he
  ·rename_i h1 h2
   split at he
   ·rename_i h3
    split at he
    ·rename_i h4 h5
     split at he
     ·rename_i h6; simp only [Ja] at he; exact ⟨_, _, he.2, fun _ _ => by simp only [he.1, zz]⟩
     ·simp at he
    ·simp at he
   ·simp at he
  ·rename_i h1 h2
   split at he
   ·rename_i h3 h4 h5; simp only [Ja] at he; exact ⟨_, _, he.2, fun _ _ => by simp only [he.1, zz]⟩
   ·simp at he
  ·simp at he
 | field t x f =>
  simp only [Zb, ho] at he ⊢
  split at he
  ·rename_i h1 h2
   simp only [Ja] at he
   obtain ⟨hc, he⟩ := he
   split at he
   ·rename_i h3 h4; exact ⟨_, _, he, fun _ _ => by simp only [hc, zz]⟩
   ·simp at he
  ·simp at he
 | indexAddr t x i =>
  simp only [Zb, ho] at he ⊢
  split at he
  ·rename_i h1 h2 h3
   split at he
   ·rename_i h4
    simp only [qi] at he
    obtain ⟨z, hz, he⟩ := he
    exact ⟨_, _, he, fun _ _ => by simp only [hz, jb]⟩
   ·simp at he
  ·rename_i h1 h2 h3
   split at he
   ·rename_i h4
    split at he
    ·rename_i h5; simp only [Ja] at he; exact ⟨_, _, he.2, fun _ _ => by simp only [he.1, zz]⟩
    ·simp at he
   ·simp at he
  ·rename_i h1 h2 h3
   split at he
   ·rename_i h4
    split at he
    ·rename_i h5; simp only [Ja] at he; exact ⟨_, _, he.2, fun _ _ => by simp only [he.1, zz]⟩
    ·simp at he
   ·simp at he
  ·rename_i h1 h2 h3
   split at he
   ·rename_i h4 h5
    split at he
    ·rename_i h6; simp only [Ja] at he; exact ⟨_, _, he.2.2, fun _ _ => by simp only [he.1, he.2.1, zz]⟩
    ·simp at he
   ·simp at he
  ·simp at he
 | index t x i =>
  simp only [Zb, ho] at he ⊢
  split at he
  ·rename_i h1 h2 h3
   simp only [qi] at he
   obtain ⟨z, hz, he⟩ := he
   exact ⟨_, _, he, fun _ _ => by simp only [hz, jb]⟩
  ·simp at he
 | makeSlice t l c =>
  simp only [Zb, ho] at he ⊢
  split at he
  ·rename_i h1 h2 h3 h4; simp only [Ja] at he; exact ⟨_, _, he.2.2, fun _ _ => by simp only [he.1, he.2.1, zz]⟩
  ·simp at he
 | extract x n =>
  simp only [Zb, ho] at he ⊢
  split at he
  ·rename_i h1
   split at he
   ·rename_i h2; exact ⟨_, _, he, fun _ _ => by simp⟩
   ·simp at he
  ·simp at he
 | call c =>
  obtain ⟨callee, args, ts⟩ := c
  cases callee with
  | value f =>
   cases f with
   | func f => simp only [Zb, ho] at he ⊢; exact Haj he
   | _ => simp [Zb, ho] at he
  | invoke r m => simp [Zb, ho] at he
  | builtin b =>
   cases b with
   | len =>
    simp only [Zb, ho] at he ⊢
    split at he
    ·rename_i h1 h2
     split at he
     ·rename_i h3 h4; exact ⟨_, _, he, fun _ _ => by simp only⟩
     ·rename_i h3 h4; exact ⟨_, _, he, fun _ _ => by simp only⟩
     ·rename_i h3 h4; exact ⟨_, _, he, fun _ _ => by simp only⟩
     ·rename_i h3 h4
      split at he
      ·rename_i h5; exact ⟨_, _, he, fun _ _ => by simp only⟩
      ·simp at he
     ·rename_i h3 h4
      split at he
      ·rename_i h5; exact ⟨_, _, he, fun _ _ => by simp only⟩
      ·simp at he
     ·simp at he
    ·simp at he
   | append =>
    simp only [Zb, ho] at he ⊢
    split at he
    ·rename_i h1 h2
     exact Y8 he
    ·simp at he
   | copy =>
    simp only [Zb, ho] at he ⊢
    split at he
    ·exact Iaj he
    ·simp at he
   | max =>
    simp only [Zb, ho] at he ⊢
    split at he
    ·rename_i h1
     split at he
     ·rename_i h2 h3; simp only [Ja] at he; exact ⟨_, _, he.2, fun _ _ => by simp only [he.1, zz]⟩
     ·simp at he
    ·simp at he
   | min =>
    simp only [Zb, ho] at he ⊢
    split at he
    ·rename_i h1
     split at he
     ·rename_i h2 h3; simp only [Ja] at he; exact ⟨_, _, he.2, fun _ _ => by simp only [he.1, zz]⟩
     ·simp at he
    ·simp at he
   | _ => simp [Zb, ho] at he
 | _ => simp [Zb, ho] at he
end
section
variable {P : Program} {Out : Type} {n0 : Nat} {A : Fx} {O0 : Nat → Prop} {w0 w w' : World} {s s' : AS} {σ σ' : Nat → Value} {φ φ' : Nat → List Nat} {a : Act}
variable {o : Oper} {Q : Exit → Act → World → Prop} {k : AS → Option Out} {out : Out} {d : D} {v : Value} {upd : List (Nat × Option La)} {dst : Option Tmp} {G : Yf}
structure Eqv (s s' : AS) : Prop where
 n : s'.n = s.n
 tm : ∀ t, Sb s'.tm t = Sb s.tm t
 hp : ∀ id, s'.heap id = s.heap id
theorem Eqv.refl (s : AS) : Eqv s s := ⟨rfl, fun _ => rfl, fun _ => rfl⟩
theorem Eqv.trans {s1 s2 s3 : AS} (h : Eqv s1 s2) (h' : Eqv s2 s3) : Eqv s1 s3 := ⟨h'.n.trans h.n, fun t => (h'.tm t).trans (h.tm t), fun id => (h'.hp id).trans (h.hp id)⟩
theorem Eqv.symm {s1 s2 : AS} (h : Eqv s1 s2) : Eqv s2 s1 := ⟨h.n.symm, fun t => (h.tm t).symm, fun id => (h.hp id).symm⟩
theorem Bb.eqv (h : Bb n0 A O0 w0 s σ φ a w) (he : Eqv s s') : Bb n0 A O0 w0 s' σ φ a w := by
 have hh : s'.heap = s.heap := funext he.hp
 have hO : OO O0 s' φ = OO O0 s φ := by
  funext b
  simp only [OO, hh]
 refine ⟨by rw [he.n]; exact h.sz, h.df, ?_, ?_, ?_, ?_, ?_, h.o0, h.fr, h.pin, h.iv0, h.ivw⟩
 ·intro t d hd
  rw [he.tm] at hd
  rw [hO, hh]
  exact h.tm t d hd
 ·intro id Ia hb
  rw [hh] at hb
  rw [hO, hh]
  exact h.hp id Ia hb
 ·intro id Ia hb
  rw [hh] at hb
  exact h.nodup id Ia hb
 ·intro id id' Ia blk' hne hb hb'
  rw [hh] at hb hb'
  exact h.disj id id' Ia blk' hne hb hb'
 ·intro id Ia hb
  rw [hh] at hb
  exact h.fresh id Ia hb
theorem HV (h : Bb n0 A O0 w0 s σ φ a w) {ops : Array Oper} {j : Nat} {t : Tmp} {β : Bool} (hj : (ops[j]?).bind (·.dst) = some t) (hd : Sb s.tm t = some (.t .b β)) :
 yielded ops a.tmps j = some β := by
 obtain ⟨v, hv, hr⟩ := h.tm t _ hd
 rw [Yj] at hr
 subst hr
 unfold yielded
 rw [hj, jb, hv]
theorem QX (h : Bb n0 A O0 w0 s σ φ a w) {ops : Array Oper} {j : Nat} {t : Tmp} (hj : (ops[j]?).bind (·.dst) = some t) (hd : Sb s.tm t = some .und) :
 yielded ops a.tmps j = none := by
 obtain ⟨v, hv, hr⟩ := h.tm t _ hd
 rw [ME] at hr
 subst hr
 unfold yielded
 rw [hj, jb, hv]
 rfl
theorem Vf.mono {K : Act → World → Prop} (h : ∀ s σ φ a w, k s = some out → Bb n0 A O0 w0 s σ φ a w → K a w) {a : Act} {w : World} (hg : Vf n0 A O0 w0 k out a w) : K a w := by
 obtain ⟨s, σ, φ, h1, h2⟩ := hg
 exact h s σ φ a w h1 h2
theorem Zag (h : Bb n0 A O0 w0 s σ φ a w) (he : Sg s dst .und [] k = some out) : Vf n0 A O0 w0 k out (a.put dst undef) w := Uc h (ME.2 rfl) he
theorem Dal {n i : Nat} (h : i < n) : (zi n).drop i = i :: (zi n).drop (i + 1) := by
 rw [List.drop_eq_getElem_cons (by simpa using h)]
 simp
theorem Tad (hG : Dk P A.I G) (hfz : WS G A) {r : Nat} {ops : Array Oper} (hQ : ∀ s σ φ a w, k s = some out → Bb n0 A O0 w0 s σ φ a w → Q .normal a w) : ∀ (l : List Oper) (i : Nat) (s : AS) (σ : Nat → Value) (φ : Nat → List Nat) (a : Act) (w : World),
 ops.toList.drop i = l → OG G r ops l i s k = some out → Bb n0 A O0 w0 s σ φ a w → wpOps P ops Q ((zi ops.size).drop i) a w
 | [], i, s, σ, φ, a, w, hl, he, h => by
  have hi : ops.size ≤ i := by
   have := congrArg ja hl
   simp at this
   omega
  rw [List.drop_eq_nil_of_le (by simpa using hi)]
  exact hQ s σ φ a w he h
 | o :: l, i, s, σ, φ, a, w, hl, he, h => by
  have hi : i < ops.size := by
   have := congrArg ja hl
   simp at this
   omega
  have hoi : ops[i]? = some o := by
   have h1 := congrArg (·[0]?) hl
   simpa using h1
  have hl' : ops.toList.drop (i + 1) = l := by
   have h1 := congrArg (yo 1) hl
   simpa [q7, Nat.add_comm] using h1
  have next : ∀ a w, Vf n0 A O0 w0 (fun s' => OG G r ops l (i + 1) s' k) out a w → wpOps P ops Q ((zi ops.size).drop (i + 1)) a w := by
   rintro a w ⟨s', σ', φ', h1, h2⟩
   exact Tad hG hfz hQ l (i + 1) s' σ' φ' a w hl' h1 h2
  simp only [OG] at he
  split at he
  ·simp at he
  rename_i s1 hat
  obtain ⟨φ1, h⟩ := PG hfz h hat
  have run : ∀ s, Bb n0 A O0 w0 s σ φ1 a w → S3 G s o (fun s' => OG G r ops l (i + 1) s' k) = some out → o.wp P a w (wpOps P ops Q ((zi ops.size).drop (i + 1))) Q := fun s hs hop =>
   Oper.wp_mono next (May hG hfz hs hop)
  have skp : ∀ s, Bb n0 A O0 w0 s σ φ1 a w → Sg s o.dst .und [] (fun s' => OG G r ops l (i + 1) s' k) = some out → wpOps P ops Q ((zi ops.size).drop (i + 1)) (a.put o.dst undef) w := fun s hs hop =>
   next _ _ (Zag hs hop)
  rw [Dal hi]
  simp only [wpOps, hoi]
  cases hg : o.guard with
  | none =>
   rw [hg] at he
   have hw : Region.wanted o (yielded ops a.tmps) = true := by simp [Region.wanted, hg]
   rw [if_pos hw]
   exact .inl (run s1 h he)
  | some g =>
   obtain ⟨j, want⟩ := g
   rw [hg] at he
   simp only at he
   split at he
   ·rename_i t ht
    split at he
    ·rename_i β hd
     have hy := HV h ht hd
     have hwd : Region.wanted o (yielded ops a.tmps) = (some β == some want) := by simp [Region.wanted, hg, hy]
     have hs := h.same hd
     rw [hwd]
     cases hβ : (show Bool from β) with
     | true =>
      have hβ' : β = true := hβ
      subst hβ'
      simp only [zz] at he
      cases want with
      | true => rw [if_pos (by rfl)]; exact .inl (run _ hs he)
      | false => rw [if_neg (by simp)]; exact skp _ hs he
     | false =>
      have hβ' : β = false := hβ
      subst hβ'
      simp only [ua] at he
      cases want with
      | true => rw [if_neg (by simp)]; exact skp _ hs he
      | false => rw [if_pos (by rfl)]; exact .inl (run _ hs he)
    ·rename_i hd
     have hy := QX h ht hd
     have hwd : Region.wanted o (yielded ops a.tmps) = false := by simp [Region.wanted, hg, hy]
     rw [hwd, if_neg (by simp)]
     exact skp _ h he
    ·simp at he
   ·simp at he
end
abbrev Ef := D × List (Nat × Option La)
def XW (G : Yf) (s : AS) (o : Oper) (e : Ef) : Prop := ∀ (Out' : Type) (K' : D → List (Nat × Option La) → Option Out'), Zb G s o K' = K' e.1 e.2
theorem XW.congr {G : Yf} {s s' : AS} {o : Oper} {e : Ef} (h : XW G s o e) (ha : Agr s s' o) : XW G s' o e := fun Out' K' => (Laj ha).trans (h Out' K')
def putE (s : AS) (dst : Option Tmp) (e : Ef) : AS := ⟨s.n, (match dst with | some t => [(t, e.1)] | none => []) ++ s.tm, e.2 ++ s.hp⟩
def DQ (G : Yf) (ops : Array Oper) (s : AS) (o : Oper) (e : Ef) : Prop :=
 match o.guard with
 | none => XW G s o e
 | some (j, want) => ∃ t, (ops[j]?).bind (·.dst) = some t ∧ ((∃ β : Bool, Sb s.tm t = some (.t .b β) ∧ (if β = want then XW G s o e else e = (.und, []))) ∨ (Sb s.tm t = some .und ∧ e = (.und, [])))
def Te (ops : Array Oper) (E : Nat → Ef) (L : Nat → Bool) (s0 : AS) : Nat → AS
 | 0 => s0
 | m + 1 => match ops[m]? with
  | some o => bif L m then putE (Te ops E L s0 m) o.dst (E m) else Te ops E L s0 m
  | none => Te ops E L s0 m
structure Kas (H : List Nat) (ops : Array Oper) (s : AS) (o : Oper) (e : Ef) (f : FP) : Prop where
 wt : f.wt = o.dst
 wi : f.wi = e.2.map (·.1)
 mi : f.mi = e.1.ids ++ Gu e.2
 rt : ∀ t, t ∈ Br (Td o.op) → t ∈ f.rt
 rg : ∀ j want t, o.guard = some (j, want) → (ops[j]?).bind (·.dst) = some t → t ∈ f.rt
 ri : UE o.op = false → ∀ x, x ∈ Td o.op → ∀ d, s.ev x = some d → ∀ id, (d.ment id = true ∨ (AH o.op = true ∧ id ∈ UK s d)) → id ∈ f.ri ∨ (Ki o.op = true ∧ id ∈ H)
def XS (H : List Nat) (s : AS) (e : Ef) : Prop := ∀ id, id ∈ H → id ∈ e.2.map (·.1) → ((Sb e.2 id).join).map La.kind = (s.heap id).map La.kind
structure PM (G : Yf) (H : List Nat) (ops : Array Oper) (s0 : AS) (E : Nat → Ef) (F : Nat → FP) (anc : Nat → List Nat) (m : Nat) (o : Oper) : Prop where
 step : DQ G ops (Te ops E (fun _ => true) s0 m) o (E m)
 fp : Kas H ops (Te ops E (fun _ => true) s0 m) o (E m) (F m)
 dst : ∀ t, o.dst = some t → t < s0.n
 back : ∀ e, e ∈ o.after.toList → Region.binds .any e = true → e.on < m
 up : ∀ x, x ∈ anc m → ∃ e, e ∈ o.after.toList ∧ Region.binds .any e = true ∧ (x = e.on ∨ x ∈ anc e.on)
 ind : ∀ j, j < m → j ∈ anc m ∨ Y1 (F j) (F m) = true
 hard : XS H (Te ops E (fun _ => true) s0 m) (E m)
theorem UR {l : List Nat} {x : Nat} : VF l x = true ↔ x ∈ l := by
 unfold VF
 rw [yf]
 constructor
 ·rintro ⟨y, hy, he⟩
  have := ju he
  exact this ▸ hy
 ·intro h; exact ⟨x, h, Nat.beq_refl x⟩
theorem VC {l m : List Nat} (h : IN l m = false) : ∀ x, x ∈ l → x ∉ m := by
 intro x hx hm
 have : IN l m = true := by
  unfold IN
  rw [yf]
  exact ⟨x, hx, UR.2 hm⟩
 rw [h] at this; simp at this
theorem GS {t : Option Nat} {l : List Nat} (h : Tac t l = false) : ∀ x, t = some x → x ∉ l := by
 rintro x rfl hm
 simp only [Tac] at h
 rw [UR.2 hm] at h; simp at h
theorem IX {dst : Option Nat} {l : List Nat} (h : M2 dst l = false) : ∀ id, Wm dst id → id ∉ l := by
 intro id hn hm
 have : M2 dst l = true := by
  unfold M2
  cases dst with
  | some t =>
   simp only []
   rw [yf]
   refine ⟨id, hm, ?_⟩
   rcases hn with hn | hn
   ·simp only [jc] at hn
    subst hn
    simp
   ·simp only [yg] at hn
    have h1 : jx (100000 + 64 * t) id = true := ji hn.1
    have h2 : ym id (100064 + 64 * t) = true := by rw [yq]; exact hn.2
    simp [h1, h2]
  | none =>
   simp only []
   rw [yf]
   refine ⟨id, hm, ?_⟩
   rcases hn with hn | hn
   ·simp at hn
   ·simp only [Option.getD_none] at hn
    have hn1 : 100000 ≤ id := by simpa using hn.1
    have hn2 : id < 100064 := by simpa using hn.2
    have h1 : jx 100000 id = true := ji hn1
    have h2 : ym id 100064 = true := by rw [yq]; exact hn2
    simp [h1, h2]
 rw [h] at this; simp at this
structure NH (f g : FP) : Prop where
 t1 : ∀ x, f.wt = some x → x ∉ g.rt
 t2 : ∀ x, g.wt = some x → x ∉ f.rt
 t3 : ∀ x, f.wt = some x → g.wt ≠ some x
 i1 : ∀ x, x ∈ f.wi → x ∉ g.ri
 i2 : ∀ x, x ∈ g.wi → x ∉ f.ri
 i3 : ∀ x, x ∈ f.wi → x ∉ g.wi
 n1 : ∀ id, Wm f.wt id → id ∉ g.mi
 n2 : ∀ id, Wm g.wt id → id ∉ f.mi
theorem NH.symm {f g : FP} (h : NH f g) : NH g f :=
 ⟨h.t2, h.t1, fun x hx hf => h.t3 x hf hx, h.i2, h.i1, fun x hx hf => h.i3 x hf hx, h.n2, h.n1⟩
theorem Eab {f g : FP} (h : Y1 f g = true) : NH f g := by
 simp only [Y1, jd, yx] at h
 obtain ⟨⟨⟨⟨⟨⟨⟨h1, h2⟩, h3⟩, h4⟩, h5⟩, h6⟩, h7⟩, h8⟩ := h
 refine ⟨GS h1, GS h2, fun x hx hg => ?_, VC h4, VC h5, VC h6, IX h7, IX h8⟩
 exact GS h3 x hx (by rw [hg]; simp)
theorem DL : ∀ {d : D} {id : Nat}, d.ment id = true ↔ id ∈ d.ids := by
 intro d
 induction d with
 | pr a b iha ihb => intro id; simp [D.ment, D.ids, iha, ihb]
 | tup d ih => intro id; simp only [D.ment, D.ids]; exact ih
 | own j => intro id; simp only [D.ment, D.ids, qg]; exact ⟨fun h => (ju h).symm, fun h => by rw [h]; exact Nat.beq_refl _⟩
 | mpo j => intro id; simp only [D.ment, D.ids, qg]; exact ⟨fun h => (ju h).symm, fun h => by rw [h]; exact Nat.beq_refl _⟩
 | cut j lo hi => intro id; simp only [D.ment, D.ids, qg]; exact ⟨fun h => (ju h).symm, fun h => by rw [h]; exact Nat.beq_refl _⟩
 | ptr j p => intro id; simp only [D.ment, D.ids, qg]; exact ⟨fun h => (ju h).symm, fun h => by rw [h]; exact Nat.beq_refl _⟩
 | eptr j i p => intro id; simp only [D.ment, D.ids, qg]; exact ⟨fun h => (ju h).symm, fun h => by rw [h]; exact Nat.beq_refl _⟩
 | _ => intro id; simp [D.ment, D.ids]
theorem LO {id : Nat} : ∀ {u : List (Nat × Option La)}, (u.any fun x => (x.2.map (La.ment id)).getD false) = true ↔ id ∈ Gu u
 | [] => by simp [Gu]
 | (j, none) :: r => by
  simp only [List.any_cons, Gu, Option.map_none, Option.getD_none, zd]
  exact LO (u := r)
 | (j, some b) :: r => by
  simp only [List.any_cons, Gu, qf, yg, ye, jl]
  rw [LO (u := r)]
  refine or_congr ?_ Iff.rfl
  cases b with
  | box ρ d => simp only [La.ment, La.ids]; exact DL
  | row e dp xs => simp [La.ment, La.ids]
  | hol e xs i x p τ d => simp only [La.ment, La.ids]; exact DL
  | mov e xs k => simp [La.ment, La.ids]
  | mp k v xs => simp [La.ment, La.ids]
section
variable {s s' : AS} {e : Ef} {dst : Option Tmp} {G : Yf} {ops : Array Oper}
theorem OB {t : Nat} : Sb (putE s dst e).tm t = if dst = some t then some e.1 else Sb s.tm t := by
 cases dst with
 | none => simp [putE]
 | some t' => simp [putE, Id]
theorem Uac {α : Type} {l m : List (Nat × α)} {k : Nat} : Sb (l ++ m) k = if k ∈ l.map (·.1) then Sb l k else Sb m k := by
 induction l with
 | nil => simp
 | cons p l ih =>
  obtain ⟨j, a⟩ := p
  rw [yu, Id, Id, ih]
  by_cases h : j = k
  ·subst h; simp
  ·have h' : ¬ k = j := fun e => h e.symm
   have hk : k ∈ ((j, a) :: l).map (·.1) ↔ k ∈ l.map (·.1) := by simp [h']
   simp only [hk, if_neg h]
theorem Zw {id : Nat} : (putE s dst e).heap id = if id ∈ e.2.map (·.1) then (Sb e.2 id).join else s.heap id := by
 simp only [AS.heap, putE, Uac]
 split <;> rfl
theorem Rau {id : Nat} (h : id ∉ e.1.ids ++ Gu e.2) : (putE s dst e).newOk id = s.newOk id := by
 rw [jl, not_or] at h
 have h1 : e.1.ment id = false := by rw [← qd]; exact fun hm => h.1 (DL.1 hm)
 have h2 : (e.2.any fun x => (x.2.map (La.ment id)).getD false) = false := by rw [← qd]; exact fun hm => h.2 (LO.1 hm)
 unfold AS.newOk
 congr 2
 simp only [AS.ment, putE, List.any_append, h2, zd]
 cases dst with
 | none => simp
 | some t => simp [h1]
theorem Y3 {x : Operand} {l : List Operand} (hx : x ∈ l) (h : ∀ t, t ∈ Br l → Sb s'.tm t = Sb s.tm t) : s'.ev x = s.ev x := by
 cases x with
 | tmp t =>
  refine h t ?_
  induction l with
  | nil => simp at hx
  | cons y l ih =>
   rcases jp.1 hx with e | hx2
   ·subst e; simp [Br]
   ·cases y with
    | tmp t' => simp only [Br]; exact jr _ (ih (fun t ht => h t (by simp only [Br]; exact jr _ ht)) hx2)
    | const v => simp only [Br]; exact ih (fun t ht => h t (by simp only [Br]; exact ht)) hx2
    | global g => simp only [Br]; exact ih (fun t ht => h t (by simp only [Br]; exact ht)) hx2
    | func g => simp only [Br]; exact ih (fun t ht => h t (by simp only [Br]; exact ht)) hx2
 | _ => rfl
theorem T6 {E : Nat → Ef} {F : Nat → FP} {L L' : Nat → Bool} {s0 : AS} {f : FP}
 (hF : ∀ m o, ops[m]? = some o → (F m).wt = o.dst ∧ (F m).wi = (E m).2.map (·.1) ∧ (F m).mi = (E m).1.ids ++ Gu (E m).2)
 (hd : ∀ m, m < ops.size → L m ≠ L' m → NH (F m) f) : ∀ m, m ≤ ops.size →
 (∀ t, t ∈ f.rt → Sb (Te ops E L s0 m).tm t = Sb (Te ops E L' s0 m).tm t) ∧ (∀ id, id ∈ f.ri → (Te ops E L s0 m).heap id = (Te ops E L' s0 m).heap id) ∧
  (∀ id, Wm f.wt id → (Te ops E L s0 m).newOk id = (Te ops E L' s0 m).newOk id)
 | 0, _ => ⟨fun _ _ => rfl, fun _ _ => rfl, fun _ _ => rfl⟩
 | m + 1, hm => by
  obtain ⟨h1, h2, h3⟩ := T6 hF hd m (by omega)
  have hom : ops[m]? = some ops[m] := Array.getElem?_eq_getElem (by omega)
  obtain ⟨g1, g2, g3⟩ := hF m _ hom
  simp only [Te, hom]
  have apart : L m ≠ L' m → NH (F m) f := hd m (by omega)
  have p1 : ∀ (S : AS) t, L m ≠ L' m → t ∈ f.rt → Sb (putE S ops[m].dst (E m)).tm t = Sb S.tm t := by
   intro S t hne ht
   rw [OB, if_neg]
   intro hdst
   exact (apart hne).t1 t (g1.trans hdst) ht
  have p2 : ∀ (S : AS) id, L m ≠ L' m → id ∈ f.ri → (putE S ops[m].dst (E m)).heap id = S.heap id := by
   intro S id hne hid
   rw [Zw, if_neg]
   intro hk
   exact (apart hne).i1 id (by rw [g2]; exact hk) hid
  have p3 : ∀ (S : AS) id, L m ≠ L' m → Wm f.wt id → (putE S ops[m].dst (E m)).newOk id = S.newOk id := by
   intro S id hne hid
   refine Rau ?_
   rw [← g3]
   exact (apart hne).n2 id hid
  cases hL : L m <;> cases hL' : L' m <;> simp only [zz, ua]
  ·exact ⟨h1, h2, h3⟩
  ·have hne : L m ≠ L' m := by rw [hL, hL']; simp
   exact ⟨fun t ht => (h1 t ht).trans (p1 _ t hne ht).symm, fun id hid => (h2 id hid).trans (p2 _ id hne hid).symm, fun id hid => (h3 id hid).trans (p3 _ id hne hid).symm⟩
  ·have hne : L m ≠ L' m := by rw [hL, hL']; simp
   exact ⟨fun t ht => (p1 _ t hne ht).trans (h1 t ht), fun id hid => (p2 _ id hne hid).trans (h2 id hid), fun id hid => (p3 _ id hne hid).trans (h3 id hid)⟩
  ·refine ⟨fun t ht => ?_, fun id hid => ?_, fun id hid => ?_⟩
   ·rw [OB, OB, h1 t ht]
   ·rw [Zw, Zw, h2 id hid]
   ·have e0 := h3 id hid
    unfold AS.newOk at e0 ⊢
    simp only [AS.ment, putE, List.any_append] at e0 ⊢
    revert e0
    generalize ((match ops[m].dst with | some t => [(t, (E m).1)] | none => []).any fun x => x.2.ment id) = b1
    generalize ((E m).2.any fun x => (x.2.map (La.ment id)).getD false) = b2
    generalize ((Te ops E L s0 m).tm.any fun x => x.2.ment id) = c1
    generalize ((Te ops E L s0 m).hp.any fun x => (x.2.map (La.ment id)).getD false) = c2
    generalize ((Te ops E L' s0 m).tm.any fun x => x.2.ment id) = d1
    generalize ((Te ops E L' s0 m).hp.any fun x => (x.2.map (La.ment id)).getD false) = d2
    generalize ym id 500000 = z
    cases b1 <;> cases b2 <;> cases c1 <;> cases c2 <;> cases d1 <;> cases d2 <;> cases z <;> simp
theorem NZ {E : Nat → Ef} {H : List Nat} {s0 : AS} : ∀ (m : Nat), m ≤ ops.size → (∀ j o, j < m → ops[j]? = some o → XS H (Te ops E (fun _ => true) s0 j) (E j)) → ∀ id, id ∈ H → ∀ L : Nat → Bool, ((Te ops E L s0 m).heap id).map La.kind = (s0.heap id).map La.kind
 | 0, _, _, _, _, _ => rfl
 | m + 1, hm, hh, id, hid, L => by
  have ih := NZ m (by omega) (fun j o hj => hh j o (by omega)) id hid
  have hom : ops[m]? = some ops[m] := Array.getElem?_eq_getElem (by omega)
  simp only [Te, hom]
  cases hL : L m with
  | false => simp only [ua]; exact ih L
  | true =>
   simp only [zz]
   rw [Zw]
   split
   ·rename_i hk
    rw [hh m _ (by omega) hom id hid hk]
    exact ih _
   ·exact ih L
theorem H3 {E : Nat → Ef} {L : Nat → Bool} {s0 : AS} : ∀ m, (Te ops E L s0 m).n = s0.n
 | 0 => rfl
 | m + 1 => by
  simp only [Te]
  split
  ·cases L m with
   | true => simp only [zz, putE]; exact H3 m
   | false => simp only [ua]; exact H3 m
  ·exact H3 m
theorem YA {E E' : Nat → Ef} {L L' : Nat → Bool} {s0 : AS} : ∀ m, (∀ j, j < m → E j = E' j ∧ L j = L' j) → Te ops E L s0 m = Te ops E' L' s0 m
 | 0, _ => rfl
 | m + 1, h => by
  have ih := YA (E := E) (E' := E') (L := L) (L' := L') (s0 := s0) m fun j hj => h j (by omega)
  simp only [Te, ih, (h m (by omega)).1, (h m (by omega)).2]
theorem OZ {E : Nat → Ef} {L : Nat → Bool} {s0 : AS} {i : Nat} : ∀ m, i ≤ m → (∀ j, i ≤ j → j < m → L j = false) → Te ops E L s0 m = Te ops E L s0 i
 | 0, h, _ => by
  have : i = 0 := by omega
  subst this; rfl
 | m + 1, h, hL => by
  by_cases he : i = m + 1
  ·subst he; rfl
  ·rw [← OZ m (by omega) fun j h1 h2 => hL j h1 (by omega)]
   simp only [Te, hL m (by omega) (by omega)]
   split <;> rfl
theorem Cah {E : Nat → Ef} {F : Nat → FP} {L : Nat → Bool} {s0 : AS} {i : Nat} {o : Oper} (hi : ops[i]? = some o)
 (hF : ∀ m o, ops[m]? = some o → (F m).wt = o.dst ∧ (F m).wi = (E m).2.map (·.1) ∧ (F m).mi = (E m).1.ids ++ Gu (E m).2)
 (hLi : L i = false) (hd : ∀ m, m < ops.size → i < m → L m = true → NH (F m) (F i)) : ∀ m, i < m → m ≤ ops.size →
 Eqv (putE (Te ops E L s0 m) o.dst (E i)) (Te ops E (fun j => L j || yd j i) s0 m)
 | 0, h, _ => by omega
 | m + 1, h, hm => by
  by_cases he : m = i
  ·subst he
   have h1 : Te ops E L s0 (m + 1) = Te ops E L s0 m := by simp only [Te, hLi]; split <;> rfl
   have h2 : Te ops E (fun j => L j || yd j m) s0 m = Te ops E L s0 m := YA m fun j hj => by
    refine ⟨rfl, ?_⟩
    have : yd j m = false := by rw [← qd]; intro e; have := ju e; omega
    simp [this]
   have h3 : Te ops E (fun j => L j || yd j m) s0 (m + 1) = putE (Te ops E L s0 m) o.dst (E m) := by
    simp only [Te, hi, Nat.beq_refl, Bool.or_true, zz]
    rw [h2]
   rw [h1, h3]
   exact Eqv.refl _
  ·have ih := Cah (s0 := s0) hi hF hLi hd m (by omega) (by omega)
   have hom : ops[m]? = some ops[m] := Array.getElem?_eq_getElem (by omega)
   have hb : yd m i = false := by rw [← qd]; intro e; exact he (ju e)
   obtain ⟨g1, g2, g3⟩ := hF m _ hom
   obtain ⟨k1, k2, k3⟩ := hF i _ hi
   simp only [Te, hom, hb, Bool.or_false]
   cases hL : L m with
   | false => exact ih
   | true =>
    simp only [zz]
    have hind := hd m (by omega) (by omega) hL
    refine ⟨by simp only [putE]; exact ih.n, fun t => ?_, fun id => ?_⟩
    ·rw [OB, OB, OB, ih.tm t, OB]
     by_cases h1 : ops[m].dst = some t
     ·rw [if_pos h1, if_neg, if_pos h1]
      intro h2
      exact hind.t3 t (g1.trans h1) (k1.trans h2)
     ·rw [if_neg h1, if_neg h1]
    ·rw [Zw, Zw, Zw, ih.hp id, Zw]
     by_cases h1 : id ∈ (E m).2.map (·.1)
     ·rw [if_pos h1, if_neg, if_pos h1]
      intro h2
      exact hind.i3 id (by rw [g2]; exact h1) (by rw [k2]; exact h2)
     ·rw [if_neg h1, if_neg h1]
end
end KF
