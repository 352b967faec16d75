/- An evaluator of Go functions on plain data, its soundness, and plain laws on what the functions compute, part 2 (conditions: as each lemma tells). -/
import Derived.Test.YticcaclccdakbaaGreatDoorA
import Derived.Deep.AppendSrc
import Derived.Deep.Upon
import Derived.Laws.CopyRow
import Derived.MapKept
set_option linter.unusedSimpArgs false
set_option linter.unusedVariables false
namespace KF
open Go
open List renaming length → ja, getElem?_eq_getElem → je, append → jf, mem_append → jl, mem_cons → jp, mem_cons_of_mem → jr, length_cons → jw, set → j6, length_nil → j7, mem_singleton → qc, length_append → qd, getD_eq_getElem?_getD → qf, getElem_mem → qi, getElem_of_mem → qj, mem_map → qk, length_drop → ql, ext_getElem? → qp, drop_drop → qq, toArray → qr, getD → qs, getElem?_eq_none → qt, mem_append_left → qu, mem_append_right → qv, any_eq_true → qy, append_assoc → q0, eq_nil_of_length_eq_zero → q7, getElem?_eq_some_iff → q8, length_eq_one_iff → q9, replicate → yd, cons_append → yg, map_cons → yi, nodup_cons → yk, nodup_append → yl, size_toArray → ym, flatten_cons → yn, length_map → yp, mem_map_of_mem → yt, map_append → yu, all_eq_true → yv, append_nil → yw, range → yy, map → za, append_eq → zb, not_mem_nil → zd
open Option renaming bind_some → jb, bind → jz, map_some → qb, bind_eq_some_iff → qe, getD_some → qz, map_eq_some_iff → yx
open Option.some renaming injEq → jc, inj → y3
open Bool renaming and_eq_true → jd, not_true → jg, true_and → jk, false_eq_true → jq, not_false → j8, not_eq_true → j9, eq_iff_iff → qm, or_eq_true → qx, not_eq_true' → yj, or_eq_false_iff → yq, false_or → yr
open Prod.mk renaming injEq → jh
open Nat renaming ble_eq_true_of_le → ji, mul_le_mul_right → jm, le_refl → jo, zero_add → js, add_assoc → jt, eq_of_beq_eq_true → ju, ble → jx, le_trans → qa, lt_of_lt_of_le → qh, beq → qw, le_of_ble_eq_true → q6, add_zero → ya, blt → yb, blt_eq → ye, add_mul → yf, succ_mul → yo
open Int renaming toNat_natCast → jn, eq_ofNat_of_zero_le → jv, toNat → jy, tmod → yc
open Go.IntKind renaming wrap → j4, wrap → j5
open Sum renaming elim_inl → qg
open Result renaming andThen_ok → qn
open Sem renaming run_bind → qo
open List.cons renaming injEq → yh
open Sum.inl renaming injEq → yz
section
variable {P : Program} {Out : Type} {n0 : Nat} {A : Fx} {O0 : Nat → Prop} {w0 w w' : World} {s : AS} {σ σ' : Nat → Value} {φ φ' : Nat → List Nat} {a : Act}
variable {o : Oper} {Q : Exit → Act → World → Prop} {k : AS → Option Out} {out : Out} {d : D} {v : Value} {upd : List (Nat × Option Ia)} {dst : Option Tmp} {G : Ue}
theorem Sak (hG : EnvTy P G) (h : Qa n0 A O0 w0 s σ φ a w) {t : TypeId} {x y : Operand} (ho : o.op = .store t x y)
 (he : Hf G s o k = some out) : o.wp P a w (Ve n0 A O0 w0 k out) Q := by
 simp only [Hf, Sb, ho] at he
 split at he
 ·
  rename_i τ id path dv hty hx hy
  split at he
  ·rename_i ρ d hb
   split at he
   ·rename_i τ' d' ht hd
    split at he
    ·rename_i q hq
     obtain rfl := Ud hq
     cases hsb : Uc τ' dv with
     | false => rw [hsb] at he; simp at he
     | true =>
      rw [hsb] at he
      simp only [ze] at he
      have hse := Xm hsb
      have hv := h.ev hx
      rw [Uq] at hv
      obtain ⟨b, hσ, hv⟩ := hv.2 ρ d hb
      obtain ⟨hs, b', cur, et, hσ', hh, hF, hr, hsz⟩ := h.hp id _ hb
      rw [hσ] at hσ'
      simp at hσ'
      subst hσ'
      obtain ⟨hre, hve⟩ := Ye hse (h.ev hy)
      have hlen := Ab.length hse hre
      have hle := Ai ht
      have hl := Sz (w := w) (hG.ty _ _ hty) hh (by omega : Hb ρ path + τ'.size ≤ cur.size) hlen (Ab.one hre)
      obtain ⟨hsd, hrd⟩ := Ab.setAt (w := w) (O := OO O0 s φ) (hp := s.heap) (σ := σ) hs ht hse hd
      have hr' := hrd hr hre
      have hc : Qa n0 A O0 w0 ⟨s.n, s.tm, (id, some (.box ρ d')) :: (Kc [] ++ s.hp)⟩ σ (Xg φ id (φ id)) a (w.setRow b (Ub cur.toList (Hb ρ path) (a.eval y).cells.toList).toArray) := by
       refine h.turn (blk0 := .box ρ d) (Da := .box ρ d') hb rfl [] (by simp) (by simp) (φ id) (by simp) ?_ rfl rfl rfl (h.nodup _ _ hb) (fun c hc => .inr (.inl hc)) ?_
       ·intro c _ hc _
        rw [hF] at hc
        exact setRow_other w b c _ (by simpa using hc)
       ·intro hp' O' hO hcp
        refine ⟨hsd, b, _, et, hσ, setRow_heap w b cur _ et (0, 0) hh, hF, ?_, ?_⟩
        ·refine Ab.stable ?_ hO d' _ (fun j _ => hcp j) (by simpa using hr')
         intro c hc _
         refine setRow_other w b c _ fun e => hc (.inr ⟨id, _, hb, ?_⟩)
         rw [hF, e]; simp
        ·have := Qg (cs := cur.toList) (ce := (a.eval y).cells.toList) (o := Hb ρ path) (by rw [hlen]; simp; omega)
         simpa [this] using hsz
      refine LD (w' := w.setRow b (Ub cur.toList (Hb ρ path) (a.eval y).cells.toList).toArray) ?_ (Me rfl hc ?_ he)
      ·simp [execOp, ho, hv, Instr.storeAt, Instr.sureAddr, hl]
      ·exact Dx.2 rfl
    ·simp at he
   ·simp at he
  ·simp at he
 ·
  rename_i τ id i path dv hty hx hy
  split at he
  ·rename_i e dp xs hb
   split at he
   ·rename_i τ' ht
    split at he
    ·rename_i q hq
     obtain rfl := Ud hq
     have hv := h.ev hx
     rw [Sj] at hv
     obtain ⟨hi, b, off, cap, hσ, hv⟩ := hv.2 _ _ _ hb rfl
     have hle := Ai ht
     cases hf : (dp || e.flat) with
     | true =>
      rw [hf] at he
      simp only [ze] at he
      split at he
      ·rename_i y' l hoT
       cases hck : ((dp || l.isEmpty) && Nf (id :: l)) with
       | false => rw [hck] at he; simp at he
       | true =>
        rw [hck] at he
        simp only [ze] at he
        simp only [jd] at hck
        have hnd := Gh hck.2
        cases hxi : xs[i]? with
        | none => simp [hxi] at he
        | some x0 =>
         simp only [hxi, jb] at he
         split at he
         ·rename_i x' hset
          have hse := Kj hoT
          obtain ⟨hre, hve⟩ := Ye hse (h.ev hy)
          have hlen := Ab.length hse hre
          obtain ⟨hoy, hlive⟩ := Jn h hoT hre
          have hrow := JQ (h.hp id _ hb) (by simpa using hf)
          rw [hσ] at hrow
          have hblk : ∃ cur et, w.heap[b]? = some (.cells cur et (0, 0)) ∧ off + cap * e.size ≤ cur.size ∧ ja xs ≤ cap ∧ b ∈ φ id := by
           obtain ⟨hm, ⟨h1, _⟩ | ⟨bl, off', cap', cur', et', Fs, h1, hh, h2, h3, h4, hF, hl, _⟩⟩ := hrow
           ·simp at h1
           ·simp at h1
            obtain ⟨⟨rfl, rfl⟩, rfl⟩ := h1
            exact ⟨cur', et', hh, h4, h2, by rw [hF]; simp⟩
          obtain ⟨cur, et, hh, hsz, hnc, hbm⟩ := hblk
          have hlt : (i + 1) * e.size ≤ cap * e.size := jm _ (by omega)
          rw [yo] at hlt
          have hl := Sz (w := w) (hG.ty _ _ hty) hh (by omega : off + i * e.size + Hb e path + τ'.size ≤ cur.size) hlen (Tb.one hoy)
          have hFF : (φ id ++ Ea φ l).Nodup := by
           have := Rf h hnd (by
            intro j hj
            rcases jp.1 hj with rfl | hj
            ·exact ⟨_, hb⟩
            ·exact hlive j hj)
           simpa [Ea] using this
          obtain ⟨F', hown', hF', hsub⟩ := Yah hrow hFF hxi hset ht hoy hh
          have hc : Qa n0 A O0 w0 ⟨s.n, s.tm, (id, some (.row e dp (j6 xs i x'))) :: (Kc l ++ s.hp)⟩ σ (Xg φ id F') a (w.setRow b (Ub cur.toList (off + i * e.size + Hb e path) (a.eval y).cells.toList).toArray) := by
           refine h.turn (blk0 := .row e dp xs) hb (by simp [Ia.like]) l hlive (yk.1 hnd).1 F' (by simp) ?_ rfl rfl rfl hF' ?_ ?_
           ·intro c _ hc _
            exact setRow_other w b c _ fun e => hc (e ▸ hbm)
           ·intro c hc
            rcases hsub c hc with hc | hc
            ·exact .inr (.inl hc)
            ·exact .inr (.inr (Cb.1 hc))
           ·intro hp' O' _ _
            cases dp with
            | true => simp only [Nc]; rw [hσ]; exact hown'
            | false => exact UX (by rw [hσ]; exact hown') (by simpa using hf)
          refine LD (w' := w.setRow b (Ub cur.toList (off + i * e.size + Hb e path) (a.eval y).cells.toList).toArray) ?_ (Me rfl hc ?_ he)
          ·simp [execOp, ho, hv, Instr.storeAt, Instr.sureAddr, hl]
          ·exact Dx.2 rfl
         ·simp at he
      ·simp at he
     | false =>
      rw [hf] at he
      simp only [zf] at he
      split at he
      ·rename_i y' hoT
       cases hxi : xs[i]? with
       | none => simp [hxi] at he
       | some x0 =>
        simp only [hxi, jb] at he
        split at he
        ·rename_i x' hset
         obtain ⟨hse, hvw⟩ := Wg (w := w) (O := OO O0 s φ) (hp := s.heap) (σ := σ) hoT
         obtain ⟨hre, hve⟩ := Ye hse (h.ev hy)
         have hlen := Ab.length hse hre
         have hvy := hvw _ hre
         have hdp : dp = false := by
          simp only [yq] at hf
          exact hf.1
         subst hdp
         have hrow := h.hp id _ hb
         simp only [Nc, hσ] at hrow
         obtain ⟨hm, ⟨h1, _⟩ | ⟨bl, off', cap', cur, et, h1, hh, h2, h3, h4, hF, hvs⟩⟩ := hrow
         ·simp at h1
         ·simp at h1
          obtain ⟨⟨rfl, rfl⟩, rfl⟩ := h1
          have hlt : (i + 1) * e.size ≤ ja xs * e.size := jm _ hi
          rw [yo] at hlt
          have hcap := jm e.size h2
          have hl := Sz (w := w) (hG.ty _ _ hty) hh (by omega : off + i * e.size + Hb e path + τ'.size ≤ cur.size) hlen (La.one hvy)
          have hxe : List.get xs ⟨i, hi⟩ = x0 := by simpa [je hi] using hxi
          have hvi := hvs i hi
          rw [hxe] at hvi
          have hnew := EP hset ht hvi hvy
          have hc : Qa n0 A O0 w0 ⟨s.n, s.tm, (id, some (.row e false (j6 xs i x'))) :: (Kc [] ++ s.hp)⟩ σ (Xg φ id (φ id)) a (w.setRow b (Ub cur.toList (off + i * e.size + Hb e path) (a.eval y).cells.toList).toArray) := by
           refine h.turn (blk0 := .row e false xs) hb (by simp [Ia.like]) [] (by simp) (by simp) (φ id) (by simp) ?_ rfl rfl rfl (h.nodup _ _ hb) (fun c hc => .inr (.inl hc)) ?_
           ·intro c _ hc _
            rw [hF] at hc
            exact setRow_other w b c _ (by simpa using hc)
           ·intro hp' O' hO _
            have hst : ∀ {τ : Ty} {z : T τ} {cs : List Value}, La w (OO O0 s φ) τ z cs → La (w.setRow b (Ub cur.toList (off + i * e.size + Hb e path) (a.eval y).cells.toList).toArray) O' τ z cs := by
             intro τ z cs hz
             refine La.stable ?_ hO hz
             intro c hc _
             refine setRow_other w b c _ fun e => hc (.inr ⟨id, _, hb, ?_⟩)
             rw [hF, e]; simp
            have hyl := La.length hvy
            refine ⟨by simpa using hm, .inr ⟨b, off, cap, _, et, by simpa using hσ, setRow_heap w b cur _ et (0, 0) hh, by simpa using h2, h3, ?_, hF, ?_⟩⟩
            ·rw [ym, Qg (by have : cur.toList.length = cur.size := Array.length_toList; omega)]
             simpa using h4
            ·intro j hj
             have hjl : j < ja xs := by simpa using hj
             by_cases hji : j = i
             ·subst hji
              have e1 : List.get (j6 xs j x') ⟨j, hj⟩ = x' := by simp
              rw [e1, Aw (by omega) (by omega)]
              exact hst hnew
             ·have e1 : List.get (j6 xs i x') ⟨j, hj⟩ = List.get xs ⟨j, hjl⟩ := by simp [Ne.symm hji]
              have hjle : (j + 1) * e.size ≤ ja xs * e.size := jm _ hjl
              rw [yo] at hjle
              rw [e1, KA (by omega) (by omega) ?_]
              ·exact hst (hvs j hjl)
              ·rcases Nat.lt_or_gt_of_ne hji with hlt' | hlt'
               ·left
                have := jm e.size hlt'
                rw [yo] at this
                omega
               ·right
                have := jm e.size hlt'
                rw [yo] at this
                omega
          refine LD (w' := w.setRow b (Ub cur.toList (off + i * e.size + Hb e path) (a.eval y).cells.toList).toArray) ?_ (Me rfl hc ?_ he)
          ·simp [execOp, ho, hv, Instr.storeAt, Instr.sureAddr, hl]
          ·exact Dx.2 rfl
        ·simp at he
      ·simp at he
    ·simp at he
   ·simp at he
  ·
   rename_i e xs i0 x0 path0 τ0 d hb
   split at he
   ·rename_i τ' ht
    split at he
    ·rename_i q hq
     obtain rfl := Ud hq
     split at he
     ·rename_i y' l hoT
      cases hck : (Nf (id :: l) && (path == path0)) with
      | false => rw [hck] at he; simp at he
      | true =>
       rw [hck] at he
       simp only [ze] at he
       simp only [jd, beq_iff_eq] at hck
       obtain ⟨hnd, hpp⟩ := hck
       subst hpp
       have hnd := Gh hnd
       cases hbi : qw i i0 with
       | false => rw [hbi] at he; simp at he
       | true =>
        rw [hbi] at he
        simp only [ze] at he
        have hii := ju hbi
        subst hii
        split at he
        ·rename_i x' hset
         obtain ⟨hsh, hxi, ht0, hlt, bl, off, cap, cur, et, hσ, hh, hbF, hsz, hrep, hwand⟩ := h.hp id _ hb
         have e1 : τ0 = τ' := by rw [ht0] at ht; simpa using ht
         subst e1
         have hv := h.ev hx
         rw [Sj] at hv
         obtain ⟨hi, b, off', cap', hσ', hv⟩ := hv.2 _ _ _ hb rfl
         rw [hσ] at hσ'
         simp at hσ'
         obtain ⟨⟨rfl, rfl⟩, rfl⟩ := hσ'
         have hle := Ai ht
         have hse := Kj hoT
         obtain ⟨hre, hve⟩ := Ye hse (h.ev hy)
         have hlen := Ab.length hse hre
         obtain ⟨hoy, hlive⟩ := Jn h hoT hre
         have hl := Sz (w := w) (hG.ty _ _ hty) hh (by omega : off + i * e.size + Hb e path + τ0.size ≤ cur.size) hlen (Tb.one hoy)
         have hFF : (φ id ++ Ea φ l).Nodup := by
          have := Rf h hnd (by
           intro j hj
           rcases jp.1 hj with rfl | hj
           ·exact ⟨_, hb⟩
           ·exact hlive j hj)
          simpa [Ea] using this
         have hnot : bl ∉ Ea φ l := fun hm => (yl.1 hFF).2.2 bl hbF bl hm rfl
         have hst : ∀ c, c ≠ bl → (w.setRow bl (Ub cur.toList (off + i * e.size + Hb e path) (a.eval y).cells.toList).toArray).heap[c]? = w.heap[c]? := fun c hc => setRow_other w bl c _ hc
         obtain ⟨F', hperm, hown'⟩ := hwand (w.setRow bl (Ub cur.toList (off + i * e.size + Hb e path) (a.eval y).cells.toList).toArray) _ hlen (fun c _ hne => hst c hne)
          (setRow_heap w bl cur _ et (0, 0) hh) y' (Ea φ l) x' (hoy.stable fun c hc => hst c fun e => hnot (e ▸ hc)) hset
         have hc : Qa n0 A O0 w0 ⟨s.n, s.tm, (id, some (.row e true (j6 xs i x'))) :: (Kc l ++ s.hp)⟩ σ (Xg φ id F') a (w.setRow bl (Ub cur.toList (off + i * e.size + Hb e path) (a.eval y).cells.toList).toArray) := by
          refine h.turn (blk0 := .hol e xs i x0 path τ0 d) hb (by simp [Ia.like]) l hlive (yk.1 hnd).1 F' (by simp) ?_ rfl rfl rfl (hperm.nodup_iff.2 hFF) ?_ ?_
          ·intro c _ hc _
           exact hst c fun e => hc (e ▸ hbF)
          ·intro c hc
           rcases jl.1 (hperm.mem_iff.1 hc) with hc | hc
           ·exact .inr (.inl hc)
           ·exact .inr (.inr (Cb.1 hc))
          ·intro hp' O' _ _
           exact hown'
         refine LD (w' := w.setRow bl (Ub cur.toList (off + i * e.size + Hb e path) (a.eval y).cells.toList).toArray) ?_ (Me rfl hc ?_ he)
         ·simp [execOp, ho, hv, Instr.storeAt, Instr.sureAddr, hl]
         ·exact Dx.2 rfl
        ·simp at he
     ·simp at he
    ·simp at he
   ·simp at he
  ·simp at he
 ·simp at he
end
def Vy (L : List Value) (i size : Nat) : List Value := (L.drop (i * size)).take size
structure El (w : World) (O : Nat → Prop) (dq : Bool) (e : Ty) (xs : List (T e)) (L : List Value) (Fs : List (List Nat)) : Prop where
 len : L.length = ja xs * e.size
 flen : Fs.length = ja xs
 el : ∀ i (h : i < ja xs), if dq then Tb w e (List.get xs ⟨i, h⟩) (Vy L i e.size) (Fs.getD i []) else La w O e (List.get xs ⟨i, h⟩) (Vy L i e.size) ∧ Fs.getD i [] = []
def Mh (w : World) (O : Nat → Prop) (dq : Bool) (e : Ty) (xs : List (T e)) (v : Value) (F : List Nat) : Prop :=
 ja xs ≤ Aj ∧ ((v = .slice none 0 0 ∧ xs = ([] : List (T e)) ∧ F = []) ∨
  ∃ bl off cap cur et Fs, v = .slice (some ⟨bl, off, none⟩) (ja xs) cap ∧ w.heap[bl]? = some (.cells cur et (0, 0)) ∧
   ja xs ≤ cap ∧ cap ≤ Aj ∧ off + cap * e.size ≤ cur.size ∧ F = bl :: List.flatten Fs ∧ El w O dq e xs (Fd cur off (ja xs * e.size)) Fs)
theorem RK {cur : Array Value} {off n i size : Nat} (hi : i < n) : Vy (Fd cur off (n * size)) i size = Fd cur (off + i * size) size := by
 unfold Vy
 refine JL _ _ _ _ _ ?_
 have : (i + 1) * size ≤ n * size := jm _ hi
 rw [yo] at this
 exact this
theorem BB {Fs : List (List Nat)} (h : ∀ i, i < Fs.length → Fs.getD i [] = []) : Fs.flatten = [] := by
 rw [List.flatten_eq_nil_iff]
 intro l hl'
 obtain ⟨i, hi, rfl⟩ := List.mem_iff_getElem.1 hl'
 have := h i hi
 simpa [qs, hi] using this
theorem Nk {w : World} {O : Nat → Prop} {hp : Nat → Option Ia} {σ : Nat → Value} {id : Nat} {dq : Bool} {e : Ty} {xs : List (T e)} {F : List Nat} :
 Nc w O hp σ id (.row e dq xs) F ↔ Mh w O dq e xs (σ id) F := by
 cases dq with
 | true =>
  simp only [Nc, Tb, Mh]
  constructor
  ·rintro ⟨hm, ⟨h1, h2, h3⟩ | ⟨bl, off, cap, cur, et, Fs, h1, hh, h2, h3, h4, hF, hl, hv⟩⟩
   ·simp only [yh, and_true] at h1
    exact ⟨hm, .inl ⟨h1, h2, h3⟩⟩
   ·simp only [yh, and_true] at h1
    have := jm e.size h2
    refine ⟨hm, .inr ⟨bl, off, cap, cur, et, Fs, h1, hh, h2, h3, h4, hF, ⟨Id (by omega), hl, fun i hi => ?_⟩⟩⟩
    rw [if_pos rfl, RK hi]
    exact hv i hi
  ·rintro ⟨hm, ⟨h1, h2, h3⟩ | ⟨bl, off, cap, cur, et, Fs, h1, hh, h2, h3, h4, hF, hel⟩⟩
   ·exact ⟨hm, .inl ⟨by rw [h1], h2, h3⟩⟩
   ·refine ⟨hm, .inr ⟨bl, off, cap, cur, et, Fs, by rw [h1], hh, h2, h3, h4, hF, hel.flen, fun i hi => ?_⟩⟩
    have := hel.el i hi
    rw [if_pos rfl, RK hi] at this
    exact this
 | false =>
  simp only [Nc, Mh]
  constructor
  ·rintro ⟨hm, ⟨h1, h2, h3⟩ | ⟨bl, off, cap, cur, et, h1, hh, h2, h3, h4, hF, hv⟩⟩
   ·exact ⟨hm, .inl ⟨h1, h2, h3⟩⟩
   ·have := jm e.size h2
    refine ⟨hm, .inr ⟨bl, off, cap, cur, et, yd (ja xs) [], h1, hh, h2, h3, h4, by rw [hF]; simp, ⟨Id (by omega), by simp, fun i hi => ?_⟩⟩⟩
    rw [if_neg (by simp), RK hi]
    exact ⟨hv i hi, by simp [qs, hi]⟩
  ·rintro ⟨hm, ⟨h1, h2, h3⟩ | ⟨bl, off, cap, cur, et, Fs, h1, hh, h2, h3, h4, hF, hel⟩⟩
   ·exact ⟨hm, .inl ⟨h1, h2, h3⟩⟩
   ·refine ⟨hm, .inr ⟨bl, off, cap, cur, et, h1, hh, h2, h3, h4, ?_, fun i hi => ?_⟩⟩
    ·rw [hF, BB]
     intro i hi
     have := hel.el i (by rw [← hel.flen]; exact hi)
     rw [if_neg (by simp)] at this
     exact this.2
    ·have := hel.el i hi
     rw [if_neg (by simp), RK hi] at this
     exact this.1
theorem El.stable {w w' : World} {O O' : Nat → Prop} {dq : Bool} {e : Ty} {xs : List (T e)} {L : List Value} {Fs : List (List Nat)} (h : El w O dq e xs L Fs)
 (hv : ∀ b, ¬ O b → b < w.heap.size → w'.heap[b]? = w.heap[b]?) (hO : ∀ b, b < w.heap.size → ¬ O b → ¬ O' b) (hF : ∀ b, b ∈ Fs.flatten → w'.heap[b]? = w.heap[b]?) :
 El w' O' dq e xs L Fs := by
 refine ⟨h.len, h.flen, fun i hi => ?_⟩
 have := h.el i hi
 cases dq with
 | true =>
  simp only [if_true] at this ⊢
  exact this.stable fun b hb => hF b (Bf hb)
 | false =>
  simp only [jq, if_false] at this ⊢
  exact ⟨La.stable hv hO this.1, this.2⟩
theorem QU {L L' : List Value} {i size : Nat} (h : (i + 1) * size ≤ L.length) : Vy (L ++ L') i size = Vy L i size := by
 rw [yo] at h
 unfold Vy
 rw [List.drop_append_of_le_length (by omega), List.take_append_of_le_length (by simp; omega)]
theorem HS {L L' : List Value} {n j size : Nat} (h : L.length = n * size) : Vy (L ++ L') (n + j) size = Vy L' j size := by
 unfold Vy
 rw [yf, ← h, List.drop_append, List.drop_eq_nil_of_le (by omega)]
 simp
theorem El.append {w : World} {O : Nat → Prop} {dq : Bool} {e : Ty} {xs ys : List (T e)} {L L' : List Value} {Fs Gs : List (List Nat)} (h : El w O dq e xs L Fs) (h' : El w O dq e ys L' Gs) :
 El w O dq e (jf xs ys) (L ++ L') (Fs ++ Gs) := by
 have ha : jf xs ys = xs ++ ys := rfl
 refine ⟨by rw [ha, qd, qd, h.len, h'.len, yf], by rw [ha, qd, qd, h.flen, h'.flen], fun i hi => ?_⟩
 have hi' : i < ja xs + ja ys := by rw [ha, qd] at hi; exact hi
 rcases Nat.lt_or_ge i (ja xs) with hl | hg
 ·have h1 : List.get (jf xs ys) ⟨i, hi⟩ = List.get xs ⟨i, hl⟩ := by
   show (xs ++ ys)[i] = xs[i]
   exact List.getElem_append_left hl
  have h2 : (Fs ++ Gs).getD i [] = Fs.getD i [] := by
   have : i < Fs.length := by rw [h.flen]; exact hl
   simp [qs, List.getElem?_append_left this]
  rw [h1, h2, QU (by rw [h.len]; exact jm _ hl)]
  exact h.el i hl
 ·obtain ⟨j, rfl⟩ := Nat.exists_eq_add_of_le hg
  have hj : j < ja ys := by omega
  have h1 : List.get (jf xs ys) ⟨ja xs + j, hi⟩ = List.get ys ⟨j, hj⟩ := by
   show (xs ++ ys)[ja xs + j] = ys[j]
   rw [List.getElem_append_right (by omega)]
   congr 1; omega
  have h2 : (Fs ++ Gs).getD (ja xs + j) [] = Gs.getD j [] := by
   rw [← h.flen]
   simp [qs, List.getElem?_append_right]
  rw [h1, h2, HS h.len]
  exact h'.el j hj
theorem El.nil {w : World} {O : Nat → Prop} {dq : Bool} {e : Ty} : El w O dq e ([] : List (T e)) [] [] :=
 ⟨by simp, rfl, fun i h => absurd h (by simp)⟩
section
variable {P : Program} {w : World}
theorem FT (t tx ty et : TypeId) (i : TypeInfo) (ht : P.underlying t = some (.slice et)) (hi : P.info? et = some i) {b off sLen sCap : Nat} {x : Value} {n : Nat} {news : List Value} (hs : Src P i.size tx x n news w)
 {cur : Array Value} {ct : TypeId} (hh : w.heap[b]? = some (.cells cur ct (0, 0))) (hroom : sLen + n ≤ sCap) (hfit : off + sLen * i.size + news.length ≤ cur.size) :
 (Builtin.append_ #[t, tx] ty #[.slice (some ⟨b, off, none⟩) sLen sCap, x]).run P w = .ok (.slice (some ⟨b, off, none⟩) (sLen + n) sCap) (w.setRow b (Ub cur.toList (off + sLen * i.size) news).toArray) := by
 have hst := run_storeCells_at P b (off + sLen * i.size) ct news 0 cur w hh (by simpa using hfit) hs.one
 simp only [ya] at hst
 rcases hs.kind with ⟨e', hk⟩ | hk <;> simp [Builtin.append_, run_underlying ht, run_underlying hk, Go.sizeOf, typeInfo, hi, hs.len, hroom, hs.cells, Addr.add_lit, hst, Ub]
theorem KL {cur : Array Value} {off n : Nat} {news : List Value} (h : off + n + news.length ≤ cur.size) :
 Fd (Ub cur.toList (off + n) news).toArray off (n + news.length) = Fd cur off n ++ news := by
 have hs : (Ub cur.toList (off + n) news).length = cur.size := by rw [Qg (by simpa using h)]; simp
 apply qp
 intro j
 by_cases hj : j < n + news.length
 ·rw [Cf _ _ _ _ hj, List.getElem?_toArray, Ji (by simpa using h)]
  by_cases hn : j < n
  ·rw [if_pos (by omega), List.getElem?_append_left (by rw [Id (by omega)]; exact hn), Cf _ _ _ _ hn]; simp
  ·rw [if_neg (by omega), if_pos (by omega), List.getElem?_append_right (by rw [Id (by omega)]; omega), Id (by omega)]
   congr 1; omega
 ·rw [qt (by rw [Id (by simp only [ym, hs]; omega)]; omega), qt (by rw [qd, Id (by omega)]; omega)]
theorem XQ {e : Ty} {t tx ty et : TypeId} (ht : P.underlying t = some (.slice et)) (hte : Nd P e et = true) {O : Nat → Prop} {dq : Bool} {xs ys : List (T e)} {v x : Value} {F : List Nat}
 (hx : Mh w O dq e xs v F) {news : List Value} {Gs : List (List Nat)} (hs : Src P e.size tx x (ja ys) news w) (hy : El w O dq e ys news Gs) (hn : (F ++ Gs.flatten).Nodup)
 (hlim : ja xs + ja ys ≤ Oa) (hFO : ∀ c, c ∈ F → O c) (hGO : ∀ c, c ∈ Gs.flatten → c < w.heap.size) :
 ∃ v' w' F', (Builtin.append_ #[t, tx] ty #[v, x]).run P w = .ok v' w' ∧ v'.oneCell' = true ∧ w.heap.size ≤ w'.heap.size ∧ (∀ c, c < w.heap.size → c ∉ F → w'.heap[c]? = w.heap[c]?) ∧
  w'.os = w.os ∧ w'.tape = w.tape ∧ w'.output = w.output ∧ F'.Nodup ∧ (∀ c, c ∈ F' → w.heap.size ≤ c ∨ c ∈ F ∨ c ∈ Gs.flatten) ∧
  (∀ O', (∀ b, b < w.heap.size → ¬ O b → ¬ O' b) → Mh w' O' dq e (jf xs ys) v' F' ∧ Mh w' O' dq e xs v F) := by
 obtain ⟨i, hi, hsz, hby, hz⟩ := Tok.size hte
 have hal : ja (jf xs ys) = ja xs + ja ys := by show (xs ++ ys).length = _; simp
 have hs' : Src P i.size tx x (ja ys) news w := by rw [hsz]; exact hs
 have hzs : (Od e e.zc).cells.size = e.size := by
  have := CN e
  rw [← Array.length_toList, this, TE]
 have hmaxl : maxLen = 9223372036854775807 := rfl
 have hmaxn : Aj = 9223372036854775807 := rfl
 have hlim' : ja xs + ja ys ≤ 1073741824 := hlim
 have hbytes : (ja xs + ja ys) * i.bytes ≤ 140737488355328 := by
  have := Nat.mul_le_mul hlim' hby
  omega
 have hx0 := hx
 have keep : ∀ (w' : World), (∀ c, c < w.heap.size → w'.heap[c]? = w.heap[c]?) → ∀ O', (∀ b, b < w.heap.size → ¬ O b → ¬ O' b) → Mh w' O' dq e xs v F := by
  intro w' hw O' hO'
  obtain ⟨hm, h | ⟨bl, off, cap, cur, ct, Fs, h1, hh, h2, h3, h4, hF, hel⟩⟩ := hx0
  ·exact ⟨hm, .inl h⟩
  ·refine ⟨hm, .inr ⟨bl, off, cap, cur, ct, Fs, h1, (hw bl (Array.getElem?_eq_some_iff.1 hh).1).trans hh, h2, h3, h4, hF, hel.stable (fun b _ hb => hw b hb) hO' fun b hb => hw b ?_⟩⟩
   obtain ⟨i', hi', hm'⟩ := Bi hb
   have := hel.el i' (by rw [← hel.flen]; exact hi')
   cases dq with
   | true =>
    simp only [if_true] at this
    exact this.lt b hm'
   | false =>
    simp only [jq, if_false] at this
    rw [this.2] at hm'
    simp at hm'
 have grow : ∀ (base : Option Addr) (cap : Nat) (olds : List Value) (Fs : List (List Nat)), v = .slice base (ja xs) cap → cap < ja xs + ja ys →
  (Builtin.firstCells i.size (ja xs) (.slice base (ja xs) cap)).run P w.drew = .ok olds.toArray w.drew → El w O dq e xs olds Fs → (∀ c, c ∈ Fs.flatten → c ∈ F) → (Fs.flatten ++ Gs.flatten).Nodup →
  (∀ c, c ∈ Fs.flatten → c < w.heap.size) →
  ∃ v' w' F', (Builtin.append_ #[t, tx] ty #[v, x]).run P w = .ok v' w' ∧ v'.oneCell' = true ∧ w.heap.size ≤ w'.heap.size ∧ (∀ c, c < w.heap.size → c ∉ F → w'.heap[c]? = w.heap[c]?) ∧
  w'.os = w.os ∧ w'.tape = w.tape ∧ w'.output = w.output ∧ F'.Nodup ∧ (∀ c, c ∈ F' → w.heap.size ≤ c ∨ c ∈ F ∨ c ∈ Gs.flatten) ∧
  (∀ O', (∀ b, b < w.heap.size → ¬ O b → ¬ O' b) → Mh w' O' dq e (jf xs ys) v' F' ∧ Mh w' O' dq e xs v F) := by
  intro base cap olds Fs hv hg hold hel hsub hnd hlt
  have hr := run_append_grow_src (P := P) w t tx ty et i _ ht hi hz base (ja xs) cap olds hold x (ja ys) news hs' hg (by omega) (growslice_fits hg hbytes)
  have hge := grownCap_ge w (ja xs + ja ys) cap et
  have hle := grownCap_le_maxLen w (ja xs + ja ys) cap et (by omega)
  have hold' : ∀ b, b < w.heap.size → (w.drew.alloc (.cells ((olds ++ news).toArray ++ Builtin.zeroCells (Od e e.zc).cells (grownCap w (ja xs + ja ys) cap et - (ja xs + ja ys))) et)).heap[b]? = w.heap[b]? :=
   fun b hb => Og w.drew _ b hb
  refine ⟨_, _, w.heap.size :: (Fs ++ Gs).flatten, by rw [hv]; exact hr, rfl, by simp, fun c hc _ => hold' c hc, rfl, rfl, rfl, ?_, ?_, ?_⟩
  ·rw [yk, List.flatten_append]
   refine ⟨fun hm => ?_, hnd⟩
   rcases jl.1 hm with hm | hm
   ·exact absurd (hlt _ hm) (by omega)
   ·exact absurd (hGO _ hm) (by omega)
  ·intro c hc
   rw [List.flatten_append] at hc
   rcases jp.1 hc with rfl | hc
   ·exact .inl (jo _)
   ·rcases jl.1 hc with hc | hc
    ·exact .inr (.inl (hsub c hc))
    ·exact .inr (.inr hc)
  ·intro O' hO'
   have happ := (hel.append hy).stable (w' := w.drew.alloc (.cells ((olds ++ news).toArray ++ Builtin.zeroCells (Od e e.zc).cells (grownCap w (ja xs + ja ys) cap et - (ja xs + ja ys))) et)) (O' := O')
    (fun b _ hb => hold' b hb) hO' (by
     intro b hb
     rw [List.flatten_append] at hb
     rcases jl.1 hb with hb | hb
     ·exact hold' b (hlt b hb)
     ·exact hold' b (hGO b hb))
   have hol : (olds ++ news).length = ja (jf xs ys) * e.size := (hel.append hy).len
   refine ⟨?_, keep _ (fun c hc => hold' c hc) O' hO'⟩
   refine ⟨by rw [hal]; omega, .inr ⟨w.heap.size, 0, _, _, et, Fs ++ Gs, by rw [hal], heap_alloc_new w.drew _, by rw [hal]; exact hge, by omega, ?_, rfl, ?_⟩⟩
   ·simp only [Array.size_append, ym, size_zeroCells, hzs, hol, hal, ← yf, js]
    exact jm _ (by omega)
   ·have : Fd ((olds ++ news).toArray ++ Builtin.zeroCells (Od e e.zc).cells (grownCap w (ja xs + ja ys) cap et - (ja xs + ja ys))) 0 (ja (jf xs ys) * e.size) = olds ++ news := by
     simp only [Fd, List.drop_zero, Array.toList_append]
     rw [← hol]
     exact List.take_left
    rw [this]
    exact happ
 obtain ⟨hm, ⟨h1, h2, h3⟩ | ⟨bl, off, cap, cur, ct, Fs, h1, hh, h2, h3, h4, hF, hel⟩⟩ := hx
 ·subst h2
  by_cases hm0 : ja ys = 0
  ·have hy0 : ys = ([] : List (T e)) := q7 hm0
   subst hy0
   have hnews : news = [] := q7 (by rw [hs.newsLen]; simp)
   subst hnews
   have hr := run_append_nothing (P := P) w t tx ty et i ht hi none 0 0 (jo _) x hs'
   refine ⟨_, w, [], by rw [h1]; exact hr, rfl, jo _, fun _ _ _ => rfl, rfl, rfl, rfl, List.nodup_nil, by simp, fun O' _ => ⟨⟨by simp, .inl ⟨rfl, rfl, rfl⟩⟩, by simp, .inl ⟨h1, rfl, h3⟩⟩⟩
  ·refine grow none 0 [] [] (by rw [h1]; rfl) (by simp; omega) ?_ El.nil (by simp) (by simpa [h3] using hn) (by simp)
   simpa using run_firstCells_none (P := P) w.drew i.size 0 0 0
 ·have hcap := jm e.size h2
  by_cases hroom : ja xs + ja ys ≤ cap
  ·have hcap2 := jm e.size hroom
   rw [yf] at hcap2
   have hnl := hs.newsLen
   have hr := FT (P := P) (w := w) (b := bl) (off := off) (sLen := ja xs) (sCap := cap) t tx ty et i ht hi hs' hh hroom (by rw [hsz]; omega)
   rw [hsz] at hr
   have hbF : bl ∉ Fs.flatten ∧ bl ∉ Gs.flatten := by
    rw [hF] at hn
    simp only [yg, yk, jl, not_or] at hn
    exact hn.1
   have hblO : O bl := hFO bl (by rw [hF]; simp)
   have hoth : ∀ c, c ≠ bl → (w.setRow bl (Ub cur.toList (off + ja xs * e.size) news).toArray).heap[c]? = w.heap[c]? := fun c hc => setRow_other w bl c _ hc
   refine ⟨_, _, bl :: (Fs ++ Gs).flatten, by rw [h1]; exact hr, rfl, by simp, fun c _ hc => hoth c fun e => hc (by rw [hF, e]; simp), rfl, rfl, rfl, ?_, ?_, ?_⟩
   ·rw [hF] at hn
    rw [List.flatten_append]
    simpa using hn
   ·intro c hc
    rw [List.flatten_append] at hc
    rw [hF]
    simp only [jp, jl] at hc ⊢
    grind
   ·intro O' hO'
    have happ := (hel.append hy).stable (w' := w.setRow bl (Ub cur.toList (off + ja xs * e.size) news).toArray) (O' := O')
     (fun b hb _ => hoth b fun e => hb (e ▸ hblO)) hO' (by
      intro b hb
      rw [List.flatten_append] at hb
      exact hoth b fun e => by
       subst e
       rcases jl.1 hb with hb | hb
       ·exact hbF.1 hb
       ·exact hbF.2 hb)
    have hcl : cur.toList.length = cur.size := Array.length_toList
    have hsl := Qg (cs := cur.toList) (ce := news) (o := off + ja xs * e.size) (by omega)
    have hold := hel.stable (w' := w.setRow bl (Ub cur.toList (off + ja xs * e.size) news).toArray) (O' := O')
     (fun b hb _ => hoth b fun e => hb (e ▸ hblO)) hO' (by
      intro b hb
      exact hoth b fun e => by
       subst e
       exact hbF.1 hb)
    have hseg : Fd (Ub cur.toList (off + ja xs * e.size) news).toArray off (ja xs * e.size) = Fd cur off (ja xs * e.size) := by
     have h5 := KL (cur := cur) (off := off) (n := ja xs * e.size) (news := news) (by omega)
     have h6 := congrArg (List.take (ja xs * e.size)) h5
     rw [List.take_left' (Id (by omega))] at h6
     rw [← h6]
     unfold Fd
     rw [List.take_take]
     congr 1
     omega
    refine ⟨?_, by omega, .inr ⟨bl, off, cap, _, ct, Fs, h1, setRow_heap w bl cur _ ct (0, 0) hh, h2, h3, by rw [ym, hsl, hcl]; exact h4, hF, by rw [hseg]; exact hold⟩⟩
    refine ⟨by rw [hal]; omega, .inr ⟨bl, off, cap, _, ct, Fs ++ Gs, by rw [hal], setRow_heap w bl cur _ ct (0, 0) hh, by rw [hal]; exact hroom, h3, ?_, rfl, ?_⟩⟩
    ·rw [ym, hsl, hcl]
     exact h4
    ·rw [hal, yf, ← hnl, KL (by omega)]
     exact happ
  ·refine grow (some ⟨bl, off, none⟩) cap (Fd cur off (ja xs * e.size)) Fs h1 (by omega) ?_ hel (fun c hc => by rw [hF]; exact jr _ hc) ?_ ?_
   ·refine run_firstCells_some (P := P) w.drew i.size (ja xs) ⟨bl, off, none⟩ (ja xs) cap _ (by rw [hsz]; exact Id (by omega)) ?_
    intro j u hu
    rw [Ln]
    show w.cell? _ = _
    rw [cell_of_row w bl (off + j) cur ct (0, 0) hh]
    have hj : j < ja xs * e.size := by
     have := (q8.1 hu).1
     rwa [Id (by omega)] at this
    rwa [Cf _ _ _ _ hj] at hu
   ·rw [hF] at hn
    exact (yk.1 (by simpa using hn)).2
   ·intro c hc
    obtain ⟨i', hi', hm'⟩ := Bi hc
    have := hel.el i' (by rw [← hel.flen]; exact hi')
    cases dq with
    | true =>
     simp only [if_true] at this
     exact this.lt c hm'
    | false =>
     simp only [jq, if_false] at this
     rw [this.2] at hm'
     simp at hm'
end
theorem ZN {L : List Value} {i size j : Nat} (hj : j < size) : (Vy L i size)[j]? = L[i * size + j]? := by
 simp [Vy, hj]
theorem El.one {w : World} {O : Nat → Prop} {dq : Bool} {e : Ty} {xs : List (T e)} {L : List Value} {Fs : List (List Nat)} (h : El w O dq e xs L Fs) : ∀ v ∈ L, v.oneCell' = true := by
 intro v hv
 obtain ⟨p, hp, hpv⟩ := List.mem_iff_getElem.1 hv
 have hlen := h.len
 rcases Nat.eq_zero_or_pos e.size with h0 | h0
 ·rw [h0, Nat.mul_zero] at hlen
  omega
 ·have hi : p / e.size < ja xs := by
   rw [Nat.div_lt_iff_lt_mul h0]
   omega
  have hdm : p / e.size * e.size + p % e.size = p := Nat.div_add_mod' p e.size
  have hm : (Vy L (p / e.size) e.size)[p % e.size]? = some v := by
   rw [ZN (Nat.mod_lt _ h0), hdm, je hp, hpv]
  have hmem : v ∈ Vy L (p / e.size) e.size := List.mem_of_getElem? hm
  have := h.el _ hi
  cases dq with
  | true =>
   simp only [if_true] at this
   exact this.one v hmem
  | false =>
   simp only [jq, if_false] at this
   exact this.1.one v hmem
theorem Mh.up {w : World} {O : Nat → Prop} {dp : Bool} {e : Ty} {xs : List (T e)} {v : Value} {F : List Nat} (h : Mh w O dp e xs v F) : Mh w O (dp || e.flat) e xs v F := by
 cases dp with
 | true => exact h
 | false =>
  cases hf : e.flat with
  | false => exact h
  | true =>
   obtain ⟨hm, h | ⟨bl, off, cap, cur, et, Fs, h1, hh, h2, h3, h4, hF, hel⟩⟩ := h
   ·exact ⟨hm, .inl h⟩
   ·refine ⟨hm, .inr ⟨bl, off, cap, cur, et, Fs, h1, hh, h2, h3, h4, hF, hel.len, hel.flen, fun i hi => ?_⟩⟩
    have := hel.el i hi
    simp only [jq, if_false] at this
    simp only [yr, if_true]
    rw [this.2]
    exact this.1.flat hf
theorem HW {L M : List (List Nat)} (h : L.Sublist M) : L.flatten.Sublist M.flatten := by
 induction h with
 | slnil => simp
 | cons a _ ih => rw [yn]; exact ih.trans (List.sublist_append_right _ _)
 | cons_cons a _ ih => rw [yn, yn]; exact (List.Sublist.refl a).append ih
theorem El.nils {w : World} {O : Nat → Prop} {e : Ty} {xs : List (T e)} {L : List Value} {Fs : List (List Nat)} (h : El w O e.flat e xs L Fs) : Fs.flatten = [] :=
 BB fun i hi => by
  have := h.el i (by rw [← h.flen]; exact hi)
  split at this
  ·rename_i hfl; exact Cu hfl this
  ·exact this.2
theorem El.cut {w : World} {O : Nat → Prop} {dq : Bool} {e : Ty} {xs : List (T e)} {L : List Value} {Fs : List (List Nat)} (h : El w O dq e xs L Fs) {lo hi : Nat} (hlo : lo ≤ hi) (hhi : hi ≤ ja xs) :
 El w O dq e (Xa xs lo hi) ((L.drop (lo * e.size)).take ((hi - lo) * e.size)) ((Fs.drop lo).take (hi - lo)) := by
 have hlen : ja (Xa xs lo hi) = hi - lo := PD (xs := (xs : List (T e))) (lo := lo) hhi
 have hmul : (lo + (hi - lo)) * e.size ≤ ja xs * e.size := jm _ (by omega)
 rw [yf] at hmul
 refine ⟨?_, ?_, fun i hi' => ?_⟩
 ·rw [List.length_take, ql, h.len, hlen]; omega
 ·rw [List.length_take, ql, h.flen, hlen]; omega
 ·have hi2 : i < hi - lo := by rw [← hlen]; exact hi'
  have h2 : lo + i < ja xs := by omega
  have := h.el (lo + i) h2
  rw [DS (xs := (xs : List (T e))) hi' h2]
  have hg : ((Fs.drop lo).take (hi - lo)).getD i [] = Fs.getD (lo + i) [] := by
   simp [qs, hi2]
  have he : Vy ((L.drop (lo * e.size)).take ((hi - lo) * e.size)) i e.size = Vy L (lo + i) e.size := by
   unfold Vy
   have h3 : (i + 1) * e.size ≤ (hi - lo) * e.size := jm _ hi2
   rw [yo] at h3
   rw [List.drop_take, List.take_take, qq, yf]
   congr 1
   omega
  rw [hg, he]
  exact this
theorem Mh.slice {w : World} {O : Nat → Prop} {dp : Bool} {e : Ty} {xs : List (T e)} {v : Value} {F : List Nat} (h : Mh w O dp e xs v F) : ∃ ad cap, v = .slice ad (ja xs) cap ∧ ja xs ≤ cap := by
 obtain ⟨hm, ⟨h1, h2, h3⟩ | ⟨bl, off, cap, cur, et, Fs, h1, hh, h2, _⟩⟩ := h
 ·subst h2; exact ⟨none, 0, h1, jo _⟩
 ·exact ⟨_, cap, h1, h2⟩
theorem Mh.addr {w : World} {O : Nat → Prop} {dp : Bool} {e : Ty} {xs : List (T e)} {v : Value} {F : List Nat} (h : Mh w O dp e xs v F) {ad : Addr} {n cap : Nat} (hv : v = .slice (some ad) n cap) : ∃ b off, ad = ⟨b, off, none⟩ := by
 obtain ⟨hm, ⟨h1, h2, h3⟩ | ⟨bl, off, cap, cur, et, Fs, h1, hh, h2, _⟩⟩ := h
 ·rw [hv] at h1; simp at h1
 ·rw [hv] at h1
  simp only [Value.slice.injEq, jc] at h1
  exact ⟨bl, off, h1.1⟩
theorem Mh.cut {w : World} {O : Nat → Prop} {dp : Bool} {e : Ty} {xs : List (T e)} {v : Value} {F : List Nat} (h : Mh w O dp e xs v F) {ad : Option Addr} {n cap lo hi j : Nat} (hv : v = .slice ad n cap) (hlo : lo ≤ hi) (hhi : hi ≤ ja xs)
 (hj1 : j ≤ lo) (hj2 : lo < cap → j = lo) :
 ∃ F', F'.Sublist F ∧ (F.length ≤ 1 → F' = F) ∧ Mh w O dp e (Xa xs lo hi) (.slice (ad.map (·.add (j * e.size))) (hi - lo) (cap - lo)) F' := by
 have hlen : ja (Xa xs lo hi) = hi - lo := PD (xs := (xs : List (T e))) (lo := lo) hhi
 obtain ⟨hm, ⟨h1, h2, h3⟩ | ⟨bl, off, cap', cur, et, Fs, h1, hh, h2, h3, h4, hF, hel⟩⟩ := h
 ·subst h2
  rw [hv] at h1
  simp only [Value.slice.injEq] at h1
  obtain ⟨rfl, rfl, rfl⟩ := h1
  simp at hhi
  obtain rfl : lo = 0 := by omega
  subst hhi
  exact ⟨[], by simp, fun _ => h3.symm, by simp [Xa], .inl ⟨by simp, by simp [Xa], rfl⟩⟩
 ·rw [hv] at h1
  simp only [Value.slice.injEq] at h1
  obtain ⟨rfl, rfl, rfl⟩ := h1
  have hcap := jm e.size h2
  have hjc : j * e.size ≤ cap * e.size := jm _ (by omega)
  have hmul : (lo + (hi - lo)) * e.size ≤ ja xs * e.size := jm _ (by omega)
  rw [yf] at hmul
  have hsl : ((Fs.drop lo).take (hi - lo)).flatten.Sublist Fs.flatten := HW ((List.take_sublist _ _).trans (List.drop_sublist _ _))
  refine ⟨bl :: ((Fs.drop lo).take (hi - lo)).flatten, ?_, ?_, by rw [hlen]; omega, .inr ⟨bl, off + j * e.size, cap - lo, cur, et, _, ?_, hh, by rw [hlen]; omega, by omega, ?_, rfl, ?_⟩⟩
  ·rw [hF]
   exact hsl.cons_cons _
  ·intro h1
   rw [hF] at h1 ⊢
   simp only [jw] at h1
   have h2 : Fs.flatten = [] := q7 (by omega)
   rw [h2] at hsl ⊢
   rw [List.eq_nil_of_sublist_nil hsl]
  ·rw [hlen]; simp [Ln]
  ·have : (j + (cap - lo)) * e.size ≤ cap * e.size := jm _ (by omega)
   rw [yf] at this
   omega
  ·have hc := hel.cut hlo hhi
   rw [hlen]
   rcases Nat.lt_or_ge lo cap with hl | hl
   ·obtain rfl := hj2 hl
    rw [JL _ _ _ _ _ hmul] at hc
    exact hc
   ·have h0 : hi - lo = 0 := by omega
    have hx0 : Xa xs lo hi = ([] : List (T e)) := q7 (hlen.trans h0)
    rw [h0] at hc ⊢
    simpa [Fd] using hc
theorem Mh.flatup {w : World} {O : Nat → Prop} {dp : Bool} {e : Ty} {xs : List (T e)} {v : Value} {F : List Nat} (h : Mh w O dp e xs v F) (hf : e.flat = true ∨ dp = false) : Mh w O e.flat e xs v F := by
 cases hfl : e.flat with
 | true => have := h.up; rw [hfl, Bool.or_true] at this; exact this
 | false =>
  rcases hf with h1 | h1
  ·rw [hfl] at h1; simp at h1
  ·rw [h1] at h; exact h
theorem Mh.len1 {w : World} {O : Nat → Prop} {e : Ty} {xs : List (T e)} {v : Value} {F : List Nat} (h : Mh w O e.flat e xs v F) : F.length ≤ 1 := by
 obtain ⟨hm, ⟨_, _, h3⟩ | ⟨bl, off, cap, cur, et, Fs, h1, hh, h2, h3, h4, hF, hel⟩⟩ := h
 ·rw [h3]; simp
 ·have : Fs.flatten = [] := hel.nils
  rw [hF, this]; simp
theorem Mh.stable {w w' : World} {O O' : Nat → Prop} {dp : Bool} {e : Ty} {xs : List (T e)} {v : Value} {F : List Nat} (h : Mh w O dp e xs v F)
 (hv : ∀ b, ¬ O b → b < w.heap.size → w'.heap[b]? = w.heap[b]?) (hO : ∀ b, b < w.heap.size → ¬ O b → ¬ O' b) (hF : ∀ b, b ∈ F → w'.heap[b]? = w.heap[b]?) : Mh w' O' dp e xs v F := by
 obtain ⟨hm, h | ⟨bl, off, cap, cur, et, Fs, h1, hh, h2, h3, h4, hF', hel⟩⟩ := h
 ·exact ⟨hm, .inl h⟩
 ·subst hF'
  exact ⟨hm, .inr ⟨bl, off, cap, cur, et, Fs, h1, (hF bl (by simp)).trans hh, h2, h3, h4, rfl, hel.stable hv hO fun b hb => hF b (jr _ hb)⟩⟩
section
variable {P : Program} {Out : Type} {n0 : Nat} {A : Fx} {O0 : Nat → Prop} {w0 w w' : World} {s : AS} {σ σ' : Nat → Value} {φ φ' : Nat → List Nat} {a : Act}
variable {o : Oper} {Q : Exit → Act → World → Prop} {k : AS → Option Out} {out : Out} {d : D} {v : Value} {upd : List (Nat × Option Ia)} {dst : Option Tmp} {G : Ue}
theorem FY {size : Nat} {tx : TypeId} (hk : (∃ e', P.underlying tx = some (.slice e')) ∨ P.underlying tx = some .string) (cap : Nat) : Src P size tx (.slice none 0 cap) 0 [] w :=
 ⟨hk, fun _ => rfl, run_firstCells_none w size 0 0 cap, run_firstCells_none w.drew size 0 0 cap, by simp, fun _ h => by cases h⟩
theorem ST {size : Nat} {tx : TypeId} (hk : (∃ e', P.underlying tx = some (.slice e')) ∨ P.underlying tx = some .string) (ad : Addr) (n cap : Nat) (news : List Value) (hl : news.length = n * size)
 (hnews : ∀ j u, news[j]? = some u → w.cell? (ad.add j) = some u) (h1 : ∀ u ∈ news, u.oneCell' = true) : Src P size tx (.slice (some ad) n cap) n news w :=
 ⟨hk, fun _ => rfl, run_firstCells_some w size n ad n cap news hl hnews, run_firstCells_some w.drew size n ad n cap news hl (by simpa using hnews), hl, h1⟩
theorem QZ {bl off n : Nat} {cur : Array Value} {et : TypeId} {fr : Nat × Nat} (hh : w.heap[bl]? = some (.cells cur et fr)) (hs : off + n ≤ cur.size) :
 ∀ j u, (Fd cur off n)[j]? = some u → w.cell? ((⟨bl, off, none⟩ : Addr).add j) = some u := by
 intro j u hu
 rw [Ln, cell_of_row w bl (off + j) cur et fr hh]
 have hj : j < n := by
  have := (q8.1 hu).1
  rwa [Id hs] at this
 rwa [Cf _ _ _ _ hj] at hu
theorem Gaa {e : Ty} {O : Nat → Prop} {dq : Bool} {ys : List (T e)} {F : List Nat} {tx : TypeId} (hk : (∃ e', P.underlying tx = some (.slice e')) ∨ P.underlying tx = some .string) (h : Mh w O dq e ys v F) :
 ∃ news Gs, Src P e.size tx v (ja ys) news w ∧ El w O dq e ys news Gs ∧ Gs.flatten.Sublist F := by
 obtain ⟨hm, ⟨h1, h2, h3⟩ | ⟨bl, off, cap, cur, et, Fs, h1, hh, h2, h3, h4, hF, hel⟩⟩ := h
 ·subst h2
  rw [h1]
  exact ⟨[], [], FY hk 0, El.nil, by simp⟩
 ·have := jm e.size h2
  refine ⟨_, Fs, ?_, hel, by rw [hF]; exact List.sublist_cons_self _ _⟩
  rw [h1]
  exact ST hk _ _ _ _ hel.len (QZ hh (by omega)) hel.one
theorem WM (h : Qa n0 A O0 w0 s σ φ a w) {id : Nat} {e : Ty} {dp : Bool} {xs : List (T e)} (hb : s.heap id = some (.row e dp xs)) (hv : Zc w (OO O0 s φ) s.heap σ (.own id) v) :
 Mh w (OO O0 s φ) (dp || e.flat) e xs v (φ id) := by
 have := Nk.1 (h.hp id _ hb)
 rw [AD] at hv
 rw [hv.2 _ _ hb rfl]
 exact this.up
theorem EY (h : Qa n0 A O0 w0 s σ φ a w) {e : Ty} {db : D} {ys : List (T e)} {dq : Bool} {m : List Nat} (hs : EI s e db = some (ys, dq, m)) (hv : Zc w (OO O0 s φ) s.heap σ db v)
 {tx : TypeId} (hk : (∃ e', P.underlying tx = some (.slice e')) ∨ P.underlying tx = some .string) :
 ∃ news Gs, Src P e.size tx v (ja ys) news w ∧ El w (OO O0 s φ) dq e ys news Gs ∧ Gs.flatten.Sublist (Ea φ m) ∧ ∀ j, j ∈ m → ∃ b, s.heap j = some b := by
 unfold EI at hs
 split at hs
 ·simp only [jc, jh] at hs
  obtain ⟨rfl, rfl, rfl⟩ := hs
  rw [VH] at hv
  rw [hv]
  exact ⟨[], [], FY hk 0, El.nil, by simp, by simp⟩
 ·rename_i e' ys'
  split at hs
  ·rename_i q hq
   subst q
   simp only [jc, jh] at hs
   obtain ⟨rfl, rfl, rfl⟩ := hs
   rw [TG] at hv
   obtain ⟨ad, cap, hv, hc, hm, hd⟩ := hv
   simp only [yh, and_true] at hv
   rcases hd with hd | ⟨bl, off, cur, et, fr, hd, hO, hh, hsz, hel⟩
   ·subst hd
    rw [hv]
    refine ⟨[], [], ?_, El.nil, by simp, by simp⟩
    cases ad with
    | none => exact FY hk cap
    | some ad => exact ST hk ad 0 cap [] (by simp) (by simp) (by simp)
   ·have hEl : El w (OO O0 s φ) e'.flat e' ys' (Fd cur off (ja ys' * e'.size)) (yd (ja ys') []) := by
     refine ⟨Id hsz, by simp, fun i hi => ?_⟩
     have hg : (yd (ja ys') ([] : List Nat)).getD i [] = [] := by simp [qs, hi]
     rw [RK hi, hg]
     cases hf : e'.flat with
     | true => exact (hel i hi).flat hf
     | false => simpa using hel i hi
    refine ⟨_, _, ?_, hEl, by simp, by simp⟩
    rw [hv, hd]
    exact ST hk _ _ _ _ hEl.len (QZ hh hsz) hEl.one
  ·simp at hs
 ·rename_i y
  split at hs
  ·rename_i q hq
   subst q
   simp only [jc, jh] at hs
   obtain ⟨rfl, rfl, rfl⟩ := hs
   rw [Yl] at hv
   rw [hv]
   have hbl : ja (Yc y) = (⟨qr y⟩ : ByteArray).size := by simp [Yc, ByteArray.size]
   have hEl : El w (OO O0 s φ) true (.i .u8) (Yc y) (byteCells ⟨qr y⟩) (yd (ja (Yc y)) []) := by
    refine ⟨by rw [byteCells_length, ← hbl]; simp [Ty.size], by simp, fun i hi => ?_⟩
    have hg : (yd (ja (Yc y)) ([] : List Nat)).getD i [] = [] := by simp [qs, hi]
    rw [hg]
    simp only [if_true, Tb, and_true]
    apply qp
    intro j
    cases j with
    | zero =>
     rw [ZN (by simp [Ty.size])]
     have hi' : i < y.length := by simpa [Yc] using hi
     simp [Ty.size, byteCells, Yc, hi']
    | succ j => simp [Vy, Ty.size]; omega
   refine ⟨byteCells ⟨qr y⟩, _, ⟨hk, fun _ => ?_, ?_, ?_, hEl.len, hEl.one⟩, hEl, by simp, by simp⟩
   ·rw [hbl]; rfl
   ·rw [hbl]; exact firstCells_string _ _
   ·rw [hbl]; exact firstCells_string _ _
  ·simp at hs
 ·rename_i id
  split at hs
  ·rename_i e' dp ys' hb
   split at hs
   ·rename_i q hq
    subst q
    simp only [jc, jh] at hs
    obtain ⟨rfl, rfl, rfl⟩ := hs
    have hrow := WM h hb hv
    obtain ⟨news, Gs, h1, h2, h3⟩ := Gaa (P := P) (tx := tx) hk hrow
    refine ⟨news, Gs, h1, h2, ?_, ?_⟩
    ·cases hf : e'.flat with
     | false => simpa [Ea] using h3
     | true =>
      have : Gs.flatten = [] := BB fun i hi => by
       have := h2.el i (by rw [← h2.flen]; exact hi)
       simp only [hf, Bool.or_true, if_true] at this
       exact Cu hf this
      rw [this]; simp
    ·intro j hj
     cases hf : e'.flat with
     | true => rw [hf] at hj; simp at hj
     | false => rw [hf] at hj; simp at hj; subst hj; exact ⟨_, hb⟩
   ·simp at hs
  ·simp at hs
 ·rename_i id lo hi
  split at hs
  ·rename_i e' dp ys' hb
   split at hs
   ·rename_i q hq
    subst q
    cases hf : (e'.flat || !dp) with
    | false => rw [hf] at hs; simp at hs
    | true =>
     rw [hf] at hs
     simp only [ze, jc, jh] at hs
     obtain ⟨rfl, rfl, rfl⟩ := hs
     simp only [Zc, Se, D.isAgg, jq, if_false, Ab] at hv
     obtain ⟨u, hu', h1c, hv⟩ := hv
     simp only [yh, and_true] at hu'
     obtain ⟨hlo, hhi, ad, cap, j, hs0, hcap, hj1, hj2, hu2⟩ := hv _ _ _ hb rfl
     have hrow := Nk.1 (h.hp id _ hb)
     obtain ⟨F', hsub, _, hrow'⟩ := hrow.cut hs0 hlo hhi hj1 hj2
     have hrow2 := hrow'.flatup (by simpa using hf)
     rw [← hu2, ← hu'] at hrow2
     obtain ⟨news, Gs, h1, h2, h3⟩ := Gaa (P := P) (tx := tx) hk hrow2
     refine ⟨news, Gs, h1, h2, ?_, by simp⟩
     have : Gs.flatten = [] := h2.nils
     rw [this]; simp [Ea]
   ·simp at hs
  ·simp at hs
 ·simp at hs
theorem Tao (h : Qa n0 A O0 w0 s σ φ a w) {e : Ty} {da : D} {xs : List (T e)} {dp : Option Bool} {l : List Nat} (hs : GS s e da = some (xs, dp, l)) (hv : Zc w (OO O0 s φ) s.heap σ da v)
 {dq : Bool} (hd : dp.getD dq = dq) : Mh w (OO O0 s φ) dq e xs v (Ea φ l) ∧ ∀ j, j ∈ l → ∃ b, s.heap j = some b := by
 unfold GS at hs
 split at hs
 ·simp only [jc, jh] at hs
  obtain ⟨rfl, rfl, rfl⟩ := hs
  rw [VH] at hv
  exact ⟨⟨by simp, .inl ⟨hv, rfl, by simp [Ea]⟩⟩, by simp⟩
 ·rename_i id
  split at hs
  ·rename_i e' dp' ys' hb
   split at hs
   ·rename_i q hq
    subst q
    simp only [jc, jh] at hs
    obtain ⟨rfl, rfl, rfl⟩ := hs
    simp only [qz] at hd
    have hrow := WM h hb hv
    rw [hd] at hrow
    refine ⟨by simpa [Ea] using hrow, ?_⟩
    intro j hj
    simp at hj
    subst hj
    exact ⟨_, hb⟩
   ·simp at hs
  ·simp at hs
 ·rename_i id lo hi
  split at hs
  ·rename_i e' dp' ys' hb
   split at hs
   ·rename_i q hq
    subst q
    cases hf : (e'.flat || !dp') with
    | false => rw [hf] at hs; simp at hs
    | true =>
     rw [hf] at hs
     simp only [ze, jc, jh] at hs
     obtain ⟨rfl, rfl, rfl⟩ := hs
     simp only [qz] at hd
     simp only [Zc, Se, D.isAgg, jq, if_false, Ab] at hv
     obtain ⟨u, hu', h1c, hv⟩ := hv
     simp only [yh, and_true] at hu'
     obtain ⟨hlo, hhi, ad, cap, j, hs0, hcap, hj1, hj2, hu2⟩ := hv _ _ _ hb rfl
     have hrow := Nk.1 (h.hp id _ hb)
     have hrow1 := hrow.flatup (by simpa using hf)
     obtain ⟨F', hsub, hF', hrow'⟩ := hrow1.cut hs0 hlo hhi hj1 hj2
     rw [← hu2, ← hu', hF' hrow1.len1, hd] at hrow'
     refine ⟨by simpa [Ea] using hrow', ?_⟩
     intro j hj
     simp at hj
     subst hj
     exact ⟨_, hb⟩
   ·simp at hs
  ·simp at hs
 ·simp at hs
theorem Gah (hG : EnvTy P G) (h : Qa n0 A O0 w0 s σ φ a w) {args : Array Operand} {ts : Array TypeId} (ho : o.op = .call ⟨.builtin .append, args, ts⟩) (hml : PH G o.dst = false)
 (he : Hf G s o k = some out) : o.wp P a w (Ve n0 A O0 w0 k out) Q := by
 simp only [Hf, Sb, ho] at he
 split at he
 ·rename_i x y t tx hargs hts
  unfold IG at he
  rw [hml] at he
  simp only [zf] at he
  unfold Dw at he
  split at he
  ·rename_i tt e da db hd hty hx hy
   split at he
   ·rename_i xs dp l ys dq m hdst hsrc
    cases hc : ((dp.getD dq == dq) && s.newOk tt && Nf (l ++ m) && OG (Jb G.ty tx)) with
    | false => rw [hc] at he; simp at he
    | true =>
     rw [hc] at he
     simp only [ze] at he
     simp only [jd, beq_iff_eq] at hc
     obtain ⟨⟨⟨hdq, hnew⟩, hnd⟩, hkx⟩ := hc
     have hnd := Gh hnd
     cases hlim : jx (ja xs + ja ys) Oa with
     | false => rw [hlim] at he; simp at he
     | true =>
      rw [hlim] at he
      simp only [ze] at he
      have hlim := q6 hlim
      obtain ⟨et, hu, hte⟩ := Tok.sl (hG.ty _ _ hty)
      have hk : (∃ e', P.underlying tx = some (.slice e')) ∨ P.underlying tx = some .string := by
       unfold OG at hkx
       split at hkx
       ·rename_i e' hq
        obtain ⟨et', hu', _⟩ := Tok.sl (hG.ty _ _ hq)
        exact .inl ⟨et', hu'⟩
       ·rename_i hq
        exact .inr (Tok.s (hG.ty _ _ hq))
       ·simp at hkx
      obtain ⟨hrow, hl1⟩ := Tao h hdst (h.ev hx) hdq
      obtain ⟨news, Gs, hS, hEl, hsub, hl2⟩ := EY (P := P) h hsrc (h.ev hy) hk
      have hlive : ∀ j, j ∈ l ++ m → ∃ b, s.heap j = some b := by
       intro j hj
       rcases jl.1 hj with hj | hj
       ·exact hl1 j hj
       ·exact hl2 j hj
      have hbn := Rf h hnd hlive
      rw [Be] at hbn
      obtain ⟨v', w', F', hr, h1, hsz, hbl, hos, htape, hout, hF', hsubF, hres⟩ := XQ (P := P) (t := t) (tx := tx) (ty := o.type) hu hte hrow hS hEl
       (List.Sublist.nodup (List.Sublist.append (List.Sublist.refl _) hsub) hbn) hlim
       (by
        intro c hc
        obtain ⟨j, hj, hm⟩ := Cb.1 hc
        obtain ⟨b, hb⟩ := hl1 j hj
        exact .inr ⟨j, b, hb, hm⟩)
       (by
        intro c hc
        obtain ⟨j, hj, hm⟩ := Cb.1 (hsub.subset hc)
        obtain ⟨b, hb⟩ := hl2 j hj
        exact (h.hp j b hb).lt c hm)
      have hc := h.absorb (w' := w') hnew (l ++ m) hlive (.row e dq (jf xs ys)) v' F' hsz
       (by
        intro b hb hno
        refine hbl b hb fun hm => ?_
        obtain ⟨j, hj, hm⟩ := Cb.1 hm
        exact hno j (qu _ hj) hm)
       hos htape hout hF'
       (by
        intro b hb
        rcases hsubF b hb with hb | hb | hb
        ·exact .inl hb
        ·obtain ⟨j, hj, hm⟩ := Cb.1 hb
         exact .inr ⟨j, qu _ hj, hm⟩
        ·obtain ⟨j, hj, hm⟩ := Cb.1 (hsub.subset hb)
         exact .inr ⟨j, qv _ hj, hm⟩)
       (by
        intro hp' σ' O' hσ hO'
        rw [Nk, hσ]
        exact (hres O' hO').1)
      refine Rb (w' := w') (v := v') ?_ (Me rfl hc ?_ he)
      ·have hts' : ts = #[t, tx] := by
        apply Array.ext'
        rw [hts]
       rw [Nn ho hargs, hts']
       simp [builtin, hr]
      ·exact Cx (e := e) (dp := dq) (xs := jf xs ys) h1 (by rw [yg, Ld, if_pos rfl])
   ·simp at he
  ·simp at he
 ·simp at he
end
section
variable {P : Program} {Out : Type} {n0 : Nat} {A : Fx} {O0 : Nat → Prop} {w0 w w' : World} {s : AS} {σ σ' : Nat → Value} {φ φ' : Nat → List Nat} {a : Act}
variable {o : Oper} {Q : Exit → Act → World → Prop} {k : AS → Option Out} {out : Out} {d : D} {v : Value} {upd : List (Nat × Option Ia)} {dst : Option Tmp} {G : Ue}
theorem Rak (hG : EnvTy P G) (h : Qa n0 A O0 w0 s σ φ a w) {t : TypeId} {x : Operand} {lo hi : Option Operand} (ho : o.op = .slice t x lo hi none)
 (he : Hf G s o k = some out) : o.wp P a w (Ve n0 A O0 w0 k out) Q := by
 simp only [Hf, Sb, ho] at he
 split at he
 ·rename_i v hx
  split at he
  ·rename_i l m hl hm ht
   cases hc : Jd (ja v) l m with
   | false => simp [hc] at he
   | true =>
    simp only [hc, ze] at he
    have hv := h.ev hx
    rw [Yl] at hv
    have hu := Tok.s (hG.ty _ _ ht)
    have hsz : (ByteArray.mk (qr v)).size = ja v := by simp [ByteArray.size]
    have hb := Dq (P := P) (cap := ja v) h hl hm hc (jo _) false
    have hex : (ByteArray.mk (qr v)).extract l.toNat m.toNat = ⟨qr (Xa v l.toNat m.toNat)⟩ := by
     apply ByteArray.ext
     simp [Xa, List.drop_take]
    refine Rb (w' := w) (v := .string ⟨qr (Xa v l.toNat m.toNat)⟩) ?_ (Cc h (Yl.2 rfl) he)
    have hr : (Instr.sliceAt t (.string ⟨qr v⟩) (lo.map a.eval) (hi.map a.eval) none).run P w = .ok (.string ⟨qr (Xa v l.toNat m.toNat)⟩) w := by
     simp [Instr.sliceAt, Instr.slice, run_underlying hu, hsz, hb, hex]
    simp [execOp, ho, hv, hr]
  ·simp at he
 ·rename_i e v hx
  split at he
  ·rename_i l m e' hl hm ht
   split at he
   ·rename_i q hq
    obtain rfl := Ud hq
    cases hc : Jd (ja v) l m with
    | false => simp [hc] at he
    | true =>
     simp only [hc, ze] at he
     have hv := h.ev hx
     rw [TG] at hv
     obtain ⟨et, hu, hte⟩ := Tok.sl (hG.ty _ _ ht)
     obtain ⟨ad, cap, hcs, hcap, hmx, hcase⟩ := hv
     simp at hcs
     have hb := Dq (P := P) (cap := cap) h hl hm hc hcap true
     have hc' := hc
     simp only [Jd, jd, decide_eq_true_eq] at hc'
     have hml : m.toNat ≤ ja v := by omega
     have hlen := PD (xs := (v : List (T e))) (lo := l.toNat) hml
     have hlen' : ja (Xa v l.toNat m.toNat) = m.toNat - l.toNat := hlen
     refine Rb (w' := w) (v := .slice (if cap = l.toNat then ad else ad.map (·.add (l.toNat * e.size))) (m.toNat - l.toNat) (cap - l.toNat)) ?_ (Cc h ?_ he)
     ·have hr : (Instr.sliceAt t (.slice ad (ja v) cap) (lo.map a.eval) (hi.map a.eval) none).run P w = .ok (.slice (if cap = l.toNat then ad else ad.map (·.add (l.toNat * e.size))) (m.toNat - l.toNat) (cap - l.toNat)) w := by
       simp [Instr.sliceAt, Instr.slice, run_underlying hu, hb, Tok.sizeOf hte w]
      simp [execOp, ho, hcs, hr]
     ·rw [TG]
      refine ⟨_, cap - l.toNat, by rw [hlen'], by rw [hlen']; omega, by rw [hlen']; omega, ?_⟩
      rcases Nat.eq_or_lt_of_le (show l.toNat ≤ m.toNat by omega) with heq | hlt
      ·left
       exact q7 (by rw [hlen']; omega)
      ·right
       rcases hcase with hemp | ⟨bl, off, cur, et', fr, rfl, hO, hh, hs, hvv⟩
       ·rw [hemp] at hml; simp at hml; omega
       ·have hne : ¬ cap = l.toNat := by omega
        have hmul : (l.toNat + (m.toNat - l.toNat)) * e.size ≤ ja v * e.size := jm _ (by omega)
        rw [yf] at hmul
        refine ⟨bl, off + l.toNat * e.size, cur, et', fr, by rw [if_neg hne]; simp [Ln], hO, hh, by rw [hlen']; omega, fun i hi => ?_⟩
        have hi2 : i < m.toNat - l.toNat := by rw [← hlen']; exact hi
        have h2 : l.toNat + i < ja v := by omega
        have := hvv (l.toNat + i) h2
        rw [DS (xs := (v : List (T e))) hi h2]
        rw [yf, ← jt] at this
        exact this
   ·simp at he
  ·simp at he
 ·rename_i id hx
  unfold YP at he
  split at he
  ·rename_i e dp xs hb
   split at he
   ·rename_i l m e' hl hm ht
    split at he
    ·rename_i q hq
     obtain rfl := Ud hq
     cases hc : Jd (ja xs) l m with
     | false => simp [hc] at he
     | true =>
      simp only [hc, ze] at he
      obtain ⟨et, hu, hte⟩ := Tok.sl (hG.ty _ _ ht)
      have hv := h.ev hx
      rw [AD] at hv
      have hσ := hv.2 _ _ hb rfl
      have hrow := Nk.1 (h.hp id _ hb)
      obtain ⟨ad, cap, hsl, hcap⟩ := hrow.slice
      have hb' := Dq (P := P) (cap := cap) h hl hm hc hcap true
      have hc' := hc
      simp only [Jd, jd, decide_eq_true_eq] at hc'
      have hlm : l.toNat ≤ m.toNat := by omega
      have hml : m.toNat ≤ ja xs := by omega
      obtain ⟨j, hj1, hj2, hj3⟩ : ∃ j, j ≤ l.toNat ∧ (l.toNat < cap → j = l.toNat) ∧ (if cap = l.toNat then ad else ad.map (·.add (l.toNat * e.size))) = ad.map (·.add (j * e.size)) := by
       by_cases hcl : cap = l.toNat
       ·refine ⟨0, by omega, by omega, ?_⟩
        rw [if_pos hcl]
        cases ad with
        | none => rfl
        | some ad =>
         have := hrow.addr hsl
         obtain ⟨b, off, rfl⟩ := this
         simp [Ln]
       ·exact ⟨l.toNat, by omega, fun _ => rfl, by rw [if_neg hcl]⟩
      have hr : (execOp a.eval o).run P w = .ok (.value (.slice (ad.map (·.add (j * e.size))) (m.toNat - l.toNat) (cap - l.toNat))) w := by
       rw [← hj3]
       have hr : (Instr.sliceAt t (.slice ad (ja xs) cap) (lo.map a.eval) (hi.map a.eval) none).run P w = .ok (.slice (if cap = l.toNat then ad else ad.map (·.add (l.toNat * e.size))) (m.toNat - l.toNat) (cap - l.toNat)) w := by
        simp [Instr.sliceAt, Instr.slice, run_underlying hu, hb', Tok.sizeOf hte w]
       simp [execOp, ho, hσ.trans hsl, hr]
      split at he
      ·rename_i tt hd
       cases hmv : Ly G.mv tt with
       | true =>
        rw [hmv] at he
        simp only [ze] at he
        cases hn : s.newOk tt with
        | false => rw [hn] at he; simp at he
        | true =>
         rw [hn] at he
         simp only [ze] at he
         obtain ⟨F', hsub, _, hrow'⟩ := hrow.cut hsl hlm hml hj1 hj2
         have hne : ∀ b, s.heap id = some b → F'.Nodup := fun b hbb => hsub.nodup (h.nodup id b hbb)
         have hc2 := h.absorb (w' := w) hn [id] (fun j hj => by simp at hj; subst hj; exact ⟨_, hb⟩) (.row e dp (Xa xs l.toNat m.toNat))
          (.slice (ad.map (·.add (j * e.size))) (m.toNat - l.toNat) (cap - l.toNat)) F' (jo _) (fun _ _ _ => rfl) rfl rfl rfl (hne _ hb)
          (fun b hbm => .inr ⟨id, by simp, hsub.subset hbm⟩)
          (by
           intro hp' σ' O' hσ' hO'
           rw [Nk, hσ']
           exact hrow'.stable (fun _ _ _ => rfl) hO' (fun _ _ => rfl))
         refine Rb (w' := w) hr ?_
         rw [hd]
         rw [hd] at he
         exact Me rfl hc2 (Cx (e := e) (dp := dp) (xs := Xa xs l.toNat m.toNat) rfl (by rw [yg]; exact Eg ⟨s.n, s.tm, (id, none) :: s.hp⟩ _ _)) he
       | false =>
        rw [hmv] at he
        simp only [zf] at he
        refine Rb (w' := w) hr (Cc (d := .cut id l.toNat m.toNat) h ?_ he)
        simp only [Zc, Se, D.isAgg, jq, if_false, Ab]
        refine ⟨_, rfl, rfl, fun blk' e' n' hb2 hr' => ?_⟩
        rw [hb] at hb2
        cases hb2
        simp only [Ia.rowN, jc, jh] at hr'
        obtain ⟨rfl, rfl⟩ := hr'
        exact ⟨hlm, hml, ad, cap, j, hsl, hcap, hj1, hj2, rfl⟩
      ·simp at he
    ·simp at he
   ·simp at he
  ·simp at he
 ·rename_i hx
  split at he
  ·rename_i l m e' hl hm ht
   cases hc : Jd 0 l m with
   | false => simp [hc] at he
   | true =>
    simp only [hc, ze] at he
    obtain ⟨et, hu, hte⟩ := Tok.sl (hG.ty _ _ ht)
    have hv := h.ev hx
    rw [VH] at hv
    have hb' := Dq (P := P) (cap := 0) h hl hm hc (jo _) true
    have hc' := hc
    simp only [Jd, jd, decide_eq_true_eq] at hc'
    have h0 : l.toNat = 0 := by omega
    have h1 : m.toNat = 0 := by omega
    rw [h0, h1] at hb'
    refine Rb (w' := w) (v := .slice none 0 0) ?_ (Cc h (VH.2 rfl) he)
    have hr : (Instr.sliceAt t (.slice none 0 0) (lo.map a.eval) (hi.map a.eval) none).run P w = .ok (.slice none 0 0) w := by
     simp [Instr.sliceAt, Instr.slice, run_underlying hu, hb', Tok.sizeOf hte w]
    simp [execOp, ho, hv, hr]
  ·simp at he
 ·rename_i id p q hx
  unfold LK at he
  split at he
  ·rename_i e dp xs hb
   split at he
   ·rename_i l m e' hl hm ht
    split at he
    ·rename_i q' hq
     obtain rfl := Ud hq
     cases hc : Jd (q - p) l m with
     | false => simp [hc] at he
     | true =>
      simp only [hc, ze] at he
      obtain ⟨et, hu, hte⟩ := Tok.sl (hG.ty _ _ ht)
      have hv := h.ev hx
      simp only [Zc, Se, D.isAgg, jq, if_false, Ab] at hv
      obtain ⟨u, hu', h1c, hv⟩ := hv
      simp only [yh, and_true] at hu'
      obtain ⟨hpq, hqn, ad, cap, j, hs0, hcap, hj1, hj2, hu2⟩ := hv _ _ _ hb rfl
      have hb' := Dq (P := P) (cap := cap - p) h hl hm hc (by omega) true
      have hc' := hc
      simp only [Jd, jd, decide_eq_true_eq] at hc'
      have hlm : l.toNat ≤ m.toNat := by omega
      have hml : m.toNat ≤ q - p := by omega
      refine Rb (w' := w) (v := .slice (if cap - p = l.toNat then ad.map (·.add (j * e.size)) else (ad.map (·.add (j * e.size))).map (·.add (l.toNat * e.size))) (m.toNat - l.toNat) (cap - p - l.toNat)) ?_ (Cc h ?_ he)
      ·have hr : (Instr.sliceAt t (.slice (ad.map (·.add (j * e.size))) (q - p) (cap - p)) (lo.map a.eval) (hi.map a.eval) none).run P w = .ok (.slice (if cap - p = l.toNat then ad.map (·.add (j * e.size)) else (ad.map (·.add (j * e.size))).map (·.add (l.toNat * e.size))) (m.toNat - l.toNat) (cap - p - l.toNat)) w := by
        simp only [Instr.sliceAt, Instr.slice, run_underlying hu, hb', Tok.sizeOf hte w, qo, qn, Sem.run_pure]
       simp [execOp, ho, hu'.trans hu2, hr]
      ·simp only [Zc, Se, D.isAgg, jq, if_false, Ab]
       refine ⟨_, rfl, rfl, fun blk' e' n' hb2 hr' => ?_⟩
       rw [hb] at hb2
       cases hb2
       simp only [Ia.rowN, jc, jh] at hr'
       obtain ⟨rfl, rfl⟩ := hr'
       have e1 : m.toNat - l.toNat = p + m.toNat - (p + l.toNat) := by omega
       have e2 : cap - p - l.toNat = cap - (p + l.toNat) := by omega
       by_cases h2 : cap - p = l.toNat
       ·refine ⟨by omega, by omega, ad, cap, j, hs0, hcap, by omega, by omega, ?_⟩
        rw [if_pos h2, e1, e2]
       ·refine ⟨by omega, by omega, ad, cap, j + l.toNat, hs0, hcap, by omega, fun hl => by have := hj2 (by omega); omega, ?_⟩
        rw [if_neg h2, e1, e2]
        have hrow := Nk.1 (h.hp id _ hb)
        cases ad with
        | none => rfl
        | some ad =>
         obtain ⟨b, off, rfl⟩ := hrow.addr hs0
         simp only [qb, Ln, yf, jt]
    ·simp at he
   ·simp at he
  ·simp at he
 ·simp at he
end
def Rg (w : World) (O : Nat → Prop) : (τ : Ty) → T τ → List Value → Prop
 | .p x y, v, a :: r => (∃ cs, a = Od x cs ∧ La w O x v.1 cs) ∧ Rg w O y v.2 r
 | .u, _, [] => True
 | _, _, _ => False
def Mc (w : World) (O : Nat → Prop) : (τ : Ty) → T τ → List Bool → List Value → List Nat → Prop
 | .p x y, v, f :: r, a :: as, F => ∃ cs F1 F2, a = Od x cs ∧ F = F1 ++ F2 ∧ (if f then Tb w x v.1 cs F1 else La w O x v.1 cs ∧ F1 = []) ∧ Mc w O y v.2 r as F2
 | .u, _, [], [], F => F = []
 | _, _, _, _, _ => False
def YC : List Value → Value
 | [v] => v
 | vs => .tuple vs.toArray
structure Yu (w w' : World) (F : Nat → Prop) : Prop where
 size : w.heap.size ≤ w'.heap.size
 block : ∀ b, b < w.heap.size → ¬ F b → w'.heap[b]? = w.heap[b]?
 os : w'.os = w.os
 tape : w'.tape = w.tape
 output : w'.output = w.output
def LA (P : Program) (f : FuncId) : Prop := ∃ fn, P.funcs[f]? = some fn ∧ (fn.name == "runtime.NumGoroutine") = false ∧ fn.body.isNone = false
def Qr (R : Value → World → Prop) : Ending → World → Prop
 | .returned v, w' => R v w'
 | _, _ => False
def Of (w : World) : (τ : Ty) → T τ → List Value → List Nat → Prop
 | .p x y, v, a :: r, F => ∃ cs F1 F2, a = Od x cs ∧ F = F1 ++ F2 ∧ Tb w x v.1 cs F1 ∧ Of w y v.2 r F2
 | .u, _, [], F => F = []
 | _, _, _, _ => False
def Gg (P : Program) (I : Yf) (f : FuncId) : Ra → Prop
 | .pu pt rt fr F => LA P f ∧ ∀ (O : Nat → Prop) (w : World) (x : T pt) (r : T rt) (args : List Value), F x = some r → Rg w O pt x args → (∀ b, O b → b < w.heap.size) → I.p w → I.base ≤ w.heap.size →
  Calls P f args.toArray w (Qr fun v w' => ∃ vs Fr, v = YC vs ∧ Yu w w' (fun _ => False) ∧ Mc w' (fun b => O b ∨ b ∈ Fr) rt r fr vs Fr ∧ Fr.Nodup ∧ ∀ b ∈ Fr, w.heap.size ≤ b)
 | .io τ pt rt fr F => LA P f ∧ ∀ (O : Nat → Prop) (w : World) (x0 : T τ) (x : T pt) (r : T τ × T rt) (cs0 : List Value) (F0 : List Nat) (args : List Value), F x0 x = some r →
  Tb w τ x0 cs0 F0 → F0.Nodup → Rg w (fun b => O b ∨ b ∈ F0) pt x args → (∀ b, O b → b < w.heap.size) → I.p w → I.base ≤ w.heap.size → (∀ b, b ∈ F0 → I.base ≤ b) →
  Calls P f (Od τ cs0 :: args).toArray w (Qr fun v w' => ∃ vs F1 Fr, v = YC vs ∧ Yu w w' (· ∈ F0) ∧ Tb w' τ r.1 cs0 F1 ∧ (∀ b ∈ F1, w.heap.size ≤ b ∨ b ∈ F0) ∧
   Mc w' (fun b => O b ∨ b ∈ F0 ∨ b ∈ F1 ∨ b ∈ Fr) rt r.2 fr vs Fr ∧ (F1 ++ Fr).Nodup ∧ ∀ b ∈ Fr, w.heap.size ≤ b ∨ b ∈ F0)
 | .co pt rt fr F => LA P f ∧ ∀ (O : Nat → Prop) (w : World) (x : T pt) (r : T rt) (F0 : List Nat) (args : List Value), F x = some r →
  Of w pt x args F0 → F0.Nodup → (∀ b, O b → b < w.heap.size) → (fr.all id = true ∨ ∀ b, b ∈ F0 → ¬ O b) → I.p w → I.base ≤ w.heap.size → (∀ b, b ∈ F0 → I.base ≤ b) →
  Calls P f args.toArray w (Qr fun v w' => ∃ vs Fr, v = YC vs ∧ Yu w w' (· ∈ F0) ∧
   Mc w' (fun b => O b ∨ b ∈ Fr) rt r fr vs Fr ∧ Fr.Nodup ∧ ∀ b ∈ Fr, w.heap.size ≤ b ∨ b ∈ F0)
 | .bx vw cv τ pt rt fr F => LA P f ∧ ∀ (O : Nat → Prop) (w : World) (x0 : T τ) (x : T pt) (r : T τ × T rt) (b : Nat) (cur : Array Value) (et : TypeId) (F0 F2 : List Nat) (args : List Value), F x0 x = some r →
  w.heap[b]? = some (.cells cur et (0, 0)) → cur.size = τ.size → (if vw then La w (fun c => O c ∨ c = b ∨ c ∈ F2) τ x0 cur.toList ∧ F0 = [] else Tb w τ x0 cur.toList F0) →
  (if cv then Of w pt x args F2 else Rg w (fun c => O c ∨ c = b ∨ c ∈ F0) pt x args ∧ F2 = []) → (b :: (F0 ++ F2)).Nodup → (∀ b, O b → b < w.heap.size) → I.p w → I.base ≤ w.heap.size → (∀ c, c ∈ b :: (F0 ++ F2) → I.base ≤ c) →
  Calls P f (.pointer (some ⟨b, 0, none⟩) :: args).toArray w (Qr fun v w' => ∃ vs cur' et' F1 Fr, v = YC vs ∧ Yu w w' (· ∈ b :: (F0 ++ F2)) ∧ w'.heap[b]? = some (.cells cur' et' (0, 0)) ∧ cur'.size = τ.size ∧
   (if vw then La w' (fun c => O c ∨ c ∈ b :: (F0 ++ F2) ∨ c ∈ Fr) τ r.1 cur'.toList ∧ F1 = [] else Tb w' τ r.1 cur'.toList F1) ∧
   Mc w' (fun c => O c ∨ c ∈ b :: (F0 ++ F2) ∨ c ∈ F1 ∨ c ∈ Fr) rt r.2 fr vs Fr ∧ (b :: (F1 ++ Fr)).Nodup ∧ ∀ c ∈ F1 ++ Fr, w.heap.size ≤ c ∨ c ∈ F0 ++ F2)
 | .nw pt τ F => LA P f ∧ ∀ (O : Nat → Prop) (w : World) (x : T pt) (r : T τ) (args : List Value), F x = some r → Rg w O pt x args → (∀ b, O b → b < w.heap.size) → I.p w → I.base ≤ w.heap.size →
  Calls P f args.toArray w (Qr fun v w' => ∃ b cur et, v = .pointer (some ⟨b, 0, none⟩) ∧ Yu w w' (fun _ => False) ∧ w.heap.size ≤ b ∧ w'.heap[b]? = some (.cells cur et (0, 0)) ∧ cur.size = τ.size ∧ La w' (fun c => O c ∨ c = b) τ r cur.toList)
structure Cj (P : Program) (I : Yf) (G : Ue) : Prop extends EnvTy P G where
 fn : ∀ f sem, Jb G.fn f = some sem → Gg P I f sem
theorem NJ {s : AS} : ∀ {d : D} {τ : Ty} {x : T τ}, d.hasOwn = false → Va s d τ = some x → Bj d τ = some x := by
 intro d
 induction d with
 | pr a b iha ihb =>
  intro τ x ho he
  simp only [D.hasOwn, yq] at ho
  cases τ with
  | p t1 t2 =>
   simp only [Va] at he
   split at he
   ·rename_i u v hu hv
    simp only [Bj, iha ho.1 hu, ihb ho.2 hv]
    exact he
   ·simp at he
  | _ => simp [Va] at he
 | own id => intro τ x ho; simp [D.hasOwn] at ho
 | cut id lo hi => intro τ x ho; simp [D.hasOwn] at ho
 | t τ' y => intro τ x _ he; simpa [Va, Bj] using he
 | nil => intro τ x _ he; cases τ <;> simp_all [Va, Bj]
 | un => intro τ x _ he; cases τ <;> simp_all [Va, Bj]
 | _ => intro τ x _ he; cases τ <;> simp [Va] at he
theorem P5 {w : World} {σ : Nat → Value} {O : Nat → Prop} {hp : Nat → Option Ia} {τ : Ty} {d : D} {cs : List Value} (hs : Bb τ d) (h : Ab w O hp σ d cs) : Se w O hp σ d (Od τ cs) := by
 have ha := hs.isAgg
 have hl := Ab.length hs h
 unfold Se Od
 rw [ha]
 cases hτ : τ.isAgg with
 | true => simp only [if_true]; exact ⟨cs.toArray, rfl, by simpa using h⟩
 | false =>
  simp only [jq, if_false]
  rw [Ty.size_one hτ] at hl
  obtain ⟨v, rfl⟩ := q9.1 hl
  simpa using h
section
variable {P : Program} {Out : Type} {n0 : Nat} {A : Fx} {O0 : Nat → Prop} {w0 w w' : World} {s : AS} {σ σ' : Nat → Value} {φ φ' : Nat → List Nat} {a : Act}
variable {o : Oper} {Q : Exit → Act → World → Prop} {k : AS → Option Out} {out : Out} {d : D} {v : Value} {upd : List (Nat × Option Ia)} {dst : Option Tmp} {G : Ue}
theorem JD (h : Qa n0 A O0 w0 s σ φ a w) {O : Nat → Prop} (hV : ∀ (d : D) (τ : Ty) (x : T τ) (cs : List Value), Va s d τ = some x → Ab w (OO O0 s φ) s.heap σ d cs → (O = noO ∨ d.hasOwn = false) → La w O τ x cs) :
 ∀ {args : List Operand} {ds : D} {pt : Ty} {x : T pt}, At s args = some ds → Va s ds pt = some x → (O = noO ∨ ds.hasOwn = false) → Rg w O pt x (args.map a.eval)
 | [], ds, pt, x, he, hv, _ => by
  simp only [At, jc] at he
  subst he
  cases pt <;> simp [Va] at hv
  trivial
 | y :: r, ds, pt, x, he, hv, ho => by
  simp only [At] at he
  split at he
  ·rename_i d1 d2 h1 h2
   simp only [jc] at he
   subst he
   cases pt with
   | p t1 t2 =>
    simp only [Va] at hv
    split at hv
    ·rename_i u1 u2 hu1 hu2
     simp only [jc] at hv
     subst hv
     have ho1 : O = noO ∨ d1.hasOwn = false := ho.imp id fun h => by simp only [D.hasOwn, yq] at h; exact h.1
     have ho2 : O = noO ∨ d2.hasOwn = false := ho.imp id fun h => by simp only [D.hasOwn, yq] at h; exact h.2
     obtain ⟨hr, hvv⟩ := Ye (Hz hu1) (h.ev h1)
     exact ⟨⟨_, hvv, hV _ _ _ _ hu1 hr ho1⟩, JD h hV h2 hu2 ho2⟩
    ·simp at hv
   | _ => simp [Va] at hv
  ·simp at he
def FB (w : World) (b : Option Ia) (v : Value) (F : List Nat) : Prop :=
 (∃ e xs, b = some (.row e true xs) ∧ Tb w (.sl e) xs [v] F) ∨ (∃ k m xs, b = some (.mx k m xs) ∧ Tb w (.mp k m) xs [v] F)
theorem FB.rep {w : World} {b : Ia} {F : List Nat} {O : Nat → Prop} {hp : Nat → Option Ia} {σ : Nat → Value} {id : Nat} (h : FB w (some b) (σ id) F) : Nc w O hp σ id b F := by
 rcases h with ⟨e, xs, he, h⟩ | ⟨k, m, xs, he, h⟩ <;> (simp only [jc] at he; subst he; exact h)
theorem FB.ex {w : World} {b : Option Ia} {v : Value} {F : List Nat} (h : FB w b v F) : ∃ x, b = some x := by
 rcases h with ⟨e, xs, he, _⟩ | ⟨k, m, xs, he, _⟩ <;> exact ⟨_, he⟩
theorem FB.nq {w : World} {kk : IntKind} {e : Ty} {xs : List (Int × List (T e))} {v : Value} {F : List Nat} (h : FB w (some (.mq kk e xs)) v F) : False := by
 rcases h with ⟨e, xs, he, _⟩ | ⟨k, m, xs, he, _⟩ <;> simp at he
theorem Qa.adopt (h : Qa n0 A O0 w0 s σ φ a w) (U : List (Nat × Option Ia)) (hU : (U.map (·.1)).Nodup)
 (hσ : ∀ id, id ∉ U.map (·.1) → σ' id = σ id ∧ φ' id = φ id)
 (hnew : ∀ p, p ∈ U → s.newOk p.1 = true ∨ (∃ Da blk', s.heap p.1 = some Da ∧ p.2 = some blk' ∧ Da.like blk' ∧ σ' p.1 = σ p.1))
 (hK : Yu w w' (fun b => ∃ p, p ∈ U ∧ ∃ Da, s.heap p.1 = some Da ∧ b ∈ φ p.1))
 (hblk : ∀ p, p ∈ U → FB w' p.2 (σ' p.1) (φ' p.1))
 (hnd : (Ea φ' (U.map (·.1))).Nodup)
 (hsub : ∀ b, b ∈ Ea φ' (U.map (·.1)) → w.heap.size ≤ b ∨ ∃ p, p ∈ U ∧ ∃ Da, s.heap p.1 = some Da ∧ b ∈ φ p.1) :
 Qa n0 A O0 w0 ⟨s.n, s.tm, U ++ s.hp⟩ σ' φ' a w' := by
 have hget : ∀ (U : List (Nat × Option Ia)) (id : Nat), id ∉ U.map (·.1) → Jb (U ++ s.hp) id = Jb s.hp id := by
  intro U id
  induction U with
  | nil => simp
  | cons p U ih =>
   intro hn
   simp only [yi, jp, not_or] at hn
   rw [yg, Tc, if_neg (Ne.symm hn.1), ih hn.2]
 have hgetm : ∀ (U : List (Nat × Option Ia)), (U.map (·.1)).Nodup → ∀ p, p ∈ U → Jb (U ++ s.hp) p.1 = some p.2 := by
  intro U
  induction U with
  | nil => simp
  | cons q U ih =>
   intro hn p hp
   simp only [yi, yk] at hn
   rw [yg, Tc]
   rcases jp.1 hp with rfl | hp
   ·rw [if_pos rfl]
   ·rw [if_neg (fun e : q.1 = p.1 => hn.1 (by rw [e]; exact yt hp)), ih hn.2 p hp]
 have hh1 : ∀ id, id ∉ U.map (·.1) → AS.heap ⟨s.n, s.tm, U ++ s.hp⟩ id = s.heap id := fun id hid => by simp [AS.heap, hget U id hid]
 have hh2 : ∀ p, p ∈ U → AS.heap ⟨s.n, s.tm, U ++ s.hp⟩ p.1 = p.2 := fun p hp => by simp [AS.heap, hgetm U hU p hp]
 have hmemb : ∀ id, id ∈ U.map (·.1) → ∃ p, p ∈ U ∧ p.1 = id := fun id hid => by
  obtain ⟨p, hp, he⟩ := qk.1 hid
  exact ⟨p, hp, he⟩
 refine h.trans (fun id => id ∈ U.map (·.1)) rfl rfl ?_ ?_ hK.size ?_ ?_ ?_ ?_ hK.os hK.tape hK.output ?_ ?_
 ·intro id hid
  exact ⟨hh1 id hid, hσ id hid⟩
 ·intro b hb hno
  refine hK.block b hb ?_
  rintro ⟨p, hp, Da, hl, hm⟩
  exact hno p.1 Da (yt hp) hl hm
 ·intro id blk' hid hl b hbm
  rcases hsub b (Cb.2 ⟨id, hid, hbm⟩) with hb | ⟨p, hp, Da, hb, hm⟩
  ·exact .inl hb
  ·exact .inr ⟨p.1, Da, yt hp, hb, hm⟩
 ·intro id blk' hid hl hm
  obtain ⟨p, hp, rfl⟩ := hmemb id hid
  rw [hh2 p hp] at hl
  rcases hnew p hp with hn | ⟨Da, blk'', h1, h2, h3, h4⟩
  ·simp only [AS.newOk, jd, yj] at hn
   rw [hn.1] at hm; simp at hm
  ·rw [h2] at hl
   simp only [jc] at hl
   subst hl
   exact ⟨Da, h1, h3, h4⟩
 ·intro id blk' hid hl
  obtain ⟨p, hp, rfl⟩ := hmemb id hid
  rw [hh2 p hp] at hl
  have hown := hblk p hp
  rw [hl] at hown
  refine ⟨hown.rep, ?_⟩
  have : (φ' p.1).Sublist (Ea φ' (U.map (·.1))) := by
   unfold Ea
   exact List.sublist_flatten_of_mem (yt (yt hp))
  exact this.nodup hnd
 ·intro id id' b1 b2 hid hid' hne _ _ b hb hb'
  have : ∀ (L : List Nat), (Ea φ' L).Nodup → id ∈ L → id' ∈ L → False := by
   intro L
   induction L with
   | nil => simp
   | cons x L ih =>
    intro hn hi hi'
    have hx : Ea φ' (x :: L) = φ' x ++ Ea φ' L := by simp [Ea]
    rw [hx, yl] at hn
    rcases jp.1 hi with e1 | q1
    ·rcases jp.1 hi' with e2 | q2
     ·exact hne (e1.trans e2.symm)
     ·exact hn.2.2 b (e1 ▸ hb) b (Cb.2 ⟨id', q2, hb'⟩) rfl
    ·rcases jp.1 hi' with e2 | q2
     ·exact hn.2.2 b (e2 ▸ hb') b (Cb.2 ⟨id, q1, hb⟩) rfl
     ·exact ih hn.2.1 q1 q2
  exact this _ hnd hid hid'
 ·intro id hid
  obtain ⟨p, hp, rfl⟩ := hmemb id hid
  rcases hnew p hp with hn | ⟨_, _, _, _, _, h4⟩
  ·exact .inr (DA hn)
  ·exact .inl h4
 ·intro id kk e xs hid hl
  obtain ⟨p, hp, rfl⟩ := hmemb id hid
  rw [hh2 p hp] at hl
  have hown := hblk p hp
  rw [hl] at hown
  exact hown.nq.elim
theorem Yw : ∀ {τ : Ty} {x : T τ} {n m : Nat} {d : D} {l : List (Nat × Option Ia)} {cs : List Value} {F : List Nat}, Ie τ x n = (d, l, m) → Tb w' τ x cs F →
 n ≤ m ∧ (∀ p, p ∈ l → n ≤ p.1 ∧ p.1 < m) ∧ Bb τ d ∧ ∃ (ψ : Nat → List Nat) (ν : Nat → Value), Ea ψ (l.map (·.1)) = F ∧ (∀ p, p ∈ l → FB w' p.2 (ν p.1) (ψ p.1)) ∧
  ∀ (w2 : World) (hp' : Nat → Option Ia) (σ' : Nat → Value) (O' : Nat → Prop), (∀ p, p ∈ l → σ' p.1 = ν p.1) → Ab w2 O' hp' σ' d cs
 | .i k, x, n, m, d, l, cs, F, he, h => by
  simp only [Ie, jh] at he
  obtain ⟨rfl, rfl, rfl⟩ := he
  simp only [Tb] at h
  exact ⟨jo _, by simp, rfl, fun _ => [], fun _ => undef, by simp [Ea, h.2], by simp, fun _ _ _ _ _ => h.1⟩
 | .b, x, n, m, d, l, cs, F, he, h => by
  simp only [Ie, jh] at he
  obtain ⟨rfl, rfl, rfl⟩ := he
  simp only [Tb] at h
  exact ⟨jo _, by simp, rfl, fun _ => [], fun _ => undef, by simp [Ea, h.2], by simp, fun _ _ _ _ _ => h.1⟩
 | .o, x, n, m, d, l, cs, F, he, h => by
  simp only [Ie, jh] at he
  obtain ⟨rfl, rfl, rfl⟩ := he
  simp only [Tb] at h
  exact ⟨jo _, by simp, rfl, fun _ => [], fun _ => undef, by simp [Ea, h.2], by simp, fun _ _ _ _ _ => h.1⟩
 | .mp k vt, x, n, m, d, l, cs, F, he, h => by
  simp only [Ie, jh] at he
  obtain ⟨rfl, rfl, rfl⟩ := he
  have hlen := Tb.length h
  simp only [Ty.size] at hlen
  obtain ⟨v, rfl⟩ := q9.1 hlen
  refine ⟨by omega, by simp, trivial, fun _ => F, fun _ => v, by simp [Ea], ?_, ?_⟩
  ·intro p hp
   simp only [qc] at hp
   subst hp
   exact .inr ⟨k, vt, x, rfl, h⟩
  ·intro w2 hp' σ' O' hσ
   refine ⟨v, rfl, h.one v (by simp), fun _ _ _ => ?_⟩
   exact (hσ (n, some (.mx k vt x)) (by simp)).symm
 | .s, x, n, m, d, l, cs, F, he, h => by
  simp only [Ie, jh] at he
  obtain ⟨rfl, rfl, rfl⟩ := he
  simp only [Tb] at h
  exact ⟨jo _, by simp, rfl, fun _ => [], fun _ => undef, by simp [Ea, h.2], by simp, fun _ _ _ _ _ => h.1⟩
 | .u, x, n, m, d, l, cs, F, he, h => by
  simp only [Ie, jh] at he
  obtain ⟨rfl, rfl, rfl⟩ := he
  simp only [Tb] at h
  exact ⟨jo _, by simp, trivial, fun _ => [], fun _ => undef, by simp [Ea, h.2], by simp, fun _ _ _ _ _ => h.1⟩
 | .sl e, x, n, m, d, l, cs, F, he, h => by
  simp only [Ie, jh] at he
  obtain ⟨rfl, rfl, rfl⟩ := he
  have hlen := Tb.length h
  simp only [Ty.size] at hlen
  obtain ⟨v, rfl⟩ := q9.1 hlen
  refine ⟨by omega, by simp, trivial, fun _ => F, fun _ => v, by simp [Ea], ?_, ?_⟩
  ·intro p hp
   simp only [qc] at hp
   subst hp
   exact .inl ⟨e, x, rfl, h⟩
  ·intro w2 hp' σ' O' hσ
   refine ⟨v, rfl, h.one v (by simp), fun _ _ _ _ => ?_⟩
   exact (hσ (n, some (.row e true x)) (by simp)).symm
 | .p t1 t2, x, n, m, d, l, cs, F, he, h => by
  obtain ⟨c1, c2, F1, F2, hc, hF, h1, h2⟩ := h
  simp only [Ie] at he
  rcases ho1 : Ie t1 x.1 n with ⟨d1, l1, m1⟩
  rcases ho2 : Ie t2 x.2 m1 with ⟨d2, l2, m2⟩
  rw [ho1] at he
  simp only at he
  rw [ho2] at he
  simp only [jh] at he
  obtain ⟨rfl, rfl, rfl⟩ := he
  obtain ⟨a1, a2, a3, ψ1, ν1, a4, a5, a6⟩ := Yw ho1 h1
  obtain ⟨b1, b2, b3, ψ2, ν2, b4, b5, b6⟩ := Yw ho2 h2
  refine ⟨by omega, ?_, a3.mkpr b3, fun id => if id < m1 then ψ1 id else ψ2 id, fun id => if id < m1 then ν1 id else ν2 id, ?_, ?_, ?_⟩
  ·intro p hp
   rcases jl.1 hp with hp | hp
   ·have := a2 p hp; omega
   ·have := b2 p hp; omega
  ·rw [yu, Be, hF, ← a4, ← b4]
   congr 1
   ·unfold Ea
    congr 1
    apply List.map_congr_left
    intro id hid
    obtain ⟨p, hp, rfl⟩ := qk.1 hid
    rw [if_pos (a2 p hp).2]
   ·unfold Ea
    congr 1
    apply List.map_congr_left
    intro id hid
    obtain ⟨p, hp, rfl⟩ := qk.1 hid
    rw [if_neg (by have := b2 p hp; omega)]
  ·intro p hp
   rcases jl.1 hp with hp | hp
   ·have := (a2 p hp).2
    simp only [if_pos this]
    exact a5 p hp
   ·have : ¬ p.1 < m1 := by have := b2 p hp; omega
    simp only [if_neg this]
    exact b5 p hp
  ·intro w2 hp' σ' O' hσ
   rw [hc]
   refine Ab.mkpr (a6 w2 hp' σ' O' fun p hp => ?_) (b6 w2 hp' σ' O' fun p hp => ?_)
   ·have h1 := hσ p (qu _ hp)
    simp only [if_pos (a2 p hp).2] at h1
    exact h1
   ·have h1 := hσ p (qv _ hp)
    have h2 : ¬ p.1 < m1 := by have := b2 p hp; omega
    simp only [if_neg h2] at h1
    exact h1
theorem LM {O' : Nat → Prop} : ∀ {rt : Ty} {r : T rt} {fr : List Bool} {n m : Nat} {d : D} {l : List (Nat × Option Ia)} {vs : List Value} {F : List Nat}, Xf rt r fr n = some (d, l, m) → Mc w' O' rt r fr vs F →
 n ≤ m ∧ (∀ p, p ∈ l → n ≤ p.1 ∧ p.1 < m) ∧ ∃ (ψ : Nat → List Nat) (ν : Nat → Value), Ea ψ (l.map (·.1)) = F ∧ (∀ p, p ∈ l → FB w' p.2 (ν p.1) (ψ p.1)) ∧
  ∀ (hp' : Nat → Option Ia) (σ' : Nat → Value) (O'' : Nat → Prop), (∀ p, p ∈ l → σ' p.1 = ν p.1) → (∀ b, b < w'.heap.size → ¬ O' b → ¬ O'' b) → Ig w' O'' hp' σ' d vs
 | .u, r, [], n, m, d, l, vs, F, he, h => by
  simp only [Xf, jc, jh] at he
  obtain ⟨rfl, rfl, rfl⟩ := he
  cases vs with
  | nil =>
   simp only [Mc] at h
   exact ⟨jo _, by simp, fun _ => [], fun _ => undef, by simp [Ea, h], by simp, fun _ _ _ _ _ => trivial⟩
  | cons a r => simp [Mc] at h
 | .p t1 t2, r, f :: fr, n, m, d, l, vs, F, he, h => by
  cases vs with
  | nil => simp [Mc] at h
  | cons v vs =>
   obtain ⟨cs, F1, F2, hv, hF, h1, h2⟩ := h
   simp only [Xf] at he
   rcases ho1 : (bif f then Ie t1 r.1 n else (.t t1 r.1, [], n)) with ⟨d1, l1, m1⟩
   rw [ho1] at he
   simp only at he
   split at he
   ·rename_i d2 l2 m2 ho2
    simp only [jc, jh] at he
    obtain ⟨rfl, rfl, rfl⟩ := he
    obtain ⟨b1, b2, ψ2, ν2, b4, b5, b6⟩ := LM ho2 h2
    have hA : n ≤ m1 ∧ (∀ p, p ∈ l1 → n ≤ p.1 ∧ p.1 < m1) ∧ Bb t1 d1 ∧ ∃ (ψ : Nat → List Nat) (ν : Nat → Value), Ea ψ (l1.map (·.1)) = F1 ∧ (∀ p, p ∈ l1 → FB w' p.2 (ν p.1) (ψ p.1)) ∧
     ∀ (hp' : Nat → Option Ia) (σ' : Nat → Value) (O'' : Nat → Prop), (∀ p, p ∈ l1 → σ' p.1 = ν p.1) → (∀ b, b < w'.heap.size → ¬ O' b → ¬ O'' b) → Ab w' O'' hp' σ' d1 cs := by
     cases f with
     | true =>
      simp only [ze] at ho1
      simp only [if_true] at h1
      obtain ⟨a1, a2, a3, ψ1, ν1, a4, a5, a6⟩ := Yw ho1 h1
      exact ⟨a1, a2, a3, ψ1, ν1, a4, a5, fun hp' σ' O'' hσ _ => a6 w' hp' σ' O'' hσ⟩
     | false =>
      simp only [zf, jh] at ho1
      obtain ⟨rfl, rfl, rfl⟩ := ho1
      simp only [jq, if_false] at h1
      exact ⟨jo _, by simp, by simp [Bb], fun _ => [], fun _ => undef, by simp [Ea, h1.2], by simp, fun hp' σ' O'' _ hO => La.stable (fun _ _ _ => rfl) hO h1.1⟩
    obtain ⟨a1, a2, a3, ψ1, ν1, a4, a5, a6⟩ := hA
    refine ⟨by omega, ?_, fun id => if id < m1 then ψ1 id else ψ2 id, fun id => if id < m1 then ν1 id else ν2 id, ?_, ?_, ?_⟩
    ·intro p hp
     rcases jl.1 hp with hp | hp
     ·have := a2 p hp; omega
     ·have := b2 p hp; omega
    ·rw [yu, Be, hF, ← a4, ← b4]
     congr 1
     ·unfold Ea
      congr 1
      apply List.map_congr_left
      intro id hid
      obtain ⟨p, hp, rfl⟩ := qk.1 hid
      rw [if_pos (a2 p hp).2]
     ·unfold Ea
      congr 1
      apply List.map_congr_left
      intro id hid
      obtain ⟨p, hp, rfl⟩ := qk.1 hid
      rw [if_neg (by have := b2 p hp; omega)]
    ·intro p hp
     rcases jl.1 hp with hp | hp
     ·have := (a2 p hp).2
      simp only [if_pos this]
      exact a5 p hp
     ·have : ¬ p.1 < m1 := by have := b2 p hp; omega
      simp only [if_neg this]
      exact b5 p hp
    ·intro hp' σ' O'' hσ hO
     rw [hv]
     refine ⟨P5 a3 (a6 hp' σ' O'' (fun p hp => ?_) hO), b6 hp' σ' O'' (fun p hp => ?_) hO⟩
     ·have h1 := hσ p (qu _ hp)
      simp only [if_pos (a2 p hp).2] at h1
      exact h1
     ·have h1 := hσ p (qv _ hp)
      have h2 : ¬ p.1 < m1 := by have := b2 p hp; omega
      simp only [if_neg h2] at h1
      exact h1
   ·simp at he
 | .u, _, _ :: _, _, _, _, _, _, _, he, _ => by simp [Xf] at he
 | .p _ _, _, [], _, _, _, _, _, _, he, _ => by simp [Xf] at he
 | .i _, _, fr, _, _, _, _, _, _, he, _ => by cases fr <;> simp [Xf] at he
 | .b, _, fr, _, _, _, _, _, _, he, _ => by cases fr <;> simp [Xf] at he
 | .o, _, fr, _, _, _, _, _, _, he, _ => by cases fr <;> simp [Xf] at he
 | .mp _ _, _, fr, _, _, _, _, _, _, he, _ => by cases fr <;> simp [Xf] at he
 | .s, _, fr, _, _, _, _, _, _, he, _ => by cases fr <;> simp [Xf] at he
 | .sl _, _, fr, _, _, _, _, _, _, he, _ => by cases fr <;> simp [Xf] at he
theorem XX {O : Nat → Prop} {hp : Nat → Option Ia} {d d' : D} {vs : List Value} (he : WH d = some d') (h : Ig w O hp σ d vs) : Zc w O hp σ d' (YC vs) := by
 unfold WH at he
 split at he
 ·rename_i a
  simp only [jc] at he
  subst he
  cases vs with
  | nil => simp [Ig] at h
  | cons v vs =>
   cases vs with
   | nil => exact Bx h.1
   | cons u vs => simp [Ig] at h
 ·rename_i hne
  simp only [jc] at he
  subst he
  refine ⟨vs.toArray, ?_, by simpa using h⟩
  cases vs with
  | nil => rfl
  | cons v vs =>
   cases vs with
   | nil =>
    exfalso
    cases d with
    | pr a b =>
     have hb := h.2
     cases b with
     | un => exact hne a rfl
     | _ => simp [Ig] at hb
    | _ => simp [Ig] at h
   | cons u vs => rfl
theorem SA {f : FuncId} {args : Array Operand} {ts : Array TypeId} (ho : o.op = .call ⟨.value (.func f), args, ts⟩) (hf : LA P f) :
 (execOp a.eval o).run P w = .ok (.enter f (args.toList.map a.eval).toArray) w := by
 obtain ⟨fn, h1, h2, h3⟩ := hf
 have : (args.toList.map a.eval).toArray = args.map a.eval := by rw [← Array.toList_map, Array.toArray_toList]
 have h2' : ¬ fn.name = "runtime.NumGoroutine" := by simpa using h2
 have h3' : ¬ fn.body = none := by
  intro e
  rw [e] at h3
  simp at h3
 rw [this]
 simp [execOp, ho, resolve, Deferred.ofValue, invoke, callFunc, Act.eval, run_program, h1, h2', h3']
theorem Xy {u : List (Nat × Option Ia)} (h : Yd s u = true) : (∀ p, p ∈ u → s.newOk p.1 = true) ∧ (u.map (·.1)).Nodup := by
 simp only [Yd, jd, yv] at h
 exact ⟨fun p hp => h.1 p hp, Gh h.2⟩
end
theorem Mc.all {w : World} {O O' : Nat → Prop} : ∀ {rt : Ty} {r : T rt} {fr : List Bool} {vs : List Value} {F : List Nat}, fr.all id = true → Mc w O rt r fr vs F → Mc w O' rt r fr vs F
 | .u, _, [], [], _, _, h => h
 | .p x y, r, f :: fr, v :: vs, F, ha, h => by
  simp only [List.all_cons, id, jd] at ha
  obtain ⟨cs, F1, F2, hv, hF, h1, h2⟩ := h
  have hf : f = true := ha.1
  subst hf
  exact ⟨cs, F1, F2, hv, hF, h1, Mc.all (O := O) ha.2 h2⟩
 | .u, _, _ :: _, _, _, _, h => by simp [Mc] at h
 | .u, _, [], _ :: _, _, _, h => by simp [Mc] at h
 | .p _ _, _, [], _, _, _, h => by simp [Mc] at h
 | .p _ _, _, _ :: _, [], _, _, h => by simp [Mc] at h
 | .i _, _, fr, vs, _, _, h => by simp [Mc] at h
 | .b, _, fr, vs, _, _, h => by simp [Mc] at h
 | .o, _, fr, vs, _, _, h => by simp [Mc] at h
 | .mp _ _, _, fr, vs, _, _, h => by simp [Mc] at h
 | .s, _, fr, vs, _, _, h => by simp [Mc] at h
 | .sl _, _, fr, vs, _, _, h => by simp [Mc] at h
theorem Kar {w w' : World} {e : Ty} {xs ys : List (T e)} {v : Value} {F F' : List Nat} (h : Tb w (.sl e) xs [v] F) (h' : Tb w' (.sl e) ys [v] F') : ja xs = ja ys := by
 obtain ⟨_, ⟨h1, h2, _⟩ | ⟨_, _, _, _, _, _, h1, _⟩⟩ := h <;> obtain ⟨_, ⟨g1, g2, _⟩ | ⟨_, _, _, _, _, _, g1, _⟩⟩ := h'
 ·rw [h2, g2]
 ·rw [h1] at g1; simp at g1
 ·rw [h1] at g1; simp at g1
 ·rw [h1] at g1; simp at g1; exact g1.2.1
section
variable {P : Program} {Out : Type} {n0 : Nat} {A : Fx} {O0 : Nat → Prop} {w0 w w' : World} {s : AS} {σ σ' : Nat → Value} {φ φ' : Nat → List Nat} {a : Act}
variable {o : Oper} {Q : Exit → Act → World → Prop} {k : AS → Option Out} {out : Out} {d : D} {v : Value} {upd : List (Nat × Option Ia)} {dst : Option Tmp} {G : Ue}
theorem TK {x : Operand} (hx : s.ev x = some d) {j : Nat} (hj : d.ment j = true) : s.ment j = true := by
 cases x with
 | tmp q => exact AS.ment_tm hx hj
 | const c =>
  exfalso
  simp only [AS.ev] at hx
  unfold TN at hx
  split at hx <;> simp at hx <;> subst hx <;> simp [D.ment] at hj
 | _ => simp [AS.ev] at hx
theorem AP : ∀ {d : D} {τ : Ty} {x : T τ} {l : List Nat}, Pb s d τ = some (x, l) → ∀ j, j ∈ l → d.ment j = true := by
 intro d
 induction d with
 | t τ' y =>
  intro τ x l he j hj
  simp only [Pb] at he
  cases hf : τ'.flat with
  | false => rw [hf] at he; simp at he
  | true =>
   rw [hf] at he
   simp only [ze] at he
   split at he
   ·simp only [jc, jh] at he
    rw [← he.2] at hj
    simp at hj
   ·simp at he
 | nil => intro τ x l he j hj; cases τ <;> simp [Pb] at he; rw [he.2] at hj; simp at hj
 | own id =>
  intro τ x l he j hj
  cases τ with
  | sl e =>
   simp only [Pb] at he
   split at he
   ·rename_i e' dp xs hb
    cases hc : (dp || e'.flat) with
    | false => rw [hc] at he; simp at he
    | true =>
     rw [hc] at he
     simp only [ze] at he
     split at he
     ·simp only [jc, jh] at he
      rw [← he.2] at hj
      simp at hj
      subst hj
      simp [D.ment]
     ·simp at he
   ·simp at he
  | _ => simp [Pb] at he
 | pr a b iha ihb =>
  intro τ x l he j hj
  cases τ with
  | p t1 t2 =>
   simp only [Pb] at he
   split at he
   ·rename_i u l1 v l2 h1 h2
    simp only [jc, jh] at he
    rw [← he.2] at hj
    simp only [D.ment, qx]
    rcases jl.1 hj with hj | hj
    ·exact .inl (iha h1 j hj)
    ·exact .inr (ihb h2 j hj)
   ·simp at he
  | _ => simp [Pb] at he
 | un => intro τ x l he j hj; cases τ <;> simp [Pb] at he; rw [he] at hj; simp at hj
 | mpo id =>
  intro τ x l he j hj
  cases τ with
  | mp k v =>
   simp only [Pb] at he
   split at he
   ·split at he
    ·simp only [jc, jh] at he
     rw [← he.2] at hj
     simp at hj
     subst hj
     simp [D.ment]
    ·simp at he
   ·simp at he
  | _ => simp [Pb] at he
 | _ => intro τ x l he; cases τ <;> simp [Pb] at he
theorem War (h : Qa n0 A O0 w0 s σ φ a w) : ∀ {d : D} {τ : Ty} {x x' : T τ} {l : List Nat} {cs : List Value} {F : List Nat}, Pb s d τ = some (x, l) → l.Nodup → Ab w (OO O0 s φ) s.heap σ d cs → Tb w' τ x' cs F →
 (ID d τ x').map (·.1) = l ∧ ∃ ψ : Nat → List Nat, Ea ψ l = F ∧ ∀ p, p ∈ ID d τ x' → FB w' p.2 (σ p.1) (ψ p.1) ∧ ∃ b Da, p.2 = some b ∧ s.heap p.1 = some Da ∧ Da.like b := by
 intro d
 induction d with
 | t τ' y =>
  intro τ x x' l cs F he hn hr ho
  simp only [Pb] at he
  cases hf : τ'.flat with
  | false => rw [hf] at he; simp at he
  | true =>
   rw [hf] at he
   simp only [ze] at he
   split at he
   ·rename_i q hq
    subst q
    simp only [jc, jh] at he
    obtain ⟨rfl, rfl⟩ := he
    have hF := Cu hf ho
    have hup : ID (.t τ' y) τ' x' = [] := by cases τ' <;> rfl
    rw [hup]
    exact ⟨rfl, fun _ => [], by simp [Ea, hF], by simp⟩
   ·simp at he
 | nil =>
  intro τ x x' l cs F he hn hr ho
  cases τ with
  | sl e =>
   simp only [Pb, jc, jh] at he
   obtain ⟨rfl, rfl⟩ := he
   simp only [Ab] at hr
   subst hr
   refine ⟨rfl, fun _ => [], ?_, by simp [ID]⟩
   obtain ⟨_, ⟨_, _, h3⟩ | ⟨_, _, _, _, _, _, h1, _⟩⟩ := ho
   ·simp [Ea, h3]
   ·simp at h1
  | _ => simp [Pb] at he
 | own id =>
  intro τ x x' l cs F he hn hr ho
  cases τ with
  | sl e =>
   simp only [Pb] at he
   split at he
   ·rename_i e' dp xs hb
    cases hc : (dp || e'.flat) with
    | false => rw [hc] at he; simp at he
    | true =>
     rw [hc] at he
     simp only [ze] at he
     split at he
     ·rename_i q hq
      subst q
      simp only [jc, jh] at he
      obtain ⟨rfl, rfl⟩ := he
      obtain ⟨u, hcs, _, hu⟩ := hr
      have hu' := hu _ _ hb rfl
      subst hu'
      subst hcs
      have hold := JQ (h.hp id _ hb) (by simpa using hc)
      refine ⟨rfl, fun _ => F, by simp [Ea], ?_⟩
      intro p hp
      simp only [ID, qc] at hp
      subst hp
      exact ⟨.inl ⟨e', x', rfl, ho⟩, _, _, rfl, hb, rfl, Kar hold ho⟩
     ·simp at he
   ·simp at he
  | _ => simp [Pb] at he
 | pr d1 d2 iha ihb =>
  intro τ x x' l cs F he hn hr ho
  cases τ with
  | p t1 t2 =>
   simp only [Pb] at he
   split at he
   ·rename_i u l1 v l2 h1 h2
    simp only [jc, jh] at he
    obtain ⟨rfl, rfl⟩ := he
    obtain ⟨c1, c2, hc, r1, r2⟩ := hr
    obtain ⟨e1, e2, F1, F2, hc', hF, o1, o2⟩ := ho
    have hlen : c1.length = e1.length := by
     rw [Ab.length (Kj h1) r1, Tb.length o1]
    rw [hc] at hc'
    obtain ⟨q1, q2⟩ := List.append_inj hc' hlen
    subst q1; subst q2
    rw [yl] at hn
    obtain ⟨i1, ψ1, i2, i3⟩ := iha h1 hn.1 r1 o1
    obtain ⟨j1, ψ2, j2, j3⟩ := ihb h2 hn.2.1 r2 o2
    have hnot : ∀ j, j ∈ l2 → j ∉ l1 := fun j hj hj' => hn.2.2 j hj' j hj rfl
    refine ⟨by simp [ID, i1, j1], fun j => if j ∈ l1 then ψ1 j else ψ2 j, ?_, ?_⟩
    ·rw [Be, hF, ← i2, ← j2]
     congr 1
     ·unfold Ea
      congr 1
      exact List.map_congr_left fun j hj => by rw [if_pos hj]
     ·unfold Ea
      congr 1
      exact List.map_congr_left fun j hj => by rw [if_neg (hnot j hj)]
    ·intro p hp
     simp only [ID] at hp
     rcases jl.1 hp with hp | hp
     ·have hm : p.1 ∈ l1 := by rw [← i1]; exact yt hp
      simp only [if_pos hm]
      exact i3 p hp
     ·have hm : p.1 ∈ l2 := by rw [← j1]; exact yt hp
      simp only [if_neg (hnot _ hm)]
      exact j3 p hp
   ·simp at he
  | _ => simp [Pb] at he
 | un =>
  intro τ x x' l cs F he hn hr ho
  cases τ with
  | u =>
   simp only [Pb, jc, jh] at he
   obtain ⟨_, rfl⟩ := he
   simp only [Tb] at ho
   exact ⟨rfl, fun _ => [], by simp [Ea, ho.2], by simp [ID]⟩
  | _ => simp [Pb] at he
 | mpo id =>
  intro τ x x' l cs F he hn hr ho
  cases τ with
  | mp k v =>
   simp only [Pb] at he
   split at he
   ·rename_i k' v' xs hb
    split at he
    ·rename_i q1 q2 g1 g2
     subst q1; subst q2
     simp only [jc, jh] at he
     obtain ⟨rfl, rfl⟩ := he
     obtain ⟨u, hcs, _, hu⟩ := hr
     have hu' := hu _ hb rfl
     subst hu'
     subst hcs
     refine ⟨rfl, fun _ => F, by simp [Ea], ?_⟩
     intro p hp
     simp only [ID, qc] at hp
     subst hp
     exact ⟨.inr ⟨_, _, x', rfl, ho⟩, _, _, rfl, hb, rfl, rfl⟩
    ·simp at he
   ·simp at he
  | _ => simp [Pb] at he
 | _ => intro τ x x' l cs F he; cases τ <;> simp [Pb] at he
theorem Zk {l : List Nat} (h : ∀ j, j ∈ l → φ j = φ' j) : Ea φ l = Ea φ' l := by
 unfold Ea
 congr 1
 exact List.map_congr_left h
theorem VL (h : Qa n0 A O0 w0 s σ φ a w) {l : List Nat} {V : List (Nat × Option Ia)} (hV : V.map (·.1) = l) (hl : l.Nodup) (hlm : ∀ j, j ∈ l → s.ment j = true) {ψ0 : Nat → List Nat} {F1 : List Nat}
 (hb0 : Ea ψ0 l = F1) (hVp : ∀ p, p ∈ V → FB w' p.2 (σ p.1) (ψ0 p.1) ∧ ∃ b Da, p.2 = some b ∧ s.heap p.1 = some Da ∧ Da.like b)
 (hK : Yu w w' (· ∈ Ea φ l)) (hF1 : ∀ b, b ∈ F1 → w.heap.size ≤ b ∨ b ∈ Ea φ l) {rt : Ty} {r : T rt} {fr : List Bool} {n m : Nat} {d d' : D} {u : List (Nat × Option Ia)} {vs : List Value} {Fr : List Nat}
 (hop : Xf rt r fr n = some (d, u, m)) (hfi : Yd s u = true) (hR : Mc w' (fun b => OO O0 s φ b ∨ b ∈ F1 ∨ b ∈ Fr) rt r fr vs Fr) (hnd : (F1 ++ Fr).Nodup) (hFr : ∀ b, b ∈ Fr → w.heap.size ≤ b ∨ b ∈ Ea φ l)
 (hres : WH d = some d') (he : Zg s dst d' (u ++ V) k = some out) : Ve n0 A O0 w0 k out (a.put dst (YC vs)) w' := by
 obtain ⟨hnew, hun⟩ := Xy hfi
 obtain ⟨_, _, ψ, ν, hb1, hup, hrep⟩ := LM hop hR
 have hul : ∀ j, j ∈ u.map (·.1) → j ∉ l := by
  intro j hj hj'
  obtain ⟨p, hp, rfl⟩ := qk.1 hj
  have h1 := hnew p hp
  simp only [AS.newOk, jd, yj] at h1
  rw [hlm _ hj'] at h1
  simp at h1
 let σ' : Nat → Value := fun j => if j ∈ u.map (·.1) then ν j else σ j
 let φ' : Nat → List Nat := fun j => if j ∈ u.map (·.1) then ψ j else if j ∈ l then ψ0 j else φ j
 have hσu : ∀ p, p ∈ u → σ' p.1 = ν p.1 := fun p hp => if_pos (yt hp)
 have hφu : ∀ j, j ∈ u.map (·.1) → φ' j = ψ j := fun j hj => if_pos hj
 have hφl : ∀ j, j ∈ l → φ' j = ψ0 j := fun j hj => by
  have : j ∉ u.map (·.1) := fun hj' => hul j hj' hj
  show (if j ∈ u.map (·.1) then ψ j else if j ∈ l then ψ0 j else φ j) = ψ0 j
  rw [if_neg this, if_pos hj]
 have hbl : Ea φ' ((u ++ V).map (·.1)) = Fr ++ F1 := by
  rw [yu, Be, hV, ← hb1, ← hb0, Zk hφu, Zk hφl]
 have hc : Qa n0 A O0 w0 ⟨s.n, s.tm, (u ++ V) ++ s.hp⟩ σ' φ' a w' := by
  refine h.adopt (u ++ V) ?_ ?_ ?_ ⟨hK.size, fun b hb hno => hK.block b hb fun hm => hno ?_, hK.os, hK.tape, hK.output⟩ ?_ ?_ ?_
  ·rw [yu, hV, yl]
   exact ⟨hun, hl, fun x hx y hy e => hul x hx (e ▸ hy)⟩
  ·intro j hj
   rw [yu, hV, jl, not_or] at hj
   exact ⟨if_neg hj.1, (if_neg hj.1).trans (if_neg hj.2)⟩
  ·intro p hp
   rcases jl.1 hp with hp | hp
   ·exact .inl (hnew p hp)
   ·obtain ⟨h2, b, Da, h1, h3, h4⟩ := hVp p hp
    have hpl : p.1 ∈ l := by rw [← hV]; exact yt hp
    exact .inr ⟨Da, _, h3, h1, h4, if_neg fun hj => hul _ hj hpl⟩
  ·obtain ⟨j, hj, hm'⟩ := Cb.1 hm
   rw [← hV] at hj
   obtain ⟨p, hp, rfl⟩ := qk.1 hj
   obtain ⟨h2, b, Da, h1, h3, h4⟩ := hVp p hp
   exact ⟨p, qv _ hp, Da, h3, hm'⟩
  ·intro p hp
   rcases jl.1 hp with hp | hp
   ·have h2 := hup p hp
    rw [hσu p hp, hφu _ (yt hp)]
    exact h2
   ·obtain ⟨h2, b, Da, h1, h3, h4⟩ := hVp p hp
    have hpl : p.1 ∈ l := by rw [← hV]; exact yt hp
    have : σ' p.1 = σ p.1 := if_neg fun hj => hul _ hj hpl
    rw [this, hφl _ hpl]
    exact h2
  ·rw [hbl]
   exact (List.perm_append_comm.nodup_iff).1 hnd
  ·intro b hb
   rw [hbl] at hb
   have hb2 : w.heap.size ≤ b ∨ b ∈ Ea φ l := by
    rcases jl.1 hb with hb | hb
    ·exact hFr b hb
    ·exact hF1 b hb
   rcases hb2 with hb | hb
   ·exact .inl hb
   ·obtain ⟨j, hj, hm'⟩ := Cb.1 hb
    rw [← hV] at hj
    obtain ⟨p, hp, rfl⟩ := qk.1 hj
    obtain ⟨h2, b, Da, h1, h3, h4⟩ := hVp p hp
    exact .inr ⟨p, qv _ hp, Da, h3, hm'⟩
 refine Me rfl hc ?_ he
 refine XX hres (hrep _ _ _ hσu ?_)
 intro b hb hno hO
 apply hno
 rcases hO with hO | ⟨j, Da, hl', hm⟩
 ·exact .inl (.inl hO)
 ·by_cases hju : j ∈ u.map (·.1)
  ·rw [hφu j hju] at hm
   exact .inr (.inr (by rw [← hb1]; exact Cb.2 ⟨j, hju, hm⟩))
  ·by_cases hjl : j ∈ l
   ·rw [hφl j hjl] at hm
    exact .inr (.inl (by rw [← hb0]; exact Cb.2 ⟨j, hjl, hm⟩))
   ·have hφ : φ' j = φ j := (if_neg hju).trans (if_neg hjl)
    rw [hφ] at hm
    have hne : ∀ (U : List (Nat × Option Ia)), j ∉ U.map (·.1) → Jb (U ++ s.hp) j = Jb s.hp j := by
     intro U
     induction U with
     | nil => simp
     | cons p U ih =>
      intro hn
      simp only [yi, jp, not_or] at hn
      rw [yg, Tc, if_neg (Ne.symm hn.1), ih hn.2]
    have hjUV : j ∉ (u ++ V).map (·.1) := by
     rw [yu, hV, jl, not_or]; exact ⟨hju, hjl⟩
    have : s.heap j = some Da := by
     have h1 := hl'
     simp only [AS.heap] at h1 ⊢
     rw [hne _ hjUV] at h1
     exact h1
    exact .inl (.inr ⟨j, Da, this, hm⟩)
theorem PN (h : Qa n0 A O0 w0 s σ φ a w) {l : List Nat} (hlive : ∀ j, j ∈ l → ∃ b, s.heap j = some b) : ∀ b, b ∈ Ea φ l → A.I.base ≤ b := by
 intro b hb
 obtain ⟨j, hj, hm⟩ := Cb.1 hb
 obtain ⟨Da, hbj⟩ := hlive j hj
 exact h.ivb hbj hm
theorem Sy {α : Type} {l m : List (Nat × α)} {k : Nat} (h : k ∉ l.map (·.1)) : Jb (l ++ m) k = Jb m k := by
 induction l with
 | nil => rfl
 | cons p l ih =>
  simp only [yi, jp, not_or] at h
  rw [yg, Tc, if_neg (Ne.symm h.1), ih h.2]
theorem NN {α : Type} {l m : List (Nat × α)} : (l.map (·.1)).Nodup → ∀ p, p ∈ l → Jb (l ++ m) p.1 = some p.2 := by
 induction l with
 | nil => simp
 | cons q l ih =>
  intro hn p hp
  simp only [yi, yk] at hn
  rw [yg, Tc]
  rcases jp.1 hp with rfl | hp
  ·rw [if_pos rfl]
  ·rw [if_neg (fun e : q.1 = p.1 => hn.1 (by rw [e]; exact yt hp)), ih hn.2 p hp]
theorem Fac {ψ : Nat → List Nat} : ∀ {L : List Nat}, (Ea ψ L).Nodup → ∀ {i j b : Nat}, i ∈ L → j ∈ L → i ≠ j → b ∈ ψ i → b ∉ ψ j := by
 intro L
 induction L with
 | nil => simp
 | cons x L ih =>
  intro hn i j b hi hj hne hbi hbj
  have hx : Ea ψ (x :: L) = ψ x ++ Ea ψ L := by simp [Ea]
  rw [hx, yl] at hn
  rcases jp.1 hi with e1 | q1
  ·rcases jp.1 hj with e2 | q2
   ·exact hne (e1.trans e2.symm)
   ·exact hn.2.2 b (e1 ▸ hbi) b (Cb.2 ⟨j, q2, hbj⟩) rfl
  ·rcases jp.1 hj with e2 | q2
   ·exact hn.2.2 b (e2 ▸ hbj) b (Cb.2 ⟨i, q1, hbi⟩) rfl
   ·exact ih hn.2.1 q1 q2 hne hbi hbj
def OL (O0 : Nat → Prop) (s : AS) (l : List Nat) (φ : Nat → List Nat) (b : Nat) : Prop := O0 b ∨ ∃ j Da, j ∉ l ∧ s.heap j = some Da ∧ b ∈ φ j
theorem OL.oo {O0 : Nat → Prop} {s : AS} {l : List Nat} {φ : Nat → List Nat} {b : Nat} (h : OL O0 s l φ b) : OO O0 s φ b := h.imp id fun ⟨j, Da, _, h1, h2⟩ => ⟨j, Da, h1, h2⟩
theorem Jar {s : AS} : ∀ {d : D} {τ : Ty} {x : T τ} {l : List Nat}, Pb s d τ = some (x, l) → ∀ j, j ∈ l → ∀ Da, s.heap j = some Da → ∀ ρ e, Da ≠ .box ρ e := by
 intro d
 induction d with
 | t τ' y =>
  intro τ x l he j hj
  simp only [Pb] at he
  cases hf : τ'.flat with
  | false => rw [hf] at he; simp at he
  | true =>
   rw [hf] at he
   simp only [ze] at he
   split at he
   ·simp only [jc, jh] at he
    rw [← he.2] at hj; simp at hj
   ·simp at he
 | nil =>
  intro τ x l he j hj
  cases τ <;> simp [Pb] at he
  rw [he.2] at hj; simp at hj
 | own id =>
  intro τ x l he j hj Da hb ρ e
  cases τ with
  | sl e1 =>
   simp only [Pb] at he
   split at he
   ·rename_i e' dp xs hid
    cases hf : dp || e'.flat with
    | false => rw [hf] at he; simp at he
    | true =>
     rw [hf] at he
     simp only [ze] at he
     split at he
     ·simp only [jc, jh] at he
      rw [← he.2, qc] at hj
      subst hj
      rw [hid] at hb
      simp only [jc] at hb
      subst hb
      simp
     ·simp at he
   ·simp at he
  | _ => simp [Pb] at he
 | mpo id =>
  intro τ x l he j hj Da hb ρ e
  cases τ with
  | mp k v =>
   simp only [Pb] at he
   split at he
   ·rename_i k' v' xs hid
    split at he
    ·simp only [jc, jh] at he
     rw [← he.2, qc] at hj
     subst hj
     rw [hid] at hb
     simp only [jc] at hb
     subst hb
     simp
    ·simp at he
   ·simp at he
  | _ => simp [Pb] at he
 | pr y z ih1 ih2 =>
  intro τ x l he j hj
  cases τ with
  | p t1 t2 =>
   simp only [Pb] at he
   split at he
   ·rename_i u1 l1 u2 l2 h1 h2
    simp only [jc, jh] at he
    rw [← he.2] at hj
    rcases jl.1 hj with hj | hj
    ·exact ih1 h1 j hj
    ·exact ih2 h2 j hj
   ·simp at he
  | _ => simp [Pb] at he
 | un =>
  intro τ x l he j hj
  cases τ <;> simp [Pb] at he
  rw [he] at hj; simp at hj
 | _ => intro τ x l he; cases τ <;> simp [Pb] at he
theorem Qa.after2 (h : Qa n0 A O0 w0 s σ φ a w) {U X : List (Nat × Option Ia)} {l : List Nat} {ψ : Nat → List Nat} {ν : Nat → Value}
 (hU : (U.map (·.1)).Nodup) (hUn : ∀ p, p ∈ U → s.newOk p.1 = true) (hX : (X.map (·.1)).Nodup) (hl : ∀ j, j ∈ l → ∃ b, s.heap j = some b) (hXl : ∀ j, j ∈ X.map (·.1) → j ∉ l)
 (hK : Yu w w' (· ∈ Ea φ (X.map (·.1) ++ l))) (hUr : ∀ p, p ∈ U → FB w' p.2 (ν p.1) (ψ p.1))
 (hnd : (Ea ψ (U.map (·.1))).Nodup) (hsub : ∀ b, b ∈ Ea ψ (U.map (·.1)) → w.heap.size ≤ b ∨ b ∈ Ea φ l)
 (hlm : ∀ j, j ∈ X.map (·.1) ++ l → s.newOk j = false)
 (hXr : ∀ p, p ∈ X → ∃ ρ d e, p.2 = some (.box ρ e) ∧ s.heap p.1 = some (.box ρ d) ∧
  ∀ (hp' : Nat → Option Ia) (σ' : Nat → Value) (O' : Nat → Prop), σ' p.1 = σ p.1 → (∀ q, q ∈ U → σ' q.1 = ν q.1) → (∀ b, O' b → OO O0 s φ b ∨ b ∈ Ea ψ (U.map (·.1))) → Nc w' O' hp' σ' p.1 (.box ρ e) (φ p.1)) :
 ∃ σ' φ', Qa n0 A O0 w0 ⟨s.n, s.tm, U ++ (X ++ Kc l) ++ s.hp⟩ σ' φ' a w' ∧ (∀ q, q ∈ U → σ' q.1 = ν q.1) ∧ (∀ b, OO O0 ⟨s.n, s.tm, U ++ (X ++ Kc l) ++ s.hp⟩ φ' b → OL O0 s l φ b ∨ b ∈ Ea ψ (U.map (·.1))) := by
 have hUX : ∀ j, j ∈ U.map (·.1) → j ∉ X.map (·.1) ++ l := by
  intro j hj hj'
  obtain ⟨p, hp, rfl⟩ := qk.1 hj
  have h1 := hlm _ hj'
  rw [hUn p hp] at h1
  simp at h1
 let σ' : Nat → Value := fun j => if j ∈ U.map (·.1) then ν j else σ j
 let φ' : Nat → List Nat := fun j => if j ∈ U.map (·.1) then ψ j else φ j
 have hσu : ∀ p, p ∈ U → σ' p.1 = ν p.1 := fun p hp => if_pos (yt hp)
 have hφu : ∀ j, j ∈ U.map (·.1) → φ' j = ψ j := fun j hj => if_pos hj
 have hφn : ∀ j, j ∉ U.map (·.1) → φ' j = φ j := fun j hj => if_neg hj
 have hσn : ∀ j, j ∉ U.map (·.1) → σ' j = σ j := fun j hj => if_neg hj
 have hget : ∀ j, AS.heap ⟨s.n, s.tm, U ++ (X ++ Kc l) ++ s.hp⟩ j = (Jb (U ++ (X ++ Kc l) ++ s.hp) j).join := fun _ => rfl
 have hgU : ∀ p, p ∈ U → AS.heap ⟨s.n, s.tm, U ++ (X ++ Kc l) ++ s.hp⟩ p.1 = p.2 := fun p hp => by
  rw [hget, q0, NN hU p hp]; rfl
 have hgX : ∀ p, p ∈ X → AS.heap ⟨s.n, s.tm, U ++ (X ++ Kc l) ++ s.hp⟩ p.1 = p.2 := fun p hp => by
  have h1 : p.1 ∉ U.map (·.1) := fun hc => hUX _ hc (qu _ (yt hp))
  rw [hget, q0, Sy h1, q0, NN hX p hp]; rfl
 have hgl : ∀ j, j ∈ l → AS.heap ⟨s.n, s.tm, U ++ (X ++ Kc l) ++ s.hp⟩ j = none := fun j hj => by
  have h1 : j ∉ U.map (·.1) := fun hc => hUX _ hc (qv _ hj)
  have h2 : j ∉ X.map (·.1) := fun hc => hXl j hc hj
  rw [hget, q0, Sy h1, q0, Sy h2, Ht, if_pos hj]; rfl
 have hgo : ∀ j, j ∉ U.map (·.1) → j ∉ X.map (·.1) → j ∉ l → AS.heap ⟨s.n, s.tm, U ++ (X ++ Kc l) ++ s.hp⟩ j = s.heap j := fun j h1 h2 h3 => by
  rw [hget, q0, Sy h1, q0, Sy h2, Ht, if_neg h3]; rfl
 have hbX : ∀ p, p ∈ X → ∃ Da, s.heap p.1 = some Da := fun p hp => by
  obtain ⟨ρ, d, e, _, h2, _⟩ := hXr p hp
  exact ⟨_, h2⟩
 have hOO' : ∀ b, OO O0 ⟨s.n, s.tm, U ++ (X ++ Kc l) ++ s.hp⟩ φ' b → OL O0 s l φ b ∨ b ∈ Ea ψ (U.map (·.1)) := by
  rintro b (hb | ⟨j, Da, hl', hm⟩)
  ·exact .inl (.inl hb)
  ·by_cases hju : j ∈ U.map (·.1)
   ·rw [hφu j hju] at hm
    exact .inr (Cb.2 ⟨j, hju, hm⟩)
   ·rw [hφn j hju] at hm
    by_cases hjx : j ∈ X.map (·.1)
    ·obtain ⟨p, hp, rfl⟩ := qk.1 hjx
     obtain ⟨blk', hb'⟩ := hbX p hp
     exact .inl (.inr ⟨p.1, blk', hXl _ hjx, hb', hm⟩)
    ·by_cases hjl : j ∈ l
     ·rw [hgl j hjl] at hl'; simp at hl'
     ·rw [hgo j hju hjx hjl] at hl'
      exact .inl (.inr ⟨j, Da, hjl, hl', hm⟩)
 have hOO : ∀ b, OO O0 ⟨s.n, s.tm, U ++ (X ++ Kc l) ++ s.hp⟩ φ' b → OO O0 s φ b ∨ b ∈ Ea ψ (U.map (·.1)) := fun b hb => (hOO' b hb).imp OL.oo id
 refine ⟨σ', φ', ?_, hσu, hOO'⟩
 refine h.trans (fun j => j ∈ U.map (·.1) ∨ j ∈ X.map (·.1) ∨ j ∈ l) rfl rfl ?_ ?_ hK.size ?_ ?_ ?_ ?_ hK.os hK.tape hK.output ?_ ?_
 rotate_right
 ·intro j kk e xs hj hl'
  rcases hj with hj | hj | hj
  ·obtain ⟨p, hp, rfl⟩ := qk.1 hj
   have ho := hUr p hp
   rw [hgU p hp] at hl'
   rw [hl'] at ho
   exact ho.nq.elim
  ·obtain ⟨p, hp, rfl⟩ := qk.1 hj
   obtain ⟨ρ, d, e, h1, h2, _⟩ := hXr p hp
   rw [hgX p hp, h1] at hl'
   simp at hl'
  ·rw [hgl j hj] at hl'; simp at hl'
 ·intro j hj
  simp only [not_or] at hj
  exact ⟨hgo j hj.1 hj.2.1 hj.2.2, hσn j hj.1, hφn j hj.1⟩
 ·intro b hb hno
  refine hK.block b hb fun hm => ?_
  obtain ⟨j, hj, hm⟩ := Cb.1 hm
  rcases jl.1 hj with hj | hj
  ·obtain ⟨p, hp, rfl⟩ := qk.1 hj
   obtain ⟨blk', hb'⟩ := hbX p hp
   exact hno p.1 blk' (.inr (.inl hj)) hb' hm
  ·obtain ⟨blk', hb'⟩ := hl j hj
   exact hno j blk' (.inr (.inr hj)) hb' hm
 ·intro j blk' hj hl' b hbm
  rcases hj with hj | hj | hj
  ·rw [hφu j hj] at hbm
   rcases hsub b (Cb.2 ⟨j, hj, hbm⟩) with h1 | h1
   ·exact .inl h1
   ·obtain ⟨i, hi, hm⟩ := Cb.1 h1
    obtain ⟨Da, hb⟩ := hl i hi
    exact .inr ⟨i, Da, .inr (.inr hi), hb, hm⟩
  ·have hju : j ∉ U.map (·.1) := fun hc => hUX _ hc (qu _ hj)
   rw [hφn j hju] at hbm
   obtain ⟨p, hp, rfl⟩ := qk.1 hj
   obtain ⟨Da, hb⟩ := hbX p hp
   exact .inr ⟨p.1, Da, .inr (.inl hj), hb, hbm⟩
  ·rw [hgl j hj] at hl'; simp at hl'
 ·intro j blk' hj hl' hm
  rcases hj with hj | hj | hj
  ·obtain ⟨p, hp, rfl⟩ := qk.1 hj
   have hn := hUn p hp
   simp only [AS.newOk, jd, yj] at hn
   rw [hn.1] at hm; simp at hm
  ·have hju : j ∉ U.map (·.1) := fun hc => hUX _ hc (qu _ hj)
   obtain ⟨p, hp, rfl⟩ := qk.1 hj
   obtain ⟨ρ, d, e, h1, h2, _⟩ := hXr p hp
   rw [hgX p hp, h1] at hl'
   simp only [jc] at hl'
   subst hl'
   exact ⟨_, h2, by simp [Ia.like], hσn _ hju⟩
  ·rw [hgl j hj] at hl'; simp at hl'
 ·intro j blk' hj hl'
  rcases hj with hj | hj | hj
  ·rw [hφu j hj]
   obtain ⟨p, hp, rfl⟩ := qk.1 hj
   have ho := hUr p hp
   rw [hgU p hp] at hl'
   rw [hl', ← hσu p hp] at ho
   refine ⟨ho.rep, ?_⟩
   ·have : (ψ p.1).Sublist (Ea ψ (U.map (·.1))) := by
     unfold Ea
     exact List.sublist_flatten_of_mem (yt (yt hp))
    exact this.nodup hnd
  ·have hju : j ∉ U.map (·.1) := fun hc => hUX _ hc (qu _ hj)
   rw [hφn j hju]
   obtain ⟨p, hp, rfl⟩ := qk.1 hj
   obtain ⟨ρ, d, e, h1, h2, h3⟩ := hXr p hp
   rw [hgX p hp, h1] at hl'
   simp only [jc] at hl'
   subst hl'
   exact ⟨h3 _ _ _ (hσn _ hju) hσu hOO, h.nodup _ _ h2⟩
  ·rw [hgl j hj] at hl'; simp at hl'
 ·intro i j b1 b2 hi hj hne hl1 hl2 b hbi hbj
  have hlt : ∀ p, p ∈ X → b ∈ φ p.1 → b ∉ Ea ψ (U.map (·.1)) := by
   intro p hp hm hc
   obtain ⟨Da, hb⟩ := hbX p hp
   rcases hsub b hc with h1 | h1
   ·have := (h.hp p.1 Da hb).lt b hm; omega
   ·obtain ⟨q, hq, hmq⟩ := Cb.1 h1
    obtain ⟨blk2, hb2⟩ := hl q hq
    exact h.disj p.1 q Da blk2 (fun e => hXl p.1 (yt hp) (e ▸ hq)) hb hb2 b hm hmq
  rcases hi with hi | hi | hi
  ·rw [hφu i hi] at hbi
   rcases hj with hj | hj | hj
   ·rw [hφu j hj] at hbj
    exact Fac hnd hi hj hne hbi hbj
   ·have hju : j ∉ U.map (·.1) := fun hc => hUX _ hc (qu _ hj)
    rw [hφn j hju] at hbj
    obtain ⟨p, hp, rfl⟩ := qk.1 hj
    exact hlt p hp hbj (Cb.2 ⟨i, hi, hbi⟩)
   ·rw [hgl j hj] at hl2; simp at hl2
  ·have hiu : i ∉ U.map (·.1) := fun hc => hUX _ hc (qu _ hi)
   rw [hφn i hiu] at hbi
   rcases hj with hj | hj | hj
   ·rw [hφu j hj] at hbj
    obtain ⟨p, hp, rfl⟩ := qk.1 hi
    exact hlt p hp hbi (Cb.2 ⟨j, hj, hbj⟩)
   ·have hju : j ∉ U.map (·.1) := fun hc => hUX _ hc (qu _ hj)
    rw [hφn j hju] at hbj
    obtain ⟨p, hp, rfl⟩ := qk.1 hi
    obtain ⟨q, hq, rfl⟩ := qk.1 hj
    obtain ⟨Da, hb⟩ := hbX p hp
    obtain ⟨blk2, hb2⟩ := hbX q hq
    exact h.disj _ _ Da blk2 hne hb hb2 b hbi hbj
   ·rw [hgl j hj] at hl2; simp at hl2
  ·rw [hgl i hi] at hl1; simp at hl1
 ·intro j hj
  by_cases hju : j ∈ U.map (·.1)
  ·obtain ⟨p, hp, rfl⟩ := qk.1 hju
   exact .inr (DA (hUn p hp))
  ·exact .inl (hσn j hju)
theorem Qa.after (h : Qa n0 A O0 w0 s σ φ a w) {U X : List (Nat × Option Ia)} {l : List Nat} {ψ : Nat → List Nat} {ν : Nat → Value}
 (hU : (U.map (·.1)).Nodup) (hUn : ∀ p, p ∈ U → s.newOk p.1 = true) (hX : (X.map (·.1)).Nodup) (hl : ∀ j, j ∈ l → ∃ b, s.heap j = some b) (hXl : ∀ j, j ∈ X.map (·.1) → j ∉ l)
 (hK : Yu w w' (· ∈ Ea φ (X.map (·.1) ++ l))) (hUr : ∀ p, p ∈ U → FB w' p.2 (ν p.1) (ψ p.1))
 (hnd : (Ea ψ (U.map (·.1))).Nodup) (hsub : ∀ b, b ∈ Ea ψ (U.map (·.1)) → w.heap.size ≤ b ∨ b ∈ Ea φ l)
 (hlm : ∀ j, j ∈ X.map (·.1) ++ l → s.newOk j = false)
 (hXr : ∀ p, p ∈ X → ∃ ρ d e, p.2 = some (.box ρ e) ∧ s.heap p.1 = some (.box ρ d) ∧
  ∀ (hp' : Nat → Option Ia) (σ' : Nat → Value) (O' : Nat → Prop), σ' p.1 = σ p.1 → (∀ q, q ∈ U → σ' q.1 = ν q.1) → (∀ b, O' b → OO O0 s φ b ∨ b ∈ Ea ψ (U.map (·.1))) → Nc w' O' hp' σ' p.1 (.box ρ e) (φ p.1)) :
 ∃ σ' φ', Qa n0 A O0 w0 ⟨s.n, s.tm, U ++ (X ++ Kc l) ++ s.hp⟩ σ' φ' a w' ∧ (∀ q, q ∈ U → σ' q.1 = ν q.1) ∧ (∀ b, OO O0 ⟨s.n, s.tm, U ++ (X ++ Kc l) ++ s.hp⟩ φ' b → OO O0 s φ b ∨ b ∈ Ea ψ (U.map (·.1))) := by
 obtain ⟨σ', φ', h1, h2, h3⟩ := h.after2 hU hUn hX hl hXl hK hUr hnd hsub hlm hXr
 exact ⟨σ', φ', h1, h2, fun b hb => (h3 b hb).imp OL.oo id⟩
theorem KD {f : FuncId} {args : List Value} (hrun : (execOp a.eval o).run P w = .ok (.enter f args.toArray) w) {R : Value → World → Prop} (hc : Calls P f args.toArray w (Qr R))
 (hg : ∀ v w', R v w' → Ve n0 A O0 w0 k out (a.put o.dst v) w') : o.wp P a w (Ve n0 A O0 w0 k out) Q := by
 unfold Oper.wp
 rw [hrun, Oper.upon_enter]
 refine hc.mono fun e w' hR => ?_
 cases e with
 | returned v => exact hg v w' hR
 | panicked chain => exact hR.elim
 | outgrown => exact hR.elim
theorem YS (h : Qa n0 A O0 w0 s σ φ a w) : ∀ {args : List Operand} {ds : D} {pt : Ty} {x : T pt} {l : List Nat}, At s args = some ds → Pb s ds pt = some (x, l) →
 Of w pt x (args.map a.eval) (Ea φ l) ∧ (∀ j, j ∈ l → ∃ b, s.heap j = some b) ∧ (∀ j, j ∈ l → s.ment j = true)
 | [], ds, pt, x, l, he, hv => by
  simp only [At, jc] at he
  subst he
  cases pt <;> simp [Pb] at hv
  subst hv
  exact ⟨rfl, by simp, by simp⟩
 | y :: r, ds, pt, x, l, he, hv => by
  simp only [At] at he
  split at he
  ·rename_i d1 d2 h1 h2
   simp only [jc] at he
   subst he
   cases pt with
   | p t1 t2 =>
    simp only [Pb] at hv
    split at hv
    ·rename_i u1 l1 u2 l2 hu1 hu2
     simp only [jc, jh] at hv
     obtain ⟨rfl, rfl⟩ := hv
     obtain ⟨hr, hvv⟩ := Ye (Kj hu1) (h.ev h1)
     obtain ⟨ho, hlive⟩ := Jn h hu1 hr
     obtain ⟨a1, a2, a3⟩ := YS h h2 hu2
     refine ⟨⟨_, Ea φ l1, Ea φ l2, hvv, Be, ho, a1⟩, fun j hj => ?_, fun j hj => ?_⟩
     ·rcases jl.1 hj with hj | hj
      ·exact hlive j hj
      ·exact a2 j hj
     ·rcases jl.1 hj with hj | hj
      ·exact TK h1 (AP hu1 j hj)
      ·exact a3 j hj
    ·simp at hv
   | _ => simp [Pb] at hv
  ·simp at he
theorem PV {j : Nat} (h : s.ment j = true) : s.newOk j = false := by simp [AS.newOk, h]
theorem VM {id : Nat} {e : Ty} {dp : Bool} {xs : List (T e)} {O O' : Nat → Prop} {hp : Nat → Option Ia} {F : List Nat} (h : Nc w O hp σ id (.row e dp xs) F) (hO : ∀ b, O' b → O b) (hF : ∀ b, b ∈ F → ¬ O' b) :
 La w O' (.sl e) xs [σ id] := by
 cases dp with
 | true => exact Tb.view (show Tb w (.sl e) xs [σ id] F from h) hF
 | false =>
  simp only [Nc] at h
  obtain ⟨hm, ⟨h1, h2, _⟩ | ⟨bl, off, cap, cur, et, h1, hh, h2, h3, h4, hF', hv⟩⟩ := h
  ·subst h2; exact ⟨none, 0, by rw [h1]; rfl, jo _, hm, .inl rfl⟩
  ·have := jm e.size h2
   exact ⟨_, cap, by rw [h1], h2, hm, .inr ⟨bl, off, cur, et, _, rfl, hF bl (by rw [hF']; simp), hh, by omega, fun i hi => (hv i hi).weaken hO⟩⟩
theorem Qa.drop (h : Qa n0 A O0 w0 s σ φ a w) (l : List Nat) : Qa n0 A O0 w0 ⟨s.n, s.tm, Kc l ++ s.hp⟩ σ φ a w := by
 have hn : ∀ j, j ∈ l → AS.heap ⟨s.n, s.tm, Kc l ++ s.hp⟩ j = none := fun j hj => by simp only [AS.heap, Ht, if_pos hj]; rfl
 refine h.trans (· ∈ l) rfl rfl (fun id hid => ⟨by simp only [AS.heap, Ht, if_neg hid], rfl, rfl⟩) (fun _ _ _ => rfl) (jo _) ?_ ?_ ?_ ?_ rfl rfl rfl (fun _ _ => .inl rfl) (fun id kk e xs hid hl => by rw [hn id hid] at hl; simp at hl)
 ·intro id Da hid hl; rw [hn id hid] at hl; simp at hl
 ·intro id Da hid hl; rw [hn id hid] at hl; simp at hl
 ·intro id Da hid hl; rw [hn id hid] at hl; simp at hl
 ·intro id id' Da blk' hid _ _ hl; rw [hn id hid] at hl; simp at hl
theorem C7 {l : List Nat} {b : Nat} (hb : OO O0 ⟨s.n, s.tm, Kc l ++ s.hp⟩ φ b) : O0 b ∨ ∃ j Da, j ∉ l ∧ s.heap j = some Da ∧ b ∈ φ j := by
 rcases hb with hb | ⟨j, Da, hl, hm⟩
 ·exact .inl hb
 ·by_cases hj : j ∈ l
  ·simp only [AS.heap, Ht, if_pos hj] at hl; simp at hl
  ·simp only [AS.heap, Ht, if_neg hj] at hl
   exact .inr ⟨j, Da, hj, hl, hm⟩
theorem Mad {l : List Nat} {j : Nat} : AS.newOk ⟨s.n, s.tm, Kc l ++ s.hp⟩ j = s.newOk j := by
 have : AS.ment ⟨s.n, s.tm, Kc l ++ s.hp⟩ j = s.ment j := by
  simp only [AS.ment, List.any_append]
  have : (Kc l).any (fun x => (x.2.map (Ia.ment j)).getD false) = false := by
   rw [List.any_eq_false]
   intro x hx
   obtain ⟨k, _, rfl⟩ := qk.1 hx
   simp
  rw [this, yr]
 simp only [AS.newOk, this]
theorem YZ {l : List Nat} {u : List (Nat × Option Ia)} : Yd ⟨s.n, s.tm, Kc l ++ s.hp⟩ u = Yd s u := by
 simp only [Yd, Mad]
def FzQ (bm cm : Bool) (A : Fx) (O0 : Nat → Prop) : Prop := (∀ b, ¬ A.A b) ∨ (cm = true ∧ ∀ b, A.A b → ¬ O0 b) ∨ (bm = true ∧ ∀ c, A.A c → A.pin 500000 = some (.pointer (some ⟨c, 0, none⟩)))
def QJ (G : Ue) (A : Fx) (O0 : Nat → Prop) : Prop := G.fz = true → FzQ (AC G.att) (cmB G.att) A O0
def B7 (O0 : Nat → Prop) (s : AS) (φ : Nat → List Nat) : Prop := ∀ id Da, s.heap id = some Da → (∀ ρ d, Da ≠ .box ρ d) → ∀ b, b ∈ φ id → ¬ O0 b
theorem noA {bm cm : Bool} (hz : FzQ bm cm A O0) (hl : (!bm || s.boxLive) = true) (h : Qa n0 A O0 w0 s σ φ a w) : B7 O0 s φ := by
 intro id Da hb hne b hm hO
 have hlt := h.o0 b hO
 have hA : A.A b := (h.fresh id Da hb b hm).resolve_left (by omega)
 rcases hz with hz | ⟨_, hz⟩ | ⟨rfl, hz⟩
 ·exact hz b hA
 ·exact hz b hA hO
 ·have hp := h.pin 500000 _ (hz b hA)
  simp only [jg, yr, AS.boxLive] at hl
  split at hl
  ·rename_i ρ d hbx
   obtain ⟨_, b', cur, et, h1, h2, h3, _⟩ := h.hp 500000 _ hbx
   rw [hp] at h1
   simp only [Value.pointer.injEq, jc, Addr.mk.injEq, and_true] at h1
   subst h1
   have hid : id ≠ 500000 := by
    rintro rfl
    rw [hbx] at hb
    simp only [jc] at hb
    exact hne ρ d hb.symm
   exact h.disj id 500000 _ _ hid hb hbx b hm (by rw [h3]; simp)
  ·simp at hl
theorem Mae (hA : B7 O0 s φ) (h : Qa n0 A O0 w0 s σ φ a w) {L : List Nat} : ∀ {d : D} {τ : Ty} {x : T τ} {cs : List Value}, Va s d τ = some x → Ab w (OO O0 s φ) s.heap σ d cs → d.noCut = true → (∀ j, j ∈ d.owns → j ∈ L) →
 La w (OO O0 ⟨s.n, s.tm, Kc L ++ s.hp⟩ φ) τ x cs := by
 have hO : ∀ b, OO O0 ⟨s.n, s.tm, Kc L ++ s.hp⟩ φ b → OO O0 s φ b := fun b hb => by
  rcases C7 hb with hb | ⟨j, Da, _, hl, hm⟩
  ·exact .inl hb
  ·exact .inr ⟨j, Da, hl, hm⟩
 intro d
 induction d with
 | t τ' y =>
  intro τ x cs he hr _ _
  simp only [Va] at he
  split at he
  ·rename_i q hq
   obtain rfl := Ud hq
   simp only [jc] at he
   subst he
   exact La.weaken hO hr
  ·simp at he
 | nil =>
  intro τ x cs he hr _ _
  cases τ with
  | sl e =>
   simp only [Va, jc] at he
   subst he
   simp only [Ab] at hr
   exact ⟨none, 0, hr, jo _, by simp, .inl rfl⟩
  | _ => simp [Va] at he
 | own id =>
  intro τ x cs he hr _ hL
  cases τ with
  | sl e =>
   simp only [Va] at he
   split at he
   ·rename_i e' dp xs hb
    split at he
    ·rename_i q hq
     obtain rfl := Ud hq
     simp only [jc] at he
     subst he
     obtain ⟨v, hcs, _, hv⟩ := hr
     rw [hcs, hv _ _ hb rfl]
     refine VM (h.hp id _ hb) hO fun b hm hb' => ?_
     have hid : id ∈ L := hL id (by simp [D.owns])
     rcases C7 hb' with ho | ⟨j, Da, hj, hl, hm'⟩
     ·exact hA id _ hb (fun _ _ e => by simp at e) b hm ho
     ·exact h.disj id j _ Da (fun e => hj (e ▸ hid)) hb hl b hm hm'
    ·simp at he
   ·rename_i e' xs hb
    split at he
    ·rename_i q hq
     obtain rfl := Ud hq
     simp only [jc] at he
     subst he
     obtain ⟨v, hcs, _, hv⟩ := hr
     rw [hcs, hv _ _ hb rfl]
     exact La.weaken hO (h.hp id _ hb).2
    ·simp at he
   ·simp at he
  | _ => simp [Va] at he
 | pr y z ih1 ih2 =>
  intro τ x cs he hr hc hL
  cases τ with
  | p t1 t2 =>
   simp only [Va] at he
   split at he
   ·rename_i u v hu hv
    simp only [jc] at he
    subst he
    simp only [D.noCut, jd] at hc
    obtain ⟨c1, c2, h0, h1, h2⟩ := hr
    exact ⟨c1, c2, h0, ih1 hu h1 hc.1 fun j hj => hL j (by simp [D.owns, hj]), ih2 hv h2 hc.2 fun j hj => hL j (by simp [D.owns, hj])⟩
   ·simp at he
  | _ => simp [Va] at he
 | un =>
  intro τ x cs he hr _ _
  cases τ with
  | u => simp only [Ab] at hr; exact hr
  | _ => simp [Va] at he
 | cut id lo hi => intro τ x cs _ _ hc; simp [D.noCut] at hc
 | _ => intro τ x cs he; cases τ <;> simp [Va] at he
theorem JW (hA : B7 O0 s φ) (h : Qa n0 A O0 w0 s σ φ a w) {L : List Nat} :
 ∀ {args : List Operand} {ds : D} {pt : Ty} {x : T pt}, At s args = some ds → Va s ds pt = some x → ds.noCut = true → (∀ j, j ∈ ds.owns → j ∈ L) → Rg w (OO O0 ⟨s.n, s.tm, Kc L ++ s.hp⟩ φ) pt x (args.map a.eval)
 | [], ds, pt, x, he, hv, _, _ => by
  simp only [At, jc] at he
  subst he
  cases pt <;> simp [Va] at hv
  trivial
 | y :: r, ds, pt, x, he, hv, hc, hL => by
  simp only [At] at he
  split at he
  ·rename_i d1 d2 h1 h2
   simp only [jc] at he
   subst he
   cases pt with
   | p t1 t2 =>
    simp only [Va] at hv
    split at hv
    ·rename_i u1 u2 hu1 hu2
     simp only [jc] at hv
     subst hv
     simp only [D.noCut, jd] at hc
     obtain ⟨hr, hvv⟩ := Ye (Hz hu1) (h.ev h1)
     exact ⟨⟨_, hvv, Mae hA h hu1 hr hc.1 fun j hj => hL j (by simp [D.owns, hj])⟩, JW hA h h2 hu2 hc.2 fun j hj => hL j (by simp [D.owns, hj])⟩
    ·simp at hv
   | _ => simp [Va] at hv
  ·simp at he
theorem Ear (hG : Cj P A.I G) (hfz : QJ G A O0) (h : Qa n0 A O0 w0 s σ φ a w) {f : FuncId} {args : Array Operand} {ts : Array TypeId} (ho : o.op = .call ⟨.value (.func f), args, ts⟩)
 (he : Hf G s o k = some out) : o.wp P a w (Ve n0 A O0 w0 k out) Q := by
 simp only [Hf, Sb, ho] at he
 unfold BE at he
 split at he
 ·
  rename_i pt rt fr F hfn
  obtain ⟨hE, hS⟩ := hG.fn _ _ hfn
  split at he
  ·rename_i ds hds
   split at he
   ·rename_i x hx
    cases hr : F x with
    | none => simp [hr] at he
    | some r =>
     simp only [hr, jb] at he
     split at he
     ·rename_i d u m hop
      split at he
      ·rename_i d' hres
       cases hc : (jx m (100064 + 64 * o.dst.getD 0) && Yd s u && ((!ds.hasOwn || fr.all id) || ((G.fz && !AC G.att) && ds.noCut))) with
       | false => rw [hc] at he; simp at he
       | true =>
        rw [hc] at he
        simp only [ze] at he
        simp only [jd] at hc
        obtain ⟨⟨_, hfi⟩, hno⟩ := hc
        cases hno1 : (!ds.hasOwn || fr.all id) with
        | false =>
         rw [hno1] at hno he
         simp only [yr, jd, yj] at hno
         simp only [zf] at he
         have h1 := h.drop ds.owns
         have hV := JW (noA (hfz hno.1.1) (by rw [hno.1.2]; rfl) h) h (L := ds.owns) hds hx hno.2 fun j hj => hj
         refine KD (SA ho hE) (hS _ w x r _ hr hV (fun b hb => h1.OO_lt hb) h.iv (qa h.iv0 h.fr.size)) ?_
         rintro v w' ⟨vs, Fr, rfl, hK, hR, hFn, hFr⟩
         have e : (fun b => OO O0 ⟨s.n, s.tm, Kc ds.owns ++ s.hp⟩ φ b ∨ b ∈ ([] : List Nat) ∨ b ∈ Fr) = (fun b => OO O0 ⟨s.n, s.tm, Kc ds.owns ++ s.hp⟩ φ b ∨ b ∈ Fr) := by
          funext b; simp
         refine VL (s := ⟨s.n, s.tm, Kc ds.owns ++ s.hp⟩) (V := []) (l := []) (ψ0 := fun _ => []) (F1 := []) h1 rfl List.nodup_nil (by simp) (by simp [Ea]) (by simp) ⟨hK.size, fun b hb _ => hK.block b hb (fun h => h), hK.os, hK.tape, hK.output⟩ (by simp)
          hop (YZ.trans hfi) (by rw [e]; exact hR) (by simpa using hFn) (fun b hb => .inl (hFr b hb)) hres ?_
         unfold Zg at he ⊢
         simp only [yw, ← q0]
         exact he
        | true =>
        rw [hno1] at he
        simp only [ze] at he
        simp only [qx, yj] at hno1
        have hno := hno1
        have key : ∃ O : Nat → Prop, (∀ b, O b → b < w.heap.size) ∧ Rg w O pt x (args.toList.map a.eval) ∧
         ∀ (w' : World) (vs : List Value) (Fr : List Nat), Mc w' (fun b => O b ∨ b ∈ Fr) rt r fr vs Fr → Mc w' (fun b => OO O0 s φ b ∨ b ∈ ([] : List Nat) ∨ b ∈ Fr) rt r fr vs Fr := by
         rcases hno with hno | hno
         ·refine ⟨OO O0 s φ, fun b hb => h.OO_lt hb, JD h (fun d τ x cs he hr ho => ?_) hds hx (.inr hno), fun w' vs Fr hR => ?_⟩
          ·rcases ho with ho | ho
           ·rw [ho]; exact Bt h he hr
           ·exact (Wg (NJ ho he)).2 _ hr
          ·have : (fun b => OO O0 s φ b ∨ b ∈ ([] : List Nat) ∨ b ∈ Fr) = (fun b => OO O0 s φ b ∨ b ∈ Fr) := by
            funext b; simp
           rw [this]; exact hR
         ·exact ⟨noO, fun b hb => hb.elim, JD h (fun d τ x cs he hr _ => Bt h he hr) hds hx (.inl rfl), fun w' vs Fr hR => hR.all hno⟩
        obtain ⟨O, hO1, hO2, hO3⟩ := key
        refine KD (SA ho hE) (hS O w x r _ hr hO2 hO1 h.iv (qa h.iv0 h.fr.size)) ?_
        rintro v w' ⟨vs, Fr, rfl, hK, hR, hFn, hFr⟩
        exact VL (V := []) (l := []) (ψ0 := fun _ => []) (F1 := []) h rfl List.nodup_nil (by simp) (by simp [Ea]) (by simp) ⟨hK.size, fun b hb _ => hK.block b hb (fun h => h), hK.os, hK.tape, hK.output⟩ (by simp)
         hop hfi (hO3 _ _ _ hR) (by simpa using hFn) (fun b hb => .inl (hFr b hb)) hres (by simpa using he)
      ·simp at he
     ·simp at he
   ·simp at he
  ·simp at he
 ·
  rename_i τ pt rt fr F hfn
  obtain ⟨hE, hS⟩ := hG.fn _ _ hfn
  split at he
  ·rename_i a0 args' hargs
   split at he
   ·rename_i d0 ds hd0 hds
    split at he
    ·rename_i x0 l x hx0 hx
     cases hr : F x0 x with
     | none => simp [hr] at he
     | some r =>
      simp only [hr, jb] at he
      split at he
      ·rename_i d u m hop
       split at he
       ·rename_i d' hres
        cases hc : (jx m (100064 + 64 * o.dst.getD 0) && Yd s u && Nf l && !ds.hasOwn) with
        | false => rw [hc] at he; simp at he
        | true =>
         rw [hc] at he
         simp only [ze] at he
         simp only [jd, yj] at hc
         obtain ⟨⟨⟨_, hfi⟩, hnd⟩, hno⟩ := hc
         have hnd := Gh hnd
         obtain ⟨hrep, hval⟩ := Ye (Kj hx0) (h.ev hd0)
         obtain ⟨hown, hlive⟩ := Jn h hx0 hrep
         have hbn := Rf h hnd hlive
         have hva : Rg w (OO O0 s φ) pt x (args'.map a.eval) := by
          refine JD h (fun d τ x cs he hr ho => ?_) hds hx (.inr hno)
          rcases ho with ho | ho
          ·rw [ho]; exact Bt h he hr
          ·exact (Wg (NJ ho he)).2 _ hr
         have hsub : ∀ b, b ∈ Ea φ l → OO O0 s φ b := by
          intro b hb
          obtain ⟨j, hj, hm⟩ := Cb.1 hb
          obtain ⟨Da, hbj⟩ := hlive j hj
          exact .inr ⟨j, Da, hbj, hm⟩
         have hOO : (fun b => OO O0 s φ b ∨ b ∈ Ea φ l) = OO O0 s φ := by
          funext b
          exact propext ⟨fun h => h.elim id (hsub b), .inl⟩
         have hrun := SA (a := a) (w := w) ho hE
         rw [hargs, yi, hval] at hrun
         refine KD hrun (hS (OO O0 s φ) w x0 x r _ _ _ hr hown hbn (by rw [hOO]; exact hva) (fun b hb => h.OO_lt hb) h.iv (qa h.iv0 h.fr.size) (PN h hlive)) ?_
         rintro v w' ⟨vs, F1, Fr, rfl, hK, hown', hF1, hR, hFn, hFr⟩
         obtain ⟨g1, ψ, g2, g3⟩ := War h hx0 hnd hrep hown'
         refine VL (V := ID d0 τ r.1) (l := l) (ψ0 := ψ) (F1 := F1) h g1 hnd (fun j hj => TK hd0 (AP hx0 j hj)) g2 g3 hK hF1 hop hfi ?_ hFn hFr hres he
         have : (fun b => OO O0 s φ b ∨ b ∈ F1 ∨ b ∈ Fr) = (fun b => OO O0 s φ b ∨ b ∈ Ea φ l ∨ b ∈ F1 ∨ b ∈ Fr) := by
          funext b
          refine propext ⟨fun h => h.elim .inl fun h => .inr (.inr h), fun h => h.elim .inl fun h => h.elim (fun h => .inl (hsub b h)) .inr⟩
         rw [this]
         exact hR
       ·simp at he
      ·simp at he
    ·simp at he
   ·simp at he
  ·simp at he
 ·
  rename_i pt rt fr F hfn
  obtain ⟨hE, hS⟩ := hG.fn _ _ hfn
  split at he
  ·rename_i ds hds
   split at he
   ·rename_i x l hx
    cases hr : F x with
    | none => simp [hr] at he
    | some r =>
     simp only [hr, jb] at he
     split at he
     ·rename_i d u m hop
      split at he
      ·rename_i d' hres
       cases hc : (jx m (100064 + 64 * o.dst.getD 0) && Yd s u && Nf l && (fr.all id || (G.fz && !AC G.att))) with
       | false => rw [hc] at he; simp at he
       | true =>
        rw [hc] at he
        simp only [ze] at he
        simp only [jd] at hc
        obtain ⟨⟨⟨_, hfi⟩, hnd⟩, hvw⟩ := hc
        have hnd := Gh hnd
        obtain ⟨hnew, hun⟩ := Xy hfi
        obtain ⟨hoa, hlive, hlm⟩ := YS h hds hx
        have hbn := Rf h hnd hlive
        have hsub : ∀ b, b ∈ Ea φ l → OO O0 s φ b := by
         intro b hb
         obtain ⟨j, hj, hm⟩ := Cb.1 hb
         obtain ⟨Da, hbj⟩ := hlive j hj
         exact .inr ⟨j, Da, hbj, hm⟩
        have key : ∃ O : Nat → Prop, (∀ b, O b → b < w.heap.size) ∧ (fr.all id = true ∨ ∀ b, b ∈ Ea φ l → ¬ O b) ∧
         ∀ (w' : World) (vs : List Value) (Fr : List Nat), Mc w' (fun b => O b ∨ b ∈ Fr) rt r fr vs Fr → Mc w' (fun b => OL O0 s l φ b ∨ b ∈ Fr) rt r fr vs Fr := by
         cases hall : fr.all id with
         | true => exact ⟨noO, fun b hb => hb.elim, .inl rfl, fun w' vs Fr hR => hR.all hall⟩
         | false =>
          rw [hall] at hvw
          simp only [yr, jd, yj] at hvw
          have hN := noA (hfz hvw.1) (by rw [hvw.2]; rfl) h
          refine ⟨OL O0 s l φ, fun b hb => h.OO_lt hb.oo, .inr fun b hb hO => ?_, fun w' vs Fr hR => hR⟩
          obtain ⟨j, hj, hm⟩ := Cb.1 hb
          obtain ⟨Da, hbj⟩ := hlive j hj
          rcases hO with ho | ⟨j', blk', hj', hl', hm'⟩
          ·exact hN j Da hbj (Jar hx j hj Da hbj) b hm ho
          ·exact h.disj j j' Da blk' (fun e => hj' (e ▸ hj)) hbj hl' b hm hm'
        obtain ⟨O, hO1, hO2, hO3⟩ := key
        refine KD (SA ho hE) (hS O w x r _ _ hr hoa hbn hO1 hO2 h.iv (qa h.iv0 h.fr.size) (PN h hlive)) ?_
        rintro v w' ⟨vs, Fr, rfl, hK, hR, hFn, hFr⟩
        have hR := hO3 _ _ _ hR
        obtain ⟨_, _, ψ, ν, hb1, hup, hrep⟩ := LM hop hR
        obtain ⟨σ', φ', hc', g1, g2⟩ := h.after2 (U := u) (X := []) (l := l) (ψ := ψ) (ν := ν) hun hnew (by simp) hlive (by simp) (by simpa using hK) hup (by rw [hb1]; exact hFn)
         (by rw [hb1]; exact hFr) (fun j hj => PV (hlm j (by simpa using hj))) (by simp)
        refine Me (upd := u ++ Kc l) rfl hc' ?_ he
        refine XX hres (hrep _ _ _ g1 fun b _ hno hO => hno ?_)
        rw [hb1] at g2
        exact g2 b hO
      ·simp at he
     ·simp at he
   ·simp at he
  ·simp at he
 ·
  rename_i vw cv τ pt rt fr F hfn
  obtain ⟨hE, hS⟩ := hG.fn _ _ hfn
  split at he
  ·rename_i a0 args' hargs
   split at he
   ·rename_i bid ds hd0 hds
    split at he
    ·rename_i τ' d0 hbx
     split at he
     ·rename_i q x0 l x l2 hq hx0 hx
      obtain rfl := Ud hq
      cases hr : F x0 x with
      | none => simp [hr] at he
      | some r =>
       simp only [hr, jb] at he
       split at he
       ·rename_i d u m hop
        split at he
        ·rename_i d' e v m' hres hev
         cases hc : (jx m' (100064 + 64 * o.dst.getD 0) && Yd s (u ++ v) && Nf (bid :: (l ++ l2)) && (cv || !ds.hasOwn)) with
         | false => rw [hc] at he; simp at he
         | true =>
          rw [hc] at he
          simp only [ze] at he
          simp only [jd] at hc
          obtain ⟨⟨⟨_, hfi⟩, hnd⟩, hcv⟩ := hc
          have hnd := Gh hnd
          rw [yk] at hnd
          obtain ⟨hnew, hun⟩ := Xy hfi
          have hptr := h.ev hd0
          rw [Uq] at hptr
          obtain ⟨b, hσb, hval⟩ := hptr.2 _ _ hbx
          obtain ⟨hsh, b', cur, et, hσ', hh, hF, hrep0, hsz⟩ := h.hp bid _ hbx
          rw [hσ'] at hσb
          simp only [Value.pointer.injEq, jc, Addr.mk.injEq, and_true] at hσb
          subst hσb
          simp only [Hb] at hval
          have hl : (∀ j, j ∈ l → ∃ Da, s.heap j = some Da) ∧ (∀ j, j ∈ l → s.ment j = true) ∧ (if vw then La w (OO O0 s φ) τ' x0 cur.toList ∧ l = [] else Tb w τ' x0 cur.toList (Ea φ l)) := by
           cases vw with
           | true =>
            simp only [ze] at hx0
            split at hx0
            ·rename_i y hy
             simp only [jc, jh] at hx0
             obtain ⟨rfl, rfl⟩ := hx0
             exact ⟨by simp, by simp, by simp only [if_true]; exact ⟨(Wg hy).2 _ hrep0, trivial⟩⟩
            ·simp at hx0
           | false =>
            simp only [zf] at hx0
            obtain ⟨g1, g2⟩ := Jn h hx0 hrep0
            refine ⟨g2, fun j hj => AS.ment_heap hbx ?_, by simpa using g1⟩
            exact AP hx0 j hj
          obtain ⟨hl1, hl2, hl3⟩ := hl
          have hx' : (∀ j, j ∈ l2 → ∃ Da, s.heap j = some Da) ∧ (∀ j, j ∈ l2 → s.ment j = true) ∧ (if cv then Of w pt x (args'.map a.eval) (Ea φ l2) else Rg w (OO O0 s φ) pt x (args'.map a.eval) ∧ l2 = []) := by
           cases cv with
           | true =>
            simp only [ze] at hx
            obtain ⟨g1, g2, g3⟩ := YS h hds hx
            exact ⟨g2, g3, by simpa using g1⟩
           | false =>
            simp only [zf] at hx
            split at hx
            ·rename_i y hy
             simp only [jc, jh] at hx
             obtain ⟨rfl, rfl⟩ := hx
             have hno : ds.hasOwn = false := by simpa using hcv
             have hva : Rg w (OO O0 s φ) pt y (args'.map a.eval) := by
              refine JD h (fun d τ x cs he hr ho => ?_) hds hy (.inr hno)
              rcases ho with ho | ho
              ·rw [ho]; exact Bt h he hr
              ·exact (Wg (NJ ho he)).2 _ hr
             exact ⟨by simp, by simp, by simp only [jq, if_false]; exact ⟨hva, trivial⟩⟩
            ·simp at hx
          obtain ⟨hx1, hx2, hx3⟩ := hx'
          have hlive : ∀ j, j ∈ bid :: (l ++ l2) → ∃ Da, s.heap j = some Da := by
           intro j hj
           rcases jp.1 hj with rfl | hj
           ·exact ⟨_, hbx⟩
           ·rcases jl.1 hj with hj | hj
            ·exact hl1 j hj
            ·exact hx1 j hj
          have hbn := Rf h (yk.2 hnd) hlive
          have hblk : Ea φ (bid :: (l ++ l2)) = b' :: (Ea φ l ++ Ea φ l2) := by
           have : Ea φ (bid :: (l ++ l2)) = φ bid ++ Ea φ (l ++ l2) := by simp [Ea]
           rw [this, hF, Be]; rfl
          have hsub : ∀ c, c ∈ b' :: (Ea φ l ++ Ea φ l2) → OO O0 s φ c := by
           intro c hc
           rw [← hblk] at hc
           obtain ⟨j, hj, hm⟩ := Cb.1 hc
           obtain ⟨Da, hbj⟩ := hlive j hj
           exact .inr ⟨j, Da, hbj, hm⟩
          have hO1 : (fun c => OO O0 s φ c ∨ c = b' ∨ c ∈ Ea φ l2) = OO O0 s φ := by
           funext c
           refine propext ⟨fun hc => ?_, .inl⟩
           rcases hc with hc | rfl | hc
           ·exact hc
           ·exact hsub _ List.mem_cons_self
           ·exact hsub _ (jr _ (qv _ hc))
          have hO2 : (fun c => OO O0 s φ c ∨ c = b' ∨ c ∈ Ea φ l) = OO O0 s φ := by
           funext c
           refine propext ⟨fun hc => ?_, .inl⟩
           rcases hc with hc | rfl | hc
           ·exact hc
           ·exact hsub _ List.mem_cons_self
           ·exact hsub _ (jr _ (qu _ hc))
          have hrun := SA (a := a) (w := w) ho hE
          rw [hargs, yi, hval] at hrun
          refine KD hrun (hS (OO O0 s φ) w x0 x r b' cur et (Ea φ l) (Ea φ l2) _ hr hh hsz ?_ ?_ (by rw [← hblk]; exact hbn) (fun b hb => h.OO_lt hb) h.iv (qa h.iv0 h.fr.size)
           (by rw [← hblk]; exact PN h hlive)) ?_
          ·cases vw with
           | true =>
            simp only [if_true] at hl3 ⊢
            rw [hO1]
            exact ⟨hl3.1, by rw [hl3.2]; simp [Ea]⟩
           | false => simpa using hl3
          ·cases cv with
           | true => simpa using hx3
           | false =>
            simp only [jq, if_false] at hx3 ⊢
            rw [hO2]
            exact ⟨hx3.1, by rw [hx3.2]; simp [Ea]⟩
          ·rintro v' w' ⟨vs, cur', et', F1, Fr, rfl, hK, hh', hsz', hcont, hR, hFn, hFr⟩
           obtain ⟨hnm, hun1, ψ1, ν1, hb1, hup1, hrep1⟩ := LM hop hR
           have hb'lt : b' < w.heap.size := (Array.getElem?_eq_some_iff.1 hh).1
           have hSub2 : ∀ c, (OO O0 s φ c ∨ c ∈ b' :: (Ea φ l ++ Ea φ l2)) → OO O0 s φ c := fun c hc => hc.elim id (hsub c)
           have key : ∃ (ψ : Nat → List Nat) (ν : Nat → Value), Ea ψ ((u ++ v).map (·.1)) = Fr ++ F1 ∧ (∀ p, p ∈ u ++ v → FB w' p.2 (ν p.1) (ψ p.1)) ∧
            (∀ p, p ∈ u → ν p.1 = ν1 p.1) ∧ ∀ (hp' : Nat → Option Ia) (σ2 : Nat → Value) (O' : Nat → Prop), σ2 bid = σ bid → (∀ q, q ∈ u ++ v → σ2 q.1 = ν q.1) → (∀ c, O' c → OO O0 s φ c ∨ c ∈ Fr ++ F1) → Nc w' O' hp' σ2 bid (.box τ' e) (φ bid) := by
            cases vw with
            | true =>
             simp only [ze, jh] at hev
             obtain ⟨rfl, rfl, rfl⟩ := hev
             simp only [if_true] at hcont
             obtain ⟨hcv', rfl⟩ := hcont
             refine ⟨ψ1, ν1, by simpa using hb1, by simpa using hup1, fun _ _ => rfl, fun hp' σ2 O' h1 _ h2 => ⟨by simp [Bb], b', cur', et', h1.trans hσ', hh', hF, ?_, hsz'⟩⟩
             refine La.weaken (fun c hc => ?_) hcv'
             rcases h2 c hc with h3 | h3
             ·exact .inl h3
             ·exact .inr (.inr (by simpa using h3))
            | false =>
             simp only [zf] at hev
             simp only [jq, if_false] at hcont
             obtain ⟨a1, a2, a3, ψ2, ν2, a4, a5, a6⟩ := Yw hev hcont
             refine ⟨fun id => if id < m then ψ1 id else ψ2 id, fun id => if id < m then ν1 id else ν2 id, ?_, ?_, ?_, fun hp' σ2 O' h1 h3 h2 => ⟨a3, b', cur', et', h1.trans hσ', hh', hF, ?_, hsz'⟩⟩
             ·rw [yu, Be, ← hb1, ← a4]
              congr 1
              ·exact Zk fun j hj => by
                obtain ⟨p, hp, rfl⟩ := qk.1 hj
                rw [if_pos (hun1 p hp).2]
              ·exact Zk fun j hj => by
                obtain ⟨p, hp, rfl⟩ := qk.1 hj
                rw [if_neg (by have := a2 p hp; omega)]
             ·intro p hp
              rcases jl.1 hp with hp | hp
              ·simp only [if_pos (hun1 p hp).2]; exact hup1 p hp
              ·have : ¬ p.1 < m := by have := a2 p hp; omega
               simp only [if_neg this]; exact a5 p hp
             ·intro p hp
              simp only [if_pos (hun1 p hp).2]
             ·refine a6 w' hp' σ2 O' fun p hp => ?_
              have h4 := h3 p (qv _ hp)
              have : ¬ p.1 < m := by have := a2 p hp; omega
              simp only [if_neg this] at h4
              exact h4
           obtain ⟨ψ, ν, k1, k2, k3, k4⟩ := key
           rw [yk] at hFn
           obtain ⟨σ', φ', hc', g1, g2⟩ := h.after (U := u ++ v) (X := [(bid, some (.box τ' e))]) (l := l ++ l2) (ψ := ψ) (ν := ν) hun hnew (by simp) (fun j hj => hlive j (jr _ hj))
            (by intro j hj; simp at hj; subst hj; exact hnd.1) (by
             have : Ea φ ([(bid, some (Ia.box τ' e))].map (·.1) ++ (l ++ l2)) = b' :: (Ea φ l ++ Ea φ l2) := hblk
             rw [this]; exact hK) k2 (by rw [k1]; exact (List.perm_append_comm.nodup_iff).1 hFn.2)
            (by
             rw [k1, Be]
             intro c hc
             refine hFr c ?_
             rcases jl.1 hc with hc | hc
             ·exact qv _ hc
             ·exact qu _ hc)
            (by
             intro j hj
             refine PV ?_
             have hj : j ∈ bid :: (l ++ l2) := hj
             rcases jp.1 hj with rfl | hj
             ·exact TK hd0 (by simp [D.ment])
             ·rcases jl.1 hj with hj | hj
              ·exact hl2 j hj
              ·exact hx2 j hj)
            (by
             intro p hp
             simp only [qc] at hp
             subst hp
             exact ⟨τ', d0, e, rfl, hbx, fun hp' σ2 O' h1 h2 h3 => k4 hp' σ2 O' h1 h2 (by rw [k1] at h3; exact h3)⟩)
           refine Me (upd := u ++ (v ++ ((bid, some (.box τ' e)) :: Kc (l ++ l2)))) (s₁ := ⟨s.n, s.tm, u ++ v ++ ([(bid, some (.box τ' e))] ++ Kc (l ++ l2)) ++ s.hp⟩) (by simp) hc' ?_ he
           refine XX hres (hrep1 _ _ _ (fun p hp => (g1 p (qu _ hp)).trans (k3 p hp)) fun c _ hno hO => hno ?_)
           rcases g2 c hO with h1 | h1
           ·exact .inl h1
           ·rw [k1] at h1
            rcases jl.1 h1 with h1 | h1
            ·exact .inr (.inr (.inr h1))
            ·exact .inr (.inr (.inl h1))
        ·simp at he
       ·simp at he
     ·simp at he
    ·simp at he
   ·simp at he
  ·simp at he
 ·
  rename_i pt τ F hfn
  obtain ⟨hE, hS⟩ := hG.fn _ _ hfn
  split at he
  ·rename_i tt ds hd hds
   split at he
   ·rename_i x hx
    cases hr : F x with
    | none => simp [hr] at he
    | some r =>
     simp only [hr, jb] at he
     cases hc : (s.newOk tt && !ds.hasOwn) with
     | false => rw [hc] at he; simp at he
     | true =>
      rw [hc] at he
      simp only [ze] at he
      simp only [jd, yj] at hc
      obtain ⟨hnew, hno⟩ := hc
      have hva : Rg w (OO O0 s φ) pt x (args.toList.map a.eval) := by
       refine JD h (fun d τ x cs he hr ho => ?_) hds hx (.inr hno)
       rcases ho with ho | ho
       ·rw [ho]; exact Bt h he hr
       ·exact (Wg (NJ ho he)).2 _ hr
      refine KD (SA ho hE) (hS (OO O0 s φ) w x r _ hr hva (fun b hb => h.OO_lt hb) h.iv (qa h.iv0 h.fr.size)) ?_
      rintro v w' ⟨b, cur, et, rfl, hK, hb, hh, hsz, hvw⟩
      have hc := h.new1b (w' := w') hnew (.box τ (.t τ r)) (.pointer (some ⟨b, 0, none⟩)) [b] hK.size (fun c hc => hK.block c hc (fun h => h)) hK.os hK.tape hK.output (by simp) (by simpa using hb)
       (fun hp' σ' O' hσ hO => ⟨by simp [Bb], b, cur, et, hσ, hh, rfl, La.weaken (fun c hc => by
        rcases hO c hc with h1 | h1
        ·exact .inl h1
        ·exact .inr (by simpa using h1)) hvw, hsz⟩)
      exact Me rfl hc (VG _ rfl (Eg _ _ _)) he
   ·simp at he
  ·simp at he
 ·simp at he
end
theorem El.drop {w : World} {O : Nat → Prop} {dq : Bool} {e : Ty} {xs : List (T e)} {L : List Value} {Fs : List (List Nat)} (h : El w O dq e xs L Fs) {k : Nat} (hk : k ≤ ja xs) :
 El w O dq e (List.drop k xs) (L.drop (k * e.size)) (Fs.drop k) := by
 have hl := h.len
 refine ⟨?_, ?_, ?_⟩
 ·rw [ql, hl, ql, Nat.sub_mul]
 ·rw [ql, ql, h.flen]
 ·intro i hi
  have hi' : k + i < ja xs := by
   have : i < ja xs - k := by simpa using hi
   omega
  have := h.el (k + i) hi'
  have e1 : Vy (L.drop (k * e.size)) i e.size = Vy L (k + i) e.size := by
   unfold Vy
   rw [qq, yf]
  have e2 : List.get (List.drop k xs) ⟨i, hi⟩ = List.get xs ⟨k + i, hi'⟩ := by simp
  have e3 : (Fs.drop k).getD i [] = Fs.getD (k + i) [] := by simp [qf]
  rw [e1, e2, e3]
  exact this
theorem El.upf {w : World} {O : Nat → Prop} {dq : Bool} {e : Ty} {xs : List (T e)} {L : List Value} {Fs : List (List Nat)} (h : El w O dq e xs L Fs) (hf : e.flat = true) : El w O true e xs L Fs := by
 refine ⟨h.len, h.flen, fun i hi => ?_⟩
 have := h.el i hi
 cases dq with
 | true => exact this
 | false =>
  simp only [jq, if_false] at this
  rw [if_pos rfl, this.2]
  exact this.1.flat hf
theorem El.flats {w : World} {O : Nat → Prop} {e : Ty} {xs : List (T e)} {L : List Value} {Fs : List (List Nat)} (h : El w O true e xs L Fs) (hf : e.flat = true) : Fs.flatten = [] :=
 BB fun i hi => by
  have := h.el i (by rw [← h.flen]; exact hi)
  rw [if_pos rfl] at this
  exact Cu hf this
section
variable {P : Program} {Out : Type} {n0 : Nat} {A : Fx} {O0 : Nat → Prop} {w0 w w' : World} {s : AS} {σ σ' : Nat → Value} {φ φ' : Nat → List Nat} {a : Act}
variable {o : Oper} {Q : Exit → Act → World → Prop} {k : AS → Option Out} {out : Out} {d : D} {v : Value} {upd : List (Nat × Option Ia)} {dst : Option Tmp} {G : Ue}
theorem HT {cur : Array Value} {off n : Nat} {news : List Value} (h : off + n ≤ cur.size) (hn : news.length ≤ n) :
 Fd (Ub cur.toList off news).toArray off n = news ++ (Fd cur off n).drop news.length := by
 have := Aw (cur := cur) (o := off) (n := n) (o' := 0) (ce := news) h (by omega)
 simp only [ya] at this
 rw [this]
 unfold Ub
 simp
theorem Cal (t tx ty et : TypeId) (i : TypeInfo) (ht : P.underlying t = some (.slice et)) (hi : P.info? et = some i) {b off n cap : Nat} {x : Value} {m : Nat} {news : List Value} (hs : Src P i.size tx x m news w)
 {cur : Array Value} {ct : TypeId} (hh : w.heap[b]? = some (.cells cur ct (0, 0))) (hm : m ≤ n) (hfit : off + news.length ≤ cur.size) :
 (Builtin.copy_ #[t, tx] ty #[.slice (some ⟨b, off, none⟩) n cap, x]).run P w = .ok (.int .i64 (m : Int)) (w.setRow b (Ub cur.toList off news).toArray) := by
 have hst := run_storeCells_at P b off ct news 0 cur w hh (by simpa using hfit) hs.one
 simp only [ya] at hst
 have hmin : Nat.min m n = m := Nat.min_eq_left hm
 simp [Builtin.copy_, run_underlying ht, Go.sizeOf, typeInfo, hi, hs.len, hmin, hs.cells, hst, Ub, goInt]
theorem Far (hG : EnvTy P G) (h : Qa n0 A O0 w0 s σ φ a w) {args : Array Operand} {ts : Array TypeId} (ho : o.op = .call ⟨.builtin .copy, args, ts⟩)
 (he : Hf G s o k = some out) : o.wp P a w (Ve n0 A O0 w0 k out) Q := by
 simp only [Hf, Sb, ho] at he
 split at he
 ·rename_i x y t tx hargs hts
  unfold CE at he
  split at he
  ·rename_i e id db hty hx hy
   split at he
   ·rename_i e' dp xs hb
    split at he
    ·rename_i q ys dq m hq hsrc
     obtain rfl := Ud hq
     cases hc : (e'.flat && OG (Jb G.ty tx)) with
     | false => rw [hc] at he; simp at he
     | true =>
      rw [hc] at he
      simp only [ze] at he
      simp only [jd] at hc
      obtain ⟨hfl, hkx⟩ := hc
      cases hlim : jx (ja ys) (ja xs) with
      | false => rw [hlim] at he; simp at he
      | true =>
       rw [hlim] at he
       simp only [ze] at he
       have hlim := q6 hlim
       obtain ⟨et, hu, hte⟩ := Tok.sl (hG.ty _ _ hty)
       obtain ⟨i, hi, hsz, _, _⟩ := Tok.size hte
       have hk : (∃ e', P.underlying tx = some (.slice e')) ∨ P.underlying tx = some .string := by
        unfold OG at hkx
        split at hkx
        ·rename_i e' hq
         obtain ⟨et', hu', _⟩ := Tok.sl (hG.ty _ _ hq)
         exact .inl ⟨et', hu'⟩
        ·rename_i hq
         exact .inr (Tok.s (hG.ty _ _ hq))
        ·simp at hkx
       have hev := h.ev hx
       have hrow := WM h hb hev
       rw [hfl, Bool.or_true] at hrow
       obtain ⟨news, Gs, hS, hEl, hsub, hl2⟩ := EY (P := P) h hsrc (h.ev hy) hk
       have hEl := hEl.upf hfl
       have hnl := hS.newsLen
       have hS' : Src P i.size tx (a.eval y) (ja ys) news w := by rw [hsz]; exact hS
       have hts' : ts = #[t, tx] := by
        apply Array.ext'
        rw [hts]
       have hal : ja (jf ys (List.drop (ja ys) xs)) = ja xs := by
        show (ys ++ List.drop ys.length xs).length = _
        rw [qd, ql]; omega
       obtain ⟨hm, ⟨h1, h2, h3⟩ | ⟨bl, off, cap, cur, ct, Fs, h1, hh, h2, h3, h4, hF, hel⟩⟩ := hrow
       ·subst h2
        have hy0 : ys = ([] : List (T e')) := q7 (by simpa using hlim)
        subst hy0
        have hc : Qa n0 A O0 w0 ⟨s.n, s.tm, (id, some (.row e' dp (jf ([] : List (T e')) (List.drop 0 ([] : List (T e')))))) :: (Kc [] ++ s.hp)⟩ σ (Xg φ id (φ id)) a w := by
         refine h.turn (blk0 := .row e' dp []) hb (by simp [Ia.like]) [] (by simp) (by simp) (φ id) (jo _) (fun _ _ _ _ => rfl) rfl rfl rfl (h.nodup _ _ hb) (fun c hc => .inr (.inl hc)) ?_
         intro hp' O' hO hcp
         have h0 := h.hp id _ hb
         exact Nc.stable (fun _ _ _ => rfl) hO (fun _ _ => rfl) rfl (fun j _ => hcp j) h0
        refine Rb (w' := w) (v := .int .i64 0) ?_ (Me rfl hc ?_ he)
        ·rw [Nn ho hargs, hts']
         have := hS'.cells
         simp only [j7] at this
         simp [builtin, Builtin.copy_, h1, run_underlying hu, Go.sizeOf, typeInfo, hi, hS'.len, this, goInt]
        ·exact Ge.2 rfl
       ·have hcap := jm e'.size h2
        have hmul := jm e'.size hlim
        have hr := Cal (P := P) (w := w) (b := bl) (off := off) (n := ja xs) (cap := cap) t tx o.type et i hu hi hS' hh hlim (by omega)
        have hF' : φ id = [bl] := by rw [hF, hel.flats hfl]
        have hoth : ∀ c, c ≠ bl → (w.setRow bl (Ub cur.toList off news).toArray).heap[c]? = w.heap[c]? := fun c hc => setRow_other w bl c _ hc
        have hc : Qa n0 A O0 w0 ⟨s.n, s.tm, (id, some (.row e' dp (jf ys (List.drop (ja ys) xs)))) :: (Kc [] ++ s.hp)⟩ σ (Xg φ id (φ id)) a (w.setRow bl (Ub cur.toList off news).toArray) := by
         refine h.turn (blk0 := .row e' dp xs) hb (by simp only [Ia.like, true_and]; exact hal.symm) [] (by simp) (by simp) (φ id) (by simp) ?_ rfl rfl rfl (h.nodup _ _ hb) (fun c hc => .inr (.inl hc)) ?_
         ·intro c _ hc _
          rw [hF'] at hc
          exact hoth c (by simpa using hc)
         ·intro hp' O' hO hcp
          have hnew : Nc (w.setRow bl (Ub cur.toList off news).toArray) O' hp' σ id (.row e' true (jf ys (List.drop (ja ys) xs))) (φ id) := by
           rw [Nk]
           have hσ : σ id = a.eval x := by
            rw [AD] at hev
            exact (hev.2 _ _ hb rfl).symm
           rw [hσ, h1, hF']
           have happ := hEl.append (hel.drop hlim)
           have hcl : cur.toList.length = cur.size := Array.length_toList
           refine ⟨by rw [hal]; exact hm, .inr ⟨bl, off, cap, _, ct, Gs ++ Fs.drop (ja ys), by rw [hal], setRow_heap w bl cur _ ct (0, 0) hh, by rw [hal]; exact h2, h3, ?_, ?_, ?_⟩⟩
           ·rw [ym, Qg (by omega)]
            omega
           ·rw [happ.flats hfl]
           ·rw [hal, HT (by omega) (by omega), hnl]
            refine happ.stable ?_ ?_ ?_
            ·intro b hb' _
             refine hoth b fun e => hb' (.inr ⟨id, _, hb, ?_⟩)
             rw [hF', e]; simp
            ·exact hO
            ·rw [happ.flats hfl]; simp
          cases dp with
          | true => exact hnew
          | false => exact UX hnew hfl
        refine Rb (w' := w.setRow bl (Ub cur.toList off news).toArray) (v := .int .i64 (ja ys : Int)) ?_ (Me rfl hc ?_ he)
        ·rw [Nn ho hargs, hts']
         simp [builtin, h1, hr]
        ·exact Ge.2 rfl
    ·simp at he
   ·simp at he
  ·simp at he
 ·simp at he
end
theorem G5 {w : World} : ∀ {e : Ty} {x : T e} {p : List Nat} {τ : Ty} {y : D} {y' : T τ} {cs : List Value} {F : List Nat}, Ze e p = some τ → (D.t e x).at p = some y → Bj y τ = some y' →
 Tb w e x cs F → ∃ F1 Fy F3, F = F1 ++ Fy ++ F3 ∧ Tb w τ y' ((cs.drop (Hb e p)).take τ.size) Fy ∧
  ∀ (w' : World) (c' : List Value), c'.length = τ.size → (∀ b, b ∈ F1 ++ F3 → w'.heap[b]? = w.heap[b]?) → ∀ (z : T τ) (Fz : List Nat) (x' : T e), Tb w' τ z c' Fz → Hh e x p τ z = some x' →
   Tb w' e x' (Ub cs (Hb e p) c') (F1 ++ Fz ++ F3)
 | e, x, [], τ, y, y', cs, F, ht, hy, hy', h => by
  simp only [Ze, jc] at ht
  subst ht
  simp only [D.at, jc] at hy
  subst hy
  simp only [Bj] at hy'
  split at hy'
  ·simp only [jc] at hy'
   subst hy'
   have hl := Tb.length h
   have hcs : (cs.drop (Hb e [])).take e.size = cs := by rw [← hl]; simp [Hb]
   refine ⟨[], F, [], by simp, by rw [hcs]; exact h, fun w' c' hc' _ z Fz x' hz hs => ?_⟩
   unfold Hh at hs
   split at hs
   ·simp only [jc] at hs
    subst hs
    simp only [Hb]
    rw [ZM (by omega)]
    simpa using hz
   ·simp at hs
  ·simp at hy'
 | .p a b', x, 0 :: p, τ, y, y', cs, F, ht, hy, hy', h => by
  have ht' : Ze a p = some τ := by simpa [Ze, Na] using ht
  have hy1 : (D.t a x.1).at p = some y := by simpa [D.at, D.field, D.fst] using hy
  obtain ⟨c1, c2, Fa, Fb, hc, hF, h1, h2⟩ := h
  obtain ⟨F1, Fy, F3, e1, e2, e3⟩ := G5 ht' hy1 hy' h1
  have hle := Ai ht'
  have l1 := Tb.length h1
  have ho : Hb (.p a b') (0 :: p) = Hb a p := by simp [Hb, Wc, Na]
  have hcs : (cs.drop (Hb (.p a b') (0 :: p))).take τ.size = (c1.drop (Hb a p)).take τ.size := by
   rw [ho, hc, List.drop_append_of_le_length (by omega), List.take_append_of_le_length (by simp; omega)]
  rw [hcs]
  refine ⟨F1, Fy, F3 ++ Fb, by simp [hF, e1], e2, fun w' c' hc' hw z Fz x' hz hs => ?_⟩
  simp only [Hh] at hs
  split at hs
  ·rename_i u hu
   simp only [jc] at hs
   subst hs
   rw [ho, hc, EK (by omega)]
   refine ⟨_, c2, F1 ++ Fz ++ F3, Fb, rfl, by simp, e3 w' c' hc' (fun b hb => hw b ?_) z Fz u hz hu, h2.stable fun b hb => hw b ?_⟩
   ·rcases jl.1 hb with hb | hb <;> simp [hb]
   ·simp [hb]
  ·simp at hs
 | .p a b', x, (n + 1) :: p, τ, y, y', cs, F, ht, hy, hy', h => by
  have ht' : Ze b' (n :: p) = some τ := by simpa [Ze, Na] using ht
  have hy1 : (D.t b' x.2).at (n :: p) = some y := by simpa [D.at, D.field, D.snd] using hy
  obtain ⟨c1, c2, Fa, Fb, hc, hF, h1, h2⟩ := h
  obtain ⟨F1, Fy, F3, e1, e2, e3⟩ := G5 ht' hy1 hy' h2
  have l1 := Tb.length h1
  have ho : Hb (.p a b') ((n + 1) :: p) = c1.length + Hb b' (n :: p) := by simp [Hb, Wc, Na, l1, jt]
  have hcs : (cs.drop (Hb (.p a b') ((n + 1) :: p))).take τ.size = (c2.drop (Hb b' (n :: p))).take τ.size := by
   rw [ho, hc]; simp [List.drop_append, List.drop_eq_nil_of_le]
  rw [hcs]
  refine ⟨Fa ++ F1, Fy, F3, by simp [hF, e1], e2, fun w' c' hc' hw z Fz x' hz hs => ?_⟩
  simp only [Hh] at hs
  split at hs
  ·rename_i u hu
   simp only [jc] at hs
   subst hs
   rw [ho, hc, Uz]
   refine ⟨c1, _, Fa, F1 ++ Fz ++ F3, rfl, by simp, h1.stable fun b hb => hw b ?_, e3 w' c' hc' (fun b hb => hw b ?_) z Fz u hz hu⟩
   ·simp [hb]
   ·rcases jl.1 hb with hb | hb <;> simp [hb]
  ·simp at hs
 | .i _, _, _ :: _, _, _, _, _, _, ht, _, _, _ => by simp [Ze, Na] at ht
 | .b, _, _ :: _, _, _, _, _, _, ht, _, _, _ => by simp [Ze, Na] at ht
 | .o, _, _ :: _, _, _, _, _, _, ht, _, _, _ => by simp [Ze, Na] at ht
 | .mp _ _, _, _ :: _, _, _, _, _, _, ht, _, _, _ => by simp [Ze, Na] at ht
 | .s, _, _ :: _, _, _, _, _, _, ht, _, _, _ => by simp [Ze, Na] at ht
 | .sl _, _, _ :: _, _, _, _, _, _, ht, _, _, _ => by simp [Ze, Na] at ht
 | .u, _, _ :: _, _, _, _, _, _, ht, _, _, _ => by simp [Ze, Na] at ht
theorem OZ {w : World} {e τ : Ty} {xs : List (T e)} {b off cap : Nat} {F : List Nat} {i : Nat} {x : T e} {y : D} {y' : T τ} {p : List Nat}
 (h : Tb w (.sl e) xs [.slice (some ⟨b, off, none⟩) (ja xs) cap] F) (hi : xs[i]? = some x) (ht : Ze e p = some τ) (hy : (D.t e x).at p = some y) (hy' : Bj y τ = some y') :
 ∃ cur et F1 Fy, w.heap[b]? = some (.cells cur et (0, 0)) ∧ b ∈ F1 ∧ off + i * e.size + e.size ≤ cur.size ∧ F.Perm (F1 ++ Fy) ∧ Tb w τ y' (Fd cur (off + i * e.size + Hb e p) τ.size) Fy ∧
  (b ∉ F1.erase b → ∀ (w' : World) (c' : List Value), c'.length = τ.size → (∀ c, c ∈ F1 → c ≠ b → w'.heap[c]? = w.heap[c]?) →
   w'.heap[b]? = some (.cells (Ub cur.toList (off + i * e.size + Hb e p) c').toArray et (0, 0)) → ∀ (z : T τ) (Fz : List Nat) (x' : T e), Tb w' τ z c' Fz → Hh e x p τ z = some x' →
   ∃ F', F'.Perm (F1 ++ Fz) ∧ Tb w' (.sl e) (j6 xs i x') [.slice (some ⟨b, off, none⟩) (ja xs) cap] F') := by
 obtain ⟨hm, ⟨h1, _⟩ | ⟨bl, off', cap', cur, et, Fs, h1, hh, h2, h3, h4, hF, hl, hv⟩⟩ := h
 ·simp at h1
 ·simp at h1
  obtain ⟨⟨rfl, rfl⟩, rfl⟩ := h1
  have hil : i < ja xs := (q8.1 hi).1
  have hxe : List.get xs ⟨i, hil⟩ = x := by simpa [je hil] using hi
  have hle := Ai ht
  have hcap := jm e.size h2
  have hlt : (i + 1) * e.size ≤ ja xs * e.size := jm _ hil
  rw [yf, Nat.one_mul] at hlt
  have hoi := hv i hil
  rw [hxe] at hoi
  obtain ⟨Fa, Fy, Fc, hFi, hown, hwand⟩ := G5 ht hy hy' hoi
  have hseg := JL cur (off + i * e.size) e.size (Hb e p) τ.size hle
  rw [hseg] at hown
  have hiF : i < Fs.length := by omega
  refine ⟨cur, et, b :: ((Fs.take i).flatten ++ (Fa ++ Fc) ++ (Fs.drop (i + 1)).flatten), Fy, hh, by simp, by omega, ?_, hown, fun hbn w' c' hc' hw hwb z Fz x' hz hs => ?_⟩
  ·rw [hF, (QD hiF []).1, hFi, List.perm_iff_count]
   intro c
   simp only [List.count_append, List.count_cons]
   omega
  ·simp only [List.erase_cons_head] at hbn
   obtain ⟨_, g2⟩ := QD hiF (Fa ++ Fz ++ Fc)
   refine ⟨b :: (Fs.set i (Fa ++ Fz ++ Fc)).flatten, ?_, by simpa using hm, .inr ⟨b, off, cap, _, et, _, by simp, hwb, by simpa using h2, h3, ?_, rfl, by simpa using hl, fun j hj => ?_⟩⟩
   ·rw [g2, List.perm_iff_count]
    intro c
    simp only [List.count_append, List.count_cons]
    omega
   ·rw [ym, Qg (by simp; omega)]
    simpa using h4
   ·have hjl : j < ja xs := by simpa using hj
    by_cases hji : j = i
    ·subst hji
     have e1 : List.get (j6 xs j x') ⟨j, hj⟩ = x' := by simp
     have e2 : (Fs.set j (Fa ++ Fz ++ Fc)).getD j [] = Fa ++ Fz ++ Fc := by simp [qs, hiF]
     rw [e1, e2, Aw (by omega) (by omega)]
     refine hwand w' c' hc' (fun c hc => hw c ?_ ?_) z Fz x' hz hs
     ·simp only [jp, jl] at hc ⊢
      grind
     ·rintro rfl
      apply hbn
      simp only [jl] at hc ⊢
      grind
    ·have e1 : List.get (j6 xs i x') ⟨j, hj⟩ = List.get xs ⟨j, hjl⟩ := by simp [Ne.symm hji]
     have e2 : (Fs.set i (Fa ++ Fz ++ Fc)).getD j [] = Fs.getD j [] := by simp [qs, Ne.symm hji]
     have hjle : (j + 1) * e.size ≤ ja xs * e.size := jm _ hjl
     rw [yf, Nat.one_mul] at hjle
     have hjF : j < Fs.length := by omega
     have hinF : ∀ c, c ∈ Fs.getD j [] → c ∈ (Fs.take i).flatten ++ (Fa ++ Fc) ++ (Fs.drop (i + 1)).flatten := by
      intro c hc
      have hc' : c ∈ Fs[j] := by simpa [qs, hjF] using hc
      simp only [jl]
      rcases Nat.lt_or_gt_of_ne hji with hlt' | hlt'
      ·exact .inl (.inl (List.mem_flatten.2 ⟨Fs[j], List.mem_take_iff_getElem.2 ⟨j, by omega, rfl⟩, hc'⟩))
      ·exact .inr (List.mem_flatten.2 ⟨Fs[j], List.mem_drop_iff_getElem.2 ⟨j - (i + 1), by omega, by congr 1; omega⟩, hc'⟩)
     rw [e1, e2, KA (by omega) (by omega) ?_]
     ·refine (hv j hjl).stable fun c hc => hw c (jr _ (hinF c hc)) ?_
      rintro rfl
      exact hbn (hinF c hc)
     ·rcases Nat.lt_or_gt_of_ne hji with hlt' | hlt'
      ·left
       have := jm e.size hlt'
       rw [yo] at this
       omega
      ·right
       have := jm e.size hlt'
       rw [yo] at this
       omega
theorem V6 {cs : List Value} {o n : Nat} (h : o + n ≤ cs.length) : Ub cs o ((cs.drop o).take n) = cs := by
 apply qp
 intro j
 have hl : ((cs.drop o).take n).length = n := by simp; omega
 rw [Ji (by omega), hl]
 split
 ·rfl
 ·split
  ·rw [List.getElem?_take, if_pos (by omega), List.getElem?_drop]; congr 1; omega
  ·rfl
section
variable {P : Program} {Out : Type} {n0 : Nat} {A : Fx} {O0 : Nat → Prop} {w0 w w' : World} {s : AS} {σ σ' : Nat → Value} {φ φ' : Nat → List Nat} {a : Act}
variable {o : Oper} {Q : Exit → Act → World → Prop} {k : AS → Option Out} {out : Out} {d : D} {v : Value} {upd : List (Nat × Option Ia)} {dst : Option Tmp} {G : Ue}
theorem Qa.focus (h : Qa n0 A O0 w0 s σ φ a w) {id : Nat} {e τ : Ty} {xs : List (T e)} {i : Nat} {x : T e} {p : List Nat} {y : D} {y' : T τ} {n m : Nat} {u : List (Nat × Option Ia)}
 (hb : s.heap id = some (.row e true xs)) (hm : s.ment id = true) (hi : xs[i]? = some x) (ht : Ze e p = some τ) (hy : (D.t e x).at p = some y) (hy' : Bj y τ = some y')
 {b off cap : Nat} (hσ : σ id = .slice (some ⟨b, off, none⟩) (ja xs) cap) (ho : Ie τ y' n = (d, u, m)) (hu : Yd s u = true) :
 ∃ cur et σ' φ', w.heap[b]? = some (.cells cur et (0, 0)) ∧ off + i * e.size + e.size ≤ cur.size ∧
  Qa n0 A O0 w0 ⟨s.n, s.tm, ((id, some (.hol e xs i x p τ d)) :: u) ++ s.hp⟩ σ' φ' a w ∧ Bb τ d ∧
  ∀ hp' O', Ab w O' hp' σ' d (Fd cur (off + i * e.size + Hb e p) τ.size) := by
 have hown := h.hp id _ hb
 simp only [Nc, hσ] at hown
 obtain ⟨cur, et, F1, Fy, hh, hbF, hsz, hperm, hoy, hwand⟩ := OZ hown hi ht hy hy'
 obtain ⟨hnm, hrange, hsh, ψ, ν, hbl, hrows, hrep⟩ := Yw ho hoy
 obtain ⟨hnew, hnd⟩ := Xy hu
 have hnm' : ∀ q, q ∈ u → s.ment q.1 = false := fun q hq => by
  have := hnew q hq
  simp only [AS.newOk, jd, yj] at this
  exact this.1
 have hidu : id ∉ u.map (·.1) := fun hid => by
  obtain ⟨q, hq, he⟩ := qk.1 hid
  rw [← he, hnm' q hq] at hm
  simp at hm
 have hndF : (F1 ++ Fy).Nodup := hperm.nodup_iff.1 (h.nodup id _ hb)
 let σ' : Nat → Value := fun j => if j ∈ u.map (·.1) then ν j else σ j
 let φ' : Nat → List Nat := fun j => if j = id then F1 else if j ∈ u.map (·.1) then ψ j else φ j
 have hσid : σ' id = σ id := if_neg hidu
 have hσu : ∀ q, q ∈ u → σ' q.1 = ν q.1 := fun q hq => if_pos (yt hq)
 have hφid : φ' id = F1 := if_pos rfl
 have hφu : ∀ j, j ∈ u.map (·.1) → φ' j = ψ j := fun j hj => by
  have : j ≠ id := fun e => hidu (e ▸ hj)
  simp only [φ', if_neg this, if_pos hj]
 have hget : ∀ (U : List (Nat × Option Ia)) (j : Nat), j ∉ U.map (·.1) → Jb (U ++ s.hp) j = Jb s.hp j := by
  intro U j
  induction U with
  | nil => simp
  | cons q U ih =>
   intro hn
   simp only [yi, jp, not_or] at hn
   rw [yg, Tc, if_neg (Ne.symm hn.1), ih hn.2]
 have hgetm : ∀ (U : List (Nat × Option Ia)), (U.map (·.1)).Nodup → ∀ q, q ∈ U → Jb (U ++ s.hp) q.1 = some q.2 := by
  intro U
  induction U with
  | nil => simp
  | cons r U ih =>
   intro hn q hp
   simp only [yi, yk] at hn
   rw [yg, Tc]
   rcases jp.1 hp with rfl | hp
   ·rw [if_pos rfl]
   ·rw [if_neg (fun e : r.1 = q.1 => hn.1 (by rw [e]; exact yt hp)), ih hn.2 q hp]
 have hU : (((id, some (Ia.hol e xs i x p τ d)) :: u).map (·.1)).Nodup := by
  simp only [yi, yk]
  exact ⟨hidu, hnd⟩
 have hh1 : ∀ j, ¬ (j = id ∨ j ∈ u.map (·.1)) → AS.heap ⟨s.n, s.tm, ((id, some (Ia.hol e xs i x p τ d)) :: u) ++ s.hp⟩ j = s.heap j := fun j hj => by
  simp only [AS.heap]
  rw [hget _ j (by simpa using hj)]
 have hh2 : AS.heap ⟨s.n, s.tm, ((id, some (Ia.hol e xs i x p τ d)) :: u) ++ s.hp⟩ id = some (.hol e xs i x p τ d) := by
  simp only [AS.heap]
  rw [hgetm _ hU (id, some (.hol e xs i x p τ d)) (by simp)]
  rfl
 have hh3 : ∀ q, q ∈ u → AS.heap ⟨s.n, s.tm, ((id, some (Ia.hol e xs i x p τ d)) :: u) ++ s.hp⟩ q.1 = q.2 := fun q hq => by
  simp only [AS.heap]
  rw [hgetm _ hU q (by simp [hq])]
  rfl
 have hmemu : ∀ j, j ∈ u.map (·.1) → ∃ q, q ∈ u ∧ q.1 = j := fun j hj => by
  obtain ⟨q, hq, he⟩ := qk.1 hj
  exact ⟨q, hq, he⟩
 have hψ : ∀ j, j ∈ u.map (·.1) → ∀ c, c ∈ ψ j → c ∈ Fy := fun j hj c hc => by
  rw [← hbl]; exact Cb.2 ⟨j, hj, hc⟩
 have hin : ∀ j, (j = id ∨ j ∈ u.map (·.1)) → ∀ c, c ∈ φ' j → c ∈ φ id := by
  intro j hj c hc
  refine hperm.mem_iff.2 ?_
  rcases hj with rfl | hj
  ·rw [hφid] at hc
   exact qu _ hc
  ·rw [hφu j hj] at hc
   exact qv _ (hψ j hj c hc)
 have hrep' : ∀ hp' O', Ab w O' hp' σ' d (Fd cur (off + i * e.size + Hb e p) τ.size) := fun hp' O' => hrep w hp' σ' O' hσu
 refine ⟨cur, et, σ', φ', hh, hsz, ?_, hsh, hrep'⟩
 refine h.trans (fun j => j = id ∨ j ∈ u.map (·.1)) rfl rfl ?_ (fun _ _ _ => rfl) (jo _) ?_ ?_ ?_ ?_ rfl rfl rfl ?_ ?_
 rotate_right
 ·intro j kk e' xs' hj hl
  rcases hj with rfl | hj
  ·rw [hh2] at hl; simp at hl
  ·obtain ⟨q, hq, rfl⟩ := hmemu j hj
   rw [hh3 q hq] at hl
   have := hrows q hq
   rw [hl] at this
   exact this.nq.elim
 ·intro j hj
  refine ⟨hh1 j hj, ?_, ?_⟩
  ·exact if_neg fun hm => hj (.inr hm)
  ·simp only [not_or] at hj
   simp only [φ', if_neg hj.1, if_neg hj.2]
 ·intro j blk' hj _ c hc
  exact .inr ⟨id, _, .inl rfl, hb, hin j hj c hc⟩
 ·intro j blk' hj hl hmj
  rcases hj with rfl | hj
  ·rw [hh2] at hl
   simp only [jc] at hl
   subst hl
   exact ⟨_, hb, by simp [Ia.like], hσid⟩
  ·obtain ⟨q, hq, rfl⟩ := hmemu j hj
   rw [hnm' q hq] at hmj
   simp at hmj
 ·intro j blk' hj hl
  rcases hj with rfl | hj
  ·rw [hh2] at hl
   simp only [jc] at hl
   subst hl
   rw [hφid]
   have hF1 : F1.Nodup := hndF.sublist (List.sublist_append_left _ _)
   refine ⟨⟨hsh, hi, ht, fun c hc => (h.hp _ _ hb).lt c (hperm.mem_iff.2 (qu _ hc)), b, off, cap, cur, et, hσid.trans hσ, hh, hbF, hsz, hrep' _ _, fun w' c' hc' hw hwb z Fz x' hz hs => ?_⟩, hF1⟩
   obtain ⟨F', hp', ho'⟩ := hwand (fun hm => ((List.Nodup.mem_erase_iff hF1).1 hm).1 rfl) w' c' hc' hw hwb z Fz x' hz hs
   exact ⟨F', hp', by rw [hσid, hσ]; exact ho'⟩
  ·obtain ⟨q, hq, rfl⟩ := hmemu j hj
   rw [hh3 q hq] at hl
   have hown2 := hrows q hq
   rw [hl, ← hσu q hq] at hown2
   rw [hφu _ hj]
   refine ⟨hown2.rep, ?_⟩
   ·have hs : (ψ q.1).Sublist Fy := by
     rw [← hbl]
     unfold Ea
     exact List.sublist_flatten_of_mem (yt hj)
    exact hs.nodup (hndF.sublist (List.sublist_append_right _ _))
 ·intro j j' b1 b2 hj hj' hne _ _ c hc hc'
  rw [yl] at hndF
  rcases hj with rfl | hj
  ·rcases hj' with e | hj'
   ·exact hne e.symm
   ·rw [hφid] at hc
    rw [hφu _ hj'] at hc'
    exact hndF.2.2 c hc c (hψ _ hj' c hc') rfl
  ·rcases hj' with rfl | hj'
   ·rw [hφid] at hc'
    rw [hφu _ hj] at hc
    exact hndF.2.2 c hc' c (hψ _ hj c hc) rfl
   ·rw [hφu _ hj] at hc
    rw [hφu _ hj'] at hc'
    have : ∀ (L : List Nat), (Ea ψ L).Nodup → j ∈ L → j' ∈ L → False := by
     intro L
     induction L with
     | nil => simp
     | cons z L ih =>
      intro hn hi hi'
      have hx : Ea ψ (z :: L) = ψ z ++ Ea ψ L := by simp [Ea]
      rw [hx, yl] at hn
      rcases jp.1 hi with e1 | q1
      ·rcases jp.1 hi' with e2 | q2
       ·exact hne (e1.trans e2.symm)
       ·exact hn.2.2 c (e1 ▸ hc) c (Cb.2 ⟨j', q2, hc'⟩) rfl
      ·rcases jp.1 hi' with e2 | q2
       ·exact hn.2.2 c (e2 ▸ hc') c (Cb.2 ⟨j, q1, hc⟩) rfl
       ·exact ih hn.2.1 q1 q2
    exact this _ (by rw [hbl]; exact hndF.2.1) hj hj'
 ·intro j hj
  rcases hj with rfl | hj
  ·exact .inl hσid
  ·obtain ⟨q, hq, rfl⟩ := hmemu j hj
   exact .inr (DA (hnew q hq))
theorem R5 {w : World} {O : Nat → Prop} {hp : Nat → Option Ia} {σ : Nat → Value} {id : Nat} {e : Ty} {xs : List (T e)} {F : List Nat} (h : Nc w O hp σ id (.row e true xs) F) : Nc w O hp σ id (.mov e xs 0) F := by
 simp only [Nc, Tb] at h
 obtain ⟨hm, ⟨h1, h2, h3⟩ | ⟨bl, off, cap, cur, et, Fs, h1, hh, h2, h3, h4, hF, hl, hv⟩⟩ := h
 ·simp only [yh, and_true] at h1
  exact ⟨hm, .inl ⟨h1, h2, h3⟩⟩
 ·simp only [yh, and_true] at h1
  exact ⟨hm, .inr ⟨bl, off, cap, cur, et, Fs, h1, hh, h2, h3, h4, hF, hl, fun i hi _ => hv i hi, fun i hi => by omega⟩⟩
theorem Qa.moveout (h : Qa n0 A O0 w0 s σ φ a w) {id : Nat} {e : Ty} {xs : List (T e)} {i : Nat} {x : T e} {Da : Ia} {n m : Nat} {d : D} {u : List (Nat × Option Ia)}
 (hb : s.heap id = some Da) (hlike : Da.like (.mov e xs (i + 1))) (hmv : Nc w (OO O0 s φ) s.heap σ id (.mov e xs i) (φ id)) (hm : s.ment id = true) (hi : xs[i]? = some x)
 {b off cap : Nat} (hσ : σ id = .slice (some ⟨b, off, none⟩) (ja xs) cap) (ho : Ie e x n = (d, u, m)) (hu : Yd s u = true) :
 ∃ cur et σ' φ', w.heap[b]? = some (.cells cur et (0, 0)) ∧ off + i * e.size + e.size ≤ cur.size ∧
  Qa n0 A O0 w0 ⟨s.n, s.tm, ((id, some (.mov e xs (i + 1))) :: u) ++ s.hp⟩ σ' φ' a w ∧ Bb e d ∧
  ∀ hp' O', Ab w O' hp' σ' d (Fd cur (off + i * e.size) e.size) := by
 obtain ⟨hlen, ⟨h1, _⟩ | ⟨bl, off', cap', cur, et, Fs, h1, hh, h2, h3, h4, hF, hl, hv, hk⟩⟩ := hmv
 ·rw [hσ] at h1; simp at h1
 rw [hσ] at h1
 simp only [Value.slice.injEq, jc, Addr.mk.injEq, and_true, true_and] at h1
 obtain ⟨⟨rfl, rfl⟩, rfl⟩ := h1
 have hil : i < ja xs := (q8.1 hi).1
 have hxe : List.get xs ⟨i, hil⟩ = x := by simpa [je hil] using hi
 have hcap := jm e.size h2
 have hlt : (i + 1) * e.size ≤ ja xs * e.size := jm _ hil
 rw [yf, Nat.one_mul] at hlt
 have hoy := hv i hil (jo _)
 rw [hxe] at hoy
 have hiF : i < Fs.length := by omega
 obtain ⟨F1, hF1e⟩ : ∃ F1, F1 = b :: (Fs.set i []).flatten := ⟨_, rfl⟩
 obtain ⟨Fy, hFye⟩ : ∃ Fy, Fy = Fs.getD i [] := ⟨_, rfl⟩
 rw [← hFye] at hoy
 have hsz : off + i * e.size + e.size ≤ cur.size := by omega
 have hperm : (φ id).Perm (F1 ++ Fy) := by
  obtain ⟨g1, g2⟩ := QD hiF []
  rw [hF, hF1e, hFye, g2, g1, List.perm_iff_count]
  intro c
  simp only [List.count_append, List.count_cons, List.count_nil]
  omega
 obtain ⟨hnm, hrange, hsh, ψ, ν, hbl, hrows, hrep⟩ := Yw ho hoy
 obtain ⟨hnew, hnd⟩ := Xy hu
 have hnm' : ∀ q, q ∈ u → s.ment q.1 = false := fun q hq => by
  have := hnew q hq
  simp only [AS.newOk, jd, yj] at this
  exact this.1
 have hidu : id ∉ u.map (·.1) := fun hid => by
  obtain ⟨q, hq, he⟩ := qk.1 hid
  rw [← he, hnm' q hq] at hm
  simp at hm
 have hndF : (F1 ++ Fy).Nodup := hperm.nodup_iff.1 (h.nodup id _ hb)
 let σ' : Nat → Value := fun j => if j ∈ u.map (·.1) then ν j else σ j
 let φ' : Nat → List Nat := fun j => if j = id then F1 else if j ∈ u.map (·.1) then ψ j else φ j
 have hσid : σ' id = σ id := if_neg hidu
 have hσu : ∀ q, q ∈ u → σ' q.1 = ν q.1 := fun q hq => if_pos (yt hq)
 have hφid : φ' id = F1 := if_pos rfl
 have hφu : ∀ j, j ∈ u.map (·.1) → φ' j = ψ j := fun j hj => by
  have : j ≠ id := fun e => hidu (e ▸ hj)
  simp only [φ', if_neg this, if_pos hj]
 have hget : ∀ (U : List (Nat × Option Ia)) (j : Nat), j ∉ U.map (·.1) → Jb (U ++ s.hp) j = Jb s.hp j := by
  intro U j
  induction U with
  | nil => simp
  | cons q U ih =>
   intro hn
   simp only [yi, jp, not_or] at hn
   rw [yg, Tc, if_neg (Ne.symm hn.1), ih hn.2]
 have hgetm : ∀ (U : List (Nat × Option Ia)), (U.map (·.1)).Nodup → ∀ q, q ∈ U → Jb (U ++ s.hp) q.1 = some q.2 := by
  intro U
  induction U with
  | nil => simp
  | cons r U ih =>
   intro hn q hp
   simp only [yi, yk] at hn
   rw [yg, Tc]
   rcases jp.1 hp with rfl | hp
   ·rw [if_pos rfl]
   ·rw [if_neg (fun e : r.1 = q.1 => hn.1 (by rw [e]; exact yt hp)), ih hn.2 q hp]
 have hU : (((id, some (Ia.mov e xs (i + 1))) :: u).map (·.1)).Nodup := by
  simp only [yi, yk]
  exact ⟨hidu, hnd⟩
 have hh1 : ∀ j, ¬ (j = id ∨ j ∈ u.map (·.1)) → AS.heap ⟨s.n, s.tm, ((id, some (Ia.mov e xs (i + 1))) :: u) ++ s.hp⟩ j = s.heap j := fun j hj => by
  simp only [AS.heap]
  rw [hget _ j (by simpa using hj)]
 have hh2 : AS.heap ⟨s.n, s.tm, ((id, some (Ia.mov e xs (i + 1))) :: u) ++ s.hp⟩ id = some (.mov e xs (i + 1)) := by
  simp only [AS.heap]
  rw [hgetm _ hU (id, some (.mov e xs (i + 1))) (by simp)]
  rfl
 have hh3 : ∀ q, q ∈ u → AS.heap ⟨s.n, s.tm, ((id, some (Ia.mov e xs (i + 1))) :: u) ++ s.hp⟩ q.1 = q.2 := fun q hq => by
  simp only [AS.heap]
  rw [hgetm _ hU q (by simp [hq])]
  rfl
 have hmemu : ∀ j, j ∈ u.map (·.1) → ∃ q, q ∈ u ∧ q.1 = j := fun j hj => by
  obtain ⟨q, hq, he⟩ := qk.1 hj
  exact ⟨q, hq, he⟩
 have hψ : ∀ j, j ∈ u.map (·.1) → ∀ c, c ∈ ψ j → c ∈ Fy := fun j hj c hc => by
  rw [← hbl]; exact Cb.2 ⟨j, hj, hc⟩
 have hin : ∀ j, (j = id ∨ j ∈ u.map (·.1)) → ∀ c, c ∈ φ' j → c ∈ φ id := by
  intro j hj c hc
  refine hperm.mem_iff.2 ?_
  rcases hj with rfl | hj
  ·rw [hφid] at hc
   exact qu _ hc
  ·rw [hφu j hj] at hc
   exact qv _ (hψ j hj c hc)
 have hrep' : ∀ hp' O', Ab w O' hp' σ' d (Fd cur (off + i * e.size) e.size) := fun hp' O' => hrep w hp' σ' O' hσu
 refine ⟨cur, et, σ', φ', hh, hsz, ?_, hsh, hrep'⟩
 refine h.trans (fun j => j = id ∨ j ∈ u.map (·.1)) rfl rfl ?_ (fun _ _ _ => rfl) (jo _) ?_ ?_ ?_ ?_ rfl rfl rfl ?_ ?_
 rotate_right
 ·intro j kk e' xs' hj hl
  rcases hj with rfl | hj
  ·rw [hh2] at hl; simp at hl
  ·obtain ⟨q, hq, rfl⟩ := hmemu j hj
   rw [hh3 q hq] at hl
   have := hrows q hq
   rw [hl] at this
   exact this.nq.elim
 ·intro j hj
  refine ⟨hh1 j hj, ?_, ?_⟩
  ·exact if_neg fun hm => hj (.inr hm)
  ·simp only [not_or] at hj
   simp only [φ', if_neg hj.1, if_neg hj.2]
 ·intro j blk' hj _ c hc
  exact .inr ⟨id, _, .inl rfl, hb, hin j hj c hc⟩
 ·intro j blk' hj hl hmj
  rcases hj with rfl | hj
  ·rw [hh2] at hl
   simp only [jc] at hl
   subst hl
   exact ⟨_, hb, hlike, hσid⟩
  ·obtain ⟨q, hq, rfl⟩ := hmemu j hj
   rw [hnm' q hq] at hmj
   simp at hmj
 ·intro j blk' hj hl
  rcases hj with rfl | hj
  ·rw [hh2] at hl
   simp only [jc] at hl
   subst hl
   rw [hφid]
   have hF1 : F1.Nodup := hndF.sublist (List.sublist_append_left _ _)
   refine ⟨⟨hlen, .inr ⟨b, off, cap, cur, et, Fs.set i [], hσid.trans hσ, hh, h2, h3, h4, hF1e, by rw [List.length_set]; exact hl, fun j hj hij => ?_, fun j hj => ?_⟩⟩, hF1⟩
   ·have hne : j ≠ i := by omega
    have : (Fs.set i []).getD j [] = Fs.getD j [] := by simp [qs, Ne.symm hne]
    rw [this]
    exact hv j hj (by omega)
   ·by_cases hji : j = i
    ·subst hji; simp [qs, hiF]
    ·have : (Fs.set i []).getD j [] = Fs.getD j [] := by simp [qs, Ne.symm hji]
     rw [this]
     exact hk j (by omega)
  ·obtain ⟨q, hq, rfl⟩ := hmemu j hj
   rw [hh3 q hq] at hl
   have hown2 := hrows q hq
   rw [hl, ← hσu q hq] at hown2
   rw [hφu _ hj]
   refine ⟨hown2.rep, ?_⟩
   ·have hs : (ψ q.1).Sublist Fy := by
     rw [← hbl]
     unfold Ea
     exact List.sublist_flatten_of_mem (yt hj)
    exact hs.nodup (hndF.sublist (List.sublist_append_right _ _))
 ·intro j j' b1 b2 hj hj' hne _ _ c hc hc'
  rw [yl] at hndF
  rcases hj with rfl | hj
  ·rcases hj' with e | hj'
   ·exact hne e.symm
   ·rw [hφid] at hc
    rw [hφu _ hj'] at hc'
    exact hndF.2.2 c hc c (hψ _ hj' c hc') rfl
  ·rcases hj' with rfl | hj'
   ·rw [hφid] at hc'
    rw [hφu _ hj] at hc
    exact hndF.2.2 c hc' c (hψ _ hj c hc) rfl
   ·rw [hφu _ hj] at hc
    rw [hφu _ hj'] at hc'
    have : ∀ (L : List Nat), (Ea ψ L).Nodup → j ∈ L → j' ∈ L → False := by
     intro L
     induction L with
     | nil => simp
     | cons z L ih =>
      intro hn hi hi'
      have hx : Ea ψ (z :: L) = ψ z ++ Ea ψ L := by simp [Ea]
      rw [hx, yl] at hn
      rcases jp.1 hi with e1 | q1
      ·rcases jp.1 hi' with e2 | q2
       ·exact hne (e1.trans e2.symm)
       ·exact hn.2.2 c (e1 ▸ hc) c (Cb.2 ⟨j', q2, hc'⟩) rfl
      ·rcases jp.1 hi' with e2 | q2
       ·exact hn.2.2 c (e2 ▸ hc') c (Cb.2 ⟨j, q1, hc⟩) rfl
       ·exact ih hn.2.1 q1 q2
    exact this _ (by rw [hbl]; exact hndF.2.1) hj hj'
 ·intro j hj
  rcases hj with rfl | hj
  ·exact .inl hσid
  ·obtain ⟨q, hq, rfl⟩ := hmemu j hj
   exact .inr (DA (hnew q hq))
theorem Hv {α : Type} {b : Bool} {x : Option α} {y : α} : (bif b then x else none) = some y ↔ b = true ∧ x = some y := by cases b <;> simp
theorem Aaf (h : Qa n0 A O0 w0 s σ φ a w) {id : Nat} {s' : AS} (he : s.attach id = some s') : ∃ φ', Qa n0 A O0 w0 s' σ φ' a w := by
 unfold AS.attach at he
 split at he
 ·rename_i e xs i x path τ d hb
  split at he
  ·rename_i y l hy
   cases hnd : Nf (id :: l) with
   | false => simp [hnd] at he
   | true =>
    simp only [hnd, ze] at he
    split at he
    ·rename_i x' hx'
     simp only [jc] at he
     subst he
     have hnd := Gh hnd
     obtain ⟨hsh, hi, ht, hlt, bl, off, cap, cur, et, hσ, hh, hbF, hsz, hrep, hwand⟩ := h.hp id _ hb
     obtain ⟨hown, hlive⟩ := Jn h hy hrep
     have hle := Ai ht
     have hcl : cur.toList.length = cur.size := Array.length_toList
     have hsame : Ub cur.toList (off + i * e.size + Hb e path) (Fd cur (off + i * e.size + Hb e path) τ.size) = cur.toList := V6 (by omega)
     obtain ⟨F', hperm, hown'⟩ := hwand w _ (Id (by omega)) (fun _ _ _ => rfl) (by rw [hsame]; exact hh) y _ x' hown hx'
     have hFF : (φ id ++ Ea φ l).Nodup := by
      have := Rf h hnd (by
       intro j hj
       rcases jp.1 hj with rfl | hj
       ·exact ⟨_, hb⟩
       ·exact hlive j hj)
      simpa [Ea] using this
     refine ⟨_, h.turn (blk0 := .hol e xs i x path τ d) (Da := .row e true (j6 xs i x')) hb (by simp [Ia.like]) l hlive (yk.1 hnd).1 F' (jo _) (fun _ _ _ _ => rfl) rfl rfl rfl (hperm.nodup_iff.2 hFF) ?_ ?_⟩
     ·intro c hc
      rcases jl.1 (hperm.mem_iff.1 hc) with hc | hc
      ·exact .inr (.inl hc)
      ·exact .inr (.inr (Cb.1 hc))
     ·intro hp' O' _ _
      exact hown'
    ·simp at he
  ·simp at he
 ·simp only [jc] at he
  subst he
  exact ⟨φ, h⟩
theorem XR {α β : Type} (f : α → β) : ∀ (l : List (Nat × α)) (k : Nat), Jb (l.map fun p => (p.1, f p.2)) k = (Jb l k).map f
 | [], k => rfl
 | (j, a) :: r, k => by
  rw [yi, Tc, Tc]
  split
  ·rfl
  ·exact XR f r k
theorem ET {id : Nat} {τ : Ty} {x : T τ} (b : Ia) : (b.frz id τ x).rowN = b.rowN := by cases b <;> rfl
theorem Fap {id : Nat} {τ : Ty} {x : T τ} (b : Ia) : (b.frz id τ x).isM = b.isM := by cases b <;> rfl
theorem Eag {id : Nat} {τ : Ty} {x : T τ} (d : D) : (d.frz id τ x).isAgg = d.isAgg := by
 cases d with
 | own j =>
  simp only [D.frz]
  cases qw j id with
  | false => rfl
  | true => cases τ <;> rfl
 | mpo j =>
  simp only [D.frz]
  cases qw j id with
  | false => rfl
  | true => cases τ <;> rfl
 | _ => rfl
section
variable {O O' : Nat → Prop} {hp hp' : Nat → Option Ia} {id : Nat} {ζ : Ty} {xs : T ζ}
theorem Ab.frz (hsl : ζ.isSl = true → ∃ b0 r, hp id = some b0 ∧ b0.rowN = some r) (hmp : ζ.isMp = true → ∃ b0, hp id = some b0 ∧ b0.isM = true) (hn : hp' id = none) (hh : ∀ j, j ≠ id → hp' j = (hp j).map (Ia.frz id ζ xs)) (hO : ∀ b, O' b → O b) (hv : La w O' ζ xs [σ id]) :
 ∀ (d : D) (cs : List Value), Ab w O hp σ d cs → Ab w O' hp' σ (d.frz id ζ xs) cs
 | .und, cs, h => h
 | .anyv, cs, h => h
 | .t τ x, cs, h => La.weaken hO h
 | .nil, cs, h => h
 | .own j, cs, h => by
  obtain ⟨v, hcs, h1, h2⟩ := h
  simp only [D.frz]
  cases hj : qw j id && ζ.isSl with
  | true =>
   simp only [jd] at hj
   have := ju hj.1
   subst this
   obtain ⟨b0, r, hb0, hr⟩ := hsl hj.2
   rw [hcs, h2 _ _ hb0 hr]
   exact hv
  | false =>
   refine ⟨v, hcs, h1, fun Da r hl hr => ?_⟩
   by_cases hne : j = id
   ·subst hne; rw [hn] at hl; simp at hl
   rw [hh j hne, yx] at hl
   obtain ⟨b0, hb0, rfl⟩ := hl
   rw [ET] at hr
   exact h2 b0 r hb0 hr
 | .mpo j, cs, h => by
  obtain ⟨v, hcs, h1, h2⟩ := h
  simp only [D.frz]
  cases hj : qw j id && ζ.isMp with
  | true =>
   simp only [jd] at hj
   have := ju hj.1
   subst this
   obtain ⟨b0, hb0, hm0⟩ := hmp hj.2
   rw [hcs, h2 _ hb0 hm0]
   exact hv
  | false =>
   refine ⟨v, hcs, h1, fun Da hl hm => ?_⟩
   by_cases hne : j = id
   ·subst hne; rw [hn] at hl; simp at hl
   rw [hh j hne, yx] at hl
   obtain ⟨b0, hb0, rfl⟩ := hl
   rw [Fap] at hm
   exact h2 _ hb0 hm
 | .cut j lo hi, cs, h => by
  obtain ⟨v, hcs, h1, h2⟩ := h
  refine ⟨v, hcs, h1, fun Da e' n hl hr => ?_⟩
  by_cases hne : j = id
  ·subst hne; rw [hn] at hl; simp at hl
  rw [hh j hne, yx] at hl
  obtain ⟨b0, hb0, rfl⟩ := hl
  rw [ET] at hr
  exact h2 b0 e' n hb0 hr
 | .ptr j path, cs, h => by
  obtain ⟨v, hcs, h1, h2⟩ := h
  refine ⟨v, hcs, h1, fun ρ d hl => ?_⟩
  by_cases hne : j = id
  ·subst hne; rw [hn] at hl; simp at hl
  rw [hh j hne, yx] at hl
  obtain ⟨b0, hb0, hbe⟩ := hl
  cases b0 with
  | box ρ' d' =>
   simp only [Ia.frz, Ia.box.injEq] at hbe
   rw [← hbe.1]
   exact h2 ρ' d' hb0
  | _ => simp [Ia.frz] at hbe
 | .eptr j i path, cs, h => by
  obtain ⟨v, hcs, h1, h2⟩ := h
  refine ⟨v, hcs, h1, fun Da e' n hl hr => ?_⟩
  by_cases hne : j = id
  ·subst hne; rw [hn] at hl; simp at hl
  rw [hh j hne, yx] at hl
  obtain ⟨b0, hb0, rfl⟩ := hl
  rw [ET] at hr
  exact h2 b0 e' n hb0 hr
 | .rp τ x, cs, h => by
  obtain ⟨b, off, cur, et, fr, hcs, hb', hh', hs, hvw⟩ := h
  exact ⟨b, off, cur, et, fr, hcs, fun h => hb' (hO _ h), hh', hs, La.weaken hO hvw⟩
 | .pr a b, cs, h => by
  obtain ⟨c1, c2, h0, h1, h2⟩ := h
  exact ⟨c1, c2, h0, Ab.frz hsl hmp hn hh hO hv a c1 h1, Ab.frz hsl hmp hn hh hO hv b c2 h2⟩
 | .un, cs, h => h
 | .tup d, cs, h => h
theorem Se.frz (hsl : ζ.isSl = true → ∃ b0 r, hp id = some b0 ∧ b0.rowN = some r) (hmp : ζ.isMp = true → ∃ b0, hp id = some b0 ∧ b0.isM = true) (hn : hp' id = none) (hh : ∀ j, j ≠ id → hp' j = (hp j).map (Ia.frz id ζ xs)) (hO : ∀ b, O' b → O b) (hv : La w O' ζ xs [σ id])
 {d : D} {v : Value} (h : Se w O hp σ d v) : Se w O' hp' σ (d.frz id ζ xs) v := by
 unfold Se at *
 rw [Eag]
 split
 ·rename_i ha
  rw [if_pos ha] at h
  obtain ⟨cs, h1, h2⟩ := h
  exact ⟨cs, h1, Ab.frz hsl hmp hn hh hO hv d _ h2⟩
 ·rename_i ha
  rw [if_neg ha] at h
  exact Ab.frz hsl hmp hn hh hO hv d _ h
theorem Ig.frz (hsl : ζ.isSl = true → ∃ b0 r, hp id = some b0 ∧ b0.rowN = some r) (hmp : ζ.isMp = true → ∃ b0, hp id = some b0 ∧ b0.isM = true) (hn : hp' id = none) (hh : ∀ j, j ≠ id → hp' j = (hp j).map (Ia.frz id ζ xs)) (hO : ∀ b, O' b → O b) (hv : La w O' ζ xs [σ id]) :
 ∀ (d : D) (vs : List Value), Ig w O hp σ d vs → Ig w O' hp' σ (d.frz id ζ xs) vs
 | .pr a b, v :: vs, h => ⟨Se.frz hsl hmp hn hh hO hv h.1, Ig.frz hsl hmp hn hh hO hv b vs h.2⟩
 | .un, [], _ => trivial
 | .pr _ _, [], h => h.elim
 | .un, _ :: _, h => h.elim
 | .und, _, h => by simp [Ig] at h
 | .anyv, _, h => by simp [Ig] at h
 | .t _ _, _, h => by simp [Ig] at h
 | .nil, _, h => by simp [Ig] at h
 | .own _, _, h => by simp [Ig] at h
 | .mpo _, _, h => by simp [Ig] at h
 | .ptr _ _, _, h => by simp [Ig] at h
 | .eptr _ _ _, _, h => by simp [Ig] at h
 | .rp _ _, _, h => by simp [Ig] at h
 | .tup _, _, h => by simp [Ig] at h
theorem Zc.frz (hsl : ζ.isSl = true → ∃ b0 r, hp id = some b0 ∧ b0.rowN = some r) (hmp : ζ.isMp = true → ∃ b0, hp id = some b0 ∧ b0.isM = true) (hn : hp' id = none) (hh : ∀ j, j ≠ id → hp' j = (hp j).map (Ia.frz id ζ xs)) (hO : ∀ b, O' b → O b) (hv : La w O' ζ xs [σ id])
 {d : D} {v : Value} (h : Zc w O hp σ d v) : Zc w O' hp' σ (d.frz id ζ xs) v := by
 cases d with
 | tup ds =>
  obtain ⟨vs, h1, h2⟩ := h
  exact ⟨vs, h1, Ig.frz hsl hmp hn hh hO hv ds _ h2⟩
 | und => exact h
 | anyv => exact h
 | _ => exact Bx (Se.frz hsl hmp hn hh hO hv h)
end
theorem CO (hA : B7 O0 s φ) (h : Qa n0 A O0 w0 s σ φ a w) {id : Nat} {ζ : Ty} {xs : T ζ} {b0 : Ia} (hb : s.heap id = some b0) (hnb : ∀ ρ d, b0 ≠ .box ρ d) (hsl : ζ.isSl = true → ∃ b0 r, s.heap id = some b0 ∧ b0.rowN = some r) (hmp : ζ.isMp = true → ∃ b0, s.heap id = some b0 ∧ b0.isM = true)
 (hfz : ∀ O' : Nat → Prop, (∀ b, O' b → OO O0 s φ b) → (∀ b, b ∈ φ id → ¬ O' b) → La w O' ζ xs [σ id])
 (hsh : ((s.hp.map fun p => (p.1, p.2.map (Ia.frz id ζ xs))).all fun p => (p.2.map Ia.shaped).getD true) = true) :
 Qa n0 A O0 w0 ⟨s.n, s.tm.map fun p => (p.1, p.2.frz id ζ xs), (id, none) :: s.hp.map fun p => (p.1, p.2.map (Ia.frz id ζ xs))⟩ σ φ a w := by
 have hheap : ∀ j, AS.heap ⟨s.n, s.tm.map fun p => (p.1, p.2.frz id ζ xs), (id, none) :: s.hp.map fun p => (p.1, p.2.map (Ia.frz id ζ xs))⟩ j = if j = id then none else (s.heap j).map (Ia.frz id ζ xs) := by
  intro j
  simp only [AS.heap, Tc]
  by_cases hj : id = j
  ·subst hj; simp
  ·rw [if_neg hj, if_neg (Ne.symm hj), XR]
   cases Jb s.hp j with
   | none => rfl
   | some o => cases o <;> rfl
 generalize hs' : (⟨s.n, s.tm.map fun p => (p.1, p.2.frz id ζ xs), (id, none) :: s.hp.map fun p => (p.1, p.2.map (Ia.frz id ζ xs))⟩ : AS) = s' at hheap
 have hback : ∀ j Da, s'.heap j = some Da → j ≠ id ∧ ∃ b0, s.heap j = some b0 ∧ Da = b0.frz id ζ xs := by
  intro j Da hl
  rw [hheap] at hl
  split at hl
  ·simp at hl
  ·rename_i hne
   obtain ⟨b0, h1, h2⟩ := yx.1 hl
   exact ⟨hne, b0, h1, h2.symm⟩
 have hO : ∀ b, OO O0 s' φ b → OO O0 s φ b := by
  rintro b (ho | ⟨j, Da, hl, hm⟩)
  ·exact .inl ho
  ·obtain ⟨_, b0, h1, _⟩ := hback j Da hl
   exact .inr ⟨j, b0, h1, hm⟩
 have hF : ∀ b, b ∈ φ id → ¬ OO O0 s' φ b := by
  rintro b hm (ho | ⟨j, Da, hl, hm'⟩)
  ·exact hA id _ hb hnb b hm ho
  ·obtain ⟨hne, b0, h1, _⟩ := hback j Da hl
   exact h.disj id j _ b0 (Ne.symm hne) hb h1 b hm hm'
 have hv := hfz (OO O0 s' φ) hO hF
 have hn' : s'.heap id = none := by rw [hheap, if_pos rfl]
 have hh' : ∀ j, j ≠ id → s'.heap j = (s.heap j).map (Ia.frz id ζ xs) := fun j hj => by rw [hheap, if_neg hj]
 refine ⟨by subst hs'; exact h.sz, h.df, ?_, ?_, ?_, ?_, ?_, h.o0, h.fr, h.pin, h.iv0, h.ivw, ?_⟩
 ·intro t d hd
  subst hs'
  simp only at hd
  rw [XR, yx] at hd
  obtain ⟨d0, hd0, rfl⟩ := hd
  obtain ⟨v, hv1, hr⟩ := h.tm t d0 hd0
  exact ⟨v, hv1, Zc.frz hsl hmp hn' hh' hO hv hr⟩
 ·intro j Da hl
  obtain ⟨hne, b0, h1, rfl⟩ := hback j Da hl
  have hsb : (b0.frz id ζ xs).shaped = true := by
   have hm := AS.heap_mem hl
   subst hs'
   simp only [jp, jh] at hm
   rcases hm with ⟨_, hx⟩ | hm
   ·simp at hx
   ·have := yv.1 hsh _ hm
    simpa using this
  have hbr := h.hp j b0 h1
  cases b0 with
  | box ρ d =>
   obtain ⟨_, b, cur, et, g1, g2, g3, g4, g5⟩ := hbr
   exact ⟨Xm hsb, b, cur, et, g1, g2, g3, Ab.frz hsl hmp hn' hh' hO hv d _ g4, g5⟩
  | row e' dp' xs' =>
   cases dp' with
   | true => exact hbr
   | false =>
    obtain ⟨hm, g | ⟨bl, off, cap, cur, et, g1, g2, g3, g4, g5, g6, g7⟩⟩ := hbr
    ·exact ⟨hm, .inl g⟩
    ·exact ⟨hm, .inr ⟨bl, off, cap, cur, et, g1, g2, g3, g4, g5, g6, fun i hi => (g7 i hi).weaken hO⟩⟩
  | hol e' xs' i x p τ d =>
   obtain ⟨_, g1, g2, g3, bl, off, cap, cur, et, g4, g5, g6, g7, g8, g9⟩ := hbr
   exact ⟨Xm hsb, g1, g2, g3, bl, off, cap, cur, et, g4, g5, g6, g7, Ab.frz hsl hmp hn' hh' hO hv d _ g8, g9⟩
  | mov e' xs' k => exact hbr
  | mp k m ys =>
   obtain ⟨r, es, clk, g1, g2, g3, g4, g5⟩ := hbr
   refine ⟨r, es, clk, g1, g2, g3, g4, fun i hi => ?_⟩
   obtain ⟨e, ck, cv, q1, q2, q3, q4, q5⟩ := g5 i hi
   exact ⟨e, ck, cv, q1, q2, q3, q4.weaken hO, q5.weaken hO⟩
  | mq kk e xs => exact hbr
  | mx k m ys => exact hbr
  | fz e' ys => exact ⟨hbr.1, hbr.2.weaken hO⟩
 ·intro j Da hl
  obtain ⟨_, b0, h1, _⟩ := hback j Da hl
  exact h.nodup j b0 h1
 ·intro j j' Da blk' hne hl hl'
  obtain ⟨_, b0, h1, _⟩ := hback j Da hl
  obtain ⟨_, b1, h2, _⟩ := hback j' blk' hl'
  exact h.disj j j' b0 b1 hne h1 h2
 ·intro j Da hl
  obtain ⟨_, b0, h1, _⟩ := hback j Da hl
  exact h.fresh j b0 h1
 ·intro j kk e ys hl
  obtain ⟨_, b0, h1, h2⟩ := hback j _ hl
  have hb0 : b0 = .mq kk e ys := by cases b0 <;> first | exact h2.symm | (simp [Ia.frz] at h2)
  subst hb0
  exact (h.shr j kk e ys h1).stable (fun _ _ _ => rfl) (fun b _ hno h => hno (hO b h)) (fun _ _ => rfl)
theorem Kad {k m : Ty} {xs : List (T k × T m)} {O O' : Nat → Prop} {hp : Nat → Option Ia} {id : Nat} {F : List Nat} (h : Nc w O hp σ id (.mp k m xs) F) (hO : ∀ b, O' b → O b) (hF : ∀ b, b ∈ F → ¬ O' b) : La w O' (.mp k m) xs [σ id] := by
 obtain ⟨r, es, clk, g1, g2, g3, g4, g5⟩ := h
 subst g3
 refine .inr ⟨r, es, clk, by rw [g1], hF r (by simp), g2, g4, fun i hi => ?_⟩
 obtain ⟨e, ck, cv, q1, q2, q3, q4, q5⟩ := g5 i hi
 exact ⟨e, ck, cv, q1, q2, q3, q4.weaken hO, q5.weaken hO⟩
theorem Uaf (hA : B7 O0 s φ) (h : Qa n0 A O0 w0 s σ φ a w) {id : Nat} {s' : AS} (he : s.freeze id = some s') : Qa n0 A O0 w0 s' σ φ a w := by
 unfold AS.freeze at he
 split at he
 ·rename_i e dp xs hb
  simp only [Hv] at he
  obtain ⟨hsh, he⟩ := he
  simp only [jc] at he
  subst he
  exact CO hA h hb (fun _ _ e => by simp at e) (ζ := .sl e) (xs := xs) (fun _ => ⟨_, _, hb, rfl⟩) (fun h => by simp [Ty.isMp] at h) (fun O' hO hF => VM (h.hp id _ hb) hO hF) hsh
 ·rename_i k m xs hb
  simp only [Hv] at he
  obtain ⟨hsh, he⟩ := he
  simp only [jc] at he
  subst he
  exact CO hA h hb (fun _ _ e => by simp at e) (ζ := .mp k m) (xs := xs) (fun h => by simp [Ty.isSl] at h) (fun _ => ⟨_, hb, rfl⟩) (fun O' hO hF => Kad (h.hp id _ hb) hO hF) hsh
 ·rename_i k m xs hb
  simp only [Hv] at he
  obtain ⟨hsh, he⟩ := he
  simp only [jc] at he
  subst he
  exact CO hA h hb (fun _ _ e => by simp at e) (ζ := .mp k m) (xs := xs) (fun h => by simp [Ty.isSl] at h) (fun _ => ⟨_, hb, rfl⟩) (fun O' hO hF => Tb.view (h.hp id _ hb) hF) hsh
 ·simp only [jc] at he
  subst he
  exact h
theorem M6 (hA : B7 O0 s φ) (h : Qa n0 A O0 w0 s σ φ a w) (id : Nat) : ∃ φ', Qa n0 A O0 w0 (s.frzParts id) σ φ' a w := by
 unfold AS.frzParts
 split
 ·rename_i e xs hb
  have hO : Tb w (.sl e) xs [σ id] (φ id) := h.hp id _ hb
  have hnd := h.nodup id _ hb
  have hNA := hA id _ hb (fun _ _ e => by simp at e)
  have hfr := h.fresh id _ hb
  have hlt := hO.lt
  let s' : AS := ⟨s.n, s.tm, (id, some (.row e false xs)) :: s.hp⟩
  have hheap : ∀ j, s'.heap j = if j = id then some (.row e false xs) else s.heap j := by
   intro j
   simp only [s', AS.heap, Tc]
   by_cases hj : id = j
   ·subst hj; simp
   ·rw [if_neg hj, if_neg (Ne.symm hj)]
  obtain ⟨G, hG1, hG2, hG3⟩ : ∃ G : List Nat, (∀ b, b ∈ G → b ∈ φ id) ∧ G.Nodup ∧ ∀ O' : Nat → Prop, (∀ b, b ∈ φ id → b ∉ G → ¬ O' b) → (ja xs ≤ Aj ∧ ((σ id = .slice none 0 0 ∧ xs = ([] : List (T e)) ∧ G = []) ∨
   ∃ bl off cap cur et, σ id = .slice (some ⟨bl, off, none⟩) (ja xs) cap ∧ w.heap[bl]? = some (.cells cur et (0, 0)) ∧
    ja xs ≤ cap ∧ cap ≤ Aj ∧ off + cap * e.size ≤ cur.size ∧ G = [bl] ∧
    ∀ i (h : i < ja xs), La w O' e (List.get xs ⟨i, h⟩) (Fd cur (off + i * e.size) e.size))) := by
   obtain ⟨hm, ⟨h1, h2, h3⟩ | ⟨bl, off, cap, cur, et, Fs, h1, hh, h2, h3, h4, hF, hFs, hv⟩⟩ := hO
   ·exact ⟨[], by simp, List.nodup_nil, fun O' _ => ⟨hm, .inl ⟨by simpa using h1, h2, rfl⟩⟩⟩
   ·rw [hF] at hnd ⊢
    rw [yk] at hnd
    refine ⟨[bl], by simp, by simp, fun O' hO' => ⟨hm, .inr ⟨bl, off, cap, cur, et, by simpa using h1, hh, h2, h3, h4, rfl, fun i hi => Tb.view (hv i hi) fun b hb => ?_⟩⟩⟩
    have hmem : b ∈ List.flatten Fs := by
     have : Fs.getD i [] ∈ Fs := by
      rw [qf, je (by omega)]
      exact qi _
     exact List.mem_flatten.2 ⟨_, this, hb⟩
    refine hO' b (jr _ hmem) fun hb' => ?_
    simp only [qc] at hb'
    subst hb'
    exact hnd.1 hmem
  let φ' : Nat → List Nat := fun j => if j = id then G else φ j
  have hφ : φ' id = G := if_pos rfl
  have hOO : ∀ b, b ∈ φ id → b ∉ G → ¬ OO O0 s' φ' b := by
   rintro b hm hng (ho | ⟨j, Da, hl, hm'⟩)
   ·exact hNA b hm ho
   ·rw [hheap] at hl
    by_cases hj : j = id
    ·subst hj
     rw [hφ] at hm'
     exact hng hm'
    ·rw [if_neg hj] at hl
     simp only [φ', if_neg hj] at hm'
     exact h.disj id j _ Da (Ne.symm hj) hb hl b hm hm'
  refine ⟨φ', ?_⟩
  show Qa n0 A O0 w0 s' σ φ' a w
  refine h.trans (· = id) rfl rfl (fun j hj => ⟨by rw [hheap, if_neg hj], rfl, if_neg hj⟩) (fun _ _ _ => rfl) (jo _) ?_ ?_ ?_ ?_ rfl rfl rfl (fun _ _ => .inl rfl) (fun j kk e2 ys (hj : j = id) hl => by rw [hheap, if_pos hj] at hl; simp at hl)
  ·rintro j Da rfl _ b hm
   rw [hφ] at hm
   exact .inr ⟨j, _, rfl, hb, hG1 b hm⟩
  ·rintro j Da rfl hl _
   rw [hheap, if_pos rfl] at hl
   simp only [jc] at hl
   subst hl
   exact ⟨_, hb, ⟨rfl, rfl⟩, rfl⟩
  ·rintro j Da rfl hl
   rw [hheap, if_pos rfl] at hl
   simp only [jc] at hl
   subst hl
   rw [hφ]
   exact ⟨hG3 _ hOO, hG2⟩
  ·rintro j j' _ _ rfl rfl hne
   exact absurd rfl hne
 ·exact ⟨φ, h⟩
theorem KC {fz bm cm : Bool} (hfz : fz = true → FzQ bm cm A O0) : ∀ {l : List (Nat × Nat)} {n : Nat} {s s' : AS} {φ : Nat → List Nat}, Qa n0 A O0 w0 s σ φ a w → TJ fz bm l n s = some s' → ∃ φ', Qa n0 A O0 w0 s' σ φ' a w
 | [], n, s, s', φ, h, he => by
  simp only [TJ, jc] at he
  subst he
  exact ⟨φ, h⟩
 | (r, id) :: l, n, s, s', φ, h, he => by
  simp only [TJ] at he
  cases hr : qw r n with
  | false => rw [hr] at he; exact KC hfz h he
  | true =>
   rw [hr] at he
   simp only [ze] at he
   cases hq : jx 1000000000 id with
   | false =>
    rw [hq] at he
    simp only [zf] at he
    split at he
    ·rename_i s1 h1
     obtain ⟨φ1, hc⟩ := Aaf h h1
     exact KC hfz hc he
    ·simp at he
   | true =>
    rw [hq] at he
    simp only [ze] at he
    cases hz : (fz && (!bm || s.boxLive)) with
    | false => rw [hz] at he; simp at he
    | true =>
     rw [hz] at he
     simp only [jd] at hz
     have hN := noA (hfz hz.1) hz.2 h
     simp only [ze] at he
     cases hq2 : jx 2000000000 id with
     | true =>
      rw [hq2] at he
      simp only [ze] at he
      obtain ⟨φ1, hc⟩ := M6 hN h (id - 2000000000)
      exact KC hfz hc he
     | false =>
      rw [hq2] at he
      simp only [zf] at he
      split at he
      ·rename_i s1 h1
       exact KC hfz (Uaf hN h h1) he
      ·simp at he
theorem Iaa : ∀ {n : Nat} {e τ : Ty} {x : T e} {y : D}, Na e n = some τ → (D.t e x).field n = some y → ∃ z : T τ, y = .t τ z
 | 0, .p a c, τ, x, y, ht, hy => by
  simp only [Na, jc] at ht
  subst ht
  simp only [D.field, D.fst, jc] at hy
  exact ⟨x.1, hy.symm⟩
 | n + 1, .p a c, τ, x, y, ht, hy => by
  simp only [D.field, D.snd] at hy
  exact Iaa (e := c) ht hy
 | n, .i _, _, _, _, ht, _ => by cases n <;> simp [Na] at ht
 | n, .b, _, _, _, ht, _ => by cases n <;> simp [Na] at ht
 | n, .o, _, _, _, ht, _ => by cases n <;> simp [Na] at ht
 | n, .mp _ _, _, _, _, ht, _ => by cases n <;> simp [Na] at ht
 | n, .s, _, _, _, ht, _ => by cases n <;> simp [Na] at ht
 | n, .sl _, _, _, _, ht, _ => by cases n <;> simp [Na] at ht
 | n, .u, _, _, _, ht, _ => by cases n <;> simp [Na] at ht
theorem PC : ∀ τ : Ty, Ty.dec τ τ = some ⟨rfl⟩
 | .i _ => by simp [Ty.dec]
 | .b => rfl
 | .o => rfl
 | .mp x y => by simp only [Ty.dec, PC x, PC y]
 | .s => rfl
 | .u => rfl
 | .sl e => by simp only [Ty.dec, PC e]
 | .p x y => by simp only [Ty.dec, PC x, PC y]
theorem Fav : ∀ {p : List Nat} {e τ : Ty} {x : T e} {y : D}, Ze e p = some τ → (D.t e x).at p = some y → ∃ z : T τ, y = .t τ z ∧ Bj y τ = some z
 | [], e, τ, x, y, ht, hy => by
  simp only [Ze, jc] at ht
  subst ht
  simp only [D.at, jc] at hy
  subst hy
  exact ⟨x, rfl, by simp only [Bj, PC e]⟩
 | f :: p, e, τ, x, y, ht, hy => by
  simp only [Ze] at ht
  cases hf : Na e f with
  | none => simp [hf] at ht
  | some τ' =>
   simp only [hf, jb] at ht
   simp only [D.at] at hy
   cases hd : (D.t e x).field f with
   | none => simp [hd] at hy
   | some z =>
    simp only [hd] at hy
    obtain ⟨u, rfl⟩ := Iaa hf hd
    exact Fav ht hy
theorem Gar (hG : EnvTy P G) (h : Qa n0 A O0 w0 s σ φ a w) {t : TypeId} {x : Operand} (ho : o.op = .load t x)
 (he : Hf G s o k = some out) : o.wp P a w (Ve n0 A O0 w0 k out) Q := by
 simp only [Hf, Sb, ho] at he
 split at he
 ·
  rename_i τ id path hty hx
  split at he
  ·rename_i ρ d hb
   split at he
   ·rename_i τ' e ht hd
    split at he
    ·rename_i q hq
     obtain rfl := Ud hq
     have hv := h.ev hx
     rw [Uq] at hv
     obtain ⟨b, hσ, hv⟩ := hv.2 ρ d hb
     obtain ⟨hs, b', cur, et, hσ', hh, hF, hr, hsz⟩ := h.hp id _ hb
     rw [hσ] at hσ'
     simp at hσ'
     subst hσ'
     obtain ⟨hse, hre⟩ := Ab.at hs ht hd hr
     have hle := Ai ht
     have hl := Ps (hG.ty _ _ hty) hh (by omega : Hb ρ path + τ'.size ≤ cur.size)
     refine Rb (w' := w) (v := Od τ' (Fd cur (Hb ρ path) τ'.size)) ?_ (Cc h ?_ he)
     ·simp [execOp, ho, hv, Instr.loadAt, Instr.sureAddr, hl]
     ·exact Vq hse hre
    ·simp at he
   ·simp at he
  ·simp at he
 ·
  rename_i τ τ' y hty hx
  split at he
  ·rename_i q hq
   obtain rfl := Ud hq
   have hv := h.ev hx
   rw [GL] at hv
   obtain ⟨b, off, cur, et, fr, hv, hO, hh, hs, hvw⟩ := hv
   have hl := Ps (hG.ty _ _ hty) hh hs
   refine Rb (w' := w) (v := Od τ' (Fd cur off τ'.size)) ?_ (Cc h ?_ he)
   ·simp [execOp, ho, hv, Instr.loadAt, Instr.sureAddr, hl]
   ·exact Vq (τ := τ') (by simp [Bb]) hvw
  ·simp at he
 ·
  rename_i τ id i path hty hx
  cases hml : PH G o.dst with
  | true =>
   rw [hml] at he
   simp only [ze] at he
   have key : ∀ (e : Ty) (xs : List (T e)) (kk : Nat) (Da : Ia), path = [] → s.heap id = some Da → (Da = .row e true xs ∧ kk = 0 ∨ Da = .mov e xs kk) → Ku s o.dst τ id i e xs kk (fun d u => Zg s o.dst d u k) = some out →
    o.wp P a w (Ve n0 A O0 w0 k out) Q := by
    intro e xs kk Da hp hb hbk hgo
    subst hp
    unfold Ku at hgo
    split at hgo
    ·rename_i q hq
     obtain rfl := Ud hq
     cases hik : qw i kk with
     | false => rw [hik] at hgo; simp at hgo
     | true =>
      obtain rfl := ju hik
      rw [Nat.beq_refl] at hgo
      simp only [ze] at hgo
      cases hxi : xs[i]? with
      | none => simp [hxi] at hgo
      | some x0 =>
       simp only [hxi, jb] at hgo
       rcases hop : Ie e x0 (100000 + 64 * o.dst.getD 0) with ⟨d, u, m⟩
       rw [hop] at hgo
       simp only at hgo
       cases hck : (jx m (100064 + 64 * o.dst.getD 0) && Yd s u) with
       | false => rw [hck] at hgo; simp at hgo
       | true =>
        rw [hck] at hgo
        simp only [ze] at hgo
        simp only [jd] at hck
        have hm : s.ment id = true := TK hx (by simp [D.ment])
        have hN : Da.rowN = some (e, ja xs) := by rcases hbk with ⟨rfl, _⟩ | rfl <;> rfl
        have hlike : Da.like (.mov e xs (i + 1)) := by rcases hbk with ⟨rfl, _⟩ | rfl <;> simp [Ia.like]
        have hv := h.ev hx
        rw [Sj] at hv
        obtain ⟨hi, b, off, cap, hσ, hv⟩ := hv.2 _ _ _ hb hN
        have hmv : Nc w (OO O0 s φ) s.heap σ id (.mov e xs i) (φ id) := by
         have := h.hp id _ hb
         rcases hbk with ⟨rfl, rfl⟩ | rfl
         ·exact R5 this
         ·exact this
        obtain ⟨cur, et, σ', φ', hh, hs, hc, hsh, hrep⟩ := h.moveout hb hlike hmv hm hxi hσ hop hck.2
        have hl := Ps (hG.ty _ _ hty) hh hs
        refine Rb (w' := w) (v := Od e (Fd cur (off + i * e.size) e.size)) ?_ (Me rfl hc (Vq hsh (hrep _ _)) hgo)
        simp [execOp, ho, hv, Instr.loadAt, Instr.sureAddr, Hb, hl]
    ·simp at hgo
   split at he
   ·rename_i e xs hb
    exact key e xs 0 _ rfl hb (.inl ⟨rfl, rfl⟩) he
   ·rename_i e xs kk hb
    exact key e xs kk _ rfl hb (.inr rfl) he
   ·simp at he
  | false =>
  rw [hml] at he
  simp only [zf] at he
  split at he
  ·rename_i e dp xs hb
   cases hxi : xs[i]? with
   | none => simp [hxi] at he
   | some x0 =>
    simp only [hxi, jb] at he
    split at he
    ·rename_i τ' y ht hd
     split at he
     ·rename_i q hq
      obtain rfl := Ud hq
      have hv := h.ev hx
      rw [Sj] at hv
      obtain ⟨hi, b, off, cap, hσ, hv⟩ := hv.2 _ _ _ hb rfl
      have hle := Ai ht
      cases hf : ((!dp || e.flat) || τ'.flat) with
      | true =>
       simp only [hf, ze] at he
       have hel : ∃ cur et, w.heap[b]? = some (.cells cur et (0, 0)) ∧ off + i * e.size + e.size ≤ cur.size ∧ Bb τ' y ∧ Ab w (OO O0 s φ) s.heap σ y (Fd cur (off + i * e.size + Hb e path) τ'.size) := by
        cases hf1 : (!dp || e.flat) with
        | true =>
         obtain ⟨cur, et, hh, hs, hvw⟩ := Aal (h.hp id _ hb) (by simpa using hf1) hxi hσ
         have hrep : Ab w (OO O0 s φ) s.heap σ (.t e x0) (Fd cur (off + i * e.size) e.size) := hvw
         obtain ⟨hse, hre⟩ := Ab.at (τ := τ') (by simp [Bb]) ht hd hrep
         rw [JL _ _ _ _ _ hle] at hre
         exact ⟨cur, et, hh, hs, hse, hre⟩
        | false =>
         have hfl : τ'.flat = true := by simpa [hf1] using hf
         have hdp : dp = true := by
          simp only [yq] at hf1
          simpa using hf1.1
         subst hdp
         have hown := h.hp id _ hb
         simp only [Nc, hσ] at hown
         obtain ⟨y', hy1, hy2⟩ := Fav ht hd
         subst hy1
         obtain ⟨cur, et, F1, Fy, hh, _, hsz, _, hoy, _⟩ := OZ hown hxi ht hd hy2
         refine ⟨cur, et, hh, hsz, by simp [Bb], ?_⟩
         have hnil := Cu hfl hoy
         exact hoy.view (by rw [hnil]; simp)
       obtain ⟨cur, et, hh, hs, hse, hre⟩ := hel
       have hl := Ps (hG.ty _ _ hty) hh (by omega : off + i * e.size + Hb e path + τ'.size ≤ cur.size)
       refine Rb (w' := w) (v := Od τ' (Fd cur (off + i * e.size + Hb e path) τ'.size)) ?_ (Cc h (Vq hse hre) he)
       simp [execOp, ho, hv, Instr.loadAt, Instr.sureAddr, hl]
      | false =>
       simp only [hf, zf] at he
       split at he
       ·rename_i y' hy'
        rcases hop : Ie τ' y' (100000 + 64 * o.dst.getD 0) with ⟨d, u, m⟩
        rw [hop] at he
        simp only at he
        cases hck : (jx m (100064 + 64 * o.dst.getD 0) && Yd s u) with
        | false => rw [hck] at he; simp at he
        | true =>
         rw [hck] at he
         simp only [ze] at he
         simp only [jd] at hck
         have hdp : dp = true := by
          simp only [yq] at hf
          simpa using hf.1.1
         subst hdp
         have hm : s.ment id = true := TK hx (by simp [D.ment])
         obtain ⟨cur, et, σ', φ', hh, hs, hc, hsh, hrep⟩ := h.focus hb hm hxi ht hd hy' hσ hop hck.2
         have hl := Ps (hG.ty _ _ hty) hh (by omega : off + i * e.size + Hb e path + τ'.size ≤ cur.size)
         refine Rb (w' := w) (v := Od τ' (Fd cur (off + i * e.size + Hb e path) τ'.size)) ?_ (Me rfl hc (Vq hsh (hrep _ _)) he)
         simp [execOp, ho, hv, Instr.loadAt, Instr.sureAddr, hl]
       ·simp at he
     ·simp at he
    ·simp at he
  ·simp at he
 ·simp at he
theorem Sar {s : AS} {e : Ty} {db : D} {ys : List (T e)} {dq : Bool} {m : List Nat} (hs : EI s e db = some (ys, dq, m)) : ∀ j, j ∈ m → ∀ Da, s.heap j = some Da → ∀ ρ d, Da ≠ .box ρ d := by
 intro j hj Da hb
 unfold EI at hs
 split at hs
 ·simp only [jc, jh] at hs
  rw [← hs.2.2] at hj; simp at hj
 ·split at hs
  ·simp only [jc, jh] at hs
   rw [← hs.2.2] at hj; simp at hj
  ·simp at hs
 ·split at hs
  ·simp only [jc, jh] at hs
   rw [← hs.2.2] at hj; simp at hj
  ·simp at hs
 ·rename_i id
  split at hs
  ·rename_i e' dp ys' hid
   split at hs
   ·simp only [jc, jh] at hs
    rw [← hs.2.2] at hj
    cases hf : e.flat with
    | true => rw [hf] at hj; simp at hj
    | false =>
     rw [hf] at hj
     simp only [zf, qc] at hj
     subst hj
     rw [hid] at hb
     simp only [jc] at hb
     subst hb
     simp
   ·simp at hs
  ·simp at hs
 ·split at hs
  ·split at hs
   ·simp only [Hv] at hs
    obtain ⟨_, hs⟩ := hs
    simp only [jc, jh] at hs
    rw [← hs.2.2] at hj; simp at hj
   ·simp at hs
  ·simp at hs
 ·simp at hs
theorem Mh.frozen {w : World} {O O' : Nat → Prop} {dq : Bool} {e : Ty} {xs : List (T e)} {v : Value} {F : List Nat} (h : Mh w O dq e xs v F) (hO : ∀ b, O' b → O b) (hF : ∀ b, b ∈ F → ¬ O' b) : La w O' (.sl e) xs [v] :=
 VM (σ := fun _ => v) (hp := fun _ => none) (id := 0) (Nk.2 h) hO hF
theorem Oad (hG : EnvTy P G) (hfz : QJ G A O0) (h : Qa n0 A O0 w0 s σ φ a w) {args : Array Operand} {ts : Array TypeId} (ho : o.op = .call ⟨.builtin .append, args, ts⟩) (hml : PH G o.dst = true)
 (he : Hf G s o k = some out) : o.wp P a w (Ve n0 A O0 w0 k out) Q := by
 simp only [Hf, Sb, ho] at he
 split at he
 ·rename_i x y t tx hargs hts
  unfold IG at he
  rw [hml] at he
  simp only [ze] at he
  unfold Ys at he
  split at he
  ·rename_i tt e id db hd hty hx hy
   split at he
   ·rename_i e' dp xs ys dq m hid hsrc
    split at he
    ·rename_i q hq
     subst q
     cases hc : (((dp || e'.flat) == dq) && Nf (id :: m)) && (OG (Jb G.ty tx) && (G.fz && !AC G.att)) with
     | false => rw [hc] at he; simp at he
     | true =>
      rw [hc] at he
      simp only [ze] at he
      simp only [jd, beq_iff_eq, yj] at hc
      obtain ⟨⟨hdq, hnd⟩, hkx, hfz1, hfz2⟩ := hc
      have hnd := Gh hnd
      cases hlim : jx (ja xs + ja ys) Oa with
      | false => rw [hlim] at he; simp at he
      | true =>
       rw [hlim] at he
       simp only [ze] at he
       have hlim := q6 hlim
       obtain ⟨et, hu, hte⟩ := Tok.sl (hG.ty _ _ hty)
       have hk : (∃ e', P.underlying tx = some (.slice e')) ∨ P.underlying tx = some .string := by
        unfold OG at hkx
        split at hkx
        ·rename_i e' hq
         obtain ⟨et', hu', _⟩ := Tok.sl (hG.ty _ _ hq)
         exact .inl ⟨et', hu'⟩
        ·rename_i hq
         exact .inr (Tok.s (hG.ty _ _ hq))
        ·simp at hkx
       have hrow := WM h hid (h.ev hx)
       rw [hdq] at hrow
       have hval : a.eval x = σ id := (AD.1 (h.ev hx)).2 _ _ hid rfl
       obtain ⟨news, Gs, hS, hEl, hsub, hl2⟩ := EY (P := P) h hsrc (h.ev hy) hk
       have hlive : ∀ j, j ∈ id :: m → ∃ b, s.heap j = some b := by
        intro j hj
        rcases jp.1 hj with rfl | hj
        ·exact ⟨_, hid⟩
        ·exact hl2 j hj
       have hbn := Rf h hnd hlive
       have hbn' : (φ id ++ Ea φ m).Nodup := by simpa [Ea] using hbn
       obtain ⟨v', w', F', hr, h1, hsz, hbl, hos, htape, hout, hF', hsubF, hres⟩ := XQ (P := P) (t := t) (tx := tx) (ty := o.type) hu hte hrow hS hEl
        (List.Sublist.nodup (List.Sublist.append (List.Sublist.refl _) hsub) hbn') hlim
        (fun c hc => .inr ⟨id, _, hid, hc⟩)
        (by
         intro c hc
         obtain ⟨j, hj, hm⟩ := Cb.1 (hsub.subset hc)
         obtain ⟨b, hb⟩ := hl2 j hj
         exact (h.hp j b hb).lt c hm)
       have hidm : id ∉ m := (yk.1 hnd).1
       have hN := noA (hfz hfz1) (by rw [hfz2]; rfl) h
       have hdead : ∀ j, j ∈ m → AS.heap ⟨s.n, s.tm, (id, some (Ia.fz e' xs)) :: (Kc m ++ s.hp)⟩ j = none := fun j hj => by
        rw [Ld, if_neg (fun (e : j = id) => hidm (by rw [← e]; exact hj)), if_pos hj]
       have hOL : ∀ b, OO O0 ⟨s.n, s.tm, (id, some (Ia.fz e' xs)) :: (Kc m ++ s.hp)⟩ (Xg φ id []) b → OL O0 s (id :: m) φ b := by
        rintro b (hb | ⟨j, Da, hl, hm⟩)
        ·exact .inl hb
        ·by_cases hj : j = id
         ·subst hj
          rw [Wd] at hm
          simp at hm
         ·by_cases hjm : j ∈ m
          ·rw [hdead j hjm] at hl; simp at hl
          ·rw [Ld, if_neg hj, if_neg hjm] at hl
           rw [Qj _ _ hj] at hm
           exact .inr ⟨j, Da, by simp [hj, hjm], hl, hm⟩
       have hfree : ∀ j, j ∈ id :: m → ∀ b, b ∈ φ j → ¬ OL O0 s (id :: m) φ b := by
        intro j hj b hm hO
        obtain ⟨Da, hbj⟩ := hlive j hj
        have hnb : ∀ ρ d, Da ≠ .box ρ d := by
         rcases jp.1 hj with rfl | hj
         ·rw [hid] at hbj
          simp only [jc] at hbj
          subst hbj
          simp
         ·exact Sar hsrc j hj Da hbj
        rcases hO with ho' | ⟨j', blk', hj', hl', hm'⟩
        ·exact hN j Da hbj hnb b hm ho'
        ·exact h.disj j j' Da blk' (fun e => hj' (e ▸ hj)) hbj hl' b hm hm'
       have hOo : ∀ b, b < w.heap.size → ¬ OO O0 s φ b → ¬ OO O0 ⟨s.n, s.tm, (id, some (Ia.fz e' xs)) :: (Kc m ++ s.hp)⟩ (Xg φ id []) b := fun b _ hno hO => hno (hOL b hO).oo
       obtain ⟨hnew, hold⟩ := hres _ hOo
       have hFfree : ∀ b, b ∈ F' → ¬ OO O0 ⟨s.n, s.tm, (id, some (Ia.fz e' xs)) :: (Kc m ++ s.hp)⟩ (Xg φ id []) b := by
        intro b hb hO
        rcases hsubF b hb with hb | hb | hb
        ·have := h.OO_lt (hOL b hO).oo; omega
        ·exact hfree id (by simp) b hb (hOL b hO)
        ·obtain ⟨j, hj, hm⟩ := Cb.1 (hsub.subset hb)
         exact hfree j (by simp [hj]) b hm (hOL b hO)
       have hvold : La w' (OO O0 ⟨s.n, s.tm, (id, some (Ia.fz e' xs)) :: (Kc m ++ s.hp)⟩ (Xg φ id [])) (.sl e') xs [σ id] := by
        rw [← hval]
        exact hold.frozen (fun _ hb => hb) fun b hb hO => hfree id (by simp) b hb (hOL b hO)
       have hvnew := hnew.frozen (fun _ hb => hb) hFfree
       have hc : Qa n0 A O0 w0 ⟨s.n, s.tm, (id, some (Ia.fz e' xs)) :: (Kc m ++ s.hp)⟩ σ (Xg φ id []) a w' := by
        refine h.trans (fun j => j = id ∨ j ∈ m) rfl rfl ?_ ?_ hsz ?_ ?_ ?_ ?_ hos htape hout (fun _ _ => .inl rfl) ?_
        ·intro j hj
         simp only [not_or] at hj
         exact ⟨by rw [Ld, if_neg hj.1, if_neg hj.2], rfl, Qj _ _ hj.1⟩
        ·intro b hlt hno
         exact hbl b hlt fun hm => hno id _ (.inl rfl) hid hm
        ·intro j blk' ht hl b hbm
         by_cases hj : j = id
         ·subst hj
          rw [Wd] at hbm
          simp at hbm
         ·rw [hdead j (ht.resolve_left hj)] at hl; simp at hl
        ·intro j blk' ht hl _
         by_cases hj : j = id
         ·subst hj
          rw [Ld, if_pos rfl] at hl
          simp only [jc] at hl
          subst hl
          exact ⟨_, hid, ⟨rfl, rfl⟩, rfl⟩
         ·rw [hdead j (ht.resolve_left hj)] at hl; simp at hl
        ·intro j blk' ht hl
         by_cases hj : j = id
         ·subst hj
          rw [Ld, if_pos rfl] at hl
          simp only [jc] at hl
          subst hl
          rw [Wd]
          exact ⟨⟨rfl, hvold⟩, List.nodup_nil⟩
         ·rw [hdead j (ht.resolve_left hj)] at hl; simp at hl
        ·intro j j' b1 b2 ht ht' hne hl hl'
         by_cases hj : j = id
         ·by_cases hj' : j' = id
          ·exact absurd (hj.trans hj'.symm) hne
          ·rw [hdead j' (ht'.resolve_left hj')] at hl'; simp at hl'
         ·rw [hdead j (ht.resolve_left hj)] at hl; simp at hl
        ·intro j kk e2 xs2 ht hl
         by_cases hj : j = id
         ·subst hj
          rw [Ld, if_pos rfl] at hl
          simp at hl
         ·rw [hdead j (ht.resolve_left hj)] at hl; simp at hl
       refine Rb (w' := w') (v := v') ?_ (Me rfl hc ?_ he)
       ·have hts' : ts = #[t, tx] := by
         apply Array.ext'
         rw [hts]
        rw [Nn ho hargs, hts']
        simp [builtin, hr]
       ·simp only [Zc, Se, D.isAgg, jq, if_false, Ab]
        exact hvnew
    ·simp at he
   ·simp at he
  ·simp at he
 ·simp at he
end
section
variable {P : Program} {Out : Type} {n0 : Nat} {A : Fx} {O0 : Nat → Prop} {w0 w w' : World} {s : AS} {σ σ' : Nat → Value} {φ φ' : Nat → List Nat} {a : Act}
variable {o : Oper} {Q : Exit → Act → World → Prop} {k : AS → Option Out} {out : Out} {d : D} {v : Value} {upd : List (Nat × Option Ia)} {dst : Option Tmp} {G : Ue}
theorem Yae (hG : Cj P A.I G) (hfz : QJ G A O0) (h : Qa n0 A O0 w0 s σ φ a w) (he : Hf G s o k = some out) : o.wp P a w (Ve n0 A O0 w0 k out) Q := by
 have hT := hG.toEnvTy
 cases ho : o.op with
 | move x => exact X9 h (.inl ho) (by simp only [Hf, Sb, ho] at he; cases hx : s.ev x with | none => simp [hx] at he | some d => simpa [hx] using he)
 | assign x => exact X9 h (.inr ho) (by simp only [Hf, Sb, ho] at he; cases hx : s.ev x with | none => simp [hx] at he | some d => simpa [hx] using he)
 | pick c x y => exact Har h ho he
 | alloc t => exact Mak hT h ho he
 | box t x => exact Vau hT h ho he
 | build t ps => exact Oak hT h ho he
 | buildSlice t n ps => exact L0 hT h ho he
 | load t x => exact Gar hT h ho he
 | store t x y => exact Sak hT h ho he
 | nilCheck x => exact S6 h ho he
 | binOp op t x y t' => exact Hah hT h ho he
 | unOp op t x => exact Iar h ho he
 | convert src t x => exact Pad hT h ho he
 | slice t x lo hi max =>
  cases max with
  | none => exact Rak hT h ho he
  | some m => simp [Hf, Sb, ho] at he
 | fieldAddr t x f => exact D5 hT h ho he
 | field t x f => exact Pak hT h ho he
 | indexAddr t x i => exact E5 hT h ho he
 | index t x i => exact Qak h hT ho he
 | makeSlice t l c => exact F5 hT h ho he
 | extract x n => exact Qad h ho he
 | call c =>
  obtain ⟨callee, args, ts⟩ := c
  cases callee with
  | value f =>
   cases f with
   | func f => exact Ear hG hfz h ho he
   | _ => simp [Hf, Sb, ho] at he
  | invoke r m => simp [Hf, Sb, ho] at he
  | builtin b =>
   cases b with
   | len => exact Wau hT h ho he
   | append =>
    cases hml : PH G o.dst with
    | false => exact Gah hT h ho hml he
    | true => exact Oad hT hfz h ho hml he
   | copy => exact Far hT h ho he
   | max => exact Xau h ho he
   | min => exact Yau h ho he
   | _ => simp [Hf, Sb, ho] at he
 | _ => simp [Hf, Sb, ho] at he
end
def Cy {α : Type} : List (Int × α) → Int → Option Nat
 | [], _ => none
 | (k, _) :: r, n => bif n == k then some 0 else (Cy r n).map (· + 1)
theorem MX {α : Type} : ∀ (xs : List (Int × α)) (n : Int), Bd xs n = (Cy xs n).bind fun i => (xs[i]?).map (·.2)
 | [], n => rfl
 | (k, x) :: r, n => by
  simp only [Bd, Cy]
  cases hn : n == k with
  | true => simp
  | false =>
   simp only [zf]
   rw [MX r n]
   cases Cy r n <;> simp
theorem RV {α : Type} : ∀ {xs : List (Int × α)} {n : Int} {i : Nat}, Cy xs n = some i → ∃ h : i < xs.length, xs[i].1 = n
 | [], n, i, h => by simp [Cy] at h
 | (k, x) :: r, n, i, h => by
  simp only [Cy] at h
  cases hn : n == k with
  | true => rw [hn] at h; simp at h hn; subst h; exact ⟨by simp, hn.symm⟩
  | false =>
   rw [hn] at h
   simp only [zf, yx] at h
   obtain ⟨j, hj, rfl⟩ := h
   obtain ⟨h1, h2⟩ := RV hj
   exact ⟨by simp; omega, by simpa using h2⟩
theorem VS {α : Type} : ∀ {xs : List (Int × α)} {n : Int} {i : Nat} (y : α), Cy xs n = some i → IM xs n y = xs.set i (n, y)
 | [], n, i, y, h => by simp [Cy] at h
 | (k, x) :: r, n, i, y, h => by
  simp only [Cy] at h
  simp only [IM]
  cases hn : n == k with
  | true => rw [hn] at h; simp at h hn; subst h; simp [hn]
  | false =>
   rw [hn] at h
   simp only [zf, yx] at h
   obtain ⟨j, hj, rfl⟩ := h
   simp [VS y hj]
theorem US {α : Type} : ∀ {xs : List (Int × α)} {n : Int} (y : α), Cy xs n = none → IM xs n y = xs ++ [(n, y)]
 | [], n, y, h => rfl
 | (k, x) :: r, n, y, h => by
  simp only [Cy] at h
  simp only [IM]
  cases hn : n == k with
  | true => rw [hn] at h; simp at h
  | false =>
   rw [hn] at h
   simp only [zf, Option.map_eq_none_iff] at h
   simp [US y h]
def UE (w : World) (O : Nat → Prop) (k v : Ty) (xs : List (T k × T v)) (es : Array MapEntry) : Prop := es.size = ja xs ∧
 ∀ i (h : i < ja xs), ∃ e ck cv, es[i]? = some e ∧ e.key = Lk k ck ∧ e.val = Lk v cv ∧ La w O k (List.get xs ⟨i, h⟩).1 ck ∧ La w O v (List.get xs ⟨i, h⟩).2 cv
theorem GM (τ : Ty) (cs : List Value) : Lk τ cs = Od τ cs := by cases τ <;> rfl
theorem CR {kk : IntKind} {w : World} {O : Nat → Prop} {v : Ty} (n : Int) : ∀ (xs : List (Int × T v)) (es : List MapEntry) (j : Nat), es.length = xs.length →
 (∀ i (h : i < xs.length), ∃ e, es[i]? = some e ∧ e.key = .int kk xs[i].1) →
 Instr.findNow (.int kk) (.int kk n) es j = some ((Cy xs n).bind fun i => (es[i]?).map fun e => (j + i, e.val))
 | [], [], j, _, _ => rfl
 | [], _ :: _, j, h, _ => by simp at h
 | _ :: _, [], j, h, _ => by simp at h
 | (k, x) :: xs, e :: es, j, h, hk => by
  obtain ⟨e0, h0, h1⟩ := hk 0 (by simp)
  simp only [List.getElem?_cons_zero, jc] at h0
  subst h0
  simp only [List.getElem_cons_zero] at h1
  have ih := CR (w := w) (O := O) n xs es (j + 1) (by simpa using h) (fun i hi => by
   obtain ⟨e', h2, h3⟩ := hk (i + 1) (by simp; omega)
   exact ⟨e', by simpa using h2, by simpa using h3⟩)
  simp only [Instr.findNow, h1, Instr.sameNow, if_true, Cy]
  cases hn : n == k with
  | true => simp
  | false =>
   simp only [zf]
   rw [ih]
   cases Cy xs n with
   | none => rfl
   | some i => simp [jt, Nat.add_comm 1 i]
section
variable {P : Program} {Out : Type} {n0 : Nat} {A : Fx} {O0 : Nat → Prop} {w0 w w' : World} {s : AS} {σ σ' : Nat → Value} {φ φ' : Nat → List Nat} {a : Act}
variable {o : Oper} {Q : Exit → Act → World → Prop} {k : AS → Option Out} {out : Out} {d : D} {v : Value} {upd : List (Nat × Option Ia)} {dst : Option Tmp} {G : Ue}
theorem Cq {kk : IntKind} {kt : TypeId} {O : Nat → Prop} {τ : Ty} {xs : List (Int × T τ)} {es : Array MapEntry} (hk : P.underlying kt = some (.int kk)) (he : UE w O (.i kk) τ xs es) (n : Int) (w1 : World) :
 (Instr.findKey kt (.int kk n) es.toList).run P w1 = .ok ((Cy xs n).bind fun i => (es[i]?).map fun e => (i, e.val)) w1 := by
 have := CR (w := w) (O := O) (v := τ) (kk := kk) n xs es.toList 0 (by simpa using he.1) (fun i hi => by
  obtain ⟨e, ck, cv, h1, h2, h3, h4, h5⟩ := he.2 i hi
  refine ⟨e, by simpa using h1, ?_⟩
  have h4' : ck = [.int kk (List.get xs ⟨i, hi⟩).1] := h4
  rw [h2, h4']; rfl)
 simp only [js, Array.getElem?_toList] at this
 simp [Instr.findKey, run_underlying hk, this]
theorem Ok {kk : IntKind} {kt : TypeId} (hk : P.underlying kt = some (.int kk)) (b : Bool) (n : Int) (w1 : World) : (Instr.checkKey b 10000 kt (.int kk n)).run P w1 = .ok () w1 := by
 have h : ∀ m : Nat, (Instr.checkKey b (m + 1) kt (.int kk n)).run P w1 = .ok () w1 := fun m => by simp [Instr.checkKey, run_underlying hk]
 exact h 9999
theorem Q3 {O : Nat → Prop} {kk : IntKind} {τ : Ty} {xs : List (Int × T τ)} {es : Array MapEntry} (he : UE w O (.i kk) τ xs es) (n : Int) :
 (Bd xs n = none ∧ Cy xs n = none) ∨ ∃ i e y cv, Cy xs n = some i ∧ es[i]? = some e ∧ Bd xs n = some y ∧ e.val = Lk τ cv ∧ La w O τ y cv := by
 rw [MX]
 cases hm : Cy xs n with
 | none => exact .inl ⟨rfl, rfl⟩
 | some i =>
  obtain ⟨hi, _⟩ := RV hm
  obtain ⟨e, ck, cv, h1, h2, h3, h4, h5⟩ := he.2 i hi
  exact .inr ⟨i, e, _, cv, rfl, h1, by simp [je hi], h3, h5⟩
theorem BD {kk : IntKind} {t kt et : TypeId} {O : Nat → Prop} {τ : Ty} {xs : List (Int × T τ)} {es : Array MapEntry} {clk r : Nat} (ht : P.underlying t = some (.map kt et)) (hk : P.underlying kt = some (.int kk)) (hte : Nd P τ et = true)
 (hh : w.heap[r]? = some (.map es clk)) (he : UE w O (.i kk) τ xs es) (n : Int) (ok : Bool) :
 ∃ cv, La w O τ ((Bd xs n).getD (zT τ)) cv ∧ (Instr.lookup t (.map (some r)) (.int kk n) ok).run P w = .ok (if ok then .tuple #[Lk τ cv, .bool (Bd xs n).isSome] else Lk τ cv) w := by
 have hg : (getObj r).run P w = .ok (.map es clk) w := by simp [getObj, Sem.run, hh]
 have hf := Cq (P := P) hk he n w
 have hc := Ok (P := P) hk es.isEmpty n w
 rcases Q3 he n with ⟨h1, h2⟩ | ⟨i, e, y, cv, h1, h2, h3, h4, h5⟩
 ·refine ⟨τ.zc, ?_, ?_⟩
  ·rw [h1]
   exact (KY w τ).view (by simp)
  ·rw [h2] at hf
   rw [h1, GM]
   simp [Instr.lookup, run_underlying ht, hg, hc, hf, Tok.zero hte]
 ·refine ⟨cv, by rw [h3]; exact h5, ?_⟩
  rw [h1] at hf
  simp only [jb, h2, qb] at hf
  rw [h3]
  simp [Instr.lookup, run_underlying ht, hg, hc, hf, h4]
theorem IL {kk : IntKind} {t kt et : TypeId} {τ : Ty} (ht : P.underlying t = some (.map kt et)) (hk : P.underlying kt = some (.int kk)) (hte : Nd P τ et = true) (n : Int) (ok : Bool) :
 (Instr.lookup t (.map none) (.int kk n) ok).run P w = .ok (if ok then .tuple #[Lk τ τ.zc, .bool false] else Lk τ τ.zc) w := by
 have hc := Ok (P := P) hk true n w
 have hf : (Instr.findKey kt (.int kk n) []).run P w = .ok none w := by simp [Instr.findKey, run_underlying hk, Instr.findNow]
 rw [GM]
 simp [Instr.lookup, run_underlying ht, hc, hf, Tok.zero hte]
theorem ZQ {O O' : Nat → Prop} {kk v : Ty} {xs : List (T kk × T v)} {es : Array MapEntry} (hv : ∀ b, ¬ O b → b < w.heap.size → w'.heap[b]? = w.heap[b]?) (hO : ∀ b, b < w.heap.size → ¬ O b → ¬ O' b) (h : UE w O kk v xs es) : UE w' O' kk v xs es := by
 refine ⟨h.1, fun i hi => ?_⟩
 obtain ⟨e, ck, cv, h1, h2, h3, h4, h5⟩ := h.2 i hi
 exact ⟨e, ck, cv, h1, h2, h3, h4.stable hv hO, h5.stable hv hO⟩
theorem Maj {O : Nat → Prop} {kk : IntKind} {τ : Ty} {xs : List (Int × T τ)} {es : Array MapEntry} (he : UE w O (.i kk) τ xs es) (n : Int) {y : T τ} {cv : List Value} (hy : La w O τ y cv) (clk : Nat) :
 ∃ es' clk', UE w O (.i kk) τ (IM xs n y) es' ∧ ∀ (t kt et : TypeId) (r : Nat) (w1 : World), P.underlying t = some (.map kt et) → P.underlying kt = some (.int kk) → w1.heap[r]? = some (.map es clk) →
  (Instr.mapUpdate t (.map (some r)) (.int kk n) (Lk τ cv)).run P w1 = .ok () { w1 with heap := w1.heap.setIfInBounds r (.map es' clk') } := by
 cases hm : Cy xs n with
 | none =>
  refine ⟨es.push { key := .int kk n, val := Lk τ cv, born := clk }, clk + 1, ⟨?_, ?_⟩, ?_⟩
  ·rw [US y hm, Array.size_push, he.1]; simp
  ·rw [US y hm]
   intro i hi
   by_cases h : i < xs.length
   ·obtain ⟨e, ck, cv', h1, h2, h3, h4, h5⟩ := he.2 i h
    have hlt : i < es.size := by rw [he.1]; exact h
    refine ⟨e, ck, cv', ?_, h2, h3, ?_, ?_⟩
    ·rw [Array.getElem?_push_lt hlt]
     rw [Array.getElem?_eq_getElem hlt] at h1
     exact h1
    ·have : List.get (xs ++ [(n, y)]) ⟨i, hi⟩ = List.get xs ⟨i, h⟩ := List.getElem_append_left h
     rw [this]; exact h4
    ·have : List.get (xs ++ [(n, y)]) ⟨i, hi⟩ = List.get xs ⟨i, h⟩ := List.getElem_append_left h
     rw [this]; exact h5
   ·have hi2 : i = xs.length := by
     have : (xs ++ [(n, y)]).length = xs.length + 1 := by simp
     have hi' : i < (xs ++ [(n, y)]).length := hi
     omega
    subst hi2
    have : List.get (xs ++ [(n, y)]) ⟨xs.length, hi⟩ = (n, y) := by simp
    refine ⟨{ key := .int kk n, val := Lk τ cv, born := clk }, [.int kk n], cv, ?_, rfl, rfl, ?_, ?_⟩
    ·rw [show xs.length = es.size from he.1.symm]
     exact Array.getElem?_push_size
    ·rw [this]; rfl
    ·rw [this]; exact hy
  ·intro t kt et r w1 ht hk hh
   have hg : (getObj r).run P w1 = .ok (.map es clk) w1 := by simp [getObj, Sem.run, hh]
   have hf := Cq (P := P) hk he n w1
   have hc := Ok (P := P) hk false n w1
   rw [hm] at hf
   have hs := MapKept.run_setObj_map (P := P) (.map (es.push { key := .int kk n, val := Lk τ cv, born := clk }) (clk + 1)) hh
   simp [Instr.mapUpdate, run_underlying ht, hg, hc, hf, hs]
 | some i =>
  obtain ⟨hi, hik⟩ := RV hm
  obtain ⟨e0, ck0, cv0, g1, g2, g3, g4, g5⟩ := he.2 i hi
  have g4' : ck0 = [.int kk n] := by
   have : ck0 = [.int kk (List.get xs ⟨i, hi⟩).1] := g4
   rw [this, show (List.get xs ⟨i, hi⟩).1 = n from hik]
  have hlt : i < es.size := by rw [he.1]; exact hi
  refine ⟨es.modify i fun e => { e with key := .int kk n, val := Lk τ cv }, clk, ⟨?_, ?_⟩, ?_⟩
  ·rw [VS y hm, Array.size_modify, he.1]; simp
  ·rw [VS y hm]
   intro j hj
   have hj' : j < xs.length := by
    have : j < (xs.set i (n, y)).length := hj
    simpa using this
   have hjs : j < es.size := by rw [he.1]; exact hj'
   by_cases hji : i = j
   ·subst hji
    have : List.get (xs.set i (n, y)) ⟨i, hj⟩ = (n, y) := by simp
    refine ⟨{ es[i] with key := .int kk n, val := Lk τ cv }, [.int kk n], cv, ?_, rfl, rfl, ?_, ?_⟩
    ·rw [Array.getElem?_modify]; simp [Array.getElem?_eq_getElem hjs]
    ·rw [this]; rfl
    ·rw [this]; exact hy
   ·obtain ⟨e, ck, cv', h1, h2, h3, h4, h5⟩ := he.2 j hj'
    have : List.get (xs.set i (n, y)) ⟨j, hj⟩ = List.get xs ⟨j, hj'⟩ := by simp [hji]
    refine ⟨e, ck, cv', ?_, h2, h3, ?_, ?_⟩
    ·rw [Array.getElem?_modify, if_neg hji]; exact h1
    ·rw [this]; exact h4
    ·rw [this]; exact h5
  ·intro t kt et r w1 ht hk hh
   have hg : (getObj r).run P w1 = .ok (.map es clk) w1 := by simp [getObj, Sem.run, hh]
   have hf := Cq (P := P) hk he n w1
   have hc := Ok (P := P) hk false n w1
   rw [hm] at hf
   simp only [jb, g1, qb] at hf
   have hs := MapKept.run_setObj_map (P := P) (.map (es.modify i fun e => { e with key := .int kk n, val := Lk τ cv }) clk) hh
   have hkey : e0.key = .int kk n := by rw [g2, g4']; rfl
   have hst : (Instr.keyThatStays (.int kk n) (.int kk n)).run P w1 = .ok (.int kk n) w1 := by simp [Instr.keyThatStays, Instr.sameBits]
   simp [Instr.mapUpdate, run_underlying ht, hg, hc, hf, g1, hkey, hst, hs]
theorem Ax {O : Nat → Prop} {hp : Nat → Option Ia} {id : Nat} {v : Value} : Zc w O hp σ (.mpo id) v ↔ v.oneCell' = true ∧ ∀ Da, hp id = some Da → Da.isM = true → v = σ id := by
 simp only [Zc, Se, D.isAgg, Ab, jq, if_false]
 constructor
 ·rintro ⟨u, h, h1, h2⟩
  simp only [yh, and_true] at h
  subst h
  exact ⟨h1, h2⟩
 ·rintro ⟨h1, h2⟩
  exact ⟨v, rfl, h1, h2⟩
theorem Rad (h : Qa n0 A O0 w0 s σ φ a w) {t : TypeId} {r : Option Operand} (ho : o.op = .makeMap t r)
 (he : TL G s o (fun d u => Zg s o.dst d u k) = some out) : o.wp P a w (Ve n0 A O0 w0 k out) Q := by
 simp only [TL, ho] at he
 cases r with
 | some r => simp at he
 | none =>
 simp only at he
 split at he
 ·rename_i tt kk v hd hty
  cases hmv : Ly G.mv tt with
  | true =>
   simp only [hmv, ze] at he
   split at he
   ·rename_i k2 e2
    cases hn : s.newOk tt with
    | false => simp [hn] at he
    | true =>
     simp only [hn, ze] at he
     have hc := h.new1 (id := tt) (w' := w.alloc (.map #[] 0)) hn (.mq k2 e2 ([] : List (Int × List (T e2)))) (.map (some w.heap.size)) [w.heap.size] (by simp) (fun b hb => Og w _ b hb) rfl rfl rfl (by simp) (by simp)
      (by
       intro hp' σ' O' hσ _ _
       exact ⟨w.heap.size, #[], 0, hσ, heap_alloc_new w _, rfl, rfl⟩)
      (by
       intro kk e xs hx
       simp only [Ia.mq.injEq] at hx
       obtain ⟨rfl, rfl, hx⟩ := hx
       have hx' := eq_of_heq hx
       subst hx'
       exact ⟨w.heap.size, #[], 0, [], rfl, heap_alloc_new w _, rfl, rfl, List.nodup_nil, fun b hb => by simp at hb, fun i hi => by simp at hi⟩)
     refine Rb (w' := w.alloc (.map #[] 0)) (v := .map (some w.heap.size)) ?_ (Me rfl hc (Ax.2 ⟨rfl, fun _ _ _ => (Wd _ _ _).symm⟩) he)
     simp [execOp, ho, Instr.makeMap]
   ·simp at he
  | false =>
  simp only [hmv, zf] at he
  cases hn : s.newOk tt with
  | false => simp [hn] at he
  | true =>
   simp only [hn, ze] at he
   have hc := h.new1 (id := tt) (w' := w.alloc (.map #[] 0)) hn (.mp kk v ([] : List (T kk × T v))) (.map (some w.heap.size)) [w.heap.size] (by simp) (fun b hb => Og w _ b hb) rfl rfl rfl (by simp) (by simp)
    (by
     intro hp' σ' O' hσ _ _
     exact ⟨w.heap.size, #[], 0, hσ, heap_alloc_new w _, rfl, rfl, fun i hi => by simp at hi⟩)
   refine Rb (w' := w.alloc (.map #[] 0)) (v := .map (some w.heap.size)) ?_ (Me rfl hc (Ax.2 ⟨rfl, fun _ _ _ => (Wd _ _ _).symm⟩) he)
   simp [execOp, ho, Instr.makeMap]
 ·simp at he
theorem Uar {O : Nat → Prop} {hp : Nat → Option Ia} {d : D} {τ : Ty} {x : T τ} {v : Value} (ht : Bj d τ = some x) (h : Zc w O hp σ d v) : La w O τ x v.cells.toList ∧ v = Lk τ v.cells.toList := by
 obtain ⟨hs, hv⟩ := Wg (w := w) (O := O) (hp := hp) (σ := σ) ht
 obtain ⟨h1, h2⟩ := Ye hs h
 exact ⟨hv _ h1, by rw [GM]; exact h2⟩
theorem NZ (hG : EnvTy P G) (h : Qa n0 A O0 w0 s σ φ a w) {t : TypeId} {m x v : Operand} (ho : o.op = .mapUpdate t m x v ∨ o.op = .insert t m x v)
 (he : OW G s t m x v (fun d u => Zg s o.dst d u k) = some out) : o.wp P a w (Ve n0 A O0 w0 k out) Q := by
 unfold OW at he
 split at he
 ·rename_i kk τ id k2 n d hty hm hx hv
  split at he
  ·rename_i k3 τ3 xs y hid hy
   split at he
   ·rename_i hdec hq
    obtain rfl := hdec
    cases hkk : (kk == k2) && (kk == k3) with
    | false => simp [hkk] at he
    | true =>
     simp only [hkk, ze] at he
     simp only [jd, beq_iff_eq] at hkk
     obtain ⟨rfl, rfl⟩ := hkk
     obtain ⟨kt, et, hu, hk, hte⟩ := Tok.mp (hG.ty _ _ hty)
     obtain ⟨r, es, clk, hσ, hh, hF, hz, hen⟩ := h.hp id _ hid
     have hE : UE w (OO O0 s φ) (.i kk) τ xs es := ⟨hz, hen⟩
     obtain ⟨hyv, hvv⟩ := Uar hy (h.ev hv)
     obtain ⟨es', clk', hE', hrun⟩ := Maj (P := P) hE n hyv clk
     have hmv := (Ax.1 (h.ev hm)).2 _ hid rfl
     rw [hσ] at hmv
     have hxv := Ge.1 (h.ev hx)
     have hrlt : r < w.heap.size := (Array.getElem?_eq_some_iff.1 hh).1
     have hOr : OO O0 s φ r := .inr ⟨id, _, hid, by rw [hF]; simp⟩
     have hne : ∀ b, b ≠ r → (w.heap.setIfInBounds r (.map es' clk'))[b]? = w.heap[b]? := fun b hb => by
      rw [Array.getElem?_setIfInBounds, if_neg (fun e => hb e.symm)]
     have hc := h.turn (w' := { w with heap := w.heap.setIfInBounds r (.map es' clk') }) hid (Da := .mp (.i kk) τ (IM xs n y)) ⟨rfl, rfl⟩ [] (by simp) (by simp) (φ id) (by simp)
      (fun b _ hb _ => hne b (fun e => hb (by rw [hF, e]; simp))) rfl rfl rfl (h.nodup id _ hid) (fun b hb => .inr (.inl hb))
      (by
       intro hp' O' hO _
       refine ⟨r, es', clk', hσ, ?_, hF, ?_⟩
       ·show (w.heap.setIfInBounds r (.map es' clk'))[r]? = _
        rw [Array.getElem?_setIfInBounds]; simp [hrlt]
       ·exact ZQ (fun b hb hlt => hne b (fun e => hb (e ▸ hOr))) hO hE')
     refine LD (w' := { w with heap := w.heap.setIfInBounds r (.map es' clk') }) ?_ (Me (upd := [(id, some (.mp (.i kk) τ (IM xs n y)))]) rfl hc (Dx.2 rfl) he)
     have := hrun t kt et r w hu (Tok.i hk) hh
     rw [← hvv] at this
     rcases ho with ho | ho <;> simp [execOp, ho, hmv, hxv, this]
   ·simp at he
  ·simp at he
 ·simp at he
theorem H5 {O : Nat → Prop} {kk : IntKind} {e : Ty} {xs : List (Int × List (T e))} {es : Array MapEntry} {Gs : List (List Nat)} (hz : es.size = ja xs) (hO : ∀ b, b ∈ List.flatten Gs → ¬ O b)
 (hen : ∀ i (h : i < ja xs), ∃ en, es[i]? = some en ∧ en.key = .int kk (List.get xs ⟨i, h⟩).1 ∧ Tb w (.sl e) (List.get xs ⟨i, h⟩).2 [en.val] (Gs.getD i [])) : UE w O (.i kk) (.sl e) xs es := by
 refine ⟨hz, fun i hi => ?_⟩
 obtain ⟨en, h1, h2, h3⟩ := hen i hi
 exact ⟨en, [.int kk (List.get xs ⟨i, hi⟩).1], [en.val], h1, h2, rfl, rfl, h3.view fun b hb => hO b (Bf hb)⟩
theorem T6 {O : Nat → Prop} {kk : IntKind} {τ : Ty} {xs : List (Int × T τ)} {es : Array MapEntry} (he : UE w O (.i kk) τ xs es) {n : Int} (hm : Bd xs n = none) (v : Value) (clk : Nat) {t kt et : TypeId} {r : Nat} {w1 : World}
 (ht : P.underlying t = some (.map kt et)) (hk : P.underlying kt = some (.int kk)) (hh : w1.heap[r]? = some (.map es clk)) :
 (Instr.mapUpdate t (.map (some r)) (.int kk n) v).run P w1 = .ok () { w1 with heap := w1.heap.setIfInBounds r (.map (es.push { key := .int kk n, val := v, born := clk }) (clk + 1)) } := by
 have hm' : Cy xs n = none := by
  rcases Q3 he n with ⟨_, h2⟩ | ⟨_, _, _, _, _, _, h3, _⟩
  ·exact h2
  ·rw [hm] at h3; simp at h3
 have hg : (getObj r).run P w1 = .ok (.map es clk) w1 := by simp [getObj, Sem.run, hh]
 have hf := Cq (P := P) hk he n w1
 have hc := Ok (P := P) hk false n w1
 rw [hm'] at hf
 have hs := MapKept.run_setObj_map (P := P) (.map (es.push { key := .int kk n, val := v, born := clk }) (clk + 1)) hh
 simp [Instr.mapUpdate, run_underlying ht, hg, hc, hf, hs]
theorem UV (hG : EnvTy P G) (hfz : QJ G A O0) (h : Qa n0 A O0 w0 s σ φ a w) {t : TypeId} {m x v : Operand} (ho : o.op = .mapUpdate t m x v ∨ o.op = .insert t m x v)
 (he : WR G s t m x v (fun d u => Zg s o.dst d u k) = some out) : o.wp P a w (Ve n0 A O0 w0 k out) Q := by
 unfold WR at he
 split at he
 ·rename_i kk e id k2 n d hty hm hx hv
  split at he
  ·rename_i k3 e3 xs y l hid hy
   split at he
   ·rename_i hdec hq
    obtain rfl := hdec
    cases hkk : (kk == k2) && ((kk == k3) && (Nf (id :: l) && (G.fz && (!AC G.att && !cmB G.att)))) with
    | false => simp [hkk] at he
    | true =>
     simp only [hkk, ze] at he
     simp only [jd, beq_iff_eq] at hkk
     obtain ⟨rfl, rfl, hnd, hfz1, hfz2, hfz3⟩ := hkk
     have hnl := Gh hnd
     have hnoA : ∀ b, ¬ A.A b := by
      rcases hfz hfz1 with h1 | ⟨h1, _⟩ | ⟨h1, _⟩
      ·exact h1
      ·rw [h1] at hfz3; simp at hfz3
      ·rw [h1] at hfz2; simp at hfz2
     cases hnone : (Bd xs n).isNone with
     | false => rw [hnone] at he; simp at he
     | true =>
      rw [hnone] at he
      simp only [ze] at he
      have hmg : Bd xs n = none := by simpa using hnone
      obtain ⟨kt, et, hu, hk, hte⟩ := Tok.mp (hG.ty _ _ hty)
      obtain ⟨r, es, clk, Gs, hσ, hh, hz, hGl, hGn, hGo, hen⟩ := h.shr id _ _ _ hid
      obtain ⟨r', es', clk', hσ', _, hF, _⟩ := h.hp id _ hid
      have hrr : r' = r := by rw [hσ] at hσ'; simpa using hσ'.symm
      subst hrr
      have hE : UE w (OO O0 s φ) (.i kk) (.sl e) xs es := H5 hz (fun b hb => (hGo b hb).2) hen
      obtain ⟨hrc, hvv⟩ := Ye (Kj hy) (h.ev hv)
      obtain ⟨hown, hlive⟩ := Jn h hy hrc
      have hlen := Tb.length hown
      simp only [Ty.size] at hlen
      obtain ⟨v1, hv1⟩ := q9.1 hlen
      have hval : a.eval v = v1 := by rw [hvv, hv1]; rfl
      rw [hv1] at hown
      have hmv := (Ax.1 (h.ev hm)).2 _ hid rfl
      rw [hσ] at hmv
      have hxv := Ge.1 (h.ev hx)
      have hrlt : r' < w.heap.size := (Array.getElem?_eq_some_iff.1 hh).1
      have hOr : OO O0 s φ r' := .inr ⟨id, _, hid, by rw [hF]; simp⟩
      have hne : ∀ b, b ≠ r' → (w.heap.setIfInBounds r' (.map (es.push { key := .int kk n, val := v1, born := clk }) (clk + 1)))[b]? = w.heap[b]? := fun b hb => by
       rw [Array.getElem?_setIfInBounds, if_neg (fun e => hb e.symm)]
      have hidl : id ∉ l := (yk.1 hnl).1
      have hblO : ∀ b, b ∈ Ea φ l → OO O0 s φ b := fun b hb => by
       obtain ⟨j, hj, hm⟩ := Cb.1 hb
       obtain ⟨Da, hbl⟩ := hlive j hj
       exact .inr ⟨j, Da, hbl, hm⟩
      have hbr : ∀ b, b ∈ Ea φ l → b ≠ r' := fun b hb e => by
       obtain ⟨j, hj, hm⟩ := Cb.1 hb
       obtain ⟨Da, hbl⟩ := hlive j hj
       exact h.disj id j _ Da (fun e => hidl (e ▸ hj)) hid hbl r' (by rw [hF]; simp) (e ▸ hm)
      have hGr : ∀ b, b ∈ List.flatten Gs → b ≠ r' := fun b hb e => (hGo b hb).2 (e ▸ hOr)
      have hzz : (ja xs + 1) = ja (jf xs [(n, y)]) := by simp
      have hsz : (es.push { key := .int kk n, val := v1, born := clk }).size = ja (jf xs [(n, y)]) := by rw [Array.size_push, hz, hzz]
      have hset : (w.heap.setIfInBounds r' (.map (es.push { key := .int kk n, val := v1, born := clk }) (clk + 1)))[r']? = some (.map (es.push { key := .int kk n, val := v1, born := clk }) (clk + 1)) := by
       rw [Array.getElem?_setIfInBounds]; simp [hrlt]
      have hc := h.turn (w' := { w with heap := w.heap.setIfInBounds r' (.map (es.push { key := .int kk n, val := v1, born := clk }) (clk + 1)) }) hid (Da := .mq kk e (jf xs [(n, y)])) ⟨rfl, rfl⟩ l hlive hidl (φ id) (by simp)
       (fun b _ hb _ => hne b (fun e => hb (by rw [hF, e]; simp))) rfl rfl rfl (h.nodup id _ hid) (fun b hb => .inr (.inl hb))
       (by
        intro hp' O' hO _
        exact ⟨r', _, _, hσ, hset, hF, hsz⟩)
       (by
        intro kk' e' xs' hx'
        simp only [Ia.mq.injEq] at hx'
        obtain ⟨rfl, rfl, hx'⟩ := hx'
        have hx2 := eq_of_heq hx'
        subst hx2
        refine ⟨r', _, _, Gs ++ [Ea φ l], hσ, hset, hsz, ?_, ?_, ?_, ?_⟩
        ·rw [qd, hGl, List.length_singleton, hzz]
        ·rw [List.flatten_append, yl]
         refine ⟨hGn, ?_, fun a ha b hb e => ?_⟩
         ·simpa using Rf h (yk.1 hnl).2 hlive
         ·subst e
          exact (hGo a ha).2 (hblO a (by simpa using hb))
        ·intro b hb
         rw [List.flatten_append] at hb
         have hOmono : ∀ b, OO O0 ⟨s.n, s.tm, (id, some (.mq kk e (jf xs [(n, y)]))) :: (Kc l ++ s.hp)⟩ (Xg φ id (φ id)) b → O0 b ∨ ∃ j Da, j ∉ l ∧ s.heap j = some Da ∧ b ∈ φ j := by
          rintro b (ho | ⟨j, Da, hl', hm⟩)
          ·exact .inl ho
          ·rw [Ld] at hl'
           by_cases hj : j = id
           ·subst hj
            rw [Wd] at hm
            exact .inr ⟨j, _, hidl, hid, hm⟩
           ·rw [if_neg hj] at hl'
            split at hl'
            ·simp at hl'
            ·rename_i hjl
             rw [Qj _ _ hj] at hm
             exact .inr ⟨j, Da, hjl, hl', hm⟩
         rcases jl.1 hb with hb | hb
         ·refine ⟨(hGo b hb).1, fun hO => (hGo b hb).2 ?_⟩
          rcases hOmono b hO with ho | ⟨j, Da, _, h1, h2⟩
          ·exact .inl ho
          ·exact .inr ⟨j, Da, h1, h2⟩
         ·have hb' : b ∈ Ea φ l := by simpa using hb
          obtain ⟨j, hj, hm⟩ := Cb.1 hb'
          obtain ⟨Da, hbl⟩ := hlive j hj
          have hge : n0 ≤ b := (h.fresh j Da hbl b hm).resolve_right (hnoA b)
          refine ⟨hge, fun hO => ?_⟩
          rcases hOmono b hO with ho | ⟨j', blk', hjl, h1, h2⟩
          ·have := h.o0 b ho; omega
          ·exact h.disj j j' Da blk' (fun e => hjl (e ▸ hj)) hbl h1 b hm h2
        ·intro i hi
         have hi' : i < ja xs + 1 := by rw [hzz]; exact hi
         by_cases hix : i < ja xs
         ·obtain ⟨en, g1, g2, g3⟩ := hen i hix
          have hlt : i < es.size := by rw [hz]; exact hix
          have hgx : List.get (jf xs [(n, y)]) ⟨i, hi⟩ = List.get xs ⟨i, hix⟩ := List.getElem_append_left hix
          have hgG : (Gs ++ [Ea φ l]).getD i [] = Gs.getD i [] := by
           rw [qf, qf, List.getElem?_append_left (by omega)]
          refine ⟨en, ?_, by rw [hgx]; exact g2, ?_⟩
          ·rw [Array.getElem?_push_lt hlt]
           rw [Array.getElem?_eq_getElem hlt] at g1
           exact g1
          ·rw [hgx, hgG]
           exact g3.stable fun b hb => hne b (hGr b (Bf hb))
         ·have hie : i = ja xs := by omega
          subst hie
          have hgx : List.get (jf xs [(n, y)]) ⟨ja xs, hi⟩ = (n, y) := by simp
          have hgG : (Gs ++ [Ea φ l]).getD (ja xs) [] = Ea φ l := by
           rw [qf, ← hGl, List.getElem?_append_right (jo _), Nat.sub_self]; rfl
          refine ⟨{ key := .int kk n, val := v1, born := clk }, ?_, by rw [hgx], ?_⟩
          ·rw [← hz]; exact Array.getElem?_push_size
          ·rw [hgx, hgG]
           exact hown.stable fun b hb => hne b (hbr b hb))
      refine LD (w' := { w with heap := w.heap.setIfInBounds r' (.map (es.push { key := .int kk n, val := v1, born := clk }) (clk + 1)) }) ?_ (Me (upd := (id, some (.mq kk e (jf xs [(n, y)]))) :: Kc l) rfl hc (Dx.2 rfl) he)
      have := T6 (P := P) hE hmg v1 clk hu (Tok.i hk) hh
      rcases ho with ho | ho <;> simp [execOp, ho, hmv, hxv, hval, this]
   ·simp at he
  ·simp at he
 ·simp at he
theorem EM (h : Qa n0 A O0 w0 s σ φ a w) {τ : Ty} {xs : List (Int × T τ)} {n : Int} {ok : Bool} {cv : List Value} (hv : La w (OO O0 s φ) τ ((Bd xs n).getD (zT τ)) cv)
 (hrun : (execOp a.eval o).run P w = .ok (.value (if ok then .tuple #[Lk τ cv, .bool (Bd xs n).isSome] else Lk τ cv)) w)
 (he : MK xs n ok (fun d u => Zg s o.dst d u k) = some out) : o.wp P a w (Ve n0 A O0 w0 k out) Q := by
 have h1 : Se w (OO O0 s φ) s.heap σ (.t τ ((Bd xs n).getD (zT τ))) (Lk τ cv) := by
  rw [GM]
  exact P5 (d := .t τ ((Bd xs n).getD (zT τ))) (by simp [Bb]) hv
 unfold MK at he
 cases ok with
 | true =>
  simp only [ze] at he
  refine Rb hrun (Cc h ?_ he)
  simp only [if_true]
  refine ⟨#[Lk τ cv, .bool (Bd xs n).isSome], rfl, h1, ?_, trivial⟩
  simp [Se, D.isAgg, Ab, La]
 | false =>
  simp only [zf] at he
  refine Rb hrun (Cc h ?_ he)
  exact Bx h1
theorem Sad {kk : IntKind} {t kt et : TypeId} {e : Ty} {xs : List (Int × List (T e))} {v : Value} {F : List Nat} (ht : P.underlying t = some (.map kt et)) (hk : P.underlying kt = some (.int kk)) (hte : Nd P (.sl e) et = true)
 (ho : Tb w (.mp (.i kk) (.sl e)) xs [v] F) (n : Int) :
 ∃ v1 G, (Instr.lookup t v (.int kk n) true).run P w = .ok (.tuple #[v1, .bool (Bd xs n).isSome]) w ∧ Tb w (.sl e) ((Bd xs n).getD []) [v1] G ∧ G.Sublist F ∧ v1.oneCell' = true := by
 obtain ⟨hc, hx, hF⟩ | ⟨r, es, clk, Fs, hc, hh, hz, hF, hl, hen⟩ := ho
 ·have hx' : xs = [] := hx
  subst hx'
  simp only [yh, and_true] at hc
  subst hc
  refine ⟨.slice none 0 0, [], ?_, ?_, List.nil_sublist _, rfl⟩
  ·have := IL (P := P) (w := w) ht hk hte n true
   simpa [Lk, Ty.zc, Bd] using this
  ·exact ⟨by simp [Bd], .inl ⟨rfl, rfl, rfl⟩⟩
 ·simp only [yh, and_true] at hc
  subst hc
  have hE : UE w (fun _ => False) (.i kk) (.sl e) xs es := ⟨hz, fun i hi => by
   obtain ⟨en, ck, cv, g1, g2, g3, g4, g5⟩ := hen i hi
   exact ⟨en, ck, cv, g1, g2, g3, g4.view (fun _ _ h => h), g5.view (fun _ _ h => h)⟩⟩
  have hg : (getObj r).run P w = .ok (.map es clk) w := by simp [getObj, Sem.run, hh]
  have hf := Cq (P := P) hk hE n w
  have hck := Ok (P := P) hk es.isEmpty n w
  rw [MX]
  cases hm : Cy xs n with
  | none =>
   rw [hm] at hf
   refine ⟨.slice none 0 0, [], ?_, ⟨by simp, .inl ⟨rfl, rfl, rfl⟩⟩, List.nil_sublist _, rfl⟩
   have hzt := Tok.zero (P := P) hte
   simp [Instr.lookup, run_underlying ht, hg, hck, hf, hzt, Ty.zc, Od, Ty.isAgg]
  | some i =>
   obtain ⟨hi, _⟩ := RV hm
   obtain ⟨en, ck, cv, g1, g2, g3, g4, g5⟩ := hen i hi
   have hlen := Tb.length g5
   simp only [Ty.size] at hlen
   obtain ⟨v1, rfl⟩ := q9.1 hlen
   have hval : en.val = v1 := by rw [g3]; rfl
   rw [hm] at hf
   simp only [jb, g1, qb] at hf
   refine ⟨v1, Fs.getD i [], ?_, ?_, ?_, g5.one v1 (by simp)⟩
   ·simp [Instr.lookup, run_underlying ht, hg, hck, hf, hval, je hi]
   ·have : (((some i : Option Nat).bind fun i => (xs[i]?).map (·.2)).getD ([] : List (T e))) = (List.get xs ⟨i, hi⟩).2 := by
     simp [je hi]
    rw [this]
    exact g5
   ·rw [hF]
    refine List.Sublist.cons _ ?_
    have : Fs.getD i [] ∈ Fs := by
     rw [qf, je (by rw [hl]; exact hi)]
     exact qi _
    exact List.sublist_flatten_of_mem this
theorem Iah (hG : EnvTy P G) (h : Qa n0 A O0 w0 s σ φ a w) {t : TypeId} {m x : Operand} {ok : Bool} (ho : o.op = .lookup t m x ok)
 (he : TL G s o (fun d u => Zg s o.dst d u k) = some out) : o.wp P a w (Ve n0 A O0 w0 k out) Q := by
 simp only [TL, ho] at he
 split at he
 ·rename_i kk τ id k2 n hty hm hx
  split at he
  ·rename_i k3 τ3 xs hid
   split at he
   ·rename_i hdec
    obtain rfl := Ud hdec
    cases hkk : (kk == k2) && (kk == k3) with
    | false => simp [hkk] at he
    | true =>
     simp only [hkk, ze] at he
     simp only [jd, beq_iff_eq] at hkk
     obtain ⟨rfl, rfl⟩ := hkk
     obtain ⟨kt, et, hu, hk, hte⟩ := Tok.mp (hG.ty _ _ hty)
     obtain ⟨r, es, clk, hσ, hh, hF, hz, hen⟩ := h.hp id _ hid
     have hmv := (Ax.1 (h.ev hm)).2 _ hid rfl
     rw [hσ] at hmv
     have hxv := Ge.1 (h.ev hx)
     obtain ⟨cv, g1, g2⟩ := BD (P := P) hu (Tok.i hk) hte hh (O := OO O0 s φ) (xs := xs) ⟨hz, hen⟩ n ok
     refine EM h g1 ?_ he
     simp [execOp, ho, hmv, hxv, g2]
   ·simp at he
  ·rename_i k3 e xs hid
   split at he
   ·rename_i hdec
    obtain rfl := Ud hdec
    cases hkk : (kk == k2) && (kk == k3) with
    | false => simp [hkk] at he
    | true =>
     simp only [hkk, ze] at he
     simp only [jd, beq_iff_eq] at hkk
     obtain ⟨rfl, rfl⟩ := hkk
     obtain ⟨kt, et, hu, hk, hte⟩ := Tok.mp (hG.ty _ _ hty)
     obtain ⟨r, es, clk, Gs, hσ, hh, hz, hGl, hGn, hGo, hen⟩ := h.shr id _ _ _ hid
     have hmv := (Ax.1 (h.ev hm)).2 _ hid rfl
     rw [hσ] at hmv
     have hxv := Ge.1 (h.ev hx)
     obtain ⟨cv, g1, g2⟩ := BD (P := P) hu (Tok.i hk) hte hh (O := OO O0 s φ) (τ := .sl e) (xs := xs) (H5 hz (fun b hb => (hGo b hb).2) hen) n ok
     refine EM h g1 ?_ he
     simp [execOp, ho, hmv, hxv, g2]
   ·simp at he
  ·rename_i k3 e xs hid
   split at he
   ·rename_i hdec
    obtain rfl := Ud hdec
    cases hkk : (kk == k2) && ((kk == k3) && (ok && PH G o.dst)) && s.newOk (100000 + 64 * o.dst.getD 0) with
    | false => simp [hkk] at he
    | true =>
     simp only [hkk, ze] at he
     simp only [jd, beq_iff_eq] at hkk
     obtain ⟨⟨rfl, rfl, rfl, _⟩, hnew⟩ := hkk
     generalize 100000 + 64 * o.dst.getD 0 = j at he hnew
     obtain ⟨kt, et, hu, hk, hte⟩ := Tok.mp (hG.ty _ _ hty)
     have hown : Tb w (.mp (.i kk) (.sl e)) xs [σ id] (φ id) := h.hp id _ hid
     have hnd := h.nodup id _ hid
     have hmv := (Ax.1 (h.ev hm)).2 _ hid rfl
     have hxv := Ge.1 (h.ev hx)
     obtain ⟨v1, F, h1, h2, h3, h4⟩ := Sad (P := P) hu (Tok.i hk) hte hown n
     have hFn : F.Nodup := h3.nodup hnd
     have hc := h.absorb (w' := w) hnew [id] (by intro j' hj'; simp only [qc] at hj'; subst hj'; exact ⟨_, hid⟩) (.row e true ((Bd xs n).getD [])) v1 F (jo _) (fun _ _ _ => rfl) rfl rfl rfl hFn
      (fun b hb => .inr ⟨id, by simp, h3.subset hb⟩)
      (by
       intro hp' σ' O' hσ' _
       simp only [Nc]
       rw [hσ']
       exact h2)
     refine Rb (w' := w) (v := .tuple #[v1, .bool (Bd xs n).isSome]) ?_ (Me (upd := [(j, some (.row e true ((Bd xs n).getD []))), (id, none)]) rfl hc ?_ he)
     ·simp [execOp, ho, hmv, hxv, h1]
     ·refine ⟨_, rfl, ?_, ?_, trivial⟩
      ·exact ⟨v1, rfl, h4, fun Da r hb hr => by
        rw [Wd]⟩
      ·simp [Se, D.isAgg, Ab, La]
   ·simp at he
  ·simp at he
 ·rename_i kk τ k3 τ3 xs k2 n hty hm hx
  split at he
  ·rename_i hdec
   obtain rfl := Ud hdec
   cases hkk : (kk == k2) && (kk == k3) with
   | false => simp [hkk] at he
   | true =>
    simp only [hkk, ze] at he
    simp only [jd, beq_iff_eq] at hkk
    obtain ⟨rfl, rfl⟩ := hkk
    obtain ⟨kt, et, hu, hk, hte⟩ := Tok.mp (hG.ty _ _ hty)
    have hxv := Ge.1 (h.ev hx)
    have hmv : La w (OO O0 s φ) (.mp (.i kk) τ) xs [a.eval m] := by
     have := h.ev hm
     simpa [Zc, Se, D.isAgg, Ab] using this
    obtain ⟨hc, hxs⟩ | ⟨r, es, clk, hc, hO, hh, hz, hen⟩ := hmv
    ·simp only [yh, and_true] at hc
     have hxs' : xs = ([] : List (Int × T τ)) := hxs
     refine EM h (cv := τ.zc) ?_ ?_ he
     ·rw [hxs']; exact (KY w τ).view (by simp)
     ·rw [hxs']
      simp [execOp, ho, hc, hxv, IL (P := P) (w := w) hu (Tok.i hk) hte n ok, Bd]
    ·simp only [yh, and_true] at hc
     obtain ⟨cv, g1, g2⟩ := BD (P := P) hu (Tok.i hk) hte hh (O := OO O0 s φ) (xs := xs) ⟨hz, hen⟩ n ok
     refine EM h g1 ?_ he
     simp [execOp, ho, hc, hxv, g2]
  ·simp at he
 ·simp at he
theorem Oao (hG : Cj P A.I G) (hfz : QJ G A O0) (h : Qa n0 A O0 w0 s σ φ a w) (he : QW G s o k = some out) : o.wp P a w (Ve n0 A O0 w0 k out) Q := by
 have hT := hG.toEnvTy
 unfold QW at he
 cases hb : O4 o.op with
 | false => rw [hb] at he; exact Yae hG hfz h he
 | true =>
  rw [hb] at he
  simp only [ze] at he
  cases ho : o.op with
  | makeMap t r => exact Rad h ho he
  | lookup t m x ok => exact Iah hT h ho he
  | mapUpdate t m x v =>
   simp only [TL, ho] at he
   cases hq : s.isMq m with
   | true => rw [hq] at he; exact UV hT hfz h (.inl ho) he
   | false => rw [hq] at he; exact NZ hT h (.inl ho) he
  | insert t m x v =>
   simp only [TL, ho] at he
   cases hq : s.isMq m with
   | true => rw [hq] at he; exact UV hT hfz h (.inr ho) he
   | false => rw [hq] at he; exact NZ hT h (.inr ho) he
  | _ => simp [O4, ho] at hb
end
def Mk (dst : Option Tmp) (id : Nat) : Prop := dst = some id ∨ (100000 + 64 * dst.getD 0 ≤ id ∧ id < 100064 + 64 * dst.getD 0)
def Ia.kind : Ia → Option Ty × Option (Ty × Nat)
 | .box ρ _ => (some ρ, none)
 | .row e _ xs => (none, some (e, ja xs))
 | .hol e xs _ _ _ _ _ => (none, some (e, ja xs))
 | .mov e xs _ => (none, some (e, ja xs))
 | .mp _ _ _ => (none, none)
 | .mq _ _ _ => (none, none)
 | .mx _ _ _ => (none, none)
 | .fz e xs => (none, some (e, ja xs))
theorem Ia.kind_rowN {b : Ia} : b.rowN = b.kind.2 := by cases b <;> rfl
theorem kind_rowN {a b : Option Ia} (h : a.map Ia.kind = b.map Ia.kind) : a.bind Ia.rowN = b.bind Ia.rowN := by
 cases a <;> cases b <;> simp at h ⊢
 rw [Ia.kind_rowN, Ia.kind_rowN, h]
theorem R4 {a b : Option Ia} (h : a.map Ia.kind = b.map Ia.kind) : ∀ ρ, (∃ d, a = some (.box ρ d)) ↔ ∃ d, b = some (.box ρ d) := by
 intro ρ
 cases a with
 | none => cases b with
  | none => simp
  | some b => simp at h
 | some a => cases b with
  | none => simp at h
  | some b =>
   simp only [qb, jc] at h
   cases a <;> cases b <;> simp [Ia.kind] at h ⊢
   rw [h]
structure A7 (s s' : AS) (o : Oper) : Prop where
 ev : ∀ x, x ∈ Ed o.op → s'.ev x = s.ev x
 hp : QA o.op = false → Eh o.op = false → ∀ x, x ∈ Ed o.op → ∀ d, s.ev x = some d → ∀ id, d.ment id = true → s'.heap id = s.heap id
 sh : Eh o.op = true → ∀ x, x ∈ Ed o.op → ∀ d, s.ev x = some d → ∀ id, d.ment id = true → (s'.heap id).map Ia.kind = (s.heap id).map Ia.kind
 nw : ∀ id, Mk o.dst id → s'.newOk id = s.newOk id
 bx : UC o.op = true → Eh o.op = false → ∀ x, x ∈ Ed o.op → ∀ bid p, s.ev x = some (.ptr bid p) → ∀ ρ d, s.heap bid = some (.box ρ d) → ∀ id, d.ment id = true → s'.heap id = s.heap id
def Fl (s s' : AS) (d : D) : Prop := ∀ id, d.ment id = true → s'.heap id = s.heap id
section
variable {s s' : AS} {G : Ue} {o : Oper} {Out : Type}
theorem Fl.left {a b : D} (h : Fl s s' (.pr a b)) : Fl s s' a := fun id hi => h id (by simp [D.ment, hi])
theorem Fl.right {a b : D} (h : Fl s s' (.pr a b)) : Fl s s' b := fun id hi => h id (by simp [D.ment, hi])
theorem Fl.mpo {id : Nat} (h : Fl s s' (.mpo id)) : s'.heap id = s.heap id := h id (by simp [D.ment])
theorem Fl.own {id : Nat} (h : Fl s s' (.own id)) : s'.heap id = s.heap id := h id (by simp [D.ment])
theorem Fl.cut {id lo hi : Nat} (h : Fl s s' (.cut id lo hi)) : s'.heap id = s.heap id := h id (by simp [D.ment])
theorem Fl.ptr {id : Nat} {p : List Nat} (h : Fl s s' (.ptr id p)) : s'.heap id = s.heap id := h id (by simp [D.ment])
theorem Fl.eptr {id i : Nat} {p : List Nat} (h : Fl s s' (.eptr id i p)) : s'.heap id = s.heap id := h id (by simp [D.ment])
theorem Gz : ∀ {d : D} {τ : Ty}, Fl s s' d → Va s' d τ = Va s d τ := by
 intro d
 induction d with
 | pr a b iha ihb =>
  intro τ h
  cases τ with
  | p x y => simp only [Va, iha h.left, ihb h.right]
  | _ => rfl
 | own id => intro τ h; cases τ <;> simp [Va, h.own]
 | cut id lo hi => intro τ h; cases τ <;> simp [Va, h.cut]
 | _ => intro τ h; cases τ <;> rfl
theorem Vx : ∀ {d : D} {τ : Ty}, Fl s s' d → Pb s' d τ = Pb s d τ := by
 intro d
 induction d with
 | pr a b iha ihb =>
  intro τ h
  cases τ with
  | p x y => simp only [Pb, iha h.left, ihb h.right]
  | _ => rfl
 | own id => intro τ h; cases τ <;> simp [Pb, h.own]
 | mpo id => intro τ h; cases τ <;> simp [Pb, h.mpo]
 | _ => intro τ h; cases τ <;> rfl
theorem MA : ∀ {l : List Operand}, (∀ x, x ∈ l → s'.ev x = s.ev x) → At s' l = At s l
 | [], _ => rfl
 | x :: r, h => by simp only [At, h x (by simp), MA fun y hy => h y (jr _ hy)]
theorem FH : ∀ {l : List Operand} {d : D}, At s l = some d → (∀ x, x ∈ l → ∀ d, s.ev x = some d → Fl s s' d) → Fl s s' d
 | [], d, h, _ => by
  simp only [At, jc] at h
  subst h
  intro id hi; simp [D.ment] at hi
 | x :: r, d, h, ha => by
  simp only [At] at h
  split at h
  ·rename_i d1 d2 h1 h2
   simp only [jc] at h
   subst h
   intro id hi
   simp only [D.ment, qx] at hi
   rcases hi with hi | hi
   ·exact ha x (by simp) d1 h1 id hi
   ·exact FH h2 (fun y hy => ha y (jr _ hy)) id hi
  ·simp at h
theorem BR {τ : Ty} : ∀ {ps : List (Nat × Operand)} {d : D}, (∀ x, x ∈ ps.map (·.2) → s'.ev x = s.ev x) → QI s' τ d ps = QI s τ d ps
 | [], _, _ => rfl
 | (i, x) :: r, d, h => by
  simp only [QI, h x (by simp)]
  split
  ·rename_i e τ' _ _
   cases Uc τ' e with
   | false => rfl
   | true =>
    simp only [ze]
    split
    ·exact BR fun y hy => h y (jr _ hy)
    ·rfl
  ·rfl
theorem MV {e : Ty} : ∀ {ps : List (Nat × Operand)} {n : Nat}, (∀ x, x ∈ ps.map (·.2) → s'.ev x = s.ev x) → (∀ x, x ∈ ps.map (·.2) → ∀ d, s.ev x = some d → Fl s s' d) → QO s' e n ps = QO s e n ps
 | [], _, _, _ => rfl
 | (i, x) :: r, n, h, ha => by
  have ih := MV (e := e) (ps := r) (n := n + 1) (fun y hy => h y (jr _ hy)) (fun y hy => ha y (jr _ hy))
  simp only [QO, h x (by simp)]
  cases qw i n with
  | false => rfl
  | true =>
   simp only [ze]
   cases hx : s.ev x with
   | none => rfl
   | some d => simp only [Vx (ha x (by simp) d hx), ih]
theorem FR {e : Ty} : ∀ {ps : List (Nat × Operand)} {n : Nat}, (∀ x, x ∈ ps.map (·.2) → s'.ev x = s.ev x) → BJ s' e n ps = BJ s e n ps
 | [], _, _ => rfl
 | (i, x) :: r, n, h => by
  have ih := FR (e := e) (ps := r) (n := n + 1) (fun y hy => h y (jr _ hy))
  simp only [BJ, h x (by simp), ih]
theorem Bah {x : Option Operand} (h : ∀ y, x = some y → s'.ev y = s.ev y) : CL s' x = CL s x := by
 cases x with
 | none => rfl
 | some y => simp only [CL, h y rfl]
theorem Xaf {x : Option Operand} {n : Nat} (h : ∀ y, x = some y → s'.ev y = s.ev y) : DO s' n x = DO s n x := by
 cases x with
 | none => rfl
 | some y => simp only [DO, h y rfl]
theorem AN {e : Ty} {d : D} (h : Fl s s' d) : EI s' e d = EI s e d := by
 cases d with
 | own id => simp only [EI, h.own]
 | cut id lo hi => simp only [EI, h.cut]
 | t τ x => cases τ <;> rfl
 | _ => rfl
theorem Pac {e : Ty} {d : D} (h : Fl s s' d) : GS s' e d = GS s e d := by
 cases d with
 | own id => simp only [GS, h.own]
 | cut id lo hi => simp only [GS, h.cut]
 | _ => rfl
theorem RC {u : List (Nat × Option Ia)} (h : ∀ p, p ∈ u → s'.newOk p.1 = s.newOk p.1) : Yd s' u = Yd s u := by
 unfold Yd
 congr 1
 induction u with
 | nil => rfl
 | cons p u ih => simp only [List.all_cons, h p (by simp), ih fun q hq => h q (jr _ hq)]
theorem ME : ∀ {τ : Ty} {x : T τ} {n m : Nat} {d : D} {l : List (Nat × Option Ia)}, Ie τ x n = (d, l, m) → n ≤ m ∧ ∀ p, p ∈ l → n ≤ p.1 ∧ p.1 < m
 | .i k, x, n, m, d, l, he => by simp only [Ie, jh] at he; obtain ⟨rfl, rfl, rfl⟩ := he; simp
 | .b, x, n, m, d, l, he => by simp only [Ie, jh] at he; obtain ⟨rfl, rfl, rfl⟩ := he; simp
 | .o, x, n, m, d, l, he => by simp only [Ie, jh] at he; obtain ⟨rfl, rfl, rfl⟩ := he; simp
 | .mp _ _, x, n, m, d, l, he => by simp only [Ie, jh] at he; obtain ⟨rfl, rfl, rfl⟩ := he; simp
 | .s, x, n, m, d, l, he => by simp only [Ie, jh] at he; obtain ⟨rfl, rfl, rfl⟩ := he; simp
 | .u, x, n, m, d, l, he => by simp only [Ie, jh] at he; obtain ⟨rfl, rfl, rfl⟩ := he; simp
 | .sl e, x, n, m, d, l, he => by simp only [Ie, jh] at he; obtain ⟨rfl, rfl, rfl⟩ := he; simp
 | .p t1 t2, x, n, m, d, l, he => by
  simp only [Ie] at he
  rcases ho1 : Ie t1 x.1 n with ⟨d1, l1, m1⟩
  rcases ho2 : Ie t2 x.2 m1 with ⟨d2, l2, m2⟩
  rw [ho1] at he
  simp only at he
  rw [ho2] at he
  simp only [jh] at he
  obtain ⟨rfl, rfl, rfl⟩ := he
  have a := ME ho1
  have b := ME ho2
  refine ⟨by omega, fun p hp => ?_⟩
  rcases jl.1 hp with hp | hp
  ·have := a.2 p hp; omega
  ·have := b.2 p hp; omega
theorem ZO : ∀ {rt : Ty} {r : T rt} {fr : List Bool} {n m : Nat} {d : D} {l : List (Nat × Option Ia)}, Xf rt r fr n = some (d, l, m) → n ≤ m ∧ ∀ p, p ∈ l → n ≤ p.1 ∧ p.1 < m
 | .u, r, [], n, m, d, l, he => by simp only [Xf, jc, jh] at he; obtain ⟨rfl, rfl, rfl⟩ := he; simp
 | .p t1 t2, r, f :: fr, n, m, d, l, he => by
  simp only [Xf] at he
  rcases ho1 : (bif f then Ie t1 r.1 n else (.t t1 r.1, [], n)) with ⟨d1, l1, m1⟩
  rw [ho1] at he
  simp only at he
  split at he
  ·rename_i d2 l2 m2 ho2
   simp only [jc, jh] at he
   obtain ⟨rfl, rfl, rfl⟩ := he
   have b := ZO ho2
   have a : n ≤ m1 ∧ ∀ p, p ∈ l1 → n ≤ p.1 ∧ p.1 < m1 := by
    cases f with
    | true => exact ME (by simpa using ho1)
    | false =>
     simp only [zf, jh] at ho1
     obtain ⟨rfl, rfl, rfl⟩ := ho1
     simp
   refine ⟨by omega, fun p hp => ?_⟩
   rcases jl.1 hp with hp | hp
   ·have := a.2 p hp; omega
   ·have := b.2 p hp; omega
  ·simp at he
 | .u, _, _ :: _, _, _, _, _, he => by simp [Xf] at he
 | .p _ _, _, [], _, _, _, _, he => by simp [Xf] at he
 | .i _, _, fr, _, _, _, _, he => by cases fr <;> simp [Xf] at he
 | .b, _, fr, _, _, _, _, he => by cases fr <;> simp [Xf] at he
 | .o, _, fr, _, _, _, _, he => by cases fr <;> simp [Xf] at he
 | .mp _ _, _, fr, _, _, _, _, he => by cases fr <;> simp [Xf] at he
 | .s, _, fr, _, _, _, _, he => by cases fr <;> simp [Xf] at he
 | .sl _, _, fr, _, _, _, _, he => by cases fr <;> simp [Xf] at he
theorem DM {dst : Option Tmp} {u : List (Nat × Option Ia)} {rt : Ty} {r : T rt} {fr : List Bool} {m : Nat} {d : D} (hop : Xf rt r fr (100000 + 64 * dst.getD 0) = some (d, u, m)) (hn : ∀ id, Mk dst id → s'.newOk id = s.newOk id) :
 (jx m (100064 + 64 * dst.getD 0) && Yd s' u) = (jx m (100064 + 64 * dst.getD 0) && Yd s u) := by
 cases hb : jx m (100064 + 64 * dst.getD 0) with
 | false => rfl
 | true =>
  have hle := q6 hb
  rw [jk, jk]
  refine RC fun p hp => hn p.1 (.inr ?_)
  have := (ZO hop).2 p hp
  exact ⟨this.1, by omega⟩
theorem L6 {dst : Option Tmp} {vw : Bool} {τ : Ty} {y : T τ} {u v : List (Nat × Option Ia)} {rt : Ty} {r : T rt} {fr : List Bool} {m m' : Nat} {d e : D} (hop : Xf rt r fr (100000 + 64 * dst.getD 0) = some (d, u, m))
 (hev : (bif vw then (D.t τ y, [], m) else Ie τ y m) = (e, v, m')) (hn : ∀ id, Mk dst id → s'.newOk id = s.newOk id) :
 (jx m' (100064 + 64 * dst.getD 0) && Yd s' (u ++ v)) = (jx m' (100064 + 64 * dst.getD 0) && Yd s (u ++ v)) := by
 cases hb : jx m' (100064 + 64 * dst.getD 0) with
 | false => rfl
 | true =>
  have hle := q6 hb
  rw [jk, jk]
  refine RC fun p hp => hn p.1 (.inr ?_)
  have h1 := ZO hop
  have h2 : m ≤ m' ∧ ∀ p, p ∈ v → m ≤ p.1 ∧ p.1 < m' := by
   cases vw with
   | true =>
    simp only [ze, jh] at hev
    obtain ⟨_, rfl, rfl⟩ := hev
    exact ⟨jo _, by simp⟩
   | false =>
    simp only [zf] at hev
    exact ME hev
  rcases jl.1 hp with hp | hp
  ·have := h1.2 p hp; have h3 := h2.1; exact ⟨this.1, by omega⟩
  ·have h4 := h2.2 p hp; have h3 := h1.1; exact ⟨qa h3 h4.1, by omega⟩
theorem XU {dst : Option Tmp} (hn : ∀ id, Mk dst id → s'.newOk id = s.newOk id) (τ : Ty) (y : T τ) :
 (jx (Ie τ y (100000 + 64 * dst.getD 0)).2.2 (100064 + 64 * dst.getD 0) && Yd s' (Ie τ y (100000 + 64 * dst.getD 0)).2.1) =
  (jx (Ie τ y (100000 + 64 * dst.getD 0)).2.2 (100064 + 64 * dst.getD 0) && Yd s (Ie τ y (100000 + 64 * dst.getD 0)).2.1) := by
 cases hb : jx (Ie τ y (100000 + 64 * dst.getD 0)).2.2 (100064 + 64 * dst.getD 0) with
 | false => rfl
 | true =>
  have hle := q6 hb
  rw [jk, jk]
  refine RC fun p hp => hn p.1 (.inr ?_)
  have := (ME (τ := τ) (x := y) rfl).2 p hp
  exact ⟨this.1, qh this.2 hle⟩
theorem X2 {dst : Option Tmp} {τ : Ty} {id i : Nat} {e : Ty} {xs : List (T e)} {k : Nat} {K : D → List (Nat × Option Ia) → Option Out} (hn : ∀ id, Mk dst id → s'.newOk id = s.newOk id) :
 Ku s' dst τ id i e xs k K = Ku s dst τ id i e xs k K := by
 unfold Ku
 simp only [XU hn]
theorem V2 {dst : Option Tmp} {f : FuncId} {args : List Operand} {K : D → List (Nat × Option Ia) → Option Out} (hev : ∀ x, x ∈ args → s'.ev x = s.ev x) (hag : ∀ x, x ∈ args → ∀ d, s.ev x = some d → Fl s s' d)
 (hn : ∀ id, Mk dst id → s'.newOk id = s.newOk id) (hbx : ∀ x, x ∈ args → ∀ bid p, s.ev x = some (.ptr bid p) → ∀ ρ d, s.heap bid = some (.box ρ d) → Fl s s' d) : BE G s' dst f args K = BE G s dst f args K := by
 unfold BE
 split
 ·rename_i pt rt fr F _
  rw [MA hev]
  cases hds : At s args with
  | none => rfl
  | some ds =>
   simp only []
   rw [Gz (FH hds hag)]
   cases Va s ds pt with
   | none => rfl
   | some x =>
    simp only []
    congr 1
    funext r
    cases hop : Xf rt r fr (100000 + 64 * dst.getD 0) with
    | none => rfl
    | some t =>
     obtain ⟨d, u, m⟩ := t
     simp only []
     cases WH d with
     | none => rfl
     | some d' => simp only [DM hop hn]
 ·rename_i τ pt rt fr F _
  cases args with
  | nil => rfl
  | cons a0 args =>
   simp only []
   rw [hev a0 (by simp), MA fun x hx => hev x (jr _ hx)]
   cases h0 : s.ev a0 with
   | none => rfl
   | some d0 =>
    cases hds : At s args with
    | none => rfl
    | some ds =>
     simp only []
     rw [Vx (hag a0 (by simp) d0 h0), Gz (FH hds fun x hx => hag x (jr _ hx))]
     cases Pb s d0 τ with
     | none => rfl
     | some xl =>
      obtain ⟨x0, l⟩ := xl
      cases Va s ds pt with
      | none => rfl
      | some x =>
       simp only []
       congr 1
       funext r
       cases hop : Xf rt r.2 fr (100000 + 64 * dst.getD 0) with
       | none => rfl
       | some t =>
        obtain ⟨d, u, m⟩ := t
        simp only []
        cases WH d with
        | none => rfl
        | some d' => simp only [DM hop hn]
 ·rename_i pt rt fr F _
  rw [MA hev]
  cases hds : At s args with
  | none => rfl
  | some ds =>
   simp only []
   rw [Vx (FH hds hag)]
   cases Pb s ds pt with
   | none => rfl
   | some xl =>
    simp only []
    congr 1
    funext r
    cases hop : Xf rt r fr (100000 + 64 * dst.getD 0) with
    | none => rfl
    | some t =>
     obtain ⟨d, u, m⟩ := t
     simp only []
     cases WH d with
     | none => rfl
     | some d' => simp only [DM hop hn]
 ·rename_i vw cv τ pt rt fr F _
  cases args with
  | nil => rfl
  | cons a0 args =>
   simp only []
   rw [hev a0 (by simp), MA fun x hx => hev x (jr _ hx)]
   cases h0 : s.ev a0 with
   | none => rfl
   | some d0 =>
    cases hds : At s args with
    | none =>
     cases d0 with
     | ptr bid path => cases path <;> rfl
     | _ => rfl
    | some ds =>
     cases d0 with
     | ptr bid path =>
      cases path with
      | cons _ _ => rfl
      | nil =>
       simp only []
       rw [(hag a0 (by simp) _ h0).ptr]
       cases hb : s.heap bid with
       | none => rfl
       | some Da =>
        cases Da with
        | box τ' d1 =>
         simp only []
         rw [Vx (hbx a0 (by simp) bid [] h0 τ' d1 hb), Vx (FH hds fun x hx => hag x (jr _ hx)), Gz (FH hds fun x hx => hag x (jr _ hx))]
         split
         ·rename_i x0 l x l2 _ _ _
          congr 1
          funext r
          cases hop : Xf rt r.2 fr (100000 + 64 * dst.getD 0) with
          | none => rfl
          | some t =>
           obtain ⟨d, u, m⟩ := t
           simp only []
           cases WH d with
           | none => rfl
           | some d' =>
            rcases hev2 : (bif vw then (D.t τ r.1, [], m) else Ie τ r.1 m) with ⟨e, v, m'⟩
            simp only [L6 hop hev2 hn]
         ·rfl
        | _ => rfl
     | _ => rfl
 ·rename_i pt τ F _
  rw [MA hev]
  cases dst with
  | none => rfl
  | some tt =>
   cases hds : At s args with
   | none => rfl
   | some ds =>
    simp only []
    rw [Gz (FH hds hag), hn tt (.inl rfl)]
 ·rfl
theorem NW {dst : Option Tmp} {t tx : TypeId} {x y : Operand} {K : D → List (Nat × Option Ia) → Option Out} (hx : s'.ev x = s.ev x) (hy : s'.ev y = s.ev y)
 (ax : ∀ d, s.ev x = some d → Fl s s' d) (ay : ∀ d, s.ev y = some d → Fl s s' d) (hn : ∀ id, Mk dst id → s'.newOk id = s.newOk id) : Dw G s' dst t tx x y K = Dw G s dst t tx x y K := by
 unfold Dw
 rw [hx, hy]
 split
 ·rename_i tt e da db _ h2 h3
  rw [Pac (ax _ h2), AN (ay _ h3), hn tt (.inl rfl)]
 ·rfl
theorem JU {dst : Option Tmp} {t tx : TypeId} {x y : Operand} {K : D → List (Nat × Option Ia) → Option Out} (hx : s'.ev x = s.ev x) (hy : s'.ev y = s.ev y)
 (ax : ∀ d, s.ev x = some d → Fl s s' d) (ay : ∀ d, s.ev y = some d → Fl s s' d) : Ys G s' dst t tx x y K = Ys G s dst t tx x y K := by
 unfold Ys
 rw [hx, hy]
 split
 ·rename_i tt e id db _ h2 h3
  rw [(ax _ h2).own, AN (ay _ h3)]
 ·rfl
theorem H6 {dst : Option Tmp} {t tx : TypeId} {x y : Operand} {K : D → List (Nat × Option Ia) → Option Out} (hx : s'.ev x = s.ev x) (hy : s'.ev y = s.ev y)
 (ax : ∀ d, s.ev x = some d → Fl s s' d) (ay : ∀ d, s.ev y = some d → Fl s s' d) (hn : ∀ id, Mk dst id → s'.newOk id = s.newOk id) : IG G s' dst t tx x y K = IG G s dst t tx x y K := by
 unfold IG
 rw [NW hx hy ax ay hn, JU hx hy ax ay]
theorem W2 {t tx : TypeId} {x y : Operand} {K : D → List (Nat × Option Ia) → Option Out} (hx : s'.ev x = s.ev x) (hy : s'.ev y = s.ev y)
 (ax : ∀ d, s.ev x = some d → Fl s s' d) (ay : ∀ d, s.ev y = some d → Fl s s' d) : CE G s' t tx x y K = CE G s t tx x y K := by
 unfold CE
 rw [hx, hy]
 split
 ·rename_i e id db _ h2 h3
  rw [ax _ h2 id (by simp [D.ment])]
  split
  ·rw [AN (ay _ h3)]
  ·rfl
 ·rfl
theorem Dac {K : D → List (Nat × Option Ia) → Option Out} (h : A7 s s' o) : Sb G s' o K = Sb G s o K := by
 obtain ⟨hev, hag, hsh, hn, hbx⟩ := h
 cases hmv : QA o.op with
 | true =>
  cases ho : o.op with
  | move x => rw [ho] at hev; simp only [Sb, ho, hev x (by simp [Ed])]
  | assign x => rw [ho] at hev; simp only [Sb, ho, hev x (by simp [Ed])]
  | _ => rw [ho] at hmv; simp [QA] at hmv
 | false =>
 cases hsp : Eh o.op with
 | true =>
  have hk := hsh hsp
  clear hag hn hbx hsh
  cases ho : o.op with
  | nilCheck x =>
   rw [ho] at hev hk
   simp only [Sb, ho, hev x (by simp [Ed])]
   split
   ·rename_i id p hx
    have h1 := R4 (hk x (by simp [Ed]) _ hx id (by simp [D.ment]))
    split
    ·rename_i ρ d hb
     obtain ⟨d', hd'⟩ := (h1 ρ).1 ⟨d, hb⟩
     simp only [hd']
    ·rename_i hne
     split
     ·rename_i ρ d hb
      obtain ⟨d', hd'⟩ := (h1 ρ).2 ⟨d, hb⟩
      exact absurd hd' (hne ρ d')
     ·rfl
   ·rfl
   ·rename_i id i p hx
    rw [kind_rowN (hk x (by simp [Ed]) _ hx id (by simp [D.ment]))]
   ·rfl
  | fieldAddr t x f =>
   rw [ho] at hev hk
   simp only [Sb, ho, hev x (by simp [Ed])]
   split
   ·rename_i τ id path hτ hx
    have h1 := R4 (hk x (by simp [Ed]) _ hx id (by simp [D.ment]))
    split
    ·rename_i ρ d hb
     obtain ⟨d', hd'⟩ := (h1 ρ).1 ⟨d, hb⟩
     simp only [hd']
    ·rename_i hne
     split
     ·rename_i ρ d hb
      obtain ⟨d', hd'⟩ := (h1 ρ).2 ⟨d, hb⟩
      exact absurd hd' (hne ρ d')
     ·rfl
   ·rename_i τ id i path hτ hx
    rw [kind_rowN (hk x (by simp [Ed]) _ hx id (by simp [D.ment]))]
   ·rfl
   ·rfl
  | indexAddr t x i =>
   rw [ho] at hev hk
   simp only [Sb, ho, hev x (by simp [Ed]), hev i (by simp [Ed])]
   split
   ·rfl
   ·rename_i hx _; rw [kind_rowN (hk x (by simp [Ed]) _ hx _ (by simp [D.ment]))]
   ·rename_i hx _; rw [kind_rowN (hk x (by simp [Ed]) _ hx _ (by simp [D.ment]))]
   ·rename_i hx _; rw [kind_rowN (hk x (by simp [Ed]) _ hx _ (by simp [D.ment]))]
   ·rfl
  | call c =>
   obtain ⟨callee, args, ts⟩ := c
   rw [ho] at hev hk hsp
   simp only [Ed] at hev hk
   cases callee with
   | builtin b =>
    cases b with
    | len =>
     simp only [Sb, ho]
     split
     ·rename_i x t hx _
      rw [hev x (by rw [hx]; simp)]
      split
      ·rfl
      ·rfl
      ·rfl
      ·rename_i hd; rw [kind_rowN (hk x (by rw [hx]; simp) _ hd _ (by simp [D.ment]))]
      ·rename_i hd; rw [kind_rowN (hk x (by rw [hx]; simp) _ hd _ (by simp [D.ment]))]
      ·rfl
     ·rfl
    | _ => simp [Eh] at hsp
   | _ => simp [Eh] at hsp
  | _ => rw [ho] at hsp; simp [Eh] at hsp
 | false =>
 have hag' : ∀ x, x ∈ Ed o.op → ∀ d, s.ev x = some d → Fl s s' d := hag hmv hsp
 cases ho : o.op with
 | move x => rw [ho] at hev; simp only [Sb, ho, hev x (by simp [Ed])]
 | assign x => rw [ho] at hev; simp only [Sb, ho, hev x (by simp [Ed])]
 | pick c x y => rw [ho] at hev; simp only [Sb, ho, hev c (by simp [Ed]), hev x (by simp [Ed]), hev y (by simp [Ed])]
 | alloc t =>
  simp only [Sb, ho]
  split
  ·rename_i tt τ hd _; rw [hn tt (.inl hd)]
  ·rename_i tt hd _; rw [hn tt (.inl hd)]
  ·rfl
 | box t x =>
  rw [ho] at hev
  simp only [Sb, ho, hev x (by simp [Ed])]
  split
  ·rename_i tt τ d hd _ _; rw [hn tt (.inl hd)]
  ·rfl
 | build t ps =>
  rw [ho] at hev
  have := fun τ d => BR (s := s) (s' := s') (τ := τ) (ps := ps.toList) (d := d) hev
  simp only [Sb, ho, this]
 | buildSlice t n ps =>
  rw [ho] at hev hag'
  have h1 := fun e n => MV (s := s) (s' := s') (e := e) (ps := ps.toList) (n := n) hev hag'
  have h2 := fun e n => FR (s := s) (s' := s') (e := e) (ps := ps.toList) (n := n) hev
  simp only [Sb, ho, h1, h2]
  split
  ·rename_i tt e hd _
   rw [hn tt (.inl hd)]
  ·rfl
 | load t x =>
  rw [ho] at hev hag'
  simp only [Sb, ho, hev x (by simp [Ed])]
  split
  ·rename_i hx; rw [(hag' x (by simp [Ed]) _ hx).ptr]
  ·rfl
  ·rename_i hx; rw [(hag' x (by simp [Ed]) _ hx).eptr]; simp only [XU hn, X2 hn]
  ·rfl
 | store t x y =>
  rw [ho] at hev hag'
  simp only [Sb, ho, hev x (by simp [Ed]), hev y (by simp [Ed])]
  split
  ·rename_i hx _; rw [(hag' x (by simp [Ed]) _ hx).ptr]
  ·rename_i dv _ hx hy
   have := fun τ => Vx (τ := τ) (hag' y (by simp [Ed]) _ hy)
   simp only [(hag' x (by simp [Ed]) _ hx).eptr, this]
  ·rfl
 | nilCheck x => rw [ho] at hsp; simp [Eh] at hsp
 | binOp op t x y t' => rw [ho] at hev; simp only [Sb, ho, hev x (by simp [Ed]), hev y (by simp [Ed])]
 | unOp op t x => rw [ho] at hev; simp only [Sb, ho, hev x (by simp [Ed])]
 | convert src t x =>
  rw [ho] at hev hag'
  simp only [Sb, ho, hev x (by simp [Ed])]
  split
  ·rfl
  ·rfl
  ·rename_i hx; rw [Gz (hag' x (by simp [Ed]) _ hx)]
  ·rfl
  ·rfl
 | slice t x lo hi mx =>
  rw [ho] at hev hag'
  have h1 : CL s' lo = CL s lo := Bah fun y hy => hev y (by simp [Ed, hy])
  have h2 := fun n => Xaf (s := s) (s' := s') (x := hi) (n := n) fun y hy => hev y (by simp [Ed, hy])
  cases mx with
  | some m => simp only [Sb, ho]
  | none =>
   simp only [Sb, ho, hev x (by simp [Ed]), h1, h2]
   split
   ·rfl
   ·rfl
   ·rename_i hx
    unfold YP
    rw [(hag' x (by simp [Ed]) _ hx).own, h1]
    simp only [h2]
    split
    ·split
     ·split
      ·split
       ·rename_i tt hd; rw [hn tt (.inl hd)]
       ·rfl
      ·rfl
     ·rfl
    ·rfl
   ·simp only [h2]
   ·rename_i hx
    unfold LK
    rw [(hag' x (by simp [Ed]) _ hx).cut, h1]
    simp only [h2]
   ·rfl
 | fieldAddr t x f => rw [ho] at hsp; simp [Eh] at hsp
 | field t x f => rw [ho] at hev; simp only [Sb, ho, hev x (by simp [Ed])]
 | indexAddr t x i => rw [ho] at hsp; simp [Eh] at hsp
 | index t x i => rw [ho] at hev; simp only [Sb, ho, hev x (by simp [Ed]), hev i (by simp [Ed])]
 | makeSlice t l c =>
  rw [ho] at hev
  simp only [Sb, ho, hev l (by simp [Ed]), hev c (by simp [Ed])]
  split
  ·rename_i hd _ _ _; rw [hn _ (.inl hd)]
  ·rfl
 | extract x n => rw [ho] at hev; simp only [Sb, ho, hev x (by simp [Ed])]
 | call c =>
  obtain ⟨callee, args, ts⟩ := c
  rw [ho] at hev hag'
  simp only [Ed] at hev hag'
  cases callee with
  | value f =>
   cases f with
   | func f => simp only [Sb, ho]; exact V2 hev hag' hn (by rw [ho] at hbx; exact hbx rfl rfl)
   | _ => simp only [Sb, ho]
  | invoke r m => simp only [Sb, ho]
  | builtin b =>
   cases b with
   | len => rw [ho] at hsp; simp [Eh] at hsp
   | append =>
    simp only [Sb, ho]
    split
    ·rename_i x y t tx hx _
     exact H6 (hev x (by rw [hx]; simp)) (hev y (by rw [hx]; simp)) (hag' x (by rw [hx]; simp)) (hag' y (by rw [hx]; simp)) hn
    ·rfl
   | copy =>
    simp only [Sb, ho]
    split
    ·rename_i x y t tx hx _
     exact W2 (hev x (by rw [hx]; simp)) (hev y (by rw [hx]; simp)) (hag' x (by rw [hx]; simp)) (hag' y (by rw [hx]; simp))
    ·rfl
   | max =>
    simp only [Sb, ho]
    split
    ·rename_i x y hx
     rw [hev x (by rw [hx]; simp), hev y (by rw [hx]; simp)]
    ·rfl
   | min =>
    simp only [Sb, ho]
    split
    ·rename_i x y hx
     rw [hev x (by rw [hx]; simp), hev y (by rw [hx]; simp)]
    ·rfl
   | _ => simp only [Sb, ho]
 | _ => simp only [Sb, ho]
end
end KF
