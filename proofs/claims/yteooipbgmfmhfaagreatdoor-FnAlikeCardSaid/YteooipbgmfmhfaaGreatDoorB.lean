/- An evaluator of Go functions on plain data, its soundness, and plain laws on what the functions compute, part 2 (conditions: as each lemma tells). -/
import Derived.Test.YteooipbgmfmhfaaGreatDoorA
import Derived.Deep.AppendSrc
import Derived.Deep.Upon
import Derived.Laws.CopyRow
import Derived.MapKept
set_option linter.unusedSimpArgs false
set_option linter.unusedVariables false
namespace KF
open Go
open List renaming length → ja, getElem?_eq_getElem → je, append → jf, mem_append → jm, mem_cons → jq, mem_cons_of_mem → js, length_cons → jx, set → j7, length_nil → j8, length_set → j9, mem_singleton → qd, length_append → qe, getD_eq_getElem?_getD → qg, getElem_mem → qi, getElem_of_mem → qj, mem_map → qk, ext_getElem? → qn, drop_drop → qo, toArray → qp, getD → qq, getElem?_eq_none → qr, mem_iff_getElem → qs, mem_append_left → qt, mem_append_right → qu, append_assoc → qy, eq_nil_of_length_eq_zero → q6, getElem?_eq_some_iff → q7, length_eq_one_iff → q8, replicate → yb, cons_append → yf, map_cons → yh, map_nil → yi, nodup_cons → yk, nodup_append → yl, size_toArray → ym, flatten_cons → yn, length_map → yp, mem_map_of_mem → yt, map_append → yu, all_eq_true → yv, range → yx, not_mem_nil → yz
open Option renaming bind_some → jb, bind → j4, map_some → qc, bind_eq_some_iff → qf, getD_some → qx, map_eq_some_iff → yw
open Option.some renaming injEq → jc, inj → yy
open Bool renaming and_eq_true → jd, not_true → jg, true_and → jl, false_eq_true → jr, not_eq_true → qa, or_eq_true → qw, not_eq_true' → yj, or_eq_false_iff → yq, false_or → yr
open Prod.mk renaming injEq → jh
open Nat renaming ble_eq_true_of_le → jk, mul_le_mul_right → jn, le_refl → jp, zero_add → jt, add_assoc → ju, eq_of_beq_eq_true → jv, ble → jy, le_trans → qb, beq → qv, le_of_ble_eq_true → qz, add_zero → q9, blt → ya, blt_eq → yc, add_mul → yd, one_mul → ye, succ_mul → yo
open Int renaming toNat_natCast → jo, eq_ofNat_of_zero_le → jw, toNat → jz
open Go.IntKind renaming wrap → j5, wrap → j6
open Sum renaming elim_inl → qh
open Result renaming andThen_ok → ql
open Sem renaming run_bind → qm
open List.cons renaming injEq → yg
section
variable {P : Program} {Out : Type} {n0 : Nat} {A : Fx} {O0 : Nat → Prop} {w0 w w' : World} {s : AS} {σ σ' : Nat → Value} {φ φ' : Nat → List Nat} {a : Act}
variable {o : Oper} {Q : Exit → Act → World → Prop} {k : AS → Option Out} {out : Out} {d : D} {v : Value} {upd : List (Nat × Option Ja)} {dst : Option Tmp} {G : Qd}
theorem Fad (hG : EnvTy P G) (h : Ra n0 A O0 w0 s σ φ a w) {t : TypeId} {x y : Operand} (ho : o.op = .store t x y)
 (he : Se G s o k = some out) : o.wp P a w (Zd n0 A O0 w0 k out) Q := by
 simp only [Se, Qb, ho] at he
 split at he
 ·
  rename_i τ id path dv hty hx hy
  split at he
  ·rename_i ρ d hb
   split at he
   ·rename_i τ' d' ht hd
    split at he
    ·rename_i q hq
     obtain rfl := Pc hq
     cases hsb : Zb τ' dv with
     | false => rw [hsb] at he; simp at he
     | true =>
      rw [hsb] at he
      simp only [y3] at he
      have hse := Dm hsb
      have hv := h.ev hx
      rw [Al] at hv
      obtain ⟨b, hσ, hv⟩ := hv.2 ρ d hb
      obtain ⟨hs, b', cur, et, hσ', hh, hF, hr, hsz⟩ := h.hp id _ hb
      rw [hσ] at hσ'
      simp at hσ'
      subst hσ'
      obtain ⟨hre, hve⟩ := Kd hse (h.ev hy)
      have hlen := Wa.length hse hre
      have hle := Yg ht
      have hl := Zw (w := w) (hG.ty _ _ hty) hh (by omega : Db ρ path + τ'.size ≤ cur.size) hlen (Wa.one hre)
      obtain ⟨hsd, hrd⟩ := Wa.setAt (w := w) (O := OO O0 s φ) (hp := s.heap) (σ := σ) hs ht hse hd
      have hr' := hrd hr hre
      have hc : Ra n0 A O0 w0 ⟨s.n, s.tm, (id, some (.box ρ d')) :: (Ub [] ++ s.hp)⟩ σ (Kg φ id (φ id)) a (w.setRow b (Pb cur.toList (Db ρ path) (a.eval y).cells.toList).toArray) := by
       refine h.turn (blk0 := .box ρ d) (Da := .box ρ d') hb rfl [] (by simp) (by simp) (φ id) (by simp) ?_ rfl rfl rfl (h.nodup _ _ hb) (fun c hc => .inr (.inl hc)) ?_
       ·intro c _ hc _
        rw [hF] at hc
        exact setRow_other w b c _ (by simpa using hc)
       ·intro hp' O' hO hcp
        refine ⟨hsd, b, _, et, hσ, setRow_heap w b cur _ et (0, 0) hh, hF, ?_, ?_⟩
        ·refine Wa.stable ?_ hO d' _ (fun j _ => hcp j) (by simpa using hr')
         intro c hc _
         refine setRow_other w b c _ fun e => hc (.inr ⟨id, _, hb, ?_⟩)
         rw [hF, e]; simp
        ·have := Jg (cs := cur.toList) (ce := (a.eval y).cells.toList) (o := Db ρ path) (by rw [hlen]; simp; omega)
         simpa [this] using hsz
      refine Fv (w' := w.setRow b (Pb cur.toList (Db ρ path) (a.eval y).cells.toList).toArray) ?_ (Hd rfl hc ?_ he)
      ·simp [execOp, ho, hv, Instr.storeAt, Instr.sureAddr, hl]
      ·exact Ro.2 rfl
    ·simp at he
   ·simp at he
  ·simp at he
 ·
  rename_i τ id i path dv hty hx hy
  split at he
  ·rename_i e dp xs hb
   split at he
   ·rename_i τ' ht
    split at he
    ·rename_i q hq
     obtain rfl := Pc hq
     have hv := h.ev hx
     rw [Li] at hv
     obtain ⟨hi, b, off, cap, hσ, hv⟩ := hv.2 _ _ _ hb rfl
     have hle := Yg ht
     cases hf : (dp || e.flat) with
     | true =>
      rw [hf] at he
      simp only [y3] at he
      split at he
      ·rename_i y' l hoT
       cases hck : ((dp || l.isEmpty) && Mf (id :: l)) with
       | false => rw [hck] at he; simp at he
       | true =>
        rw [hck] at he
        simp only [y3] at he
        simp only [jd] at hck
        have hnd := Rh hck.2
        cases hxi : xs[i]? with
        | none => simp [hxi] at he
        | some x0 =>
         simp only [hxi, jb] at he
         split at he
         ·rename_i x' hset
          have hse := Cj hoT
          obtain ⟨hre, hve⟩ := Kd hse (h.ev hy)
          have hlen := Wa.length hse hre
          obtain ⟨hoy, hlive⟩ := Jm h hoT hre
          have hrow := ML (h.hp id _ hb) (by simpa using hf)
          rw [hσ] at hrow
          have hblk : ∃ cur et, w.heap[b]? = some (.cells cur et (0, 0)) ∧ off + cap * e.size ≤ cur.size ∧ ja xs ≤ cap ∧ b ∈ φ id := by
           obtain ⟨hm, ⟨h1, _⟩ | ⟨bl, off', cap', cur', et', Fs, h1, hh, h2, h3, h4, hF, hl, _⟩⟩ := hrow
           ·simp at h1
           ·simp at h1
            obtain ⟨⟨rfl, rfl⟩, rfl⟩ := h1
            exact ⟨cur', et', hh, h4, h2, by rw [hF]; simp⟩
          obtain ⟨cur, et, hh, hsz, hnc, hbm⟩ := hblk
          have hlt : (i + 1) * e.size ≤ cap * e.size := jn _ (by omega)
          rw [yo] at hlt
          have hl := Zw (w := w) (hG.ty _ _ hty) hh (by omega : off + i * e.size + Db e path + τ'.size ≤ cur.size) hlen (Ob.one hoy)
          have hFF : (φ id ++ Ia φ l).Nodup := by
           have := Qf h hnd (by
            intro j hj
            rcases jq.1 hj with rfl | hj
            ·exact ⟨_, hb⟩
            ·exact hlive j hj)
           simpa [Ia] using this
          obtain ⟨F', hown', hF', hsub⟩ := Zaa hrow hFF hxi hset ht hoy hh
          have hc : Ra n0 A O0 w0 ⟨s.n, s.tm, (id, some (.row e dp (j7 xs i x'))) :: (Ub l ++ s.hp)⟩ σ (Kg φ id F') a (w.setRow b (Pb cur.toList (off + i * e.size + Db e path) (a.eval y).cells.toList).toArray) := by
           refine h.turn (blk0 := .row e dp xs) hb (by simp [Ja.like]) l hlive (yk.1 hnd).1 F' (by simp) ?_ rfl rfl rfl hF' ?_ ?_
           ·intro c _ hc _
            exact setRow_other w b c _ fun e => hc (e ▸ hbm)
           ·intro c hc
            rcases hsub c hc with hc | hc
            ·exact .inr (.inl hc)
            ·exact .inr (.inr (Gb.1 hc))
           ·intro hp' O' _ _
            cases dp with
            | true => simp only [Ec]; rw [hσ]; exact hown'
            | false => exact IR (by rw [hσ]; exact hown') (by simpa using hf)
          refine Fv (w' := w.setRow b (Pb cur.toList (off + i * e.size + Db e path) (a.eval y).cells.toList).toArray) ?_ (Hd rfl hc ?_ he)
          ·simp [execOp, ho, hv, Instr.storeAt, Instr.sureAddr, hl]
          ·exact Ro.2 rfl
         ·simp at he
      ·simp at he
     | false =>
      rw [hf] at he
      simp only [y8] at he
      split at he
      ·rename_i y' hoT
       cases hxi : xs[i]? with
       | none => simp [hxi] at he
       | some x0 =>
        simp only [hxi, jb] at he
        split at he
        ·rename_i x' hset
         obtain ⟨hse, hvw⟩ := Xe (w := w) (O := OO O0 s φ) (hp := s.heap) (σ := σ) hoT
         obtain ⟨hre, hve⟩ := Kd hse (h.ev hy)
         have hlen := Wa.length hse hre
         have hvy := hvw _ hre
         have hdp : dp = false := by
          simp only [yq] at hf
          exact hf.1
         subst hdp
         have hrow := h.hp id _ hb
         simp only [Ec, hσ] at hrow
         obtain ⟨hm, ⟨h1, _⟩ | ⟨bl, off', cap', cur, et, h1, hh, h2, h3, h4, hF, hvs⟩⟩ := hrow
         ·simp at h1
         ·simp at h1
          obtain ⟨⟨rfl, rfl⟩, rfl⟩ := h1
          have hlt : (i + 1) * e.size ≤ ja xs * e.size := jn _ hi
          rw [yo] at hlt
          have hcap := jn e.size h2
          have hl := Zw (w := w) (hG.ty _ _ hty) hh (by omega : off + i * e.size + Db e path + τ'.size ≤ cur.size) hlen (Ka.one hvy)
          have hxe : List.get xs ⟨i, hi⟩ = x0 := by simpa [je hi] using hxi
          have hvi := hvs i hi
          rw [hxe] at hvi
          have hnew := HK hset ht hvi hvy
          have hc : Ra n0 A O0 w0 ⟨s.n, s.tm, (id, some (.row e false (j7 xs i x'))) :: (Ub [] ++ s.hp)⟩ σ (Kg φ id (φ id)) a (w.setRow b (Pb cur.toList (off + i * e.size + Db e path) (a.eval y).cells.toList).toArray) := by
           refine h.turn (blk0 := .row e false xs) hb (by simp [Ja.like]) [] (by simp) (by simp) (φ id) (by simp) ?_ rfl rfl rfl (h.nodup _ _ hb) (fun c hc => .inr (.inl hc)) ?_
           ·intro c _ hc _
            rw [hF] at hc
            exact setRow_other w b c _ (by simpa using hc)
           ·intro hp' O' hO _
            have hst : ∀ {τ : Ty} {z : T τ} {cs : List Value}, Ka w (OO O0 s φ) τ z cs → Ka (w.setRow b (Pb cur.toList (off + i * e.size + Db e path) (a.eval y).cells.toList).toArray) O' τ z cs := by
             intro τ z cs hz
             refine Ka.stable ?_ hO hz
             intro c hc _
             refine setRow_other w b c _ fun e => hc (.inr ⟨id, _, hb, ?_⟩)
             rw [hF, e]; simp
            have hyl := Ka.length hvy
            refine ⟨by simpa using hm, .inr ⟨b, off, cap, _, et, by simpa using hσ, setRow_heap w b cur _ et (0, 0) hh, by simpa using h2, h3, ?_, hF, ?_⟩⟩
            ·rw [ym, Jg (by have : cur.toList.length = cur.size := Array.length_toList; omega)]
             simpa using h4
            ·intro j hj
             have hjl : j < ja xs := by simpa using hj
             by_cases hji : j = i
             ·subst hji
              have e1 : List.get (j7 xs j x') ⟨j, hj⟩ = x' := by simp
              rw [e1, Rt (by omega) (by omega)]
              exact hst hnew
             ·have e1 : List.get (j7 xs i x') ⟨j, hj⟩ = List.get xs ⟨j, hjl⟩ := by simp [Ne.symm hji]
              have hjle : (j + 1) * e.size ≤ ja xs * e.size := jn _ hjl
              rw [yo] at hjle
              rw [e1, Nx (by omega) (by omega) ?_]
              ·exact hst (hvs j hjl)
              ·rcases Nat.lt_or_gt_of_ne hji with hlt' | hlt'
               ·left
                have := jn e.size hlt'
                rw [yo] at this
                omega
               ·right
                have := jn e.size hlt'
                rw [yo] at this
                omega
          refine Fv (w' := w.setRow b (Pb cur.toList (off + i * e.size + Db e path) (a.eval y).cells.toList).toArray) ?_ (Hd rfl hc ?_ he)
          ·simp [execOp, ho, hv, Instr.storeAt, Instr.sureAddr, hl]
          ·exact Ro.2 rfl
        ·simp at he
      ·simp at he
    ·simp at he
   ·simp at he
  ·
   rename_i e xs i0 x0 path0 τ0 d hb
   split at he
   ·rename_i τ' ht
    split at he
    ·rename_i q hq
     obtain rfl := Pc hq
     split at he
     ·rename_i y' l hoT
      cases hck : (Mf (id :: l) && (path == path0)) with
      | false => rw [hck] at he; simp at he
      | true =>
       rw [hck] at he
       simp only [y3] at he
       simp only [jd, beq_iff_eq] at hck
       obtain ⟨hnd, hpp⟩ := hck
       subst hpp
       have hnd := Rh hnd
       cases hbi : qv i i0 with
       | false => rw [hbi] at he; simp at he
       | true =>
        rw [hbi] at he
        simp only [y3] at he
        have hii := jv hbi
        subst hii
        split at he
        ·rename_i x' hset
         obtain ⟨hsh, hxi, ht0, hlt, bl, off, cap, cur, et, hσ, hh, hbF, hsz, hrep, hwand⟩ := h.hp id _ hb
         have e1 : τ0 = τ' := by rw [ht0] at ht; simpa using ht
         subst e1
         have hv := h.ev hx
         rw [Li] at hv
         obtain ⟨hi, b, off', cap', hσ', hv⟩ := hv.2 _ _ _ hb rfl
         rw [hσ] at hσ'
         simp at hσ'
         obtain ⟨⟨rfl, rfl⟩, rfl⟩ := hσ'
         have hle := Yg ht
         have hse := Cj hoT
         obtain ⟨hre, hve⟩ := Kd hse (h.ev hy)
         have hlen := Wa.length hse hre
         obtain ⟨hoy, hlive⟩ := Jm h hoT hre
         have hl := Zw (w := w) (hG.ty _ _ hty) hh (by omega : off + i * e.size + Db e path + τ0.size ≤ cur.size) hlen (Ob.one hoy)
         have hFF : (φ id ++ Ia φ l).Nodup := by
          have := Qf h hnd (by
           intro j hj
           rcases jq.1 hj with rfl | hj
           ·exact ⟨_, hb⟩
           ·exact hlive j hj)
          simpa [Ia] using this
         have hnot : bl ∉ Ia φ l := fun hm => (yl.1 hFF).2.2 bl hbF bl hm rfl
         have hst : ∀ c, c ≠ bl → (w.setRow bl (Pb cur.toList (off + i * e.size + Db e path) (a.eval y).cells.toList).toArray).heap[c]? = w.heap[c]? := fun c hc => setRow_other w bl c _ hc
         obtain ⟨F', hperm, hown'⟩ := hwand (w.setRow bl (Pb cur.toList (off + i * e.size + Db e path) (a.eval y).cells.toList).toArray) _ hlen (fun c _ hne => hst c hne)
          (setRow_heap w bl cur _ et (0, 0) hh) y' (Ia φ l) x' (hoy.stable fun c hc => hst c fun e => hnot (e ▸ hc)) hset
         have hc : Ra n0 A O0 w0 ⟨s.n, s.tm, (id, some (.row e true (j7 xs i x'))) :: (Ub l ++ s.hp)⟩ σ (Kg φ id F') a (w.setRow bl (Pb cur.toList (off + i * e.size + Db e path) (a.eval y).cells.toList).toArray) := by
          refine h.turn (blk0 := .hol e xs i x0 path τ0 d) hb (by simp [Ja.like]) l hlive (yk.1 hnd).1 F' (by simp) ?_ rfl rfl rfl (hperm.nodup_iff.2 hFF) ?_ ?_
          ·intro c _ hc _
           exact hst c fun e => hc (e ▸ hbF)
          ·intro c hc
           rcases jm.1 (hperm.mem_iff.1 hc) with hc | hc
           ·exact .inr (.inl hc)
           ·exact .inr (.inr (Gb.1 hc))
          ·intro hp' O' _ _
           exact hown'
         refine Fv (w' := w.setRow bl (Pb cur.toList (off + i * e.size + Db e path) (a.eval y).cells.toList).toArray) ?_ (Hd rfl hc ?_ he)
         ·simp [execOp, ho, hv, Instr.storeAt, Instr.sureAddr, hl]
         ·exact Ro.2 rfl
        ·simp at he
     ·simp at he
    ·simp at he
   ·simp at he
  ·simp at he
 ·simp at he
end
def Gw (L : List Value) (i size : Nat) : List Value := (L.drop (i * size)).take size
structure El (w : World) (O : Nat → Prop) (dq : Bool) (e : Ty) (xs : List (T e)) (L : List Value) (Fs : List (List Nat)) : Prop where
 len : L.length = ja xs * e.size
 flen : Fs.length = ja xs
 el : ∀ i (h : i < ja xs), if dq then Ob w e (List.get xs ⟨i, h⟩) (Gw L i e.size) (Fs.getD i []) else Ka w O e (List.get xs ⟨i, h⟩) (Gw L i e.size) ∧ Fs.getD i [] = []
def Dh (w : World) (O : Nat → Prop) (dq : Bool) (e : Ty) (xs : List (T e)) (v : Value) (F : List Nat) : Prop :=
 ja xs ≤ Ph ∧ ((v = .slice none 0 0 ∧ xs = ([] : List (T e)) ∧ F = []) ∨
  ∃ bl off cap cur et Fs, v = .slice (some ⟨bl, off, none⟩) (ja xs) cap ∧ w.heap[bl]? = some (.cells cur et (0, 0)) ∧
   ja xs ≤ cap ∧ cap ≤ Ph ∧ off + cap * e.size ≤ cur.size ∧ F = bl :: List.flatten Fs ∧ El w O dq e xs (Rc cur off (ja xs * e.size)) Fs)
theorem OF {cur : Array Value} {off n i size : Nat} (hi : i < n) : Gw (Rc cur off (n * size)) i size = Rc cur (off + i * size) size := by
 unfold Gw
 refine GG _ _ _ _ _ ?_
 have : (i + 1) * size ≤ n * size := jn _ hi
 rw [yo] at this
 exact this
theorem Jy {Fs : List (List Nat)} (h : ∀ i, i < Fs.length → Fs.getD i [] = []) : Fs.flatten = [] := by
 rw [List.flatten_eq_nil_iff]
 intro l hl'
 obtain ⟨i, hi, rfl⟩ := qs.1 hl'
 have := h i hi
 simpa [qq, hi] using this
theorem Zj {w : World} {O : Nat → Prop} {hp : Nat → Option Ja} {σ : Nat → Value} {id : Nat} {dq : Bool} {e : Ty} {xs : List (T e)} {F : List Nat} :
 Ec w O hp σ id (.row e dq xs) F ↔ Dh w O dq e xs (σ id) F := by
 cases dq with
 | true =>
  simp only [Ec, Ob, Dh]
  constructor
  ·rintro ⟨hm, ⟨h1, h2, h3⟩ | ⟨bl, off, cap, cur, et, Fs, h1, hh, h2, h3, h4, hF, hl, hv⟩⟩
   ·simp only [yg, and_true] at h1
    exact ⟨hm, .inl ⟨h1, h2, h3⟩⟩
   ·simp only [yg, and_true] at h1
    have := jn e.size h2
    refine ⟨hm, .inr ⟨bl, off, cap, cur, et, Fs, h1, hh, h2, h3, h4, hF, ⟨Vc (by omega), hl, fun i hi => ?_⟩⟩⟩
    rw [if_pos rfl, OF hi]
    exact hv i hi
  ·rintro ⟨hm, ⟨h1, h2, h3⟩ | ⟨bl, off, cap, cur, et, Fs, h1, hh, h2, h3, h4, hF, hel⟩⟩
   ·exact ⟨hm, .inl ⟨by rw [h1], h2, h3⟩⟩
   ·refine ⟨hm, .inr ⟨bl, off, cap, cur, et, Fs, by rw [h1], hh, h2, h3, h4, hF, hel.flen, fun i hi => ?_⟩⟩
    have := hel.el i hi
    rw [if_pos rfl, OF hi] at this
    exact this
 | false =>
  simp only [Ec, Dh]
  constructor
  ·rintro ⟨hm, ⟨h1, h2, h3⟩ | ⟨bl, off, cap, cur, et, h1, hh, h2, h3, h4, hF, hv⟩⟩
   ·exact ⟨hm, .inl ⟨h1, h2, h3⟩⟩
   ·have := jn e.size h2
    refine ⟨hm, .inr ⟨bl, off, cap, cur, et, yb (ja xs) [], h1, hh, h2, h3, h4, by rw [hF]; simp, ⟨Vc (by omega), by simp, fun i hi => ?_⟩⟩⟩
    rw [if_neg (by simp), OF hi]
    exact ⟨hv i hi, by simp [qq, hi]⟩
  ·rintro ⟨hm, ⟨h1, h2, h3⟩ | ⟨bl, off, cap, cur, et, Fs, h1, hh, h2, h3, h4, hF, hel⟩⟩
   ·exact ⟨hm, .inl ⟨h1, h2, h3⟩⟩
   ·refine ⟨hm, .inr ⟨bl, off, cap, cur, et, h1, hh, h2, h3, h4, ?_, fun i hi => ?_⟩⟩
    ·rw [hF, Jy]
     intro i hi
     have := hel.el i (by rw [← hel.flen]; exact hi)
     rw [if_neg (by simp)] at this
     exact this.2
    ·have := hel.el i hi
     rw [if_neg (by simp), OF hi] at this
     exact this.1
theorem El.stable {w w' : World} {O O' : Nat → Prop} {dq : Bool} {e : Ty} {xs : List (T e)} {L : List Value} {Fs : List (List Nat)} (h : El w O dq e xs L Fs)
 (hv : ∀ b, ¬ O b → b < w.heap.size → w'.heap[b]? = w.heap[b]?) (hO : ∀ b, b < w.heap.size → ¬ O b → ¬ O' b) (hF : ∀ b, b ∈ Fs.flatten → w'.heap[b]? = w.heap[b]?) :
 El w' O' dq e xs L Fs := by
 refine ⟨h.len, h.flen, fun i hi => ?_⟩
 have := h.el i hi
 cases dq with
 | true =>
  simp only [if_true] at this ⊢
  exact this.stable fun b hb => hF b (Ke hb)
 | false =>
  simp only [jr, if_false] at this ⊢
  exact ⟨Ka.stable hv hO this.1, this.2⟩
theorem UO {L L' : List Value} {i size : Nat} (h : (i + 1) * size ≤ L.length) : Gw (L ++ L') i size = Gw L i size := by
 rw [yo] at h
 unfold Gw
 rw [List.drop_append_of_le_length (by omega), List.take_append_of_le_length (by simp; omega)]
theorem YM {L L' : List Value} {n j size : Nat} (h : L.length = n * size) : Gw (L ++ L') (n + j) size = Gw L' j size := by
 unfold Gw
 rw [yd, ← h, List.drop_append, List.drop_eq_nil_of_le (by omega)]
 simp
theorem El.append {w : World} {O : Nat → Prop} {dq : Bool} {e : Ty} {xs ys : List (T e)} {L L' : List Value} {Fs Gs : List (List Nat)} (h : El w O dq e xs L Fs) (h' : El w O dq e ys L' Gs) :
 El w O dq e (jf xs ys) (L ++ L') (Fs ++ Gs) := by
 have ha : jf xs ys = xs ++ ys := rfl
 refine ⟨by rw [ha, qe, qe, h.len, h'.len, yd], by rw [ha, qe, qe, h.flen, h'.flen], fun i hi => ?_⟩
 have hi' : i < ja xs + ja ys := by rw [ha, qe] at hi; exact hi
 rcases Nat.lt_or_ge i (ja xs) with hl | hg
 ·have h1 : List.get (jf xs ys) ⟨i, hi⟩ = List.get xs ⟨i, hl⟩ := by
   show (xs ++ ys)[i] = xs[i]
   exact List.getElem_append_left hl
  have h2 : (Fs ++ Gs).getD i [] = Fs.getD i [] := by
   have : i < Fs.length := by rw [h.flen]; exact hl
   simp [qq, List.getElem?_append_left this]
  rw [h1, h2, UO (by rw [h.len]; exact jn _ hl)]
  exact h.el i hl
 ·obtain ⟨j, rfl⟩ := Nat.exists_eq_add_of_le hg
  have hj : j < ja ys := by omega
  have h1 : List.get (jf xs ys) ⟨ja xs + j, hi⟩ = List.get ys ⟨j, hj⟩ := by
   show (xs ++ ys)[ja xs + j] = ys[j]
   rw [List.getElem_append_right (by omega)]
   congr 1; omega
  have h2 : (Fs ++ Gs).getD (ja xs + j) [] = Gs.getD j [] := by
   rw [← h.flen]
   simp [qq, List.getElem?_append_right]
  rw [h1, h2, YM h.len]
  exact h'.el j hj
theorem El.nil {w : World} {O : Nat → Prop} {dq : Bool} {e : Ty} : El w O dq e ([] : List (T e)) [] [] :=
 ⟨by simp, rfl, fun i h => absurd h (by simp)⟩
section
variable {P : Program} {w : World}
theorem QN (t tx ty et : TypeId) (i : TypeInfo) (ht : P.underlying t = some (.slice et)) (hi : P.info? et = some i) {b off sLen sCap : Nat} {x : Value} {n : Nat} {news : List Value} (hs : Src P i.size tx x n news w)
 {cur : Array Value} {ct : TypeId} (hh : w.heap[b]? = some (.cells cur ct (0, 0))) (hroom : sLen + n ≤ sCap) (hfit : off + sLen * i.size + news.length ≤ cur.size) :
 (Builtin.append_ #[t, tx] ty #[.slice (some ⟨b, off, none⟩) sLen sCap, x]).run P w = .ok (.slice (some ⟨b, off, none⟩) (sLen + n) sCap) (w.setRow b (Pb cur.toList (off + sLen * i.size) news).toArray) := by
 have hst := run_storeCells_at P b (off + sLen * i.size) ct news 0 cur w hh (by simpa using hfit) hs.one
 simp only [q9] at hst
 rcases hs.kind with ⟨e', hk⟩ | hk <;> simp [Builtin.append_, run_underlying ht, run_underlying hk, Go.sizeOf, typeInfo, hi, hs.len, hroom, hs.cells, Addr.add_lit, hst, Pb]
theorem HG {cur : Array Value} {off n : Nat} {news : List Value} (h : off + n + news.length ≤ cur.size) :
 Rc (Pb cur.toList (off + n) news).toArray off (n + news.length) = Rc cur off n ++ news := by
 have hs : (Pb cur.toList (off + n) news).length = cur.size := by rw [Jg (by simpa using h)]; simp
 apply qn
 intro j
 by_cases hj : j < n + news.length
 ·rw [Me _ _ _ _ hj, List.getElem?_toArray, Ci (by simpa using h)]
  by_cases hn : j < n
  ·rw [if_pos (by omega), List.getElem?_append_left (by rw [Vc (by omega)]; exact hn), Me _ _ _ _ hn]; simp
  ·rw [if_neg (by omega), if_pos (by omega), List.getElem?_append_right (by rw [Vc (by omega)]; omega), Vc (by omega)]
   congr 1; omega
 ·rw [qr (by rw [Vc (by simp only [ym, hs]; omega)]; omega), qr (by rw [qe, Vc (by omega)]; omega)]
theorem CM {e : Ty} {t tx ty et : TypeId} (ht : P.underlying t = some (.slice et)) (hte : Kc P e et = true) {O : Nat → Prop} {dq : Bool} {xs ys : List (T e)} {v x : Value} {F : List Nat}
 (hx : Dh w O dq e xs v F) {news : List Value} {Gs : List (List Nat)} (hs : Src P e.size tx x (ja ys) news w) (hy : El w O dq e ys news Gs) (hn : (F ++ Gs.flatten).Nodup)
 (hlim : ja xs + ja ys ≤ Nb) (hFO : ∀ c, c ∈ F → O c) (hGO : ∀ c, c ∈ Gs.flatten → c < w.heap.size) :
 ∃ v' w' F', (Builtin.append_ #[t, tx] ty #[v, x]).run P w = .ok v' w' ∧ v'.oneCell' = true ∧ w.heap.size ≤ w'.heap.size ∧ (∀ c, c < w.heap.size → c ∉ F → w'.heap[c]? = w.heap[c]?) ∧
  w'.os = w.os ∧ w'.tape = w.tape ∧ w'.output = w.output ∧ F'.Nodup ∧ (∀ c, c ∈ F' → w.heap.size ≤ c ∨ c ∈ F ∨ c ∈ Gs.flatten) ∧
  (∀ O', (∀ b, b < w.heap.size → ¬ O b → ¬ O' b) → Dh w' O' dq e (jf xs ys) v' F' ∧ Dh w' O' dq e xs v F) := by
 obtain ⟨i, hi, hsz, hby, hz⟩ := Tok.size hte
 have hal : ja (jf xs ys) = ja xs + ja ys := by show (xs ++ ys).length = _; simp
 have hs' : Src P i.size tx x (ja ys) news w := by rw [hsz]; exact hs
 have hzs : (Sc e e.zc).cells.size = e.size := by
  have := CI e
  rw [← Array.length_toList, this, MB]
 have hmaxl : maxLen = 9223372036854775807 := rfl
 have hmaxn : Ph = 9223372036854775807 := rfl
 have hlim' : ja xs + ja ys ≤ 1073741824 := hlim
 have hbytes : (ja xs + ja ys) * i.bytes ≤ 140737488355328 := by
  have := Nat.mul_le_mul hlim' hby
  omega
 have hx0 := hx
 have keep : ∀ (w' : World), (∀ c, c < w.heap.size → w'.heap[c]? = w.heap[c]?) → ∀ O', (∀ b, b < w.heap.size → ¬ O b → ¬ O' b) → Dh w' O' dq e xs v F := by
  intro w' hw O' hO'
  obtain ⟨hm, h | ⟨bl, off, cap, cur, ct, Fs, h1, hh, h2, h3, h4, hF, hel⟩⟩ := hx0
  ·exact ⟨hm, .inl h⟩
  ·refine ⟨hm, .inr ⟨bl, off, cap, cur, ct, Fs, h1, (hw bl (Array.getElem?_eq_some_iff.1 hh).1).trans hh, h2, h3, h4, hF, hel.stable (fun b _ hb => hw b hb) hO' fun b hb => hw b ?_⟩⟩
   obtain ⟨i', hi', hm'⟩ := Uh hb
   have := hel.el i' (by rw [← hel.flen]; exact hi')
   cases dq with
   | true =>
    simp only [if_true] at this
    exact this.lt b hm'
   | false =>
    simp only [jr, if_false] at this
    rw [this.2] at hm'
    simp at hm'
 have grow : ∀ (base : Option Addr) (cap : Nat) (olds : List Value) (Fs : List (List Nat)), v = .slice base (ja xs) cap → cap < ja xs + ja ys →
  (Builtin.firstCells i.size (ja xs) (.slice base (ja xs) cap)).run P w.drew = .ok olds.toArray w.drew → El w O dq e xs olds Fs → (∀ c, c ∈ Fs.flatten → c ∈ F) → (Fs.flatten ++ Gs.flatten).Nodup →
  (∀ c, c ∈ Fs.flatten → c < w.heap.size) →
  ∃ v' w' F', (Builtin.append_ #[t, tx] ty #[v, x]).run P w = .ok v' w' ∧ v'.oneCell' = true ∧ w.heap.size ≤ w'.heap.size ∧ (∀ c, c < w.heap.size → c ∉ F → w'.heap[c]? = w.heap[c]?) ∧
  w'.os = w.os ∧ w'.tape = w.tape ∧ w'.output = w.output ∧ F'.Nodup ∧ (∀ c, c ∈ F' → w.heap.size ≤ c ∨ c ∈ F ∨ c ∈ Gs.flatten) ∧
  (∀ O', (∀ b, b < w.heap.size → ¬ O b → ¬ O' b) → Dh w' O' dq e (jf xs ys) v' F' ∧ Dh w' O' dq e xs v F) := by
  intro base cap olds Fs hv hg hold hel hsub hnd hlt
  have hr := run_append_grow_src (P := P) w t tx ty et i _ ht hi hz base (ja xs) cap olds hold x (ja ys) news hs' hg (by omega) (growslice_fits hg hbytes)
  have hge := grownCap_ge w (ja xs + ja ys) cap et
  have hle := grownCap_le_maxLen w (ja xs + ja ys) cap et (by omega)
  have hold' : ∀ b, b < w.heap.size → (w.drew.alloc (.cells ((olds ++ news).toArray ++ Builtin.zeroCells (Sc e e.zc).cells (grownCap w (ja xs + ja ys) cap et - (ja xs + ja ys))) et)).heap[b]? = w.heap[b]? :=
   fun b hb => Hg w.drew _ b hb
  refine ⟨_, _, w.heap.size :: (Fs ++ Gs).flatten, by rw [hv]; exact hr, rfl, by simp, fun c hc _ => hold' c hc, rfl, rfl, rfl, ?_, ?_, ?_⟩
  ·rw [yk, List.flatten_append]
   refine ⟨fun hm => ?_, hnd⟩
   rcases jm.1 hm with hm | hm
   ·exact absurd (hlt _ hm) (by omega)
   ·exact absurd (hGO _ hm) (by omega)
  ·intro c hc
   rw [List.flatten_append] at hc
   rcases jq.1 hc with rfl | hc
   ·exact .inl (jp _)
   ·rcases jm.1 hc with hc | hc
    ·exact .inr (.inl (hsub c hc))
    ·exact .inr (.inr hc)
  ·intro O' hO'
   have happ := (hel.append hy).stable (w' := w.drew.alloc (.cells ((olds ++ news).toArray ++ Builtin.zeroCells (Sc e e.zc).cells (grownCap w (ja xs + ja ys) cap et - (ja xs + ja ys))) et)) (O' := O')
    (fun b _ hb => hold' b hb) hO' (by
     intro b hb
     rw [List.flatten_append] at hb
     rcases jm.1 hb with hb | hb
     ·exact hold' b (hlt b hb)
     ·exact hold' b (hGO b hb))
   have hol : (olds ++ news).length = ja (jf xs ys) * e.size := (hel.append hy).len
   refine ⟨?_, keep _ (fun c hc => hold' c hc) O' hO'⟩
   refine ⟨by rw [hal]; omega, .inr ⟨w.heap.size, 0, _, _, et, Fs ++ Gs, by rw [hal], heap_alloc_new w.drew _, by rw [hal]; exact hge, by omega, ?_, rfl, ?_⟩⟩
   ·simp only [Array.size_append, ym, size_zeroCells, hzs, hol, hal, ← yd, jt]
    exact jn _ (by omega)
   ·have : Rc ((olds ++ news).toArray ++ Builtin.zeroCells (Sc e e.zc).cells (grownCap w (ja xs + ja ys) cap et - (ja xs + ja ys))) 0 (ja (jf xs ys) * e.size) = olds ++ news := by
     simp only [Rc, List.drop_zero, Array.toList_append]
     rw [← hol]
     exact List.take_left
    rw [this]
    exact happ
 obtain ⟨hm, ⟨h1, h2, h3⟩ | ⟨bl, off, cap, cur, ct, Fs, h1, hh, h2, h3, h4, hF, hel⟩⟩ := hx
 ·subst h2
  by_cases hm0 : ja ys = 0
  ·have hy0 : ys = ([] : List (T e)) := q6 hm0
   subst hy0
   have hnews : news = [] := q6 (by rw [hs.newsLen]; simp)
   subst hnews
   have hr := run_append_nothing (P := P) w t tx ty et i ht hi none 0 0 (jp _) x hs'
   refine ⟨_, w, [], by rw [h1]; exact hr, rfl, jp _, fun _ _ _ => rfl, rfl, rfl, rfl, List.nodup_nil, by simp, fun O' _ => ⟨⟨by simp, .inl ⟨rfl, rfl, rfl⟩⟩, by simp, .inl ⟨h1, rfl, h3⟩⟩⟩
  ·refine grow none 0 [] [] (by rw [h1]; rfl) (by simp; omega) ?_ El.nil (by simp) (by simpa [h3] using hn) (by simp)
   simpa using run_firstCells_none (P := P) w.drew i.size 0 0 0
 ·have hcap := jn e.size h2
  by_cases hroom : ja xs + ja ys ≤ cap
  ·have hcap2 := jn e.size hroom
   rw [yd] at hcap2
   have hnl := hs.newsLen
   have hr := QN (P := P) (w := w) (b := bl) (off := off) (sLen := ja xs) (sCap := cap) t tx ty et i ht hi hs' hh hroom (by rw [hsz]; omega)
   rw [hsz] at hr
   have hbF : bl ∉ Fs.flatten ∧ bl ∉ Gs.flatten := by
    rw [hF] at hn
    simp only [yf, yk, jm, not_or] at hn
    exact hn.1
   have hblO : O bl := hFO bl (by rw [hF]; simp)
   have hoth : ∀ c, c ≠ bl → (w.setRow bl (Pb cur.toList (off + ja xs * e.size) news).toArray).heap[c]? = w.heap[c]? := fun c hc => setRow_other w bl c _ hc
   refine ⟨_, _, bl :: (Fs ++ Gs).flatten, by rw [h1]; exact hr, rfl, by simp, fun c _ hc => hoth c fun e => hc (by rw [hF, e]; simp), rfl, rfl, rfl, ?_, ?_, ?_⟩
   ·rw [hF] at hn
    rw [List.flatten_append]
    simpa using hn
   ·intro c hc
    rw [List.flatten_append] at hc
    rw [hF]
    simp only [jq, jm] at hc ⊢
    grind
   ·intro O' hO'
    have happ := (hel.append hy).stable (w' := w.setRow bl (Pb cur.toList (off + ja xs * e.size) news).toArray) (O' := O')
     (fun b hb _ => hoth b fun e => hb (e ▸ hblO)) hO' (by
      intro b hb
      rw [List.flatten_append] at hb
      exact hoth b fun e => by
       subst e
       rcases jm.1 hb with hb | hb
       ·exact hbF.1 hb
       ·exact hbF.2 hb)
    have hcl : cur.toList.length = cur.size := Array.length_toList
    have hsl := Jg (cs := cur.toList) (ce := news) (o := off + ja xs * e.size) (by omega)
    have hold := hel.stable (w' := w.setRow bl (Pb cur.toList (off + ja xs * e.size) news).toArray) (O' := O')
     (fun b hb _ => hoth b fun e => hb (e ▸ hblO)) hO' (by
      intro b hb
      exact hoth b fun e => by
       subst e
       exact hbF.1 hb)
    have hseg : Rc (Pb cur.toList (off + ja xs * e.size) news).toArray off (ja xs * e.size) = Rc cur off (ja xs * e.size) := by
     have h5 := HG (cur := cur) (off := off) (n := ja xs * e.size) (news := news) (by omega)
     have h6 := congrArg (List.take (ja xs * e.size)) h5
     rw [List.take_left' (Vc (by omega))] at h6
     rw [← h6]
     unfold Rc
     rw [List.take_take]
     congr 1
     omega
    refine ⟨?_, by omega, .inr ⟨bl, off, cap, _, ct, Fs, h1, setRow_heap w bl cur _ ct (0, 0) hh, h2, h3, by rw [ym, hsl, hcl]; exact h4, hF, by rw [hseg]; exact hold⟩⟩
    refine ⟨by rw [hal]; omega, .inr ⟨bl, off, cap, _, ct, Fs ++ Gs, by rw [hal], setRow_heap w bl cur _ ct (0, 0) hh, by rw [hal]; exact hroom, h3, ?_, rfl, ?_⟩⟩
    ·rw [ym, hsl, hcl]
     exact h4
    ·rw [hal, yd, ← hnl, HG (by omega)]
     exact happ
  ·refine grow (some ⟨bl, off, none⟩) cap (Rc cur off (ja xs * e.size)) Fs h1 (by omega) ?_ hel (fun c hc => by rw [hF]; exact js _ hc) ?_ ?_
   ·refine run_firstCells_some (P := P) w.drew i.size (ja xs) ⟨bl, off, none⟩ (ja xs) cap _ (by rw [hsz]; exact Vc (by omega)) ?_
    intro j u hu
    rw [Lm]
    show w.cell? _ = _
    rw [cell_of_row w bl (off + j) cur ct (0, 0) hh]
    have hj : j < ja xs * e.size := by
     have := (q7.1 hu).1
     rwa [Vc (by omega)] at this
    rwa [Me _ _ _ _ hj] at hu
   ·rw [hF] at hn
    exact (yk.1 (by simpa using hn)).2
   ·intro c hc
    obtain ⟨i', hi', hm'⟩ := Uh hc
    have := hel.el i' (by rw [← hel.flen]; exact hi')
    cases dq with
    | true =>
     simp only [if_true] at this
     exact this.lt c hm'
    | false =>
     simp only [jr, if_false] at this
     rw [this.2] at hm'
     simp at hm'
end
theorem DJ {L : List Value} {i size j : Nat} (hj : j < size) : (Gw L i size)[j]? = L[i * size + j]? := by
 simp [Gw, hj]
theorem El.one {w : World} {O : Nat → Prop} {dq : Bool} {e : Ty} {xs : List (T e)} {L : List Value} {Fs : List (List Nat)} (h : El w O dq e xs L Fs) : ∀ v ∈ L, v.oneCell' = true := by
 intro v hv
 obtain ⟨p, hp, hpv⟩ := qs.1 hv
 have hlen := h.len
 rcases Nat.eq_zero_or_pos e.size with h0 | h0
 ·rw [h0, Nat.mul_zero] at hlen
  omega
 ·have hi : p / e.size < ja xs := by
   rw [Nat.div_lt_iff_lt_mul h0]
   omega
  have hdm : p / e.size * e.size + p % e.size = p := Nat.div_add_mod' p e.size
  have hm : (Gw L (p / e.size) e.size)[p % e.size]? = some v := by
   rw [DJ (Nat.mod_lt _ h0), hdm, je hp, hpv]
  have hmem : v ∈ Gw L (p / e.size) e.size := List.mem_of_getElem? hm
  have := h.el _ hi
  cases dq with
  | true =>
   simp only [if_true] at this
   exact this.one v hmem
  | false =>
   simp only [jr, if_false] at this
   exact this.1.one v hmem
theorem Dh.up {w : World} {O : Nat → Prop} {dp : Bool} {e : Ty} {xs : List (T e)} {v : Value} {F : List Nat} (h : Dh w O dp e xs v F) : Dh w O (dp || e.flat) e xs v F := by
 cases dp with
 | true => exact h
 | false =>
  cases hf : e.flat with
  | false => exact h
  | true =>
   obtain ⟨hm, h | ⟨bl, off, cap, cur, et, Fs, h1, hh, h2, h3, h4, hF, hel⟩⟩ := h
   ·exact ⟨hm, .inl h⟩
   ·refine ⟨hm, .inr ⟨bl, off, cap, cur, et, Fs, h1, hh, h2, h3, h4, hF, hel.len, hel.flen, fun i hi => ?_⟩⟩
    have := hel.el i hi
    simp only [jr, if_false] at this
    simp only [yr, if_true]
    rw [this.2]
    exact this.1.flat hf
theorem OQ {L M : List (List Nat)} (h : L.Sublist M) : L.flatten.Sublist M.flatten := by
 induction h with
 | slnil => simp
 | cons a _ ih => rw [yn]; exact ih.trans (List.sublist_append_right _ _)
 | cons_cons a _ ih => rw [yn, yn]; exact (List.Sublist.refl a).append ih
theorem El.nils {w : World} {O : Nat → Prop} {e : Ty} {xs : List (T e)} {L : List Value} {Fs : List (List Nat)} (h : El w O e.flat e xs L Fs) : Fs.flatten = [] :=
 Jy fun i hi => by
  have := h.el i (by rw [← h.flen]; exact hi)
  split at this
  ·rename_i hfl; exact Ar hfl this
  ·exact this.2
theorem El.cut {w : World} {O : Nat → Prop} {dq : Bool} {e : Ty} {xs : List (T e)} {L : List Value} {Fs : List (List Nat)} (h : El w O dq e xs L Fs) {lo hi : Nat} (hlo : lo ≤ hi) (hhi : hi ≤ ja xs) :
 El w O dq e (Cc xs lo hi) ((L.drop (lo * e.size)).take ((hi - lo) * e.size)) ((Fs.drop lo).take (hi - lo)) := by
 have hlen : ja (Cc xs lo hi) = hi - lo := JA (xs := (xs : List (T e))) (lo := lo) hhi
 have hmul : (lo + (hi - lo)) * e.size ≤ ja xs * e.size := jn _ (by omega)
 rw [yd] at hmul
 refine ⟨?_, ?_, fun i hi' => ?_⟩
 ·rw [List.length_take, List.length_drop, h.len, hlen]; omega
 ·rw [List.length_take, List.length_drop, h.flen, hlen]; omega
 ·have hi2 : i < hi - lo := by rw [← hlen]; exact hi'
  have h2 : lo + i < ja xs := by omega
  have := h.el (lo + i) h2
  rw [WM (xs := (xs : List (T e))) hi' h2]
  have hg : ((Fs.drop lo).take (hi - lo)).getD i [] = Fs.getD (lo + i) [] := by
   simp [qq, hi2]
  have he : Gw ((L.drop (lo * e.size)).take ((hi - lo) * e.size)) i e.size = Gw L (lo + i) e.size := by
   unfold Gw
   have h3 : (i + 1) * e.size ≤ (hi - lo) * e.size := jn _ hi2
   rw [yo] at h3
   rw [List.drop_take, List.take_take, qo, yd]
   congr 1
   omega
  rw [hg, he]
  exact this
theorem Dh.slice {w : World} {O : Nat → Prop} {dp : Bool} {e : Ty} {xs : List (T e)} {v : Value} {F : List Nat} (h : Dh w O dp e xs v F) : ∃ ad cap, v = .slice ad (ja xs) cap ∧ ja xs ≤ cap := by
 obtain ⟨hm, ⟨h1, h2, h3⟩ | ⟨bl, off, cap, cur, et, Fs, h1, hh, h2, _⟩⟩ := h
 ·subst h2; exact ⟨none, 0, h1, jp _⟩
 ·exact ⟨_, cap, h1, h2⟩
theorem Dh.addr {w : World} {O : Nat → Prop} {dp : Bool} {e : Ty} {xs : List (T e)} {v : Value} {F : List Nat} (h : Dh w O dp e xs v F) {ad : Addr} {n cap : Nat} (hv : v = .slice (some ad) n cap) : ∃ b off, ad = ⟨b, off, none⟩ := by
 obtain ⟨hm, ⟨h1, h2, h3⟩ | ⟨bl, off, cap, cur, et, Fs, h1, hh, h2, _⟩⟩ := h
 ·rw [hv] at h1; simp at h1
 ·rw [hv] at h1
  simp only [Value.slice.injEq, jc] at h1
  exact ⟨bl, off, h1.1⟩
theorem Dh.cut {w : World} {O : Nat → Prop} {dp : Bool} {e : Ty} {xs : List (T e)} {v : Value} {F : List Nat} (h : Dh w O dp e xs v F) {ad : Option Addr} {n cap lo hi j : Nat} (hv : v = .slice ad n cap) (hlo : lo ≤ hi) (hhi : hi ≤ ja xs)
 (hj1 : j ≤ lo) (hj2 : lo < cap → j = lo) :
 ∃ F', F'.Sublist F ∧ (F.length ≤ 1 → F' = F) ∧ Dh w O dp e (Cc xs lo hi) (.slice (ad.map (·.add (j * e.size))) (hi - lo) (cap - lo)) F' := by
 have hlen : ja (Cc xs lo hi) = hi - lo := JA (xs := (xs : List (T e))) (lo := lo) hhi
 obtain ⟨hm, ⟨h1, h2, h3⟩ | ⟨bl, off, cap', cur, et, Fs, h1, hh, h2, h3, h4, hF, hel⟩⟩ := h
 ·subst h2
  rw [hv] at h1
  simp only [Value.slice.injEq] at h1
  obtain ⟨rfl, rfl, rfl⟩ := h1
  simp at hhi
  obtain rfl : lo = 0 := by omega
  subst hhi
  exact ⟨[], by simp, fun _ => h3.symm, by simp [Cc], .inl ⟨by simp, by simp [Cc], rfl⟩⟩
 ·rw [hv] at h1
  simp only [Value.slice.injEq] at h1
  obtain ⟨rfl, rfl, rfl⟩ := h1
  have hcap := jn e.size h2
  have hjc : j * e.size ≤ cap * e.size := jn _ (by omega)
  have hmul : (lo + (hi - lo)) * e.size ≤ ja xs * e.size := jn _ (by omega)
  rw [yd] at hmul
  have hsl : ((Fs.drop lo).take (hi - lo)).flatten.Sublist Fs.flatten := OQ ((List.take_sublist _ _).trans (List.drop_sublist _ _))
  refine ⟨bl :: ((Fs.drop lo).take (hi - lo)).flatten, ?_, ?_, by rw [hlen]; omega, .inr ⟨bl, off + j * e.size, cap - lo, cur, et, _, ?_, hh, by rw [hlen]; omega, by omega, ?_, rfl, ?_⟩⟩
  ·rw [hF]
   exact hsl.cons_cons _
  ·intro h1
   rw [hF] at h1 ⊢
   simp only [jx] at h1
   have h2 : Fs.flatten = [] := q6 (by omega)
   rw [h2] at hsl ⊢
   rw [List.eq_nil_of_sublist_nil hsl]
  ·rw [hlen]; simp [Lm]
  ·have : (j + (cap - lo)) * e.size ≤ cap * e.size := jn _ (by omega)
   rw [yd] at this
   omega
  ·have hc := hel.cut hlo hhi
   rw [hlen]
   rcases Nat.lt_or_ge lo cap with hl | hl
   ·obtain rfl := hj2 hl
    rw [GG _ _ _ _ _ hmul] at hc
    exact hc
   ·have h0 : hi - lo = 0 := by omega
    have hx0 : Cc xs lo hi = ([] : List (T e)) := q6 (hlen.trans h0)
    rw [h0] at hc ⊢
    simpa [Rc] using hc
theorem Dh.flatup {w : World} {O : Nat → Prop} {dp : Bool} {e : Ty} {xs : List (T e)} {v : Value} {F : List Nat} (h : Dh w O dp e xs v F) (hf : e.flat = true ∨ dp = false) : Dh w O e.flat e xs v F := by
 cases hfl : e.flat with
 | true => have := h.up; rw [hfl, Bool.or_true] at this; exact this
 | false =>
  rcases hf with h1 | h1
  ·rw [hfl] at h1; simp at h1
  ·rw [h1] at h; exact h
theorem Dh.len1 {w : World} {O : Nat → Prop} {e : Ty} {xs : List (T e)} {v : Value} {F : List Nat} (h : Dh w O e.flat e xs v F) : F.length ≤ 1 := by
 obtain ⟨hm, ⟨_, _, h3⟩ | ⟨bl, off, cap, cur, et, Fs, h1, hh, h2, h3, h4, hF, hel⟩⟩ := h
 ·rw [h3]; simp
 ·have : Fs.flatten = [] := hel.nils
  rw [hF, this]; simp
theorem Dh.stable {w w' : World} {O O' : Nat → Prop} {dp : Bool} {e : Ty} {xs : List (T e)} {v : Value} {F : List Nat} (h : Dh w O dp e xs v F)
 (hv : ∀ b, ¬ O b → b < w.heap.size → w'.heap[b]? = w.heap[b]?) (hO : ∀ b, b < w.heap.size → ¬ O b → ¬ O' b) (hF : ∀ b, b ∈ F → w'.heap[b]? = w.heap[b]?) : Dh w' O' dp e xs v F := by
 obtain ⟨hm, h | ⟨bl, off, cap, cur, et, Fs, h1, hh, h2, h3, h4, hF', hel⟩⟩ := h
 ·exact ⟨hm, .inl h⟩
 ·subst hF'
  exact ⟨hm, .inr ⟨bl, off, cap, cur, et, Fs, h1, (hF bl (by simp)).trans hh, h2, h3, h4, rfl, hel.stable hv hO fun b hb => hF b (js _ hb)⟩⟩
section
variable {P : Program} {Out : Type} {n0 : Nat} {A : Fx} {O0 : Nat → Prop} {w0 w w' : World} {s : AS} {σ σ' : Nat → Value} {φ φ' : Nat → List Nat} {a : Act}
variable {o : Oper} {Q : Exit → Act → World → Prop} {k : AS → Option Out} {out : Out} {d : D} {v : Value} {upd : List (Nat × Option Ja)} {dst : Option Tmp} {G : Qd}
theorem WR {size : Nat} {tx : TypeId} (hk : (∃ e', P.underlying tx = some (.slice e')) ∨ P.underlying tx = some .string) (cap : Nat) : Src P size tx (.slice none 0 cap) 0 [] w :=
 ⟨hk, fun _ => rfl, run_firstCells_none w size 0 0 cap, run_firstCells_none w.drew size 0 0 cap, by simp, fun _ h => by cases h⟩
theorem XN {size : Nat} {tx : TypeId} (hk : (∃ e', P.underlying tx = some (.slice e')) ∨ P.underlying tx = some .string) (ad : Addr) (n cap : Nat) (news : List Value) (hl : news.length = n * size)
 (hnews : ∀ j u, news[j]? = some u → w.cell? (ad.add j) = some u) (h1 : ∀ u ∈ news, u.oneCell' = true) : Src P size tx (.slice (some ad) n cap) n news w :=
 ⟨hk, fun _ => rfl, run_firstCells_some w size n ad n cap news hl hnews, run_firstCells_some w.drew size n ad n cap news hl (by simpa using hnews), hl, h1⟩
theorem NT {bl off n : Nat} {cur : Array Value} {et : TypeId} {fr : Nat × Nat} (hh : w.heap[bl]? = some (.cells cur et fr)) (hs : off + n ≤ cur.size) :
 ∀ j u, (Rc cur off n)[j]? = some u → w.cell? ((⟨bl, off, none⟩ : Addr).add j) = some u := by
 intro j u hu
 rw [Lm, cell_of_row w bl (off + j) cur et fr hh]
 have hj : j < n := by
  have := (q7.1 hu).1
  rwa [Vc hs] at this
 rwa [Me _ _ _ _ hj] at hu
theorem Q3 {e : Ty} {O : Nat → Prop} {dq : Bool} {ys : List (T e)} {F : List Nat} {tx : TypeId} (hk : (∃ e', P.underlying tx = some (.slice e')) ∨ P.underlying tx = some .string) (h : Dh w O dq e ys v F) :
 ∃ news Gs, Src P e.size tx v (ja ys) news w ∧ El w O dq e ys news Gs ∧ Gs.flatten.Sublist F := by
 obtain ⟨hm, ⟨h1, h2, h3⟩ | ⟨bl, off, cap, cur, et, Fs, h1, hh, h2, h3, h4, hF, hel⟩⟩ := h
 ·subst h2
  rw [h1]
  exact ⟨[], [], WR hk 0, El.nil, by simp⟩
 ·have := jn e.size h2
  refine ⟨_, Fs, ?_, hel, by rw [hF]; exact List.sublist_cons_self _ _⟩
  rw [h1]
  exact XN hk _ _ _ _ hel.len (NT hh (by omega)) hel.one
theorem UH (h : Ra n0 A O0 w0 s σ φ a w) {id : Nat} {e : Ty} {dp : Bool} {xs : List (T e)} (hb : s.heap id = some (.row e dp xs)) (hv : Nc w (OO O0 s φ) s.heap σ (.own id) v) :
 Dh w (OO O0 s φ) (dp || e.flat) e xs v (φ id) := by
 have := Zj.1 (h.hp id _ hb)
 rw [Xz] at hv
 rw [hv.2 _ _ hb rfl]
 exact this.up
theorem VR (h : Ra n0 A O0 w0 s σ φ a w) {e : Ty} {db : D} {ys : List (T e)} {dq : Bool} {m : List Nat} (hs : JD s e db = some (ys, dq, m)) (hv : Nc w (OO O0 s φ) s.heap σ db v)
 {tx : TypeId} (hk : (∃ e', P.underlying tx = some (.slice e')) ∨ P.underlying tx = some .string) :
 ∃ news Gs, Src P e.size tx v (ja ys) news w ∧ El w (OO O0 s φ) dq e ys news Gs ∧ Gs.flatten.Sublist (Ia φ m) ∧ ∀ j, j ∈ m → ∃ b, s.heap j = some b := by
 unfold JD at hs
 split at hs
 ·simp only [jc, jh] at hs
  obtain ⟨rfl, rfl, rfl⟩ := hs
  rw [FD] at hv
  rw [hv]
  exact ⟨[], [], WR hk 0, El.nil, by simp, by simp⟩
 ·rename_i e' ys'
  split at hs
  ·rename_i q hq
   subst q
   simp only [jc, jh] at hs
   obtain ⟨rfl, rfl, rfl⟩ := hs
   rw [MC] at hv
   obtain ⟨ad, cap, hv, hc, hm, hd⟩ := hv
   simp only [yg, and_true] at hv
   rcases hd with hd | ⟨bl, off, cur, et, fr, hd, hO, hh, hsz, hel⟩
   ·subst hd
    rw [hv]
    refine ⟨[], [], ?_, El.nil, by simp, by simp⟩
    cases ad with
    | none => exact WR hk cap
    | some ad => exact XN hk ad 0 cap [] (by simp) (by simp) (by simp)
   ·have hEl : El w (OO O0 s φ) e'.flat e' ys' (Rc cur off (ja ys' * e'.size)) (yb (ja ys') []) := by
     refine ⟨Vc hsz, by simp, fun i hi => ?_⟩
     have hg : (yb (ja ys') ([] : List Nat)).getD i [] = [] := by simp [qq, hi]
     rw [OF hi, hg]
     cases hf : e'.flat with
     | true => exact (hel i hi).flat hf
     | false => simpa using hel i hi
    refine ⟨_, _, ?_, hEl, by simp, by simp⟩
    rw [hv, hd]
    exact XN hk _ _ _ _ hEl.len (NT hh hsz) hEl.one
  ·simp at hs
 ·rename_i y
  split at hs
  ·rename_i q hq
   subst q
   simp only [jc, jh] at hs
   obtain ⟨rfl, rfl, rfl⟩ := hs
   rw [Bl] at hv
   rw [hv]
   have hbl : ja (Jn y) = (⟨qp y⟩ : ByteArray).size := by simp [Jn, ByteArray.size]
   have hEl : El w (OO O0 s φ) true (.i .u8) (Jn y) (byteCells ⟨qp y⟩) (yb (ja (Jn y)) []) := by
    refine ⟨by rw [byteCells_length, ← hbl]; simp [Ty.size], by simp, fun i hi => ?_⟩
    have hg : (yb (ja (Jn y)) ([] : List Nat)).getD i [] = [] := by simp [qq, hi]
    rw [hg]
    simp only [if_true, Ob, and_true]
    apply qn
    intro j
    cases j with
    | zero =>
     rw [DJ (by simp [Ty.size])]
     have hi' : i < y.length := by simpa [Jn] using hi
     simp [Ty.size, byteCells, Jn, hi']
    | succ j => simp [Gw, Ty.size]; omega
   refine ⟨byteCells ⟨qp y⟩, _, ⟨hk, fun _ => ?_, ?_, ?_, hEl.len, hEl.one⟩, hEl, by simp, by simp⟩
   ·rw [hbl]; rfl
   ·rw [hbl]; exact firstCells_string _ _
   ·rw [hbl]; exact firstCells_string _ _
  ·simp at hs
 ·rename_i id
  split at hs
  ·rename_i e' dp ys' hb
   split at hs
   ·rename_i q hq
    subst q
    simp only [jc, jh] at hs
    obtain ⟨rfl, rfl, rfl⟩ := hs
    have hrow := UH h hb hv
    obtain ⟨news, Gs, h1, h2, h3⟩ := Q3 (P := P) (tx := tx) hk hrow
    refine ⟨news, Gs, h1, h2, ?_, ?_⟩
    ·cases hf : e'.flat with
     | false => simpa [Ia] using h3
     | true =>
      have : Gs.flatten = [] := Jy fun i hi => by
       have := h2.el i (by rw [← h2.flen]; exact hi)
       simp only [hf, Bool.or_true, if_true] at this
       exact Ar hf this
      rw [this]; simp
    ·intro j hj
     cases hf : e'.flat with
     | true => rw [hf] at hj; simp at hj
     | false => rw [hf] at hj; simp at hj; subst hj; exact ⟨_, hb⟩
   ·simp at hs
  ·simp at hs
 ·rename_i id lo hi
  split at hs
  ·rename_i e' dp ys' hb
   split at hs
   ·rename_i q hq
    subst q
    cases hf : (e'.flat || !dp) with
    | false => rw [hf] at hs; simp at hs
    | true =>
     rw [hf] at hs
     simp only [y3, jc, jh] at hs
     obtain ⟨rfl, rfl, rfl⟩ := hs
     simp only [Nc, Ae, D.isAgg, jr, if_false, Wa] at hv
     obtain ⟨u, hu', h1c, hv⟩ := hv
     simp only [yg, and_true] at hu'
     obtain ⟨hlo, hhi, ad, cap, j, hs0, hcap, hj1, hj2, hu2⟩ := hv _ _ _ hb rfl
     have hrow := Zj.1 (h.hp id _ hb)
     obtain ⟨F', hsub, _, hrow'⟩ := hrow.cut hs0 hlo hhi hj1 hj2
     have hrow2 := hrow'.flatup (by simpa using hf)
     rw [← hu2, ← hu'] at hrow2
     obtain ⟨news, Gs, h1, h2, h3⟩ := Q3 (P := P) (tx := tx) hk hrow2
     refine ⟨news, Gs, h1, h2, ?_, by simp⟩
     have : Gs.flatten = [] := h2.nils
     rw [this]; simp [Ia]
   ·simp at hs
  ·simp at hs
 ·simp at hs
theorem Wag (h : Ra n0 A O0 w0 s σ φ a w) {e : Ty} {da : D} {xs : List (T e)} {dp : Option Bool} {l : List Nat} (hs : XM s e da = some (xs, dp, l)) (hv : Nc w (OO O0 s φ) s.heap σ da v)
 {dq : Bool} (hd : dp.getD dq = dq) : Dh w (OO O0 s φ) dq e xs v (Ia φ l) ∧ ∀ j, j ∈ l → ∃ b, s.heap j = some b := by
 unfold XM at hs
 split at hs
 ·simp only [jc, jh] at hs
  obtain ⟨rfl, rfl, rfl⟩ := hs
  rw [FD] at hv
  exact ⟨⟨by simp, .inl ⟨hv, rfl, by simp [Ia]⟩⟩, by simp⟩
 ·rename_i id
  split at hs
  ·rename_i e' dp' ys' hb
   split at hs
   ·rename_i q hq
    subst q
    simp only [jc, jh] at hs
    obtain ⟨rfl, rfl, rfl⟩ := hs
    simp only [qx] at hd
    have hrow := UH h hb hv
    rw [hd] at hrow
    refine ⟨by simpa [Ia] using hrow, ?_⟩
    intro j hj
    simp at hj
    subst hj
    exact ⟨_, hb⟩
   ·simp at hs
  ·simp at hs
 ·rename_i id lo hi
  split at hs
  ·rename_i e' dp' ys' hb
   split at hs
   ·rename_i q hq
    subst q
    cases hf : (e'.flat || !dp') with
    | false => rw [hf] at hs; simp at hs
    | true =>
     rw [hf] at hs
     simp only [y3, jc, jh] at hs
     obtain ⟨rfl, rfl, rfl⟩ := hs
     simp only [qx] at hd
     simp only [Nc, Ae, D.isAgg, jr, if_false, Wa] at hv
     obtain ⟨u, hu', h1c, hv⟩ := hv
     simp only [yg, and_true] at hu'
     obtain ⟨hlo, hhi, ad, cap, j, hs0, hcap, hj1, hj2, hu2⟩ := hv _ _ _ hb rfl
     have hrow := Zj.1 (h.hp id _ hb)
     have hrow1 := hrow.flatup (by simpa using hf)
     obtain ⟨F', hsub, hF', hrow'⟩ := hrow1.cut hs0 hlo hhi hj1 hj2
     rw [← hu2, ← hu', hF' hrow1.len1, hd] at hrow'
     refine ⟨by simpa [Ia] using hrow', ?_⟩
     intro j hj
     simp at hj
     subst hj
     exact ⟨_, hb⟩
   ·simp at hs
  ·simp at hs
 ·simp at hs
theorem Jaa (hG : EnvTy P G) (h : Ra n0 A O0 w0 s σ φ a w) {args : Array Operand} {ts : Array TypeId} (ho : o.op = .call ⟨.builtin .append, args, ts⟩) (hml : ZC G o.dst = false)
 (he : Se G s o k = some out) : o.wp P a w (Zd n0 A O0 w0 k out) Q := by
 simp only [Se, Qb, ho] at he
 split at he
 ·rename_i x y t tx hargs hts
  unfold DC at he
  rw [hml] at he
  simp only [y8] at he
  unfold Vt at he
  split at he
  ·rename_i tt e da db hd hty hx hy
   split at he
   ·rename_i xs dp l ys dq m hdst hsrc
    cases hc : ((dp.getD dq == dq) && s.newOk tt && Mf (l ++ m) && GC (Eb G.ty tx)) with
    | false => rw [hc] at he; simp at he
    | true =>
     rw [hc] at he
     simp only [y3] at he
     simp only [jd, beq_iff_eq] at hc
     obtain ⟨⟨⟨hdq, hnew⟩, hnd⟩, hkx⟩ := hc
     have hnd := Rh hnd
     cases hlim : jy (ja xs + ja ys) Nb with
     | false => rw [hlim] at he; simp at he
     | true =>
      rw [hlim] at he
      simp only [y3] at he
      have hlim := qz hlim
      obtain ⟨et, hu, hte⟩ := Tok.sl (hG.ty _ _ hty)
      have hk : (∃ e', P.underlying tx = some (.slice e')) ∨ P.underlying tx = some .string := by
       unfold GC at hkx
       split at hkx
       ·rename_i e' hq
        obtain ⟨et', hu', _⟩ := Tok.sl (hG.ty _ _ hq)
        exact .inl ⟨et', hu'⟩
       ·rename_i hq
        exact .inr (Tok.s (hG.ty _ _ hq))
       ·simp at hkx
      obtain ⟨hrow, hl1⟩ := Wag h hdst (h.ev hx) hdq
      obtain ⟨news, Gs, hS, hEl, hsub, hl2⟩ := VR (P := P) h hsrc (h.ev hy) hk
      have hlive : ∀ j, j ∈ l ++ m → ∃ b, s.heap j = some b := by
       intro j hj
       rcases jm.1 hj with hj | hj
       ·exact hl1 j hj
       ·exact hl2 j hj
      have hbn := Qf h hnd hlive
      rw [Rd] at hbn
      obtain ⟨v', w', F', hr, h1, hsz, hbl, hos, htape, hout, hF', hsubF, hres⟩ := CM (P := P) (t := t) (tx := tx) (ty := o.type) hu hte hrow hS hEl
       (List.Sublist.nodup (List.Sublist.append (List.Sublist.refl _) hsub) hbn) hlim
       (by
        intro c hc
        obtain ⟨j, hj, hm⟩ := Gb.1 hc
        obtain ⟨b, hb⟩ := hl1 j hj
        exact .inr ⟨j, b, hb, hm⟩)
       (by
        intro c hc
        obtain ⟨j, hj, hm⟩ := Gb.1 (hsub.subset hc)
        obtain ⟨b, hb⟩ := hl2 j hj
        exact (h.hp j b hb).lt c hm)
      have hc := h.absorb (w' := w') hnew (l ++ m) hlive (.row e dq (jf xs ys)) v' F' hsz
       (by
        intro b hb hno
        refine hbl b hb fun hm => ?_
        obtain ⟨j, hj, hm⟩ := Gb.1 hm
        exact hno j (qt _ hj) hm)
       hos htape hout hF'
       (by
        intro b hb
        rcases hsubF b hb with hb | hb | hb
        ·exact .inl hb
        ·obtain ⟨j, hj, hm⟩ := Gb.1 hb
         exact .inr ⟨j, qt _ hj, hm⟩
        ·obtain ⟨j, hj, hm⟩ := Gb.1 (hsub.subset hb)
         exact .inr ⟨j, qu _ hj, hm⟩)
       (by
        intro hp' σ' O' hσ hO'
        rw [Zj, hσ]
        exact (hres O' hO').1)
      refine Jb (w' := w') (v := v') ?_ (Hd rfl hc ?_ he)
      ·have hts' : ts = #[t, tx] := by
        apply Array.ext'
        rw [hts]
       rw [Mm ho hargs, hts']
       simp [builtin, hr]
      ·exact Su (e := e) (dp := dq) (xs := jf xs ys) h1 (by rw [yf, Zc, if_pos rfl])
   ·simp at he
  ·simp at he
 ·simp at he
end
section
variable {P : Program} {Out : Type} {n0 : Nat} {A : Fx} {O0 : Nat → Prop} {w0 w w' : World} {s : AS} {σ σ' : Nat → Value} {φ φ' : Nat → List Nat} {a : Act}
variable {o : Oper} {Q : Exit → Act → World → Prop} {k : AS → Option Out} {out : Out} {d : D} {v : Value} {upd : List (Nat × Option Ja)} {dst : Option Tmp} {G : Qd}
theorem Ead (hG : EnvTy P G) (h : Ra n0 A O0 w0 s σ φ a w) {t : TypeId} {x : Operand} {lo hi : Option Operand} (ho : o.op = .slice t x lo hi none)
 (he : Se G s o k = some out) : o.wp P a w (Zd n0 A O0 w0 k out) Q := by
 simp only [Se, Qb, ho] at he
 split at he
 ·rename_i v hx
  split at he
  ·rename_i l m hl hm ht
   cases hc : Be (ja v) l m with
   | false => simp [hc] at he
   | true =>
    simp only [hc, y3] at he
    have hv := h.ev hx
    rw [Bl] at hv
    have hu := Tok.s (hG.ty _ _ ht)
    have hsz : (ByteArray.mk (qp v)).size = ja v := by simp [ByteArray.size]
    have hb := Vn (P := P) (cap := ja v) h hl hm hc (jp _) false
    have hex : (ByteArray.mk (qp v)).extract l.toNat m.toNat = ⟨qp (Cc v l.toNat m.toNat)⟩ := by
     apply ByteArray.ext
     simp [Cc, List.drop_take]
    refine Jb (w' := w) (v := .string ⟨qp (Cc v l.toNat m.toNat)⟩) ?_ (Sb h (Bl.2 rfl) he)
    have hr : (Instr.sliceAt t (.string ⟨qp v⟩) (lo.map a.eval) (hi.map a.eval) none).run P w = .ok (.string ⟨qp (Cc v l.toNat m.toNat)⟩) w := by
     simp [Instr.sliceAt, Instr.slice, run_underlying hu, hsz, hb, hex]
    simp [execOp, ho, hv, hr]
  ·simp at he
 ·rename_i e v hx
  split at he
  ·rename_i l m e' hl hm ht
   split at he
   ·rename_i q hq
    obtain rfl := Pc hq
    cases hc : Be (ja v) l m with
    | false => simp [hc] at he
    | true =>
     simp only [hc, y3] at he
     have hv := h.ev hx
     rw [MC] at hv
     obtain ⟨et, hu, hte⟩ := Tok.sl (hG.ty _ _ ht)
     obtain ⟨ad, cap, hcs, hcap, hmx, hcase⟩ := hv
     simp at hcs
     have hb := Vn (P := P) (cap := cap) h hl hm hc hcap true
     have hc' := hc
     simp only [Be, jd, decide_eq_true_eq] at hc'
     have hml : m.toNat ≤ ja v := by omega
     have hlen := JA (xs := (v : List (T e))) (lo := l.toNat) hml
     have hlen' : ja (Cc v l.toNat m.toNat) = m.toNat - l.toNat := hlen
     refine Jb (w' := w) (v := .slice (if cap = l.toNat then ad else ad.map (·.add (l.toNat * e.size))) (m.toNat - l.toNat) (cap - l.toNat)) ?_ (Sb h ?_ he)
     ·have hr : (Instr.sliceAt t (.slice ad (ja v) cap) (lo.map a.eval) (hi.map a.eval) none).run P w = .ok (.slice (if cap = l.toNat then ad else ad.map (·.add (l.toNat * e.size))) (m.toNat - l.toNat) (cap - l.toNat)) w := by
       simp [Instr.sliceAt, Instr.slice, run_underlying hu, hb, Tok.sizeOf hte w]
      simp [execOp, ho, hcs, hr]
     ·rw [MC]
      refine ⟨_, cap - l.toNat, by rw [hlen'], by rw [hlen']; omega, by rw [hlen']; omega, ?_⟩
      rcases Nat.eq_or_lt_of_le (show l.toNat ≤ m.toNat by omega) with heq | hlt
      ·left
       exact q6 (by rw [hlen']; omega)
      ·right
       rcases hcase with hemp | ⟨bl, off, cur, et', fr, rfl, hO, hh, hs, hvv⟩
       ·rw [hemp] at hml; simp at hml; omega
       ·have hne : ¬ cap = l.toNat := by omega
        have hmul : (l.toNat + (m.toNat - l.toNat)) * e.size ≤ ja v * e.size := jn _ (by omega)
        rw [yd] at hmul
        refine ⟨bl, off + l.toNat * e.size, cur, et', fr, by rw [if_neg hne]; simp [Lm], hO, hh, by rw [hlen']; omega, fun i hi => ?_⟩
        have hi2 : i < m.toNat - l.toNat := by rw [← hlen']; exact hi
        have h2 : l.toNat + i < ja v := by omega
        have := hvv (l.toNat + i) h2
        rw [WM (xs := (v : List (T e))) hi h2]
        rw [yd, ← ju] at this
        exact this
   ·simp at he
  ·simp at he
 ·rename_i id hx
  unfold DL at he
  split at he
  ·rename_i e dp xs hb
   split at he
   ·rename_i l m e' hl hm ht
    split at he
    ·rename_i q hq
     obtain rfl := Pc hq
     cases hc : Be (ja xs) l m with
     | false => simp [hc] at he
     | true =>
      simp only [hc, y3] at he
      obtain ⟨et, hu, hte⟩ := Tok.sl (hG.ty _ _ ht)
      have hv := h.ev hx
      rw [Xz] at hv
      have hσ := hv.2 _ _ hb rfl
      have hrow := Zj.1 (h.hp id _ hb)
      obtain ⟨ad, cap, hsl, hcap⟩ := hrow.slice
      have hb' := Vn (P := P) (cap := cap) h hl hm hc hcap true
      have hc' := hc
      simp only [Be, jd, decide_eq_true_eq] at hc'
      have hlm : l.toNat ≤ m.toNat := by omega
      have hml : m.toNat ≤ ja xs := by omega
      obtain ⟨j, hj1, hj2, hj3⟩ : ∃ j, j ≤ l.toNat ∧ (l.toNat < cap → j = l.toNat) ∧ (if cap = l.toNat then ad else ad.map (·.add (l.toNat * e.size))) = ad.map (·.add (j * e.size)) := by
       by_cases hcl : cap = l.toNat
       ·refine ⟨0, by omega, by omega, ?_⟩
        rw [if_pos hcl]
        cases ad with
        | none => rfl
        | some ad =>
         have := hrow.addr hsl
         obtain ⟨b, off, rfl⟩ := this
         simp [Lm]
       ·exact ⟨l.toNat, by omega, fun _ => rfl, by rw [if_neg hcl]⟩
      have hr : (execOp a.eval o).run P w = .ok (.value (.slice (ad.map (·.add (j * e.size))) (m.toNat - l.toNat) (cap - l.toNat))) w := by
       rw [← hj3]
       have hr : (Instr.sliceAt t (.slice ad (ja xs) cap) (lo.map a.eval) (hi.map a.eval) none).run P w = .ok (.slice (if cap = l.toNat then ad else ad.map (·.add (l.toNat * e.size))) (m.toNat - l.toNat) (cap - l.toNat)) w := by
        simp [Instr.sliceAt, Instr.slice, run_underlying hu, hb', Tok.sizeOf hte w]
       simp [execOp, ho, hσ.trans hsl, hr]
      split at he
      ·rename_i tt hd
       cases hmv : Ou G.mv tt with
       | true =>
        rw [hmv] at he
        simp only [y3] at he
        cases hn : s.newOk tt with
        | false => rw [hn] at he; simp at he
        | true =>
         rw [hn] at he
         simp only [y3] at he
         obtain ⟨F', hsub, _, hrow'⟩ := hrow.cut hsl hlm hml hj1 hj2
         have hne : ∀ b, s.heap id = some b → F'.Nodup := fun b hbb => hsub.nodup (h.nodup id b hbb)
         have hc2 := h.absorb (w' := w) hn [id] (fun j hj => by simp at hj; subst hj; exact ⟨_, hb⟩) (.row e dp (Cc xs l.toNat m.toNat))
          (.slice (ad.map (·.add (j * e.size))) (m.toNat - l.toNat) (cap - l.toNat)) F' (jp _) (fun _ _ _ => rfl) rfl rfl rfl (hne _ hb)
          (fun b hbm => .inr ⟨id, by simp, hsub.subset hbm⟩)
          (by
           intro hp' σ' O' hσ' hO'
           rw [Zj, hσ']
           exact hrow'.stable (fun _ _ _ => rfl) hO' (fun _ _ => rfl))
         refine Jb (w' := w) hr ?_
         rw [hd]
         rw [hd] at he
         exact Hd rfl hc2 (Su (e := e) (dp := dp) (xs := Cc xs l.toNat m.toNat) rfl (by rw [yf]; exact Rf ⟨s.n, s.tm, (id, none) :: s.hp⟩ _ _)) he
       | false =>
        rw [hmv] at he
        simp only [y8] at he
        refine Jb (w' := w) hr (Sb (d := .cut id l.toNat m.toNat) h ?_ he)
        simp only [Nc, Ae, D.isAgg, jr, if_false, Wa]
        refine ⟨_, rfl, rfl, fun blk' e' n' hb2 hr' => ?_⟩
        rw [hb] at hb2
        cases hb2
        simp only [Ja.rowN, jc, jh] at hr'
        obtain ⟨rfl, rfl⟩ := hr'
        exact ⟨hlm, hml, ad, cap, j, hsl, hcap, hj1, hj2, rfl⟩
      ·simp at he
    ·simp at he
   ·simp at he
  ·simp at he
 ·rename_i hx
  split at he
  ·rename_i l m e' hl hm ht
   cases hc : Be 0 l m with
   | false => simp [hc] at he
   | true =>
    simp only [hc, y3] at he
    obtain ⟨et, hu, hte⟩ := Tok.sl (hG.ty _ _ ht)
    have hv := h.ev hx
    rw [FD] at hv
    have hb' := Vn (P := P) (cap := 0) h hl hm hc (jp _) true
    have hc' := hc
    simp only [Be, jd, decide_eq_true_eq] at hc'
    have h0 : l.toNat = 0 := by omega
    have h1 : m.toNat = 0 := by omega
    rw [h0, h1] at hb'
    refine Jb (w' := w) (v := .slice none 0 0) ?_ (Sb h (FD.2 rfl) he)
    have hr : (Instr.sliceAt t (.slice none 0 0) (lo.map a.eval) (hi.map a.eval) none).run P w = .ok (.slice none 0 0) w := by
     simp [Instr.sliceAt, Instr.slice, run_underlying hu, hb', Tok.sizeOf hte w]
    simp [execOp, ho, hv, hr]
  ·simp at he
 ·rename_i id p q hx
  unfold LF at he
  split at he
  ·rename_i e dp xs hb
   split at he
   ·rename_i l m e' hl hm ht
    split at he
    ·rename_i q' hq
     obtain rfl := Pc hq
     cases hc : Be (q - p) l m with
     | false => simp [hc] at he
     | true =>
      simp only [hc, y3] at he
      obtain ⟨et, hu, hte⟩ := Tok.sl (hG.ty _ _ ht)
      have hv := h.ev hx
      simp only [Nc, Ae, D.isAgg, jr, if_false, Wa] at hv
      obtain ⟨u, hu', h1c, hv⟩ := hv
      simp only [yg, and_true] at hu'
      obtain ⟨hpq, hqn, ad, cap, j, hs0, hcap, hj1, hj2, hu2⟩ := hv _ _ _ hb rfl
      have hb' := Vn (P := P) (cap := cap - p) h hl hm hc (by omega) true
      have hc' := hc
      simp only [Be, jd, decide_eq_true_eq] at hc'
      have hlm : l.toNat ≤ m.toNat := by omega
      have hml : m.toNat ≤ q - p := by omega
      refine Jb (w' := w) (v := .slice (if cap - p = l.toNat then ad.map (·.add (j * e.size)) else (ad.map (·.add (j * e.size))).map (·.add (l.toNat * e.size))) (m.toNat - l.toNat) (cap - p - l.toNat)) ?_ (Sb h ?_ he)
      ·have hr : (Instr.sliceAt t (.slice (ad.map (·.add (j * e.size))) (q - p) (cap - p)) (lo.map a.eval) (hi.map a.eval) none).run P w = .ok (.slice (if cap - p = l.toNat then ad.map (·.add (j * e.size)) else (ad.map (·.add (j * e.size))).map (·.add (l.toNat * e.size))) (m.toNat - l.toNat) (cap - p - l.toNat)) w := by
        simp only [Instr.sliceAt, Instr.slice, run_underlying hu, hb', Tok.sizeOf hte w, qm, ql, Sem.run_pure]
       simp [execOp, ho, hu'.trans hu2, hr]
      ·simp only [Nc, Ae, D.isAgg, jr, if_false, Wa]
       refine ⟨_, rfl, rfl, fun blk' e' n' hb2 hr' => ?_⟩
       rw [hb] at hb2
       cases hb2
       simp only [Ja.rowN, jc, jh] at hr'
       obtain ⟨rfl, rfl⟩ := hr'
       have e1 : m.toNat - l.toNat = p + m.toNat - (p + l.toNat) := by omega
       have e2 : cap - p - l.toNat = cap - (p + l.toNat) := by omega
       by_cases h2 : cap - p = l.toNat
       ·refine ⟨by omega, by omega, ad, cap, j, hs0, hcap, by omega, by omega, ?_⟩
        rw [if_pos h2, e1, e2]
       ·refine ⟨by omega, by omega, ad, cap, j + l.toNat, hs0, hcap, by omega, fun hl => by have := hj2 (by omega); omega, ?_⟩
        rw [if_neg h2, e1, e2]
        have hrow := Zj.1 (h.hp id _ hb)
        cases ad with
        | none => rfl
        | some ad =>
         obtain ⟨b, off, rfl⟩ := hrow.addr hs0
         simp only [qc, Lm, yd, ju]
    ·simp at he
   ·simp at he
  ·simp at he
 ·simp at he
end
def Ff (w : World) (O : Nat → Prop) : (τ : Ty) → T τ → List Value → Prop
 | .p x y, v, a :: r => (∃ cs, a = Sc x cs ∧ Ka w O x v.1 cs) ∧ Ff w O y v.2 r
 | .u, _, [] => True
 | _, _, _ => False
def Jc (w : World) (O : Nat → Prop) : (τ : Ty) → T τ → List Bool → List Value → List Nat → Prop
 | .p x y, v, f :: r, a :: as, F => ∃ cs F1 F2, a = Sc x cs ∧ F = F1 ++ F2 ∧ (if f then Ob w x v.1 cs F1 else Ka w O x v.1 cs ∧ F1 = []) ∧ Jc w O y v.2 r as F2
 | .u, _, [], [], F => F = []
 | _, _, _, _, _ => False
def TB : List Value → Value
 | [v] => v
 | vs => .tuple vs.toArray
structure Hs (w w' : World) (F : Nat → Prop) : Prop where
 size : w.heap.size ≤ w'.heap.size
 block : ∀ b, b < w.heap.size → ¬ F b → w'.heap[b]? = w.heap[b]?
 os : w'.os = w.os
 tape : w'.tape = w.tape
 output : w'.output = w.output
def Il (w : World) (O : Nat → Prop) (k v : Ty) (xs : List (T k × T v)) (es : Array MapEntry) : Prop := es.size = ja xs ∧
 ∀ i (h : i < ja xs), ∃ e ck cv, es[i]? = some e ∧ e.key = Bd k ck ∧ e.val = Bd v cv ∧ Ka w O k (List.get xs ⟨i, h⟩).1 ck ∧ Ka w O v (List.get xs ⟨i, h⟩).2 cv
def Gv (P : Program) (f : FuncId) : Prop := ∃ fn, P.funcs[f]? = some fn ∧ (fn.name == "runtime.NumGoroutine") = false ∧ fn.body.isNone = false
def Gm (R : Value → World → Prop) : Ending → World → Prop
 | .returned v, w' => R v w'
 | _, _ => False
def Ue (w : World) : (τ : Ty) → T τ → List Value → List Nat → Prop
 | .p x y, v, a :: r, F => ∃ cs F1 F2, a = Sc x cs ∧ F = F1 ++ F2 ∧ Ob w x v.1 cs F1 ∧ Ue w y v.2 r F2
 | .u, _, [], F => F = []
 | _, _, _, _ => False
def Qh (P : Program) (I : Ei) (f : FuncId) : Ya → Prop
 | .pu pt rt fr F => Gv P f ∧ ∀ (O : Nat → Prop) (w : World) (x : T pt) (r : T rt) (args : List Value), F x = some r → Ff w O pt x args → (∀ b, O b → b < w.heap.size) → I.p w → I.base ≤ w.heap.size →
  Calls P f args.toArray w (Gm fun v w' => ∃ vs Fr, v = TB vs ∧ Hs w w' (fun _ => False) ∧ Jc w' (fun b => O b ∨ b ∈ Fr) rt r fr vs Fr ∧ Fr.Nodup ∧ ∀ b ∈ Fr, w.heap.size ≤ b)
 | .io τ pt rt fr F => Gv P f ∧ ∀ (O : Nat → Prop) (w : World) (x0 : T τ) (x : T pt) (r : T τ × T rt) (cs0 : List Value) (F0 : List Nat) (args : List Value), F x0 x = some r →
  Ob w τ x0 cs0 F0 → F0.Nodup → Ff w (fun b => O b ∨ b ∈ F0) pt x args → (∀ b, O b → b < w.heap.size) → I.p w → I.base ≤ w.heap.size → (∀ b, b ∈ F0 → I.base ≤ b) →
  Calls P f (Sc τ cs0 :: args).toArray w (Gm fun v w' => ∃ vs F1 Fr, v = TB vs ∧ Hs w w' (· ∈ F0) ∧ Ob w' τ r.1 cs0 F1 ∧ (∀ b ∈ F1, w.heap.size ≤ b ∨ b ∈ F0) ∧
   Jc w' (fun b => O b ∨ b ∈ F0 ∨ b ∈ F1 ∨ b ∈ Fr) rt r.2 fr vs Fr ∧ (F1 ++ Fr).Nodup ∧ ∀ b ∈ Fr, w.heap.size ≤ b ∨ b ∈ F0)
 | .co pt rt fr F => Gv P f ∧ ∀ (O : Nat → Prop) (w : World) (x : T pt) (r : T rt) (F0 : List Nat) (args : List Value), F x = some r →
  Ue w pt x args F0 → F0.Nodup → (∀ b, O b → b < w.heap.size) → (fr.all id = true ∨ ∀ b, b ∈ F0 → ¬ O b) → I.p w → I.base ≤ w.heap.size → (∀ b, b ∈ F0 → I.base ≤ b) →
  Calls P f args.toArray w (Gm fun v w' => ∃ vs Fr, v = TB vs ∧ Hs w w' (· ∈ F0) ∧
   Jc w' (fun b => O b ∨ b ∈ Fr) rt r fr vs Fr ∧ Fr.Nodup ∧ ∀ b ∈ Fr, w.heap.size ≤ b ∨ b ∈ F0)
 | .bx vw cv τ pt rt fr F => Gv P f ∧ ∀ (O : Nat → Prop) (w : World) (x0 : T τ) (x : T pt) (r : T τ × T rt) (b : Nat) (cur : Array Value) (et : TypeId) (F0 F2 : List Nat) (args : List Value), F x0 x = some r →
  w.heap[b]? = some (.cells cur et (0, 0)) → cur.size = τ.size → (if vw then Ka w (fun c => O c ∨ c = b ∨ c ∈ F2) τ x0 cur.toList ∧ F0 = [] else Ob w τ x0 cur.toList F0) →
  (if cv then Ue w pt x args F2 else Ff w (fun c => O c ∨ c = b ∨ c ∈ F0) pt x args ∧ F2 = []) → (b :: (F0 ++ F2)).Nodup → (∀ b, O b → b < w.heap.size) → I.p w → I.base ≤ w.heap.size → (∀ c, c ∈ b :: (F0 ++ F2) → I.base ≤ c) →
  Calls P f (.pointer (some ⟨b, 0, none⟩) :: args).toArray w (Gm fun v w' => ∃ vs cur' et' F1 Fr, v = TB vs ∧ Hs w w' (· ∈ b :: (F0 ++ F2)) ∧ w'.heap[b]? = some (.cells cur' et' (0, 0)) ∧ cur'.size = τ.size ∧
   (if vw then Ka w' (fun c => O c ∨ c ∈ b :: (F0 ++ F2) ∨ c ∈ Fr) τ r.1 cur'.toList ∧ F1 = [] else Ob w' τ r.1 cur'.toList F1) ∧
   Jc w' (fun c => O c ∨ c ∈ b :: (F0 ++ F2) ∨ c ∈ F1 ∨ c ∈ Fr) rt r.2 fr vs Fr ∧ (b :: (F1 ++ Fr)).Nodup ∧ ∀ c ∈ F1 ++ Fr, w.heap.size ≤ c ∨ c ∈ F0 ++ F2)
 | .nw pt τ F => Gv P f ∧ ∀ (O : Nat → Prop) (w : World) (x : T pt) (r : T τ) (args : List Value), F x = some r → Ff w O pt x args → (∀ b, O b → b < w.heap.size) → I.p w → I.base ≤ w.heap.size →
  Calls P f args.toArray w (Gm fun v w' => ∃ b cur et, v = .pointer (some ⟨b, 0, none⟩) ∧ Hs w w' (fun _ => False) ∧ w.heap.size ≤ b ∧ w'.heap[b]? = some (.cells cur et (0, 0)) ∧ cur.size = τ.size ∧ Ka w' (fun c => O c ∨ c = b) τ r cur.toList)
 | .tp τ k v pt rt F => Gv P f ∧ ∀ (O : Nat → Prop) (w : World) (x0 : T τ) (xs : List (T k × T v)) (x : T pt) (r : T τ × (List (T k × T v) × T rt)) (b m clk : Nat) (cur : Array Value) (et : TypeId) (es : Array MapEntry) (args : List Value), F x0 xs x = some r →
  w.heap[b]? = some (.cells cur et (0, 0)) → cur.size = τ.size + 1 → cur.toList.drop τ.size = [.map (some m)] → w.heap[m]? = some (.map es clk) → Ka w (fun c => O c ∨ c = b ∨ c = m) τ x0 (cur.toList.take τ.size) →
  Il w (fun c => O c ∨ c = b ∨ c = m) k v xs es → Ff w (fun c => O c ∨ c = b ∨ c = m) pt x args → ¬ O b → ¬ O m → (∀ c, O c → c < w.heap.size) → I.p w → I.base ≤ w.heap.size → I.base ≤ b → I.base ≤ m →
  Calls P f (.pointer (some ⟨b, 0, none⟩) :: args).toArray w (Gm fun u w' => ∃ cs cur' et' es' clk', u = Sc rt cs ∧ Hs w w' (fun c => c = b ∨ c = m) ∧ w'.heap[b]? = some (.cells cur' et' (0, 0)) ∧ cur'.size = τ.size + 1 ∧ cur'.toList.drop τ.size = [.map (some m)] ∧
   w'.heap[m]? = some (.map es' clk') ∧ Ka w' (fun c => O c ∨ c = b ∨ c = m) τ r.1 (cur'.toList.take τ.size) ∧ Il w' (fun c => O c ∨ c = b ∨ c = m) k v r.2.1 es' ∧ Ka w' (fun c => O c ∨ c = b ∨ c = m) rt r.2.2 cs)
structure Ui (P : Program) (I : Ei) (G : Qd) : Prop extends EnvTy P G where
 fn : ∀ f sem, Eb G.fn f = some sem → Qh P I f sem
theorem LB {s : AS} : ∀ {d : D} {τ : Ty} {x : T τ}, d.hasOwn = false → Va s d τ = some x → Vf d τ = some x := by
 intro d
 induction d with
 | pr a b iha ihb =>
  intro τ x ho he
  simp only [D.hasOwn, yq] at ho
  cases τ with
  | p t1 t2 =>
   simp only [Va] at he
   split at he
   ·rename_i u v hu hv
    simp only [Vf, iha ho.1 hu, ihb ho.2 hv]
    exact he
   ·simp at he
  | _ => simp [Va] at he
 | own id => intro τ x ho; simp [D.hasOwn] at ho
 | cut id lo hi => intro τ x ho; simp [D.hasOwn] at ho
 | t τ' y => intro τ x _ he; simpa [Va, Vf] using he
 | nil => intro τ x _ he; cases τ <;> simp_all [Va, Vf]
 | un => intro τ x _ he; cases τ <;> simp_all [Va, Vf]
 | _ => intro τ x _ he; cases τ <;> simp [Va] at he
theorem QH {w : World} {σ : Nat → Value} {O : Nat → Prop} {hp : Nat → Option Ja} {τ : Ty} {d : D} {cs : List Value} (hs : Ab τ d) (h : Wa w O hp σ d cs) : Ae w O hp σ d (Sc τ cs) := by
 have ha := hs.isAgg
 have hl := Wa.length hs h
 unfold Ae Sc
 rw [ha]
 cases hτ : τ.isAgg with
 | true => simp only [if_true]; exact ⟨cs.toArray, rfl, by simpa using h⟩
 | false =>
  simp only [jr, if_false]
  rw [Ty.size_one hτ] at hl
  obtain ⟨v, rfl⟩ := q8.1 hl
  simpa using h
section
variable {P : Program} {Out : Type} {n0 : Nat} {A : Fx} {O0 : Nat → Prop} {w0 w w' : World} {s : AS} {σ σ' : Nat → Value} {φ φ' : Nat → List Nat} {a : Act}
variable {o : Oper} {Q : Exit → Act → World → Prop} {k : AS → Option Out} {out : Out} {d : D} {v : Value} {upd : List (Nat × Option Ja)} {dst : Option Tmp} {G : Qd}
theorem FA (h : Ra n0 A O0 w0 s σ φ a w) {O : Nat → Prop} (hV : ∀ (d : D) (τ : Ty) (x : T τ) (cs : List Value), Va s d τ = some x → Wa w (OO O0 s φ) s.heap σ d cs → (O = noO ∨ d.hasOwn = false) → Ka w O τ x cs) :
 ∀ {args : List Operand} {ds : D} {pt : Ty} {x : T pt}, Zl s args = some ds → Va s ds pt = some x → (O = noO ∨ ds.hasOwn = false) → Ff w O pt x (args.map a.eval)
 | [], ds, pt, x, he, hv, _ => by
  simp only [Zl, jc] at he
  subst he
  cases pt <;> simp [Va] at hv
  trivial
 | y :: r, ds, pt, x, he, hv, ho => by
  simp only [Zl] at he
  split at he
  ·rename_i d1 d2 h1 h2
   simp only [jc] at he
   subst he
   cases pt with
   | p t1 t2 =>
    simp only [Va] at hv
    split at hv
    ·rename_i u1 u2 hu1 hu2
     simp only [jc] at hv
     subst hv
     have ho1 : O = noO ∨ d1.hasOwn = false := ho.imp id fun h => by simp only [D.hasOwn, yq] at h; exact h.1
     have ho2 : O = noO ∨ d2.hasOwn = false := ho.imp id fun h => by simp only [D.hasOwn, yq] at h; exact h.2
     obtain ⟨hr, hvv⟩ := Kd (Es hu1) (h.ev h1)
     exact ⟨⟨_, hvv, hV _ _ _ _ hu1 hr ho1⟩, FA h hV h2 hu2 ho2⟩
    ·simp at hv
   | _ => simp [Va] at hv
  ·simp at he
def FB (w : World) (b : Option Ja) (v : Value) (F : List Nat) : Prop :=
 (∃ e xs, b = some (.row e true xs) ∧ Ob w (.sl e) xs [v] F) ∨ (∃ k m xs, b = some (.mx k m xs) ∧ Ob w (.mp k m) xs [v] F)
theorem FB.rep {w : World} {b : Ja} {F : List Nat} {O : Nat → Prop} {hp : Nat → Option Ja} {σ : Nat → Value} {id : Nat} (h : FB w (some b) (σ id) F) : Ec w O hp σ id b F := by
 rcases h with ⟨e, xs, he, h⟩ | ⟨k, m, xs, he, h⟩ <;> (simp only [jc] at he; subst he; exact h)
theorem FB.ex {w : World} {b : Option Ja} {v : Value} {F : List Nat} (h : FB w b v F) : ∃ x, b = some x := by
 rcases h with ⟨e, xs, he, _⟩ | ⟨k, m, xs, he, _⟩ <;> exact ⟨_, he⟩
theorem FB.nq {w : World} {kk : IntKind} {e : Ty} {xs : List (Int × List (T e))} {v : Value} {F : List Nat} (h : FB w (some (.mq kk e xs)) v F) : False := by
 rcases h with ⟨e, xs, he, _⟩ | ⟨k, m, xs, he, _⟩ <;> simp at he
theorem Ra.adopt (h : Ra n0 A O0 w0 s σ φ a w) (U : List (Nat × Option Ja)) (hU : (U.map (·.1)).Nodup)
 (hσ : ∀ id, id ∉ U.map (·.1) → σ' id = σ id ∧ φ' id = φ id)
 (hnew : ∀ p, p ∈ U → s.newOk p.1 = true ∨ (∃ Da blk', s.heap p.1 = some Da ∧ p.2 = some blk' ∧ Da.like blk' ∧ σ' p.1 = σ p.1))
 (hK : Hs w w' (fun b => ∃ p, p ∈ U ∧ ∃ Da, s.heap p.1 = some Da ∧ b ∈ φ p.1))
 (hblk : ∀ p, p ∈ U → FB w' p.2 (σ' p.1) (φ' p.1))
 (hnd : (Ia φ' (U.map (·.1))).Nodup)
 (hsub : ∀ b, b ∈ Ia φ' (U.map (·.1)) → w.heap.size ≤ b ∨ ∃ p, p ∈ U ∧ ∃ Da, s.heap p.1 = some Da ∧ b ∈ φ p.1) :
 Ra n0 A O0 w0 ⟨s.n, s.tm, U ++ s.hp⟩ σ' φ' a w' := by
 have hget : ∀ (U : List (Nat × Option Ja)) (id : Nat), id ∉ U.map (·.1) → Eb (U ++ s.hp) id = Eb s.hp id := by
  intro U id
  induction U with
  | nil => simp
  | cons p U ih =>
   intro hn
   simp only [yh, jq, not_or] at hn
   rw [yf, Vb, if_neg (Ne.symm hn.1), ih hn.2]
 have hgetm : ∀ (U : List (Nat × Option Ja)), (U.map (·.1)).Nodup → ∀ p, p ∈ U → Eb (U ++ s.hp) p.1 = some p.2 := by
  intro U
  induction U with
  | nil => simp
  | cons q U ih =>
   intro hn p hp
   simp only [yh, yk] at hn
   rw [yf, Vb]
   rcases jq.1 hp with rfl | hp
   ·rw [if_pos rfl]
   ·rw [if_neg (fun e : q.1 = p.1 => hn.1 (by rw [e]; exact yt hp)), ih hn.2 p hp]
 have hh1 : ∀ id, id ∉ U.map (·.1) → AS.heap ⟨s.n, s.tm, U ++ s.hp⟩ id = s.heap id := fun id hid => by simp [AS.heap, hget U id hid]
 have hh2 : ∀ p, p ∈ U → AS.heap ⟨s.n, s.tm, U ++ s.hp⟩ p.1 = p.2 := fun p hp => by simp [AS.heap, hgetm U hU p hp]
 have hmemb : ∀ id, id ∈ U.map (·.1) → ∃ p, p ∈ U ∧ p.1 = id := fun id hid => by
  obtain ⟨p, hp, he⟩ := qk.1 hid
  exact ⟨p, hp, he⟩
 refine h.trans (fun id => id ∈ U.map (·.1)) rfl rfl ?_ ?_ hK.size ?_ ?_ ?_ ?_ hK.os hK.tape hK.output ?_ ?_
 ·intro id hid
  exact ⟨hh1 id hid, hσ id hid⟩
 ·intro b hb hno
  refine hK.block b hb ?_
  rintro ⟨p, hp, Da, hl, hm⟩
  exact hno p.1 Da (yt hp) hl hm
 ·intro id blk' hid hl b hbm
  rcases hsub b (Gb.2 ⟨id, hid, hbm⟩) with hb | ⟨p, hp, Da, hb, hm⟩
  ·exact .inl hb
  ·exact .inr ⟨p.1, Da, yt hp, hb, hm⟩
 ·intro id blk' hid hl hm
  obtain ⟨p, hp, rfl⟩ := hmemb id hid
  rw [hh2 p hp] at hl
  rcases hnew p hp with hn | ⟨Da, blk'', h1, h2, h3, h4⟩
  ·simp only [AS.newOk, jd, yj] at hn
   rw [hn.1] at hm; simp at hm
  ·rw [h2] at hl
   simp only [jc] at hl
   subst hl
   exact ⟨Da, h1, h3, h4⟩
 ·intro id blk' hid hl
  obtain ⟨p, hp, rfl⟩ := hmemb id hid
  rw [hh2 p hp] at hl
  have hown := hblk p hp
  rw [hl] at hown
  refine ⟨hown.rep, ?_⟩
  have : (φ' p.1).Sublist (Ia φ' (U.map (·.1))) := by
   unfold Ia
   exact List.sublist_flatten_of_mem (yt (yt hp))
  exact this.nodup hnd
 ·intro id id' b1 b2 hid hid' hne _ _ b hb hb'
  have : ∀ (L : List Nat), (Ia φ' L).Nodup → id ∈ L → id' ∈ L → False := by
   intro L
   induction L with
   | nil => simp
   | cons x L ih =>
    intro hn hi hi'
    have hx : Ia φ' (x :: L) = φ' x ++ Ia φ' L := by simp [Ia]
    rw [hx, yl] at hn
    rcases jq.1 hi with e1 | q1
    ·rcases jq.1 hi' with e2 | q2
     ·exact hne (e1.trans e2.symm)
     ·exact hn.2.2 b (e1 ▸ hb) b (Gb.2 ⟨id', q2, hb'⟩) rfl
    ·rcases jq.1 hi' with e2 | q2
     ·exact hn.2.2 b (e2 ▸ hb') b (Gb.2 ⟨id, q1, hb⟩) rfl
     ·exact ih hn.2.1 q1 q2
  exact this _ hnd hid hid'
 ·intro id hid
  obtain ⟨p, hp, rfl⟩ := hmemb id hid
  rcases hnew p hp with hn | ⟨_, _, _, _, _, h4⟩
  ·exact .inr (Jx hn)
  ·exact .inl h4
 ·intro id kk e xs hid hl
  obtain ⟨p, hp, rfl⟩ := hmemb id hid
  rw [hh2 p hp] at hl
  have hown := hblk p hp
  rw [hl] at hown
  exact hown.nq.elim
theorem Qu : ∀ {τ : Ty} {x : T τ} {n m : Nat} {d : D} {l : List (Nat × Option Ja)} {cs : List Value} {F : List Nat}, Od τ x n = (d, l, m) → Ob w' τ x cs F →
 n ≤ m ∧ (∀ p, p ∈ l → n ≤ p.1 ∧ p.1 < m) ∧ Ab τ d ∧ ∃ (ψ : Nat → List Nat) (ν : Nat → Value), Ia ψ (l.map (·.1)) = F ∧ (∀ p, p ∈ l → FB w' p.2 (ν p.1) (ψ p.1)) ∧
  ∀ (w2 : World) (hp' : Nat → Option Ja) (σ' : Nat → Value) (O' : Nat → Prop), (∀ p, p ∈ l → σ' p.1 = ν p.1) → Wa w2 O' hp' σ' d cs
 | .i k, x, n, m, d, l, cs, F, he, h => by
  simp only [Od, jh] at he
  obtain ⟨rfl, rfl, rfl⟩ := he
  simp only [Ob] at h
  exact ⟨jp _, by simp, rfl, fun _ => [], fun _ => undef, by simp [Ia, h.2], by simp, fun _ _ _ _ _ => h.1⟩
 | .b, x, n, m, d, l, cs, F, he, h => by
  simp only [Od, jh] at he
  obtain ⟨rfl, rfl, rfl⟩ := he
  simp only [Ob] at h
  exact ⟨jp _, by simp, rfl, fun _ => [], fun _ => undef, by simp [Ia, h.2], by simp, fun _ _ _ _ _ => h.1⟩
 | .o, x, n, m, d, l, cs, F, he, h => by
  simp only [Od, jh] at he
  obtain ⟨rfl, rfl, rfl⟩ := he
  simp only [Ob] at h
  exact ⟨jp _, by simp, rfl, fun _ => [], fun _ => undef, by simp [Ia, h.2], by simp, fun _ _ _ _ _ => h.1⟩
 | .mp k vt, x, n, m, d, l, cs, F, he, h => by
  simp only [Od, jh] at he
  obtain ⟨rfl, rfl, rfl⟩ := he
  have hlen := Ob.length h
  simp only [Ty.size] at hlen
  obtain ⟨v, rfl⟩ := q8.1 hlen
  refine ⟨by omega, by simp, trivial, fun _ => F, fun _ => v, by simp [Ia], ?_, ?_⟩
  ·intro p hp
   simp only [qd] at hp
   subst hp
   exact .inr ⟨k, vt, x, rfl, h⟩
  ·intro w2 hp' σ' O' hσ
   refine ⟨v, rfl, h.one v (by simp), fun _ _ _ => ?_⟩
   exact (hσ (n, some (.mx k vt x)) (by simp)).symm
 | .s, x, n, m, d, l, cs, F, he, h => by
  simp only [Od, jh] at he
  obtain ⟨rfl, rfl, rfl⟩ := he
  simp only [Ob] at h
  exact ⟨jp _, by simp, rfl, fun _ => [], fun _ => undef, by simp [Ia, h.2], by simp, fun _ _ _ _ _ => h.1⟩
 | .u, x, n, m, d, l, cs, F, he, h => by
  simp only [Od, jh] at he
  obtain ⟨rfl, rfl, rfl⟩ := he
  simp only [Ob] at h
  exact ⟨jp _, by simp, trivial, fun _ => [], fun _ => undef, by simp [Ia, h.2], by simp, fun _ _ _ _ _ => h.1⟩
 | .sl e, x, n, m, d, l, cs, F, he, h => by
  simp only [Od, jh] at he
  obtain ⟨rfl, rfl, rfl⟩ := he
  have hlen := Ob.length h
  simp only [Ty.size] at hlen
  obtain ⟨v, rfl⟩ := q8.1 hlen
  refine ⟨by omega, by simp, trivial, fun _ => F, fun _ => v, by simp [Ia], ?_, ?_⟩
  ·intro p hp
   simp only [qd] at hp
   subst hp
   exact .inl ⟨e, x, rfl, h⟩
  ·intro w2 hp' σ' O' hσ
   refine ⟨v, rfl, h.one v (by simp), fun _ _ _ _ => ?_⟩
   exact (hσ (n, some (.row e true x)) (by simp)).symm
 | .p t1 t2, x, n, m, d, l, cs, F, he, h => by
  obtain ⟨c1, c2, F1, F2, hc, hF, h1, h2⟩ := h
  simp only [Od] at he
  rcases ho1 : Od t1 x.1 n with ⟨d1, l1, m1⟩
  rcases ho2 : Od t2 x.2 m1 with ⟨d2, l2, m2⟩
  rw [ho1] at he
  simp only at he
  rw [ho2] at he
  simp only [jh] at he
  obtain ⟨rfl, rfl, rfl⟩ := he
  obtain ⟨a1, a2, a3, ψ1, ν1, a4, a5, a6⟩ := Qu ho1 h1
  obtain ⟨b1, b2, b3, ψ2, ν2, b4, b5, b6⟩ := Qu ho2 h2
  refine ⟨by omega, ?_, a3.mkpr b3, fun id => if id < m1 then ψ1 id else ψ2 id, fun id => if id < m1 then ν1 id else ν2 id, ?_, ?_, ?_⟩
  ·intro p hp
   rcases jm.1 hp with hp | hp
   ·have := a2 p hp; omega
   ·have := b2 p hp; omega
  ·rw [yu, Rd, hF, ← a4, ← b4]
   congr 1
   ·unfold Ia
    congr 1
    apply List.map_congr_left
    intro id hid
    obtain ⟨p, hp, rfl⟩ := qk.1 hid
    rw [if_pos (a2 p hp).2]
   ·unfold Ia
    congr 1
    apply List.map_congr_left
    intro id hid
    obtain ⟨p, hp, rfl⟩ := qk.1 hid
    rw [if_neg (by have := b2 p hp; omega)]
  ·intro p hp
   rcases jm.1 hp with hp | hp
   ·have := (a2 p hp).2
    simp only [if_pos this]
    exact a5 p hp
   ·have : ¬ p.1 < m1 := by have := b2 p hp; omega
    simp only [if_neg this]
    exact b5 p hp
  ·intro w2 hp' σ' O' hσ
   rw [hc]
   refine Wa.mkpr (a6 w2 hp' σ' O' fun p hp => ?_) (b6 w2 hp' σ' O' fun p hp => ?_)
   ·have h1 := hσ p (qt _ hp)
    simp only [if_pos (a2 p hp).2] at h1
    exact h1
   ·have h1 := hσ p (qu _ hp)
    have h2 : ¬ p.1 < m1 := by have := b2 p hp; omega
    simp only [if_neg h2] at h1
    exact h1
theorem MH {O' : Nat → Prop} : ∀ {rt : Ty} {r : T rt} {fr : List Bool} {n m : Nat} {d : D} {l : List (Nat × Option Ja)} {vs : List Value} {F : List Nat}, Gf rt r fr n = some (d, l, m) → Jc w' O' rt r fr vs F →
 n ≤ m ∧ (∀ p, p ∈ l → n ≤ p.1 ∧ p.1 < m) ∧ ∃ (ψ : Nat → List Nat) (ν : Nat → Value), Ia ψ (l.map (·.1)) = F ∧ (∀ p, p ∈ l → FB w' p.2 (ν p.1) (ψ p.1)) ∧
  ∀ (hp' : Nat → Option Ja) (σ' : Nat → Value) (O'' : Nat → Prop), (∀ p, p ∈ l → σ' p.1 = ν p.1) → (∀ b, b < w'.heap.size → ¬ O' b → ¬ O'' b) → Wf w' O'' hp' σ' d vs
 | .u, r, [], n, m, d, l, vs, F, he, h => by
  simp only [Gf, jc, jh] at he
  obtain ⟨rfl, rfl, rfl⟩ := he
  cases vs with
  | nil =>
   simp only [Jc] at h
   exact ⟨jp _, by simp, fun _ => [], fun _ => undef, by simp [Ia, h], by simp, fun _ _ _ _ _ => trivial⟩
  | cons a r => simp [Jc] at h
 | .p t1 t2, r, f :: fr, n, m, d, l, vs, F, he, h => by
  cases vs with
  | nil => simp [Jc] at h
  | cons v vs =>
   obtain ⟨cs, F1, F2, hv, hF, h1, h2⟩ := h
   simp only [Gf] at he
   rcases ho1 : (bif f then Od t1 r.1 n else (.t t1 r.1, [], n)) with ⟨d1, l1, m1⟩
   rw [ho1] at he
   simp only at he
   split at he
   ·rename_i d2 l2 m2 ho2
    simp only [jc, jh] at he
    obtain ⟨rfl, rfl, rfl⟩ := he
    obtain ⟨b1, b2, ψ2, ν2, b4, b5, b6⟩ := MH ho2 h2
    have hA : n ≤ m1 ∧ (∀ p, p ∈ l1 → n ≤ p.1 ∧ p.1 < m1) ∧ Ab t1 d1 ∧ ∃ (ψ : Nat → List Nat) (ν : Nat → Value), Ia ψ (l1.map (·.1)) = F1 ∧ (∀ p, p ∈ l1 → FB w' p.2 (ν p.1) (ψ p.1)) ∧
     ∀ (hp' : Nat → Option Ja) (σ' : Nat → Value) (O'' : Nat → Prop), (∀ p, p ∈ l1 → σ' p.1 = ν p.1) → (∀ b, b < w'.heap.size → ¬ O' b → ¬ O'' b) → Wa w' O'' hp' σ' d1 cs := by
     cases f with
     | true =>
      simp only [y3] at ho1
      simp only [if_true] at h1
      obtain ⟨a1, a2, a3, ψ1, ν1, a4, a5, a6⟩ := Qu ho1 h1
      exact ⟨a1, a2, a3, ψ1, ν1, a4, a5, fun hp' σ' O'' hσ _ => a6 w' hp' σ' O'' hσ⟩
     | false =>
      simp only [y8, jh] at ho1
      obtain ⟨rfl, rfl, rfl⟩ := ho1
      simp only [jr, if_false] at h1
      exact ⟨jp _, by simp, by simp [Ab], fun _ => [], fun _ => undef, by simp [Ia, h1.2], by simp, fun hp' σ' O'' _ hO => Ka.stable (fun _ _ _ => rfl) hO h1.1⟩
    obtain ⟨a1, a2, a3, ψ1, ν1, a4, a5, a6⟩ := hA
    refine ⟨by omega, ?_, fun id => if id < m1 then ψ1 id else ψ2 id, fun id => if id < m1 then ν1 id else ν2 id, ?_, ?_, ?_⟩
    ·intro p hp
     rcases jm.1 hp with hp | hp
     ·have := a2 p hp; omega
     ·have := b2 p hp; omega
    ·rw [yu, Rd, hF, ← a4, ← b4]
     congr 1
     ·unfold Ia
      congr 1
      apply List.map_congr_left
      intro id hid
      obtain ⟨p, hp, rfl⟩ := qk.1 hid
      rw [if_pos (a2 p hp).2]
     ·unfold Ia
      congr 1
      apply List.map_congr_left
      intro id hid
      obtain ⟨p, hp, rfl⟩ := qk.1 hid
      rw [if_neg (by have := b2 p hp; omega)]
    ·intro p hp
     rcases jm.1 hp with hp | hp
     ·have := (a2 p hp).2
      simp only [if_pos this]
      exact a5 p hp
     ·have : ¬ p.1 < m1 := by have := b2 p hp; omega
      simp only [if_neg this]
      exact b5 p hp
    ·intro hp' σ' O'' hσ hO
     rw [hv]
     refine ⟨QH a3 (a6 hp' σ' O'' (fun p hp => ?_) hO), b6 hp' σ' O'' (fun p hp => ?_) hO⟩
     ·have h1 := hσ p (qt _ hp)
      simp only [if_pos (a2 p hp).2] at h1
      exact h1
     ·have h1 := hσ p (qu _ hp)
      have h2 : ¬ p.1 < m1 := by have := b2 p hp; omega
      simp only [if_neg h2] at h1
      exact h1
   ·simp at he
 | .u, _, _ :: _, _, _, _, _, _, _, he, _ => by simp [Gf] at he
 | .p _ _, _, [], _, _, _, _, _, _, he, _ => by simp [Gf] at he
 | .i _, _, fr, _, _, _, _, _, _, he, _ => by cases fr <;> simp [Gf] at he
 | .b, _, fr, _, _, _, _, _, _, he, _ => by cases fr <;> simp [Gf] at he
 | .o, _, fr, _, _, _, _, _, _, he, _ => by cases fr <;> simp [Gf] at he
 | .mp _ _, _, fr, _, _, _, _, _, _, he, _ => by cases fr <;> simp [Gf] at he
 | .s, _, fr, _, _, _, _, _, _, he, _ => by cases fr <;> simp [Gf] at he
 | .sl _, _, fr, _, _, _, _, _, _, he, _ => by cases fr <;> simp [Gf] at he
theorem LR {O : Nat → Prop} {hp : Nat → Option Ja} {d d' : D} {vs : List Value} (he : GD d = some d') (h : Wf w O hp σ d vs) : Nc w O hp σ d' (TB vs) := by
 unfold GD at he
 split at he
 ·rename_i a
  simp only [jc] at he
  subst he
  cases vs with
  | nil => simp [Wf] at h
  | cons v vs =>
   cases vs with
   | nil => exact Rm h.1
   | cons u vs => simp [Wf] at h
 ·rename_i hne
  simp only [jc] at he
  subst he
  refine ⟨vs.toArray, ?_, by simpa using h⟩
  cases vs with
  | nil => rfl
  | cons v vs =>
   cases vs with
   | nil =>
    exfalso
    cases d with
    | pr a b =>
     have hb := h.2
     cases b with
     | un => exact hne a rfl
     | _ => simp [Wf] at hb
    | _ => simp [Wf] at h
   | cons u vs => rfl
theorem Tu {f : FuncId} {args : Array Operand} {ts : Array TypeId} (ho : o.op = .call ⟨.value (.func f), args, ts⟩) (hf : Gv P f) :
 (execOp a.eval o).run P w = .ok (.enter f (args.toList.map a.eval).toArray) w := by
 obtain ⟨fn, h1, h2, h3⟩ := hf
 have : (args.toList.map a.eval).toArray = args.map a.eval := by rw [← Array.toList_map, Array.toArray_toList]
 have h2' : ¬ fn.name = "runtime.NumGoroutine" := by simpa using h2
 have h3' : ¬ fn.body = none := by
  intro e
  rw [e] at h3
  simp at h3
 rw [this]
 simp [execOp, ho, resolve, Deferred.ofValue, invoke, callFunc, Act.eval, run_program, h1, h2', h3']
theorem Iw {u : List (Nat × Option Ja)} (h : Dd s u = true) : (∀ p, p ∈ u → s.newOk p.1 = true) ∧ (u.map (·.1)).Nodup := by
 simp only [Dd, jd, yv] at h
 exact ⟨fun p hp => h.1 p hp, Rh h.2⟩
end
theorem Jc.all {w : World} {O O' : Nat → Prop} : ∀ {rt : Ty} {r : T rt} {fr : List Bool} {vs : List Value} {F : List Nat}, fr.all id = true → Jc w O rt r fr vs F → Jc w O' rt r fr vs F
 | .u, _, [], [], _, _, h => h
 | .p x y, r, f :: fr, v :: vs, F, ha, h => by
  simp only [List.all_cons, id, jd] at ha
  obtain ⟨cs, F1, F2, hv, hF, h1, h2⟩ := h
  have hf : f = true := ha.1
  subst hf
  exact ⟨cs, F1, F2, hv, hF, h1, Jc.all (O := O) ha.2 h2⟩
 | .u, _, _ :: _, _, _, _, h => by simp [Jc] at h
 | .u, _, [], _ :: _, _, _, h => by simp [Jc] at h
 | .p _ _, _, [], _, _, _, h => by simp [Jc] at h
 | .p _ _, _, _ :: _, [], _, _, h => by simp [Jc] at h
 | .i _, _, fr, vs, _, _, h => by simp [Jc] at h
 | .b, _, fr, vs, _, _, h => by simp [Jc] at h
 | .o, _, fr, vs, _, _, h => by simp [Jc] at h
 | .mp _ _, _, fr, vs, _, _, h => by simp [Jc] at h
 | .s, _, fr, vs, _, _, h => by simp [Jc] at h
 | .sl _, _, fr, vs, _, _, h => by simp [Jc] at h
theorem Maj {w w' : World} {e : Ty} {xs ys : List (T e)} {v : Value} {F F' : List Nat} (h : Ob w (.sl e) xs [v] F) (h' : Ob w' (.sl e) ys [v] F') : ja xs = ja ys := by
 obtain ⟨_, ⟨h1, h2, _⟩ | ⟨_, _, _, _, _, _, h1, _⟩⟩ := h <;> obtain ⟨_, ⟨g1, g2, _⟩ | ⟨_, _, _, _, _, _, g1, _⟩⟩ := h'
 ·rw [h2, g2]
 ·rw [h1] at g1; simp at g1
 ·rw [h1] at g1; simp at g1
 ·rw [h1] at g1; simp at g1; exact g1.2.1
section
variable {P : Program} {Out : Type} {n0 : Nat} {A : Fx} {O0 : Nat → Prop} {w0 w w' : World} {s : AS} {σ σ' : Nat → Value} {φ φ' : Nat → List Nat} {a : Act}
variable {o : Oper} {Q : Exit → Act → World → Prop} {k : AS → Option Out} {out : Out} {d : D} {v : Value} {upd : List (Nat × Option Ja)} {dst : Option Tmp} {G : Qd}
theorem QF {x : Operand} (hx : s.ev x = some d) {j : Nat} (hj : d.ment j = true) : s.ment j = true := by
 cases x with
 | tmp q => exact AS.ment_tm hx hj
 | const c =>
  exfalso
  simp only [AS.ev] at hx
  unfold BJ at hx
  split at hx <;> simp at hx <;> subst hx <;> simp [D.ment] at hj
 | _ => simp [AS.ev] at hx
theorem AK : ∀ {d : D} {τ : Ty} {x : T τ} {l : List Nat}, Lb s d τ = some (x, l) → ∀ j, j ∈ l → d.ment j = true := by
 intro d
 induction d with
 | t τ' y =>
  intro τ x l he j hj
  simp only [Lb] at he
  cases hf : τ'.flat with
  | false => rw [hf] at he; simp at he
  | true =>
   rw [hf] at he
   simp only [y3] at he
   split at he
   ·simp only [jc, jh] at he
    rw [← he.2] at hj
    simp at hj
   ·simp at he
 | nil => intro τ x l he j hj; cases τ <;> simp [Lb] at he; rw [he.2] at hj; simp at hj
 | own id =>
  intro τ x l he j hj
  cases τ with
  | sl e =>
   simp only [Lb] at he
   split at he
   ·rename_i e' dp xs hb
    cases hc : (dp || e'.flat) with
    | false => rw [hc] at he; simp at he
    | true =>
     rw [hc] at he
     simp only [y3] at he
     split at he
     ·simp only [jc, jh] at he
      rw [← he.2] at hj
      simp at hj
      subst hj
      simp [D.ment]
     ·simp at he
   ·simp at he
  | _ => simp [Lb] at he
 | pr a b iha ihb =>
  intro τ x l he j hj
  cases τ with
  | p t1 t2 =>
   simp only [Lb] at he
   split at he
   ·rename_i u l1 v l2 h1 h2
    simp only [jc, jh] at he
    rw [← he.2] at hj
    simp only [D.ment, qw]
    rcases jm.1 hj with hj | hj
    ·exact .inl (iha h1 j hj)
    ·exact .inr (ihb h2 j hj)
   ·simp at he
  | _ => simp [Lb] at he
 | un => intro τ x l he j hj; cases τ <;> simp [Lb] at he; rw [he] at hj; simp at hj
 | mpo id =>
  intro τ x l he j hj
  cases τ with
  | mp k v =>
   simp only [Lb] at he
   split at he
   ·split at he
    ·simp only [jc, jh] at he
     rw [← he.2] at hj
     simp at hj
     subst hj
     simp [D.ment]
    ·simp at he
   ·simp at he
  | _ => simp [Lb] at he
 | _ => intro τ x l he; cases τ <;> simp [Lb] at he
theorem Zaj (h : Ra n0 A O0 w0 s σ φ a w) : ∀ {d : D} {τ : Ty} {x x' : T τ} {l : List Nat} {cs : List Value} {F : List Nat}, Lb s d τ = some (x, l) → l.Nodup → Wa w (OO O0 s φ) s.heap σ d cs → Ob w' τ x' cs F →
 (EA d τ x').map (·.1) = l ∧ ∃ ψ : Nat → List Nat, Ia ψ l = F ∧ ∀ p, p ∈ EA d τ x' → FB w' p.2 (σ p.1) (ψ p.1) ∧ ∃ b Da, p.2 = some b ∧ s.heap p.1 = some Da ∧ Da.like b := by
 intro d
 induction d with
 | t τ' y =>
  intro τ x x' l cs F he hn hr ho
  simp only [Lb] at he
  cases hf : τ'.flat with
  | false => rw [hf] at he; simp at he
  | true =>
   rw [hf] at he
   simp only [y3] at he
   split at he
   ·rename_i q hq
    subst q
    simp only [jc, jh] at he
    obtain ⟨rfl, rfl⟩ := he
    have hF := Ar hf ho
    have hup : EA (.t τ' y) τ' x' = [] := by cases τ' <;> rfl
    rw [hup]
    exact ⟨rfl, fun _ => [], by simp [Ia, hF], by simp⟩
   ·simp at he
 | nil =>
  intro τ x x' l cs F he hn hr ho
  cases τ with
  | sl e =>
   simp only [Lb, jc, jh] at he
   obtain ⟨rfl, rfl⟩ := he
   simp only [Wa] at hr
   subst hr
   refine ⟨rfl, fun _ => [], ?_, by simp [EA]⟩
   obtain ⟨_, ⟨_, _, h3⟩ | ⟨_, _, _, _, _, _, h1, _⟩⟩ := ho
   ·simp [Ia, h3]
   ·simp at h1
  | _ => simp [Lb] at he
 | own id =>
  intro τ x x' l cs F he hn hr ho
  cases τ with
  | sl e =>
   simp only [Lb] at he
   split at he
   ·rename_i e' dp xs hb
    cases hc : (dp || e'.flat) with
    | false => rw [hc] at he; simp at he
    | true =>
     rw [hc] at he
     simp only [y3] at he
     split at he
     ·rename_i q hq
      subst q
      simp only [jc, jh] at he
      obtain ⟨rfl, rfl⟩ := he
      obtain ⟨u, hcs, _, hu⟩ := hr
      have hu' := hu _ _ hb rfl
      subst hu'
      subst hcs
      have hold := ML (h.hp id _ hb) (by simpa using hc)
      refine ⟨rfl, fun _ => F, by simp [Ia], ?_⟩
      intro p hp
      simp only [EA, qd] at hp
      subst hp
      exact ⟨.inl ⟨e', x', rfl, ho⟩, _, _, rfl, hb, rfl, Maj hold ho⟩
     ·simp at he
   ·simp at he
  | _ => simp [Lb] at he
 | pr d1 d2 iha ihb =>
  intro τ x x' l cs F he hn hr ho
  cases τ with
  | p t1 t2 =>
   simp only [Lb] at he
   split at he
   ·rename_i u l1 v l2 h1 h2
    simp only [jc, jh] at he
    obtain ⟨rfl, rfl⟩ := he
    obtain ⟨c1, c2, hc, r1, r2⟩ := hr
    obtain ⟨e1, e2, F1, F2, hc', hF, o1, o2⟩ := ho
    have hlen : c1.length = e1.length := by
     rw [Wa.length (Cj h1) r1, Ob.length o1]
    rw [hc] at hc'
    obtain ⟨q1, q2⟩ := List.append_inj hc' hlen
    subst q1; subst q2
    rw [yl] at hn
    obtain ⟨i1, ψ1, i2, i3⟩ := iha h1 hn.1 r1 o1
    obtain ⟨j1, ψ2, j2, j3⟩ := ihb h2 hn.2.1 r2 o2
    have hnot : ∀ j, j ∈ l2 → j ∉ l1 := fun j hj hj' => hn.2.2 j hj' j hj rfl
    refine ⟨by simp [EA, i1, j1], fun j => if j ∈ l1 then ψ1 j else ψ2 j, ?_, ?_⟩
    ·rw [Rd, hF, ← i2, ← j2]
     congr 1
     ·unfold Ia
      congr 1
      exact List.map_congr_left fun j hj => by rw [if_pos hj]
     ·unfold Ia
      congr 1
      exact List.map_congr_left fun j hj => by rw [if_neg (hnot j hj)]
    ·intro p hp
     simp only [EA] at hp
     rcases jm.1 hp with hp | hp
     ·have hm : p.1 ∈ l1 := by rw [← i1]; exact yt hp
      simp only [if_pos hm]
      exact i3 p hp
     ·have hm : p.1 ∈ l2 := by rw [← j1]; exact yt hp
      simp only [if_neg (hnot _ hm)]
      exact j3 p hp
   ·simp at he
  | _ => simp [Lb] at he
 | un =>
  intro τ x x' l cs F he hn hr ho
  cases τ with
  | u =>
   simp only [Lb, jc, jh] at he
   obtain ⟨_, rfl⟩ := he
   simp only [Ob] at ho
   exact ⟨rfl, fun _ => [], by simp [Ia, ho.2], by simp [EA]⟩
  | _ => simp [Lb] at he
 | mpo id =>
  intro τ x x' l cs F he hn hr ho
  cases τ with
  | mp k v =>
   simp only [Lb] at he
   split at he
   ·rename_i k' v' xs hb
    split at he
    ·rename_i q1 q2 g1 g2
     subst q1; subst q2
     simp only [jc, jh] at he
     obtain ⟨rfl, rfl⟩ := he
     obtain ⟨u, hcs, _, hu⟩ := hr
     have hu' := hu _ hb rfl
     subst hu'
     subst hcs
     refine ⟨rfl, fun _ => F, by simp [Ia], ?_⟩
     intro p hp
     simp only [EA, qd] at hp
     subst hp
     exact ⟨.inr ⟨_, _, x', rfl, ho⟩, _, _, rfl, hb, rfl, rfl⟩
    ·simp at he
   ·simp at he
  | _ => simp [Lb] at he
 | _ => intro τ x x' l cs F he; cases τ <;> simp [Lb] at he
theorem Kk {l : List Nat} (h : ∀ j, j ∈ l → φ j = φ' j) : Ia φ l = Ia φ' l := by
 unfold Ia
 congr 1
 exact List.map_congr_left h
theorem UG (h : Ra n0 A O0 w0 s σ φ a w) {l : List Nat} {V : List (Nat × Option Ja)} (hV : V.map (·.1) = l) (hl : l.Nodup) (hlm : ∀ j, j ∈ l → s.ment j = true) {ψ0 : Nat → List Nat} {F1 : List Nat}
 (hb0 : Ia ψ0 l = F1) (hVp : ∀ p, p ∈ V → FB w' p.2 (σ p.1) (ψ0 p.1) ∧ ∃ b Da, p.2 = some b ∧ s.heap p.1 = some Da ∧ Da.like b)
 (hK : Hs w w' (· ∈ Ia φ l)) (hF1 : ∀ b, b ∈ F1 → w.heap.size ≤ b ∨ b ∈ Ia φ l) {rt : Ty} {r : T rt} {fr : List Bool} {n m : Nat} {d d' : D} {u : List (Nat × Option Ja)} {vs : List Value} {Fr : List Nat}
 (hop : Gf rt r fr n = some (d, u, m)) (hfi : Dd s u = true) (hR : Jc w' (fun b => OO O0 s φ b ∨ b ∈ F1 ∨ b ∈ Fr) rt r fr vs Fr) (hnd : (F1 ++ Fr).Nodup) (hFr : ∀ b, b ∈ Fr → w.heap.size ≤ b ∨ b ∈ Ia φ l)
 (hres : GD d = some d') (he : Kf s dst d' (u ++ V) k = some out) : Zd n0 A O0 w0 k out (a.put dst (TB vs)) w' := by
 obtain ⟨hnew, hun⟩ := Iw hfi
 obtain ⟨_, _, ψ, ν, hb1, hup, hrep⟩ := MH hop hR
 have hul : ∀ j, j ∈ u.map (·.1) → j ∉ l := by
  intro j hj hj'
  obtain ⟨p, hp, rfl⟩ := qk.1 hj
  have h1 := hnew p hp
  simp only [AS.newOk, jd, yj] at h1
  rw [hlm _ hj'] at h1
  simp at h1
 let σ' : Nat → Value := fun j => if j ∈ u.map (·.1) then ν j else σ j
 let φ' : Nat → List Nat := fun j => if j ∈ u.map (·.1) then ψ j else if j ∈ l then ψ0 j else φ j
 have hσu : ∀ p, p ∈ u → σ' p.1 = ν p.1 := fun p hp => if_pos (yt hp)
 have hφu : ∀ j, j ∈ u.map (·.1) → φ' j = ψ j := fun j hj => if_pos hj
 have hφl : ∀ j, j ∈ l → φ' j = ψ0 j := fun j hj => by
  have : j ∉ u.map (·.1) := fun hj' => hul j hj' hj
  show (if j ∈ u.map (·.1) then ψ j else if j ∈ l then ψ0 j else φ j) = ψ0 j
  rw [if_neg this, if_pos hj]
 have hbl : Ia φ' ((u ++ V).map (·.1)) = Fr ++ F1 := by
  rw [yu, Rd, hV, ← hb1, ← hb0, Kk hφu, Kk hφl]
 have hc : Ra n0 A O0 w0 ⟨s.n, s.tm, (u ++ V) ++ s.hp⟩ σ' φ' a w' := by
  refine h.adopt (u ++ V) ?_ ?_ ?_ ⟨hK.size, fun b hb hno => hK.block b hb fun hm => hno ?_, hK.os, hK.tape, hK.output⟩ ?_ ?_ ?_
  ·rw [yu, hV, yl]
   exact ⟨hun, hl, fun x hx y hy e => hul x hx (e ▸ hy)⟩
  ·intro j hj
   rw [yu, hV, jm, not_or] at hj
   exact ⟨if_neg hj.1, (if_neg hj.1).trans (if_neg hj.2)⟩
  ·intro p hp
   rcases jm.1 hp with hp | hp
   ·exact .inl (hnew p hp)
   ·obtain ⟨h2, b, Da, h1, h3, h4⟩ := hVp p hp
    have hpl : p.1 ∈ l := by rw [← hV]; exact yt hp
    exact .inr ⟨Da, _, h3, h1, h4, if_neg fun hj => hul _ hj hpl⟩
  ·obtain ⟨j, hj, hm'⟩ := Gb.1 hm
   rw [← hV] at hj
   obtain ⟨p, hp, rfl⟩ := qk.1 hj
   obtain ⟨h2, b, Da, h1, h3, h4⟩ := hVp p hp
   exact ⟨p, qu _ hp, Da, h3, hm'⟩
  ·intro p hp
   rcases jm.1 hp with hp | hp
   ·have h2 := hup p hp
    rw [hσu p hp, hφu _ (yt hp)]
    exact h2
   ·obtain ⟨h2, b, Da, h1, h3, h4⟩ := hVp p hp
    have hpl : p.1 ∈ l := by rw [← hV]; exact yt hp
    have : σ' p.1 = σ p.1 := if_neg fun hj => hul _ hj hpl
    rw [this, hφl _ hpl]
    exact h2
  ·rw [hbl]
   exact (List.perm_append_comm.nodup_iff).1 hnd
  ·intro b hb
   rw [hbl] at hb
   have hb2 : w.heap.size ≤ b ∨ b ∈ Ia φ l := by
    rcases jm.1 hb with hb | hb
    ·exact hFr b hb
    ·exact hF1 b hb
   rcases hb2 with hb | hb
   ·exact .inl hb
   ·obtain ⟨j, hj, hm'⟩ := Gb.1 hb
    rw [← hV] at hj
    obtain ⟨p, hp, rfl⟩ := qk.1 hj
    obtain ⟨h2, b, Da, h1, h3, h4⟩ := hVp p hp
    exact .inr ⟨p, qu _ hp, Da, h3, hm'⟩
 refine Hd rfl hc ?_ he
 refine LR hres (hrep _ _ _ hσu ?_)
 intro b hb hno hO
 apply hno
 rcases hO with hO | ⟨j, Da, hl', hm⟩
 ·exact .inl (.inl hO)
 ·by_cases hju : j ∈ u.map (·.1)
  ·rw [hφu j hju] at hm
   exact .inr (.inr (by rw [← hb1]; exact Gb.2 ⟨j, hju, hm⟩))
  ·by_cases hjl : j ∈ l
   ·rw [hφl j hjl] at hm
    exact .inr (.inl (by rw [← hb0]; exact Gb.2 ⟨j, hjl, hm⟩))
   ·have hφ : φ' j = φ j := (if_neg hju).trans (if_neg hjl)
    rw [hφ] at hm
    have hne : ∀ (U : List (Nat × Option Ja)), j ∉ U.map (·.1) → Eb (U ++ s.hp) j = Eb s.hp j := by
     intro U
     induction U with
     | nil => simp
     | cons p U ih =>
      intro hn
      simp only [yh, jq, not_or] at hn
      rw [yf, Vb, if_neg (Ne.symm hn.1), ih hn.2]
    have hjUV : j ∉ (u ++ V).map (·.1) := by
     rw [yu, hV, jm, not_or]; exact ⟨hju, hjl⟩
    have : s.heap j = some Da := by
     have h1 := hl'
     simp only [AS.heap] at h1 ⊢
     rw [hne _ hjUV] at h1
     exact h1
    exact .inl (.inr ⟨j, Da, this, hm⟩)
theorem YI (h : Ra n0 A O0 w0 s σ φ a w) {l : List Nat} (hlive : ∀ j, j ∈ l → ∃ b, s.heap j = some b) : ∀ b, b ∈ Ia φ l → A.I.base ≤ b := by
 intro b hb
 obtain ⟨j, hj, hm⟩ := Gb.1 hb
 obtain ⟨Da, hbj⟩ := hlive j hj
 exact h.ivb hbj hm
theorem Fw {α : Type} {l m : List (Nat × α)} {k : Nat} (h : k ∉ l.map (·.1)) : Eb (l ++ m) k = Eb m k := by
 induction l with
 | nil => rfl
 | cons p l ih =>
  simp only [yh, jq, not_or] at h
  rw [yf, Vb, if_neg (Ne.symm h.1), ih h.2]
theorem TI {α : Type} {l m : List (Nat × α)} : (l.map (·.1)).Nodup → ∀ p, p ∈ l → Eb (l ++ m) p.1 = some p.2 := by
 induction l with
 | nil => simp
 | cons q l ih =>
  intro hn p hp
  simp only [yh, yk] at hn
  rw [yf, Vb]
  rcases jq.1 hp with rfl | hp
  ·rw [if_pos rfl]
  ·rw [if_neg (fun e : q.1 = p.1 => hn.1 (by rw [e]; exact yt hp)), ih hn.2 p hp]
theorem Y5 {ψ : Nat → List Nat} : ∀ {L : List Nat}, (Ia ψ L).Nodup → ∀ {i j b : Nat}, i ∈ L → j ∈ L → i ≠ j → b ∈ ψ i → b ∉ ψ j := by
 intro L
 induction L with
 | nil => simp
 | cons x L ih =>
  intro hn i j b hi hj hne hbi hbj
  have hx : Ia ψ (x :: L) = ψ x ++ Ia ψ L := by simp [Ia]
  rw [hx, yl] at hn
  rcases jq.1 hi with e1 | q1
  ·rcases jq.1 hj with e2 | q2
   ·exact hne (e1.trans e2.symm)
   ·exact hn.2.2 b (e1 ▸ hbi) b (Gb.2 ⟨j, q2, hbj⟩) rfl
  ·rcases jq.1 hj with e2 | q2
   ·exact hn.2.2 b (e2 ▸ hbj) b (Gb.2 ⟨i, q1, hbi⟩) rfl
   ·exact ih hn.2.1 q1 q2 hne hbi hbj
def OL (O0 : Nat → Prop) (s : AS) (l : List Nat) (φ : Nat → List Nat) (b : Nat) : Prop := O0 b ∨ ∃ j Da, j ∉ l ∧ s.heap j = some Da ∧ b ∈ φ j
theorem OL.oo {O0 : Nat → Prop} {s : AS} {l : List Nat} {φ : Nat → List Nat} {b : Nat} (h : OL O0 s l φ b) : OO O0 s φ b := h.imp id fun ⟨j, Da, _, h1, h2⟩ => ⟨j, Da, h1, h2⟩
theorem Laj {s : AS} : ∀ {d : D} {τ : Ty} {x : T τ} {l : List Nat}, Lb s d τ = some (x, l) → ∀ j, j ∈ l → ∀ Da, s.heap j = some Da → ∀ ρ e, Da ≠ .box ρ e := by
 intro d
 induction d with
 | t τ' y =>
  intro τ x l he j hj
  simp only [Lb] at he
  cases hf : τ'.flat with
  | false => rw [hf] at he; simp at he
  | true =>
   rw [hf] at he
   simp only [y3] at he
   split at he
   ·simp only [jc, jh] at he
    rw [← he.2] at hj; simp at hj
   ·simp at he
 | nil =>
  intro τ x l he j hj
  cases τ <;> simp [Lb] at he
  rw [he.2] at hj; simp at hj
 | own id =>
  intro τ x l he j hj Da hb ρ e
  cases τ with
  | sl e1 =>
   simp only [Lb] at he
   split at he
   ·rename_i e' dp xs hid
    cases hf : dp || e'.flat with
    | false => rw [hf] at he; simp at he
    | true =>
     rw [hf] at he
     simp only [y3] at he
     split at he
     ·simp only [jc, jh] at he
      rw [← he.2, qd] at hj
      subst hj
      rw [hid] at hb
      simp only [jc] at hb
      subst hb
      simp
     ·simp at he
   ·simp at he
  | _ => simp [Lb] at he
 | mpo id =>
  intro τ x l he j hj Da hb ρ e
  cases τ with
  | mp k v =>
   simp only [Lb] at he
   split at he
   ·rename_i k' v' xs hid
    split at he
    ·simp only [jc, jh] at he
     rw [← he.2, qd] at hj
     subst hj
     rw [hid] at hb
     simp only [jc] at hb
     subst hb
     simp
    ·simp at he
   ·simp at he
  | _ => simp [Lb] at he
 | pr y z ih1 ih2 =>
  intro τ x l he j hj
  cases τ with
  | p t1 t2 =>
   simp only [Lb] at he
   split at he
   ·rename_i u1 l1 u2 l2 h1 h2
    simp only [jc, jh] at he
    rw [← he.2] at hj
    rcases jm.1 hj with hj | hj
    ·exact ih1 h1 j hj
    ·exact ih2 h2 j hj
   ·simp at he
  | _ => simp [Lb] at he
 | un =>
  intro τ x l he j hj
  cases τ <;> simp [Lb] at he
  rw [he] at hj; simp at hj
 | _ => intro τ x l he; cases τ <;> simp [Lb] at he
theorem Ra.after2 (h : Ra n0 A O0 w0 s σ φ a w) {U X : List (Nat × Option Ja)} {l : List Nat} {ψ : Nat → List Nat} {ν : Nat → Value}
 (hU : (U.map (·.1)).Nodup) (hUn : ∀ p, p ∈ U → s.newOk p.1 = true) (hX : (X.map (·.1)).Nodup) (hl : ∀ j, j ∈ l → ∃ b, s.heap j = some b) (hXl : ∀ j, j ∈ X.map (·.1) → j ∉ l)
 (hK : Hs w w' (· ∈ Ia φ (X.map (·.1) ++ l))) (hUr : ∀ p, p ∈ U → FB w' p.2 (ν p.1) (ψ p.1))
 (hnd : (Ia ψ (U.map (·.1))).Nodup) (hsub : ∀ b, b ∈ Ia ψ (U.map (·.1)) → w.heap.size ≤ b ∨ b ∈ Ia φ l)
 (hlm : ∀ j, j ∈ X.map (·.1) ++ l → s.newOk j = false)
 (hXr : ∀ p, p ∈ X → ∃ ρ d e, p.2 = some (.box ρ e) ∧ s.heap p.1 = some (.box ρ d) ∧
  ∀ (hp' : Nat → Option Ja) (σ' : Nat → Value) (O' : Nat → Prop), σ' p.1 = σ p.1 → (∀ q, q ∈ U → σ' q.1 = ν q.1) → (∀ b, O' b → OO O0 s φ b ∨ b ∈ Ia ψ (U.map (·.1))) → Ec w' O' hp' σ' p.1 (.box ρ e) (φ p.1)) :
 ∃ σ' φ', Ra n0 A O0 w0 ⟨s.n, s.tm, U ++ (X ++ Ub l) ++ s.hp⟩ σ' φ' a w' ∧ (∀ q, q ∈ U → σ' q.1 = ν q.1) ∧ (∀ b, OO O0 ⟨s.n, s.tm, U ++ (X ++ Ub l) ++ s.hp⟩ φ' b → OL O0 s l φ b ∨ b ∈ Ia ψ (U.map (·.1))) := by
 have hUX : ∀ j, j ∈ U.map (·.1) → j ∉ X.map (·.1) ++ l := by
  intro j hj hj'
  obtain ⟨p, hp, rfl⟩ := qk.1 hj
  have h1 := hlm _ hj'
  rw [hUn p hp] at h1
  simp at h1
 let σ' : Nat → Value := fun j => if j ∈ U.map (·.1) then ν j else σ j
 let φ' : Nat → List Nat := fun j => if j ∈ U.map (·.1) then ψ j else φ j
 have hσu : ∀ p, p ∈ U → σ' p.1 = ν p.1 := fun p hp => if_pos (yt hp)
 have hφu : ∀ j, j ∈ U.map (·.1) → φ' j = ψ j := fun j hj => if_pos hj
 have hφn : ∀ j, j ∉ U.map (·.1) → φ' j = φ j := fun j hj => if_neg hj
 have hσn : ∀ j, j ∉ U.map (·.1) → σ' j = σ j := fun j hj => if_neg hj
 have hget : ∀ j, AS.heap ⟨s.n, s.tm, U ++ (X ++ Ub l) ++ s.hp⟩ j = (Eb (U ++ (X ++ Ub l) ++ s.hp) j).join := fun _ => rfl
 have hgU : ∀ p, p ∈ U → AS.heap ⟨s.n, s.tm, U ++ (X ++ Ub l) ++ s.hp⟩ p.1 = p.2 := fun p hp => by
  rw [hget, qy, TI hU p hp]; rfl
 have hgX : ∀ p, p ∈ X → AS.heap ⟨s.n, s.tm, U ++ (X ++ Ub l) ++ s.hp⟩ p.1 = p.2 := fun p hp => by
  have h1 : p.1 ∉ U.map (·.1) := fun hc => hUX _ hc (qt _ (yt hp))
  rw [hget, qy, Fw h1, qy, TI hX p hp]; rfl
 have hgl : ∀ j, j ∈ l → AS.heap ⟨s.n, s.tm, U ++ (X ++ Ub l) ++ s.hp⟩ j = none := fun j hj => by
  have h1 : j ∉ U.map (·.1) := fun hc => hUX _ hc (qu _ hj)
  have h2 : j ∉ X.map (·.1) := fun hc => hXl j hc hj
  rw [hget, qy, Fw h1, qy, Fw h2, Kl, if_pos hj]; rfl
 have hgo : ∀ j, j ∉ U.map (·.1) → j ∉ X.map (·.1) → j ∉ l → AS.heap ⟨s.n, s.tm, U ++ (X ++ Ub l) ++ s.hp⟩ j = s.heap j := fun j h1 h2 h3 => by
  rw [hget, qy, Fw h1, qy, Fw h2, Kl, if_neg h3]; rfl
 have hbX : ∀ p, p ∈ X → ∃ Da, s.heap p.1 = some Da := fun p hp => by
  obtain ⟨ρ, d, e, _, h2, _⟩ := hXr p hp
  exact ⟨_, h2⟩
 have hOO' : ∀ b, OO O0 ⟨s.n, s.tm, U ++ (X ++ Ub l) ++ s.hp⟩ φ' b → OL O0 s l φ b ∨ b ∈ Ia ψ (U.map (·.1)) := by
  rintro b (hb | ⟨j, Da, hl', hm⟩)
  ·exact .inl (.inl hb)
  ·by_cases hju : j ∈ U.map (·.1)
   ·rw [hφu j hju] at hm
    exact .inr (Gb.2 ⟨j, hju, hm⟩)
   ·rw [hφn j hju] at hm
    by_cases hjx : j ∈ X.map (·.1)
    ·obtain ⟨p, hp, rfl⟩ := qk.1 hjx
     obtain ⟨blk', hb'⟩ := hbX p hp
     exact .inl (.inr ⟨p.1, blk', hXl _ hjx, hb', hm⟩)
    ·by_cases hjl : j ∈ l
     ·rw [hgl j hjl] at hl'; simp at hl'
     ·rw [hgo j hju hjx hjl] at hl'
      exact .inl (.inr ⟨j, Da, hjl, hl', hm⟩)
 have hOO : ∀ b, OO O0 ⟨s.n, s.tm, U ++ (X ++ Ub l) ++ s.hp⟩ φ' b → OO O0 s φ b ∨ b ∈ Ia ψ (U.map (·.1)) := fun b hb => (hOO' b hb).imp OL.oo id
 refine ⟨σ', φ', ?_, hσu, hOO'⟩
 refine h.trans (fun j => j ∈ U.map (·.1) ∨ j ∈ X.map (·.1) ∨ j ∈ l) rfl rfl ?_ ?_ hK.size ?_ ?_ ?_ ?_ hK.os hK.tape hK.output ?_ ?_
 rotate_right
 ·intro j kk e xs hj hl'
  rcases hj with hj | hj | hj
  ·obtain ⟨p, hp, rfl⟩ := qk.1 hj
   have ho := hUr p hp
   rw [hgU p hp] at hl'
   rw [hl'] at ho
   exact ho.nq.elim
  ·obtain ⟨p, hp, rfl⟩ := qk.1 hj
   obtain ⟨ρ, d, e, h1, h2, _⟩ := hXr p hp
   rw [hgX p hp, h1] at hl'
   simp at hl'
  ·rw [hgl j hj] at hl'; simp at hl'
 ·intro j hj
  simp only [not_or] at hj
  exact ⟨hgo j hj.1 hj.2.1 hj.2.2, hσn j hj.1, hφn j hj.1⟩
 ·intro b hb hno
  refine hK.block b hb fun hm => ?_
  obtain ⟨j, hj, hm⟩ := Gb.1 hm
  rcases jm.1 hj with hj | hj
  ·obtain ⟨p, hp, rfl⟩ := qk.1 hj
   obtain ⟨blk', hb'⟩ := hbX p hp
   exact hno p.1 blk' (.inr (.inl hj)) hb' hm
  ·obtain ⟨blk', hb'⟩ := hl j hj
   exact hno j blk' (.inr (.inr hj)) hb' hm
 ·intro j blk' hj hl' b hbm
  rcases hj with hj | hj | hj
  ·rw [hφu j hj] at hbm
   rcases hsub b (Gb.2 ⟨j, hj, hbm⟩) with h1 | h1
   ·exact .inl h1
   ·obtain ⟨i, hi, hm⟩ := Gb.1 h1
    obtain ⟨Da, hb⟩ := hl i hi
    exact .inr ⟨i, Da, .inr (.inr hi), hb, hm⟩
  ·have hju : j ∉ U.map (·.1) := fun hc => hUX _ hc (qt _ hj)
   rw [hφn j hju] at hbm
   obtain ⟨p, hp, rfl⟩ := qk.1 hj
   obtain ⟨Da, hb⟩ := hbX p hp
   exact .inr ⟨p.1, Da, .inr (.inl hj), hb, hbm⟩
  ·rw [hgl j hj] at hl'; simp at hl'
 ·intro j blk' hj hl' hm
  rcases hj with hj | hj | hj
  ·obtain ⟨p, hp, rfl⟩ := qk.1 hj
   have hn := hUn p hp
   simp only [AS.newOk, jd, yj] at hn
   rw [hn.1] at hm; simp at hm
  ·have hju : j ∉ U.map (·.1) := fun hc => hUX _ hc (qt _ hj)
   obtain ⟨p, hp, rfl⟩ := qk.1 hj
   obtain ⟨ρ, d, e, h1, h2, _⟩ := hXr p hp
   rw [hgX p hp, h1] at hl'
   simp only [jc] at hl'
   subst hl'
   exact ⟨_, h2, by simp [Ja.like], hσn _ hju⟩
  ·rw [hgl j hj] at hl'; simp at hl'
 ·intro j blk' hj hl'
  rcases hj with hj | hj | hj
  ·rw [hφu j hj]
   obtain ⟨p, hp, rfl⟩ := qk.1 hj
   have ho := hUr p hp
   rw [hgU p hp] at hl'
   rw [hl', ← hσu p hp] at ho
   refine ⟨ho.rep, ?_⟩
   ·have : (ψ p.1).Sublist (Ia ψ (U.map (·.1))) := by
     unfold Ia
     exact List.sublist_flatten_of_mem (yt (yt hp))
    exact this.nodup hnd
  ·have hju : j ∉ U.map (·.1) := fun hc => hUX _ hc (qt _ hj)
   rw [hφn j hju]
   obtain ⟨p, hp, rfl⟩ := qk.1 hj
   obtain ⟨ρ, d, e, h1, h2, h3⟩ := hXr p hp
   rw [hgX p hp, h1] at hl'
   simp only [jc] at hl'
   subst hl'
   exact ⟨h3 _ _ _ (hσn _ hju) hσu hOO, h.nodup _ _ h2⟩
  ·rw [hgl j hj] at hl'; simp at hl'
 ·intro i j b1 b2 hi hj hne hl1 hl2 b hbi hbj
  have hlt : ∀ p, p ∈ X → b ∈ φ p.1 → b ∉ Ia ψ (U.map (·.1)) := by
   intro p hp hm hc
   obtain ⟨Da, hb⟩ := hbX p hp
   rcases hsub b hc with h1 | h1
   ·have := (h.hp p.1 Da hb).lt b hm; omega
   ·obtain ⟨q, hq, hmq⟩ := Gb.1 h1
    obtain ⟨blk2, hb2⟩ := hl q hq
    exact h.disj p.1 q Da blk2 (fun e => hXl p.1 (yt hp) (e ▸ hq)) hb hb2 b hm hmq
  rcases hi with hi | hi | hi
  ·rw [hφu i hi] at hbi
   rcases hj with hj | hj | hj
   ·rw [hφu j hj] at hbj
    exact Y5 hnd hi hj hne hbi hbj
   ·have hju : j ∉ U.map (·.1) := fun hc => hUX _ hc (qt _ hj)
    rw [hφn j hju] at hbj
    obtain ⟨p, hp, rfl⟩ := qk.1 hj
    exact hlt p hp hbj (Gb.2 ⟨i, hi, hbi⟩)
   ·rw [hgl j hj] at hl2; simp at hl2
  ·have hiu : i ∉ U.map (·.1) := fun hc => hUX _ hc (qt _ hi)
   rw [hφn i hiu] at hbi
   rcases hj with hj | hj | hj
   ·rw [hφu j hj] at hbj
    obtain ⟨p, hp, rfl⟩ := qk.1 hi
    exact hlt p hp hbi (Gb.2 ⟨j, hj, hbj⟩)
   ·have hju : j ∉ U.map (·.1) := fun hc => hUX _ hc (qt _ hj)
    rw [hφn j hju] at hbj
    obtain ⟨p, hp, rfl⟩ := qk.1 hi
    obtain ⟨q, hq, rfl⟩ := qk.1 hj
    obtain ⟨Da, hb⟩ := hbX p hp
    obtain ⟨blk2, hb2⟩ := hbX q hq
    exact h.disj _ _ Da blk2 hne hb hb2 b hbi hbj
   ·rw [hgl j hj] at hl2; simp at hl2
  ·rw [hgl i hi] at hl1; simp at hl1
 ·intro j hj
  by_cases hju : j ∈ U.map (·.1)
  ·obtain ⟨p, hp, rfl⟩ := qk.1 hju
   exact .inr (Jx (hUn p hp))
  ·exact .inl (hσn j hju)
theorem Ra.after (h : Ra n0 A O0 w0 s σ φ a w) {U X : List (Nat × Option Ja)} {l : List Nat} {ψ : Nat → List Nat} {ν : Nat → Value}
 (hU : (U.map (·.1)).Nodup) (hUn : ∀ p, p ∈ U → s.newOk p.1 = true) (hX : (X.map (·.1)).Nodup) (hl : ∀ j, j ∈ l → ∃ b, s.heap j = some b) (hXl : ∀ j, j ∈ X.map (·.1) → j ∉ l)
 (hK : Hs w w' (· ∈ Ia φ (X.map (·.1) ++ l))) (hUr : ∀ p, p ∈ U → FB w' p.2 (ν p.1) (ψ p.1))
 (hnd : (Ia ψ (U.map (·.1))).Nodup) (hsub : ∀ b, b ∈ Ia ψ (U.map (·.1)) → w.heap.size ≤ b ∨ b ∈ Ia φ l)
 (hlm : ∀ j, j ∈ X.map (·.1) ++ l → s.newOk j = false)
 (hXr : ∀ p, p ∈ X → ∃ ρ d e, p.2 = some (.box ρ e) ∧ s.heap p.1 = some (.box ρ d) ∧
  ∀ (hp' : Nat → Option Ja) (σ' : Nat → Value) (O' : Nat → Prop), σ' p.1 = σ p.1 → (∀ q, q ∈ U → σ' q.1 = ν q.1) → (∀ b, O' b → OO O0 s φ b ∨ b ∈ Ia ψ (U.map (·.1))) → Ec w' O' hp' σ' p.1 (.box ρ e) (φ p.1)) :
 ∃ σ' φ', Ra n0 A O0 w0 ⟨s.n, s.tm, U ++ (X ++ Ub l) ++ s.hp⟩ σ' φ' a w' ∧ (∀ q, q ∈ U → σ' q.1 = ν q.1) ∧ (∀ b, OO O0 ⟨s.n, s.tm, U ++ (X ++ Ub l) ++ s.hp⟩ φ' b → OO O0 s φ b ∨ b ∈ Ia ψ (U.map (·.1))) := by
 obtain ⟨σ', φ', h1, h2, h3⟩ := h.after2 hU hUn hX hl hXl hK hUr hnd hsub hlm hXr
 exact ⟨σ', φ', h1, h2, fun b hb => (h3 b hb).imp OL.oo id⟩
theorem Px {f : FuncId} {args : List Value} (hrun : (execOp a.eval o).run P w = .ok (.enter f args.toArray) w) {R : Value → World → Prop} (hc : Calls P f args.toArray w (Gm R))
 (hg : ∀ v w', R v w' → Zd n0 A O0 w0 k out (a.put o.dst v) w') : o.wp P a w (Zd n0 A O0 w0 k out) Q := by
 unfold Oper.wp
 rw [hrun, Oper.upon_enter]
 refine hc.mono fun e w' hR => ?_
 cases e with
 | returned v => exact hg v w' hR
 | panicked chain => exact hR.elim
 | outgrown => exact hR.elim
theorem ON (h : Ra n0 A O0 w0 s σ φ a w) : ∀ {args : List Operand} {ds : D} {pt : Ty} {x : T pt} {l : List Nat}, Zl s args = some ds → Lb s ds pt = some (x, l) →
 Ue w pt x (args.map a.eval) (Ia φ l) ∧ (∀ j, j ∈ l → ∃ b, s.heap j = some b) ∧ (∀ j, j ∈ l → s.ment j = true)
 | [], ds, pt, x, l, he, hv => by
  simp only [Zl, jc] at he
  subst he
  cases pt <;> simp [Lb] at hv
  subst hv
  exact ⟨rfl, by simp, by simp⟩
 | y :: r, ds, pt, x, l, he, hv => by
  simp only [Zl] at he
  split at he
  ·rename_i d1 d2 h1 h2
   simp only [jc] at he
   subst he
   cases pt with
   | p t1 t2 =>
    simp only [Lb] at hv
    split at hv
    ·rename_i u1 l1 u2 l2 hu1 hu2
     simp only [jc, jh] at hv
     obtain ⟨rfl, rfl⟩ := hv
     obtain ⟨hr, hvv⟩ := Kd (Cj hu1) (h.ev h1)
     obtain ⟨ho, hlive⟩ := Jm h hu1 hr
     obtain ⟨a1, a2, a3⟩ := ON h h2 hu2
     refine ⟨⟨_, Ia φ l1, Ia φ l2, hvv, Rd, ho, a1⟩, fun j hj => ?_, fun j hj => ?_⟩
     ·rcases jm.1 hj with hj | hj
      ·exact hlive j hj
      ·exact a2 j hj
     ·rcases jm.1 hj with hj | hj
      ·exact QF h1 (AK hu1 j hj)
      ·exact a3 j hj
    ·simp at hv
   | _ => simp [Lb] at hv
  ·simp at he
theorem UP {j : Nat} (h : s.ment j = true) : s.newOk j = false := by simp [AS.newOk, h]
theorem TH {id : Nat} {e : Ty} {dp : Bool} {xs : List (T e)} {O O' : Nat → Prop} {hp : Nat → Option Ja} {F : List Nat} (h : Ec w O hp σ id (.row e dp xs) F) (hO : ∀ b, O' b → O b) (hF : ∀ b, b ∈ F → ¬ O' b) :
 Ka w O' (.sl e) xs [σ id] := by
 cases dp with
 | true => exact Ob.view (show Ob w (.sl e) xs [σ id] F from h) hF
 | false =>
  simp only [Ec] at h
  obtain ⟨hm, ⟨h1, h2, _⟩ | ⟨bl, off, cap, cur, et, h1, hh, h2, h3, h4, hF', hv⟩⟩ := h
  ·subst h2; exact ⟨none, 0, by rw [h1]; rfl, jp _, hm, .inl rfl⟩
  ·have := jn e.size h2
   exact ⟨_, cap, by rw [h1], h2, hm, .inr ⟨bl, off, cur, et, _, rfl, hF bl (by rw [hF']; simp), hh, by omega, fun i hi => (hv i hi).weaken hO⟩⟩
theorem Ra.drop (h : Ra n0 A O0 w0 s σ φ a w) (l : List Nat) : Ra n0 A O0 w0 ⟨s.n, s.tm, Ub l ++ s.hp⟩ σ φ a w := by
 have hn : ∀ j, j ∈ l → AS.heap ⟨s.n, s.tm, Ub l ++ s.hp⟩ j = none := fun j hj => by simp only [AS.heap, Kl, if_pos hj]; rfl
 refine h.trans (· ∈ l) rfl rfl (fun id hid => ⟨by simp only [AS.heap, Kl, if_neg hid], rfl, rfl⟩) (fun _ _ _ => rfl) (jp _) ?_ ?_ ?_ ?_ rfl rfl rfl (fun _ _ => .inl rfl) (fun id kk e xs hid hl => by rw [hn id hid] at hl; simp at hl)
 ·intro id Da hid hl; rw [hn id hid] at hl; simp at hl
 ·intro id Da hid hl; rw [hn id hid] at hl; simp at hl
 ·intro id Da hid hl; rw [hn id hid] at hl; simp at hl
 ·intro id id' Da blk' hid _ _ hl; rw [hn id hid] at hl; simp at hl
theorem JF {l : List Nat} {b : Nat} (hb : OO O0 ⟨s.n, s.tm, Ub l ++ s.hp⟩ φ b) : O0 b ∨ ∃ j Da, j ∉ l ∧ s.heap j = some Da ∧ b ∈ φ j := by
 rcases hb with hb | ⟨j, Da, hl, hm⟩
 ·exact .inl hb
 ·by_cases hj : j ∈ l
  ·simp only [AS.heap, Kl, if_pos hj] at hl; simp at hl
  ·simp only [AS.heap, Kl, if_neg hj] at hl
   exact .inr ⟨j, Da, hj, hl, hm⟩
theorem S6 {l : List Nat} {j : Nat} : AS.newOk ⟨s.n, s.tm, Ub l ++ s.hp⟩ j = s.newOk j := by
 have : AS.ment ⟨s.n, s.tm, Ub l ++ s.hp⟩ j = s.ment j := by
  simp only [AS.ment, List.any_append]
  have : (Ub l).any (fun x => (x.2.map (Ja.ment j)).getD false) = false := by
   rw [List.any_eq_false]
   intro x hx
   obtain ⟨k, _, rfl⟩ := qk.1 hx
   simp
  rw [this, yr]
 simp only [AS.newOk, this]
theorem AU {l : List Nat} {u : List (Nat × Option Ja)} : Dd ⟨s.n, s.tm, Ub l ++ s.hp⟩ u = Dd s u := by
 simp only [Dd, S6]
def P7 (bm cm : Bool) (A : Fx) (O0 : Nat → Prop) : Prop := (∀ b, ¬ A.A b) ∨ (cm = true ∧ ∀ b, A.A b → ¬ O0 b) ∨ (bm = true ∧ ∀ c, A.A c → A.pin 500000 = some (.pointer (some ⟨c, 0, none⟩)))
def OC (G : Qd) (A : Fx) (O0 : Nat → Prop) : Prop := G.fz = true → P7 (Dq G.att) (UW G.att) A O0
def A0 (O0 : Nat → Prop) (s : AS) (φ : Nat → List Nat) : Prop := ∀ id Da, s.heap id = some Da → (∀ ρ d, Da ≠ .box ρ d) → ∀ b, b ∈ φ id → ¬ O0 b
theorem noA {bm cm : Bool} (hz : P7 bm cm A O0) (hl : (!bm || s.boxLive) = true) (h : Ra n0 A O0 w0 s σ φ a w) : A0 O0 s φ := by
 intro id Da hb hne b hm hO
 have hlt := h.o0 b hO
 have hA : A.A b := (h.fresh id Da hb b hm).resolve_left (by omega)
 rcases hz with hz | ⟨_, hz⟩ | ⟨rfl, hz⟩
 ·exact hz b hA
 ·exact hz b hA hO
 ·have hp := h.pin 500000 _ (hz b hA)
  simp only [jg, yr, AS.boxLive] at hl
  split at hl
  ·rename_i ρ d hbx
   obtain ⟨_, b', cur, et, h1, h2, h3, _⟩ := h.hp 500000 _ hbx
   rw [hp] at h1
   simp only [Value.pointer.injEq, jc, Addr.mk.injEq, and_true] at h1
   subst h1
   have hid : id ≠ 500000 := by
    rintro rfl
    rw [hbx] at hb
    simp only [jc] at hb
    exact hne ρ d hb.symm
   exact h.disj id 500000 _ _ hid hb hbx b hm (by rw [h3]; simp)
  ·simp at hl
theorem QQ (hA : A0 O0 s φ) (h : Ra n0 A O0 w0 s σ φ a w) {L : List Nat} : ∀ {d : D} {τ : Ty} {x : T τ} {cs : List Value}, Va s d τ = some x → Wa w (OO O0 s φ) s.heap σ d cs → d.noCut = true → (∀ j, j ∈ d.owns → j ∈ L) →
 Ka w (OO O0 ⟨s.n, s.tm, Ub L ++ s.hp⟩ φ) τ x cs := by
 have hO : ∀ b, OO O0 ⟨s.n, s.tm, Ub L ++ s.hp⟩ φ b → OO O0 s φ b := fun b hb => by
  rcases JF hb with hb | ⟨j, Da, _, hl, hm⟩
  ·exact .inl hb
  ·exact .inr ⟨j, Da, hl, hm⟩
 intro d
 induction d with
 | t τ' y =>
  intro τ x cs he hr _ _
  simp only [Va] at he
  split at he
  ·rename_i q hq
   obtain rfl := Pc hq
   simp only [jc] at he
   subst he
   exact Ka.weaken hO hr
  ·simp at he
 | nil =>
  intro τ x cs he hr _ _
  cases τ with
  | sl e =>
   simp only [Va, jc] at he
   subst he
   simp only [Wa] at hr
   exact ⟨none, 0, hr, jp _, by simp, .inl rfl⟩
  | _ => simp [Va] at he
 | own id =>
  intro τ x cs he hr _ hL
  cases τ with
  | sl e =>
   simp only [Va] at he
   split at he
   ·rename_i e' dp xs hb
    split at he
    ·rename_i q hq
     obtain rfl := Pc hq
     simp only [jc] at he
     subst he
     obtain ⟨v, hcs, _, hv⟩ := hr
     rw [hcs, hv _ _ hb rfl]
     refine TH (h.hp id _ hb) hO fun b hm hb' => ?_
     have hid : id ∈ L := hL id (by simp [D.owns])
     rcases JF hb' with ho | ⟨j, Da, hj, hl, hm'⟩
     ·exact hA id _ hb (fun _ _ e => by simp at e) b hm ho
     ·exact h.disj id j _ Da (fun e => hj (e ▸ hid)) hb hl b hm hm'
    ·simp at he
   ·rename_i e' xs hb
    split at he
    ·rename_i q hq
     obtain rfl := Pc hq
     simp only [jc] at he
     subst he
     obtain ⟨v, hcs, _, hv⟩ := hr
     rw [hcs, hv _ _ hb rfl]
     exact Ka.weaken hO (h.hp id _ hb).2
    ·simp at he
   ·simp at he
  | _ => simp [Va] at he
 | pr y z ih1 ih2 =>
  intro τ x cs he hr hc hL
  cases τ with
  | p t1 t2 =>
   simp only [Va] at he
   split at he
   ·rename_i u v hu hv
    simp only [jc] at he
    subst he
    simp only [D.noCut, jd] at hc
    obtain ⟨c1, c2, h0, h1, h2⟩ := hr
    exact ⟨c1, c2, h0, ih1 hu h1 hc.1 fun j hj => hL j (by simp [D.owns, hj]), ih2 hv h2 hc.2 fun j hj => hL j (by simp [D.owns, hj])⟩
   ·simp at he
  | _ => simp [Va] at he
 | un =>
  intro τ x cs he hr _ _
  cases τ with
  | u => simp only [Wa] at hr; exact hr
  | _ => simp [Va] at he
 | cut id lo hi => intro τ x cs _ _ hc; simp [D.noCut] at hc
 | _ => intro τ x cs he; cases τ <;> simp [Va] at he
theorem PQ (hA : A0 O0 s φ) (h : Ra n0 A O0 w0 s σ φ a w) {L : List Nat} :
 ∀ {args : List Operand} {ds : D} {pt : Ty} {x : T pt}, Zl s args = some ds → Va s ds pt = some x → ds.noCut = true → (∀ j, j ∈ ds.owns → j ∈ L) → Ff w (OO O0 ⟨s.n, s.tm, Ub L ++ s.hp⟩ φ) pt x (args.map a.eval)
 | [], ds, pt, x, he, hv, _, _ => by
  simp only [Zl, jc] at he
  subst he
  cases pt <;> simp [Va] at hv
  trivial
 | y :: r, ds, pt, x, he, hv, hc, hL => by
  simp only [Zl] at he
  split at he
  ·rename_i d1 d2 h1 h2
   simp only [jc] at he
   subst he
   cases pt with
   | p t1 t2 =>
    simp only [Va] at hv
    split at hv
    ·rename_i u1 u2 hu1 hu2
     simp only [jc] at hv
     subst hv
     simp only [D.noCut, jd] at hc
     obtain ⟨hr, hvv⟩ := Kd (Es hu1) (h.ev h1)
     exact ⟨⟨_, hvv, QQ hA h hu1 hr hc.1 fun j hj => hL j (by simp [D.owns, hj])⟩, PQ hA h h2 hu2 hc.2 fun j hj => hL j (by simp [D.owns, hj])⟩
    ·simp at hv
   | _ => simp [Va] at hv
  ·simp at he
theorem BZ (h : Ra n0 A O0 w0 s σ φ a w) : ∀ {args : List Operand} {ds : D} {pt : Ty} {x : T pt}, Zl s args = some ds → Vf ds pt = some x → Ff w (OO O0 s φ) pt x (args.map a.eval)
 | [], ds, pt, x, he, hv => by
  simp only [Zl, jc] at he
  subst he
  cases pt <;> simp [Vf] at hv
  trivial
 | y :: r, ds, pt, x, he, hv => by
  simp only [Zl] at he
  split at he
  ·rename_i d1 d2 h1 h2
   simp only [jc] at he
   subst he
   cases pt with
   | p t1 t2 =>
    simp only [Vf] at hv
    split at hv
    ·rename_i u1 u2 hu1 hu2
     simp only [jc] at hv
     subst hv
     obtain ⟨hs, hv1⟩ := Xe (w := w) (O := OO O0 s φ) (hp := s.heap) (σ := σ) hu1
     obtain ⟨hr, hvv⟩ := Kd hs (h.ev h1)
     exact ⟨⟨_, hvv, hv1 _ hr⟩, BZ h h2 hu2⟩
    ·simp at hv
   | _ => simp [Vf] at hv
  ·simp at he
theorem noB {cm : Bool} (hz : P7 false cm A O0) (h : Ra n0 A O0 w0 s σ φ a w) : ∀ id Da, s.heap id = some Da → ∀ b, b ∈ φ id → ¬ O0 b := by
 intro id Da hb b hm hO
 have hlt := h.o0 b hO
 have hA : A.A b := (h.fresh id Da hb b hm).resolve_left (by omega)
 rcases hz with hz | ⟨_, hz⟩ | ⟨h1, _⟩
 ·exact hz b hA
 ·exact hz b hA hO
 ·simp at h1
theorem Bad (h : Ra n0 A O0 w0 s σ φ a w) (hz : P7 (Dq G.att) (UW G.att) A O0) (hbm : Dq G.att = false) {f : FuncId} {args : Array Operand} {ts : Array TypeId} (ho : o.op = .call ⟨.value (.func f), args, ts⟩)
 {τ κ ε pt rt : Ty} {F : T τ → List (T κ × T ε) → T pt → Option (T τ × (List (T κ × T ε) × T rt))} {a0 : Operand} {args' : List Operand} (hargs : args.toList = a0 :: args') (hE : Gv P f)
 (hS : ∀ (O : Nat → Prop) (w : World) (x0 : T τ) (xs : List (T κ × T ε)) (x : T pt) (r : T τ × (List (T κ × T ε) × T rt)) (b m clk : Nat) (cur : Array Value) (et : TypeId) (es : Array MapEntry) (args : List Value), F x0 xs x = some r →
  w.heap[b]? = some (.cells cur et (0, 0)) → cur.size = τ.size + 1 → cur.toList.drop τ.size = [.map (some m)] → w.heap[m]? = some (.map es clk) → Ka w (fun c => O c ∨ c = b ∨ c = m) τ x0 (cur.toList.take τ.size) →
  Il w (fun c => O c ∨ c = b ∨ c = m) κ ε xs es → Ff w (fun c => O c ∨ c = b ∨ c = m) pt x args → ¬ O b → ¬ O m → (∀ c, O c → c < w.heap.size) → A.I.p w → A.I.base ≤ w.heap.size → A.I.base ≤ b → A.I.base ≤ m →
  Calls P f (.pointer (some ⟨b, 0, none⟩) :: args).toArray w (Gm fun u w' => ∃ cs cur' et' es' clk', u = Sc rt cs ∧ Hs w w' (fun c => c = b ∨ c = m) ∧ w'.heap[b]? = some (.cells cur' et' (0, 0)) ∧ cur'.size = τ.size + 1 ∧ cur'.toList.drop τ.size = [.map (some m)] ∧
   w'.heap[m]? = some (.map es' clk') ∧ Ka w' (fun c => O c ∨ c = b ∨ c = m) τ r.1 (cur'.toList.take τ.size) ∧ Il w' (fun c => O c ∨ c = b ∨ c = m) κ ε r.2.1 es' ∧ Ka w' (fun c => O c ∨ c = b ∨ c = m) rt r.2.2 cs))
 {bid id : Nat} {ds d d0 : D} (hd0 : s.ev a0 = some (.ptr bid [])) (hds : Zl s args' = some ds) (hbx : s.heap bid = some (.box (.p τ (.p (.mp κ ε) .u)) d)) (hf0 : d.field 0 = some d0) (hf1 : d.field 1 = some (.mpo id))
 {x : T pt} (hx : Vf ds pt = some x) {x0 : T τ} (hx0 : Vf d0 τ = some x0) {xs : List (T κ × T ε)} (hid : s.heap id = some (.mp κ ε xs)) {r : T τ × (List (T κ × T ε) × T rt)} (hr : F x0 xs x = some r)
 (he : Kf s o.dst (.t rt r.2.2) [(bid, some (.box (.p τ (.p (.mp κ ε) .u)) (.pr (.t τ r.1) (.pr (.mpo id) .un)))), (id, some (.mp κ ε r.2.1))] k = some out) : o.wp P a w (Zd n0 A O0 w0 k out) Q := by
 have hne : bid ≠ id := by
  rintro rfl
  rw [hbx] at hid
  simp at hid
 obtain ⟨hsh, b, cur, et, hσ, hh, hF, hrep, hsz⟩ := h.hp bid _ hbx
 obtain ⟨m, es, clk, hσm, hhm, hFm, hz', hen⟩ := h.hp id _ hid
 have hsz1 : cur.size = τ.size + 1 := hsz
 have hptr := h.ev hd0
 rw [Al] at hptr
 obtain ⟨b', hσb, hval⟩ := hptr.2 _ _ hbx
 rw [hσ] at hσb
 simp only [Value.pointer.injEq, jc, Addr.mk.injEq, and_true] at hσb
 subst hσb
 simp only [Db] at hval
 obtain ⟨_, r1⟩ := Wa.field (n := 0) (τ := τ) hsh rfl hf0 hrep
 obtain ⟨_, r2⟩ := Wa.field (n := 1) (τ := .mp κ ε) hsh rfl hf1 hrep
 have hv0 : Ka w (OO O0 s φ) τ x0 (cur.toList.take τ.size) := by
  have := (Xe hx0).2 _ r1
  simpa [Bc] using this
 have hdrop : cur.toList.drop τ.size = [.map (some m)] := by
  obtain ⟨v, h1, _, h2⟩ := r2
  rw [h2 _ hid rfl, hσm] at h1
  have hl : (cur.toList.drop τ.size).length = 1 := by simp; omega
  simpa [Bc, Ty.size, List.take_of_length_le (Nat.le_of_eq hl)] using h1
 have hdr := h.drop [bid, id]
 have hOO : (fun c => OO O0 ⟨s.n, s.tm, Ub [bid, id] ++ s.hp⟩ φ c ∨ c = b ∨ c = m) = OO O0 s φ := by
  funext c
  refine propext ⟨fun hc => ?_, fun hc => ?_⟩
  ·rcases hc with hc | rfl | rfl
   ·rcases JF hc with hc | ⟨j, Da, _, h1, h2⟩
    ·exact .inl hc
    ·exact .inr ⟨j, Da, h1, h2⟩
   ·exact .inr ⟨bid, _, hbx, by rw [hF]; simp⟩
   ·exact .inr ⟨id, _, hid, by rw [hFm]; simp⟩
  ·rcases hc with hc | ⟨j, Da, h1, h2⟩
   ·exact .inl (.inl hc)
   ·by_cases hj : j = bid
    ·subst hj
     rw [hF] at h2
     exact .inr (.inl (by simpa using h2))
    ·by_cases hj2 : j = id
     ·subst hj2
      rw [hFm] at h2
      exact .inr (.inr (by simpa using h2))
     ·refine .inl (.inr ⟨j, Da, ?_, h2⟩)
      have : j ∉ [bid, id] := by simp [hj, hj2]
      simp only [AS.heap, Kl, if_neg this]
      exact h1
 have hno : ∀ j Da, j ∈ [bid, id] → s.heap j = some Da → ∀ c, c ∈ φ j → ¬ OO O0 ⟨s.n, s.tm, Ub [bid, id] ++ s.hp⟩ φ c := by
  intro j Da hj hb c hc hO
  rcases JF hO with hO | ⟨j', blk', hj', h1, h2⟩
  ·rw [hbm] at hz
   exact noB hz h j Da hb c hc hO
  ·exact h.disj j j' Da blk' (fun e => hj' (e ▸ hj)) hb h1 c hc h2
 have hva : Ff w (OO O0 s φ) pt x (args'.map a.eval) := BZ h hds hx
 have hrun := Tu (a := a) (w := w) ho hE
 rw [hargs, yh, hval] at hrun
 refine Px hrun (hS (OO O0 ⟨s.n, s.tm, Ub [bid, id] ++ s.hp⟩ φ) w x0 xs x r b m clk cur et es _ hr hh hsz1 hdrop hhm (by rw [hOO]; exact hv0) (by rw [hOO]; exact ⟨hz', hen⟩) (by rw [hOO]; exact hva)
  (hno bid _ (by simp) hbx b (by rw [hF]; simp)) (hno id _ (by simp) hid m (by rw [hFm]; simp)) (fun c hc => hdr.OO_lt hc) h.iv (qb h.iv0 h.fr.size) (h.ivb hbx (by rw [hF]; simp)) (h.ivb hid (by rw [hFm]; simp))) ?_
 rintro u w' ⟨cs, cur', et', es', clk', rfl, hK, hh', hsz', hdrop', hhm', hv', hen', hvr⟩
 rw [hOO] at hv' hen' hvr
 have hs1 : AS.heap ⟨s.n, s.tm, (bid, some (.box (.p τ (.p (.mp κ ε) .u)) (.pr (.t τ r.1) (.pr (.mpo id) .un)))) :: (id, some (.mp κ ε r.2.1)) :: s.hp⟩ bid = some (.box (.p τ (.p (.mp κ ε) .u)) (.pr (.t τ r.1) (.pr (.mpo id) .un))) := by simp [AS.heap, Vb]
 have hs2 : AS.heap ⟨s.n, s.tm, (bid, some (.box (.p τ (.p (.mp κ ε) .u)) (.pr (.t τ r.1) (.pr (.mpo id) .un)))) :: (id, some (.mp κ ε r.2.1)) :: s.hp⟩ id = some (.mp κ ε r.2.1) := by simp [AS.heap, Vb, hne]
 have hs3 : ∀ j, j ≠ bid → j ≠ id → AS.heap ⟨s.n, s.tm, (bid, some (.box (.p τ (.p (.mp κ ε) .u)) (.pr (.t τ r.1) (.pr (.mpo id) .un)))) :: (id, some (.mp κ ε r.2.1)) :: s.hp⟩ j = s.heap j := fun j h1 h2 => by
  simp [AS.heap, Vb, Ne.symm h1, Ne.symm h2]
 generalize hs' : AS.mk s.n s.tm ((bid, some (.box (.p τ (.p (.mp κ ε) .u)) (.pr (.t τ r.1) (.pr (.mpo id) .un)))) :: (id, some (.mp κ ε r.2.1)) :: s.hp) = s' at hs1 hs2 hs3
 have hOO' : OO O0 s' φ = OO O0 s φ := by
  funext c
  refine propext ⟨fun hc => ?_, fun hc => ?_⟩
  ·rcases hc with hc | ⟨j, Da, h1, h2⟩
   ·exact .inl hc
   ·by_cases hj : j = bid
    ·subst hj; exact .inr ⟨j, _, hbx, h2⟩
    ·by_cases hj2 : j = id
     ·subst hj2; exact .inr ⟨j, _, hid, h2⟩
     ·rw [hs3 j hj hj2] at h1; exact .inr ⟨j, _, h1, h2⟩
  ·rcases hc with hc | ⟨j, Da, h1, h2⟩
   ·exact .inl hc
   ·by_cases hj : j = bid
    ·subst hj; exact .inr ⟨j, _, hs1, h2⟩
    ·by_cases hj2 : j = id
     ·subst hj2; exact .inr ⟨j, _, hs2, h2⟩
     ·exact .inr ⟨j, _, (hs3 j hj hj2).trans h1, h2⟩
 have hc : Ra n0 A O0 w0 s' σ φ a w' := by
  refine h.trans (fun j => j = bid ∨ j = id) (by rw [← hs']) (by rw [← hs']) (fun j hj => ⟨hs3 j (fun e => hj (.inl e)) (fun e => hj (.inr e)), rfl, rfl⟩) ?_ hK.size ?_ ?_ ?_ ?_ hK.os hK.tape hK.output (fun _ _ => .inl rfl) ?_
  ·intro c hc hno
   refine hK.block c hc ?_
   rintro (rfl | rfl)
   ·exact hno bid _ (.inl rfl) hbx (by rw [hF]; simp)
   ·exact hno id _ (.inr rfl) hid (by rw [hFm]; simp)
  ·rintro j blk' (rfl | rfl) hj c hc
   ·exact .inr ⟨j, _, .inl rfl, hbx, hc⟩
   ·exact .inr ⟨j, _, .inr rfl, hid, hc⟩
  ·rintro j blk' (rfl | rfl) hj _
   ·rw [hs1] at hj
    simp only [jc] at hj
    subst hj
    exact ⟨_, hbx, rfl, rfl⟩
   ·rw [hs2] at hj
    simp only [jc] at hj
    subst hj
    exact ⟨_, hid, ⟨rfl, rfl⟩, rfl⟩
  ·rintro j blk' (rfl | rfl) hj
   ·rw [hs1] at hj
    simp only [jc] at hj
    subst hj
    refine ⟨⟨⟨by simp [Ab], trivial, trivial⟩, b, cur', et', hσ, hh', hF, ⟨cur'.toList.take τ.size, cur'.toList.drop τ.size, (List.take_append_drop _ _).symm, by rw [hOO']; exact hv', [.map (some m)], [], by rw [hdrop']; rfl, ⟨_, rfl, rfl, fun Da hb _ => by rw [hs2] at hb; exact hσm.symm⟩, rfl⟩, hsz'⟩, h.nodup j _ hbx⟩
   ·rw [hs2] at hj
    simp only [jc] at hj
    subst hj
    rw [hOO']
    exact ⟨⟨m, es', clk', hσm, hhm', hFm, hen'.1, hen'.2⟩, h.nodup j _ hid⟩
  ·rintro j j' Da blk' (rfl | rfl) (rfl | rfl) hjj hj hj' c hc
   ·exact absurd rfl hjj
   ·exact h.disj j j' _ _ hjj hbx hid c hc
   ·exact h.disj j j' _ _ hjj hid hbx c hc
   ·exact absurd rfl hjj
  ·rintro j kk e xs' (rfl | rfl) hj
   ·rw [hs1] at hj; simp at hj
   ·rw [hs2] at hj; simp at hj
 refine Hd (s₁ := s') (by rw [← hs']; rfl) hc ?_ he
 refine Rm (QH (d := .t rt r.2.2) (by simp [Ab]) ?_)
 rw [hOO']
 exact hvr
theorem Caj (hG : Ui P A.I G) (hfz : OC G A O0) (h : Ra n0 A O0 w0 s σ φ a w) {f : FuncId} {args : Array Operand} {ts : Array TypeId} (ho : o.op = .call ⟨.value (.func f), args, ts⟩)
 (he : Se G s o k = some out) : o.wp P a w (Zd n0 A O0 w0 k out) Q := by
 simp only [Se, Qb, ho] at he
 unfold UA at he
 split at he
 ·
  rename_i pt rt fr F hfn
  obtain ⟨hE, hS⟩ := hG.fn _ _ hfn
  split at he
  ·rename_i ds hds
   split at he
   ·rename_i x hx
    cases hr : F x with
    | none => simp [hr] at he
    | some r =>
     simp only [hr, jb] at he
     split at he
     ·rename_i d u m hop
      split at he
      ·rename_i d' hres
       cases hc : (jy m (100064 + 64 * o.dst.getD 0) && Dd s u && ((!ds.hasOwn || fr.all id) || ((G.fz && !Dq G.att) && ds.noCut))) with
       | false => rw [hc] at he; simp at he
       | true =>
        rw [hc] at he
        simp only [y3] at he
        simp only [jd] at hc
        obtain ⟨⟨_, hfi⟩, hno⟩ := hc
        cases hno1 : (!ds.hasOwn || fr.all id) with
        | false =>
         rw [hno1] at hno he
         simp only [yr, jd, yj] at hno
         simp only [y8] at he
         have h1 := h.drop ds.owns
         have hV := PQ (noA (hfz hno.1.1) (by rw [hno.1.2]; rfl) h) h (L := ds.owns) hds hx hno.2 fun j hj => hj
         refine Px (Tu ho hE) (hS _ w x r _ hr hV (fun b hb => h1.OO_lt hb) h.iv (qb h.iv0 h.fr.size)) ?_
         rintro v w' ⟨vs, Fr, rfl, hK, hR, hFn, hFr⟩
         have e : (fun b => OO O0 ⟨s.n, s.tm, Ub ds.owns ++ s.hp⟩ φ b ∨ b ∈ ([] : List Nat) ∨ b ∈ Fr) = (fun b => OO O0 ⟨s.n, s.tm, Ub ds.owns ++ s.hp⟩ φ b ∨ b ∈ Fr) := by
          funext b; simp
         refine UG (s := ⟨s.n, s.tm, Ub ds.owns ++ s.hp⟩) (V := []) (l := []) (ψ0 := fun _ => []) (F1 := []) h1 rfl List.nodup_nil (by simp) (by simp [Ia]) (by simp) ⟨hK.size, fun b hb _ => hK.block b hb (fun h => h), hK.os, hK.tape, hK.output⟩ (by simp)
          hop (AU.trans hfi) (by rw [e]; exact hR) (by simpa using hFn) (fun b hb => .inl (hFr b hb)) hres ?_
         unfold Kf at he ⊢
         simp only [List.append_nil, ← qy]
         exact he
        | true =>
        rw [hno1] at he
        simp only [y3] at he
        simp only [qw, yj] at hno1
        have hno := hno1
        have key : ∃ O : Nat → Prop, (∀ b, O b → b < w.heap.size) ∧ Ff w O pt x (args.toList.map a.eval) ∧
         ∀ (w' : World) (vs : List Value) (Fr : List Nat), Jc w' (fun b => O b ∨ b ∈ Fr) rt r fr vs Fr → Jc w' (fun b => OO O0 s φ b ∨ b ∈ ([] : List Nat) ∨ b ∈ Fr) rt r fr vs Fr := by
         rcases hno with hno | hno
         ·refine ⟨OO O0 s φ, fun b hb => h.OO_lt hb, FA h (fun d τ x cs he hr ho => ?_) hds hx (.inr hno), fun w' vs Fr hR => ?_⟩
          ·rcases ho with ho | ho
           ·rw [ho]; exact Iq h he hr
           ·exact (Xe (LB ho he)).2 _ hr
          ·have : (fun b => OO O0 s φ b ∨ b ∈ ([] : List Nat) ∨ b ∈ Fr) = (fun b => OO O0 s φ b ∨ b ∈ Fr) := by
            funext b; simp
           rw [this]; exact hR
         ·exact ⟨noO, fun b hb => hb.elim, FA h (fun d τ x cs he hr _ => Iq h he hr) hds hx (.inl rfl), fun w' vs Fr hR => hR.all hno⟩
        obtain ⟨O, hO1, hO2, hO3⟩ := key
        refine Px (Tu ho hE) (hS O w x r _ hr hO2 hO1 h.iv (qb h.iv0 h.fr.size)) ?_
        rintro v w' ⟨vs, Fr, rfl, hK, hR, hFn, hFr⟩
        exact UG (V := []) (l := []) (ψ0 := fun _ => []) (F1 := []) h rfl List.nodup_nil (by simp) (by simp [Ia]) (by simp) ⟨hK.size, fun b hb _ => hK.block b hb (fun h => h), hK.os, hK.tape, hK.output⟩ (by simp)
         hop hfi (hO3 _ _ _ hR) (by simpa using hFn) (fun b hb => .inl (hFr b hb)) hres (by simpa using he)
      ·simp at he
     ·simp at he
   ·simp at he
  ·simp at he
 ·
  rename_i τ pt rt fr F hfn
  obtain ⟨hE, hS⟩ := hG.fn _ _ hfn
  split at he
  ·rename_i a0 args' hargs
   split at he
   ·rename_i d0 ds hd0 hds
    split at he
    ·rename_i x0 l x hx0 hx
     cases hr : F x0 x with
     | none => simp [hr] at he
     | some r =>
      simp only [hr, jb] at he
      split at he
      ·rename_i d u m hop
       split at he
       ·rename_i d' hres
        cases hc : (jy m (100064 + 64 * o.dst.getD 0) && Dd s u && Mf l && !ds.hasOwn) with
        | false => rw [hc] at he; simp at he
        | true =>
         rw [hc] at he
         simp only [y3] at he
         simp only [jd, yj] at hc
         obtain ⟨⟨⟨_, hfi⟩, hnd⟩, hno⟩ := hc
         have hnd := Rh hnd
         obtain ⟨hrep, hval⟩ := Kd (Cj hx0) (h.ev hd0)
         obtain ⟨hown, hlive⟩ := Jm h hx0 hrep
         have hbn := Qf h hnd hlive
         have hva : Ff w (OO O0 s φ) pt x (args'.map a.eval) := by
          refine FA h (fun d τ x cs he hr ho => ?_) hds hx (.inr hno)
          rcases ho with ho | ho
          ·rw [ho]; exact Iq h he hr
          ·exact (Xe (LB ho he)).2 _ hr
         have hsub : ∀ b, b ∈ Ia φ l → OO O0 s φ b := by
          intro b hb
          obtain ⟨j, hj, hm⟩ := Gb.1 hb
          obtain ⟨Da, hbj⟩ := hlive j hj
          exact .inr ⟨j, Da, hbj, hm⟩
         have hOO : (fun b => OO O0 s φ b ∨ b ∈ Ia φ l) = OO O0 s φ := by
          funext b
          exact propext ⟨fun h => h.elim id (hsub b), .inl⟩
         have hrun := Tu (a := a) (w := w) ho hE
         rw [hargs, yh, hval] at hrun
         refine Px hrun (hS (OO O0 s φ) w x0 x r _ _ _ hr hown hbn (by rw [hOO]; exact hva) (fun b hb => h.OO_lt hb) h.iv (qb h.iv0 h.fr.size) (YI h hlive)) ?_
         rintro v w' ⟨vs, F1, Fr, rfl, hK, hown', hF1, hR, hFn, hFr⟩
         obtain ⟨g1, ψ, g2, g3⟩ := Zaj h hx0 hnd hrep hown'
         refine UG (V := EA d0 τ r.1) (l := l) (ψ0 := ψ) (F1 := F1) h g1 hnd (fun j hj => QF hd0 (AK hx0 j hj)) g2 g3 hK hF1 hop hfi ?_ hFn hFr hres he
         have : (fun b => OO O0 s φ b ∨ b ∈ F1 ∨ b ∈ Fr) = (fun b => OO O0 s φ b ∨ b ∈ Ia φ l ∨ b ∈ F1 ∨ b ∈ Fr) := by
          funext b
          refine propext ⟨fun h => h.elim .inl fun h => .inr (.inr h), fun h => h.elim .inl fun h => h.elim (fun h => .inl (hsub b h)) .inr⟩
         rw [this]
         exact hR
       ·simp at he
      ·simp at he
    ·simp at he
   ·simp at he
  ·simp at he
 ·
  rename_i pt rt fr F hfn
  obtain ⟨hE, hS⟩ := hG.fn _ _ hfn
  split at he
  ·rename_i ds hds
   split at he
   ·rename_i x l hx
    cases hr : F x with
    | none => simp [hr] at he
    | some r =>
     simp only [hr, jb] at he
     split at he
     ·rename_i d u m hop
      split at he
      ·rename_i d' hres
       cases hc : (jy m (100064 + 64 * o.dst.getD 0) && Dd s u && Mf l && (fr.all id || (G.fz && !Dq G.att))) with
       | false => rw [hc] at he; simp at he
       | true =>
        rw [hc] at he
        simp only [y3] at he
        simp only [jd] at hc
        obtain ⟨⟨⟨_, hfi⟩, hnd⟩, hvw⟩ := hc
        have hnd := Rh hnd
        obtain ⟨hnew, hun⟩ := Iw hfi
        obtain ⟨hoa, hlive, hlm⟩ := ON h hds hx
        have hbn := Qf h hnd hlive
        have hsub : ∀ b, b ∈ Ia φ l → OO O0 s φ b := by
         intro b hb
         obtain ⟨j, hj, hm⟩ := Gb.1 hb
         obtain ⟨Da, hbj⟩ := hlive j hj
         exact .inr ⟨j, Da, hbj, hm⟩
        have key : ∃ O : Nat → Prop, (∀ b, O b → b < w.heap.size) ∧ (fr.all id = true ∨ ∀ b, b ∈ Ia φ l → ¬ O b) ∧
         ∀ (w' : World) (vs : List Value) (Fr : List Nat), Jc w' (fun b => O b ∨ b ∈ Fr) rt r fr vs Fr → Jc w' (fun b => OL O0 s l φ b ∨ b ∈ Fr) rt r fr vs Fr := by
         cases hall : fr.all id with
         | true => exact ⟨noO, fun b hb => hb.elim, .inl rfl, fun w' vs Fr hR => hR.all hall⟩
         | false =>
          rw [hall] at hvw
          simp only [yr, jd, yj] at hvw
          have hN := noA (hfz hvw.1) (by rw [hvw.2]; rfl) h
          refine ⟨OL O0 s l φ, fun b hb => h.OO_lt hb.oo, .inr fun b hb hO => ?_, fun w' vs Fr hR => hR⟩
          obtain ⟨j, hj, hm⟩ := Gb.1 hb
          obtain ⟨Da, hbj⟩ := hlive j hj
          rcases hO with ho | ⟨j', blk', hj', hl', hm'⟩
          ·exact hN j Da hbj (Laj hx j hj Da hbj) b hm ho
          ·exact h.disj j j' Da blk' (fun e => hj' (e ▸ hj)) hbj hl' b hm hm'
        obtain ⟨O, hO1, hO2, hO3⟩ := key
        refine Px (Tu ho hE) (hS O w x r _ _ hr hoa hbn hO1 hO2 h.iv (qb h.iv0 h.fr.size) (YI h hlive)) ?_
        rintro v w' ⟨vs, Fr, rfl, hK, hR, hFn, hFr⟩
        have hR := hO3 _ _ _ hR
        obtain ⟨_, _, ψ, ν, hb1, hup, hrep⟩ := MH hop hR
        obtain ⟨σ', φ', hc', g1, g2⟩ := h.after2 (U := u) (X := []) (l := l) (ψ := ψ) (ν := ν) hun hnew (by simp) hlive (by simp) (by simpa using hK) hup (by rw [hb1]; exact hFn)
         (by rw [hb1]; exact hFr) (fun j hj => UP (hlm j (by simpa using hj))) (by simp)
        refine Hd (upd := u ++ Ub l) rfl hc' ?_ he
        refine LR hres (hrep _ _ _ g1 fun b _ hno hO => hno ?_)
        rw [hb1] at g2
        exact g2 b hO
      ·simp at he
     ·simp at he
   ·simp at he
  ·simp at he
 ·
  rename_i vw cv τ pt rt fr F hfn
  obtain ⟨hE, hS⟩ := hG.fn _ _ hfn
  split at he
  ·rename_i a0 args' hargs
   split at he
   ·rename_i bid ds hd0 hds
    split at he
    ·rename_i τ' d0 hbx
     split at he
     ·rename_i q x0 l x l2 hq hx0 hx
      obtain rfl := Pc hq
      cases hr : F x0 x with
      | none => simp [hr] at he
      | some r =>
       simp only [hr, jb] at he
       split at he
       ·rename_i d u m hop
        split at he
        ·rename_i d' e v m' hres hev
         cases hc : (jy m' (100064 + 64 * o.dst.getD 0) && Dd s (u ++ v) && Mf (bid :: (l ++ l2)) && (cv || !ds.hasOwn)) with
         | false => rw [hc] at he; simp at he
         | true =>
          rw [hc] at he
          simp only [y3] at he
          simp only [jd] at hc
          obtain ⟨⟨⟨_, hfi⟩, hnd⟩, hcv⟩ := hc
          have hnd := Rh hnd
          rw [yk] at hnd
          obtain ⟨hnew, hun⟩ := Iw hfi
          have hptr := h.ev hd0
          rw [Al] at hptr
          obtain ⟨b, hσb, hval⟩ := hptr.2 _ _ hbx
          obtain ⟨hsh, b', cur, et, hσ', hh, hF, hrep0, hsz⟩ := h.hp bid _ hbx
          rw [hσ'] at hσb
          simp only [Value.pointer.injEq, jc, Addr.mk.injEq, and_true] at hσb
          subst hσb
          simp only [Db] at hval
          have hl : (∀ j, j ∈ l → ∃ Da, s.heap j = some Da) ∧ (∀ j, j ∈ l → s.ment j = true) ∧ (if vw then Ka w (OO O0 s φ) τ' x0 cur.toList ∧ l = [] else Ob w τ' x0 cur.toList (Ia φ l)) := by
           cases vw with
           | true =>
            simp only [y3] at hx0
            split at hx0
            ·rename_i y hy
             simp only [jc, jh] at hx0
             obtain ⟨rfl, rfl⟩ := hx0
             exact ⟨by simp, by simp, by simp only [if_true]; exact ⟨(Xe hy).2 _ hrep0, trivial⟩⟩
            ·simp at hx0
           | false =>
            simp only [y8] at hx0
            obtain ⟨g1, g2⟩ := Jm h hx0 hrep0
            refine ⟨g2, fun j hj => AS.ment_heap hbx ?_, by simpa using g1⟩
            exact AK hx0 j hj
          obtain ⟨hl1, hl2, hl3⟩ := hl
          have hx' : (∀ j, j ∈ l2 → ∃ Da, s.heap j = some Da) ∧ (∀ j, j ∈ l2 → s.ment j = true) ∧ (if cv then Ue w pt x (args'.map a.eval) (Ia φ l2) else Ff w (OO O0 s φ) pt x (args'.map a.eval) ∧ l2 = []) := by
           cases cv with
           | true =>
            simp only [y3] at hx
            obtain ⟨g1, g2, g3⟩ := ON h hds hx
            exact ⟨g2, g3, by simpa using g1⟩
           | false =>
            simp only [y8] at hx
            split at hx
            ·rename_i y hy
             simp only [jc, jh] at hx
             obtain ⟨rfl, rfl⟩ := hx
             have hno : ds.hasOwn = false := by simpa using hcv
             have hva : Ff w (OO O0 s φ) pt y (args'.map a.eval) := by
              refine FA h (fun d τ x cs he hr ho => ?_) hds hy (.inr hno)
              rcases ho with ho | ho
              ·rw [ho]; exact Iq h he hr
              ·exact (Xe (LB ho he)).2 _ hr
             exact ⟨by simp, by simp, by simp only [jr, if_false]; exact ⟨hva, trivial⟩⟩
            ·simp at hx
          obtain ⟨hx1, hx2, hx3⟩ := hx'
          have hlive : ∀ j, j ∈ bid :: (l ++ l2) → ∃ Da, s.heap j = some Da := by
           intro j hj
           rcases jq.1 hj with rfl | hj
           ·exact ⟨_, hbx⟩
           ·rcases jm.1 hj with hj | hj
            ·exact hl1 j hj
            ·exact hx1 j hj
          have hbn := Qf h (yk.2 hnd) hlive
          have hblk : Ia φ (bid :: (l ++ l2)) = b' :: (Ia φ l ++ Ia φ l2) := by
           have : Ia φ (bid :: (l ++ l2)) = φ bid ++ Ia φ (l ++ l2) := by simp [Ia]
           rw [this, hF, Rd]; rfl
          have hsub : ∀ c, c ∈ b' :: (Ia φ l ++ Ia φ l2) → OO O0 s φ c := by
           intro c hc
           rw [← hblk] at hc
           obtain ⟨j, hj, hm⟩ := Gb.1 hc
           obtain ⟨Da, hbj⟩ := hlive j hj
           exact .inr ⟨j, Da, hbj, hm⟩
          have hO1 : (fun c => OO O0 s φ c ∨ c = b' ∨ c ∈ Ia φ l2) = OO O0 s φ := by
           funext c
           refine propext ⟨fun hc => ?_, .inl⟩
           rcases hc with hc | rfl | hc
           ·exact hc
           ·exact hsub _ List.mem_cons_self
           ·exact hsub _ (js _ (qu _ hc))
          have hO2 : (fun c => OO O0 s φ c ∨ c = b' ∨ c ∈ Ia φ l) = OO O0 s φ := by
           funext c
           refine propext ⟨fun hc => ?_, .inl⟩
           rcases hc with hc | rfl | hc
           ·exact hc
           ·exact hsub _ List.mem_cons_self
           ·exact hsub _ (js _ (qt _ hc))
          have hrun := Tu (a := a) (w := w) ho hE
          rw [hargs, yh, hval] at hrun
          refine Px hrun (hS (OO O0 s φ) w x0 x r b' cur et (Ia φ l) (Ia φ l2) _ hr hh hsz ?_ ?_ (by rw [← hblk]; exact hbn) (fun b hb => h.OO_lt hb) h.iv (qb h.iv0 h.fr.size)
           (by rw [← hblk]; exact YI h hlive)) ?_
          ·cases vw with
           | true =>
            simp only [if_true] at hl3 ⊢
            rw [hO1]
            exact ⟨hl3.1, by rw [hl3.2]; simp [Ia]⟩
           | false => simpa using hl3
          ·cases cv with
           | true => simpa using hx3
           | false =>
            simp only [jr, if_false] at hx3 ⊢
            rw [hO2]
            exact ⟨hx3.1, by rw [hx3.2]; simp [Ia]⟩
          ·rintro v' w' ⟨vs, cur', et', F1, Fr, rfl, hK, hh', hsz', hcont, hR, hFn, hFr⟩
           obtain ⟨hnm, hun1, ψ1, ν1, hb1, hup1, hrep1⟩ := MH hop hR
           have hb'lt : b' < w.heap.size := (Array.getElem?_eq_some_iff.1 hh).1
           have hSub2 : ∀ c, (OO O0 s φ c ∨ c ∈ b' :: (Ia φ l ++ Ia φ l2)) → OO O0 s φ c := fun c hc => hc.elim id (hsub c)
           have key : ∃ (ψ : Nat → List Nat) (ν : Nat → Value), Ia ψ ((u ++ v).map (·.1)) = Fr ++ F1 ∧ (∀ p, p ∈ u ++ v → FB w' p.2 (ν p.1) (ψ p.1)) ∧
            (∀ p, p ∈ u → ν p.1 = ν1 p.1) ∧ ∀ (hp' : Nat → Option Ja) (σ2 : Nat → Value) (O' : Nat → Prop), σ2 bid = σ bid → (∀ q, q ∈ u ++ v → σ2 q.1 = ν q.1) → (∀ c, O' c → OO O0 s φ c ∨ c ∈ Fr ++ F1) → Ec w' O' hp' σ2 bid (.box τ' e) (φ bid) := by
            cases vw with
            | true =>
             simp only [y3, jh] at hev
             obtain ⟨rfl, rfl, rfl⟩ := hev
             simp only [if_true] at hcont
             obtain ⟨hcv', rfl⟩ := hcont
             refine ⟨ψ1, ν1, by simpa using hb1, by simpa using hup1, fun _ _ => rfl, fun hp' σ2 O' h1 _ h2 => ⟨by simp [Ab], b', cur', et', h1.trans hσ', hh', hF, ?_, hsz'⟩⟩
             refine Ka.weaken (fun c hc => ?_) hcv'
             rcases h2 c hc with h3 | h3
             ·exact .inl h3
             ·exact .inr (.inr (by simpa using h3))
            | false =>
             simp only [y8] at hev
             simp only [jr, if_false] at hcont
             obtain ⟨a1, a2, a3, ψ2, ν2, a4, a5, a6⟩ := Qu hev hcont
             refine ⟨fun id => if id < m then ψ1 id else ψ2 id, fun id => if id < m then ν1 id else ν2 id, ?_, ?_, ?_, fun hp' σ2 O' h1 h3 h2 => ⟨a3, b', cur', et', h1.trans hσ', hh', hF, ?_, hsz'⟩⟩
             ·rw [yu, Rd, ← hb1, ← a4]
              congr 1
              ·exact Kk fun j hj => by
                obtain ⟨p, hp, rfl⟩ := qk.1 hj
                rw [if_pos (hun1 p hp).2]
              ·exact Kk fun j hj => by
                obtain ⟨p, hp, rfl⟩ := qk.1 hj
                rw [if_neg (by have := a2 p hp; omega)]
             ·intro p hp
              rcases jm.1 hp with hp | hp
              ·simp only [if_pos (hun1 p hp).2]; exact hup1 p hp
              ·have : ¬ p.1 < m := by have := a2 p hp; omega
               simp only [if_neg this]; exact a5 p hp
             ·intro p hp
              simp only [if_pos (hun1 p hp).2]
             ·refine a6 w' hp' σ2 O' fun p hp => ?_
              have h4 := h3 p (qu _ hp)
              have : ¬ p.1 < m := by have := a2 p hp; omega
              simp only [if_neg this] at h4
              exact h4
           obtain ⟨ψ, ν, k1, k2, k3, k4⟩ := key
           rw [yk] at hFn
           obtain ⟨σ', φ', hc', g1, g2⟩ := h.after (U := u ++ v) (X := [(bid, some (.box τ' e))]) (l := l ++ l2) (ψ := ψ) (ν := ν) hun hnew (by simp) (fun j hj => hlive j (js _ hj))
            (by intro j hj; simp at hj; subst hj; exact hnd.1) (by
             have : Ia φ ([(bid, some (Ja.box τ' e))].map (·.1) ++ (l ++ l2)) = b' :: (Ia φ l ++ Ia φ l2) := hblk
             rw [this]; exact hK) k2 (by rw [k1]; exact (List.perm_append_comm.nodup_iff).1 hFn.2)
            (by
             rw [k1, Rd]
             intro c hc
             refine hFr c ?_
             rcases jm.1 hc with hc | hc
             ·exact qu _ hc
             ·exact qt _ hc)
            (by
             intro j hj
             refine UP ?_
             have hj : j ∈ bid :: (l ++ l2) := hj
             rcases jq.1 hj with rfl | hj
             ·exact QF hd0 (by simp [D.ment])
             ·rcases jm.1 hj with hj | hj
              ·exact hl2 j hj
              ·exact hx2 j hj)
            (by
             intro p hp
             simp only [qd] at hp
             subst hp
             exact ⟨τ', d0, e, rfl, hbx, fun hp' σ2 O' h1 h2 h3 => k4 hp' σ2 O' h1 h2 (by rw [k1] at h3; exact h3)⟩)
           refine Hd (upd := u ++ (v ++ ((bid, some (.box τ' e)) :: Ub (l ++ l2)))) (s₁ := ⟨s.n, s.tm, u ++ v ++ ([(bid, some (.box τ' e))] ++ Ub (l ++ l2)) ++ s.hp⟩) (by simp) hc' ?_ he
           refine LR hres (hrep1 _ _ _ (fun p hp => (g1 p (qt _ hp)).trans (k3 p hp)) fun c _ hno hO => hno ?_)
           rcases g2 c hO with h1 | h1
           ·exact .inl h1
           ·rw [k1] at h1
            rcases jm.1 h1 with h1 | h1
            ·exact .inr (.inr (.inr h1))
            ·exact .inr (.inr (.inl h1))
        ·simp at he
       ·simp at he
     ·simp at he
    ·simp at he
   ·simp at he
  ·simp at he
 ·
  rename_i pt τ F hfn
  obtain ⟨hE, hS⟩ := hG.fn _ _ hfn
  split at he
  ·rename_i tt ds hd hds
   split at he
   ·rename_i x hx
    cases hr : F x with
    | none => simp [hr] at he
    | some r =>
     simp only [hr, jb] at he
     cases hc : (s.newOk tt && !ds.hasOwn) with
     | false => rw [hc] at he; simp at he
     | true =>
      rw [hc] at he
      simp only [y3] at he
      simp only [jd, yj] at hc
      obtain ⟨hnew, hno⟩ := hc
      have hva : Ff w (OO O0 s φ) pt x (args.toList.map a.eval) := by
       refine FA h (fun d τ x cs he hr ho => ?_) hds hx (.inr hno)
       rcases ho with ho | ho
       ·rw [ho]; exact Iq h he hr
       ·exact (Xe (LB ho he)).2 _ hr
      refine Px (Tu ho hE) (hS (OO O0 s φ) w x r _ hr hva (fun b hb => h.OO_lt hb) h.iv (qb h.iv0 h.fr.size)) ?_
      rintro v w' ⟨b, cur, et, rfl, hK, hb, hh, hsz, hvw⟩
      have hc := h.new1b (w' := w') hnew (.box τ (.t τ r)) (.pointer (some ⟨b, 0, none⟩)) [b] hK.size (fun c hc => hK.block c hc (fun h => h)) hK.os hK.tape hK.output (by simp) (by simpa using hb)
       (fun hp' σ' O' hσ hO => ⟨by simp [Ab], b, cur, et, hσ, hh, rfl, Ka.weaken (fun c hc => by
        rcases hO c hc with h1 | h1
        ·exact .inl h1
        ·exact .inr (by simpa using h1)) hvw, hsz⟩)
      exact Hd rfl hc (QC _ rfl (Rf _ _ _)) he
   ·simp at he
  ·simp at he
 ·
  rename_i τ κ ε pt rt F hfn
  obtain ⟨hE, hS⟩ := hG.fn _ _ hfn
  split at he
  ·rename_i a0 args' hargs
   split at he
   ·rename_i bid ds hd0 hds
    split at he
    ·rename_i ρ d hbx
     split at he
     ·rename_i q d0 id x hq hf0 hf1 hx
      obtain rfl := Pc hq
      split at he
      ·rename_i x0 k' v' xs hx0 hid
       split at he
       ·rename_i g1 g2 _ _
        obtain rfl := g1
        obtain rfl := g2
        cases hr : F x0 xs x with
        | none => simp [hr] at he
        | some r =>
         simp only [hr, jb] at he
         cases hc : (G.fz && !Dq G.att) with
         | false => rw [hc] at he; simp at he
         | true =>
          rw [hc] at he
          simp only [y3] at he
          simp only [jd, yj] at hc
          exact Bad h (hfz hc.1) hc.2 ho hargs hE hS hd0 hds hbx hf0 hf1 hx hx0 hid hr he
       ·simp at he
      ·simp at he
     ·simp at he
    ·simp at he
   ·simp at he
  ·simp at he
 ·simp at he
end
theorem El.drop {w : World} {O : Nat → Prop} {dq : Bool} {e : Ty} {xs : List (T e)} {L : List Value} {Fs : List (List Nat)} (h : El w O dq e xs L Fs) {k : Nat} (hk : k ≤ ja xs) :
 El w O dq e (List.drop k xs) (L.drop (k * e.size)) (Fs.drop k) := by
 have hl := h.len
 refine ⟨?_, ?_, ?_⟩
 ·rw [List.length_drop, hl, List.length_drop, Nat.sub_mul]
 ·rw [List.length_drop, List.length_drop, h.flen]
 ·intro i hi
  have hi' : k + i < ja xs := by
   have : i < ja xs - k := by simpa using hi
   omega
  have := h.el (k + i) hi'
  have e1 : Gw (L.drop (k * e.size)) i e.size = Gw L (k + i) e.size := by
   unfold Gw
   rw [qo, yd]
  have e2 : List.get (List.drop k xs) ⟨i, hi⟩ = List.get xs ⟨k + i, hi'⟩ := by simp
  have e3 : (Fs.drop k).getD i [] = Fs.getD (k + i) [] := by simp [qg]
  rw [e1, e2, e3]
  exact this
theorem El.upf {w : World} {O : Nat → Prop} {dq : Bool} {e : Ty} {xs : List (T e)} {L : List Value} {Fs : List (List Nat)} (h : El w O dq e xs L Fs) (hf : e.flat = true) : El w O true e xs L Fs := by
 refine ⟨h.len, h.flen, fun i hi => ?_⟩
 have := h.el i hi
 cases dq with
 | true => exact this
 | false =>
  simp only [jr, if_false] at this
  rw [if_pos rfl, this.2]
  exact this.1.flat hf
theorem El.flats {w : World} {O : Nat → Prop} {e : Ty} {xs : List (T e)} {L : List Value} {Fs : List (List Nat)} (h : El w O true e xs L Fs) (hf : e.flat = true) : Fs.flatten = [] :=
 Jy fun i hi => by
  have := h.el i (by rw [← h.flen]; exact hi)
  rw [if_pos rfl] at this
  exact Ar hf this
section
variable {P : Program} {Out : Type} {n0 : Nat} {A : Fx} {O0 : Nat → Prop} {w0 w w' : World} {s : AS} {σ σ' : Nat → Value} {φ φ' : Nat → List Nat} {a : Act}
variable {o : Oper} {Q : Exit → Act → World → Prop} {k : AS → Option Out} {out : Out} {d : D} {v : Value} {upd : List (Nat × Option Ja)} {dst : Option Tmp} {G : Qd}
theorem RN {cur : Array Value} {off n : Nat} {news : List Value} (h : off + n ≤ cur.size) (hn : news.length ≤ n) :
 Rc (Pb cur.toList off news).toArray off n = news ++ (Rc cur off n).drop news.length := by
 have := Rt (cur := cur) (o := off) (n := n) (o' := 0) (ce := news) h (by omega)
 simp only [q9] at this
 rw [this]
 unfold Pb
 simp
theorem Rad (t tx ty et : TypeId) (i : TypeInfo) (ht : P.underlying t = some (.slice et)) (hi : P.info? et = some i) {b off n cap : Nat} {x : Value} {m : Nat} {news : List Value} (hs : Src P i.size tx x m news w)
 {cur : Array Value} {ct : TypeId} (hh : w.heap[b]? = some (.cells cur ct (0, 0))) (hm : m ≤ n) (hfit : off + news.length ≤ cur.size) :
 (Builtin.copy_ #[t, tx] ty #[.slice (some ⟨b, off, none⟩) n cap, x]).run P w = .ok (.int .i64 (m : Int)) (w.setRow b (Pb cur.toList off news).toArray) := by
 have hst := run_storeCells_at P b off ct news 0 cur w hh (by simpa using hfit) hs.one
 simp only [q9] at hst
 have hmin : Nat.min m n = m := Nat.min_eq_left hm
 simp [Builtin.copy_, run_underlying ht, Go.sizeOf, typeInfo, hi, hs.len, hmin, hs.cells, hst, Pb, goInt]
theorem Daj (hG : EnvTy P G) (h : Ra n0 A O0 w0 s σ φ a w) {args : Array Operand} {ts : Array TypeId} (ho : o.op = .call ⟨.builtin .copy, args, ts⟩)
 (he : Se G s o k = some out) : o.wp P a w (Zd n0 A O0 w0 k out) Q := by
 simp only [Se, Qb, ho] at he
 split at he
 ·rename_i x y t tx hargs hts
  unfold VA at he
  split at he
  ·rename_i e id db hty hx hy
   split at he
   ·rename_i e' dp xs hb
    split at he
    ·rename_i q ys dq m hq hsrc
     obtain rfl := Pc hq
     cases hc : (e'.flat && GC (Eb G.ty tx)) with
     | false => rw [hc] at he; simp at he
     | true =>
      rw [hc] at he
      simp only [y3] at he
      simp only [jd] at hc
      obtain ⟨hfl, hkx⟩ := hc
      cases hlim : jy (ja ys) (ja xs) with
      | false => rw [hlim] at he; simp at he
      | true =>
       rw [hlim] at he
       simp only [y3] at he
       have hlim := qz hlim
       obtain ⟨et, hu, hte⟩ := Tok.sl (hG.ty _ _ hty)
       obtain ⟨i, hi, hsz, _, _⟩ := Tok.size hte
       have hk : (∃ e', P.underlying tx = some (.slice e')) ∨ P.underlying tx = some .string := by
        unfold GC at hkx
        split at hkx
        ·rename_i e' hq
         obtain ⟨et', hu', _⟩ := Tok.sl (hG.ty _ _ hq)
         exact .inl ⟨et', hu'⟩
        ·rename_i hq
         exact .inr (Tok.s (hG.ty _ _ hq))
        ·simp at hkx
       have hev := h.ev hx
       have hrow := UH h hb hev
       rw [hfl, Bool.or_true] at hrow
       obtain ⟨news, Gs, hS, hEl, hsub, hl2⟩ := VR (P := P) h hsrc (h.ev hy) hk
       have hEl := hEl.upf hfl
       have hnl := hS.newsLen
       have hS' : Src P i.size tx (a.eval y) (ja ys) news w := by rw [hsz]; exact hS
       have hts' : ts = #[t, tx] := by
        apply Array.ext'
        rw [hts]
       have hal : ja (jf ys (List.drop (ja ys) xs)) = ja xs := by
        show (ys ++ List.drop ys.length xs).length = _
        rw [qe, List.length_drop]; omega
       obtain ⟨hm, ⟨h1, h2, h3⟩ | ⟨bl, off, cap, cur, ct, Fs, h1, hh, h2, h3, h4, hF, hel⟩⟩ := hrow
       ·subst h2
        have hy0 : ys = ([] : List (T e')) := q6 (by simpa using hlim)
        subst hy0
        have hc : Ra n0 A O0 w0 ⟨s.n, s.tm, (id, some (.row e' dp (jf ([] : List (T e')) (List.drop 0 ([] : List (T e')))))) :: (Ub [] ++ s.hp)⟩ σ (Kg φ id (φ id)) a w := by
         refine h.turn (blk0 := .row e' dp []) hb (by simp [Ja.like]) [] (by simp) (by simp) (φ id) (jp _) (fun _ _ _ _ => rfl) rfl rfl rfl (h.nodup _ _ hb) (fun c hc => .inr (.inl hc)) ?_
         intro hp' O' hO hcp
         have h0 := h.hp id _ hb
         exact Ec.stable (fun _ _ _ => rfl) hO (fun _ _ => rfl) rfl (fun j _ => hcp j) h0
        refine Jb (w' := w) (v := .int .i64 0) ?_ (Hd rfl hc ?_ he)
        ·rw [Mm ho hargs, hts']
         have := hS'.cells
         simp only [j8] at this
         simp [builtin, Builtin.copy_, h1, run_underlying hu, Go.sizeOf, typeInfo, hi, hS'.len, this, goInt]
        ·exact Xd.2 rfl
       ·have hcap := jn e'.size h2
        have hmul := jn e'.size hlim
        have hr := Rad (P := P) (w := w) (b := bl) (off := off) (n := ja xs) (cap := cap) t tx o.type et i hu hi hS' hh hlim (by omega)
        have hF' : φ id = [bl] := by rw [hF, hel.flats hfl]
        have hoth : ∀ c, c ≠ bl → (w.setRow bl (Pb cur.toList off news).toArray).heap[c]? = w.heap[c]? := fun c hc => setRow_other w bl c _ hc
        have hc : Ra n0 A O0 w0 ⟨s.n, s.tm, (id, some (.row e' dp (jf ys (List.drop (ja ys) xs)))) :: (Ub [] ++ s.hp)⟩ σ (Kg φ id (φ id)) a (w.setRow bl (Pb cur.toList off news).toArray) := by
         refine h.turn (blk0 := .row e' dp xs) hb (by simp only [Ja.like, true_and]; exact hal.symm) [] (by simp) (by simp) (φ id) (by simp) ?_ rfl rfl rfl (h.nodup _ _ hb) (fun c hc => .inr (.inl hc)) ?_
         ·intro c _ hc _
          rw [hF'] at hc
          exact hoth c (by simpa using hc)
         ·intro hp' O' hO hcp
          have hnew : Ec (w.setRow bl (Pb cur.toList off news).toArray) O' hp' σ id (.row e' true (jf ys (List.drop (ja ys) xs))) (φ id) := by
           rw [Zj]
           have hσ : σ id = a.eval x := by
            rw [Xz] at hev
            exact (hev.2 _ _ hb rfl).symm
           rw [hσ, h1, hF']
           have happ := hEl.append (hel.drop hlim)
           have hcl : cur.toList.length = cur.size := Array.length_toList
           refine ⟨by rw [hal]; exact hm, .inr ⟨bl, off, cap, _, ct, Gs ++ Fs.drop (ja ys), by rw [hal], setRow_heap w bl cur _ ct (0, 0) hh, by rw [hal]; exact h2, h3, ?_, ?_, ?_⟩⟩
           ·rw [ym, Jg (by omega)]
            omega
           ·rw [happ.flats hfl]
           ·rw [hal, RN (by omega) (by omega), hnl]
            refine happ.stable ?_ ?_ ?_
            ·intro b hb' _
             refine hoth b fun e => hb' (.inr ⟨id, _, hb, ?_⟩)
             rw [hF', e]; simp
            ·exact hO
            ·rw [happ.flats hfl]; simp
          cases dp with
          | true => exact hnew
          | false => exact IR hnew hfl
        refine Jb (w' := w.setRow bl (Pb cur.toList off news).toArray) (v := .int .i64 (ja ys : Int)) ?_ (Hd rfl hc ?_ he)
        ·rw [Mm ho hargs, hts']
         simp [builtin, h1, hr]
        ·exact Xd.2 rfl
    ·simp at he
   ·simp at he
  ·simp at he
 ·simp at he
end
theorem NY {w : World} : ∀ {e : Ty} {x : T e} {p : List Nat} {τ : Ty} {y : D} {y' : T τ} {cs : List Value} {F : List Nat}, Ee e p = some τ → (D.t e x).at p = some y → Vf y τ = some y' →
 Ob w e x cs F → ∃ F1 Fy F3, F = F1 ++ Fy ++ F3 ∧ Ob w τ y' ((cs.drop (Db e p)).take τ.size) Fy ∧
  ∀ (w' : World) (c' : List Value), c'.length = τ.size → (∀ b, b ∈ F1 ++ F3 → w'.heap[b]? = w.heap[b]?) → ∀ (z : T τ) (Fz : List Nat) (x' : T e), Ob w' τ z c' Fz → Zg e x p τ z = some x' →
   Ob w' e x' (Pb cs (Db e p) c') (F1 ++ Fz ++ F3)
 | e, x, [], τ, y, y', cs, F, ht, hy, hy', h => by
  simp only [Ee, jc] at ht
  subst ht
  simp only [D.at, jc] at hy
  subst hy
  simp only [Vf] at hy'
  split at hy'
  ·simp only [jc] at hy'
   subst hy'
   have hl := Ob.length h
   have hcs : (cs.drop (Db e [])).take e.size = cs := by rw [← hl]; simp [Db]
   refine ⟨[], F, [], by simp, by rw [hcs]; exact h, fun w' c' hc' _ z Fz x' hz hs => ?_⟩
   unfold Zg at hs
   split at hs
   ·simp only [jc] at hs
    subst hs
    simp only [Db]
    rw [XH (by omega)]
    simpa using hz
   ·simp at hs
  ·simp at hy'
 | .p a b', x, 0 :: p, τ, y, y', cs, F, ht, hy, hy', h => by
  have ht' : Ee a p = some τ := by simpa [Ee, Oa] using ht
  have hy1 : (D.t a x.1).at p = some y := by simpa [D.at, D.field, D.fst] using hy
  obtain ⟨c1, c2, Fa, Fb, hc, hF, h1, h2⟩ := h
  obtain ⟨F1, Fy, F3, e1, e2, e3⟩ := NY ht' hy1 hy' h1
  have hle := Yg ht'
  have l1 := Ob.length h1
  have ho : Db (.p a b') (0 :: p) = Db a p := by simp [Db, Bc, Oa]
  have hcs : (cs.drop (Db (.p a b') (0 :: p))).take τ.size = (c1.drop (Db a p)).take τ.size := by
   rw [ho, hc, List.drop_append_of_le_length (by omega), List.take_append_of_le_length (by simp; omega)]
  rw [hcs]
  refine ⟨F1, Fy, F3 ++ Fb, by simp [hF, e1], e2, fun w' c' hc' hw z Fz x' hz hs => ?_⟩
  simp only [Zg] at hs
  split at hs
  ·rename_i u hu
   simp only [jc] at hs
   subst hs
   rw [ho, hc, GF (by omega)]
   refine ⟨_, c2, F1 ++ Fz ++ F3, Fb, rfl, by simp, e3 w' c' hc' (fun b hb => hw b ?_) z Fz u hz hu, h2.stable fun b hb => hw b ?_⟩
   ·rcases jm.1 hb with hb | hb <;> simp [hb]
   ·simp [hb]
  ·simp at hs
 | .p a b', x, (n + 1) :: p, τ, y, y', cs, F, ht, hy, hy', h => by
  have ht' : Ee b' (n :: p) = some τ := by simpa [Ee, Oa] using ht
  have hy1 : (D.t b' x.2).at (n :: p) = some y := by simpa [D.at, D.field, D.snd] using hy
  obtain ⟨c1, c2, Fa, Fb, hc, hF, h1, h2⟩ := h
  obtain ⟨F1, Fy, F3, e1, e2, e3⟩ := NY ht' hy1 hy' h2
  have l1 := Ob.length h1
  have ho : Db (.p a b') ((n + 1) :: p) = c1.length + Db b' (n :: p) := by simp [Db, Bc, Oa, l1, ju]
  have hcs : (cs.drop (Db (.p a b') ((n + 1) :: p))).take τ.size = (c2.drop (Db b' (n :: p))).take τ.size := by
   rw [ho, hc]; simp [List.drop_append, List.drop_eq_nil_of_le]
  rw [hcs]
  refine ⟨Fa ++ F1, Fy, F3, by simp [hF, e1], e2, fun w' c' hc' hw z Fz x' hz hs => ?_⟩
  simp only [Zg] at hs
  split at hs
  ·rename_i u hu
   simp only [jc] at hs
   subst hs
   rw [ho, hc, Bx]
   refine ⟨c1, _, Fa, F1 ++ Fz ++ F3, rfl, by simp, h1.stable fun b hb => hw b ?_, e3 w' c' hc' (fun b hb => hw b ?_) z Fz u hz hu⟩
   ·simp [hb]
   ·rcases jm.1 hb with hb | hb <;> simp [hb]
  ·simp at hs
 | .i _, _, _ :: _, _, _, _, _, _, ht, _, _, _ => by simp [Ee, Oa] at ht
 | .b, _, _ :: _, _, _, _, _, _, ht, _, _, _ => by simp [Ee, Oa] at ht
 | .o, _, _ :: _, _, _, _, _, _, ht, _, _, _ => by simp [Ee, Oa] at ht
 | .mp _ _, _, _ :: _, _, _, _, _, _, ht, _, _, _ => by simp [Ee, Oa] at ht
 | .s, _, _ :: _, _, _, _, _, _, ht, _, _, _ => by simp [Ee, Oa] at ht
 | .sl _, _, _ :: _, _, _, _, _, _, ht, _, _, _ => by simp [Ee, Oa] at ht
 | .u, _, _ :: _, _, _, _, _, _, ht, _, _, _ => by simp [Ee, Oa] at ht
theorem IT {w : World} {e τ : Ty} {xs : List (T e)} {b off cap : Nat} {F : List Nat} {i : Nat} {x : T e} {y : D} {y' : T τ} {p : List Nat}
 (h : Ob w (.sl e) xs [.slice (some ⟨b, off, none⟩) (ja xs) cap] F) (hi : xs[i]? = some x) (ht : Ee e p = some τ) (hy : (D.t e x).at p = some y) (hy' : Vf y τ = some y') :
 ∃ cur et F1 Fy, w.heap[b]? = some (.cells cur et (0, 0)) ∧ b ∈ F1 ∧ off + i * e.size + e.size ≤ cur.size ∧ F.Perm (F1 ++ Fy) ∧ Ob w τ y' (Rc cur (off + i * e.size + Db e p) τ.size) Fy ∧
  (b ∉ F1.erase b → ∀ (w' : World) (c' : List Value), c'.length = τ.size → (∀ c, c ∈ F1 → c ≠ b → w'.heap[c]? = w.heap[c]?) →
   w'.heap[b]? = some (.cells (Pb cur.toList (off + i * e.size + Db e p) c').toArray et (0, 0)) → ∀ (z : T τ) (Fz : List Nat) (x' : T e), Ob w' τ z c' Fz → Zg e x p τ z = some x' →
   ∃ F', F'.Perm (F1 ++ Fz) ∧ Ob w' (.sl e) (j7 xs i x') [.slice (some ⟨b, off, none⟩) (ja xs) cap] F') := by
 obtain ⟨hm, ⟨h1, _⟩ | ⟨bl, off', cap', cur, et, Fs, h1, hh, h2, h3, h4, hF, hl, hv⟩⟩ := h
 ·simp at h1
 ·simp at h1
  obtain ⟨⟨rfl, rfl⟩, rfl⟩ := h1
  have hil : i < ja xs := (q7.1 hi).1
  have hxe : List.get xs ⟨i, hil⟩ = x := by simpa [je hil] using hi
  have hle := Yg ht
  have hcap := jn e.size h2
  have hlt : (i + 1) * e.size ≤ ja xs * e.size := jn _ hil
  rw [yd, ye] at hlt
  have hoi := hv i hil
  rw [hxe] at hoi
  obtain ⟨Fa, Fy, Fc, hFi, hown, hwand⟩ := NY ht hy hy' hoi
  have hseg := GG cur (off + i * e.size) e.size (Db e p) τ.size hle
  rw [hseg] at hown
  have hiF : i < Fs.length := by omega
  refine ⟨cur, et, b :: ((Fs.take i).flatten ++ (Fa ++ Fc) ++ (Fs.drop (i + 1)).flatten), Fy, hh, by simp, by omega, ?_, hown, fun hbn w' c' hc' hw hwb z Fz x' hz hs => ?_⟩
  ·rw [hF, (KA hiF []).1, hFi, List.perm_iff_count]
   intro c
   simp only [List.count_append, List.count_cons]
   omega
  ·simp only [List.erase_cons_head] at hbn
   obtain ⟨_, g2⟩ := KA hiF (Fa ++ Fz ++ Fc)
   refine ⟨b :: (Fs.set i (Fa ++ Fz ++ Fc)).flatten, ?_, by simpa using hm, .inr ⟨b, off, cap, _, et, _, by simp, hwb, by simpa using h2, h3, ?_, rfl, by simpa using hl, fun j hj => ?_⟩⟩
   ·rw [g2, List.perm_iff_count]
    intro c
    simp only [List.count_append, List.count_cons]
    omega
   ·rw [ym, Jg (by simp; omega)]
    simpa using h4
   ·have hjl : j < ja xs := by simpa using hj
    by_cases hji : j = i
    ·subst hji
     have e1 : List.get (j7 xs j x') ⟨j, hj⟩ = x' := by simp
     have e2 : (Fs.set j (Fa ++ Fz ++ Fc)).getD j [] = Fa ++ Fz ++ Fc := by simp [qq, hiF]
     rw [e1, e2, Rt (by omega) (by omega)]
     refine hwand w' c' hc' (fun c hc => hw c ?_ ?_) z Fz x' hz hs
     ·simp only [jq, jm] at hc ⊢
      grind
     ·rintro rfl
      apply hbn
      simp only [jm] at hc ⊢
      grind
    ·have e1 : List.get (j7 xs i x') ⟨j, hj⟩ = List.get xs ⟨j, hjl⟩ := by simp [Ne.symm hji]
     have e2 : (Fs.set i (Fa ++ Fz ++ Fc)).getD j [] = Fs.getD j [] := by simp [qq, Ne.symm hji]
     have hjle : (j + 1) * e.size ≤ ja xs * e.size := jn _ hjl
     rw [yd, ye] at hjle
     have hjF : j < Fs.length := by omega
     have hinF : ∀ c, c ∈ Fs.getD j [] → c ∈ (Fs.take i).flatten ++ (Fa ++ Fc) ++ (Fs.drop (i + 1)).flatten := by
      intro c hc
      have hc' : c ∈ Fs[j] := by simpa [qq, hjF] using hc
      simp only [jm]
      rcases Nat.lt_or_gt_of_ne hji with hlt' | hlt'
      ·exact .inl (.inl (List.mem_flatten.2 ⟨Fs[j], List.mem_take_iff_getElem.2 ⟨j, by omega, rfl⟩, hc'⟩))
      ·exact .inr (List.mem_flatten.2 ⟨Fs[j], List.mem_drop_iff_getElem.2 ⟨j - (i + 1), by omega, by congr 1; omega⟩, hc'⟩)
     rw [e1, e2, Nx (by omega) (by omega) ?_]
     ·refine (hv j hjl).stable fun c hc => hw c (js _ (hinF c hc)) ?_
      rintro rfl
      exact hbn (hinF c hc)
     ·rcases Nat.lt_or_gt_of_ne hji with hlt' | hlt'
      ·left
       have := jn e.size hlt'
       rw [yo] at this
       omega
      ·right
       have := jn e.size hlt'
       rw [yo] at this
       omega
theorem UZ {cs : List Value} {o n : Nat} (h : o + n ≤ cs.length) : Pb cs o ((cs.drop o).take n) = cs := by
 apply qn
 intro j
 have hl : ((cs.drop o).take n).length = n := by simp; omega
 rw [Ci (by omega), hl]
 split
 ·rfl
 ·split
  ·rw [List.getElem?_take, if_pos (by omega), List.getElem?_drop]; congr 1; omega
  ·rfl
section
variable {P : Program} {Out : Type} {n0 : Nat} {A : Fx} {O0 : Nat → Prop} {w0 w w' : World} {s : AS} {σ σ' : Nat → Value} {φ φ' : Nat → List Nat} {a : Act}
variable {o : Oper} {Q : Exit → Act → World → Prop} {k : AS → Option Out} {out : Out} {d : D} {v : Value} {upd : List (Nat × Option Ja)} {dst : Option Tmp} {G : Qd}
theorem Ra.focus (h : Ra n0 A O0 w0 s σ φ a w) {id : Nat} {e τ : Ty} {xs : List (T e)} {i : Nat} {x : T e} {p : List Nat} {y : D} {y' : T τ} {n m : Nat} {u : List (Nat × Option Ja)}
 (hb : s.heap id = some (.row e true xs)) (hm : s.ment id = true) (hi : xs[i]? = some x) (ht : Ee e p = some τ) (hy : (D.t e x).at p = some y) (hy' : Vf y τ = some y')
 {b off cap : Nat} (hσ : σ id = .slice (some ⟨b, off, none⟩) (ja xs) cap) (ho : Od τ y' n = (d, u, m)) (hu : Dd s u = true) :
 ∃ cur et σ' φ', w.heap[b]? = some (.cells cur et (0, 0)) ∧ off + i * e.size + e.size ≤ cur.size ∧
  Ra n0 A O0 w0 ⟨s.n, s.tm, ((id, some (.hol e xs i x p τ d)) :: u) ++ s.hp⟩ σ' φ' a w ∧ Ab τ d ∧
  ∀ hp' O', Wa w O' hp' σ' d (Rc cur (off + i * e.size + Db e p) τ.size) := by
 have hown := h.hp id _ hb
 simp only [Ec, hσ] at hown
 obtain ⟨cur, et, F1, Fy, hh, hbF, hsz, hperm, hoy, hwand⟩ := IT hown hi ht hy hy'
 obtain ⟨hnm, hrange, hsh, ψ, ν, hbl, hrows, hrep⟩ := Qu ho hoy
 obtain ⟨hnew, hnd⟩ := Iw hu
 have hnm' : ∀ q, q ∈ u → s.ment q.1 = false := fun q hq => by
  have := hnew q hq
  simp only [AS.newOk, jd, yj] at this
  exact this.1
 have hidu : id ∉ u.map (·.1) := fun hid => by
  obtain ⟨q, hq, he⟩ := qk.1 hid
  rw [← he, hnm' q hq] at hm
  simp at hm
 have hndF : (F1 ++ Fy).Nodup := hperm.nodup_iff.1 (h.nodup id _ hb)
 let σ' : Nat → Value := fun j => if j ∈ u.map (·.1) then ν j else σ j
 let φ' : Nat → List Nat := fun j => if j = id then F1 else if j ∈ u.map (·.1) then ψ j else φ j
 have hσid : σ' id = σ id := if_neg hidu
 have hσu : ∀ q, q ∈ u → σ' q.1 = ν q.1 := fun q hq => if_pos (yt hq)
 have hφid : φ' id = F1 := if_pos rfl
 have hφu : ∀ j, j ∈ u.map (·.1) → φ' j = ψ j := fun j hj => by
  have : j ≠ id := fun e => hidu (e ▸ hj)
  simp only [φ', if_neg this, if_pos hj]
 have hget : ∀ (U : List (Nat × Option Ja)) (j : Nat), j ∉ U.map (·.1) → Eb (U ++ s.hp) j = Eb s.hp j := by
  intro U j
  induction U with
  | nil => simp
  | cons q U ih =>
   intro hn
   simp only [yh, jq, not_or] at hn
   rw [yf, Vb, if_neg (Ne.symm hn.1), ih hn.2]
 have hgetm : ∀ (U : List (Nat × Option Ja)), (U.map (·.1)).Nodup → ∀ q, q ∈ U → Eb (U ++ s.hp) q.1 = some q.2 := by
  intro U
  induction U with
  | nil => simp
  | cons r U ih =>
   intro hn q hp
   simp only [yh, yk] at hn
   rw [yf, Vb]
   rcases jq.1 hp with rfl | hp
   ·rw [if_pos rfl]
   ·rw [if_neg (fun e : r.1 = q.1 => hn.1 (by rw [e]; exact yt hp)), ih hn.2 q hp]
 have hU : (((id, some (Ja.hol e xs i x p τ d)) :: u).map (·.1)).Nodup := by
  simp only [yh, yk]
  exact ⟨hidu, hnd⟩
 have hh1 : ∀ j, ¬ (j = id ∨ j ∈ u.map (·.1)) → AS.heap ⟨s.n, s.tm, ((id, some (Ja.hol e xs i x p τ d)) :: u) ++ s.hp⟩ j = s.heap j := fun j hj => by
  simp only [AS.heap]
  rw [hget _ j (by simpa using hj)]
 have hh2 : AS.heap ⟨s.n, s.tm, ((id, some (Ja.hol e xs i x p τ d)) :: u) ++ s.hp⟩ id = some (.hol e xs i x p τ d) := by
  simp only [AS.heap]
  rw [hgetm _ hU (id, some (.hol e xs i x p τ d)) (by simp)]
  rfl
 have hh3 : ∀ q, q ∈ u → AS.heap ⟨s.n, s.tm, ((id, some (Ja.hol e xs i x p τ d)) :: u) ++ s.hp⟩ q.1 = q.2 := fun q hq => by
  simp only [AS.heap]
  rw [hgetm _ hU q (by simp [hq])]
  rfl
 have hmemu : ∀ j, j ∈ u.map (·.1) → ∃ q, q ∈ u ∧ q.1 = j := fun j hj => by
  obtain ⟨q, hq, he⟩ := qk.1 hj
  exact ⟨q, hq, he⟩
 have hψ : ∀ j, j ∈ u.map (·.1) → ∀ c, c ∈ ψ j → c ∈ Fy := fun j hj c hc => by
  rw [← hbl]; exact Gb.2 ⟨j, hj, hc⟩
 have hin : ∀ j, (j = id ∨ j ∈ u.map (·.1)) → ∀ c, c ∈ φ' j → c ∈ φ id := by
  intro j hj c hc
  refine hperm.mem_iff.2 ?_
  rcases hj with rfl | hj
  ·rw [hφid] at hc
   exact qt _ hc
  ·rw [hφu j hj] at hc
   exact qu _ (hψ j hj c hc)
 have hrep' : ∀ hp' O', Wa w O' hp' σ' d (Rc cur (off + i * e.size + Db e p) τ.size) := fun hp' O' => hrep w hp' σ' O' hσu
 refine ⟨cur, et, σ', φ', hh, hsz, ?_, hsh, hrep'⟩
 refine h.trans (fun j => j = id ∨ j ∈ u.map (·.1)) rfl rfl ?_ (fun _ _ _ => rfl) (jp _) ?_ ?_ ?_ ?_ rfl rfl rfl ?_ ?_
 rotate_right
 ·intro j kk e' xs' hj hl
  rcases hj with rfl | hj
  ·rw [hh2] at hl; simp at hl
  ·obtain ⟨q, hq, rfl⟩ := hmemu j hj
   rw [hh3 q hq] at hl
   have := hrows q hq
   rw [hl] at this
   exact this.nq.elim
 ·intro j hj
  refine ⟨hh1 j hj, ?_, ?_⟩
  ·exact if_neg fun hm => hj (.inr hm)
  ·simp only [not_or] at hj
   simp only [φ', if_neg hj.1, if_neg hj.2]
 ·intro j blk' hj _ c hc
  exact .inr ⟨id, _, .inl rfl, hb, hin j hj c hc⟩
 ·intro j blk' hj hl hmj
  rcases hj with rfl | hj
  ·rw [hh2] at hl
   simp only [jc] at hl
   subst hl
   exact ⟨_, hb, by simp [Ja.like], hσid⟩
  ·obtain ⟨q, hq, rfl⟩ := hmemu j hj
   rw [hnm' q hq] at hmj
   simp at hmj
 ·intro j blk' hj hl
  rcases hj with rfl | hj
  ·rw [hh2] at hl
   simp only [jc] at hl
   subst hl
   rw [hφid]
   have hF1 : F1.Nodup := hndF.sublist (List.sublist_append_left _ _)
   refine ⟨⟨hsh, hi, ht, fun c hc => (h.hp _ _ hb).lt c (hperm.mem_iff.2 (qt _ hc)), b, off, cap, cur, et, hσid.trans hσ, hh, hbF, hsz, hrep' _ _, fun w' c' hc' hw hwb z Fz x' hz hs => ?_⟩, hF1⟩
   obtain ⟨F', hp', ho'⟩ := hwand (fun hm => ((List.Nodup.mem_erase_iff hF1).1 hm).1 rfl) w' c' hc' hw hwb z Fz x' hz hs
   exact ⟨F', hp', by rw [hσid, hσ]; exact ho'⟩
  ·obtain ⟨q, hq, rfl⟩ := hmemu j hj
   rw [hh3 q hq] at hl
   have hown2 := hrows q hq
   rw [hl, ← hσu q hq] at hown2
   rw [hφu _ hj]
   refine ⟨hown2.rep, ?_⟩
   ·have hs : (ψ q.1).Sublist Fy := by
     rw [← hbl]
     unfold Ia
     exact List.sublist_flatten_of_mem (yt hj)
    exact hs.nodup (hndF.sublist (List.sublist_append_right _ _))
 ·intro j j' b1 b2 hj hj' hne _ _ c hc hc'
  rw [yl] at hndF
  rcases hj with rfl | hj
  ·rcases hj' with e | hj'
   ·exact hne e.symm
   ·rw [hφid] at hc
    rw [hφu _ hj'] at hc'
    exact hndF.2.2 c hc c (hψ _ hj' c hc') rfl
  ·rcases hj' with rfl | hj'
   ·rw [hφid] at hc'
    rw [hφu _ hj] at hc
    exact hndF.2.2 c hc' c (hψ _ hj c hc) rfl
   ·rw [hφu _ hj] at hc
    rw [hφu _ hj'] at hc'
    have : ∀ (L : List Nat), (Ia ψ L).Nodup → j ∈ L → j' ∈ L → False := by
     intro L
     induction L with
     | nil => simp
     | cons z L ih =>
      intro hn hi hi'
      have hx : Ia ψ (z :: L) = ψ z ++ Ia ψ L := by simp [Ia]
      rw [hx, yl] at hn
      rcases jq.1 hi with e1 | q1
      ·rcases jq.1 hi' with e2 | q2
       ·exact hne (e1.trans e2.symm)
       ·exact hn.2.2 c (e1 ▸ hc) c (Gb.2 ⟨j', q2, hc'⟩) rfl
      ·rcases jq.1 hi' with e2 | q2
       ·exact hn.2.2 c (e2 ▸ hc') c (Gb.2 ⟨j, q1, hc⟩) rfl
       ·exact ih hn.2.1 q1 q2
    exact this _ (by rw [hbl]; exact hndF.2.1) hj hj'
 ·intro j hj
  rcases hj with rfl | hj
  ·exact .inl hσid
  ·obtain ⟨q, hq, rfl⟩ := hmemu j hj
   exact .inr (Jx (hnew q hq))
theorem SY {w : World} {O : Nat → Prop} {hp : Nat → Option Ja} {σ : Nat → Value} {id : Nat} {e : Ty} {xs : List (T e)} {F : List Nat} (h : Ec w O hp σ id (.row e true xs) F) : Ec w O hp σ id (.mov e xs 0) F := by
 simp only [Ec, Ob] at h
 obtain ⟨hm, ⟨h1, h2, h3⟩ | ⟨bl, off, cap, cur, et, Fs, h1, hh, h2, h3, h4, hF, hl, hv⟩⟩ := h
 ·simp only [yg, and_true] at h1
  exact ⟨hm, .inl ⟨h1, h2, h3⟩⟩
 ·simp only [yg, and_true] at h1
  exact ⟨hm, .inr ⟨bl, off, cap, cur, et, Fs, h1, hh, h2, h3, h4, hF, hl, fun i hi _ => hv i hi, fun i hi => by omega⟩⟩
theorem Ra.moveout (h : Ra n0 A O0 w0 s σ φ a w) {id : Nat} {e : Ty} {xs : List (T e)} {i : Nat} {x : T e} {Da : Ja} {n m : Nat} {d : D} {u : List (Nat × Option Ja)}
 (hb : s.heap id = some Da) (hlike : Da.like (.mov e xs (i + 1))) (hmv : Ec w (OO O0 s φ) s.heap σ id (.mov e xs i) (φ id)) (hm : s.ment id = true) (hi : xs[i]? = some x)
 {b off cap : Nat} (hσ : σ id = .slice (some ⟨b, off, none⟩) (ja xs) cap) (ho : Od e x n = (d, u, m)) (hu : Dd s u = true) :
 ∃ cur et σ' φ', w.heap[b]? = some (.cells cur et (0, 0)) ∧ off + i * e.size + e.size ≤ cur.size ∧
  Ra n0 A O0 w0 ⟨s.n, s.tm, ((id, some (.mov e xs (i + 1))) :: u) ++ s.hp⟩ σ' φ' a w ∧ Ab e d ∧
  ∀ hp' O', Wa w O' hp' σ' d (Rc cur (off + i * e.size) e.size) := by
 obtain ⟨hlen, ⟨h1, _⟩ | ⟨bl, off', cap', cur, et, Fs, h1, hh, h2, h3, h4, hF, hl, hv, hk⟩⟩ := hmv
 ·rw [hσ] at h1; simp at h1
 rw [hσ] at h1
 simp only [Value.slice.injEq, jc, Addr.mk.injEq, and_true, true_and] at h1
 obtain ⟨⟨rfl, rfl⟩, rfl⟩ := h1
 have hil : i < ja xs := (q7.1 hi).1
 have hxe : List.get xs ⟨i, hil⟩ = x := by simpa [je hil] using hi
 have hcap := jn e.size h2
 have hlt : (i + 1) * e.size ≤ ja xs * e.size := jn _ hil
 rw [yd, ye] at hlt
 have hoy := hv i hil (jp _)
 rw [hxe] at hoy
 have hiF : i < Fs.length := by omega
 obtain ⟨F1, hF1e⟩ : ∃ F1, F1 = b :: (Fs.set i []).flatten := ⟨_, rfl⟩
 obtain ⟨Fy, hFye⟩ : ∃ Fy, Fy = Fs.getD i [] := ⟨_, rfl⟩
 rw [← hFye] at hoy
 have hsz : off + i * e.size + e.size ≤ cur.size := by omega
 have hperm : (φ id).Perm (F1 ++ Fy) := by
  obtain ⟨g1, g2⟩ := KA hiF []
  rw [hF, hF1e, hFye, g2, g1, List.perm_iff_count]
  intro c
  simp only [List.count_append, List.count_cons, List.count_nil]
  omega
 obtain ⟨hnm, hrange, hsh, ψ, ν, hbl, hrows, hrep⟩ := Qu ho hoy
 obtain ⟨hnew, hnd⟩ := Iw hu
 have hnm' : ∀ q, q ∈ u → s.ment q.1 = false := fun q hq => by
  have := hnew q hq
  simp only [AS.newOk, jd, yj] at this
  exact this.1
 have hidu : id ∉ u.map (·.1) := fun hid => by
  obtain ⟨q, hq, he⟩ := qk.1 hid
  rw [← he, hnm' q hq] at hm
  simp at hm
 have hndF : (F1 ++ Fy).Nodup := hperm.nodup_iff.1 (h.nodup id _ hb)
 let σ' : Nat → Value := fun j => if j ∈ u.map (·.1) then ν j else σ j
 let φ' : Nat → List Nat := fun j => if j = id then F1 else if j ∈ u.map (·.1) then ψ j else φ j
 have hσid : σ' id = σ id := if_neg hidu
 have hσu : ∀ q, q ∈ u → σ' q.1 = ν q.1 := fun q hq => if_pos (yt hq)
 have hφid : φ' id = F1 := if_pos rfl
 have hφu : ∀ j, j ∈ u.map (·.1) → φ' j = ψ j := fun j hj => by
  have : j ≠ id := fun e => hidu (e ▸ hj)
  simp only [φ', if_neg this, if_pos hj]
 have hget : ∀ (U : List (Nat × Option Ja)) (j : Nat), j ∉ U.map (·.1) → Eb (U ++ s.hp) j = Eb s.hp j := by
  intro U j
  induction U with
  | nil => simp
  | cons q U ih =>
   intro hn
   simp only [yh, jq, not_or] at hn
   rw [yf, Vb, if_neg (Ne.symm hn.1), ih hn.2]
 have hgetm : ∀ (U : List (Nat × Option Ja)), (U.map (·.1)).Nodup → ∀ q, q ∈ U → Eb (U ++ s.hp) q.1 = some q.2 := by
  intro U
  induction U with
  | nil => simp
  | cons r U ih =>
   intro hn q hp
   simp only [yh, yk] at hn
   rw [yf, Vb]
   rcases jq.1 hp with rfl | hp
   ·rw [if_pos rfl]
   ·rw [if_neg (fun e : r.1 = q.1 => hn.1 (by rw [e]; exact yt hp)), ih hn.2 q hp]
 have hU : (((id, some (Ja.mov e xs (i + 1))) :: u).map (·.1)).Nodup := by
  simp only [yh, yk]
  exact ⟨hidu, hnd⟩
 have hh1 : ∀ j, ¬ (j = id ∨ j ∈ u.map (·.1)) → AS.heap ⟨s.n, s.tm, ((id, some (Ja.mov e xs (i + 1))) :: u) ++ s.hp⟩ j = s.heap j := fun j hj => by
  simp only [AS.heap]
  rw [hget _ j (by simpa using hj)]
 have hh2 : AS.heap ⟨s.n, s.tm, ((id, some (Ja.mov e xs (i + 1))) :: u) ++ s.hp⟩ id = some (.mov e xs (i + 1)) := by
  simp only [AS.heap]
  rw [hgetm _ hU (id, some (.mov e xs (i + 1))) (by simp)]
  rfl
 have hh3 : ∀ q, q ∈ u → AS.heap ⟨s.n, s.tm, ((id, some (Ja.mov e xs (i + 1))) :: u) ++ s.hp⟩ q.1 = q.2 := fun q hq => by
  simp only [AS.heap]
  rw [hgetm _ hU q (by simp [hq])]
  rfl
 have hmemu : ∀ j, j ∈ u.map (·.1) → ∃ q, q ∈ u ∧ q.1 = j := fun j hj => by
  obtain ⟨q, hq, he⟩ := qk.1 hj
  exact ⟨q, hq, he⟩
 have hψ : ∀ j, j ∈ u.map (·.1) → ∀ c, c ∈ ψ j → c ∈ Fy := fun j hj c hc => by
  rw [← hbl]; exact Gb.2 ⟨j, hj, hc⟩
 have hin : ∀ j, (j = id ∨ j ∈ u.map (·.1)) → ∀ c, c ∈ φ' j → c ∈ φ id := by
  intro j hj c hc
  refine hperm.mem_iff.2 ?_
  rcases hj with rfl | hj
  ·rw [hφid] at hc
   exact qt _ hc
  ·rw [hφu j hj] at hc
   exact qu _ (hψ j hj c hc)
 have hrep' : ∀ hp' O', Wa w O' hp' σ' d (Rc cur (off + i * e.size) e.size) := fun hp' O' => hrep w hp' σ' O' hσu
 refine ⟨cur, et, σ', φ', hh, hsz, ?_, hsh, hrep'⟩
 refine h.trans (fun j => j = id ∨ j ∈ u.map (·.1)) rfl rfl ?_ (fun _ _ _ => rfl) (jp _) ?_ ?_ ?_ ?_ rfl rfl rfl ?_ ?_
 rotate_right
 ·intro j kk e' xs' hj hl
  rcases hj with rfl | hj
  ·rw [hh2] at hl; simp at hl
  ·obtain ⟨q, hq, rfl⟩ := hmemu j hj
   rw [hh3 q hq] at hl
   have := hrows q hq
   rw [hl] at this
   exact this.nq.elim
 ·intro j hj
  refine ⟨hh1 j hj, ?_, ?_⟩
  ·exact if_neg fun hm => hj (.inr hm)
  ·simp only [not_or] at hj
   simp only [φ', if_neg hj.1, if_neg hj.2]
 ·intro j blk' hj _ c hc
  exact .inr ⟨id, _, .inl rfl, hb, hin j hj c hc⟩
 ·intro j blk' hj hl hmj
  rcases hj with rfl | hj
  ·rw [hh2] at hl
   simp only [jc] at hl
   subst hl
   exact ⟨_, hb, hlike, hσid⟩
  ·obtain ⟨q, hq, rfl⟩ := hmemu j hj
   rw [hnm' q hq] at hmj
   simp at hmj
 ·intro j blk' hj hl
  rcases hj with rfl | hj
  ·rw [hh2] at hl
   simp only [jc] at hl
   subst hl
   rw [hφid]
   have hF1 : F1.Nodup := hndF.sublist (List.sublist_append_left _ _)
   refine ⟨⟨hlen, .inr ⟨b, off, cap, cur, et, Fs.set i [], hσid.trans hσ, hh, h2, h3, h4, hF1e, by rw [j9]; exact hl, fun j hj hij => ?_, fun j hj => ?_⟩⟩, hF1⟩
   ·have hne : j ≠ i := by omega
    have : (Fs.set i []).getD j [] = Fs.getD j [] := by simp [qq, Ne.symm hne]
    rw [this]
    exact hv j hj (by omega)
   ·by_cases hji : j = i
    ·subst hji; simp [qq, hiF]
    ·have : (Fs.set i []).getD j [] = Fs.getD j [] := by simp [qq, Ne.symm hji]
     rw [this]
     exact hk j (by omega)
  ·obtain ⟨q, hq, rfl⟩ := hmemu j hj
   rw [hh3 q hq] at hl
   have hown2 := hrows q hq
   rw [hl, ← hσu q hq] at hown2
   rw [hφu _ hj]
   refine ⟨hown2.rep, ?_⟩
   ·have hs : (ψ q.1).Sublist Fy := by
     rw [← hbl]
     unfold Ia
     exact List.sublist_flatten_of_mem (yt hj)
    exact hs.nodup (hndF.sublist (List.sublist_append_right _ _))
 ·intro j j' b1 b2 hj hj' hne _ _ c hc hc'
  rw [yl] at hndF
  rcases hj with rfl | hj
  ·rcases hj' with e | hj'
   ·exact hne e.symm
   ·rw [hφid] at hc
    rw [hφu _ hj'] at hc'
    exact hndF.2.2 c hc c (hψ _ hj' c hc') rfl
  ·rcases hj' with rfl | hj'
   ·rw [hφid] at hc'
    rw [hφu _ hj] at hc
    exact hndF.2.2 c hc' c (hψ _ hj c hc) rfl
   ·rw [hφu _ hj] at hc
    rw [hφu _ hj'] at hc'
    have : ∀ (L : List Nat), (Ia ψ L).Nodup → j ∈ L → j' ∈ L → False := by
     intro L
     induction L with
     | nil => simp
     | cons z L ih =>
      intro hn hi hi'
      have hx : Ia ψ (z :: L) = ψ z ++ Ia ψ L := by simp [Ia]
      rw [hx, yl] at hn
      rcases jq.1 hi with e1 | q1
      ·rcases jq.1 hi' with e2 | q2
       ·exact hne (e1.trans e2.symm)
       ·exact hn.2.2 c (e1 ▸ hc) c (Gb.2 ⟨j', q2, hc'⟩) rfl
      ·rcases jq.1 hi' with e2 | q2
       ·exact hn.2.2 c (e2 ▸ hc') c (Gb.2 ⟨j, q1, hc⟩) rfl
       ·exact ih hn.2.1 q1 q2
    exact this _ (by rw [hbl]; exact hndF.2.1) hj hj'
 ·intro j hj
  rcases hj with rfl | hj
  ·exact .inl hσid
  ·obtain ⟨q, hq, rfl⟩ := hmemu j hj
   exact .inr (Jx (hnew q hq))
theorem Xs {α : Type} {b : Bool} {x : Option α} {y : α} : (bif b then x else none) = some y ↔ b = true ∧ x = some y := by cases b <;> simp
theorem Y7 (h : Ra n0 A O0 w0 s σ φ a w) {id : Nat} {s' : AS} (he : s.attach id = some s') : ∃ φ', Ra n0 A O0 w0 s' σ φ' a w := by
 unfold AS.attach at he
 split at he
 ·rename_i e xs i x path τ d hb
  split at he
  ·rename_i y l hy
   cases hnd : Mf (id :: l) with
   | false => simp [hnd] at he
   | true =>
    simp only [hnd, y3] at he
    split at he
    ·rename_i x' hx'
     simp only [jc] at he
     subst he
     have hnd := Rh hnd
     obtain ⟨hsh, hi, ht, hlt, bl, off, cap, cur, et, hσ, hh, hbF, hsz, hrep, hwand⟩ := h.hp id _ hb
     obtain ⟨hown, hlive⟩ := Jm h hy hrep
     have hle := Yg ht
     have hcl : cur.toList.length = cur.size := Array.length_toList
     have hsame : Pb cur.toList (off + i * e.size + Db e path) (Rc cur (off + i * e.size + Db e path) τ.size) = cur.toList := UZ (by omega)
     obtain ⟨F', hperm, hown'⟩ := hwand w _ (Vc (by omega)) (fun _ _ _ => rfl) (by rw [hsame]; exact hh) y _ x' hown hx'
     have hFF : (φ id ++ Ia φ l).Nodup := by
      have := Qf h hnd (by
       intro j hj
       rcases jq.1 hj with rfl | hj
       ·exact ⟨_, hb⟩
       ·exact hlive j hj)
      simpa [Ia] using this
     refine ⟨_, h.turn (blk0 := .hol e xs i x path τ d) (Da := .row e true (j7 xs i x')) hb (by simp [Ja.like]) l hlive (yk.1 hnd).1 F' (jp _) (fun _ _ _ _ => rfl) rfl rfl rfl (hperm.nodup_iff.2 hFF) ?_ ?_⟩
     ·intro c hc
      rcases jm.1 (hperm.mem_iff.1 hc) with hc | hc
      ·exact .inr (.inl hc)
      ·exact .inr (.inr (Gb.1 hc))
     ·intro hp' O' _ _
      exact hown'
    ·simp at he
  ·simp at he
 ·simp only [jc] at he
  subst he
  exact ⟨φ, h⟩
theorem SM {α β : Type} (f : α → β) : ∀ (l : List (Nat × α)) (k : Nat), Eb (l.map fun p => (p.1, f p.2)) k = (Eb l k).map f
 | [], k => rfl
 | (j, a) :: r, k => by
  rw [yh, Vb, Vb]
  split
  ·rfl
  ·exact SM f r k
theorem PN {id : Nat} {τ : Ty} {x : T τ} (b : Ja) : (b.frz id τ x).rowN = b.rowN := by cases b <;> rfl
theorem Eah {id : Nat} {τ : Ty} {x : T τ} (b : Ja) : (b.frz id τ x).isM = b.isM := by cases b <;> rfl
theorem X8 {id : Nat} {τ : Ty} {x : T τ} (d : D) : (d.frz id τ x).isAgg = d.isAgg := by
 cases d with
 | own j =>
  simp only [D.frz]
  cases qv j id with
  | false => rfl
  | true => cases τ <;> rfl
 | mpo j =>
  simp only [D.frz]
  cases qv j id with
  | false => rfl
  | true => cases τ <;> rfl
 | _ => rfl
section
variable {O O' : Nat → Prop} {hp hp' : Nat → Option Ja} {id : Nat} {ζ : Ty} {xs : T ζ}
theorem Wa.frz (hsl : ζ.isSl = true → ∃ b0 r, hp id = some b0 ∧ b0.rowN = some r) (hmp : ζ.isMp = true → ∃ b0, hp id = some b0 ∧ b0.isM = true) (hn : hp' id = none) (hh : ∀ j, j ≠ id → hp' j = (hp j).map (Ja.frz id ζ xs)) (hO : ∀ b, O' b → O b) (hv : Ka w O' ζ xs [σ id]) :
 ∀ (d : D) (cs : List Value), Wa w O hp σ d cs → Wa w O' hp' σ (d.frz id ζ xs) cs
 | .und, cs, h => h
 | .anyv, cs, h => h
 | .t τ x, cs, h => Ka.weaken hO h
 | .nil, cs, h => h
 | .own j, cs, h => by
  obtain ⟨v, hcs, h1, h2⟩ := h
  simp only [D.frz]
  cases hj : qv j id && ζ.isSl with
  | true =>
   simp only [jd] at hj
   have := jv hj.1
   subst this
   obtain ⟨b0, r, hb0, hr⟩ := hsl hj.2
   rw [hcs, h2 _ _ hb0 hr]
   exact hv
  | false =>
   refine ⟨v, hcs, h1, fun Da r hl hr => ?_⟩
   by_cases hne : j = id
   ·subst hne; rw [hn] at hl; simp at hl
   rw [hh j hne, yw] at hl
   obtain ⟨b0, hb0, rfl⟩ := hl
   rw [PN] at hr
   exact h2 b0 r hb0 hr
 | .mpo j, cs, h => by
  obtain ⟨v, hcs, h1, h2⟩ := h
  simp only [D.frz]
  cases hj : qv j id && ζ.isMp with
  | true =>
   simp only [jd] at hj
   have := jv hj.1
   subst this
   obtain ⟨b0, hb0, hm0⟩ := hmp hj.2
   rw [hcs, h2 _ hb0 hm0]
   exact hv
  | false =>
   refine ⟨v, hcs, h1, fun Da hl hm => ?_⟩
   by_cases hne : j = id
   ·subst hne; rw [hn] at hl; simp at hl
   rw [hh j hne, yw] at hl
   obtain ⟨b0, hb0, rfl⟩ := hl
   rw [Eah] at hm
   exact h2 _ hb0 hm
 | .cut j lo hi, cs, h => by
  obtain ⟨v, hcs, h1, h2⟩ := h
  refine ⟨v, hcs, h1, fun Da e' n hl hr => ?_⟩
  by_cases hne : j = id
  ·subst hne; rw [hn] at hl; simp at hl
  rw [hh j hne, yw] at hl
  obtain ⟨b0, hb0, rfl⟩ := hl
  rw [PN] at hr
  exact h2 b0 e' n hb0 hr
 | .ptr j path, cs, h => by
  obtain ⟨v, hcs, h1, h2⟩ := h
  refine ⟨v, hcs, h1, fun ρ d hl => ?_⟩
  by_cases hne : j = id
  ·subst hne; rw [hn] at hl; simp at hl
  rw [hh j hne, yw] at hl
  obtain ⟨b0, hb0, hbe⟩ := hl
  cases b0 with
  | box ρ' d' =>
   simp only [Ja.frz, Ja.box.injEq] at hbe
   rw [← hbe.1]
   exact h2 ρ' d' hb0
  | _ => simp [Ja.frz] at hbe
 | .eptr j i path, cs, h => by
  obtain ⟨v, hcs, h1, h2⟩ := h
  refine ⟨v, hcs, h1, fun Da e' n hl hr => ?_⟩
  by_cases hne : j = id
  ·subst hne; rw [hn] at hl; simp at hl
  rw [hh j hne, yw] at hl
  obtain ⟨b0, hb0, rfl⟩ := hl
  rw [PN] at hr
  exact h2 b0 e' n hb0 hr
 | .rp τ x, cs, h => by
  obtain ⟨b, off, cur, et, fr, hcs, hb', hh', hs, hvw⟩ := h
  exact ⟨b, off, cur, et, fr, hcs, fun h => hb' (hO _ h), hh', hs, Ka.weaken hO hvw⟩
 | .pr a b, cs, h => by
  obtain ⟨c1, c2, h0, h1, h2⟩ := h
  exact ⟨c1, c2, h0, Wa.frz hsl hmp hn hh hO hv a c1 h1, Wa.frz hsl hmp hn hh hO hv b c2 h2⟩
 | .un, cs, h => h
 | .tup d, cs, h => h
theorem Ae.frz (hsl : ζ.isSl = true → ∃ b0 r, hp id = some b0 ∧ b0.rowN = some r) (hmp : ζ.isMp = true → ∃ b0, hp id = some b0 ∧ b0.isM = true) (hn : hp' id = none) (hh : ∀ j, j ≠ id → hp' j = (hp j).map (Ja.frz id ζ xs)) (hO : ∀ b, O' b → O b) (hv : Ka w O' ζ xs [σ id])
 {d : D} {v : Value} (h : Ae w O hp σ d v) : Ae w O' hp' σ (d.frz id ζ xs) v := by
 unfold Ae at *
 rw [X8]
 split
 ·rename_i ha
  rw [if_pos ha] at h
  obtain ⟨cs, h1, h2⟩ := h
  exact ⟨cs, h1, Wa.frz hsl hmp hn hh hO hv d _ h2⟩
 ·rename_i ha
  rw [if_neg ha] at h
  exact Wa.frz hsl hmp hn hh hO hv d _ h
theorem Wf.frz (hsl : ζ.isSl = true → ∃ b0 r, hp id = some b0 ∧ b0.rowN = some r) (hmp : ζ.isMp = true → ∃ b0, hp id = some b0 ∧ b0.isM = true) (hn : hp' id = none) (hh : ∀ j, j ≠ id → hp' j = (hp j).map (Ja.frz id ζ xs)) (hO : ∀ b, O' b → O b) (hv : Ka w O' ζ xs [σ id]) :
 ∀ (d : D) (vs : List Value), Wf w O hp σ d vs → Wf w O' hp' σ (d.frz id ζ xs) vs
 | .pr a b, v :: vs, h => ⟨Ae.frz hsl hmp hn hh hO hv h.1, Wf.frz hsl hmp hn hh hO hv b vs h.2⟩
 | .un, [], _ => trivial
 | .pr _ _, [], h => h.elim
 | .un, _ :: _, h => h.elim
 | .und, _, h => by simp [Wf] at h
 | .anyv, _, h => by simp [Wf] at h
 | .t _ _, _, h => by simp [Wf] at h
 | .nil, _, h => by simp [Wf] at h
 | .own _, _, h => by simp [Wf] at h
 | .mpo _, _, h => by simp [Wf] at h
 | .ptr _ _, _, h => by simp [Wf] at h
 | .eptr _ _ _, _, h => by simp [Wf] at h
 | .rp _ _, _, h => by simp [Wf] at h
 | .tup _, _, h => by simp [Wf] at h
theorem Nc.frz (hsl : ζ.isSl = true → ∃ b0 r, hp id = some b0 ∧ b0.rowN = some r) (hmp : ζ.isMp = true → ∃ b0, hp id = some b0 ∧ b0.isM = true) (hn : hp' id = none) (hh : ∀ j, j ≠ id → hp' j = (hp j).map (Ja.frz id ζ xs)) (hO : ∀ b, O' b → O b) (hv : Ka w O' ζ xs [σ id])
 {d : D} {v : Value} (h : Nc w O hp σ d v) : Nc w O' hp' σ (d.frz id ζ xs) v := by
 cases d with
 | tup ds =>
  obtain ⟨vs, h1, h2⟩ := h
  exact ⟨vs, h1, Wf.frz hsl hmp hn hh hO hv ds _ h2⟩
 | und => exact h
 | anyv => exact h
 | _ => exact Rm (Ae.frz hsl hmp hn hh hO hv h)
end
theorem KJ (hA : A0 O0 s φ) (h : Ra n0 A O0 w0 s σ φ a w) {id : Nat} {ζ : Ty} {xs : T ζ} {b0 : Ja} (hb : s.heap id = some b0) (hnb : ∀ ρ d, b0 ≠ .box ρ d) (hsl : ζ.isSl = true → ∃ b0 r, s.heap id = some b0 ∧ b0.rowN = some r) (hmp : ζ.isMp = true → ∃ b0, s.heap id = some b0 ∧ b0.isM = true)
 (hfz : ∀ O' : Nat → Prop, (∀ b, O' b → OO O0 s φ b) → (∀ b, b ∈ φ id → ¬ O' b) → Ka w O' ζ xs [σ id])
 (hsh : ((s.hp.map fun p => (p.1, p.2.map (Ja.frz id ζ xs))).all fun p => (p.2.map Ja.shaped).getD true) = true) :
 Ra n0 A O0 w0 ⟨s.n, s.tm.map fun p => (p.1, p.2.frz id ζ xs), (id, none) :: s.hp.map fun p => (p.1, p.2.map (Ja.frz id ζ xs))⟩ σ φ a w := by
 have hheap : ∀ j, AS.heap ⟨s.n, s.tm.map fun p => (p.1, p.2.frz id ζ xs), (id, none) :: s.hp.map fun p => (p.1, p.2.map (Ja.frz id ζ xs))⟩ j = if j = id then none else (s.heap j).map (Ja.frz id ζ xs) := by
  intro j
  simp only [AS.heap, Vb]
  by_cases hj : id = j
  ·subst hj; simp
  ·rw [if_neg hj, if_neg (Ne.symm hj), SM]
   cases Eb s.hp j with
   | none => rfl
   | some o => cases o <;> rfl
 generalize hs' : (⟨s.n, s.tm.map fun p => (p.1, p.2.frz id ζ xs), (id, none) :: s.hp.map fun p => (p.1, p.2.map (Ja.frz id ζ xs))⟩ : AS) = s' at hheap
 have hback : ∀ j Da, s'.heap j = some Da → j ≠ id ∧ ∃ b0, s.heap j = some b0 ∧ Da = b0.frz id ζ xs := by
  intro j Da hl
  rw [hheap] at hl
  split at hl
  ·simp at hl
  ·rename_i hne
   obtain ⟨b0, h1, h2⟩ := yw.1 hl
   exact ⟨hne, b0, h1, h2.symm⟩
 have hO : ∀ b, OO O0 s' φ b → OO O0 s φ b := by
  rintro b (ho | ⟨j, Da, hl, hm⟩)
  ·exact .inl ho
  ·obtain ⟨_, b0, h1, _⟩ := hback j Da hl
   exact .inr ⟨j, b0, h1, hm⟩
 have hF : ∀ b, b ∈ φ id → ¬ OO O0 s' φ b := by
  rintro b hm (ho | ⟨j, Da, hl, hm'⟩)
  ·exact hA id _ hb hnb b hm ho
  ·obtain ⟨hne, b0, h1, _⟩ := hback j Da hl
   exact h.disj id j _ b0 (Ne.symm hne) hb h1 b hm hm'
 have hv := hfz (OO O0 s' φ) hO hF
 have hn' : s'.heap id = none := by rw [hheap, if_pos rfl]
 have hh' : ∀ j, j ≠ id → s'.heap j = (s.heap j).map (Ja.frz id ζ xs) := fun j hj => by rw [hheap, if_neg hj]
 refine ⟨by subst hs'; exact h.sz, h.df, ?_, ?_, ?_, ?_, ?_, h.o0, h.fr, h.pin, h.iv0, h.ivw, ?_⟩
 ·intro t d hd
  subst hs'
  simp only at hd
  rw [SM, yw] at hd
  obtain ⟨d0, hd0, rfl⟩ := hd
  obtain ⟨v, hv1, hr⟩ := h.tm t d0 hd0
  exact ⟨v, hv1, Nc.frz hsl hmp hn' hh' hO hv hr⟩
 ·intro j Da hl
  obtain ⟨hne, b0, h1, rfl⟩ := hback j Da hl
  have hsb : (b0.frz id ζ xs).shaped = true := by
   have hm := AS.heap_mem hl
   subst hs'
   simp only [jq, jh] at hm
   rcases hm with ⟨_, hx⟩ | hm
   ·simp at hx
   ·have := yv.1 hsh _ hm
    simpa using this
  have hbr := h.hp j b0 h1
  cases b0 with
  | box ρ d =>
   obtain ⟨_, b, cur, et, g1, g2, g3, g4, g5⟩ := hbr
   exact ⟨Dm hsb, b, cur, et, g1, g2, g3, Wa.frz hsl hmp hn' hh' hO hv d _ g4, g5⟩
  | row e' dp' xs' =>
   cases dp' with
   | true => exact hbr
   | false =>
    obtain ⟨hm, g | ⟨bl, off, cap, cur, et, g1, g2, g3, g4, g5, g6, g7⟩⟩ := hbr
    ·exact ⟨hm, .inl g⟩
    ·exact ⟨hm, .inr ⟨bl, off, cap, cur, et, g1, g2, g3, g4, g5, g6, fun i hi => (g7 i hi).weaken hO⟩⟩
  | hol e' xs' i x p τ d =>
   obtain ⟨_, g1, g2, g3, bl, off, cap, cur, et, g4, g5, g6, g7, g8, g9⟩ := hbr
   exact ⟨Dm hsb, g1, g2, g3, bl, off, cap, cur, et, g4, g5, g6, g7, Wa.frz hsl hmp hn' hh' hO hv d _ g8, g9⟩
  | mov e' xs' k => exact hbr
  | mp k m ys =>
   obtain ⟨r, es, clk, g1, g2, g3, g4, g5⟩ := hbr
   refine ⟨r, es, clk, g1, g2, g3, g4, fun i hi => ?_⟩
   obtain ⟨e, ck, cv, q1, q2, q3, q4, q5⟩ := g5 i hi
   exact ⟨e, ck, cv, q1, q2, q3, q4.weaken hO, q5.weaken hO⟩
  | mq kk e xs => exact hbr
  | mx k m ys => exact hbr
  | fz e' ys => exact ⟨hbr.1, hbr.2.weaken hO⟩
 ·intro j Da hl
  obtain ⟨_, b0, h1, _⟩ := hback j Da hl
  exact h.nodup j b0 h1
 ·intro j j' Da blk' hne hl hl'
  obtain ⟨_, b0, h1, _⟩ := hback j Da hl
  obtain ⟨_, b1, h2, _⟩ := hback j' blk' hl'
  exact h.disj j j' b0 b1 hne h1 h2
 ·intro j Da hl
  obtain ⟨_, b0, h1, _⟩ := hback j Da hl
  exact h.fresh j b0 h1
 ·intro j kk e ys hl
  obtain ⟨_, b0, h1, h2⟩ := hback j _ hl
  have hb0 : b0 = .mq kk e ys := by cases b0 <;> first | exact h2.symm | (simp [Ja.frz] at h2)
  subst hb0
  exact (h.shr j kk e ys h1).stable (fun _ _ _ => rfl) (fun b _ hno h => hno (hO b h)) (fun _ _ => rfl)
theorem P6 {k m : Ty} {xs : List (T k × T m)} {O O' : Nat → Prop} {hp : Nat → Option Ja} {id : Nat} {F : List Nat} (h : Ec w O hp σ id (.mp k m xs) F) (hO : ∀ b, O' b → O b) (hF : ∀ b, b ∈ F → ¬ O' b) : Ka w O' (.mp k m) xs [σ id] := by
 obtain ⟨r, es, clk, g1, g2, g3, g4, g5⟩ := h
 subst g3
 refine .inr ⟨r, es, clk, by rw [g1], hF r (by simp), g2, g4, fun i hi => ?_⟩
 obtain ⟨e, ck, cv, q1, q2, q3, q4, q5⟩ := g5 i hi
 exact ⟨e, ck, cv, q1, q2, q3, q4.weaken hO, q5.weaken hO⟩
theorem R8 (hA : A0 O0 s φ) (h : Ra n0 A O0 w0 s σ φ a w) {id : Nat} {s' : AS} (he : s.freeze id = some s') : Ra n0 A O0 w0 s' σ φ a w := by
 unfold AS.freeze at he
 split at he
 ·rename_i e dp xs hb
  simp only [Xs] at he
  obtain ⟨hsh, he⟩ := he
  simp only [jc] at he
  subst he
  exact KJ hA h hb (fun _ _ e => by simp at e) (ζ := .sl e) (xs := xs) (fun _ => ⟨_, _, hb, rfl⟩) (fun h => by simp [Ty.isMp] at h) (fun O' hO hF => TH (h.hp id _ hb) hO hF) hsh
 ·rename_i k m xs hb
  simp only [Xs] at he
  obtain ⟨hsh, he⟩ := he
  simp only [jc] at he
  subst he
  exact KJ hA h hb (fun _ _ e => by simp at e) (ζ := .mp k m) (xs := xs) (fun h => by simp [Ty.isSl] at h) (fun _ => ⟨_, hb, rfl⟩) (fun O' hO hF => P6 (h.hp id _ hb) hO hF) hsh
 ·rename_i k m xs hb
  simp only [Xs] at he
  obtain ⟨hsh, he⟩ := he
  simp only [jc] at he
  subst he
  exact KJ hA h hb (fun _ _ e => by simp at e) (ζ := .mp k m) (xs := xs) (fun h => by simp [Ty.isSl] at h) (fun _ => ⟨_, hb, rfl⟩) (fun O' hO hF => Ob.view (h.hp id _ hb) hF) hsh
 ·simp only [jc] at he
  subst he
  exact h
theorem MZ (hA : A0 O0 s φ) (h : Ra n0 A O0 w0 s σ φ a w) (id : Nat) : ∃ φ', Ra n0 A O0 w0 (s.frzParts id) σ φ' a w := by
 unfold AS.frzParts
 split
 ·rename_i e xs hb
  have hO : Ob w (.sl e) xs [σ id] (φ id) := h.hp id _ hb
  have hnd := h.nodup id _ hb
  have hNA := hA id _ hb (fun _ _ e => by simp at e)
  have hfr := h.fresh id _ hb
  have hlt := hO.lt
  let s' : AS := ⟨s.n, s.tm, (id, some (.row e false xs)) :: s.hp⟩
  have hheap : ∀ j, s'.heap j = if j = id then some (.row e false xs) else s.heap j := by
   intro j
   simp only [s', AS.heap, Vb]
   by_cases hj : id = j
   ·subst hj; simp
   ·rw [if_neg hj, if_neg (Ne.symm hj)]
  obtain ⟨G, hG1, hG2, hG3⟩ : ∃ G : List Nat, (∀ b, b ∈ G → b ∈ φ id) ∧ G.Nodup ∧ ∀ O' : Nat → Prop, (∀ b, b ∈ φ id → b ∉ G → ¬ O' b) → (ja xs ≤ Ph ∧ ((σ id = .slice none 0 0 ∧ xs = ([] : List (T e)) ∧ G = []) ∨
   ∃ bl off cap cur et, σ id = .slice (some ⟨bl, off, none⟩) (ja xs) cap ∧ w.heap[bl]? = some (.cells cur et (0, 0)) ∧
    ja xs ≤ cap ∧ cap ≤ Ph ∧ off + cap * e.size ≤ cur.size ∧ G = [bl] ∧
    ∀ i (h : i < ja xs), Ka w O' e (List.get xs ⟨i, h⟩) (Rc cur (off + i * e.size) e.size))) := by
   obtain ⟨hm, ⟨h1, h2, h3⟩ | ⟨bl, off, cap, cur, et, Fs, h1, hh, h2, h3, h4, hF, hFs, hv⟩⟩ := hO
   ·exact ⟨[], by simp, List.nodup_nil, fun O' _ => ⟨hm, .inl ⟨by simpa using h1, h2, rfl⟩⟩⟩
   ·rw [hF] at hnd ⊢
    rw [yk] at hnd
    refine ⟨[bl], by simp, by simp, fun O' hO' => ⟨hm, .inr ⟨bl, off, cap, cur, et, by simpa using h1, hh, h2, h3, h4, rfl, fun i hi => Ob.view (hv i hi) fun b hb => ?_⟩⟩⟩
    have hmem : b ∈ List.flatten Fs := by
     have : Fs.getD i [] ∈ Fs := by
      rw [qg, je (by omega)]
      exact qi _
     exact List.mem_flatten.2 ⟨_, this, hb⟩
    refine hO' b (js _ hmem) fun hb' => ?_
    simp only [qd] at hb'
    subst hb'
    exact hnd.1 hmem
  let φ' : Nat → List Nat := fun j => if j = id then G else φ j
  have hφ : φ' id = G := if_pos rfl
  have hOO : ∀ b, b ∈ φ id → b ∉ G → ¬ OO O0 s' φ' b := by
   rintro b hm hng (ho | ⟨j, Da, hl, hm'⟩)
   ·exact hNA b hm ho
   ·rw [hheap] at hl
    by_cases hj : j = id
    ·subst hj
     rw [hφ] at hm'
     exact hng hm'
    ·rw [if_neg hj] at hl
     simp only [φ', if_neg hj] at hm'
     exact h.disj id j _ Da (Ne.symm hj) hb hl b hm hm'
  refine ⟨φ', ?_⟩
  show Ra n0 A O0 w0 s' σ φ' a w
  refine h.trans (· = id) rfl rfl (fun j hj => ⟨by rw [hheap, if_neg hj], rfl, if_neg hj⟩) (fun _ _ _ => rfl) (jp _) ?_ ?_ ?_ ?_ rfl rfl rfl (fun _ _ => .inl rfl) (fun j kk e2 ys (hj : j = id) hl => by rw [hheap, if_pos hj] at hl; simp at hl)
  ·rintro j Da rfl _ b hm
   rw [hφ] at hm
   exact .inr ⟨j, _, rfl, hb, hG1 b hm⟩
  ·rintro j Da rfl hl _
   rw [hheap, if_pos rfl] at hl
   simp only [jc] at hl
   subst hl
   exact ⟨_, hb, ⟨rfl, rfl⟩, rfl⟩
  ·rintro j Da rfl hl
   rw [hheap, if_pos rfl] at hl
   simp only [jc] at hl
   subst hl
   rw [hφ]
   exact ⟨hG3 _ hOO, hG2⟩
  ·rintro j j' _ _ rfl rfl hne
   exact absurd rfl hne
 ·exact ⟨φ, h⟩
theorem Gx : ∀ τ : Ty, Ty.dec τ τ = some ⟨rfl⟩
 | .i _ => by simp [Ty.dec]
 | .b => rfl
 | .o => rfl
 | .mp x y => by simp only [Ty.dec, Gx x, Gx y]
 | .s => rfl
 | .u => rfl
 | .sl e => by simp only [Ty.dec, Gx e]
 | .p x y => by simp only [Ty.dec, Gx x, Gx y]
theorem Jac {Out : Type} {att : List (Nat × Nat)} {r : Nat} {K : AS → Option Out} {out : Out} (h : Ra n0 A O0 w0 s σ φ a w) (he : J6 att r s K = some out) : ∃ s' σ' φ', K s' = some out ∧ Ra n0 A O0 w0 s' σ' φ' a w := by
 unfold J6 at he
 split at he
 ·exact ⟨s, σ, φ, he, h⟩
 ·rename_i c _
  split at he
  ·rename_i kk n e xs hd hb
   simp only [qf] at he
   obtain ⟨x, hx, he⟩ := he
   rcases hop : Od e x 390000 with ⟨d, u, m⟩
   rw [hop] at he
   simp only at he
   cases hck : (Dd s u && s.ment (c / 1000)) with
   | false => rw [hck] at he; simp at he
   | true =>
    rw [hck] at he
    simp only [y3] at he
    simp only [jd] at hck
    have hown : Ob w (.sl e) xs [σ (c / 1000)] (φ (c / 1000)) := h.hp _ _ hb
    obtain ⟨b, off, cap, hσ⟩ : ∃ b off cap, σ (c / 1000) = .slice (some ⟨b, off, none⟩) (ja xs) cap := by
     obtain ⟨hm, ⟨_, h2, _⟩ | ⟨bl, off, cap, cur, et, Fs, h1, _⟩⟩ := hown
     ·subst h2; simp at hx
     ·exact ⟨bl, off, cap, by simpa using h1⟩
    obtain ⟨cur, et, σ', φ', _, _, hc, _⟩ := h.focus (τ := e) (p := []) (y := .t e x) (y' := x) hb hck.2 hx rfl rfl (by simp only [Vf, Gx]) hσ hop hck.1
    exact ⟨_, σ', φ', he, hc⟩
  ·simp at he
theorem Lz {fz bm cm : Bool} (hfz : fz = true → P7 bm cm A O0) : ∀ {l : List (Nat × Nat)} {n : Nat} {s s' : AS} {φ : Nat → List Nat}, Ra n0 A O0 w0 s σ φ a w → OB fz bm l n s = some s' → ∃ φ', Ra n0 A O0 w0 s' σ φ' a w
 | [], n, s, s', φ, h, he => by
  simp only [OB, jc] at he
  subst he
  exact ⟨φ, h⟩
 | (r, id) :: l, n, s, s', φ, h, he => by
  simp only [OB] at he
  cases hr : qv r n with
  | false => rw [hr] at he; exact Lz hfz h he
  | true =>
   rw [hr] at he
   simp only [y3] at he
   cases hq : jy 1000000000 id with
   | false =>
    rw [hq] at he
    simp only [y8] at he
    split at he
    ·rename_i s1 h1
     obtain ⟨φ1, hc⟩ := Y7 h h1
     exact Lz hfz hc he
    ·simp at he
   | true =>
    rw [hq] at he
    simp only [y3] at he
    cases hz : (fz && (!bm || s.boxLive)) with
    | false => rw [hz] at he; simp at he
    | true =>
     rw [hz] at he
     simp only [jd] at hz
     have hN := noA (hfz hz.1) hz.2 h
     simp only [y3] at he
     cases hq2 : jy 2000000000 id with
     | true =>
      rw [hq2] at he
      simp only [y3] at he
      obtain ⟨φ1, hc⟩ := MZ hN h (id - 2000000000)
      exact Lz hfz hc he
     | false =>
      rw [hq2] at he
      simp only [y8] at he
      split at he
      ·rename_i s1 h1
       exact Lz hfz (R8 hN h h1) he
      ·simp at he
theorem T3 : ∀ {n : Nat} {e τ : Ty} {x : T e} {y : D}, Oa e n = some τ → (D.t e x).field n = some y → ∃ z : T τ, y = .t τ z
 | 0, .p a c, τ, x, y, ht, hy => by
  simp only [Oa, jc] at ht
  subst ht
  simp only [D.field, D.fst, jc] at hy
  exact ⟨x.1, hy.symm⟩
 | n + 1, .p a c, τ, x, y, ht, hy => by
  simp only [D.field, D.snd] at hy
  exact T3 (e := c) ht hy
 | n, .i _, _, _, _, ht, _ => by cases n <;> simp [Oa] at ht
 | n, .b, _, _, _, ht, _ => by cases n <;> simp [Oa] at ht
 | n, .o, _, _, _, ht, _ => by cases n <;> simp [Oa] at ht
 | n, .mp _ _, _, _, _, ht, _ => by cases n <;> simp [Oa] at ht
 | n, .s, _, _, _, ht, _ => by cases n <;> simp [Oa] at ht
 | n, .sl _, _, _, _, ht, _ => by cases n <;> simp [Oa] at ht
 | n, .u, _, _, _, ht, _ => by cases n <;> simp [Oa] at ht
theorem Xam : ∀ {p : List Nat} {e τ : Ty} {x : T e} {y : D}, Ee e p = some τ → (D.t e x).at p = some y → ∃ z : T τ, y = .t τ z ∧ Vf y τ = some z
 | [], e, τ, x, y, ht, hy => by
  simp only [Ee, jc] at ht
  subst ht
  simp only [D.at, jc] at hy
  subst hy
  exact ⟨x, rfl, by simp only [Vf, Gx e]⟩
 | f :: p, e, τ, x, y, ht, hy => by
  simp only [Ee] at ht
  cases hf : Oa e f with
  | none => simp [hf] at ht
  | some τ' =>
   simp only [hf, jb] at ht
   simp only [D.at] at hy
   cases hd : (D.t e x).field f with
   | none => simp [hd] at hy
   | some z =>
    simp only [hd] at hy
    obtain ⟨u, rfl⟩ := T3 hf hd
    exact Xam ht hy
theorem Eaj (hG : EnvTy P G) (h : Ra n0 A O0 w0 s σ φ a w) {t : TypeId} {x : Operand} (ho : o.op = .load t x)
 (he : Se G s o k = some out) : o.wp P a w (Zd n0 A O0 w0 k out) Q := by
 simp only [Se, Qb, ho] at he
 split at he
 ·
  rename_i τ id path hty hx
  split at he
  ·rename_i ρ d hb
   split at he
   ·rename_i τ' e ht hd
    split at he
    ·rename_i q hq
     obtain rfl := Pc hq
     have hv := h.ev hx
     rw [Al] at hv
     obtain ⟨b, hσ, hv⟩ := hv.2 ρ d hb
     obtain ⟨hs, b', cur, et, hσ', hh, hF, hr, hsz⟩ := h.hp id _ hb
     rw [hσ] at hσ'
     simp at hσ'
     subst hσ'
     obtain ⟨hse, hre⟩ := Wa.at hs ht hd hr
     have hle := Yg ht
     have hl := Tm (hG.ty _ _ hty) hh (by omega : Db ρ path + τ'.size ≤ cur.size)
     refine Jb (w' := w) (v := Sc τ' (Rc cur (Db ρ path) τ'.size)) ?_ (Sb h ?_ he)
     ·simp [execOp, ho, hv, Instr.loadAt, Instr.sureAddr, hl]
     ·exact Sm hse hre
    ·simp at he
   ·simp at he
  ·simp at he
 ·
  rename_i τ τ' y hty hx
  split at he
  ·rename_i q hq
   obtain rfl := Pc hq
   have hv := h.ev hx
   rw [CG] at hv
   obtain ⟨b, off, cur, et, fr, hv, hO, hh, hs, hvw⟩ := hv
   have hl := Tm (hG.ty _ _ hty) hh hs
   refine Jb (w' := w) (v := Sc τ' (Rc cur off τ'.size)) ?_ (Sb h ?_ he)
   ·simp [execOp, ho, hv, Instr.loadAt, Instr.sureAddr, hl]
   ·exact Sm (τ := τ') (by simp [Ab]) hvw
  ·simp at he
 ·
  rename_i τ id i path hty hx
  cases hml : ZC G o.dst with
  | true =>
   rw [hml] at he
   simp only [y3] at he
   have key : ∀ (e : Ty) (xs : List (T e)) (kk : Nat) (Da : Ja), path = [] → s.heap id = some Da → (Da = .row e true xs ∧ kk = 0 ∨ Da = .mov e xs kk) → Mr s o.dst τ id i e xs kk (fun d u => Kf s o.dst d u k) = some out →
    o.wp P a w (Zd n0 A O0 w0 k out) Q := by
    intro e xs kk Da hp hb hbk hgo
    subst hp
    unfold Mr at hgo
    split at hgo
    ·rename_i q hq
     obtain rfl := Pc hq
     cases hik : qv i kk with
     | false => rw [hik] at hgo; simp at hgo
     | true =>
      obtain rfl := jv hik
      rw [Nat.beq_refl] at hgo
      simp only [y3] at hgo
      cases hxi : xs[i]? with
      | none => simp [hxi] at hgo
      | some x0 =>
       simp only [hxi, jb] at hgo
       rcases hop : Od e x0 (100000 + 64 * o.dst.getD 0) with ⟨d, u, m⟩
       rw [hop] at hgo
       simp only at hgo
       cases hck : (jy m (100064 + 64 * o.dst.getD 0) && Dd s u) with
       | false => rw [hck] at hgo; simp at hgo
       | true =>
        rw [hck] at hgo
        simp only [y3] at hgo
        simp only [jd] at hck
        have hm : s.ment id = true := QF hx (by simp [D.ment])
        have hN : Da.rowN = some (e, ja xs) := by rcases hbk with ⟨rfl, _⟩ | rfl <;> rfl
        have hlike : Da.like (.mov e xs (i + 1)) := by rcases hbk with ⟨rfl, _⟩ | rfl <;> simp [Ja.like]
        have hv := h.ev hx
        rw [Li] at hv
        obtain ⟨hi, b, off, cap, hσ, hv⟩ := hv.2 _ _ _ hb hN
        have hmv : Ec w (OO O0 s φ) s.heap σ id (.mov e xs i) (φ id) := by
         have := h.hp id _ hb
         rcases hbk with ⟨rfl, rfl⟩ | rfl
         ·exact SY this
         ·exact this
        obtain ⟨cur, et, σ', φ', hh, hs, hc, hsh, hrep⟩ := h.moveout hb hlike hmv hm hxi hσ hop hck.2
        have hl := Tm (hG.ty _ _ hty) hh hs
        refine Jb (w' := w) (v := Sc e (Rc cur (off + i * e.size) e.size)) ?_ (Hd rfl hc (Sm hsh (hrep _ _)) hgo)
        simp [execOp, ho, hv, Instr.loadAt, Instr.sureAddr, Db, hl]
    ·simp at hgo
   split at he
   ·rename_i e xs hb
    exact key e xs 0 _ rfl hb (.inl ⟨rfl, rfl⟩) he
   ·rename_i e xs kk hb
    exact key e xs kk _ rfl hb (.inr rfl) he
   ·simp at he
  | false =>
  rw [hml] at he
  simp only [y8] at he
  split at he
  ·rename_i e dp xs hb
   cases hxi : xs[i]? with
   | none => simp [hxi] at he
   | some x0 =>
    simp only [hxi, jb] at he
    split at he
    ·rename_i τ' y ht hd
     split at he
     ·rename_i q hq
      obtain rfl := Pc hq
      have hv := h.ev hx
      rw [Li] at hv
      obtain ⟨hi, b, off, cap, hσ, hv⟩ := hv.2 _ _ _ hb rfl
      have hle := Yg ht
      cases hf : ((!dp || e.flat) || τ'.flat) with
      | true =>
       simp only [hf, y3] at he
       have hel : ∃ cur et, w.heap[b]? = some (.cells cur et (0, 0)) ∧ off + i * e.size + e.size ≤ cur.size ∧ Ab τ' y ∧ Wa w (OO O0 s φ) s.heap σ y (Rc cur (off + i * e.size + Db e path) τ'.size) := by
        cases hf1 : (!dp || e.flat) with
        | true =>
         obtain ⟨cur, et, hh, hs, hvw⟩ := Pad (h.hp id _ hb) (by simpa using hf1) hxi hσ
         have hrep : Wa w (OO O0 s φ) s.heap σ (.t e x0) (Rc cur (off + i * e.size) e.size) := hvw
         obtain ⟨hse, hre⟩ := Wa.at (τ := τ') (by simp [Ab]) ht hd hrep
         rw [GG _ _ _ _ _ hle] at hre
         exact ⟨cur, et, hh, hs, hse, hre⟩
        | false =>
         have hfl : τ'.flat = true := by simpa [hf1] using hf
         have hdp : dp = true := by
          simp only [yq] at hf1
          simpa using hf1.1
         subst hdp
         have hown := h.hp id _ hb
         simp only [Ec, hσ] at hown
         obtain ⟨y', hy1, hy2⟩ := Xam ht hd
         subst hy1
         obtain ⟨cur, et, F1, Fy, hh, _, hsz, _, hoy, _⟩ := IT hown hxi ht hd hy2
         refine ⟨cur, et, hh, hsz, by simp [Ab], ?_⟩
         have hnil := Ar hfl hoy
         exact hoy.view (by rw [hnil]; simp)
       obtain ⟨cur, et, hh, hs, hse, hre⟩ := hel
       have hl := Tm (hG.ty _ _ hty) hh (by omega : off + i * e.size + Db e path + τ'.size ≤ cur.size)
       refine Jb (w' := w) (v := Sc τ' (Rc cur (off + i * e.size + Db e path) τ'.size)) ?_ (Sb h (Sm hse hre) he)
       simp [execOp, ho, hv, Instr.loadAt, Instr.sureAddr, hl]
      | false =>
       simp only [hf, y8] at he
       split at he
       ·rename_i y' hy'
        rcases hop : Od τ' y' (100000 + 64 * o.dst.getD 0) with ⟨d, u, m⟩
        rw [hop] at he
        simp only at he
        cases hck : (jy m (100064 + 64 * o.dst.getD 0) && Dd s u) with
        | false => rw [hck] at he; simp at he
        | true =>
         rw [hck] at he
         simp only [y3] at he
         simp only [jd] at hck
         have hdp : dp = true := by
          simp only [yq] at hf
          simpa using hf.1.1
         subst hdp
         have hm : s.ment id = true := QF hx (by simp [D.ment])
         obtain ⟨cur, et, σ', φ', hh, hs, hc, hsh, hrep⟩ := h.focus hb hm hxi ht hd hy' hσ hop hck.2
         have hl := Tm (hG.ty _ _ hty) hh (by omega : off + i * e.size + Db e path + τ'.size ≤ cur.size)
         refine Jb (w' := w) (v := Sc τ' (Rc cur (off + i * e.size + Db e path) τ'.size)) ?_ (Hd rfl hc (Sm hsh (hrep _ _)) he)
         simp [execOp, ho, hv, Instr.loadAt, Instr.sureAddr, hl]
       ·simp at he
     ·simp at he
    ·simp at he
  ·rename_i e xs i0 x0 path0 τ0 d0 hb
   split at he
   ·rename_i q hq
    obtain rfl := Pc hq
    cases hck : ((path == path0) && qv i i0) with
    | false => rw [hck] at he; simp at he
    | true =>
     rw [hck] at he
     simp only [y3] at he
     simp only [jd, beq_iff_eq] at hck
     obtain ⟨rfl, hi0⟩ := hck
     obtain rfl := jv hi0
     have hv := h.ev hx
     rw [Li] at hv
     obtain ⟨hi, b, off, cap, hσ, hv⟩ := hv.2 _ _ _ hb rfl
     obtain ⟨h1, h2, h3, h4, bl, off', cap', cur, et, h5, h8, h9, h10, h6, h7⟩ := h.hp id _ hb
     rw [hσ] at h5
     simp only [Value.slice.injEq, jc, Addr.mk.injEq, and_true, true_and] at h5
     obtain ⟨⟨rfl, rfl⟩, rfl⟩ := h5
     have hle := Yg h3
     have hl := Tm (hG.ty _ _ hty) h8 (by omega : off + i * e.size + Db e path + τ0.size ≤ cur.size)
     refine Jb (w' := w) (v := Sc τ0 (Rc cur (off + i * e.size + Db e path) τ0.size)) ?_ (Sb h (Sm h1 h6) he)
     simp [execOp, ho, hv, Instr.loadAt, Instr.sureAddr, hl]
   ·simp at he
  ·simp at he
 ·simp at he
theorem Uaj {s : AS} {e : Ty} {db : D} {ys : List (T e)} {dq : Bool} {m : List Nat} (hs : JD s e db = some (ys, dq, m)) : ∀ j, j ∈ m → ∀ Da, s.heap j = some Da → ∀ ρ d, Da ≠ .box ρ d := by
 intro j hj Da hb
 unfold JD at hs
 split at hs
 ·simp only [jc, jh] at hs
  rw [← hs.2.2] at hj; simp at hj
 ·split at hs
  ·simp only [jc, jh] at hs
   rw [← hs.2.2] at hj; simp at hj
  ·simp at hs
 ·split at hs
  ·simp only [jc, jh] at hs
   rw [← hs.2.2] at hj; simp at hj
  ·simp at hs
 ·rename_i id
  split at hs
  ·rename_i e' dp ys' hid
   split at hs
   ·simp only [jc, jh] at hs
    rw [← hs.2.2] at hj
    cases hf : e.flat with
    | true => rw [hf] at hj; simp at hj
    | false =>
     rw [hf] at hj
     simp only [y8, qd] at hj
     subst hj
     rw [hid] at hb
     simp only [jc] at hb
     subst hb
     simp
   ·simp at hs
  ·simp at hs
 ·split at hs
  ·split at hs
   ·simp only [Xs] at hs
    obtain ⟨_, hs⟩ := hs
    simp only [jc, jh] at hs
    rw [← hs.2.2] at hj; simp at hj
   ·simp at hs
  ·simp at hs
 ·simp at hs
theorem Dh.frozen {w : World} {O O' : Nat → Prop} {dq : Bool} {e : Ty} {xs : List (T e)} {v : Value} {F : List Nat} (h : Dh w O dq e xs v F) (hO : ∀ b, O' b → O b) (hF : ∀ b, b ∈ F → ¬ O' b) : Ka w O' (.sl e) xs [v] :=
 TH (σ := fun _ => v) (hp := fun _ => none) (id := 0) (Zj.2 h) hO hF
theorem U6 (hG : EnvTy P G) (hfz : OC G A O0) (h : Ra n0 A O0 w0 s σ φ a w) {args : Array Operand} {ts : Array TypeId} (ho : o.op = .call ⟨.builtin .append, args, ts⟩) (hml : ZC G o.dst = true)
 (he : Se G s o k = some out) : o.wp P a w (Zd n0 A O0 w0 k out) Q := by
 simp only [Se, Qb, ho] at he
 split at he
 ·rename_i x y t tx hargs hts
  unfold DC at he
  rw [hml] at he
  simp only [y3] at he
  unfold Cq at he
  split at he
  ·rename_i tt e id db hd hty hx hy
   split at he
   ·rename_i e' dp xs ys dq m hid hsrc
    split at he
    ·rename_i q hq
     subst q
     cases hc : (((dp || e'.flat) == dq) && Mf (id :: m)) && (GC (Eb G.ty tx) && (G.fz && !Dq G.att)) with
     | false => rw [hc] at he; simp at he
     | true =>
      rw [hc] at he
      simp only [y3] at he
      simp only [jd, beq_iff_eq, yj] at hc
      obtain ⟨⟨hdq, hnd⟩, hkx, hfz1, hfz2⟩ := hc
      have hnd := Rh hnd
      cases hlim : jy (ja xs + ja ys) Nb with
      | false => rw [hlim] at he; simp at he
      | true =>
       rw [hlim] at he
       simp only [y3] at he
       have hlim := qz hlim
       obtain ⟨et, hu, hte⟩ := Tok.sl (hG.ty _ _ hty)
       have hk : (∃ e', P.underlying tx = some (.slice e')) ∨ P.underlying tx = some .string := by
        unfold GC at hkx
        split at hkx
        ·rename_i e' hq
         obtain ⟨et', hu', _⟩ := Tok.sl (hG.ty _ _ hq)
         exact .inl ⟨et', hu'⟩
        ·rename_i hq
         exact .inr (Tok.s (hG.ty _ _ hq))
        ·simp at hkx
       have hrow := UH h hid (h.ev hx)
       rw [hdq] at hrow
       have hval : a.eval x = σ id := (Xz.1 (h.ev hx)).2 _ _ hid rfl
       obtain ⟨news, Gs, hS, hEl, hsub, hl2⟩ := VR (P := P) h hsrc (h.ev hy) hk
       have hlive : ∀ j, j ∈ id :: m → ∃ b, s.heap j = some b := by
        intro j hj
        rcases jq.1 hj with rfl | hj
        ·exact ⟨_, hid⟩
        ·exact hl2 j hj
       have hbn := Qf h hnd hlive
       have hbn' : (φ id ++ Ia φ m).Nodup := by simpa [Ia] using hbn
       obtain ⟨v', w', F', hr, h1, hsz, hbl, hos, htape, hout, hF', hsubF, hres⟩ := CM (P := P) (t := t) (tx := tx) (ty := o.type) hu hte hrow hS hEl
        (List.Sublist.nodup (List.Sublist.append (List.Sublist.refl _) hsub) hbn') hlim
        (fun c hc => .inr ⟨id, _, hid, hc⟩)
        (by
         intro c hc
         obtain ⟨j, hj, hm⟩ := Gb.1 (hsub.subset hc)
         obtain ⟨b, hb⟩ := hl2 j hj
         exact (h.hp j b hb).lt c hm)
       have hidm : id ∉ m := (yk.1 hnd).1
       have hN := noA (hfz hfz1) (by rw [hfz2]; rfl) h
       have hdead : ∀ j, j ∈ m → AS.heap ⟨s.n, s.tm, (id, some (Ja.fz e' xs)) :: (Ub m ++ s.hp)⟩ j = none := fun j hj => by
        rw [Zc, if_neg (fun (e : j = id) => hidm (by rw [← e]; exact hj)), if_pos hj]
       have hOL : ∀ b, OO O0 ⟨s.n, s.tm, (id, some (Ja.fz e' xs)) :: (Ub m ++ s.hp)⟩ (Kg φ id []) b → OL O0 s (id :: m) φ b := by
        rintro b (hb | ⟨j, Da, hl, hm⟩)
        ·exact .inl hb
        ·by_cases hj : j = id
         ·subst hj
          rw [Ld] at hm
          simp at hm
         ·by_cases hjm : j ∈ m
          ·rw [hdead j hjm] at hl; simp at hl
          ·rw [Zc, if_neg hj, if_neg hjm] at hl
           rw [Fj _ _ hj] at hm
           exact .inr ⟨j, Da, by simp [hj, hjm], hl, hm⟩
       have hfree : ∀ j, j ∈ id :: m → ∀ b, b ∈ φ j → ¬ OL O0 s (id :: m) φ b := by
        intro j hj b hm hO
        obtain ⟨Da, hbj⟩ := hlive j hj
        have hnb : ∀ ρ d, Da ≠ .box ρ d := by
         rcases jq.1 hj with rfl | hj
         ·rw [hid] at hbj
          simp only [jc] at hbj
          subst hbj
          simp
         ·exact Uaj hsrc j hj Da hbj
        rcases hO with ho' | ⟨j', blk', hj', hl', hm'⟩
        ·exact hN j Da hbj hnb b hm ho'
        ·exact h.disj j j' Da blk' (fun e => hj' (e ▸ hj)) hbj hl' b hm hm'
       have hOo : ∀ b, b < w.heap.size → ¬ OO O0 s φ b → ¬ OO O0 ⟨s.n, s.tm, (id, some (Ja.fz e' xs)) :: (Ub m ++ s.hp)⟩ (Kg φ id []) b := fun b _ hno hO => hno (hOL b hO).oo
       obtain ⟨hnew, hold⟩ := hres _ hOo
       have hFfree : ∀ b, b ∈ F' → ¬ OO O0 ⟨s.n, s.tm, (id, some (Ja.fz e' xs)) :: (Ub m ++ s.hp)⟩ (Kg φ id []) b := by
        intro b hb hO
        rcases hsubF b hb with hb | hb | hb
        ·have := h.OO_lt (hOL b hO).oo; omega
        ·exact hfree id (by simp) b hb (hOL b hO)
        ·obtain ⟨j, hj, hm⟩ := Gb.1 (hsub.subset hb)
         exact hfree j (by simp [hj]) b hm (hOL b hO)
       have hvold : Ka w' (OO O0 ⟨s.n, s.tm, (id, some (Ja.fz e' xs)) :: (Ub m ++ s.hp)⟩ (Kg φ id [])) (.sl e') xs [σ id] := by
        rw [← hval]
        exact hold.frozen (fun _ hb => hb) fun b hb hO => hfree id (by simp) b hb (hOL b hO)
       have hvnew := hnew.frozen (fun _ hb => hb) hFfree
       have hc : Ra n0 A O0 w0 ⟨s.n, s.tm, (id, some (Ja.fz e' xs)) :: (Ub m ++ s.hp)⟩ σ (Kg φ id []) a w' := by
        refine h.trans (fun j => j = id ∨ j ∈ m) rfl rfl ?_ ?_ hsz ?_ ?_ ?_ ?_ hos htape hout (fun _ _ => .inl rfl) ?_
        ·intro j hj
         simp only [not_or] at hj
         exact ⟨by rw [Zc, if_neg hj.1, if_neg hj.2], rfl, Fj _ _ hj.1⟩
        ·intro b hlt hno
         exact hbl b hlt fun hm => hno id _ (.inl rfl) hid hm
        ·intro j blk' ht hl b hbm
         by_cases hj : j = id
         ·subst hj
          rw [Ld] at hbm
          simp at hbm
         ·rw [hdead j (ht.resolve_left hj)] at hl; simp at hl
        ·intro j blk' ht hl _
         by_cases hj : j = id
         ·subst hj
          rw [Zc, if_pos rfl] at hl
          simp only [jc] at hl
          subst hl
          exact ⟨_, hid, ⟨rfl, rfl⟩, rfl⟩
         ·rw [hdead j (ht.resolve_left hj)] at hl; simp at hl
        ·intro j blk' ht hl
         by_cases hj : j = id
         ·subst hj
          rw [Zc, if_pos rfl] at hl
          simp only [jc] at hl
          subst hl
          rw [Ld]
          exact ⟨⟨rfl, hvold⟩, List.nodup_nil⟩
         ·rw [hdead j (ht.resolve_left hj)] at hl; simp at hl
        ·intro j j' b1 b2 ht ht' hne hl hl'
         by_cases hj : j = id
         ·by_cases hj' : j' = id
          ·exact absurd (hj.trans hj'.symm) hne
          ·rw [hdead j' (ht'.resolve_left hj')] at hl'; simp at hl'
         ·rw [hdead j (ht.resolve_left hj)] at hl; simp at hl
        ·intro j kk e2 xs2 ht hl
         by_cases hj : j = id
         ·subst hj
          rw [Zc, if_pos rfl] at hl
          simp at hl
         ·rw [hdead j (ht.resolve_left hj)] at hl; simp at hl
       refine Jb (w' := w') (v := v') ?_ (Hd rfl hc ?_ he)
       ·have hts' : ts = #[t, tx] := by
         apply Array.ext'
         rw [hts]
        rw [Mm ho hargs, hts']
        simp [builtin, hr]
       ·simp only [Nc, Ae, D.isAgg, jr, if_false, Wa]
        exact hvnew
    ·simp at he
   ·simp at he
  ·simp at he
 ·simp at he
end
section
variable {P : Program} {Out : Type} {n0 : Nat} {A : Fx} {O0 : Nat → Prop} {w0 w w' : World} {s : AS} {σ σ' : Nat → Value} {φ φ' : Nat → List Nat} {a : Act}
variable {o : Oper} {Q : Exit → Act → World → Prop} {k : AS → Option Out} {out : Out} {d : D} {v : Value} {upd : List (Nat × Option Ja)} {dst : Option Tmp} {G : Qd}
theorem Fal (hG : Ui P A.I G) (hfz : OC G A O0) (h : Ra n0 A O0 w0 s σ φ a w) (he : Se G s o k = some out) : o.wp P a w (Zd n0 A O0 w0 k out) Q := by
 have hT := hG.toEnvTy
 cases ho : o.op with
 | move x => exact C3 h (.inl ho) (by simp only [Se, Qb, ho] at he; cases hx : s.ev x with | none => simp [hx] at he | some d => simpa [hx] using he)
 | assign x => exact C3 h (.inr ho) (by simp only [Se, Qb, ho] at he; cases hx : s.ev x with | none => simp [hx] at he | some d => simpa [hx] using he)
 | pick c x y => exact Faj h ho he
 | alloc t => exact Yac hT h ho he
 | box t x => exact Pam hT h ho he
 | build t ps => exact Aad hT h ho he
 | buildSlice t n ps => exact JU hT h ho he
 | load t x => exact Eaj hT h ho he
 | store t x y => exact Fad hT h ho he
 | nilCheck x => exact RZ h ho he
 | binOp op t x y t' => exact Kaa hT h ho he
 | unOp op t x => exact Gaj h ho he
 | convert src t x => exact V6 hT h ho he
 | slice t x lo hi max =>
  cases max with
  | none => exact Ead hT h ho he
  | some m => simp [Se, Qb, ho] at he
 | fieldAddr t x f => exact KY hT h ho he
 | field t x f => exact Cad hT h ho he
 | indexAddr t x i => exact LY hT h ho he
 | index t x i => exact Dad h hT ho he
 | makeSlice t l c => exact MY hT h ho he
 | extract x n => exact W6 h ho he
 | call c =>
  obtain ⟨callee, args, ts⟩ := c
  cases callee with
  | value f =>
   cases f with
   | func f => exact Caj hG hfz h ho he
   | _ => simp [Se, Qb, ho] at he
  | invoke r m => simp [Se, Qb, ho] at he
  | builtin b =>
   cases b with
   | len => exact Qam hT h ho he
   | append =>
    cases hml : ZC G o.dst with
    | false => exact Jaa hT h ho hml he
    | true => exact U6 hT hfz h ho hml he
   | copy => exact Daj hT h ho he
   | max => exact Ram h ho he
   | min => exact Sam h ho he
   | _ => simp [Se, Qb, ho] at he
 | _ => simp [Se, Qb, ho] at he
end
theorem Oo (τ : Ty) (cs : List Value) : Bd τ cs = Sc τ cs := by cases τ <;> rfl
theorem PF : ∀ {κ : Ty} {x y : T κ}, κ.cmp = true → Jf κ x y = true → x = y
 | .i _, x, y, _, h => by simpa [Jf] using h
 | .b, x, y, _, h => by simpa [Jf] using h
 | .s, x, y, _, h => by simpa [Jf] using h
 | .u, _, _, _, _ => rfl
 | .p a c, x, y, hc, h => by
  simp only [Ty.cmp, jd] at hc
  simp only [Jf, jd] at h
  exact Prod.ext (PF hc.1 h.1) (PF hc.2 h.2)
 | .o, _, _, hc, _ => by simp [Ty.cmp] at hc
 | .sl _, _, _, hc, _ => by simp [Ty.cmp] at hc
 | .mp _ _, _, _, hc, _ => by simp [Ty.cmp] at hc
theorem Ka.det {w w' : World} {O O' : Nat → Prop} : ∀ {κ : Ty} {x : T κ} {c1 c2 : List Value}, κ.cmp = true → Ka w O κ x c1 → Ka w' O' κ x c2 → c1 = c2
 | .i _, _, _, _, _, h1, h2 => by simp only [Ka] at h1 h2; rw [h1, h2]
 | .b, _, _, _, _, h1, h2 => by simp only [Ka] at h1 h2; rw [h1, h2]
 | .s, _, _, _, _, h1, h2 => by simp only [Ka] at h1 h2; rw [h1, h2]
 | .u, _, _, _, _, h1, h2 => by simp only [Ka] at h1 h2; rw [h1, h2]
 | .p a c, x, _, _, hc, h1, h2 => by
  simp only [Ty.cmp, jd] at hc
  obtain ⟨a1, a2, e1, e2, e3⟩ := h1
  obtain ⟨b1, b2, f1, f2, f3⟩ := h2
  rw [e1, f1, Ka.det hc.1 e2 f2, Ka.det hc.2 e3 f3]
 | .o, _, _, _, hc, _, _ => by simp [Ty.cmp] at hc
 | .sl _, _, _, _, hc, _, _ => by simp [Ty.cmp] at hc
 | .mp _ _, _, _, _, hc, _, _ => by simp [Ty.cmp] at hc
theorem WI {w : World} {O : Nat → Prop} : ∀ {κ : Ty} {x : T κ} {cs : List Value}, κ.cmp = true → Ka w O κ x cs → ∀ v, v ∈ cs → ∀ n, Instr.sameBits n v v = true
 | .i _, _, _, _, h, v, hv, n => by simp only [Ka] at h; subst h; simp at hv; subst hv; simp [Instr.sameBits]
 | .b, _, _, _, h, v, hv, n => by simp only [Ka] at h; subst h; simp at hv; subst hv; simp [Instr.sameBits]
 | .s, x, _, _, h, v, hv, n => by
  simp only [Ka] at h; subst h; simp at hv; subst hv
  have : (ByteArray.mk (qp x)).toList = x := ByteArray.toList_mk x
  simp [Instr.sameBits, MapKept.bytes_beq]
 | .u, _, _, _, h, v, hv, n => by simp only [Ka] at h; subst h; simp at hv
 | .p a c, x, _, hc, h, v, hv, n => by
  simp only [Ty.cmp, jd] at hc
  obtain ⟨a1, a2, e1, e2, e3⟩ := h
  subst e1
  rcases jm.1 hv with hv | hv
  ·exact WI hc.1 e2 v hv n
  ·exact WI hc.2 e3 v hv n
 | .o, _, _, hc, _, _, _, _ => by simp [Ty.cmp] at hc
 | .sl _, _, _, hc, _, _, _, _ => by simp [Ty.cmp] at hc
 | .mp _ _, _, _, hc, _, _, _, _ => by simp [Ty.cmp] at hc
theorem A8 {w : World} {O : Nat → Prop} {κ : Ty} {x : T κ} {cs : List Value} (ha : κ.isAgg = true) (hc : κ.cmp = true) (h : Ka w O κ x cs) : Instr.sameBits 10000 (Bd κ cs) (Bd κ cs) = true := by
 have : Bd κ cs = .agg cs.toArray := by cases κ <;> simp_all [Ty.isAgg, Bd]
 rw [this]
 show Instr.sameBits (9999 + 1) (.agg cs.toArray) (.agg cs.toArray) = true
 simp only [Instr.sameBits, beq_self_eq_true, jl, yv]
 intro p hp
 obtain ⟨i, hi, e⟩ := qj hp
 rw [List.getElem_zip] at e
 rw [← e]
 exact WI hc h _ (by simp) 9999
def Po (κ : Ty) {α : Type} : List (T κ × α) → T κ → Option Nat
 | [], _ => none
 | (k, _) :: r, n => bif Jf κ n k then some 0 else (Po κ r n).map (· + 1)
theorem IY {κ : Ty} {α : Type} : ∀ (xs : List (T κ × α)) (n : T κ), Ge κ xs n = (Po κ xs n).bind fun i => (xs[i]?).map (·.2)
 | [], n => rfl
 | (k, x) :: r, n => by
  simp only [Ge, Po]
  cases hn : Jf κ n k with
  | true => simp
  | false =>
   simp only [y8]
   rw [IY r n]
   cases Po κ r n <;> simp
theorem ER {κ : Ty} {α : Type} : ∀ {xs : List (T κ × α)} {n : T κ} {i : Nat}, Po κ xs n = some i → ∃ h : i < xs.length, Jf κ n xs[i].1 = true
 | [], n, i, h => by simp [Po] at h
 | (k, x) :: r, n, i, h => by
  simp only [Po] at h
  cases hn : Jf κ n k with
  | true => rw [hn] at h; simp at h; subst h; exact ⟨by simp, hn⟩
  | false =>
   rw [hn] at h
   simp only [y8, yw] at h
   obtain ⟨j, hj, rfl⟩ := h
   obtain ⟨h1, h2⟩ := ER hj
   exact ⟨by simp; omega, by simpa using h2⟩
theorem YJ {κ : Ty} {α : Type} : ∀ {xs : List (T κ × α)} {n : T κ} {i : Nat} (y : α), Po κ xs n = some i → Gk κ xs n y = xs.set i (n, y)
 | [], n, i, y, h => by simp [Po] at h
 | (k, x) :: r, n, i, y, h => by
  simp only [Po] at h
  simp only [Gk]
  cases hn : Jf κ n k with
  | true => rw [hn] at h; simp at h; subst h; simp
  | false =>
   rw [hn] at h
   simp only [y8, yw] at h
   obtain ⟨j, hj, rfl⟩ := h
   simp [YJ y hj]
theorem XJ {κ : Ty} {α : Type} : ∀ {xs : List (T κ × α)} {n : T κ} (y : α), Po κ xs n = none → Gk κ xs n y = xs ++ [(n, y)]
 | [], n, y, h => rfl
 | (k, x) :: r, n, y, h => by
  simp only [Po] at h
  simp only [Gk]
  cases hn : Jf κ n k with
  | true => rw [hn] at h; simp at h
  | false =>
   rw [hn] at h
   simp only [y8, Option.map_eq_none_iff] at h
   simp [XJ y h]
section
variable {P : Program} {Out : Type} {n0 : Nat} {A : Fx} {O0 : Nat → Prop} {w0 w w' : World} {s : AS} {σ σ' : Nat → Value} {φ φ' : Nat → List Nat} {a : Act}
variable {o : Oper} {Q : Exit → Act → World → Prop} {k : AS → Option Out} {out : Out} {d : D} {v : Value} {upd : List (Nat × Option Ja)} {dst : Option Tmp} {G : Qd}
theorem Iag (em : Bool) : ∀ (d : Nat) {τ : Ty} {t : TypeId}, Kc P τ t = true → τ.cmp = true → τ.cnt ≤ d → ∀ {x : T τ} {cs : List Value} {O : Nat → Prop}, Ka w O τ x cs → (Instr.checkKey em d t (Sc τ cs)).run P w = .ok () w
 | 0, τ, t, _, _, hd, _, _, _, _ => by
  have : 0 < τ.cnt := by cases τ <;> simp [Ty.cnt]
  omega
 | d + 1, τ, t, h, hc, hd, x, cs, O, hv => by
  cases ha : τ.isAgg with
  | false =>
   cases τ with
   | i k => simp only [Ka] at hv; subst hv; simp [Sc, Ty.isAgg, Instr.checkKey, run_underlying (Tok.i h)]
   | b => simp only [Ka] at hv; subst hv; simp [Sc, Ty.isAgg, Instr.checkKey, run_underlying (Tok.b h)]
   | s => simp only [Ka] at hv; subst hv; simp [Sc, Ty.isAgg, Instr.checkKey, run_underlying (Tok.s h)]
   | u => simp [Ty.isAgg] at ha
   | p _ _ => simp [Ty.isAgg] at ha
   | o => simp [Ty.cmp] at hc
   | sl _ => simp [Ty.cmp] at hc
   | mp _ _ => simp [Ty.cmp] at hc
  | true =>
   obtain ⟨fs, hfs, hfo⟩ := Tok.struct ha h
   have hvx : Sc τ cs = .agg cs.toArray := by simp [Sc, ha]
   have hl := Ka.length hv
   have hv0 : Ka w O τ x (Rc cs.toArray 0 τ.size) := by simpa [Rc, ← hl] using hv
   have hsz : 0 + τ.size ≤ cs.toArray.size := by simp; omega
   rw [hvx, Instr.checkKey]
   simp only [qm, run_underlying hfs, ql]
   rw [← Array.forIn_toList]
   clear h hvx hv hfs
   generalize cs.toArray = xs at hv0 hsz ⊢
   generalize fs.toList = L at hfo ⊢
   generalize 0 = off at hfo hv0 hsz
   clear hl
   induction L generalizing τ off with
   | nil => simp
   | cons f L ih =>
    cases τ with
    | p c1 c2 =>
     simp only [Qe, jd, bne_iff_ne, ne_eq] at hfo
     obtain ⟨⟨⟨hfo0, hname⟩, hta⟩, hfr⟩ := hfo
     have hoff := jv hfo0
     simp only [Ty.cmp, jd] at hc
     simp only [Ty.size] at hv0 hsz
     simp only [Ty.cnt] at hd
     obtain ⟨d1, d2, hcc, hc1, hc2⟩ := hv0
     rw [GQ _ _ _ _ (by omega)] at hcc
     obtain ⟨q1, q2⟩ := List.append_inj hcc (by rw [Vc (by omega), Ka.length hc1])
     subst q1; subst q2
     have p1 := GK (w := w) hta (xs := xs) (o := off) (by omega)
     have p2 := Iag em d hta hc.1 (by omega) hc1
     simp only [List.forIn_cons, qm, hname, ne_eq, not_false_eq_true, if_true, hoff, p1, p2, ql, Sem.run_pure]
     have hb : c2.isAgg = true := by
      cases c2 with
      | p _ _ => rfl
      | u => rfl
      | _ => simp [Qe] at hfr
     exact ih _ hc.2 (by omega) _ hb (off + c1.size) hfr hc2 (by omega)
    | u => simp [Qe] at hfo
    | _ => simp [Ty.isAgg] at ha
theorem H8 {κ : Ty} {kt : TypeId} (hk : Kc P κ kt = true) (hb : Kr κ = true) {x : T κ} {cs : List Value} {O : Nat → Prop} (hv : Ka w O κ x cs) (em : Bool) : (Instr.checkKey em 10000 kt (Bd κ cs)).run P w = .ok () w := by
 simp only [Kr, jd] at hb
 rw [Oo]
 have := qz hb.2.2
 exact Iag em 10000 hk hb.1 (by omega) hv
theorem P8 {κ τ : Ty} {kt : TypeId} (hk : Kc P κ kt = true) (hb : Kr κ = true) {O : Nat → Prop} {n : T κ} {cn : List Value} (hn : Ka w O κ n cn) : ∀ (xs : List (T κ × T τ)) (es : List MapEntry) (j : Nat), es.length = xs.length →
 (∀ i (h : i < xs.length), ∃ e ck, es[i]? = some e ∧ e.key = Bd κ ck ∧ Ka w O κ xs[i].1 ck) →
 (Instr.findAsking kt (Bd κ cn) es j).run P w = .ok ((Po κ xs n).bind fun i => (es[i]?).map fun e => (j + i, e.val)) w
 | [], [], j, _, _ => by simp [Instr.findAsking, Po]
 | [], _ :: _, j, h, _ => by simp at h
 | _ :: _, [], j, h, _ => by simp at h
 | (k, x) :: xs, e :: es, j, h, hh => by
  obtain ⟨e0, ck, h0, h1, h2⟩ := hh 0 (by simp)
  simp only [List.getElem?_cons_zero, jc] at h0
  subst h0
  simp only [List.getElem_cons_zero] at h2
  simp only [Kr, jd] at hb
  have heq := FQ (P := P) (w := w) hk hb.1 (qz hb.2.2) hn h2
  have heq' : (Op.equal kt (Bd κ cn) e.key).run P w = .ok (Jf κ n k) w := by
   rw [h1, Oo, Oo]; exact heq
  have ih := P8 (τ := τ) hk (by simp only [Kr, jd]; exact hb) hn xs es (j + 1) (by simpa using h) (fun i hi => by
   obtain ⟨e', ck', g2, g3, g4⟩ := hh (i + 1) (by simp; omega)
   exact ⟨e', ck', by simpa using g2, g3, by simpa using g4⟩)
  simp only [Instr.findAsking, qm, heq', ql, Po]
  cases hq : Jf κ n k with
  | true => simp
  | false =>
   simp only [jr, if_false, y8]
   rw [ih]
   cases Po κ xs n with
   | none => rfl
   | some i => simp [ju, Nat.add_comm 1 i]
theorem PS {κ τ : Ty} {kt : TypeId} (hk : Kc P κ kt = true) (hb : Kr κ = true) {O : Nat → Prop} {n : T κ} {cn : List Value} (hn : Ka w O κ n cn) {xs : List (T κ × T τ)} {es : Array MapEntry} (he : Il w O κ τ xs es) :
 (Instr.findKey kt (Bd κ cn) es.toList).run P w = .ok ((Po κ xs n).bind fun i => (es[i]?).map fun e => (i, e.val)) w := by
 have h1 := P8 (τ := τ) hk hb hn xs es.toList 0 (by simpa using he.1) (fun i hi => by
  obtain ⟨e, ck, cv, h1, h2, h3, h4, h5⟩ := he.2 i hi
  exact ⟨e, ck, by simpa using h1, h2, h4⟩)
 have ha : κ.isAgg = true := by simp only [Kr, jd] at hb; exact hb.2.1
 obtain ⟨fs, hfs, _⟩ := Tok.struct ha hk
 simp only [jt, Array.getElem?_toList] at h1
 rw [← h1]
 cases es.toList with
 | nil => simp [Instr.findKey, run_underlying hfs, Instr.findNow, Instr.findAsking]
 | cons e es => simp [Instr.findKey, run_underlying hfs, Instr.findNow, Instr.sameNow]
theorem M8 {O : Nat → Prop} {κ τ : Ty} {xs : List (T κ × T τ)} {es : Array MapEntry} (he : Il w O κ τ xs es) (n : T κ) :
 (Ge κ xs n = none ∧ Po κ xs n = none) ∨ ∃ i e y cv, Po κ xs n = some i ∧ es[i]? = some e ∧ Ge κ xs n = some y ∧ e.val = Bd τ cv ∧ Ka w O τ y cv := by
 rw [IY]
 cases hm : Po κ xs n with
 | none => exact .inl ⟨rfl, rfl⟩
 | some i =>
  obtain ⟨hi, _⟩ := ER hm
  obtain ⟨e, ck, cv, h1, h2, h3, h4, h5⟩ := he.2 i hi
  exact .inr ⟨i, e, _, cv, rfl, h1, by simp [je hi], h3, h5⟩
theorem WY {κ τ : Ty} {t kt et : TypeId} {O : Nat → Prop} {xs : List (T κ × T τ)} {es : Array MapEntry} {clk r : Nat} (ht : P.underlying t = some (.map kt et)) (hk : Kc P κ kt = true) (hb : Kr κ = true) (hte : Kc P τ et = true)
 (hh : w.heap[r]? = some (.map es clk)) (he : Il w O κ τ xs es) {n : T κ} {cn : List Value} (hn : Ka w O κ n cn) (ok : Bool) :
 ∃ cv, Ka w O τ ((Ge κ xs n).getD (zT τ)) cv ∧ (Instr.lookup t (.map (some r)) (Bd κ cn) ok).run P w = .ok (if ok then .tuple #[Bd τ cv, .bool (Ge κ xs n).isSome] else Bd τ cv) w := by
 have hg : (getObj r).run P w = .ok (.map es clk) w := by simp [getObj, Sem.run, hh]
 have hf := PS (P := P) hk hb hn he
 have hc := H8 (P := P) hk hb hn es.isEmpty
 rcases M8 he n with ⟨h1, h2⟩ | ⟨i, e, y, cv, h1, h2, h3, h4, h5⟩
 ·refine ⟨τ.zc, ?_, ?_⟩
  ·rw [h1]
   exact (BO w τ).view (by simp)
  ·rw [h2] at hf
   rw [h1, Oo τ]
   simp [Instr.lookup, run_underlying ht, hg, hc, hf, Tok.zero hte]
 ·refine ⟨cv, by rw [h3]; exact h5, ?_⟩
  rw [h1] at hf
  simp only [jb, h2, qc] at hf
  rw [h3]
  simp [Instr.lookup, run_underlying ht, hg, hc, hf, h4]
theorem N8 {O : Nat → Prop} {κ τ : Ty} {xs : List (T κ × T τ)} {es : Array MapEntry} (he : Il w O κ τ xs es) {kt : TypeId} (hk : Kc P κ kt = true) (hb : Kr κ = true) {n : T κ} {cn : List Value} (hn : Ka w O κ n cn) {y : T τ} {cv : List Value} (hy : Ka w O τ y cv) (clk : Nat) :
 ∃ es' clk', Il w O κ τ (Gk κ xs n y) es' ∧ ∀ (t et : TypeId) (r : Nat), P.underlying t = some (.map kt et) → w.heap[r]? = some (.map es clk) →
  (Instr.mapUpdate t (.map (some r)) (Bd κ cn) (Bd τ cv)).run P w = .ok () { w with heap := w.heap.setIfInBounds r (.map es' clk') } := by
 have hf := PS (P := P) hk hb hn he
 have hc := H8 (P := P) hk hb hn false
 have hb' := hb
 simp only [Kr, jd] at hb'
 cases hm : Po κ xs n with
 | none =>
  refine ⟨es.push { key := Bd κ cn, val := Bd τ cv, born := clk }, clk + 1, ⟨?_, ?_⟩, ?_⟩
  ·rw [XJ y hm, Array.size_push, he.1]; simp
  ·rw [XJ y hm]
   intro i hi
   by_cases h : i < xs.length
   ·obtain ⟨e, ck, cv', h1, h2, h3, h4, h5⟩ := he.2 i h
    have hlt : i < es.size := by rw [he.1]; exact h
    refine ⟨e, ck, cv', ?_, h2, h3, ?_, ?_⟩
    ·rw [Array.getElem?_push_lt hlt]
     rw [Array.getElem?_eq_getElem hlt] at h1
     exact h1
    ·have : List.get (xs ++ [(n, y)]) ⟨i, hi⟩ = List.get xs ⟨i, h⟩ := List.getElem_append_left h
     rw [this]; exact h4
    ·have : List.get (xs ++ [(n, y)]) ⟨i, hi⟩ = List.get xs ⟨i, h⟩ := List.getElem_append_left h
     rw [this]; exact h5
   ·have hi2 : i = xs.length := by
     have : (xs ++ [(n, y)]).length = xs.length + 1 := by simp
     have hi' : i < (xs ++ [(n, y)]).length := hi
     omega
    subst hi2
    have : List.get (xs ++ [(n, y)]) ⟨xs.length, hi⟩ = (n, y) := by simp
    refine ⟨{ key := Bd κ cn, val := Bd τ cv, born := clk }, cn, cv, ?_, rfl, rfl, ?_, ?_⟩
    ·rw [show xs.length = es.size from he.1.symm]
     exact Array.getElem?_push_size
    ·rw [this]; exact hn
    ·rw [this]; exact hy
  ·intro t et r ht hh
   have hg : (getObj r).run P w = .ok (.map es clk) w := by simp [getObj, Sem.run, hh]
   rw [hm] at hf
   have hs := MapKept.run_setObj_map (P := P) (.map (es.push { key := Bd κ cn, val := Bd τ cv, born := clk }) (clk + 1)) hh
   simp [Instr.mapUpdate, run_underlying ht, hg, hc, hf, hs]
 | some i =>
  obtain ⟨hi, hik⟩ := ER hm
  obtain ⟨e0, ck0, cv0, g1, g2, g3, g4, g5⟩ := he.2 i hi
  have hkn : n = (List.get xs ⟨i, hi⟩).1 := PF hb'.1 hik
  rw [← hkn] at g4
  have hck : ck0 = cn := Ka.det hb'.1 g4 hn
  have hlt : i < es.size := by rw [he.1]; exact hi
  refine ⟨es.modify i fun e => { e with key := Bd κ cn, val := Bd τ cv }, clk, ⟨?_, ?_⟩, ?_⟩
  ·rw [YJ y hm, Array.size_modify, he.1]; simp
  ·rw [YJ y hm]
   intro j hj
   have hj' : j < xs.length := by
    have : j < (xs.set i (n, y)).length := hj
    simpa using this
   have hjs : j < es.size := by rw [he.1]; exact hj'
   by_cases hji : i = j
   ·subst hji
    have : List.get (xs.set i (n, y)) ⟨i, hj⟩ = (n, y) := by simp
    refine ⟨{ es[i] with key := Bd κ cn, val := Bd τ cv }, cn, cv, ?_, rfl, rfl, ?_, ?_⟩
    ·rw [Array.getElem?_modify]; simp [Array.getElem?_eq_getElem hjs]
    ·rw [this]; exact hn
    ·rw [this]; exact hy
   ·obtain ⟨e, ck, cv', h1, h2, h3, h4, h5⟩ := he.2 j hj'
    have : List.get (xs.set i (n, y)) ⟨j, hj⟩ = List.get xs ⟨j, hj'⟩ := by simp [hji]
    refine ⟨e, ck, cv', ?_, h2, h3, ?_, ?_⟩
    ·rw [Array.getElem?_modify, if_neg hji]; exact h1
    ·rw [this]; exact h4
    ·rw [this]; exact h5
  ·intro t et r ht hh
   have hg : (getObj r).run P w = .ok (.map es clk) w := by simp [getObj, Sem.run, hh]
   rw [hm] at hf
   simp only [jb, g1, qc] at hf
   have hs := MapKept.run_setObj_map (P := P) (.map (es.modify i fun e => { e with key := Bd κ cn, val := Bd τ cv }) clk) hh
   have hkey : e0.key = Bd κ cn := by rw [g2, hck]
   have hst : (Instr.keyThatStays (Bd κ cn) (Bd κ cn)).run P w = .ok (Bd κ cn) w := by simp [Instr.keyThatStays, A8 hb'.2.1 hb'.1 hn]
   simp [Instr.mapUpdate, run_underlying ht, hg, hc, hf, g1, hkey, hst, hs]
end
end KF
