/- An evaluator of Go functions on plain data, its soundness, and plain laws on what the functions compute, part 3 (conditions: as each lemma tells). -/
import Derived.Test.YticcaclccdakbaaGreatDoorB
import Derived.Orders
import Derived.LoopN
import Derived.ChangeArms
import Derived.ChangeStays
import Derived.ChangeSame
import Derived.WideShapes
import Derived.RowKit
import Derived.Handed
import Derived.JoinedOf
import Derived.Lib.Split
import Derived.Lib.Join
import Derived.Lib.ItoaNum
import Derived.Lib.IndexMore
import Derived.Lib.Bytealg
import Derived.Lib.Atoi
import Derived.Shelf.Sort.Plain
import Derived.Shelf.Slices.In.SortNone2
import Derived.Shelf.LaysM
import Derived.Shelf.Strings.Split
import Derived.Shelf.Strings.OnBuilder
import Derived.Shelf.Strconv.Itoa3
import Derived.LaidLaws
import Derived.LaidHandle
import Derived.Lib.LaidTab
import Derived.Shelf.Strings.Cut
import Derived.Shelf.Strings.Search3
import Derived.Shelf.Small.Strs
import Derived.Lib.AtoiBound
import Derived.IntWalk
set_option linter.unusedSimpArgs false
set_option linter.unusedVariables false
namespace KF
open Go
open List renaming length → ja, getElem?_eq_getElem → je, append → jf, mem_append → jl, mem_cons → jp, mem_cons_of_mem → jr, length_cons → jw, set → j6, length_nil → j7, mem_singleton → qc, length_append → qd, getD_eq_getElem?_getD → qf, getElem_mem → qi, getElem_of_mem → qj, mem_map → qk, length_drop → ql, ext_getElem? → qp, drop_drop → qq, toArray → qr, getD → qs, getElem?_eq_none → qt, mem_append_left → qu, mem_append_right → qv, any_eq_true → qy, append_assoc → q0, eq_nil_of_length_eq_zero → q7, getElem?_eq_some_iff → q8, length_eq_one_iff → q9, replicate → yd, cons_append → yg, map_cons → yi, nodup_cons → yk, nodup_append → yl, size_toArray → ym, flatten_cons → yn, length_map → yp, mem_map_of_mem → yt, map_append → yu, all_eq_true → yv, append_nil → yw, range → yy, map → za, append_eq → zb, not_mem_nil → zd
open Option renaming bind_some → jb, bind → jz, map_some → qb, bind_eq_some_iff → qe, getD_some → qz, map_eq_some_iff → yx
open Option.some renaming injEq → jc, inj → y3
open Bool renaming and_eq_true → jd, not_true → jg, true_and → jk, false_eq_true → jq, not_false → j8, not_eq_true → j9, eq_iff_iff → qm, or_eq_true → qx, not_eq_true' → yj, or_eq_false_iff → yq, false_or → yr
open Prod.mk renaming injEq → jh
open Nat renaming ble_eq_true_of_le → ji, mul_le_mul_right → jm, le_refl → jo, zero_add → js, add_assoc → jt, eq_of_beq_eq_true → ju, ble → jx, le_trans → qa, lt_of_lt_of_le → qh, beq → qw, le_of_ble_eq_true → q6, add_zero → ya, blt → yb, blt_eq → ye, add_mul → yf, succ_mul → yo
open Int renaming toNat_natCast → jn, eq_ofNat_of_zero_le → jv, toNat → jy, tmod → yc
open Go.IntKind renaming wrap → j4, wrap → j5
open Sum renaming elim_inl → qg
open Result renaming andThen_ok → qn
open Sem renaming run_bind → qo
open List.cons renaming injEq → yh
open Sum.inl renaming injEq → yz
theorem Ja {α : Type} {c : Bool} {x : Option α} {r : α} : (bif c then x else none) = some r ↔ c = true ∧ x = some r := by cases c <;> simp
theorem TX {α : Type} {c : Bool} {x : Option α} {r : α} : (bif c then none else x) = some r ↔ c = false ∧ x = some r := by cases c <;> simp
section
variable {s s' : AS} {G : Ue} {o : Oper} {Out : Type} {K : D → List (Nat × Option Ia) → Option Out} {out : Out}
theorem Vae {tb : Bool} {op : BinOp} {a b : D} (he : XP tb op a b K = some out) : ∃ d u, K d u = some out ∧ ∀ (Out' : Type) (K' : D → List (Nat × Option Ia) → Option Out'), XP tb op a b K' = K' d u := by
 unfold XP at he ⊢
 split at he
 ·split at he
  ·simp only [Ja] at he; exact ⟨_, _, he.2, fun _ _ => by simp [he.1]⟩
  ·simp only [Ja] at he; exact ⟨_, _, he.2, fun _ _ => by simp [he.1]⟩
  ·simp only [Ja] at he
   obtain ⟨hk, he⟩ := he
   simp only [hk, ze]
   split at he
   all_goals first
    | exact ⟨_, _, he, fun _ _ => rfl⟩
    | (simp only [TX] at he; exact ⟨_, _, he.2, fun _ _ => by simp [he.1]⟩)
    | simp at he
 ·split at he
  ·simp only [Ja] at he; exact ⟨_, _, he.2, fun _ _ => by simp [he.1]⟩
  ·exact ⟨_, _, he, fun _ _ => rfl⟩
  ·exact ⟨_, _, he, fun _ _ => rfl⟩
  ·simp at he
 ·split at he
  ·simp only [Ja] at he; exact ⟨_, _, he.2, fun _ _ => by simp [he.1]⟩
  ·simp only [Ja] at he; exact ⟨_, _, he.2, fun _ _ => by simp [he.1]⟩
  ·simp at he
 ·simp at he
theorem Aac {dst : Option Tmp} {f : FuncId} {args : List Operand} (he : BE G s dst f args K = some out) : ∃ d u, K d u = some out ∧ ∀ (Out' : Type) (K' : D → List (Nat × Option Ia) → Option Out'), BE G s dst f args K' = K' d u := by
 unfold BE at he ⊢
 split at he
 ·rename_i h1
  split at he
  ·rename_i h2
   split at he
   ·rename_i h3
    simp only [qe] at he
    obtain ⟨r, h4, he⟩ := he
    split at he
    ·rename_i h5
     split at he
     ·rename_i h6
      simp only [Ja] at he
      exact ⟨_, _, he.2, fun _ _ => by simp [h4, h5, h6, he.1]⟩
     ·simp at he
    ·simp at he
   ·simp at he
  ·simp at he
 ·rename_i h1
  split at he
  ·split at he
   ·rename_i h2 h3
    split at he
    ·rename_i h4 h5
     simp only [qe] at he
     obtain ⟨r, h6, he⟩ := he
     split at he
     ·rename_i h7
      split at he
      ·rename_i h8
       simp only [Ja] at he
       exact ⟨_, _, he.2, fun _ _ => by simp [h6, h7, h8, he.1]⟩
      ·simp at he
     ·simp at he
    ·simp at he
   ·simp at he
  ·simp at he
 ·rename_i h1
  split at he
  ·rename_i h2
   split at he
   ·rename_i h3
    simp only [qe] at he
    obtain ⟨r, h4, he⟩ := he
    split at he
    ·rename_i h5
     split at he
     ·rename_i h6
      simp only [Ja] at he
      exact ⟨_, _, he.2, fun _ _ => by simp [h4, h5, h6, he.1]⟩
     ·simp at he
    ·simp at he
   ·simp at he
  ·simp at he
 ·rename_i h1
  split at he
  ·split at he
   ·rename_i h2 h3
    split at he
    ·rename_i h4
     split at he
     ·rename_i h5 h6 h7
      simp only [qe] at he
      obtain ⟨r, h8, he⟩ := he
      split at he
      ·rename_i h9
       split at he
       ·rename_i h10 h11
        simp only [Ja] at he
        exact ⟨_, _, he.2, fun _ _ => by simp only [h8, h9, h10, h11, jb, he.1, ze]⟩
       ·simp at he
      ·simp at he
     ·simp at he
    ·simp at he
   ·simp at he
  ·simp at he
 ·rename_i h1
  split at he
  ·rename_i h2
   split at he
   ·rename_i h3
    simp only [qe, Ja] at he
    obtain ⟨r, h4, h5, he⟩ := he
    exact ⟨_, _, he, fun _ _ => by simp only [h4, jb, h5, ze]⟩
   ·simp at he
  ·simp at he
 ·simp at he
theorem U2 {dst : Option Tmp} {t tx : TypeId} {x y : Operand} (he : Dw G s dst t tx x y K = some out) : ∃ d u, K d u = some out ∧ ∀ (Out' : Type) (K' : D → List (Nat × Option Ia) → Option Out'), Dw G s dst t tx x y K' = K' d u := by
 unfold Dw at he ⊢
 split at he
 ·rename_i h1 h2 h3
  split at he
  ·rename_i h4 h5
   simp only [Ja] at he
   exact ⟨_, _, he.2.2, fun _ _ => by simp [he.1, he.2.1]⟩
  ·simp at he
 ·simp at he
theorem XZ {dst : Option Tmp} {t tx : TypeId} {x y : Operand} (he : Ys G s dst t tx x y K = some out) : ∃ d u, K d u = some out ∧ ∀ (Out' : Type) (K' : D → List (Nat × Option Ia) → Option Out'), Ys G s dst t tx x y K' = K' d u := by
 unfold Ys at he ⊢
 split at he
 ·split at he
  ·rename_i h4 h5
   split at he
   ·simp only [Ja] at he
    exact ⟨_, _, he.2.2, fun _ _ => by simp only [he.1, he.2.1, ze]⟩
   ·simp at he
  ·simp at he
 ·simp at he
theorem Uae {dst : Option Tmp} {t tx : TypeId} {x y : Operand} (he : IG G s dst t tx x y K = some out) : ∃ d u, K d u = some out ∧ ∀ (Out' : Type) (K' : D → List (Nat × Option Ia) → Option Out'), IG G s dst t tx x y K' = K' d u := by
 unfold IG at he ⊢
 cases hml : PH G dst with
 | true => rw [hml] at he; exact XZ he
 | false => rw [hml] at he; exact U2 he
theorem Bac {t tx : TypeId} {x y : Operand} (he : CE G s t tx x y K = some out) : ∃ d u, K d u = some out ∧ ∀ (Out' : Type) (K' : D → List (Nat × Option Ia) → Option Out'), CE G s t tx x y K' = K' d u := by
 unfold CE at he ⊢
 split at he
 ·split at he
  ·rename_i h4
   split at he
   ·rename_i h5 h6
    simp only [Ja] at he
    exact ⟨_, _, he.2.2, fun _ _ => by simp [he.1, he.2.1]⟩
   ·simp at he
  ·simp at he
 ·simp at he
theorem KU {dst : Option Tmp} {τ : Ty} {id i : Nat} {e : Ty} {xs : List (T e)} {k : Nat} (he : Ku s dst τ id i e xs k K = some out) :
 ∃ d u, K d u = some out ∧ ∀ (Out' : Type) (K' : D → List (Nat × Option Ia) → Option Out'), Ku s dst τ id i e xs k K' = K' d u := by
 unfold Ku at he ⊢
 split at he
 ·rename_i h1
  simp only [Ja, qe] at he
  obtain ⟨h2, x, h3, h4, h5⟩ := he
  exact ⟨_, _, h5, fun _ _ => by simp only [h2, h3, jb, h4, ze]⟩
 ·simp at he
theorem Wae {dst : Option Tmp} {t : TypeId} {id : Nat} {lo hi : Option Operand} (he : YP G s dst t id lo hi K = some out) :
 ∃ d u, K d u = some out ∧ ∀ (Out' : Type) (K' : D → List (Nat × Option Ia) → Option Out'), YP G s dst t id lo hi K' = K' d u := by
 unfold YP at he ⊢
 split at he
 ·rename_i h1
  split at he
  ·rename_i h2 h3 h4
   split at he
   ·rename_i h5
    simp only [Ja] at he
    obtain ⟨h6, he⟩ := he
    split at he
    ·rename_i tt
     cases hm : Ly G.mv tt with
     | true =>
      rw [hm] at he
      simp only [ze, Ja] at he
      exact ⟨_, _, he.2, fun _ _ => by simp only [h6, he.1, ze]⟩
     | false =>
      rw [hm] at he
      simp only [zf] at he
      exact ⟨_, _, he, fun _ _ => by simp only [h6, ze, zf]⟩
    ·simp at he
   ·simp at he
  ·simp at he
 ·simp at he
theorem Cac {t : TypeId} {id a b : Nat} {lo hi : Option Operand} (he : LK G s t id a b lo hi K = some out) :
 ∃ d u, K d u = some out ∧ ∀ (Out' : Type) (K' : D → List (Nat × Option Ia) → Option Out'), LK G s t id a b lo hi K' = K' d u := by
 unfold LK at he ⊢
 split at he
 ·rename_i h1
  split at he
  ·rename_i h2 h3 h4
   split at he
   ·rename_i h5
    simp only [Ja] at he
    exact ⟨_, _, he.2, fun _ _ => by simp only [he.1, ze]⟩
   ·simp at he
  ·simp at he
 ·simp at he
theorem Daj (he : Sb G s o K = some out) : ∃ d u, K d u = some out ∧ ∀ (Out' : Type) (K' : D → List (Nat × Option Ia) → Option Out'), Sb G s o K' = K' d u := by
 cases ho : o.op with
 | move x => simp only [Sb, ho] at he ⊢; split at he <;> first | (simp at he; done) | (rename_i h1; exact ⟨_, _, he, fun _ _ => by simp⟩)
 | assign x => simp only [Sb, ho] at he ⊢; split at he <;> first | (simp at he; done) | (rename_i h1; exact ⟨_, _, he, fun _ _ => by simp⟩)
 | pick c x y =>
  simp only [Sb, ho] at he ⊢
  split at he
  ·rename_i β hc
   cases hb : (show Bool from β) with
   | true =>
    have hb' : β = true := hb
    subst hb'
    simp only [ze] at he
    split at he
    ·rename_i h1; exact ⟨_, _, he, fun _ _ => by simp⟩
    ·simp at he
   | false =>
    have hb' : β = false := hb
    subst hb'
    simp only [zf] at he
    split at he
    ·rename_i h1; exact ⟨_, _, he, fun _ _ => by simp⟩
    ·simp at he
  ·simp at he
 | alloc t =>
  simp only [Sb, ho] at he ⊢
  split at he
  ·rename_i h1 h2; simp only [Ja] at he; exact ⟨_, _, he.2, fun _ _ => by simp [he.1]⟩
  ·split at he
   ·rename_i h3; simp only [Ja] at he; exact ⟨_, _, he.2, fun _ _ => by simp only [he.1, ze]⟩
   ·simp at he
  ·simp at he
 | box t x =>
  simp only [Sb, ho] at he ⊢
  split at he
  ·rename_i h1 h2 h3; simp only [Ja] at he; exact ⟨_, _, he.2, fun _ _ => by simp [he.1]⟩
  ·simp at he
 | build t ps =>
  simp only [Sb, ho] at he ⊢
  split at he
  ·rename_i h1
   split at he
   ·rename_i h2; simp only [Ja] at he; exact ⟨_, _, he.2, fun _ _ => by simp [he.1]⟩
   ·simp at he
  ·simp at he
 | buildSlice t n ps =>
  simp only [Sb, ho] at he ⊢
  split at he
  ·rename_i h1 h2
   split at he
   ·rename_i h3; simp only [Ja] at he; exact ⟨_, _, he.2, fun _ _ => by simp [he.1]⟩
   ·rename_i h3
    split at he
    ·rename_i h4; simp only [Ja] at he; exact ⟨_, _, he.2, fun _ _ => by simp [he.1]⟩
    ·simp at he
  ·simp at he
 | load t x =>
  simp only [Sb, ho] at he ⊢
  split at he
  ·rename_i h1 h2
   split at he
   ·rename_i h3
    split at he
    ·rename_i h4 h5
     split at he
     ·rename_i h6; exact ⟨_, _, he, fun _ _ => by simp⟩
     ·simp at he
    ·simp at he
   ·simp at he
  ·rename_i h1 h2
   split at he
   ·rename_i h3; exact ⟨_, _, he, fun _ _ => by simp⟩
   ·simp at he
  ·rename_i h1 h2
   cases hml : PH G o.dst with
   | true =>
    rw [hml] at he
    simp only [ze] at he
    split at he
    ·rename_i h3; obtain ⟨d, u, g1, g2⟩ := KU he; exact ⟨d, u, g1, fun _ _ => by simp only [ze]; exact g2 _ _⟩
    ·rename_i h3; obtain ⟨d, u, g1, g2⟩ := KU he; exact ⟨d, u, g1, fun _ _ => by simp only [ze]; exact g2 _ _⟩
    ·simp at he
   | false =>
   rw [hml] at he
   simp only [zf] at he
   split at he
   ·rename_i h3
    simp only [qe] at he
    obtain ⟨z, hz, he⟩ := he
    split at he
    ·rename_i τ' y h4 h5
     split at he
     ·rename_i h6
      cases hc : ((!_ || Ty.flat _) || Ty.flat _) with
      | true =>
       rw [hc] at he
       exact ⟨_, _, he, fun _ _ => by simp only [zf, hz, jb, h4, h5, h6, hc, ze]⟩
      | false =>
       rw [hc] at he
       simp only [zf] at he
       split at he
       ·rename_i h7
        simp only [Ja] at he
        obtain ⟨hc2, he⟩ := he
        exact ⟨_, _, he, fun _ _ => by simp only [hz, jb, h4, h5, h6, hc, zf, h7, hc2, ze]⟩
       ·simp at he
     ·simp at he
    ·simp at he
   ·simp at he
  ·simp at he
 | store t x y =>
  simp only [Sb, ho] at he ⊢
  split at he
  ·rename_i h1 h2 h3
   split at he
   ·rename_i h4
    split at he
    ·rename_i h5 h6
     split at he
     ·rename_i h7; simp only [Ja] at he; exact ⟨_, _, he.2, fun _ _ => by simp [he.1]⟩
     ·simp at he
    ·simp at he
   ·simp at he
  ·rename_i h1 h2 h3
   split at he
   ·rename_i e dp xs h4
    split at he
    ·rename_i h5
     split at he
     ·rename_i h6
      cases hf : (dp || e.flat) with
      | true =>
       rw [hf] at he
       simp only [ze] at he
       split at he
       ·rename_i h7
        simp only [Ja, qe] at he
        obtain ⟨hc, z, hz, he⟩ := he
        split at he
        ·rename_i h8; exact ⟨_, _, he, fun _ _ => by simp only [hc, ze, hz, jb, h8]⟩
        ·simp at he
       ·simp at he
      | false =>
       rw [hf] at he
       simp only [zf] at he
       split at he
       ·rename_i h7
        simp only [qe] at he
        obtain ⟨z, hz, he⟩ := he
        split at he
        ·rename_i h8; exact ⟨_, _, he, fun _ _ => by simp only [zf, hz, jb, h8]⟩
        ·simp at he
       ·simp at he
     ·simp at he
    ·simp at he
   ·split at he
    ·rename_i h5
     split at he
     ·rename_i h6
      split at he
      ·rename_i h7
       simp only [Ja] at he
       obtain ⟨hc, hd, he⟩ := he
       split at he
       ·rename_i h8; exact ⟨_, _, he, fun _ _ => by simp only [hc, hd, ze]⟩
       ·simp at he
      ·simp at he
     ·simp at he
    ·simp at he
   ·simp at he
  ·simp at he
 | nilCheck x =>
  simp only [Sb, ho] at he ⊢
  split at he
  ·rename_i h1
   split at he
   ·rename_i h2; exact ⟨_, _, he, fun _ _ => by simp⟩
   ·simp at he
  ·rename_i h1; exact ⟨_, _, he, fun _ _ => by simp⟩
  ·rename_i h1
   split at he
   ·exact ⟨_, _, he, fun _ _ => by simp only⟩
   ·simp at he
  ·simp at he
 | binOp op t x y t' =>
  simp only [Sb, ho] at he ⊢
  split at he
  ·rename_i u v h1 h2
   cases ha : u.isAgg with
   | true =>
    rw [ha] at he
    simp only [ze] at he
    split at he
    ·rename_i h3
     split at he
     ·rename_i h4 h5
      simp only [Ja] at he
      obtain ⟨hc, he⟩ := he
      split at he
      ·exact ⟨_, _, he, fun _ _ => by simp only [ze, h3, hc]⟩
      ·exact ⟨_, _, he, fun _ _ => by simp only [ze, h3, hc]⟩
      ·simp at he
     ·simp at he
    ·simp at he
   | false =>
    rw [ha] at he
    simp only [zf] at he
    obtain ⟨d, u', h3, h4⟩ := Vae he
    exact ⟨d, u', h3, fun _ _ => by simp only [zf]; exact h4 _ _⟩
  ·simp at he
 | unOp op t x =>
  simp only [Sb, ho] at he ⊢
  split at he
  ·rename_i h1; exact ⟨_, _, he, fun _ _ => by simp⟩
  ·rename_i h1; exact ⟨_, _, he, fun _ _ => by simp⟩
  ·simp at he
 | convert src t x =>
  simp only [Sb, ho] at he ⊢
  split at he
  ·rename_i h1 h2 h3; exact ⟨_, _, he, fun _ _ => by simp⟩
  ·rename_i h1 h2 h3; exact ⟨_, _, he, fun _ _ => by simp⟩
  ·rename_i h1 h2 h3
   split at he
   ·rename_i h4; exact ⟨_, _, he, fun _ _ => by simp only⟩
   ·simp at he
  ·rename_i h1 h2 h3; simp only [Ja] at he; exact ⟨_, _, he.2, fun _ _ => by simp [he.1]⟩
  ·simp at he
 | slice t x lo hi mx =>
  cases mx with
  | some m => simp [Sb, ho] at he
  | none =>
   simp only [Sb, ho] at he ⊢
   split at he
   ·rename_i h1
    split at he
    ·rename_i h2 h3 h4; simp only [Ja] at he; exact ⟨_, _, he.2, fun _ _ => by simp only [he.1, ze]⟩
    ·simp at he
   ·rename_i h1
    split at he
    ·rename_i h2 h3 h4
     split at he
     ·rename_i h5; simp only [Ja] at he; exact ⟨_, _, he.2, fun _ _ => by simp only [he.1, ze]⟩
     ·simp at he
    ·simp at he
   ·exact Wae he
   ·split at he
    ·simp only [Ja] at he
     exact ⟨_, _, he.2, fun _ _ => by simp only [he.1, ze]⟩
    ·simp at he
   ·exact Cac he
   ·simp at he
 | fieldAddr t x f =>
  simp only [Sb, ho] at he ⊢
  split at he
  ·rename_i h1 h2
   split at he
   ·rename_i h3
    split at he
    ·rename_i h4 h5
     split at he
     ·rename_i h6; simp only [Ja] at he; exact ⟨_, _, he.2, fun _ _ => by simp only [he.1, ze]⟩
     ·simp at he
    ·simp at he
   ·simp at he
  ·rename_i h1 h2
   split at he
   ·rename_i h3
    split at he
    ·rename_i h4 h5
     split at he
     ·rename_i h6; simp only [Ja] at he; exact ⟨_, _, he.2, fun _ _ => by simp only [he.1, ze]⟩
     ·simp at he
    ·simp at he
   ·simp at he
  ·rename_i h1 h2
   split at he
   ·rename_i h3 h4 h5; simp only [Ja] at he; exact ⟨_, _, he.2, fun _ _ => by simp only [he.1, ze]⟩
   ·simp at he
  ·simp at he
 | field t x f =>
  simp only [Sb, ho] at he ⊢
  split at he
  ·rename_i h1 h2
   simp only [Ja] at he
   obtain ⟨hc, he⟩ := he
   split at he
   ·rename_i h3 h4; exact ⟨_, _, he, fun _ _ => by simp only [hc, ze]⟩
   ·simp at he
  ·simp at he
 | indexAddr t x i =>
  simp only [Sb, ho] at he ⊢
  split at he
  ·rename_i h1 h2 h3
   split at he
   ·rename_i h4
    simp only [qe] at he
    obtain ⟨z, hz, he⟩ := he
    exact ⟨_, _, he, fun _ _ => by simp only [hz, jb]⟩
   ·simp at he
  ·rename_i h1 h2 h3
   split at he
   ·rename_i h4
    split at he
    ·rename_i h5; simp only [Ja] at he; exact ⟨_, _, he.2, fun _ _ => by simp only [he.1, ze]⟩
    ·simp at he
   ·simp at he
  ·rename_i h1 h2 h3
   split at he
   ·rename_i h4
    split at he
    ·rename_i h5; simp only [Ja] at he; exact ⟨_, _, he.2, fun _ _ => by simp only [he.1, ze]⟩
    ·simp at he
   ·simp at he
  ·rename_i h1 h2 h3
   split at he
   ·rename_i h4 h5
    split at he
    ·rename_i h6; simp only [Ja] at he; exact ⟨_, _, he.2.2, fun _ _ => by simp only [he.1, he.2.1, ze]⟩
    ·simp at he
   ·simp at he
  ·simp at he
 | index t x i =>
  simp only [Sb, ho] at he ⊢
  split at he
  ·rename_i h1 h2 h3
   simp only [qe] at he
   obtain ⟨z, hz, he⟩ := he
   exact ⟨_, _, he, fun _ _ => by simp only [hz, jb]⟩
  ·simp at he
 | makeSlice t l c =>
  simp only [Sb, ho] at he ⊢
  split at he
  ·rename_i h1 h2 h3 h4; simp only [Ja] at he; exact ⟨_, _, he.2.2, fun _ _ => by simp only [he.1, he.2.1, ze]⟩
  ·simp at he
 | extract x n =>
  simp only [Sb, ho] at he ⊢
  split at he
  ·rename_i h1
   split at he
   ·rename_i h2; exact ⟨_, _, he, fun _ _ => by simp⟩
   ·simp at he
  ·simp at he
 | call c =>
  obtain ⟨callee, args, ts⟩ := c
  cases callee with
  | value f =>
   cases f with
   | func f => simp only [Sb, ho] at he ⊢; exact Aac he
   | _ => simp [Sb, ho] at he
  | invoke r m => simp [Sb, ho] at he
  | builtin b =>
   cases b with
   | len =>
    simp only [Sb, ho] at he ⊢
    split at he
    ·rename_i h1 h2
     split at he
     ·rename_i h3 h4; exact ⟨_, _, he, fun _ _ => by simp only⟩
     ·rename_i h3 h4; exact ⟨_, _, he, fun _ _ => by simp only⟩
     ·rename_i h3 h4; exact ⟨_, _, he, fun _ _ => by simp only⟩
     ·rename_i h3 h4
      split at he
      ·rename_i h5; exact ⟨_, _, he, fun _ _ => by simp only⟩
      ·simp at he
     ·rename_i h3 h4
      split at he
      ·rename_i h5; exact ⟨_, _, he, fun _ _ => by simp only⟩
      ·simp at he
     ·simp at he
    ·simp at he
   | append =>
    simp only [Sb, ho] at he ⊢
    split at he
    ·rename_i h1 h2
     exact Uae he
    ·simp at he
   | copy =>
    simp only [Sb, ho] at he ⊢
    split at he
    ·exact Bac he
    ·simp at he
   | max =>
    simp only [Sb, ho] at he ⊢
    split at he
    ·rename_i h1
     split at he
     ·rename_i h2 h3; simp only [Ja] at he; exact ⟨_, _, he.2, fun _ _ => by simp only [he.1, ze]⟩
     ·simp at he
    ·simp at he
   | min =>
    simp only [Sb, ho] at he ⊢
    split at he
    ·rename_i h1
     split at he
     ·rename_i h2 h3; simp only [Ja] at he; exact ⟨_, _, he.2, fun _ _ => by simp only [he.1, ze]⟩
     ·simp at he
    ·simp at he
   | _ => simp [Sb, ho] at he
 | _ => simp [Sb, ho] at he
end
section
variable {P : Program} {Out : Type} {n0 : Nat} {A : Fx} {O0 : Nat → Prop} {w0 w w' : World} {s s' : AS} {σ σ' : Nat → Value} {φ φ' : Nat → List Nat} {a : Act}
variable {o : Oper} {Q : Exit → Act → World → Prop} {k : AS → Option Out} {out : Out} {d : D} {v : Value} {upd : List (Nat × Option Ia)} {dst : Option Tmp} {G : Ue}
structure Eqv (s s' : AS) : Prop where
 n : s'.n = s.n
 tm : ∀ t, Jb s'.tm t = Jb s.tm t
 hp : ∀ id, s'.heap id = s.heap id
theorem Eqv.refl (s : AS) : Eqv s s := ⟨rfl, fun _ => rfl, fun _ => rfl⟩
theorem Eqv.trans {s1 s2 s3 : AS} (h : Eqv s1 s2) (h' : Eqv s2 s3) : Eqv s1 s3 := ⟨h'.n.trans h.n, fun t => (h'.tm t).trans (h.tm t), fun id => (h'.hp id).trans (h.hp id)⟩
theorem Eqv.symm {s1 s2 : AS} (h : Eqv s1 s2) : Eqv s2 s1 := ⟨h.n.symm, fun t => (h.tm t).symm, fun id => (h.hp id).symm⟩
theorem Qa.eqv (h : Qa n0 A O0 w0 s σ φ a w) (he : Eqv s s') : Qa n0 A O0 w0 s' σ φ a w := by
 have hh : s'.heap = s.heap := funext he.hp
 have hO : OO O0 s' φ = OO O0 s φ := by
  funext b
  simp only [OO, hh]
 refine ⟨by rw [he.n]; exact h.sz, h.df, ?_, ?_, ?_, ?_, ?_, h.o0, h.fr, h.pin, h.iv0, h.ivw, fun id kk e xs hb => by rw [hO]; exact h.shr id kk e xs (by rw [← hh]; exact hb)⟩
 ·intro t d hd
  rw [he.tm] at hd
  rw [hO, hh]
  exact h.tm t d hd
 ·intro id Da hb
  rw [hh] at hb
  rw [hO, hh]
  exact h.hp id Da hb
 ·intro id Da hb
  rw [hh] at hb
  exact h.nodup id Da hb
 ·intro id id' Da blk' hne hb hb'
  rw [hh] at hb hb'
  exact h.disj id id' Da blk' hne hb hb'
 ·intro id Da hb
  rw [hh] at hb
  exact h.fresh id Da hb
theorem OP (h : Qa n0 A O0 w0 s σ φ a w) {ops : Array Oper} {j : Nat} {t : Tmp} {β : Bool} (hj : (ops[j]?).bind (·.dst) = some t) (hd : Jb s.tm t = some (.t .b β)) :
 yielded ops a.tmps j = some β := by
 obtain ⟨v, hv, hr⟩ := h.tm t _ hd
 rw [Ui] at hr
 subst hr
 unfold yielded
 rw [hj, jb, hv]
theorem TR (h : Qa n0 A O0 w0 s σ φ a w) {ops : Array Oper} {j : Nat} {t : Tmp} (hj : (ops[j]?).bind (·.dst) = some t) (hd : Jb s.tm t = some .und) :
 yielded ops a.tmps j = none := by
 obtain ⟨v, hv, hr⟩ := h.tm t _ hd
 rw [Dx] at hr
 subst hr
 unfold yielded
 rw [hj, jb, hv]
 rfl
theorem Ve.mono {K : Act → World → Prop} (h : ∀ s σ φ a w, k s = some out → Qa n0 A O0 w0 s σ φ a w → K a w) {a : Act} {w : World} (hg : Ve n0 A O0 w0 k out a w) : K a w := by
 obtain ⟨s, σ, φ, h1, h2⟩ := hg
 exact h s σ φ a w h1 h2
theorem Faa (h : Qa n0 A O0 w0 s σ φ a w) (he : Zg s dst .und [] k = some out) : Ve n0 A O0 w0 k out (a.put dst undef) w := Cc h (Dx.2 rfl) he
theorem Xad {n i : Nat} (h : i < n) : (yy n).drop i = i :: (yy n).drop (i + 1) := by
 rw [List.drop_eq_getElem_cons (by simpa using h)]
 simp
theorem D7 (hG : Cj P A.I G) (hfz : QJ G A O0) {r : Nat} {ops : Array Oper} (hQ : ∀ s σ φ a w, k s = some out → Qa n0 A O0 w0 s σ φ a w → Q .normal a w) : ∀ (l : List Oper) (i : Nat) (s : AS) (σ : Nat → Value) (φ : Nat → List Nat) (a : Act) (w : World),
 ops.toList.drop i = l → JC G r ops l i s k = some out → Qa n0 A O0 w0 s σ φ a w → wpOps P ops Q ((yy ops.size).drop i) a w
 | [], i, s, σ, φ, a, w, hl, he, h => by
  have hi : ops.size ≤ i := by
   have := congrArg ja hl
   simp at this
   omega
  rw [List.drop_eq_nil_of_le (by simpa using hi)]
  exact hQ s σ φ a w he h
 | o :: l, i, s, σ, φ, a, w, hl, he, h => by
  have hi : i < ops.size := by
   have := congrArg ja hl
   simp at this
   omega
  have hoi : ops[i]? = some o := by
   have h1 := congrArg (·[0]?) hl
   simpa using h1
  have hl' : ops.toList.drop (i + 1) = l := by
   have h1 := congrArg (List.drop 1) hl
   simpa [qq, Nat.add_comm] using h1
  have next : ∀ a w, Ve n0 A O0 w0 (fun s' => JC G r ops l (i + 1) s' k) out a w → wpOps P ops Q ((yy ops.size).drop (i + 1)) a w := by
   rintro a w ⟨s', σ', φ', h1, h2⟩
   exact D7 hG hfz hQ l (i + 1) s' σ' φ' a w hl' h1 h2
  simp only [JC] at he
  split at he
  ·simp at he
  rename_i s1 hat
  obtain ⟨φ1, h⟩ := KC hfz h hat
  have run : ∀ s, Qa n0 A O0 w0 s σ φ1 a w → QW G s o (fun s' => JC G r ops l (i + 1) s' k) = some out → o.wp P a w (wpOps P ops Q ((yy ops.size).drop (i + 1))) Q := fun s hs hop =>
   Oper.wp_mono next (Oao hG hfz hs hop)
  have skp : ∀ s, Qa n0 A O0 w0 s σ φ1 a w → Zg s o.dst .und [] (fun s' => JC G r ops l (i + 1) s' k) = some out → wpOps P ops Q ((yy ops.size).drop (i + 1)) (a.put o.dst undef) w := fun s hs hop =>
   next _ _ (Faa hs hop)
  rw [Xad hi]
  simp only [wpOps, hoi]
  cases hg : o.guard with
  | none =>
   rw [hg] at he
   have hw : Region.wanted o (yielded ops a.tmps) = true := by simp [Region.wanted, hg]
   rw [if_pos hw]
   exact .inl (run s1 h he)
  | some g =>
   obtain ⟨j, want⟩ := g
   rw [hg] at he
   simp only at he
   split at he
   ·rename_i t ht
    split at he
    ·rename_i β hd
     have hy := OP h ht hd
     have hwd : Region.wanted o (yielded ops a.tmps) = (some β == some want) := by simp [Region.wanted, hg, hy]
     have hs := h.same hd
     rw [hwd]
     cases hβ : (show Bool from β) with
     | true =>
      have hβ' : β = true := hβ
      subst hβ'
      simp only [ze] at he
      cases want with
      | true => rw [if_pos (by rfl)]; exact .inl (run _ hs he)
      | false => rw [if_neg (by simp)]; exact skp _ hs he
     | false =>
      have hβ' : β = false := hβ
      subst hβ'
      simp only [zf] at he
      cases want with
      | true => rw [if_neg (by simp)]; exact skp _ hs he
      | false => rw [if_pos (by rfl)]; exact .inl (run _ hs he)
    ·rename_i hd
     have hy := TR h ht hd
     have hwd : Region.wanted o (yielded ops a.tmps) = false := by simp [Region.wanted, hg, hy]
     rw [hwd, if_neg (by simp)]
     exact skp _ h he
    ·simp at he
   ·simp at he
end
abbrev Ef := D × List (Nat × Option Ia)
def VQ (G : Ue) (s : AS) (o : Oper) (e : Ef) : Prop := ∀ (Out' : Type) (K' : D → List (Nat × Option Ia) → Option Out'), Sb G s o K' = K' e.1 e.2
theorem VQ.congr {G : Ue} {s s' : AS} {o : Oper} {e : Ef} (h : VQ G s o e) (ha : A7 s s' o) : VQ G s' o e := fun Out' K' => (Dac ha).trans (h Out' K')
def putE (s : AS) (dst : Option Tmp) (e : Ef) : AS := ⟨s.n, (match dst with | some t => [(t, e.1)] | none => []) ++ s.tm, e.2 ++ s.hp⟩
def NL (G : Ue) (ops : Array Oper) (s : AS) (o : Oper) (e : Ef) : Prop :=
 match o.guard with
 | none => VQ G s o e
 | some (j, want) => ∃ t, (ops[j]?).bind (·.dst) = some t ∧ ((∃ β : Bool, Jb s.tm t = some (.t .b β) ∧ (if β = want then VQ G s o e else e = (.und, []))) ∨ (Jb s.tm t = some .und ∧ e = (.und, [])))
def Zd (ops : Array Oper) (E : Nat → Ef) (L : Nat → Bool) (s0 : AS) : Nat → AS
 | 0 => s0
 | m + 1 => match ops[m]? with
  | some o => bif L m then putE (Zd ops E L s0 m) o.dst (E m) else Zd ops E L s0 m
  | none => Zd ops E L s0 m
structure Zai (H : List Nat) (ops : Array Oper) (s : AS) (o : Oper) (e : Ef) (f : FP) : Prop where
 wt : f.wt = o.dst
 wi : f.wi = e.2.map (·.1)
 mi : f.mi = e.1.ids ++ Xs e.2
 rt : ∀ t, t ∈ Hq (Ed o.op) → t ∈ f.rt
 rg : ∀ j want t, o.guard = some (j, want) → (ops[j]?).bind (·.dst) = some t → t ∈ f.rt
 ri : QA o.op = false → ∀ x, x ∈ Ed o.op → ∀ d, s.ev x = some d → ∀ id, (d.ment id = true ∨ (UC o.op = true ∧ id ∈ AH s d)) → id ∈ f.ri ∨ (Eh o.op = true ∧ id ∈ H)
def MN (H : List Nat) (s : AS) (e : Ef) : Prop := ∀ id, id ∈ H → id ∈ e.2.map (·.1) → ((Jb e.2 id).join).map Ia.kind = (s.heap id).map Ia.kind
structure PM (G : Ue) (H : List Nat) (ops : Array Oper) (s0 : AS) (E : Nat → Ef) (F : Nat → FP) (anc : Nat → List Nat) (m : Nat) (o : Oper) : Prop where
 step : NL G ops (Zd ops E (fun _ => true) s0 m) o (E m)
 fp : Zai H ops (Zd ops E (fun _ => true) s0 m) o (E m) (F m)
 dst : ∀ t, o.dst = some t → t < s0.n
 back : ∀ e, e ∈ o.after.toList → Region.binds .any e = true → e.on < m
 up : ∀ x, x ∈ anc m → ∃ e, e ∈ o.after.toList ∧ Region.binds .any e = true ∧ (x = e.on ∨ x ∈ anc e.on)
 ind : ∀ j, j < m → j ∈ anc m ∨ HV (F j) (F m) = true
 hard : MN H (Zd ops E (fun _ => true) s0 m) (E m)
theorem HM {l : List Nat} {x : Nat} : Ly l x = true ↔ x ∈ l := by
 unfold Ly
 rw [qy]
 constructor
 ·rintro ⟨y, hy, he⟩
  have := ju he
  exact this ▸ hy
 ·intro h; exact ⟨x, h, Nat.beq_refl x⟩
theorem Bz {l m : List Nat} (h : FJ l m = false) : ∀ x, x ∈ l → x ∉ m := by
 intro x hx hm
 have : FJ l m = true := by
  unfold FJ
  rw [qy]
  exact ⟨x, hx, HM.2 hm⟩
 rw [h] at this; simp at this
theorem BN {t : Option Nat} {l : List Nat} (h : G6 t l = false) : ∀ x, t = some x → x ∉ l := by
 rintro x rfl hm
 simp only [G6] at h
 rw [HM.2 hm] at h; simp at h
theorem HR {dst : Option Nat} {l : List Nat} (h : SV dst l = false) : ∀ id, Mk dst id → id ∉ l := by
 intro id hn hm
 have : SV dst l = true := by
  unfold SV
  cases dst with
  | some t =>
   simp only []
   rw [qy]
   refine ⟨id, hm, ?_⟩
   rcases hn with hn | hn
   ·simp only [jc] at hn
    subst hn
    simp
   ·simp only [qz] at hn
    have h1 : jx (100000 + 64 * t) id = true := ji hn.1
    have h2 : yb id (100064 + 64 * t) = true := by rw [ye]; exact hn.2
    simp [h1, h2]
  | none =>
   simp only []
   rw [qy]
   refine ⟨id, hm, ?_⟩
   rcases hn with hn | hn
   ·simp at hn
   ·simp only [Option.getD_none] at hn
    have hn1 : 100000 ≤ id := by simpa using hn.1
    have hn2 : id < 100064 := by simpa using hn.2
    have h1 : jx 100000 id = true := ji hn1
    have h2 : yb id 100064 = true := by rw [ye]; exact hn2
    simp [h1, h2]
 rw [h] at this; simp at this
structure MD (f g : FP) : Prop where
 t1 : ∀ x, f.wt = some x → x ∉ g.rt
 t2 : ∀ x, g.wt = some x → x ∉ f.rt
 t3 : ∀ x, f.wt = some x → g.wt ≠ some x
 i1 : ∀ x, x ∈ f.wi → x ∉ g.ri
 i2 : ∀ x, x ∈ g.wi → x ∉ f.ri
 i3 : ∀ x, x ∈ f.wi → x ∉ g.wi
 n1 : ∀ id, Mk f.wt id → id ∉ g.mi
 n2 : ∀ id, Mk g.wt id → id ∉ f.mi
theorem MD.symm {f g : FP} (h : MD f g) : MD g f :=
 ⟨h.t2, h.t1, fun x hx hf => h.t3 x hf hx, h.i2, h.i1, fun x hx hf => h.i3 x hf hx, h.n2, h.n1⟩
theorem M4 {f g : FP} (h : HV f g = true) : MD f g := by
 simp only [HV, jd, yj] at h
 obtain ⟨⟨⟨⟨⟨⟨⟨h1, h2⟩, h3⟩, h4⟩, h5⟩, h6⟩, h7⟩, h8⟩ := h
 refine ⟨BN h1, BN h2, fun x hx hg => ?_, Bz h4, Bz h5, Bz h6, HR h7, HR h8⟩
 exact BN h3 x hx (by rw [hg]; simp)
theorem JH : ∀ {d : D} {id : Nat}, d.ment id = true ↔ id ∈ d.ids := by
 intro d
 induction d with
 | pr a b iha ihb => intro id; simp [D.ment, D.ids, iha, ihb]
 | tup d ih => intro id; simp only [D.ment, D.ids]; exact ih
 | own j => intro id; simp only [D.ment, D.ids, qc]; exact ⟨fun h => (ju h).symm, fun h => by rw [h]; exact Nat.beq_refl _⟩
 | mpo j => intro id; simp only [D.ment, D.ids, qc]; exact ⟨fun h => (ju h).symm, fun h => by rw [h]; exact Nat.beq_refl _⟩
 | cut j lo hi => intro id; simp only [D.ment, D.ids, qc]; exact ⟨fun h => (ju h).symm, fun h => by rw [h]; exact Nat.beq_refl _⟩
 | ptr j p => intro id; simp only [D.ment, D.ids, qc]; exact ⟨fun h => (ju h).symm, fun h => by rw [h]; exact Nat.beq_refl _⟩
 | eptr j i p => intro id; simp only [D.ment, D.ids, qc]; exact ⟨fun h => (ju h).symm, fun h => by rw [h]; exact Nat.beq_refl _⟩
 | _ => intro id; simp [D.ment, D.ids]
theorem HK {id : Nat} : ∀ {u : List (Nat × Option Ia)}, (u.any fun x => (x.2.map (Ia.ment id)).getD false) = true ↔ id ∈ Xs u
 | [] => by simp [Xs]
 | (j, none) :: r => by
  simp only [List.any_cons, Xs, Option.map_none, Option.getD_none, yr]
  exact HK (u := r)
 | (j, some b) :: r => by
  simp only [List.any_cons, Xs, qb, qz, qx, jl]
  rw [HK (u := r)]
  refine or_congr ?_ Iff.rfl
  cases b with
  | box ρ d => simp only [Ia.ment, Ia.ids]; exact JH
  | row e dp xs => simp [Ia.ment, Ia.ids]
  | hol e xs i x p τ d => simp only [Ia.ment, Ia.ids]; exact JH
  | mov e xs k => simp [Ia.ment, Ia.ids]
  | mp k v xs => simp [Ia.ment, Ia.ids]
  | mq k v xs => simp [Ia.ment, Ia.ids]
  | mx k v xs => simp [Ia.ment, Ia.ids]
  | fz e xs => simp [Ia.ment, Ia.ids]
section
variable {s s' : AS} {e : Ef} {dst : Option Tmp} {G : Ue} {ops : Array Oper}
theorem Wx {t : Nat} : Jb (putE s dst e).tm t = if dst = some t then some e.1 else Jb s.tm t := by
 cases dst with
 | none => simp [putE]
 | some t' => simp [putE, Tc]
theorem I6 {α : Type} {l m : List (Nat × α)} {k : Nat} : Jb (l ++ m) k = if k ∈ l.map (·.1) then Jb l k else Jb m k := by
 induction l with
 | nil => simp
 | cons p l ih =>
  obtain ⟨j, a⟩ := p
  rw [yg, Tc, Tc, ih]
  by_cases h : j = k
  ·subst h; simp
  ·have h' : ¬ k = j := fun e => h e.symm
   have hk : k ∈ ((j, a) :: l).map (·.1) ↔ k ∈ l.map (·.1) := by simp [h']
   simp only [hk, if_neg h]
theorem Tu {id : Nat} : (putE s dst e).heap id = if id ∈ e.2.map (·.1) then (Jb e.2 id).join else s.heap id := by
 simp only [AS.heap, putE, I6]
 split <;> rfl
theorem Xak {id : Nat} (h : id ∉ e.1.ids ++ Xs e.2) : (putE s dst e).newOk id = s.newOk id := by
 rw [jl, not_or] at h
 have h1 : e.1.ment id = false := by rw [← j9]; exact fun hm => h.1 (JH.1 hm)
 have h2 : (e.2.any fun x => (x.2.map (Ia.ment id)).getD false) = false := by rw [← j9]; exact fun hm => h.2 (HK.1 hm)
 unfold AS.newOk
 congr 2
 simp only [AS.ment, putE, List.any_append, h2, yr]
 cases dst with
 | none => simp
 | some t => simp [h1]
theorem VW {x : Operand} {l : List Operand} (hx : x ∈ l) (h : ∀ t, t ∈ Hq l → Jb s'.tm t = Jb s.tm t) : s'.ev x = s.ev x := by
 cases x with
 | tmp t =>
  refine h t ?_
  induction l with
  | nil => simp at hx
  | cons y l ih =>
   rcases jp.1 hx with e | hx2
   ·subst e; simp [Hq]
   ·cases y with
    | tmp t' => simp only [Hq]; exact jr _ (ih (fun t ht => h t (by simp only [Hq]; exact jr _ ht)) hx2)
    | const v => simp only [Hq]; exact ih (fun t ht => h t (by simp only [Hq]; exact ht)) hx2
    | global g => simp only [Hq]; exact ih (fun t ht => h t (by simp only [Hq]; exact ht)) hx2
    | func g => simp only [Hq]; exact ih (fun t ht => h t (by simp only [Hq]; exact ht)) hx2
 | _ => rfl
theorem UZ {E : Nat → Ef} {F : Nat → FP} {L L' : Nat → Bool} {s0 : AS} {f : FP}
 (hF : ∀ m o, ops[m]? = some o → (F m).wt = o.dst ∧ (F m).wi = (E m).2.map (·.1) ∧ (F m).mi = (E m).1.ids ++ Xs (E m).2)
 (hd : ∀ m, m < ops.size → L m ≠ L' m → MD (F m) f) : ∀ m, m ≤ ops.size →
 (∀ t, t ∈ f.rt → Jb (Zd ops E L s0 m).tm t = Jb (Zd ops E L' s0 m).tm t) ∧ (∀ id, id ∈ f.ri → (Zd ops E L s0 m).heap id = (Zd ops E L' s0 m).heap id) ∧
  (∀ id, Mk f.wt id → (Zd ops E L s0 m).newOk id = (Zd ops E L' s0 m).newOk id)
 | 0, _ => ⟨fun _ _ => rfl, fun _ _ => rfl, fun _ _ => rfl⟩
 | m + 1, hm => by
  obtain ⟨h1, h2, h3⟩ := UZ hF hd m (by omega)
  have hom : ops[m]? = some ops[m] := Array.getElem?_eq_getElem (by omega)
  obtain ⟨g1, g2, g3⟩ := hF m _ hom
  simp only [Zd, hom]
  have apart : L m ≠ L' m → MD (F m) f := hd m (by omega)
  have p1 : ∀ (S : AS) t, L m ≠ L' m → t ∈ f.rt → Jb (putE S ops[m].dst (E m)).tm t = Jb S.tm t := by
   intro S t hne ht
   rw [Wx, if_neg]
   intro hdst
   exact (apart hne).t1 t (g1.trans hdst) ht
  have p2 : ∀ (S : AS) id, L m ≠ L' m → id ∈ f.ri → (putE S ops[m].dst (E m)).heap id = S.heap id := by
   intro S id hne hid
   rw [Tu, if_neg]
   intro hk
   exact (apart hne).i1 id (by rw [g2]; exact hk) hid
  have p3 : ∀ (S : AS) id, L m ≠ L' m → Mk f.wt id → (putE S ops[m].dst (E m)).newOk id = S.newOk id := by
   intro S id hne hid
   refine Xak ?_
   rw [← g3]
   exact (apart hne).n2 id hid
  cases hL : L m <;> cases hL' : L' m <;> simp only [ze, zf]
  ·exact ⟨h1, h2, h3⟩
  ·have hne : L m ≠ L' m := by rw [hL, hL']; simp
   exact ⟨fun t ht => (h1 t ht).trans (p1 _ t hne ht).symm, fun id hid => (h2 id hid).trans (p2 _ id hne hid).symm, fun id hid => (h3 id hid).trans (p3 _ id hne hid).symm⟩
  ·have hne : L m ≠ L' m := by rw [hL, hL']; simp
   exact ⟨fun t ht => (p1 _ t hne ht).trans (h1 t ht), fun id hid => (p2 _ id hne hid).trans (h2 id hid), fun id hid => (p3 _ id hne hid).trans (h3 id hid)⟩
  ·refine ⟨fun t ht => ?_, fun id hid => ?_, fun id hid => ?_⟩
   ·rw [Wx, Wx, h1 t ht]
   ·rw [Tu, Tu, h2 id hid]
   ·have e0 := h3 id hid
    unfold AS.newOk at e0 ⊢
    simp only [AS.ment, putE, List.any_append] at e0 ⊢
    revert e0
    generalize ((match ops[m].dst with | some t => [(t, (E m).1)] | none => []).any fun x => x.2.ment id) = b1
    generalize ((E m).2.any fun x => (x.2.map (Ia.ment id)).getD false) = b2
    generalize ((Zd ops E L s0 m).tm.any fun x => x.2.ment id) = c1
    generalize ((Zd ops E L s0 m).hp.any fun x => (x.2.map (Ia.ment id)).getD false) = c2
    generalize ((Zd ops E L' s0 m).tm.any fun x => x.2.ment id) = d1
    generalize ((Zd ops E L' s0 m).hp.any fun x => (x.2.map (Ia.ment id)).getD false) = d2
    generalize yb id 500000 = z
    cases b1 <;> cases b2 <;> cases c1 <;> cases c2 <;> cases d1 <;> cases d2 <;> cases z <;> simp
theorem TT {E : Nat → Ef} {H : List Nat} {s0 : AS} : ∀ (m : Nat), m ≤ ops.size → (∀ j o, j < m → ops[j]? = some o → MN H (Zd ops E (fun _ => true) s0 j) (E j)) → ∀ id, id ∈ H → ∀ L : Nat → Bool, ((Zd ops E L s0 m).heap id).map Ia.kind = (s0.heap id).map Ia.kind
 | 0, _, _, _, _, _ => rfl
 | m + 1, hm, hh, id, hid, L => by
  have ih := TT m (by omega) (fun j o hj => hh j o (by omega)) id hid
  have hom : ops[m]? = some ops[m] := Array.getElem?_eq_getElem (by omega)
  simp only [Zd, hom]
  cases hL : L m with
  | false => simp only [zf]; exact ih L
  | true =>
   simp only [ze]
   rw [Tu]
   split
   ·rename_i hk
    rw [hh m _ (by omega) hom id hid hk]
    exact ih _
   ·exact ih L
theorem GW {E : Nat → Ef} {L : Nat → Bool} {s0 : AS} : ∀ m, (Zd ops E L s0 m).n = s0.n
 | 0 => rfl
 | m + 1 => by
  simp only [Zd]
  split
  ·cases L m with
   | true => simp only [ze, putE]; exact GW m
   | false => simp only [zf]; exact GW m
  ·exact GW m
theorem Kx {E E' : Nat → Ef} {L L' : Nat → Bool} {s0 : AS} : ∀ m, (∀ j, j < m → E j = E' j ∧ L j = L' j) → Zd ops E L s0 m = Zd ops E' L' s0 m
 | 0, _ => rfl
 | m + 1, h => by
  have ih := Kx (E := E) (E' := E') (L := L) (L' := L') (s0 := s0) m fun j hj => h j (by omega)
  simp only [Zd, ih, (h m (by omega)).1, (h m (by omega)).2]
theorem UT {E : Nat → Ef} {L : Nat → Bool} {s0 : AS} {i : Nat} : ∀ m, i ≤ m → (∀ j, i ≤ j → j < m → L j = false) → Zd ops E L s0 m = Zd ops E L s0 i
 | 0, h, _ => by
  have : i = 0 := by omega
  subst this; rfl
 | m + 1, h, hL => by
  by_cases he : i = m + 1
  ·subst he; rfl
  ·rw [← UT m (by omega) fun j h1 h2 => hL j h1 (by omega)]
   simp only [Zd, hL m (by omega) (by omega)]
   split <;> rfl
theorem Haa {E : Nat → Ef} {F : Nat → FP} {L : Nat → Bool} {s0 : AS} {i : Nat} {o : Oper} (hi : ops[i]? = some o)
 (hF : ∀ m o, ops[m]? = some o → (F m).wt = o.dst ∧ (F m).wi = (E m).2.map (·.1) ∧ (F m).mi = (E m).1.ids ++ Xs (E m).2)
 (hLi : L i = false) (hd : ∀ m, m < ops.size → i < m → L m = true → MD (F m) (F i)) : ∀ m, i < m → m ≤ ops.size →
 Eqv (putE (Zd ops E L s0 m) o.dst (E i)) (Zd ops E (fun j => L j || qw j i) s0 m)
 | 0, h, _ => by omega
 | m + 1, h, hm => by
  by_cases he : m = i
  ·subst he
   have h1 : Zd ops E L s0 (m + 1) = Zd ops E L s0 m := by simp only [Zd, hLi]; split <;> rfl
   have h2 : Zd ops E (fun j => L j || qw j m) s0 m = Zd ops E L s0 m := Kx m fun j hj => by
    refine ⟨rfl, ?_⟩
    have : qw j m = false := by rw [← j9]; intro e; have := ju e; omega
    simp [this]
   have h3 : Zd ops E (fun j => L j || qw j m) s0 (m + 1) = putE (Zd ops E L s0 m) o.dst (E m) := by
    simp only [Zd, hi, Nat.beq_refl, Bool.or_true, ze]
    rw [h2]
   rw [h1, h3]
   exact Eqv.refl _
  ·have ih := Haa (s0 := s0) hi hF hLi hd m (by omega) (by omega)
   have hom : ops[m]? = some ops[m] := Array.getElem?_eq_getElem (by omega)
   have hb : qw m i = false := by rw [← j9]; intro e; exact he (ju e)
   obtain ⟨g1, g2, g3⟩ := hF m _ hom
   obtain ⟨k1, k2, k3⟩ := hF i _ hi
   simp only [Zd, hom, hb, Bool.or_false]
   cases hL : L m with
   | false => exact ih
   | true =>
    simp only [ze]
    have hind := hd m (by omega) (by omega) hL
    refine ⟨by simp only [putE]; exact ih.n, fun t => ?_, fun id => ?_⟩
    ·rw [Wx, Wx, Wx, ih.tm t, Wx]
     by_cases h1 : ops[m].dst = some t
     ·rw [if_pos h1, if_neg, if_pos h1]
      intro h2
      exact hind.t3 t (g1.trans h1) (k1.trans h2)
     ·rw [if_neg h1, if_neg h1]
    ·rw [Tu, Tu, Tu, ih.hp id, Tu]
     by_cases h1 : id ∈ (E m).2.map (·.1)
     ·rw [if_pos h1, if_neg, if_pos h1]
      intro h2
      exact hind.i3 id (by rw [g2]; exact h1) (by rw [k2]; exact h2)
     ·rw [if_neg h1, if_neg h1]
end
theorem Kaj {p q : Nat → Bool} {i : Nat} (hpq : ∀ j, q j = true → p j = true) (hp : p i = true) (hq : q i = false) : ∀ n, i < n → (yy n).countP q < (yy n).countP p := by
 have hle : ∀ n, (yy n).countP q ≤ (yy n).countP p := fun n => List.countP_mono_left fun j _ h => hpq j h
 intro n
 induction n with
 | zero => intro h; omega
 | succ n ih =>
  intro h
  rw [List.range_succ, List.countP_append, List.countP_append]
  by_cases he : i = n
  ·subst he
   have := hle i
   simp [hp, hq]
   omega
  ·have := ih (by omega)
   have h2 : [n].countP q ≤ [n].countP p := List.countP_mono_left fun j _ h => hpq j h
   omega
section
variable {P : Program} {n0 : Nat} {A : Fx} {O0 : Nat → Prop} {w0 : World} {G : Ue} {ops : Array Oper} {s0 : AS} {E : Nat → Ef} {F : Nat → FP} {anc : Nat → List Nat} {H : List Nat} {Q : Exit → Act → World → Prop}
def Ju (listed : Array Bool) (j : Nat) : Bool := listed.getD j false
def L2 (ops : Array Oper) (L : Nat → Bool) : Prop := ∀ j o, ops[j]? = some o → L j = true → ∀ e, e ∈ o.after.toList → Region.binds .any e = true → L e.on = true
theorem YL (hPM : ∀ m o, ops[m]? = some o → PM G H ops s0 E F anc m o) {L : Nat → Bool} (hc : L2 ops L) : ∀ (b m : Nat), m < b → m < ops.size → L m = true → ∀ x, x ∈ anc m → L x = true
 | 0, _, h, _, _, _, _ => by omega
 | b + 1, m, hb, hm, hL, x, hx => by
  have hom : ops[m]? = some ops[m] := Array.getElem?_eq_getElem hm
  obtain ⟨e, he, hbn, hxe⟩ := (hPM m _ hom).up x hx
  have h1 := hc m _ hom hL e he hbn
  have h2 := (hPM m _ hom).back e he hbn
  rcases hxe with rfl | hxe
  ·exact h1
  ·exact YL hPM hc b e.on (by omega) (by omega) h1 x hxe
theorem BP {listed : Array Bool} {i : Nat} : i ∈ Region.ready .any ops listed ↔ i < ops.size ∧ listed.getD i true = false ∧ ∃ o, ops[i]? = some o ∧ ∀ e, e ∈ o.after.toList → Region.binds .any e = true → listed.getD e.on false = true := by
 unfold Region.ready
 rw [List.mem_filter, List.mem_range]
 constructor
 ·rintro ⟨h1, h2⟩
  have hom : ops[i]? = some ops[i] := Array.getElem?_eq_getElem h1
  rw [hom] at h2
  simp only [qb, qz, jd, yj] at h2
  refine ⟨h1, h2.1, _, hom, fun e he hb => ?_⟩
  have h3 := h2.2
  rw [Array.all_eq_true'] at h3
  have := h3 e (Array.mem_toList_iff.1 he)
  rw [hb] at this
  simpa using this
 ·rintro ⟨h1, h2, o, ho, h3⟩
  refine ⟨h1, ?_⟩
  rw [ho]
  simp only [qb, qz, jd, yj]
  refine ⟨h2, ?_⟩
  rw [Array.all_eq_true']
  intro e he
  cases hb : Region.binds .any e with
  | false => rfl
  | true => simpa using h3 e (Array.mem_toList_iff.2 he) hb
theorem NU (hPM : ∀ m o, ops[m]? = some o → PM G H ops s0 E F anc m o) {listed : Array Bool} (hsz : listed.size = ops.size) (hr : Region.ready .any ops listed = []) : ∀ (b j : Nat), j < b → j < ops.size → Ju listed j = true
 | 0, _, h, _ => by omega
 | b + 1, j, hb, hj => by
  by_cases h : Ju listed j = true
  ·exact h
  ·exfalso
   have hom : ops[j]? = some ops[j] := Array.getElem?_eq_getElem hj
   have : j ∈ Region.ready .any ops listed := by
    refine BP.2 ⟨hj, ?_, _, hom, fun e he hbn => ?_⟩
    ·unfold Ju at h
     simp only [j9] at h
     have hjl : j < listed.size := by omega
     simp [Array.getD, hjl] at h ⊢
     exact h
    ·have := (hPM j _ hom).back e he hbn
     exact NU hPM hsz hr b e.on (by omega) (by omega)
   rw [hr] at this
   simp at this
theorem E3 {op : Op} (h : UC op = true) : QA op = false := by
 cases op <;> first | rfl | simp [UC] at h
theorem M0 {op : Op} (h : Eh op = true) : QA op = false := by
 cases op <;> first | rfl | simp [Eh] at h
theorem A7.of_stL (hPM : ∀ m o, ops[m]? = some o → PM G H ops s0 E F anc m o) {L : Nat → Bool} (hc : L2 ops L) {i : Nat} {o : Oper} (hi : ops[i]? = some o) (hLi : L i = false)
 (hready : ∀ e, e ∈ o.after.toList → Region.binds .any e = true → L e.on = true) :
 A7 (Zd ops E (fun _ => true) s0 i) (Zd ops E L s0 ops.size) o ∧ (∀ t, t ∈ (F i).rt → Jb (Zd ops E L s0 ops.size).tm t = Jb (Zd ops E (fun _ => true) s0 i).tm t) ∧
  (∀ m, m < ops.size → i < m → L m = true → MD (F m) (F i)) := by
 have hin : i < ops.size := (Array.getElem?_eq_some_iff.1 hi).1
 have hF : ∀ m o, ops[m]? = some o → (F m).wt = o.dst ∧ (F m).wi = (E m).2.map (·.1) ∧ (F m).mi = (E m).1.ids ++ Xs (E m).2 := fun m o ho => ⟨(hPM m o ho).fp.wt, (hPM m o ho).fp.wi, (hPM m o ho).fp.mi⟩
 have hgt : ∀ m, m < ops.size → i < m → L m = true → MD (F m) (F i) := by
  intro m hm him hL
  have hom : ops[m]? = some ops[m] := Array.getElem?_eq_getElem hm
  rcases (hPM m _ hom).ind i him with h | h
  ·have := YL hPM hc (m + 1) m (by omega) hm hL i h
   rw [hLi] at this; simp at this
  ·exact (M4 h).symm
 have hd : ∀ m, m < ops.size → L m ≠ yb m i → MD (F m) (F i) := by
  intro m hm hne
  rcases Nat.lt_trichotomy m i with h | h | h
  ·have hb : yb m i = true := by rw [ye]; exact h
   have hL : L m = false := by
    rw [hb] at hne
    simpa using hne
   rcases (hPM i _ hi).ind m h with h' | h'
   ·exfalso
    obtain ⟨e, he, hbn, hxe⟩ := (hPM i _ hi).up m h'
    have h1 := hready e he hbn
    rcases hxe with rfl | hxe
    ·rw [hL] at h1; simp at h1
    ·have h2 := (hPM i _ hi).back e he hbn
     have := YL hPM hc (e.on + 1) e.on (by omega) (by omega) h1 m hxe
     rw [hL] at this; simp at this
   ·exact M4 h'
  ·subst h
   exfalso
   apply hne
   rw [hLi]
   have : yb m m = false := by rw [← j9, ye]; omega
   exact this.symm
  ·have hb : yb m i = false := by
    rw [← j9, ye]; omega
   have hL : L m = true := by
    rw [hb] at hne
    simpa using hne
   exact hgt m hm h hL
 obtain ⟨a1, a2, a3⟩ := UZ (ops := ops) (s0 := s0) (f := F i) hF hd ops.size (jo _)
 have hst : Zd ops E (fun j => yb j i) s0 ops.size = Zd ops E (fun _ => true) s0 i := by
  rw [UT (i := i) ops.size (by omega) fun j h1 h2 => by
   show yb j i = false
   rw [← j9, ye]; omega]
  exact Kx i fun j hj => ⟨rfl, by rw [ye]; exact hj⟩
 rw [hst] at a1 a2 a3
 have fp := (hPM i _ hi).fp
 refine ⟨⟨fun x hx => VW hx fun t ht => a1 t (fp.rt t ht), fun hmv hsp x hx d hd' id hm => a2 id ((fp.ri hmv x hx d hd' id (.inl hm)).resolve_right fun h => by rw [hsp] at h; simp at h),
  fun hsp x hx d hd' id hm => ?_, fun id hid => a3 id (by rw [fp.wt]; exact hid),
  fun hcl hsp x hx bid p hev ρ d hb id hm => a2 id ((fp.ri (E3 hcl) x hx _ hev id (.inr ⟨hcl, by simp only [AH, hb]; exact JH.1 hm⟩)).resolve_right fun h => by rw [hsp] at h; simp at h)⟩, a1, hgt⟩
 rcases fp.ri (M0 hsp) x hx d hd' id (.inl hm) with h | h
 ·rw [a2 id h]
 ·have hh : ∀ j o, ops[j]? = some o → MN H (Zd ops E (fun _ => true) s0 j) (E j) := fun j o ho => (hPM j o ho).hard
  rw [TT ops.size (jo _) (fun j o _ ho => hh j o ho) id h.2, TT i (Nat.le_of_lt hin) (fun j o _ ho => hh j o ho) id h.2]
theorem JS {s : AS} {dst : Option Tmp} {e : Ef} (hd : ∀ t, dst = some t → t < s.n) {Out : Type} {k : AS → Option Out} : Zg s dst e.1 e.2 k = k (putE s dst e) := by
 cases dst with
 | none => rfl
 | some t =>
  have : yb t s.n = true := by rw [ye]; exact hd t rfl
  simp only [Zg, this, ze, putE]
  rfl
theorem Tak (hG : Cj P A.I G) (hfz : QJ G A O0) (hPM : ∀ m o, ops[m]? = some o → PM G H ops s0 E F anc m o)
 (hQ : ∀ σ φ a w, Qa n0 A O0 w0 (Zd ops E (fun _ => true) s0 ops.size) σ φ a w → Q .normal a w) :
 ∀ (fuel : Nat) (listed : Array Bool) (σ : Nat → Value) (φ : Nat → List Nat) (a : Act) (w : World), listed.size = ops.size → (yy ops.size).countP (fun j => !listed.getD j true) ≤ fuel →
  L2 ops (Ju listed) → Qa n0 A O0 w0 (Zd ops E (Ju listed) s0 ops.size) σ φ a w → wpAny P .any ops Q fuel listed a w := by
 intro fuel
 have fin' : ∀ (listed : Array Bool) (σ : Nat → Value) (φ : Nat → List Nat) (a : Act) (w : World), listed.size = ops.size → Region.ready .any ops listed = [] →
  Qa n0 A O0 w0 (Zd ops E (Ju listed) s0 ops.size) σ φ a w → Q .normal a w := by
  intro listed σ φ a w hsz hr h
  refine hQ σ φ a w ?_
  rw [← Kx (L := Ju listed) ops.size fun j hj => ⟨rfl, NU hPM hsz hr (j + 1) j (by omega) hj⟩]
  exact h
 induction fuel with
 | zero =>
  intro listed σ φ a w hsz hcnt hc h
  have hr : Region.ready .any ops listed = [] := by
   rw [List.eq_nil_iff_forall_not_mem]
   intro i hi
   obtain ⟨h1, h2, _⟩ := BP.1 hi
   have : 0 < (yy ops.size).countP (fun j => !listed.getD j true) := List.countP_pos_iff.2 ⟨i, List.mem_range.2 h1, by rw [h2]; rfl⟩
   omega
  exact ⟨hr, fin' listed σ φ a w hsz hr h⟩
 | succ fuel ih =>
  intro listed σ φ a w hsz hcnt hc h
  refine ⟨fun hr => fin' listed σ φ a w hsz hr h, fun i hi => ?_⟩
  obtain ⟨hin, hun, o, ho, hed⟩ := BP.1 hi
  have hil : i < listed.size := by omega
  have hLi : Ju listed i = false := by
   unfold Ju
   simp [Array.getD, hil] at hun ⊢
   exact hun
  obtain ⟨hag, htm, hgt⟩ := A7.of_stL hPM hc ho hLi hed
  have pm := hPM i o ho
  have hF : ∀ m o, ops[m]? = some o → (F m).wt = o.dst ∧ (F m).wi = (E m).2.map (·.1) ∧ (F m).mi = (E m).1.ids ++ Xs (E m).2 := fun m o ho => ⟨(hPM m o ho).fp.wt, (hPM m o ho).fp.wi, (hPM m o ho).fp.mi⟩
  have hadd := Haa (s0 := s0) (L := Ju listed) ho hF hLi hgt ops.size hin (jo _)
  have hset : ∀ j, Ju (listed.setIfInBounds i true) j = (Ju listed j || qw j i) := by
   intro j
   unfold Ju
   by_cases hji : j = i
   ·subst hji
    simp [Array.getD, hil]
   ·have hb : qw j i = false := by rw [← j9]; intro e; exact hji (ju e)
    rw [hb, Bool.or_false]
    simp only [Array.getD_eq_getD_getElem?]
    rw [Array.getElem?_setIfInBounds_ne (fun e => hji e.symm)]
  have next : ∀ σ φ a w, Qa n0 A O0 w0 (putE (Zd ops E (Ju listed) s0 ops.size) o.dst (E i)) σ φ a w → wpAny P .any ops Q fuel (listed.setIfInBounds i true) a w := by
   intro σ φ a w h
   have h2 := h.eqv hadd
   have h3 : Zd ops E (fun j => Ju listed j || qw j i) s0 ops.size = Zd ops E (Ju (listed.setIfInBounds i true)) s0 ops.size := Kx ops.size fun j _ => ⟨rfl, (hset j).symm⟩
   rw [h3] at h2
   refine ih (listed.setIfInBounds i true) σ φ a w (by simpa using hsz) ?_ ?_ h2
   ·have hlt := Kaj (p := fun j => !listed.getD j true) (q := fun j => !(listed.setIfInBounds i true).getD j true) (i := i) ?_ (by simp only [hun, j8]) ?_ ops.size hin
    ·omega
    ·intro j hj
     by_cases hji : j = i
     ·subst hji; simp [hun]
     ·simp only [Array.getD_eq_getD_getElem?] at hj ⊢
      rw [Array.getElem?_setIfInBounds_ne (fun e => hji e.symm)] at hj
      exact hj
    ·simp [Array.getD, hil]
   ·intro j oj hoj hL e he hbn
    rw [hset] at hL ⊢
    cases hLj : Ju listed j with
    | true => rw [hc j oj hoj hLj e he hbn]; rfl
    | false =>
     rw [hLj, yr] at hL
     have := ju hL
     subst this
     rw [ho] at hoj
     simp only [jc] at hoj
     subst hoj
     have := hed e he hbn
     unfold Ju
     rw [this]; rfl
  have hdn : ∀ t, o.dst = some t → t < (Zd ops E (Ju listed) s0 ops.size).n := fun t ht => by rw [GW]; exact pm.dst t ht
  have run : VQ G (Zd ops E (fun _ => true) s0 i) o (E i) → o.wp P a w (wpAny P .any ops Q fuel (listed.setIfInBounds i true)) Q := by
   intro hE
   have hE' := hE.congr hag
   have : Hf G (Zd ops E (Ju listed) s0 ops.size) o some = some (putE (Zd ops E (Ju listed) s0 ops.size) o.dst (E i)) := by
    unfold Hf
    rw [hE']
    exact JS hdn
   refine Oper.wp_mono ?_ (Yae hG hfz h this)
   rintro a w ⟨s2, σ', φ', h1, h2⟩
   simp only [jc] at h1
   subst h1
   exact next σ' φ' a w h2
  have skp : E i = (.und, []) → wpAny P .any ops Q fuel (listed.setIfInBounds i true) (a.put o.dst undef) w := by
   intro hE
   have := Faa (dst := o.dst) (k := some) (out := putE (Zd ops E (Ju listed) s0 ops.size) o.dst (.und, [])) h (JS (e := (.und, [])) hdn)
   obtain ⟨s2, σ', φ', h1, h2⟩ := this
   simp only [jc] at h1
   subst h1
   rw [← hE] at h2
   exact next σ' φ' _ w h2
  have hst := pm.step
  unfold wpOp
  rw [ho]
  simp only []
  unfold NL at hst
  cases hg : o.guard with
  | none =>
   rw [hg] at hst
   rw [if_pos (by simp [Region.wanted, hg])]
   exact .inl (run hst)
  | some g =>
   obtain ⟨j, want⟩ := g
   rw [hg] at hst
   obtain ⟨t, ht, hst⟩ := hst
   have htr : t ∈ (F i).rt := pm.fp.rg j want t hg ht
   have hlook := htm t htr
   rcases hst with ⟨β, hd, hst⟩ | ⟨hd, hst⟩
   ·rw [hd] at hlook
    have hy := OP h ht hlook
    have hwd : Region.wanted o (yielded ops a.tmps) = (some β == some want) := by simp [Region.wanted, hg, hy]
    rw [hwd]
    by_cases hβ : β = want
    ·subst hβ
     rw [if_pos (by simp)]
     rw [if_pos rfl] at hst
     exact .inl (run hst)
    ·rw [if_neg (by simpa using hβ)]
     rw [if_neg hβ] at hst
     exact skp hst
   ·rw [hd] at hlook
    have hy := TR h ht hlook
    have hwd : Region.wanted o (yielded ops a.tmps) = false := by simp [Region.wanted, hg, hy]
    rw [hwd, if_neg (by simp)]
    exact skp hst
end
structure Dj (s s' : AS) : Prop extends Eqv s s' where
 nw : ∀ id, s'.newOk id = s.newOk id
theorem Dj.refl (s : AS) : Dj s s := ⟨Eqv.refl s, fun _ => rfl⟩
theorem Dj.agr {s s' : AS} (h : Dj s s') (o : Oper) : A7 s s' o :=
 ⟨fun _ hx => VW hx fun t _ => h.tm t, fun _ _ _ _ _ _ id _ => h.hp id, fun _ _ _ _ _ id _ => by rw [h.hp id], fun id _ => h.nw id, fun _ _ _ _ _ _ _ _ _ _ id _ => h.hp id⟩
theorem Dj.symm {s s' : AS} (h : Dj s s') : Dj s' s := ⟨h.toEqv.symm, fun id => (h.nw id).symm⟩
theorem Dj.trans {s1 s2 s3 : AS} (h : Dj s1 s2) (h' : Dj s2 s3) : Dj s1 s3 := ⟨h.toEqv.trans h'.toEqv, fun id => (h'.nw id).trans (h.nw id)⟩
theorem Dj.putE {s s' : AS} (h : Dj s s') (dst : Option Tmp) (e : Ef) : Dj (KF.putE s dst e) (KF.putE s' dst e) := by
 refine ⟨⟨h.n, fun t => ?_, fun id => ?_⟩, fun id => ?_⟩
 ·rw [Wx, Wx, h.tm t]
 ·rw [Tu, Tu, h.hp id]
 ·have e0 := h.nw id
  unfold AS.newOk at e0 ⊢
  simp only [AS.ment, KF.putE, List.any_append] at e0 ⊢
  revert e0
  generalize ((match dst with | some t => [(t, e.1)] | none => []).any fun x => x.2.ment id) = b1
  generalize (e.2.any fun x => (x.2.map (Ia.ment id)).getD false) = b2
  generalize (s.tm.any fun x => x.2.ment id) = c1
  generalize (s.hp.any fun x => (x.2.map (Ia.ment id)).getD false) = c2
  generalize (s'.tm.any fun x => x.2.ment id) = d1
  generalize (s'.hp.any fun x => (x.2.map (Ia.ment id)).getD false) = d2
  generalize yb id 500000 = z
  cases b1 <;> cases b2 <;> cases c1 <;> cases c2 <;> cases d1 <;> cases d2 <;> cases z <;> simp
theorem Dj.refine {s : AS} {t : Nat} {β : Bool} (hd : Jb s.tm t = some (.t .b β)) : Dj s ⟨s.n, (t, .t .b β) :: s.tm, s.hp⟩ := by
 refine ⟨⟨rfl, fun t' => ?_, fun _ => rfl⟩, fun id => ?_⟩
 ·rw [Tc]
  split
  ·rename_i e; subst e; exact hd.symm
  ·rfl
 ·simp [AS.newOk, AS.ment, D.ment]
theorem B3 {s s' : AS} (h : ∀ j, s'.heap j = s.heap j) (d : D) : AH s d = AH s' d := by
 cases d with
 | ptr id p => simp only [AH, h id]
 | _ => rfl
def Man (s : AS) (u : List (Nat × Option Ia)) : Prop := u = [] ∨ ∃ id b tl, u = (id, some b) :: tl ∧ (s.heap id).map Ia.kind = some b.kind
theorem MZ {s : AS} {dst : Option Tmp} {τ : Ty} {id i : Nat} {e : Ty} {xs : List (T e)} {k : Nat} {ef : Ef} (hs : (s.heap id).map Ia.kind = some (none, some (e, ja xs)))
 (h : Ku s dst τ id i e xs k (fun d u => some (d, u)) = some ef) : Man s ef.2 := by
 unfold Ku at h
 split at h
 ·cases hb : qw i k with
  | false => rw [hb] at h; simp at h
  | true =>
   rw [hb] at h
   simp only [ze, qe] at h
   obtain ⟨x, hx, h⟩ := h
   simp only [Ja, jc] at h
   obtain ⟨_, rfl⟩ := h
   exact .inr ⟨id, _, _, rfl, hs⟩
 ·simp at h
theorem Lac {α : Type} {c : Bool} {a b : Option α} {x : α} (h : (bif c then a else b) = some x) : a = some x ∨ b = some x := by cases c <;> simp_all
theorem Xaq {G : Ue} {s : AS} {o : Oper} {ef : Ef} (hk : DQ o.op = true) (h : Sb G s o (fun d u => some (d, u)) = some ef) : Man s ef.2 := by
 cases ho : o.op with
 | load t x =>
  simp only [Sb, ho] at h
  split at h
  ·split at h
   ·split at h
    ·split at h
     ·simp only [jc] at h; rw [← h]; exact .inl rfl
     ·simp at h
    ·simp at h
   ·simp at h
  ·split at h
   ·simp only [jc] at h; rw [← h]; exact .inl rfl
   ·simp at h
  ·rename_i τ id i path _ _
   cases hml : PH G o.dst with
   | true =>
    rw [hml] at h
    simp only [ze] at h
    split at h
    ·rename_i hb hz; exact MZ (by rw [hb]; rfl) h
    ·rename_i hb hz; exact MZ (by rw [hb]; rfl) h
    ·simp at h
   | false =>
    rw [hml] at h
    simp only [zf] at h
    split at h
    ·rename_i e dp xs hb
     simp only [qe] at h
     obtain ⟨x, hx, h⟩ := h
     split at h
     ·split at h
      ·rcases Lac h with h | h
       ·simp only [jc] at h; rw [← h]; exact .inl rfl
       ·split at h
        ·simp only [Ja, jc] at h
         obtain ⟨_, rfl⟩ := h
         exact .inr ⟨id, _, _, rfl, by rw [hb]; rfl⟩
        ·simp at h
      ·simp at h
     ·simp at h
    ·simp at h
  ·simp at h
 | store t x v =>
  simp only [Sb, ho] at h
  split at h
  ·rename_i τ id path dv _ _ _
   split at h
   ·rename_i ρ d hb
    split at h
    ·split at h
     ·simp only [Ja, jc] at h
      obtain ⟨_, rfl⟩ := h
      exact .inr ⟨id, _, _, rfl, by rw [hb]; rfl⟩
     ·simp at h
    ·simp at h
   ·simp at h
  ·rename_i τ id i path dv _ _ _
   split at h
   ·rename_i e dp xs hb
    split at h
    ·split at h
     ·cases hc : (dp || e.flat) with
      | true =>
       rw [hc] at h
       simp only [ze] at h
       split at h
       ·simp only [Ja, qe] at h
        obtain ⟨_, x, hx, h⟩ := h
        split at h
        ·simp only [jc] at h; rw [← h]
         exact .inr ⟨id, _, _, rfl, by rw [hb]; simp [Ia.kind]⟩
        ·simp at h
       ·simp at h
      | false =>
       rw [hc] at h
       simp only [zf] at h
       split at h
       ·simp only [qe] at h
        obtain ⟨x, hx, h⟩ := h
        split at h
        ·simp only [jc] at h; rw [← h]
         exact .inr ⟨id, _, _, rfl, by rw [hb]; simp [Ia.kind]⟩
        ·simp at h
       ·simp at h
     ·simp at h
    ·simp at h
   ·rename_i e xs i0 x path0 τ0 d0 hb
    split at h
    ·split at h
     ·split at h
      ·simp only [Ja] at h
       obtain ⟨_, _, h⟩ := h
       split at h
       ·simp only [jc] at h; rw [← h]
        exact .inr ⟨id, _, _, rfl, by rw [hb]; simp [Ia.kind]⟩
       ·simp at h
      ·simp at h
     ·simp at h
    ·simp at h
   ·simp at h
  ·simp at h
 | _ => rw [ho] at hk; simp [DQ] at hk
theorem YW {G : Ue} {s : AS} {o : Oper} {ef : Ef} {H : List Nat} (h : VQ G s o ef) (hb : AV H o.op ef.2 = true) : MN H s ef := by
 intro id hid hm
 unfold AV at hb
 split at hb
 ·simp at hid
 ·cases hk : DQ o.op with
  | false =>
   rw [hk] at hb
   simp only [zf, yj] at hb
   exact absurd hm (Bz hb id hid)
  | true =>
   rw [hk] at hb
   simp only [ze, yj] at hb
   have hkp := Xaq hk (h _ fun d u => some (d, u))
   rcases hkp with h0 | ⟨id0, b, tl, h0, h1⟩
   ·rw [h0] at hm; simp at hm
   ·rw [h0] at hm hb ⊢
    rcases jp.1 hm with e | hm
    ·subst e
     simp only [Tc, if_true, Option.join_some, qb]
     exact h1.symm
    ·exact absurd hm (Bz hb id hid)
theorem QV {H : List Nat} {x : Nat} : ∀ {l : List Nat}, x ∈ l → x ∈ UO H l ∨ x ∈ H
 | y :: l, h => by
  simp only [UO]
  rcases jp.1 h with e | h
  ·subst e
   cases hm : Ly H x with
   | true => exact .inr (HM.1 hm)
   | false => exact .inl (by simp)
  ·refine (QV h).imp (fun h => ?_) id
   cases Ly H y with
   | true => exact h
   | false => exact jr _ h
theorem EZ {s : AS} {c : Bool} : ∀ {l : List Operand} {x : Operand} {d : D} {id : Nat}, x ∈ l → s.ev x = some d → (d.ment id = true ∨ (c = true ∧ id ∈ AH s d)) → id ∈ SI s c l
 | [], _, _, _, h, _, _ => by simp at h
 | y :: l, x, d, id, h, hd, hm => by
  rcases jp.1 h with e | h
  ·subst e
   simp only [SI, hd]
   refine qu _ (jl.2 ?_)
   refine hm.imp JH.1 ?_
   rintro ⟨rfl, h⟩
   exact h
  ·have ih := EZ h hd hm
   simp only [SI]
   split
   ·exact qv _ ih
   ·exact ih
section
variable {P : Program} {n0 : Nat} {A : Fx} {O0 : Nat → Prop} {w0 : World} {G : Ue} {ops : Array Oper} {s0 : AS} {E : Nat → Ef} {F : Nat → FP} {anc : Nat → List Nat} {H : List Nat} {Q : Exit → Act → World → Prop}
variable {Out : Type} {k : AS → Option Out} {out : Out}
theorem PM.congr {E' : Nat → Ef} {F' : Nat → FP} {anc' : Nat → List Nat} {m : Nat} {o : Oper} (h : PM G H ops s0 E F anc m o) (hE : ∀ j, j ≤ m → E j = E' j ∧ F j = F' j ∧ anc j = anc' j) : PM G H ops s0 E' F' anc' m o := by
 have hst : Zd ops E (fun _ => true) s0 m = Zd ops E' (fun _ => true) s0 m := Kx m fun j hj => ⟨(hE j (by omega)).1, rfl⟩
 obtain ⟨e1, e2, e3⟩ := hE m (jo _)
 refine ⟨by rw [← hst, ← e1]; exact h.step, by rw [← hst, ← e1, ← e2]; exact h.fp, h.dst, h.back, ?_, ?_, by rw [← hst, ← e1]; exact h.hard⟩
 ·intro x hx
  rw [← e3] at hx
  obtain ⟨e, he, hb, hxe⟩ := h.up x hx
  refine ⟨e, he, hb, hxe.imp id fun hxe => ?_⟩
  rw [← (hE e.on (Nat.le_of_lt (h.back e he hb))).2.2]
  exact hxe
 ·intro j hj
  rw [← e3, ← e2, ← (hE j (by omega)).2.1]
  exact h.ind j hj
theorem MU : ∀ {r l : List Nat} {x : Nat}, x ∈ LU r l → x ∈ r ∨ x ∈ l
 | [], _, _, h => .inr h
 | y :: r, l, x, h => by
  simp only [LU] at h
  rcases MU h with h | h
  ·exact .inl (jr _ h)
  ·cases hm : Ly l y with
   | true => rw [hm] at h; exact .inr h
   | false =>
    rw [hm] at h
    rcases jp.1 h with h | h
    ·exact .inl (by rw [h]; simp)
    ·exact .inr h
theorem ON {prev : List (Nat × (List Nat × FP))} : ∀ {es : List Edge} {l : List Nat} {x : Nat}, x ∈ ZP prev es l → x ∈ l ∨ ∃ e, e ∈ es ∧ Region.binds .any e = true ∧ (x = e.on ∨ ∃ p, Jb prev e.on = some p ∧ x ∈ p.1)
 | [], l, x, h => .inl h
 | e :: es, l, x, h => by
  simp only [ZP] at h
  cases hb : Region.binds .any e with
  | false =>
   rw [hb] at h
   rcases ON h with h | ⟨e', he', hb', hx⟩
   ·exact .inl h
   ·exact .inr ⟨e', jr _ he', hb', hx⟩
  | true =>
   rw [hb] at h
   rcases ON h with h | ⟨e', he', hb', hx⟩
   ·rcases MU h with h | h
    ·refine .inr ⟨e, by simp, hb, ?_⟩
     rcases jp.1 h with h | h
     ·exact .inl h
     ·split at h
      ·rename_i a f hp; exact .inr ⟨_, hp, h⟩
      ·simp at h
    ·exact .inl h
   ·exact .inr ⟨e', jr _ he', hb', hx⟩
theorem Kaa : ∀ (l : List Oper) (i : Nat) (prev : List (Nat × (List Nat × FP))) (s : AS) (E : Nat → Ef) (F : Nat → FP) (anc : Nat → List Nat), ops.toList.drop i = l → WA G H ops l i prev s k = some out →
 Dj (Zd ops E (fun _ => true) s0 i) s → (∀ j, j < i → Jb prev j = some (anc j, F j)) → (∀ m o, m < i → ops[m]? = some o → PM G H ops s0 E F anc m o) →
 ∃ E F anc, (∀ m o, ops[m]? = some o → PM G H ops s0 E F anc m o) ∧ ∃ sf, k sf = some out ∧ Eqv (Zd ops E (fun _ => true) s0 ops.size) sf
 | [], i, prev, s, E, F, anc, hl, he, hs, hprev, hPM => by
  have hi : ops.size ≤ i := by
   have := congrArg ja hl
   simp at this
   omega
  have hst : Zd ops E (fun _ => true) s0 i = Zd ops E (fun _ => true) s0 ops.size := by
   clear hs he hl hprev hPM
   induction i with
   | zero =>
    have : ops.size = 0 := by omega
    rw [this]
   | succ i ih =>
    by_cases h : ops.size = i + 1
    ·rw [h]
    ·rw [← ih (by omega)]
     have : ops[i]? = none := Array.getElem?_eq_none (by omega)
     simp only [Zd, this]
  refine ⟨E, F, anc, fun m o ho => hPM m o ?_ ho, s, he, by rw [← hst]; exact hs.toEqv⟩
  have := (Array.getElem?_eq_some_iff.1 ho).1
  omega
 | o :: l, i, prev, s, E, F, anc, hl, he, hs, hprev, hPM => by
  have hi : i < ops.size := by
   have := congrArg ja hl
   simp at this
   omega
  have hoi : ops[i]? = some o := by
   have h1 := congrArg (·[0]?) hl
   simpa using h1
  have hl' : ops.toList.drop (i + 1) = l := by
   have h1 := congrArg (List.drop 1) hl
   simpa [qq, Nat.add_comm] using h1
  have next : ∀ (an : List Nat) (f : FP) (e : Ef) (sx : AS), an = ZP prev o.after.toList [] → (∀ e, e ∈ o.after.toList → Region.binds .any e = true → e.on < i) → LE an f prev = true → Dj s sx →
   NL G ops (Zd ops E (fun _ => true) s0 i) o e → Zai H ops (Zd ops E (fun _ => true) s0 i) o e f → MN H (Zd ops E (fun _ => true) s0 i) e → Zg sx o.dst e.1 e.2 (fun s' => WA G H ops l (i + 1) ((i, (an, f)) :: prev) s' k) = some out →
   ∃ E F anc, (∀ m o, ops[m]? = some o → PM G H ops s0 E F anc m o) ∧ ∃ sf, k sf = some out ∧ Eqv (Zd ops E (fun _ => true) s0 ops.size) sf := by
   intro an f e sx han hback hok hsx hstep hfp hhard hfin
   have hdst : ∀ t, o.dst = some t → t < sx.n := by
    intro t ht
    unfold Zg at hfin
    rw [ht] at hfin
    simp only at hfin
    cases hb : yb t sx.n with
    | true => rwa [ye] at hb
    | false => rw [hb] at hfin; simp at hfin
   rw [JS hdst] at hfin
   have hn : sx.n = s0.n := by rw [hsx.n, hs.n, GW]
   have hEi : ∀ j, j < i → E j = (fun j => if j = i then e else E j) j ∧ F j = (fun j => if j = i then f else F j) j ∧ anc j = (fun j => if j = i then an else anc j) j := by
    intro j hj
    have : j ≠ i := by omega
    simp [this]
   have hst : Zd ops E (fun _ => true) s0 i = Zd ops (fun j => if j = i then e else E j) (fun _ => true) s0 i := Kx i fun j hj => ⟨(hEi j hj).1, rfl⟩
   refine Kaa l (i + 1) _ _ (fun j => if j = i then e else E j) (fun j => if j = i then f else F j) (fun j => if j = i then an else anc j) hl' hfin ?_ ?_ ?_
   ·have : Zd ops (fun j => if j = i then e else E j) (fun _ => true) s0 (i + 1) = putE (Zd ops E (fun _ => true) s0 i) o.dst e := by
     rw [hst]
     simp only [Zd, hoi, ze, if_true]
    rw [this]
    exact (hs.trans hsx).putE _ _
   ·intro j hj
    rw [Tc]
    by_cases hji : i = j
    ·subst hji; simp
    ·have hne : j ≠ i := fun e => hji e.symm
     rw [if_neg hji, hprev j (by omega)]
     simp [hne]
   ·intro m om hm hom
    by_cases hmi : m = i
    ·subst hmi
     rw [hoi] at hom
     simp only [jc] at hom
     subst hom
     refine ⟨?_, ?_, fun t ht => by rw [← hn]; exact hdst t ht, hback, ?_, ?_, by rw [← hst]; simpa using hhard⟩
     ·rw [← hst]; simpa using hstep
     ·rw [← hst]; simpa using hfp
     ·intro x hx
      simp only [if_true] at hx
      rw [han] at hx
      rcases ON hx with hx | ⟨e', he', hb', hx⟩
      ·simp at hx
      ·have hlt := hback e' he' hb'
       refine ⟨e', he', hb', hx.imp id ?_⟩
       rintro ⟨p, hp, hxp⟩
       rw [hprev _ hlt] at hp
       simp only [jc] at hp
       subst hp
       have : e'.on ≠ m := by omega
       simpa [this] using hxp
     ·intro j hj
      have hok' := hok
      unfold LE at hok'
      rw [yv] at hok'
      have hmem := Ew (hprev j hj)
      have h1 := hok' _ hmem
      simp only [qx] at h1
      have hjm : j ≠ m := by omega
      simp only [if_true, hjm, if_false]
      exact h1.imp HM.1 id
    ·exact (hPM m om (by omega) hom).congr fun j hj => hEi j (by omega)
  have hfpOk : ∀ (g : List Nat) (e : Ef), (∀ j want t, o.guard = some (j, want) → (ops[j]?).bind (·.dst) = some t → t ∈ g) → Zai H ops (Zd ops E (fun _ => true) s0 i) o e (XW H s o g e.1 e.2) := by
   intro g e hg
   refine ⟨rfl, rfl, rfl, fun t ht => qv _ ht, fun j want t hgu ht => qu _ (hg j want t hgu ht), fun hmv x hx d hd id hm => ?_⟩
   have hmem : id ∈ SI s (UC o.op) (Ed o.op) := by
    refine EZ hx ?_ (hm.imp (fun h => h) fun h => ⟨h.1, (B3 (fun j => hs.hp j) d) ▸ h.2⟩)
    rw [← hd]
    exact VW hx fun t _ => hs.tm t
   show id ∈ (bif QA o.op then [] else bif Eh o.op then _ else _) ∨ _
   rw [hmv]
   cases hsp : Eh o.op with
   | false => exact .inl hmem
   | true => exact (QV hmem).imp (fun h => h) fun h => ⟨rfl, h⟩
  simp only [WA] at he
  cases hbk : Eac i o.after.toList with
  | false => rw [hbk] at he; simp at he
  | true =>
   rw [hbk] at he
   simp only [ze] at he
   have hback : ∀ e, e ∈ o.after.toList → Region.binds .any e = true → e.on < i := by
    intro e hem hbe
    unfold Eac at hbk
    rw [yv] at hbk
    have := hbk e hem
    rw [hbe] at this
    simp only [jg, yr] at this
    rwa [ye] at this
   have hEff : ∀ (sx : AS) (K : D → List (Nat × Option Ia) → Option Out), Dj s sx → Sb G sx o K = some out → ∃ e : Ef, K e.1 e.2 = some out ∧ VQ G (Zd ops E (fun _ => true) s0 i) o e := by
    intro sx K hsx hK
    obtain ⟨d, u, h1, h2⟩ := Daj hK
    refine ⟨(d, u), h1, ?_⟩
    have : VQ G sx o (d, u) := h2
    exact this.congr ((hs.trans hsx).symm.agr o)
   cases hg : o.guard with
   | none =>
    rw [hg] at he
    simp only at he
    obtain ⟨e, h1, h2⟩ := hEff s _ (Dj.refl s) he
    simp only [Ja, jd] at h1
    exact next _ _ e s rfl hback h1.1.1 (Dj.refl s) (by unfold NL; rw [hg]; exact h2) (hfpOk [] e (by intro j want t hgu; rw [hg] at hgu; simp at hgu)) (YW h2 h1.1.2) h1.2
   | some g =>
    obtain ⟨j, want⟩ := g
    rw [hg] at he
    simp only at he
    split at he
    ·rename_i t ht
     have hgt : ∀ j' want' t', o.guard = some (j', want') → (ops[j']?).bind (·.dst) = some t' → t' ∈ [t] := by
      intro j' want' t' hgu ht'
      rw [hg] at hgu
      simp only [jc, jh] at hgu
      obtain ⟨rfl, rfl⟩ := hgu
      rw [ht] at ht'
      simp only [jc] at ht'
      rw [ht']; simp
     split at he
     ·rename_i β hd
      have hdst : Jb (Zd ops E (fun _ => true) s0 i).tm t = some (.t .b β) := by rw [← hs.tm]; exact hd
      have goal1 : ∀ e : Ef, (if β = want then VQ G (Zd ops E (fun _ => true) s0 i) o e else e = (.und, [])) → NL G ops (Zd ops E (fun _ => true) s0 i) o e := by
       intro e h
       unfold NL
       rw [hg]
       exact ⟨t, ht, .inl ⟨β, hdst, h⟩⟩
      cases hβ : (show Bool from β) with
      | true =>
       have hβ' : β = true := hβ
       subst hβ'
       simp only [ze] at he
       cases want with
       | true =>
        simp only [ze] at he
        obtain ⟨e, h1, h2⟩ := hEff _ _ (Dj.refine hd) he
        simp only [Ja, jd] at h1
        exact next _ _ e _ rfl hback h1.1.1 (Dj.refine hd) (goal1 e (by rw [if_pos rfl]; exact h2)) (hfpOk [t] e hgt) (YW h2 h1.1.2) h1.2
       | false =>
        simp only [zf, Ja] at he
        exact next _ _ (.und, []) _ rfl hback he.1 (Dj.refine hd) (goal1 _ (by rw [if_neg (by simp)])) (hfpOk [t] (.und, []) hgt) (by intro id _ hm; simp at hm) he.2
      | false =>
       have hβ' : β = false := hβ
       subst hβ'
       simp only [zf] at he
       cases want with
       | true =>
        simp only [ze, Ja] at he
        exact next _ _ (.und, []) _ rfl hback he.1 (Dj.refine hd) (goal1 _ (by rw [if_neg (by simp)])) (hfpOk [t] (.und, []) hgt) (by intro id _ hm; simp at hm) he.2
       | false =>
        simp only [zf] at he
        obtain ⟨e, h1, h2⟩ := hEff _ _ (Dj.refine hd) he
        simp only [Ja, jd] at h1
        exact next _ _ e _ rfl hback h1.1.1 (Dj.refine hd) (goal1 e (by rw [if_pos rfl]; exact h2)) (hfpOk [t] e hgt) (YW h2 h1.1.2) h1.2
     ·rename_i hd
      simp only [Ja] at he
      refine next _ _ (.und, []) s rfl hback he.1 (Dj.refl s) ?_ (hfpOk [t] (.und, []) hgt) (by intro id _ hm; simp at hm) he.2
      unfold NL
      rw [hg]
      exact ⟨t, ht, .inr ⟨by rw [← hs.tm]; exact hd, rfl⟩⟩
     ·simp at he
    ·simp at he
theorem L9 {n j : Nat} : Ju (Array.replicate n false) j = false := by
 unfold Ju
 rw [Array.getD_eq_getD_getElem?, Array.getElem?_replicate]
 split <;> rfl
theorem Mah (hG : Cj P A.I G) (hfz : QJ G A O0) (hm : P.follows .mixedOrders = true) {id : Nat} {H : List Nat} {draw : Bool} {s : AS} {σ : Nat → Value} {φ : Nat → List Nat} {a : Act} {w : World} (h : Qa n0 A O0 w0 s σ φ a w)
 (he : (bif draw then WA G H ops ops.toList 0 [] s k else JC G id ops ops.toList 0 s k) = some out) (hQ : ∀ a w, Ve n0 A O0 w0 k out a w → Q .normal a w) : (Code.region id ops draw).wp P Q a w := by
 cases draw with
 | false =>
  simp only [zf] at he
  refine wp_region ?_
  have := D7 (P := P) (Q := Q) hG hfz (fun s σ φ a w h1 h2 => hQ a w ⟨s, σ, φ, h1, h2⟩) ops.toList 0 s σ φ a w (by simp) he h
  simpa using this
 | true =>
  simp only [ze] at he
  obtain ⟨E, F, anc, hPM, sf, h1, h2⟩ := Kaa (s0 := s) ops.toList 0 [] s (fun _ => (.und, [])) (fun _ => ⟨[], [], none, [], []⟩) (fun _ => []) (by simp) he (Dj.refl s) (by intro j hj; omega) (by intro m o hm; omega)
  refine wp_region_any hm ?_
  refine Tak hG hfz hPM (fun σ φ a w hc => hQ a w ⟨sf, σ, φ, h1, hc.eqv h2⟩) ops.size (Array.replicate ops.size false) σ φ a _ (by simp) ?_ ?_ ?_
  ·have := List.countP_le_length (p := fun j => !(Array.replicate ops.size false).getD j true) (l := yy ops.size)
   simpa using this
  ·intro j o ho hL
   rw [L9] at hL
   simp at hL
  ·have : Zd ops E (Ju (Array.replicate ops.size false)) s ops.size = s := by
    rw [UT (i := 0) ops.size (Nat.zero_le _) fun j _ _ => L9]
    rfl
   rw [this]
   exact h.drew
end
theorem Zaf {s : AS} : ∀ {td : TD} {d : D} {x : T td.ty} {m : Ak}, Td s td d = some (x, m) → (Au td x).isAgg = d.isAgg := by
 intro td
 cases td with
 | data τ =>
  intro d x m h
  simp only [Td] at h
  split at h
  ·rename_i y hy
   simp only [jc, jh] at h
   obtain ⟨rfl, _⟩ := h
   have hs := (Wg (w := default) (σ := fun _ => undef) (O := fun _ => False) (hp := fun _ => none) hy).1
   rw [hs.isAgg]
   cases τ <;> rfl
  ·simp at h
 | own id e dp =>
  intro d x m h
  cases d <;> simp [Td] at h <;> rfl
 | ptr id p =>
  intro d x m h
  cases d <;> simp [Td] at h <;> rfl
 | hol id e p τ td =>
  intro d x m h
  cases d <;> simp [Td] at h <;> rfl
 | arr id e =>
  intro d x m h
  cases d <;> first | rfl | (simp [Td] at h; done)
 | mov id e =>
  intro d x m h
  cases d <;> simp [Td] at h <;> rfl
 | mpo id k v =>
  intro d x m h
  cases d <;> simp [Td] at h <;> rfl
 | mqo id kk e =>
  intro d x m h
  cases d <;> simp [Td] at h <;> rfl
 | pr a b =>
  intro d x m h
  simp only [Td] at h
  cases d with
  | t τ v => cases τ <;> simp [D.fst] at h <;> rfl
  | pr u v => rfl
  | _ => simp [D.fst] at h
 | un =>
  intro d x m h
  simp only [Td] at h
  split at h
  ·rename_i y hy
   have hs := (Wg (w := default) (σ := fun _ => undef) (O := fun _ => False) (hp := fun _ => none) hy).1
   rw [hs.isAgg]
   rfl
  ·simp at h
def EN (m m' : Ak) : Prop := ∀ p, p ∈ m → p ∈ m'
section
variable {w : World} {s : AS} {σ σ' : Nat → Value} {O O' : Nat → Prop} {hp' : Nat → Option Ia} {m : Ak}
structure TOk (s : AS) (σ σ' : Nat → Value) (hp' : Nat → Option Ia) (m : Ak) : Prop where
 isS : ∀ j i, (j, some i) ∈ m → σ' j = σ i
 isN : ∀ j, (j, none) ∈ m → σ' j = .slice none 0 0
 isB : ∀ j i ρ d, (j, some i) ∈ m → hp' j = some (.box ρ d) → ∃ d', s.heap i = some (.box ρ d')
 isR : ∀ j i Da r, (j, some i) ∈ m → hp' j = some Da → Da.rowN = some r → ∃ blk', s.heap i = some blk' ∧ blk'.rowN = some r
theorem BQ (hT : TOk s σ σ' hp' m) (hO : ∀ b, b < w.heap.size → ¬ O b → ¬ O' b) : ∀ {td : TD} {d : D} {x : T td.ty} {m0 : Ak} {cs : List Value}, Td s td d = some (x, m0) → EN m0 m → Ab w O s.heap σ d cs →
 Ab w O' hp' σ' (Au td x) cs := by
 intro td
 induction td with
 | data τ =>
  intro d x m0 cs h hm hr
  simp only [Td] at h
  split at h
  ·rename_i y hy
   simp only [jc, jh] at h
   obtain ⟨rfl, _⟩ := h
   exact La.stable (fun _ _ _ => rfl) hO ((Wg hy).2 _ hr)
  ·simp at h
 | own id' e dp =>
  intro d x m0 cs h hm hr
  cases d with
  | own id =>
   simp only [Td] at h
   split at h
   ·rename_i e' dp' xs hb
    split at h
    ·rename_i q hq
     subst q
     simp only [Ja] at h
     obtain ⟨_, h⟩ := h
     simp only [jc, jh] at h
     obtain ⟨rfl, rfl⟩ := h
     obtain ⟨v, hcs, h1, hv⟩ := hr
     refine ⟨v, hcs, h1, fun _ _ _ _ => ?_⟩
     rw [hT.isS id' id (hm _ (by simp))]
     exact hv _ _ hb rfl
    ·simp at h
   ·simp at h
  | nil =>
   simp only [Td, jc, jh] at h
   obtain ⟨rfl, rfl⟩ := h
   simp only [Ab] at hr
   exact ⟨_, hr, rfl, fun _ _ _ _ => (hT.isN id' (hm _ (by simp))).symm⟩
  | _ => simp [Td] at h
 | mpo id' k v =>
  intro d x m0 cs h hm hr
  cases d with
  | mpo id =>
   simp only [Td] at h
   split at h
   ·rename_i k' v' xs hb
    split at h
    ·rename_i q1 q2 hq1 hq2
     subst q1
     subst q2
     simp only [jc, jh] at h
     obtain ⟨rfl, rfl⟩ := h
     obtain ⟨u, hcs, h1, hv⟩ := hr
     refine ⟨u, hcs, h1, fun _ _ _ => ?_⟩
     rw [hT.isS id' id (hm _ (by simp))]
     exact hv _ hb rfl
    ·simp at h
   ·simp at h
  | _ => simp [Td] at h
 | mqo id' kk e =>
  intro d x m0 cs h hm hr
  cases d with
  | mpo id =>
   simp only [Td] at h
   split at h
   ·rename_i kk' e' xs hb
    split at h
    ·rename_i q hq
     simp only [jc, jh] at h
     obtain ⟨rfl, rfl⟩ := h
     obtain ⟨u, hcs, h1, hv⟩ := hr
     refine ⟨u, hcs, h1, fun _ _ _ => ?_⟩
     rw [hT.isS id' id (hm _ (by simp))]
     exact hv _ hb rfl
    ·simp at h
   ·simp at h
  | _ => simp [Td] at h
 | hol id' e p τ td _ =>
  intro d x m0 cs h hm hr
  cases d with
  | own id =>
   simp only [Td] at h
   split at h
   ·rename_i e' xs i x1 p' τ' d' hb
    split at h
    ·simp only [Ja] at h
     obtain ⟨_, h⟩ := h
     split at h
     ·rename_i y m1 h1
      simp only [Ja] at h
      obtain ⟨_, h⟩ := h
      simp only [jc, jh] at h
      obtain ⟨rfl, rfl⟩ := h
      obtain ⟨v, hcs, h1, hv⟩ := hr
      refine ⟨v, hcs, h1, fun _ _ _ _ => ?_⟩
      rw [hT.isS id' id (hm _ (by simp))]
      exact hv _ _ hb rfl
     ·simp at h
    ·simp at h
   ·simp at h
  | _ => simp [Td] at h
 | arr id' e =>
  intro d x m0 cs h hm hr
  cases d with
  | eptr id i q =>
   cases i with
   | succ i => simp [Td] at h
   | zero =>
    cases q with
    | cons _ _ => simp [Td] at h
    | nil =>
     simp only [Td] at h
     split at h
     ·rename_i e' xs hb
      split at h
      ·rename_i q hq
       subst q
       simp only [jc, jh] at h
       obtain ⟨rfl, rfl⟩ := h
       obtain ⟨v, hcs, h1, hv⟩ := hr
       refine ⟨v, hcs, h1, fun blk' e2 n2 hb' hr' => ?_⟩
       obtain ⟨blk0, hb0, hr0⟩ := hT.isR id' id blk' _ (hm _ (by simp)) hb' hr'
       rw [hT.isS id' id (hm _ (by simp))]
       exact hv _ _ _ hb0 hr0
      ·simp at h
     ·simp at h
  | _ => simp [Td] at h
 | mov id' e =>
  intro d x m0 cs h hm hr
  cases d with
  | own id =>
   simp only [Td] at h
   split at h
   ·rename_i e' xs hb
    split at h
    ·rename_i q hq
     subst q
     simp only [jc, jh] at h
     obtain ⟨rfl, rfl⟩ := h
     obtain ⟨v, hcs, h1, hv⟩ := hr
     refine ⟨v, hcs, h1, fun _ _ _ _ => ?_⟩
     rw [hT.isS id' id (hm _ (by simp))]
     exact hv _ _ hb rfl
    ·simp at h
   ·rename_i e' xs k hb
    split at h
    ·rename_i q hq
     subst q
     simp only [jc, jh] at h
     obtain ⟨rfl, rfl⟩ := h
     obtain ⟨v, hcs, h1, hv⟩ := hr
     refine ⟨v, hcs, h1, fun _ _ _ _ => ?_⟩
     rw [hT.isS id' id (hm _ (by simp))]
     exact hv _ _ hb rfl
    ·simp at h
   ·simp at h
  | _ => simp [Td] at h
 | ptr id' p =>
  intro d x m0 cs h hm hr
  cases d with
  | ptr id q =>
   simp only [Td, Ja] at h
   obtain ⟨hpq, h⟩ := h
   simp only [jc, jh] at h
   obtain ⟨_, rfl⟩ := h
   have hpq' : p = q := by simpa using hpq
   subst hpq'
   obtain ⟨v, hcs, h1, hv⟩ := hr
   refine ⟨v, hcs, h1, fun ρ d hb => ?_⟩
   obtain ⟨d', hd'⟩ := hT.isB id' id ρ d (hm _ (by simp)) hb
   rw [hT.isS id' id (hm _ (by simp))]
   exact hv ρ d' hd'
  | _ => simp [Td] at h
 | pr a b iha ihb =>
  intro d x m0 cs h hm hr
  simp only [Td] at h
  split at h
  ·rename_i d1 d2 h1 h2
   split at h
   ·rename_i u l v l' h3 h4
    simp only [jc, jh] at h
    obtain ⟨rfl, rfl⟩ := h
    have key : ∃ c1 c2, cs = c1 ++ c2 ∧ Ab w O s.heap σ d1 c1 ∧ Ab w O s.heap σ d2 c2 := by
     cases d with
     | t τ v =>
      cases τ with
      | p t1 t2 =>
       simp only [D.fst, D.snd, jc] at h1 h2
       subst h1; subst h2
       exact hr
      | _ => simp [D.fst] at h1
     | pr d1' d2' =>
      simp only [D.fst, D.snd, jc] at h1 h2
      subst h1; subst h2
      exact hr
     | _ => simp [D.fst] at h1
    obtain ⟨c1, c2, hc, r1, r2⟩ := key
    exact ⟨c1, c2, hc, iha h3 (fun p hp => hm p (qu _ hp)) r1, ihb h4 (fun p hp => hm p (qv _ hp)) r2⟩
   ·simp at h
  ·simp at h
 | un =>
  intro d x m0 cs h hm hr
  simp only [Td] at h
  split at h
  ·rename_i y hy
   exact (Wg hy).2 _ hr
  ·simp at h
theorem Oaj (hT : TOk s σ σ' hp' m) (hO : ∀ b, b < w.heap.size → ¬ O b → ¬ O' b) {td : TD} {d : D} {x : T td.ty} {m0 : Ak} {v : Value} (h : Td s td d = some (x, m0)) (hm : EN m0 m) (hr : Zc w O s.heap σ d v) :
 Zc w O' hp' σ' (Au td x) v := by
 have hne : Se w O s.heap σ d v := by
  cases d with
  | und => cases td <;> simp [Td, Bj, D.fst] at h
  | anyv => cases td <;> simp [Td, Bj, D.fst] at h
  | tup ds => cases td <;> simp [Td, Bj, D.fst] at h
  | _ => exact hr
 refine Bx ?_
 unfold Se at hne ⊢
 rw [Zaf h]
 split
 ·rename_i ha
  rw [if_pos ha] at hne
  obtain ⟨cs, h1, h2⟩ := hne
  exact ⟨cs, h1, BQ hT hO h hm h2⟩
 ·rename_i ha
  rw [if_neg ha] at hne
  exact BQ hT hO h hm hne
def W0 (s : AS) (m : Ak) (j : Nat) (Da : Ia) : Prop :=
 ((j, none) ∈ m ∧ ∃ e dp, Da = .row e dp ([] : List (T e))) ∨
 ∃ i, (j, some i) ∈ m ∧ ((∃ e dp dp' xs, Da = .row e dp xs ∧ s.heap i = some (.row e dp' xs) ∧ (dp' = dp ∨ e.flat = true)) ∨
  (∃ ρ d td x m0, Da = .box ρ (Au td x) ∧ s.heap i = some (.box ρ d) ∧ Td s td d = some (x, m0) ∧ EN m0 m ∧ Bb ρ (Au td x)) ∨
  (∃ e xs k x p τ d td y m0, Da = .hol e xs k x p τ (Au td y) ∧ s.heap i = some (.hol e xs k x p τ d) ∧ Td s td d = some (y, m0) ∧ EN m0 m ∧ Bb τ (Au td y)) ∨
  (∃ e xs k, Da = .mov e xs k ∧ (s.heap i = some (.mov e xs k) ∨ (s.heap i = some (.row e true xs) ∧ k = 0))) ∨
  (∃ k v xs, Da = .mp k v xs ∧ s.heap i = some (.mp k v xs)) ∨
  ∃ kk e xs, Da = .mq kk e xs ∧ s.heap i = some (.mq kk e xs))
theorem LR : ∀ {td : TD} {d : D} {x : T td.ty} {m0 : Ak}, Td s td d = some (x, m0) → EN m0 m → ∀ p, p ∈ Wv td x → ∃ Da, p.2 = some Da ∧ W0 s m p.1 Da := by
 intro td
 induction td with
 | own id' e dp =>
  intro d x m0 h hm p hp
  simp only [Wv, qc] at hp
  subst hp
  cases d with
  | own id =>
   simp only [Td] at h
   split at h
   ·rename_i e' dp' xs hb
    split at h
    ·rename_i q hq
     subst q
     simp only [Ja] at h
     obtain ⟨hc, h⟩ := h
     simp only [jc, jh] at h
     obtain ⟨rfl, rfl⟩ := h
     refine ⟨_, rfl, .inr ⟨id, hm _ (by simp), .inl ⟨_, dp, dp', _, rfl, hb, ?_⟩⟩⟩
     simpa using hc
    ·simp at h
   ·simp at h
  | nil =>
   simp only [Td, jc, jh] at h
   obtain ⟨rfl, rfl⟩ := h
   exact ⟨_, rfl, .inl ⟨hm _ (by simp), e, dp, rfl⟩⟩
  | _ => simp [Td] at h
 | hol id' e pth τ td ih =>
  intro d x m0 h hm p hp
  cases d with
  | own id =>
   simp only [Td] at h
   split at h
   ·rename_i e' xs i x1 p' τ' d' hb
    split at h
    ·rename_i q1 q2 hq1 hq2
     subst q1
     obtain rfl := Ud hq2
     simp only [Ja] at h
     obtain ⟨hpp, h⟩ := h
     have hpp : pth = p' := by simpa using hpp
     subst hpp
     split at h
     ·rename_i y m1 h1
      simp only [Ja] at h
      obtain ⟨hsh, h⟩ := h
      simp only [jc, jh] at h
      obtain ⟨rfl, rfl⟩ := h
      simp only [Wv] at hp
      rcases jp.1 hp with rfl | hp
      ·exact ⟨_, rfl, .inr ⟨id, hm _ (by simp), .inr (.inr (.inl ⟨_, _, i, _, _, _, d', td, y, m1, by simp only [jn], hb, h1, fun p hp => hm p (jr _ hp), Xm hsh⟩))⟩⟩
      ·exact ih h1 (fun p hp => hm p (jr _ hp)) p hp
     ·simp at h
    ·simp at h
   ·simp at h
  | _ => simp [Td] at h
 | pr a b iha ihb =>
  intro d x m0 h hm p hp
  simp only [Td] at h
  split at h
  ·split at h
   ·rename_i u l v l' h3 h4
    simp only [jc, jh] at h
    obtain ⟨rfl, rfl⟩ := h
    simp only [Wv] at hp
    rcases jl.1 hp with hp | hp
    ·exact iha h3 (fun p hp => hm p (qu _ hp)) p hp
    ·exact ihb h4 (fun p hp => hm p (qv _ hp)) p hp
   ·simp at h
  ·simp at h
 | arr id' e =>
  intro d x m0 h hm p hp
  simp only [Wv, qc] at hp
  subst hp
  cases d with
  | eptr id i q =>
   cases i with
   | succ i => simp [Td] at h
   | zero =>
    cases q with
    | cons _ _ => simp [Td] at h
    | nil =>
     simp only [Td] at h
     split at h
     ·rename_i e' xs hb
      split at h
      ·rename_i q hq
       subst q
       simp only [jc, jh] at h
       obtain ⟨rfl, rfl⟩ := h
       exact ⟨_, rfl, .inr ⟨id, hm _ (by simp), .inl ⟨_, true, true, _, rfl, hb, .inl rfl⟩⟩⟩
      ·simp at h
     ·simp at h
  | _ => simp [Td] at h
 | mpo id' k v =>
  intro d x m0 h hm p hp
  simp only [Wv, qc] at hp
  subst hp
  cases d with
  | mpo id =>
   simp only [Td] at h
   split at h
   ·rename_i k' v' xs hb
    split at h
    ·rename_i q1 q2 hq1 hq2
     subst q1
     subst q2
     simp only [jc, jh] at h
     obtain ⟨rfl, rfl⟩ := h
     exact ⟨_, rfl, .inr ⟨id, hm _ (by simp), .inr (.inr (.inr (.inr (.inl ⟨_, _, _, rfl, hb⟩))))⟩⟩
    ·simp at h
   ·simp at h
  | _ => simp [Td] at h
 | mqo id' kk e =>
  intro d x m0 h hm p hp
  simp only [Wv, qc] at hp
  subst hp
  cases d with
  | mpo id =>
   simp only [Td] at h
   split at h
   ·rename_i kk' e' xs hb
    split at h
    ·rename_i q hq
     have q2 := q
     simp only [Ty.mp.injEq, Ty.i.injEq, Ty.sl.injEq] at q2
     obtain ⟨rfl, rfl⟩ := q2
     simp only [jc, jh] at h
     obtain ⟨rfl, rfl⟩ := h
     exact ⟨_, rfl, .inr ⟨id, hm _ (by simp), .inr (.inr (.inr (.inr (.inr ⟨_, _, _, rfl, hb⟩))))⟩⟩
    ·simp at h
   ·simp at h
  | _ => simp [Td] at h
 | mov id' e =>
  intro d x m0 h hm p hp
  simp only [Wv, qc] at hp
  subst hp
  cases d with
  | own id =>
   simp only [Td] at h
   split at h
   ·rename_i e' xs hb
    split at h
    ·rename_i q hq
     subst q
     simp only [jc, jh] at h
     obtain ⟨rfl, rfl⟩ := h
     exact ⟨_, rfl, .inr ⟨id, hm _ (by simp), .inr (.inr (.inr (.inl ⟨_, _, 0, rfl, .inr ⟨hb, rfl⟩⟩)))⟩⟩
    ·simp at h
   ·rename_i e' xs k hb
    split at h
    ·rename_i q hq
     subst q
     simp only [jc, jh] at h
     obtain ⟨rfl, rfl⟩ := h
     exact ⟨_, rfl, .inr ⟨id, hm _ (by simp), .inr (.inr (.inr (.inl ⟨_, _, k, by simp only [jn], .inl hb⟩)))⟩⟩
    ·simp at h
   ·simp at h
  | _ => simp [Td] at h
 | _ => intro d x m0 h hm p hp; simp [Wv] at hp
theorem O7 : ∀ {l : List (Tmp × TD)} {x : T (Ry.tyT l)} {m0 : Ak}, Uac s l = some (x, m0) → EN m0 m →
 (∀ t d', Jb (JV l x) t = some d' → ∃ td d y m1, Jb s.tm t = some d ∧ Td s td d = some (y, m1) ∧ EN m1 m ∧ d' = Au td y) ∧ (∀ p, p ∈ XV l x → ∃ Da, p.2 = some Da ∧ W0 s m p.1 Da)
 | [], x, m0, h, hm => ⟨by simp [JV, Jb], by simp [XV]⟩
 | (t0, td) :: r, x, m0, h, hm => by
  simp only [Uac] at h
  split at h
  ·rename_i d hd
   split at h
   ·rename_i y m1 z m2 h1 h2
    simp only [jc, jh] at h
    obtain ⟨rfl, rfl⟩ := h
    have hm1 : EN m1 m := fun p hp => hm p (qu _ hp)
    obtain ⟨i1, i2⟩ := O7 h2 (fun p hp => hm p (qv _ hp))
    refine ⟨fun t d' ht => ?_, fun p hp => ?_⟩
    ·simp only [JV] at ht
     rw [Tc] at ht
     split at ht
     ·rename_i e
      subst e
      simp only [jc] at ht
      exact ⟨td, d, y, m1, hd, h1, hm1, ht.symm⟩
     ·exact i1 t d' ht
    ·simp only [XV] at hp
     rcases jl.1 hp with hp | hp
     ·exact LR h1 hm1 p hp
     ·exact i2 p hp
   ·simp at h
  ·simp at h
theorem N7 : ∀ {l : List (Nat × Ty × TD)} {x : T (Ry.tyB l)} {m0 m' : Ak}, S3 s l m0 = some (x, m') → EN m' m →
 EN m0 m ∧ ∀ p, p ∈ IV l x → ∃ Da, p.2 = some Da ∧ W0 s m p.1 Da
 | [], x, m0, m', h, hm => by
  simp only [S3, jc, jh] at h
  obtain ⟨_, rfl⟩ := h
  exact ⟨hm, by simp [IV]⟩
 | (id', ρ, td) :: r, x, m0, m', h, hm => by
  simp only [S3] at h
  split at h
  ·rename_i id hid
   split at h
   ·rename_i ρ' d hb
    split at h
    ·rename_i q hq
     obtain rfl := q.down
     split at h
     ·rename_i y m1 h1
      simp only [Ja] at h
      obtain ⟨hsh, h⟩ := h
      split at h
      ·rename_i z m2 h2
       simp only [jc, jh] at h
       obtain ⟨rfl, rfl⟩ := h
       obtain ⟨i1, i2⟩ := N7 h2 hm
       have hm0 : EN m0 m := fun p hp => i1 p (qu _ hp)
       have hm1 : EN m1 m := fun p hp => i1 p (qv _ hp)
       refine ⟨hm0, fun p hp => ?_⟩
       simp only [IV] at hp
       rcases jp.1 hp with rfl | hp
       ·exact ⟨_, rfl, .inr ⟨id, hm0 _ (Ew hid), .inr (.inl ⟨_, d, td, y, m1, rfl, hb, h1, hm1, Xm hsh⟩)⟩⟩
       ·rcases jl.1 hp with hp | hp
        ·exact LR h1 hm1 p hp
        ·exact i2 p hp
      ·simp at h
     ·simp at h
    ·simp at h
   ·simp at h
  ·simp at h
end
theorem OM : ∀ {m : Ak}, MG m = true → ∀ j i, (j, some i) ∈ m → (j < 500000 ∧ i < 500000) ∨ j = i
 | [], _, _, _, h => by simp at h
 | (j0, some i0) :: r, hp, j, i, h => by
  simp only [MG, jd, qx] at hp
  rcases jp.1 h with e | h
  ·simp only [jh, jc] at e
   obtain ⟨rfl, rfl⟩ := e
   rcases hp.1 with h1 | h1
   ·rw [ye, ye] at h1; exact .inl h1
   ·exact .inr (ju h1)
  ·exact OM hp.2 j i h
 | (j0, none) :: r, hp, j, i, h => by
  simp only [MG, jd] at hp
  rcases jp.1 h with e | h
  ·simp at e
  ·exact OM hp.2 j i h
theorem NM : ∀ {m : Ak}, MG m = true → ∀ j, (j, none) ∈ m → j < 500000
 | [], _, _, h => by simp at h
 | (j0, some i0) :: r, hp, j, h => by
  simp only [MG, jd] at hp
  rcases jp.1 h with e | h
  ·simp at e
  ·exact NM hp.2 j h
 | (j0, none) :: r, hp, j, h => by
  simp only [MG, jd] at hp
  rcases jp.1 h with e | h
  ·simp only [jh, and_true] at e
   subst e
   have := hp.1
   rwa [ye] at this
  ·exact NM hp.2 j h
theorem Z9 {m : Ak} (h : (m.all fun x => m.all fun y => NE x y) = true) {x y : Nat × Option Nat} (hx : x ∈ m) (hy : y ∈ m) : NE x y = true :=
 yv.1 (yv.1 h x hx) y hy
theorem Uak {m : Ak} (h : (m.all fun x => m.all fun y => NE x y) = true) {j : Nat} {a c : Option Nat} (hx : (j, a) ∈ m) (hy : (j, c) ∈ m) : a = c := by
 have := Z9 h hx hy
 unfold NE at this
 cases a with
 | none => cases c with
  | none => rfl
  | some c => simp at this
 | some a => cases c with
  | none => simp at this
  | some c => simpa [Nat.beq_eq] using this
theorem Vak {m : Ak} (h : (m.all fun x => m.all fun y => NE x y) = true) {j j' i : Nat} (hx : (j, some i) ∈ m) (hy : (j', some i) ∈ m) : j = j' := by
 have := Z9 h hx hy
 unfold NE at this
 simpa using this
theorem LY {α : Type} {j : Nat} {a : α} : ∀ {m : List (Nat × α)}, (j, a) ∈ m → ∃ c, Jb m j = some c ∧ (j, c) ∈ m
 | [], h => by simp at h
 | (j0, a0) :: r, h => by
  rw [Tc]
  by_cases hj : j0 = j
  ·subst hj; exact ⟨a0, by simp, by simp⟩
  ·rw [if_neg hj]
   rcases jp.1 h with e | h
   ·simp only [jh] at e
    exact absurd e.1.symm hj
   ·obtain ⟨c, h1, h2⟩ := LY h
    exact ⟨c, h1, jr _ h2⟩
theorem Fw {m : Ak} (h : (m.all fun x => m.all fun y => NE x y) = true) {j : Nat} {a : Option Nat} (hx : (j, a) ∈ m) : Jb m j = some a := by
 obtain ⟨c, h1, h2⟩ := LY hx
 rw [h1, Uak h hx h2]
section
variable {n0 : Nat} {A : Fx} {O0 : Nat → Prop} {w0 w : World} {s : AS} {σ : Nat → Value} {φ : Nat → List Nat} {a : Act}
theorem CQ (h : Qa n0 A O0 w0 s σ φ a w) {p : Ry} {x : p.X} (he : ext p s = some x) : ∃ σ' φ', Qa n0 A O0 w0 (OH p x s.n) σ' φ' a w := by
 unfold ext at he
 split at he
 ·rename_i x1 m1 h1
  split at he
  ·rename_i x2 m h2
   simp only [Ja] at he
   obtain ⟨hmo, he⟩ := he
   simp only [jc] at he
   subst he
   simp only [Eao, jd] at hmo
   obtain ⟨hn1, hpo⟩ := hmo
   obtain ⟨hm1, hB⟩ := N7 h2 (fun p hp => hp)
   obtain ⟨hT1, hT2⟩ := O7 h1 hm1
   let σ' : Nat → Value := fun j => match Jb m j with
    | some (some i) => σ i
    | some none => .slice none 0 0
    | none => σ j
   let φ' : Nat → List Nat := fun j => match Jb m j with
    | some (some i) => φ i
    | _ => []
   have hσs : ∀ j i, (j, some i) ∈ m → σ' j = σ i ∧ φ' j = φ i := fun j i hj => by
    have := Fw hn1 hj
    simp only [σ', φ', this, and_self]
   have hσn : ∀ j, (j, none) ∈ m → σ' j = .slice none 0 0 ∧ φ' j = [] := fun j hj => by
    have := Fw hn1 hj
    simp only [σ', φ', this, and_self]
   have hent : ∀ j Da, (OH p (x1, x2) s.n).heap j = some Da → W0 s m j Da := by
    intro j Da hj
    have hmem := AS.heap_mem hj
    simp only [OH] at hmem
    rcases jl.1 hmem with hmem | hmem
    ·obtain ⟨blk', e, hE⟩ := hT2 _ hmem
     simp only [jc] at e
     subst e
     exact hE
    ·obtain ⟨blk', e, hE⟩ := hB _ hmem
     simp only [jc] at e
     subst e
     exact hE
   have hlive : ∀ j Da, (OH p (x1, x2) s.n).heap j = some Da → φ' j = [] ∨ ∃ i blk0, (j, some i) ∈ m ∧ s.heap i = some blk0 ∧ φ' j = φ i := by
    intro j Da hj
    rcases hent j Da hj with ⟨hn, _⟩ | ⟨i, hi, ⟨e, dp, dp', xs, _, hb, _⟩ | ⟨ρ, d, td, y, m0, _, hb, _⟩ | ⟨e, xs, k, x, p, τ, d, td, y, m0, _, hb, _⟩ | ⟨e, xs, k, _, hb | ⟨hb, _⟩⟩ | ⟨_, _, _, _, hb⟩ | ⟨_, _, _, _, hb⟩⟩
    ·exact .inl (hσn j hn).2
    ·exact .inr ⟨i, _, hi, hb, (hσs j i hi).2⟩
    ·exact .inr ⟨i, _, hi, hb, (hσs j i hi).2⟩
    ·exact .inr ⟨i, _, hi, hb, (hσs j i hi).2⟩
    ·exact .inr ⟨i, _, hi, hb, (hσs j i hi).2⟩
    ·exact .inr ⟨i, _, hi, hb, (hσs j i hi).2⟩
    ·exact .inr ⟨i, _, hi, hb, (hσs j i hi).2⟩
    ·exact .inr ⟨i, _, hi, hb, (hσs j i hi).2⟩
   have hOO : ∀ b, b < w.heap.size → ¬ OO O0 s φ b → ¬ OO O0 (OH p (x1, x2) s.n) φ' b := by
    rintro b _ hno (ho | ⟨j, Da, hj, hm⟩)
    ·exact hno (.inl ho)
    ·rcases hlive j Da hj with hφ | ⟨i, blk0, _, hb, hφ⟩
     ·rw [hφ] at hm; simp at hm
     ·rw [hφ] at hm; exact hno (.inr ⟨i, blk0, hb, hm⟩)
   have hTOk : TOk s σ σ' (OH p (x1, x2) s.n).heap m := by
    refine ⟨fun j i hj => (hσs j i hj).1, fun j hj => (hσn j hj).1, fun j i ρ d hj hb => ?_, fun j i Da r hj hb hr => ?_⟩
    rcases hent j _ hb with ⟨hn, e, dp, hh⟩ | ⟨i', hi', ⟨e, dp, dp', xs, hh, _⟩ | ⟨ρ', d', td, y, m0, hh, hb', _⟩ | ⟨e, xs, k, x, p, τ, d', td, y, m0, hh, _⟩ | ⟨e, xs, k, hh, _⟩ | ⟨_, _, _, hh, _⟩ | ⟨_, _, _, hh, _⟩⟩
    ·simp at hh
    ·simp at hh
    ·simp only [Ia.box.injEq] at hh
     have e1 := Fw hn1 hj
     have e2 := Fw hn1 hi'
     rw [e1] at e2
     simp only [jc] at e2
     subst e2
     exact ⟨d', by rw [hb', hh.1]⟩
    ·simp at hh
    ·simp at hh
    ·simp at hh
    ·simp at hh
    ·have e1 := Fw hn1 hj
     rcases hent j _ hb with ⟨hn, _⟩ | ⟨i', hi', hx⟩
     ·have e2 := Fw hn1 hn
      rw [e1] at e2
      simp at e2
     ·have e2 := Fw hn1 hi'
      rw [e1] at e2
      simp only [jc] at e2
      subst e2
      rcases hx with ⟨e, dp, dp', xs, rfl, hb', _⟩ | ⟨ρ', d', td, y, m0, rfl, _⟩ | ⟨e, xs, k, x, p, τ, d', td, y, m0, rfl, hb', _⟩ | ⟨e, xs, k, rfl, hb' | ⟨hb', _⟩⟩ | ⟨_, _, _, rfl, _⟩ | ⟨_, _, _, rfl, _⟩
      ·exact ⟨_, hb', hr⟩
      ·simp [Ia.rowN] at hr
      ·exact ⟨_, hb', hr⟩
      ·exact ⟨_, hb', hr⟩
      ·exact ⟨_, hb', hr⟩
      ·simp [Ia.rowN] at hr
      ·simp [Ia.rowN] at hr
   refine ⟨σ', φ', h.sz, h.df, ?_, ?_, ?_, ?_, ?_, h.o0, h.fr, ?_, h.iv0, h.ivw, ?_⟩
   ·intro t d' hd
    obtain ⟨td, d, y, m0, g1, g2, g3, g4⟩ := hT1 t d' hd
    obtain ⟨v, hv, hr⟩ := h.tm t d g1
    rw [g4]
    exact ⟨v, hv, Oaj hTOk hOO g2 g3 hr⟩
   ·intro j Da hj
    rcases hent j Da hj with ⟨hn, e, dp, rfl⟩ | ⟨i, hi, ⟨e, dp, dp', xs, rfl, hb, hd⟩ | ⟨ρ, d, td, y, m0, rfl, hb, hex, hsub, hsh⟩ | ⟨e, xs, k, x, p, τ, d, td, y, m0, rfl, hb, hex, hsub, hsh⟩ | ⟨e, xs, k, rfl, hb⟩ | ⟨kk, vv, xs, rfl, hb⟩ | ⟨kk, e, xs, rfl, hb⟩⟩
    ·rw [Nk, (hσn j hn).1, (hσn j hn).2]
     exact ⟨by simp, .inl ⟨rfl, rfl, rfl⟩⟩
    ·rw [Nk, (hσs j i hi).1, (hσs j i hi).2]
     have hrow := Nk.1 (h.hp i _ hb)
     have hst : ∀ dq, Mh w (OO O0 s φ) dq e xs (σ i) (φ i) → Mh w (OO O0 (OH p (x1, x2) s.n) φ') dq e xs (σ i) (φ i) := by
      rintro dq ⟨hm, g | ⟨bl, off, cap, cur, et, Fs, g1, hh, g2, g3, g4, hF, hel⟩⟩
      ·exact ⟨hm, .inl g⟩
      ·exact ⟨hm, .inr ⟨bl, off, cap, cur, et, Fs, g1, hh, g2, g3, g4, hF, hel.stable (fun _ _ _ => rfl) hOO (fun _ _ => rfl)⟩⟩
     rcases hd with rfl | hf
     ·exact hst _ hrow
     ·have hup := hrow.up
      rw [hf, Bool.or_true] at hup
      cases dp with
      | true => exact hst _ hup
      | false =>
       cases dp' with
       | false => exact hst _ hrow
       | true =>
        have hown := JQ (h.hp i _ hb) (.inl rfl)
        exact hst _ (Nk.1 (UX (O := OO O0 s φ) (hp := s.heap) hown hf))
    ·rw [(hσs j i hi).2]
     obtain ⟨_, b, cur, et, g1, hh, hF, hr, hsz⟩ := h.hp i _ hb
     exact ⟨hsh, b, cur, et, by rw [(hσs j i hi).1]; exact g1, hh, hF, BQ hTOk hOO hex hsub hr, hsz⟩
    ·rw [(hσs j i hi).2]
     obtain ⟨_, g1, g2, g3, bl, off, cap, cur, et, g4, g5, g6, g7, hr, hw⟩ := h.hp i _ hb
     refine ⟨hsh, g1, g2, g3, bl, off, cap, cur, et, by rw [(hσs j i hi).1]; exact g4, g5, g6, g7, BQ hTOk hOO hex hsub hr, fun w' c' h1 h2 h3 y Fy x' h4 h5 => ?_⟩
     rw [(hσs j i hi).1]
     exact hw w' c' h1 h2 h3 y Fy x' h4 h5
    ·rw [(hσs j i hi).2]
     have hm0 : Nc w (OO O0 s φ) s.heap σ i (.mov e xs k) (φ i) := by
      rcases hb with hb | ⟨hb, rfl⟩
      ·exact h.hp i _ hb
      ·exact R5 (h.hp i _ hb)
     obtain ⟨hlen, ⟨g1, g2, g3⟩ | ⟨bl, off, cap, cur, et, Fs, g1, g⟩⟩ := hm0
     ·exact ⟨hlen, .inl ⟨by rw [(hσs j i hi).1]; exact g1, g2, g3⟩⟩
     ·exact ⟨hlen, .inr ⟨bl, off, cap, cur, et, Fs, by rw [(hσs j i hi).1]; exact g1, g⟩⟩
    ·rw [(hσs j i hi).2]
     obtain ⟨r, es, clk, g1, g2, g3, g4, g5⟩ := h.hp i _ hb
     exact ⟨r, es, clk, by rw [(hσs j i hi).1]; exact g1, g2, g3, ZQ (fun _ _ _ => rfl) hOO ⟨g4, g5⟩⟩
    ·rw [(hσs j i hi).2]
     obtain ⟨r, es, clk, g1, g2⟩ := h.hp i _ hb
     exact ⟨r, es, clk, by rw [(hσs j i hi).1]; exact g1, g2⟩
   ·intro j Da hj
    rcases hlive j Da hj with hφ | ⟨i, blk0, _, hb, hφ⟩
    ·rw [hφ]; exact List.nodup_nil
    ·rw [hφ]; exact h.nodup i blk0 hb
   ·intro j j' Da blk' hne hj hj' b hb hb'
    rcases hlive j Da hj with hφ | ⟨i, blk0, hi, hbi, hφ⟩
    ·rw [hφ] at hb; simp at hb
    ·rcases hlive j' blk' hj' with hφ' | ⟨i', blk0', hi', hbi', hφ'⟩
     ·rw [hφ'] at hb'; simp at hb'
     ·rw [hφ] at hb
      rw [hφ'] at hb'
      by_cases hii : i = i'
      ·subst hii
       exact hne (Vak hn1 hi hi')
      ·exact h.disj i i' blk0 blk0' hii hbi hbi' b hb hb'
   ·intro j Da hj b hb
    rcases hlive j Da hj with hφ | ⟨i, blk0, _, hbi, hφ⟩
    ·rw [hφ] at hb; simp at hb
    ·rw [hφ] at hb; exact h.fresh i blk0 hbi b hb
   ·intro j v hv
    have hlow := A.low j v hv
    show σ' j = v
    simp only [σ']
    split
    ·rename_i i hg
     rcases OM hpo j i (Ew hg) with ⟨hj, _⟩ | rfl
     ·omega
     ·exact h.pin _ v hv
    ·rename_i hg
     have := NM hpo j (Ew hg)
     omega
    ·exact h.pin j v hv
   ·intro j kk e xs hj
    rcases hent j _ hj with ⟨hn, e, dp, hh⟩ | ⟨i, hi, ⟨e, dp, dp', xs, hh, _⟩ | ⟨ρ', d', td, y, m0, hh, hb', _⟩ | ⟨e, xs, k, x, p, τ, d', td, y, m0, hh, _⟩ | ⟨e, xs, k, hh, _⟩ | ⟨_, _, _, hh, _⟩ | ⟨kk2, e2, xs2, hh, hb⟩⟩
    ·simp at hh
    ·simp at hh
    ·simp at hh
    ·simp at hh
    ·simp at hh
    ·simp at hh
    ·simp only [Ia.mq.injEq] at hh
     obtain ⟨rfl, rfl, hh⟩ := hh
     simp only [heq_eq_eq] at hh
     subst hh
     rw [(hσs j i hi).1]
     exact (h.shr i _ _ _ hb).stable (fun _ _ _ => rfl) hOO (fun _ _ => rfl)
  ·simp at he
 ·simp at he
end
def Rat : Ex → Exit
 | .normal => .normal
 | .exit id => .exit id
 | .ret => .ret
def VE {X R : Type} (step : X → Option (X ⊕ R)) : Nat → X → R → Prop
 | 0, _, _ => False
 | n + 1, x, r => step x = some (.inr r) ∨ ∃ x', step x = some (.inl x') ∧ VE step n x' r
def He : Code → List Code
 | .seq a b => He a ++ He b
 | .cond _ a b => He a ++ He b
 | .block _ c => He c
 | .loop c => c :: He c
 | _ => []
def Kb (G : Ue) (L : List (Nat × Za)) (b : Code) : Prop :=
 ∀ r ls, Rk b = some r → Jb L r = some ls → ∀ x y, ls.F x = some y → ∃ m, VE (GJ G L ls b) m x y
section
variable {P : Program} {n0 : Nat} {A : Fx} {O0 : Nat → Prop} {w0 : World} {G : Ue} {L : List (Nat × Za)}
theorem SU (hG : Cj P A.I G) (hfz : QJ G A O0) (hm : P.follows .mixedOrders = true) : ∀ (c : Code), (∀ b, b ∈ He c → Kb G L b) → ∀ {Out : Type} {k : Ex → AS → Option Out} {out : Out} {s : AS} {σ : Nat → Value} {φ : Nat → List Nat} {a : Act} {w : World} {Q : Exit → Act → World → Prop},
 Mu G L c s k = some out → Qa n0 A O0 w0 s σ φ a w → (∀ e s σ φ a w, k e s = some out → Qa n0 A O0 w0 s σ φ a w → Q (Rat e) a w) → c.wp P Q a w := by
 intro c
 induction c with
 | skip =>
  intro _ Out k out s σ φ a w Q he h hQ
  simp only [Mu] at he
  exact wp_skip (hQ .normal s σ φ a w he h)
 | region id ops draw =>
  intro _ Out k out s σ φ a w Q he h hQ
  simp only [Mu] at he
  split at he
  ·rename_i s1 h1
   obtain ⟨φ1, hc⟩ := KC hfz h h1
   refine Mah (k := fun s' => match TJ G.fz (AC G.att) G.att (1000 * id + 999) s' with
    | some s' => k .normal s'
    | none => none) hG hfz hm hc he fun a w ⟨s', σ', φ', h2, h3⟩ => ?_
   simp only at h2
   split at h2
   ·rename_i s2 h4
    obtain ⟨φ2, hc2⟩ := KC hfz h3 h4
    exact hQ .normal _ σ' φ2 a w h2 hc2
   ·simp at h2
  ·simp at he
 | seq x y ihx ihy =>
  intro hL Out k out s σ φ a w Q he h hQ
  simp only [Mu] at he
  refine wp_seq (ihx (fun b hb => hL b (by simp [He, hb])) he h fun e s' σ' φ' a' w' hk h' => ?_)
  cases e with
  | normal => exact ihy (fun b hb => hL b (by simp [He, hb])) hk h' hQ
  | exit j => exact hQ (.exit j) s' σ' φ' a' w' hk h'
  | ret => exact hQ .ret s' σ' φ' a' w' hk h'
 | cond x y z ihy ihz =>
  intro hL Out k out s σ φ a w Q he h hQ
  cases x with
  | tmp t =>
   simp only [Mu] at he
   split at he
   ·rename_i β hd
    have hs := h.same hd
    obtain ⟨v, hv, hr⟩ := h.tm t _ hd
    rw [Ui] at hr
    subst hr
    have hev : a.eval (.tmp t) = .bool β := by
     simp only [Act.eval]
     rw [Array.getD_eq_getD_getElem?, hv]
     rfl
    refine wp_cond_split hev (fun hb => ?_) (fun hb => ?_)
    ·subst hb
     simp only [ze] at he
     exact ihy (fun b hb => hL b (by simp [He, hb])) he hs hQ
    ·subst hb
     simp only [zf] at he
     exact ihz (fun b hb => hL b (by simp [He, hb])) he hs hQ
   ·simp at he
  | const cv =>
   cases cv with
   | bool β =>
    simp only [Mu] at he
    refine wp_cond_split (show a.eval (.const (.bool β)) = .bool β from rfl) (fun hb => ?_) (fun hb => ?_)
    ·subst hb
     simp only [ze] at he
     exact ihy (fun b hb => hL b (by simp [He, hb])) he h hQ
    ·subst hb
     simp only [zf] at he
     exact ihz (fun b hb => hL b (by simp [He, hb])) he h hQ
   | _ => simp [Mu] at he
  | _ => simp [Mu] at he
 | block id c ih =>
  intro hL Out k out s σ φ a w Q he h hQ
  simp only [Mu] at he
  refine wp_block (ih (fun b hb => hL b (by simpa [He] using hb)) he h fun e s' σ' φ' a' w' hk h' => ?_)
  cases e with
  | normal => exact hQ .normal s' σ' φ' a' w' hk h'
  | exit j =>
   simp only [Rat, Exit.inBlock]
   cases hb : qw j id with
   | true =>
    rw [if_pos (ju hb)]
    simp only [hb, ze] at hk
    exact hQ .normal s' σ' φ' a' w' hk h'
   | false =>
    rw [if_neg (fun e => by rw [e, Nat.beq_refl] at hb; simp at hb)]
    simp only [hb, zf] at hk
    exact hQ (.exit j) s' σ' φ' a' w' hk h'
  | ret => exact hQ .ret s' σ' φ' a' w' hk h'
 | exit id =>
  intro _ Out k out s σ φ a w Q he h hQ
  simp only [Mu] at he
  exact wp_exit (hQ (.exit id) s σ φ a w he h)
 | ret =>
  intro _ Out k out s σ φ a w Q he h hQ
  simp only [Mu] at he
  exact wp_ret (hQ .ret s σ φ a w he h)
 | loop c ih =>
  intro hL Out k out s σ φ a w Q he h hQ
  simp only [Mu] at he
  split at he
  ·rename_i r hr
   split at he
   ·rename_i ls hls
    split at he
    ·rename_i x hx
     simp only [Ja] at he
     obtain ⟨hn, he⟩ := he
     have hn := ju hn
     rw [qe] at he
     obtain ⟨y, hy, he⟩ := he
     obtain ⟨m, hit⟩ := hL c (by simp [He]) r ls hr hls x y hy
     obtain ⟨σ1, φ1, h1⟩ := CQ h hx
     rw [hn] at h1 he
     refine wp_loop_rounds m ?_
     have key : ∀ (m : Nat) (x : ls.inT.X) (σ : Nat → Value) (φ : Nat → List Nat) (a : Act) (w : World), VE (GJ G L ls c) m x y → Qa n0 A O0 w0 (OH ls.inT x ls.n) σ φ a w → Code.rounds P c Q m a w := by
      intro m
      induction m with
      | zero => intro x σ φ a w hit _; exact hit.elim
      | succ m ihm =>
       intro x σ φ a w hit h
       rw [rounds_succ]
       have body : ∀ z, GJ G L ls c x = some z → (z = .inr y ∨ ∃ x', z = .inl x' ∧ VE (GJ G L ls c) m x' y) → c.wp P (Exit.then (Code.rounds P c Q m) Q) a w := by
        intro z hz hzy
        unfold GJ at hz
        refine ih (fun b hb => hL b (by simp [He, hb])) hz h fun e s' σ' φ' a' w' hk h' => ?_
        simp only [Ja] at hk
        obtain ⟨hn', hk⟩ := hk
        have hn' := ju hn'
        cases e with
        | normal =>
         simp only at hk
         split at hk
         ·rename_i x' hx'
          simp only [jc] at hk
          obtain ⟨σ2, φ2, h2⟩ := CQ h' hx'
          rw [hn'] at h2
          rcases hzy with hzy | ⟨x'', hzy, hit'⟩
          ·rw [hzy] at hk; simp at hk
          ·rw [hzy] at hk
           simp only [yz] at hk
           subst hk
           exact ihm x' σ2 φ2 a' w' hit' h2
         ·simp at hk
        | exit j =>
         simp only [Ja] at hk
         obtain ⟨hj, hk⟩ := hk
         have hj := ju hj
         split at hk
         ·rename_i y' hy'
          simp only [jc] at hk
          obtain ⟨σ2, φ2, h2⟩ := CQ h' hy'
          rw [hn'] at h2
          rcases hzy with hzy | ⟨x'', hzy, _⟩
          ·rw [hzy] at hk
           simp only [Sum.inr.injEq] at hk
           subst hk
           simp only [qg] at he
           show Q (.exit j) a' w'
           rw [hj]
           exact hQ (.exit ls.exitId) _ σ2 φ2 a' w' he h2
          ·rw [hzy] at hk; simp at hk
         ·simp at hk
        | ret =>
         simp only at hk
         split at hk
         ·rename_i y' hy'
          simp only [jc] at hk
          obtain ⟨σ2, φ2, h2⟩ := CQ h' hy'
          rw [hn'] at h2
          rcases hzy with hzy | ⟨x'', hzy, _⟩
          ·rw [hzy] at hk
           simp only [Sum.inr.injEq] at hk
           subst hk
           simp only [Sum.elim_inr] at he
           exact hQ .ret _ σ2 φ2 a' w' he h2
          ·rw [hzy] at hk; simp at hk
         ·simp at hk
       rcases hit with hit | ⟨x', hit, hit'⟩
       ·exact body _ hit (.inl rfl)
       ·exact body _ hit (.inr ⟨x', rfl, hit'⟩)
     exact key m x σ1 φ1 a w hit h1
    ·simp at he
   ·simp at he
  ·simp at he
 | _ => intros; rename_i he _ _; simp [Mu] at he
end
theorem Mc.mono {w : World} {O O' : Nat → Prop} (hO : ∀ b, O' b → O b) : ∀ {rt : Ty} {r : T rt} {fr : List Bool} {vs : List Value} {F : List Nat}, Mc w O rt r fr vs F → Mc w O' rt r fr vs F
 | .u, _, [], [], _, h => h
 | .p x y, r, f :: fr, v :: vs, F, h => by
  obtain ⟨cs, F1, F2, hv, hF, h1, h2⟩ := h
  refine ⟨cs, F1, F2, hv, hF, ?_, Mc.mono hO h2⟩
  cases f with
  | true => exact h1
  | false =>
   simp only [jq, if_false] at h1 ⊢
   exact ⟨h1.1.weaken hO, h1.2⟩
 | .u, _, _ :: _, _, _, h => by simp [Mc] at h
 | .u, _, [], _ :: _, _, h => by simp [Mc] at h
 | .p _ _, _, [], _, _, h => by simp [Mc] at h
 | .p _ _, _, _ :: _, [], _, h => by simp [Mc] at h
 | .i _, _, fr, vs, _, h => by simp [Mc] at h
 | .b, _, fr, vs, _, h => by simp [Mc] at h
 | .o, _, fr, vs, _, h => by simp [Mc] at h
 | .mp _ _, _, fr, vs, _, h => by simp [Mc] at h
 | .s, _, fr, vs, _, h => by simp [Mc] at h
 | .sl _, _, fr, vs, _, h => by simp [Mc] at h
section
variable {P : Program} {n0 : Nat} {A : Fx} {O0 : Nat → Prop} {w0 w : World} {s : AS} {σ : Nat → Value} {φ : Nat → List Nat} {a : Act} {G : Ue} {L : List (Nat × Za)}
def RU (w : World) (O : Nat → Prop) (hp : Nat → Option Ia) (σ : Nat → Value) : D → List Value → Prop
 | .pr a b, v :: vs => Zc w O hp σ a v ∧ RU w O hp σ b vs
 | .un, [] => True
 | _, _ => False
def CP (tmps : Array Value) : ResultVar → Sem Value
 | .tmp t => pure (tmps.getD t undef)
 | .cell a t => do loadVar t (← asAddr (tmps.getD a undef))
theorem IA (hG : EnvTy P G) (h : Qa n0 A O0 w0 s σ φ a w) : ∀ {rs : List ResultVar} {d : D}, Vv G s rs = some d → ∃ vs, (rs.mapM (CP a.tmps)).run P w = .ok vs w ∧ RU w (OO O0 s φ) s.heap σ d vs
 | [], d, he => by
  simp only [Vv, jc] at he
  subst he
  exact ⟨[], by simp, trivial⟩
 | .tmp t :: r, d, he => by
  simp only [Vv] at he
  split at he
  ·rename_i d1 d2 h1 h2
   simp only [jc] at he
   subst he
   obtain ⟨vs, hvs, hr⟩ := IA hG h h2
   obtain ⟨v, hv, hru⟩ := h.tm t d1 h1
   have hg : a.tmps.getD t undef = v := by rw [Array.getD_eq_getD_getElem?, hv]; rfl
   refine ⟨v :: vs, ?_, hru, hr⟩
   rw [List.mapM_cons]
   simp only [CP, qo, Sem.run_pure, qn, hvs, hg]
  ·simp at he
 | .cell t ty :: r, d, he => by
  simp only [Vv] at he
  split at he
  ·rename_i id d2 h1 h2
   split at he
   ·rename_i ρ d1 τ hb hty
    split at he
    ·rename_i q hq
     obtain rfl := q.down
     simp only [jc] at he
     subst he
     obtain ⟨vs, hvs, hr⟩ := IA hG h h2
     obtain ⟨v, hv, hru⟩ := h.tm t _ h1
     have hg : a.tmps.getD t undef = v := by rw [Array.getD_eq_getD_getElem?, hv]; rfl
     rw [Uq] at hru
     obtain ⟨b, hσ, hv'⟩ := hru.2 _ _ hb
     obtain ⟨hs, b', cur, et, hσ', hh, hF, hrep, hsz⟩ := h.hp id _ hb
     rw [hσ] at hσ'
     simp at hσ'
     subst hσ'
     have hl := Ps (P := P) (hG.ty _ _ hty) (off := 0) hh (by omega)
     have hseg : Fd cur 0 ρ.size = cur.toList := by rw [← hsz]; exact Rar cur
     rw [hseg] at hl
     refine ⟨Od ρ cur.toList :: vs, ?_, Vq hs hrep, hr⟩
     rw [List.mapM_cons]
     have hoff : Hb ρ [] = 0 := rfl
     rw [hoff] at hv'
     subst hv'
     simp only [CP, qo, Sem.run_pure, qn, hvs, hg, asAddr, hl]
    ·simp at he
   ·simp at he
  ·simp at he
theorem IQ (h : Qa n0 A O0 w0 s σ φ a w) : ∀ {rt : Ty} {fr : List Bool} {d : D} {r : T rt} {l : List Nat} {vs : List Value}, Kg s rt fr d = some (r, l) → RU w (OO O0 s φ) s.heap σ d vs →
 Mc w (OO O0 s φ) rt r fr vs (Ea φ l) ∧ ∀ j, j ∈ l → ∃ b, s.heap j = some b
 | .u, [], .un, r, l, vs, he, hr => by
  simp only [Kg, jc, jh] at he
  obtain ⟨_, rfl⟩ := he
  cases vs with
  | nil => exact ⟨by simp [Mc, Ea], by simp⟩
  | cons v vs => simp [RU] at hr
 | .p x y, f :: fr, .pr d1 d2, r, l, vs, he, hr => by
  cases vs with
  | nil => simp [RU] at hr
  | cons v vs =>
   simp only [Kg] at he
   split at he
   ·rename_i u l1 z l2 h1 h2
    simp only [jc, jh] at he
    obtain ⟨rfl, rfl⟩ := he
    obtain ⟨g1, g2⟩ := IQ h h2 hr.2
    cases f with
    | true =>
     simp only [ze] at h1
     obtain ⟨hrep, hv⟩ := Ye (Kj h1) hr.1
     obtain ⟨ho, hl⟩ := Jn h h1 hrep
     refine ⟨⟨_, Ea φ l1, Ea φ l2, hv, Be, ?_, g1⟩, ?_⟩
     ·simpa using ho
     ·intro j hj
      rcases jl.1 hj with hj | hj
      ·exact hl j hj
      ·exact g2 j hj
    | false =>
     simp only [zf] at h1
     split at h1
     ·rename_i u' hu
      simp only [jc, jh] at h1
      obtain ⟨rfl, rfl⟩ := h1
      obtain ⟨hs, hvw⟩ := Wg (w := w) (O := OO O0 s φ) (hp := s.heap) (σ := σ) hu
      obtain ⟨hrep, hv⟩ := Ye hs hr.1
      refine ⟨⟨_, [], Ea φ l2, hv, by simp [Ea], ?_, g1⟩, by simpa using g2⟩
      simpa using hvw _ hrep
     ·simp at h1
   ·simp at he
 | .u, _ :: _, d, _, _, _, he, _ => by cases d <;> simp [Kg] at he
 | .u, [], .und, _, _, _, he, _ => by simp [Kg] at he
 | .u, [], .anyv, _, _, _, he, _ => by simp [Kg] at he
 | .u, [], .mpo _, _, _, _, he, _ => by simp [Kg] at he
 | .u, [], .t _ _, _, _, _, he, _ => by simp [Kg] at he
 | .u, [], .nil, _, _, _, he, _ => by simp [Kg] at he
 | .u, [], .own _, _, _, _, he, _ => by simp [Kg] at he
 | .u, [], .ptr _ _, _, _, _, he, _ => by simp [Kg] at he
 | .u, [], .eptr _ _ _, _, _, _, he, _ => by simp [Kg] at he
 | .u, [], .rp _ _, _, _, _, he, _ => by simp [Kg] at he
 | .u, [], .pr _ _, _, _, _, he, _ => by simp [Kg] at he
 | .u, [], .tup _, _, _, _, he, _ => by simp [Kg] at he
 | .p _ _, [], d, _, _, _, he, _ => by cases d <;> simp [Kg] at he
 | .p _ _, _ :: _, .und, _, _, _, he, _ => by simp [Kg] at he
 | .p _ _, _ :: _, .anyv, _, _, _, he, _ => by simp [Kg] at he
 | .p _ _, _ :: _, .mpo _, _, _, _, he, _ => by simp [Kg] at he
 | .p _ _, _ :: _, .t _ _, _, _, _, he, _ => by simp [Kg] at he
 | .p _ _, _ :: _, .nil, _, _, _, he, _ => by simp [Kg] at he
 | .p _ _, _ :: _, .own _, _, _, _, he, _ => by simp [Kg] at he
 | .p _ _, _ :: _, .ptr _ _, _, _, _, he, _ => by simp [Kg] at he
 | .p _ _, _ :: _, .eptr _ _ _, _, _, _, he, _ => by simp [Kg] at he
 | .p _ _, _ :: _, .rp _ _, _, _, _, he, _ => by simp [Kg] at he
 | .p _ _, _ :: _, .un, _, _, _, he, _ => by simp [Kg] at he
 | .p _ _, _ :: _, .tup _, _, _, _, he, _ => by simp [Kg] at he
 | .i _, fr, d, _, _, _, he, _ => by cases fr <;> cases d <;> simp [Kg] at he
 | .b, fr, d, _, _, _, he, _ => by cases fr <;> cases d <;> simp [Kg] at he
 | .o, fr, d, _, _, _, he, _ => by cases fr <;> cases d <;> simp [Kg] at he
 | .mp _ _, fr, d, _, _, _, he, _ => by cases fr <;> cases d <;> simp [Kg] at he
 | .s, fr, d, _, _, _, he, _ => by cases fr <;> cases d <;> simp [Kg] at he
 | .sl _, fr, d, _, _, _, he, _ => by cases fr <;> cases d <;> simp [Kg] at he
theorem RaF (h : Qa n0 A O0 w0 s σ φ a w) {id : Nat} {kk : IntKind} {e : Ty} {xs : List (Int × List (T e))} (hb : s.heap id = some (.mq kk e xs)) :
 ∃ F, Tb w (.mp (.i kk) (.sl e)) xs [σ id] F ∧ F.Nodup ∧ (∀ b, b ∈ F → n0 ≤ b ∨ A.A b) ∧ F.head? = (φ id).head? ∧ ∀ b, b ∈ F.tail → n0 ≤ b ∧ ¬ OO O0 s φ b := by
 obtain ⟨r, es, clk, g1, g2, g3, g4⟩ := h.hp id _ hb
 obtain ⟨r', es', clk', Gs, s1, s2, s3, s4, s5, s6, s7⟩ := h.shr id _ _ _ hb
 rw [g1] at s1
 simp only [Value.map.injEq, jc] at s1
 subst s1
 refine ⟨r :: List.flatten Gs, .inr ⟨r, es', clk', Gs, by rw [g1], s2, s3, rfl, s4, fun i hi => ?_⟩, ?_, ?_, by rw [g3]; rfl, fun b hb' => s6 b hb'⟩
 ·obtain ⟨en, q1, q2, q3⟩ := s7 i hi
  exact ⟨en, [.int kk (List.get xs ⟨i, hi⟩).1], [en.val], q1, q2, rfl, ⟨rfl, rfl⟩, q3⟩
 ·refine yk.2 ⟨fun hm => (s6 r hm).2 (.inr ⟨id, _, hb, by rw [g3]; simp⟩), s5⟩
 ·intro b hm
  rcases jp.1 hm with rfl | hm
  ·exact h.fresh id _ hb _ (by rw [g3]; simp)
  ·exact .inl (s6 b hm).1
theorem Qar (h : Qa n0 A O0 w0 s σ φ a w) {rt : Ty} {fr : List Bool} {d : D} {r : T rt} {vs : List Value} (he : Cae s rt fr d = some r) (hr : RU w (OO O0 s φ) s.heap σ d vs) :
 ∃ F, (∀ O', Mc w O' rt r fr vs F) ∧ F.Nodup ∧ (∀ b, b ∈ F → n0 ≤ b ∨ A.A b) := by
 unfold Cae at he
 split at he
 ·rename_i k v id
  split at he
  ·rename_i kk e xs hb
   split at he
   ·rename_i q hq
    have q2 := q
    simp only [Ty.mp.injEq] at q2
    obtain ⟨rfl, rfl⟩ := q2
    simp only [jc] at he
    subst he
    obtain ⟨F, h1, h2, h3, _⟩ := RaF h hb
    cases vs with
    | nil => simp [RU] at hr
    | cons u vs =>
     obtain ⟨hr1, hr2⟩ := hr
     cases vs with
     | cons _ _ => simp [RU] at hr2
     | nil =>
      have hu : u = σ id := (Ax.1 hr1).2 _ hb rfl
      subst hu
      exact ⟨F, fun _ => ⟨[σ id], F, [], rfl, by simp, h1, rfl⟩, h2, h3⟩
   ·simp at he
  ·simp at he
 ·simp at he
theorem Cz {fn : Func} {vs : List Value} (h : (fn.results.toList.mapM (CP a.tmps)).run P w = .ok vs w) : (results fn a.tmps).run P w = .ok (YC vs) w := by
 unfold results
 rw [Array.mapM_eq_mapM_toList]
 simp only [map_eq_pure_bind, bind_assoc, pure_bind, qo, Sem.run_pure]
 show (Sem.run P (List.mapM (CP a.tmps) fn.results.toList) w).andThen (fun vs w' => Result.ok (if h : vs.toArray.size = 1 then vs.toArray[0] else Value.tuple vs.toArray) w') = _
 rw [h]
 simp only [qn]
 congr 1
 cases vs with
 | nil => rfl
 | cons v vs => cases vs <;> rfl
end
def Ty.npar : Ty → Nat
 | .p _ y => y.npar + 1
 | _ => 0
theorem MJ {w : World} {O : Nat → Prop} : ∀ {pt : Ty} {x : T pt} {args : List Value}, Rg w O pt x args → args.length = pt.npar
 | .u, _, [], _ => rfl
 | .p x y, v, a :: r, h => by simp [Ty.npar, MJ h.2]
 | .u, _, _ :: _, h => by simp [Rg] at h
 | .p _ _, _, [], h => by simp [Rg] at h
 | .i _, _, l, h => by simp [Rg] at h
 | .b, _, l, h => by simp [Rg] at h
 | .o, _, l, h => by simp [Rg] at h
 | .mp _ _, _, l, h => by simp [Rg] at h
 | .s, _, l, h => by simp [Rg] at h
 | .sl _, _, l, h => by simp [Rg] at h
theorem MM {w : World} {O : Nat → Prop} {hp : Nat → Option Ia} {σ : Nat → Value} : ∀ {pt : Ty} {x : T pt} {args : List Value} {n t : Nat} {d : D}, Rg w O pt x args → Jb (Uv pt x n) t = some d →
 ∃ j v, t = n + j ∧ args[j]? = some v ∧ Zc w O hp σ d v
 | .p x y, v, a :: r, n, t, d, h, hd => by
  simp only [Uv] at hd
  rw [Tc] at hd
  split at hd
  ·rename_i e
   simp only [jc] at hd
   subst hd
   obtain ⟨⟨cs, ha, hv⟩, _⟩ := h
   refine ⟨0, a, by omega, rfl, ?_⟩
   rw [ha]
   exact Vq (τ := x) (by simp [Bb]) hv
  ·obtain ⟨j, v', h1, h2, h3⟩ := MM (hp := hp) (σ := σ) h.2 hd
   exact ⟨j + 1, v', by omega, by simpa using h2, h3⟩
 | .p _ _, _, [], _, _, _, h, _ => by simp [Rg] at h
 | .u, _, _, _, _, _, _, hd => by simp [Uv, Jb] at hd
 | .i _, _, _, _, _, _, h, _ => by simp [Rg] at h
 | .b, _, _, _, _, _, h, _ => by simp [Rg] at h
 | .o, _, _, _, _, _, h, _ => by simp [Rg] at h
 | .mp _ _, _, _, _, _, _, h, _ => by simp [Rg] at h
 | .s, _, _, _, _, _, h, _ => by simp [Rg] at h
 | .sl _, _, _, _, _, _, h, _ => by simp [Rg] at h
section
variable {P : Program} {G : Ue} {L : List (Nat × Za)}
variable {I : Yf}
def QX (I : Yf) : Fx := ⟨fun _ => False, fun _ => none, fun _ _ h => by simp at h, I, fun _ h => h.elim⟩
theorem Jal (hG : Cj P I G) (hm : P.follows .mixedOrders = true) {f : FuncId} {fn : Func} {c : Code} (hf : P.funcs[f]? = some fn) (hb : fn.body = some c) (hname : (fn.name == "runtime.NumGoroutine") = false)
 (hL : ∀ b, b ∈ He c → Kb G L b) {pt rt : Ty} {fr : List Bool} {F : T pt → Option (T rt)} (hn : pt.npar ≤ fn.ntmps) (hF : ∀ x r, F x = some r → evF G L fn pt rt fr x = some r) : Gg P I f (.pu pt rt fr F) := by
 refine ⟨⟨fn, hf, hname, by rw [hb]; rfl⟩, ?_⟩
 intro O w x r args hx hargs hO hI hB
 have he := hF x r hx
 unfold evF at he
 rw [hb] at he
 simp only at he
 refine calls_of_wp hf hb ?_
 have hlen := MJ hargs
 have hc : Qa w.heap.size (QX I) O w ⟨fn.ntmps, Uv pt x 0, []⟩ (fun _ => undef) (fun _ => []) { tmps := args.toArray ++ Array.replicate (fn.ntmps - args.toArray.size) undef, defers := [] } w := by
  have hh : ∀ id, AS.heap ⟨fn.ntmps, Uv pt x 0, []⟩ id = none := fun id => rfl
  refine ⟨?_, rfl, ?_, ?_, ?_, ?_, ?_, hO, ⟨rfl, rfl, rfl, jo _, fun _ _ _ => rfl⟩, ?_, hB, hI, fun id kk e xs hb => by rw [hh] at hb; simp at hb⟩
  ·simp; omega
  ·intro t d hd
   have hOO : OO O ⟨fn.ntmps, Uv pt x 0, []⟩ (fun _ => []) = O := by
    funext b
    simp [OO, hh]
   rw [hOO]
   obtain ⟨j, v, h1, h2, h3⟩ := MM hargs hd
   refine ⟨v, ?_, h3⟩
   have hj : j < args.length := (q8.1 h2).1
   have : t = j := by omega
   subst this
   rw [Array.getElem?_append_left (by simpa using hj)]
   simpa using h2
  ·intro id Da hb; rw [hh] at hb; simp at hb
  ·intro id Da hb; rw [hh] at hb; simp at hb
  ·intro id id' Da blk' _ hb; rw [hh] at hb; simp at hb
  ·intro id Da hb; rw [hh] at hb; simp at hb
  ·intro id v hv; simp [QX] at hv
 refine SU (A := QX I) hG (fun _ => .inl fun _ h => h) hm c hL he hc ?_
 intro e s σ φ a w' hk h
 have Zg : (match Vv G s fn.results.toList with
  | some d => match Cae s rt fr d with
   | some r => some r
   | none => match Kg s rt fr d with
    | some (r, l) => bif Nf l then some r else none
    | none => none
  | none => none) = some r → a.defers = [] ∧ ∃ v, (results fn a.tmps).run P w' = .ok v w' ∧ Qr (fun v w' => ∃ vs Fr, v = YC vs ∧ Yu w w' (fun _ => False) ∧ Mc w' (fun b => O b ∨ b ∈ Fr) rt r fr vs Fr ∧ Fr.Nodup ∧ ∀ b ∈ Fr, w.heap.size ≤ b) (.returned v) w' := by
  intro hk
  split at hk
  ·rename_i d hd
   split at hk
   ·rename_i r' hq
    simp only [jc] at hk
    subst hk
    obtain ⟨vs, hvs, hru⟩ := IA hG.toEnvTy h hd
    obtain ⟨F, hR, hnd, hfr⟩ := Qar h hq hru
    exact ⟨h.df, _, Cz hvs, vs, F, rfl, ⟨h.fr.size, fun b hb _ => h.fr.block b hb (fun h => h), h.fr.os, h.fr.tape, h.fr.output⟩, hR _, hnd, fun b hb => (hfr b hb).resolve_right (fun h => h)⟩
   split at hk
   ·rename_i r' l hr
    simp only [Ja] at hk
    obtain ⟨hnd, hk⟩ := hk
    simp only [jc] at hk
    subst hk
    have hnd := Gh hnd
    obtain ⟨vs, hvs, hru⟩ := IA hG.toEnvTy h hd
    obtain ⟨hR, hlive⟩ := IQ h hr hru
    refine ⟨h.df, _, Cz hvs, vs, Ea φ l, rfl, ⟨h.fr.size, fun b hb _ => h.fr.block b hb (fun h => h), h.fr.os, h.fr.tape, h.fr.output⟩, hR.mono ?_, Rf h hnd hlive, ?_⟩
    ·rintro b (hb | hb)
     ·exact .inl hb
     ·obtain ⟨j, hj, hm'⟩ := Cb.1 hb
      obtain ⟨Da, hbj⟩ := hlive j hj
      exact .inr ⟨j, Da, hbj, hm'⟩
    ·intro b hb
     obtain ⟨j, hj, hm'⟩ := Cb.1 hb
     obtain ⟨Da, hbj⟩ := hlive j hj
     exact (h.fresh j Da hbj b hm').resolve_right (fun h => h)
   ·simp at hk
  ·simp at hk
 cases e with
 | normal => exact Zg hk
 | ret => exact Zg hk
 | exit j => simp at hk
end
theorem ZG {φ : Nat → List Nat} : ∀ {L : List Nat}, (Ea φ L).Nodup → ∀ {i j b : Nat}, i ∈ L → j ∈ L → i ≠ j → b ∈ φ i → b ∉ φ j
 | [], _, _, _, _, h, _, _, _ => by simp at h
 | x :: L, hn, i, j, b, hi, hj, hne, hb => by
  intro hb'
  have hx : Ea φ (x :: L) = φ x ++ Ea φ L := by simp [Ea]
  rw [hx, yl] at hn
  rcases jp.1 hi with e1 | q1
  ·rcases jp.1 hj with e2 | q2
   ·exact hne (e1.trans e2.symm)
   ·exact hn.2.2 b (e1 ▸ hb) b (Cb.2 ⟨j, q2, hb'⟩) rfl
  ·rcases jp.1 hj with e2 | q2
   ·exact hn.2.2 b (e2 ▸ hb') b (Cb.2 ⟨i, q1, hb⟩) rfl
   ·exact ZG hn.2.1 q1 q2 hne hb hb'
section
variable {P : Program} {G : Ue} {L : List (Nat × Za)} {I : Yf}
end
def LG : (pt : Ty) → T pt → Nat → Nat → List (Nat × D) × List (Nat × Option Ia) × Nat
 | .p x y, v, t, n => match Ie x v.1 n with
  | (d, l, m) => match LG y v.2 (t + 1) m with
   | (tm, l', m') => ((t, d) :: tm, l ++ l', m')
 | _, _, _, n => ([], [], n)
def Z1 (G : Ue) (L : List (Nat × Za)) (fn : Func) (pt rt : Ty) (fr : List Bool) (x : T pt) : Option (T rt) :=
 match fn.body with
 | some c => match LG pt x 0 400000 with
  | (tm, rows, _) => Mu G L c ⟨fn.ntmps, tm, rows⟩ fun e s => match e with
   | .exit _ => none
   | _ => match Vv G s fn.results.toList with
    | some d => match Kg s rt fr d with
     | some (r, l) => bif Nf l then some r else none
     | none => none
    | none => none
 | none => none
def Y1 (G : Ue) (L : List (Nat × Za)) (fn : Func) (vw cv : Bool) (τ pt rt : Ty) (fr : List Bool) (x0 : T τ) (x : T pt) : Option (T τ × T rt) :=
 match fn.body with
 | some c => match (bif vw then (D.t τ x0, [], 400000) else Ie τ x0 400000) with
  | (d0, rows, m) => match (bif cv then LG pt x 1 m else (Uv pt x 1, [], m)) with
   | (tm, rows2, m2) => bif jx m2 500000 then Mu G L c ⟨fn.ntmps, (0, .ptr 500000 []) :: tm, (500000, some (.box τ d0)) :: (rows ++ rows2)⟩ fun e s => match e with
    | .exit _ => none
    | _ => match s.heap 500000, Vv G s fn.results.toList with
     | some (.box τ' d1), some d => match Ty.dec τ' τ, (bif vw then (match Bj d1 τ with
      | some y => some (y, [])
      | none => none) else Pb s d1 τ), Kg s rt fr d with
      | some _, some (x', l0), some (r, l) => bif Nf (500000 :: (l0 ++ l)) then some (x', r) else none
      | _, _, _ => none
     | _, _ => none
    else none
 | none => none
theorem YO {w : World} : ∀ {pt : Ty} {x : T pt} {args : List Value} {F : List Nat}, Of w pt x args F → args.length = pt.npar
 | .u, _, [], _, _ => rfl
 | .p x y, v, a :: r, F, h => by
  obtain ⟨cs, F1, F2, _, _, _, h⟩ := h
  simp [Ty.npar, YO h]
 | .u, _, _ :: _, _, h => by simp [Of] at h
 | .p _ _, _, [], _, h => by simp [Of] at h
 | .i _, _, l, _, h => by simp [Of] at h
 | .b, _, l, _, h => by simp [Of] at h
 | .o, _, l, _, h => by simp [Of] at h
 | .mp _ _, _, l, _, h => by simp [Of] at h
 | .s, _, l, _, h => by simp [Of] at h
 | .sl _, _, l, _, h => by simp [Of] at h
theorem Of.lt {w : World} : ∀ {pt : Ty} {x : T pt} {args : List Value} {F : List Nat}, Of w pt x args F → ∀ b, b ∈ F → b < w.heap.size
 | .u, _, [], F, h, b, hb => by simp only [Of] at h; subst h; simp at hb
 | .p x y, v, a :: r, F, h, b, hb => by
  obtain ⟨cs, F1, F2, _, rfl, ho, h⟩ := h
  rcases jl.1 hb with hb | hb
  ·exact ho.lt b hb
  ·exact Of.lt h b hb
 | .u, _, _ :: _, _, h, _, _ => by simp [Of] at h
 | .p _ _, _, [], _, h, _, _ => by simp [Of] at h
 | .i _, _, l, _, h, _, _ => by simp [Of] at h
 | .b, _, l, _, h, _, _ => by simp [Of] at h
 | .o, _, l, _, h, _, _ => by simp [Of] at h
 | .mp _ _, _, l, _, h, _, _ => by simp [Of] at h
 | .s, _, l, _, h, _, _ => by simp [Of] at h
 | .sl _, _, l, _, h, _, _ => by simp [Of] at h
theorem CT {w : World} : ∀ {pt : Ty} {x : T pt} {args : List Value} {F : List Nat} {t n m : Nat} {tm : List (Nat × D)} {l : List (Nat × Option Ia)}, LG pt x t n = (tm, l, m) → Of w pt x args F →
 n ≤ m ∧ (∀ p, p ∈ l → n ≤ p.1 ∧ p.1 < m) ∧ ∃ (ψ : Nat → List Nat) (ν : Nat → Value), Ea ψ (l.map (·.1)) = F ∧ (∀ p, p ∈ l → FB w p.2 (ν p.1) (ψ p.1)) ∧
  ∀ (hp' : Nat → Option Ia) (σ' : Nat → Value) (O' : Nat → Prop), (∀ p, p ∈ l → σ' p.1 = ν p.1) → ∀ t' d, Jb tm t' = some d → ∃ j v, t' = t + j ∧ args[j]? = some v ∧ Zc w O' hp' σ' d v
 | .u, x, [], F, t, n, m, tm, l, he, h => by
  simp only [LG, jh] at he
  obtain ⟨rfl, rfl, rfl⟩ := he
  simp only [Of] at h
  exact ⟨jo _, by simp, fun _ => [], fun _ => undef, by simp [Ea, h], by simp, fun _ _ _ _ t' d hd => by simp [Jb] at hd⟩
 | .p t1 t2, x, a :: r, F, t, n, m, tm, l, he, h => by
  obtain ⟨cs, F1, F2, ha, hF, ho, hr⟩ := h
  simp only [LG] at he
  rcases ho1 : Ie t1 x.1 n with ⟨d1, l1, m1⟩
  rcases ho2 : LG t2 x.2 (t + 1) m1 with ⟨tm2, l2, m2⟩
  rw [ho1] at he
  simp only at he
  rw [ho2] at he
  simp only [jh] at he
  obtain ⟨rfl, rfl, rfl⟩ := he
  obtain ⟨a1, a2, a3, ψ1, ν1, a4, a5, a6⟩ := Yw ho1 ho
  obtain ⟨b1, b2, ψ2, ν2, b4, b5, b6⟩ := CT ho2 hr
  refine ⟨by omega, ?_, fun id => if id < m1 then ψ1 id else ψ2 id, fun id => if id < m1 then ν1 id else ν2 id, ?_, ?_, ?_⟩
  ·intro p hp
   rcases jl.1 hp with hp | hp
   ·have := a2 p hp; omega
   ·have := b2 p hp; omega
  ·rw [yu, Be, hF, ← a4, ← b4]
   congr 1
   ·exact Zk fun id hid => by
     obtain ⟨p, hp, rfl⟩ := qk.1 hid
     rw [if_pos (a2 p hp).2]
   ·exact Zk fun id hid => by
     obtain ⟨p, hp, rfl⟩ := qk.1 hid
     rw [if_neg (by have := b2 p hp; omega)]
  ·intro p hp
   rcases jl.1 hp with hp | hp
   ·simp only [if_pos (a2 p hp).2]; exact a5 p hp
   ·have : ¬ p.1 < m1 := by have := b2 p hp; omega
    simp only [if_neg this]; exact b5 p hp
  ·intro hp' σ' O' hσ t' d hd
   rw [Tc] at hd
   split at hd
   ·rename_i e
    simp only [jc] at hd
    subst hd
    refine ⟨0, a, by omega, rfl, ?_⟩
    rw [ha]
    refine Vq a3 (a6 w hp' σ' O' fun p hp => ?_)
    have h1 := hσ p (qu _ hp)
    simp only [if_pos (a2 p hp).2] at h1
    exact h1
   ·obtain ⟨j, v, h1, h2, h3⟩ := b6 hp' σ' O' (fun p hp => by
     have h1 := hσ p (qv _ hp)
     have h2 : ¬ p.1 < m1 := by have := b2 p hp; omega
     simp only [if_neg h2] at h1
     exact h1) t' d hd
    exact ⟨j + 1, v, by omega, by simpa using h2, h3⟩
 | .u, _, _ :: _, _, _, _, _, _, _, _, h => by simp [Of] at h
 | .p _ _, _, [], _, _, _, _, _, _, _, h => by simp [Of] at h
 | .i _, _, l, _, _, _, _, _, _, _, h => by simp [Of] at h
 | .b, _, l, _, _, _, _, _, _, _, h => by simp [Of] at h
 | .o, _, l, _, _, _, _, _, _, _, h => by simp [Of] at h
 | .mp _ _, _, l, _, _, _, _, _, _, _, h => by simp [Of] at h
 | .s, _, l, _, _, _, _, _, _, _, h => by simp [Of] at h
 | .sl _, _, l, _, _, _, _, _, _, _, h => by simp [Of] at h
section
variable {P : Program} {G : Ue} {L : List (Nat × Za)} {I : Yf}
theorem Hal (hG : Cj P I G) (hfz : G.fz = false ∨ cmB G.att = true) (hm : P.follows .mixedOrders = true) {f : FuncId} {fn : Func} {c : Code} (hf : P.funcs[f]? = some fn) (hb : fn.body = some c) (hname : (fn.name == "runtime.NumGoroutine") = false)
 (hL : ∀ b, b ∈ He c → Kb G L b) {pt rt : Ty} {fr : List Bool} {F : T pt → Option (T rt)} (hn : pt.npar ≤ fn.ntmps) (hF : ∀ x r, F x = some r → Z1 G L fn pt rt fr x = some r) :
 Gg P I f (.co pt rt fr F) := by
 refine ⟨⟨fn, hf, hname, by rw [hb]; rfl⟩, ?_⟩
 intro O w x r F0 args hx hargs hF0 hO hOF hI hB hFB
 have he := hF x r hx
 unfold Z1 at he
 rw [hb] at he
 simp only at he
 rcases hop : LG pt x 0 400000 with ⟨tm, rows, m⟩
 rw [hop] at he
 simp only at he
 obtain ⟨_, hids, ψ, ν, hbl, hrows, hrep⟩ := CT hop hargs
 refine calls_of_wp hf hb ?_
 have hlen := YO hargs
 have hmem : ∀ id Da, AS.heap ⟨fn.ntmps, tm, rows⟩ id = some Da → id ∈ rows.map (·.1) ∧ FB w (some Da) (ν id) (ψ id) := by
  intro id Da hb
  have hm := AS.heap_mem hb
  exact ⟨yt (f := (·.1)) hm, hrows _ hm⟩
 have hF0' : (Ea ψ (rows.map (·.1))).Nodup := by rw [hbl]; exact hF0
 let A : Fx := ⟨(· ∈ F0), fun _ => none, fun _ _ h => by simp at h, I, hFB⟩
 obtain ⟨O1, hO1, hO1F, hO1R⟩ : ∃ O1 : Nat → Prop, (∀ b, O1 b → b < w.heap.size) ∧ (∀ b, b ∈ F0 → ¬ O1 b) ∧ ∀ (w' : World) (r : T rt) (vs : List Value) (Fr : List Nat), Mc w' (fun b => O1 b ∨ b ∈ Fr) rt r fr vs Fr → Mc w' (fun b => O b ∨ b ∈ Fr) rt r fr vs Fr := by
  rcases hOF with hall | hOF
  ·exact ⟨noO, fun b hb => hb.elim, fun _ _ hb => hb.elim, fun w' r vs Fr hR => hR.all hall⟩
  ·exact ⟨O, hO, hOF, fun _ _ _ _ hR => hR⟩
 have hc : Qa w.heap.size A O1 w ⟨fn.ntmps, tm, rows⟩ ν ψ { tmps := args.toArray ++ Array.replicate (fn.ntmps - args.toArray.size) undef, defers := [] } w := by
  refine ⟨?_, rfl, ?_, ?_, ?_, ?_, ?_, ?_, ⟨rfl, rfl, rfl, jo _, fun _ _ _ => rfl⟩, ?_, hB, hI, fun id kk e xs hb => ((hmem id _ hb).2.nq).elim⟩
  ·simp; omega
  ·intro t d hd
   obtain ⟨j, v, h1, h2, h3⟩ := hrep (AS.heap ⟨fn.ntmps, tm, rows⟩) ν (OO O1 ⟨fn.ntmps, tm, rows⟩ ψ) (fun _ _ => rfl) t d hd
   refine ⟨v, ?_, h3⟩
   have hj : j < args.length := (q8.1 h2).1
   have : t = j := by omega
   subst this
   rw [Array.getElem?_append_left (by simpa using hj)]
   simpa using h2
  ·intro id Da hb
   exact (hmem id Da hb).2.rep
  ·intro id Da hb
   have hi := (hmem id Da hb).1
   have : (ψ id).Sublist (Ea ψ (rows.map (·.1))) := by
    unfold Ea
    exact List.sublist_flatten_of_mem (yt hi)
   exact this.nodup hF0'
  ·intro id id' Da blk' hne hb hb' b hm
   exact ZG hF0' (hmem id Da hb).1 (hmem id' blk' hb').1 hne hm
  ·intro id Da hb b hm
   refine .inr ?_
   show b ∈ F0
   rw [← hbl]
   exact Cb.2 ⟨id, (hmem id Da hb).1, hm⟩
  ·exact hO1
  ·intro id v hv; simp [A] at hv
 refine SU (A := A) hG (fun h => .inr (.inl ⟨hfz.resolve_left (by rw [h]; simp), fun b hb => hO1F b hb⟩)) hm c hL he hc ?_
 intro e s σ φ a w' hk h
 have Zg : (match Vv G s fn.results.toList with
  | some d => match Kg s rt fr d with
   | some (r, l) => bif Nf l then some r else none
   | none => none
  | none => none) = some r → a.defers = [] ∧ ∃ v, (results fn a.tmps).run P w' = .ok v w' ∧ Qr (fun v w' => ∃ vs Fr, v = YC vs ∧ Yu w w' (· ∈ F0) ∧
  Mc w' (fun b => O b ∨ b ∈ Fr) rt r fr vs Fr ∧ Fr.Nodup ∧ ∀ b ∈ Fr, w.heap.size ≤ b ∨ b ∈ F0) (.returned v) w' := by
  intro hk
  split at hk
  ·rename_i d hd
   split at hk
   ·rename_i r' l hr
    simp only [Ja] at hk
    obtain ⟨hnd, hk⟩ := hk
    simp only [jc] at hk
    subst hk
    have hnd := Gh hnd
    obtain ⟨vs, hvs, hru⟩ := IA hG.toEnvTy h hd
    obtain ⟨hR, hlive⟩ := IQ h hr hru
    refine ⟨h.df, _, Cz hvs, vs, Ea φ l, rfl, ⟨h.fr.size, fun b hb hno => h.fr.block b hb hno, h.fr.os, h.fr.tape, h.fr.output⟩, hO1R _ _ _ _ (hR.mono ?_), Rf h hnd hlive, ?_⟩
    ·rintro b (hb | hb)
     ·exact .inl hb
     ·obtain ⟨j, hj, hm'⟩ := Cb.1 hb
      obtain ⟨Da, hbj⟩ := hlive j hj
      exact .inr ⟨j, Da, hbj, hm'⟩
    ·intro b hb
     obtain ⟨j, hj, hm'⟩ := Cb.1 hb
     obtain ⟨Da, hbj⟩ := hlive j hj
     exact h.fresh j Da hbj b hm'
   ·simp at hk
  ·simp at hk
 cases e with
 | normal => exact Zg hk
 | ret => exact Zg hk
 | exit j => simp at hk
theorem Gal {vw cv : Bool} (hG : Cj P I G) (hfz : G.fz = false ∨ ((vw && !cv) = true ∧ AC G.att = true)) (hm : P.follows .mixedOrders = true) {f : FuncId} {fn : Func} {c : Code} (hf : P.funcs[f]? = some fn) (hb : fn.body = some c) (hname : (fn.name == "runtime.NumGoroutine") = false)
 (hL : ∀ b, b ∈ He c → Kb G L b) {τ pt rt : Ty} {fr : List Bool} {F : T τ → T pt → Option (T τ × T rt)} (hn : pt.npar + 1 ≤ fn.ntmps) (hF : ∀ x0 x r, F x0 x = some r → Y1 G L fn vw cv τ pt rt fr x0 x = some r) :
 Gg P I f (.bx vw cv τ pt rt fr F) := by
 refine ⟨⟨fn, hf, hname, by rw [hb]; rfl⟩, ?_⟩
 intro O w x0 x r b cur et F0 F2 args hx hh hsz hcont hargs hnd hO hI hB hFB
 have he := hF x0 x r hx
 unfold Y1 at he
 rw [hb] at he
 simp only at he
 rcases hop : (bif vw then (D.t τ x0, [], 400000) else Ie τ x0 400000) with ⟨d0, rows, m⟩
 rw [hop] at he
 simp only at he
 rcases hop2 : (bif cv then LG pt x 1 m else (Uv pt x 1, [], m)) with ⟨tm, rows2, m2⟩
 rw [hop2] at he
 simp only [Ja] at he
 obtain ⟨hm2, he⟩ := he
 have hm2 := q6 hm2
 have hlt : b < w.heap.size := (Array.getElem?_eq_some_iff.1 hh).1
 have k1 : 400000 ≤ m ∧ (∀ p, p ∈ rows → 400000 ≤ p.1 ∧ p.1 < m) ∧ Bb τ d0 ∧ (∀ c, c ∈ F0 → c < w.heap.size) ∧ ∃ (ψ : Nat → List Nat) (ν : Nat → Value), Ea ψ (rows.map (·.1)) = F0 ∧ (∀ p, p ∈ rows → FB w p.2 (ν p.1) (ψ p.1)) ∧
  ∀ (hp' : Nat → Option Ia) (σ' : Nat → Value), (∀ p, p ∈ rows → σ' p.1 = ν p.1) → Ab w (fun c => O c ∨ c ∈ b :: (F0 ++ F2)) hp' σ' d0 cur.toList := by
  cases vw with
  | true =>
   simp only [ze, jh] at hop
   obtain ⟨rfl, rfl, rfl⟩ := hop
   simp only [if_true] at hcont
   obtain ⟨hv, rfl⟩ := hcont
   refine ⟨jo _, by simp, by simp [Bb], by simp, fun _ => [], fun _ => undef, by simp [Ea], by simp, fun hp' σ' _ => La.weaken (fun c hc => ?_) hv⟩
   rcases hc with hc | hc
   ·exact .inl hc
   ·rcases jp.1 hc with rfl | hc
    ·exact .inr (.inl rfl)
    ·exact .inr (.inr (by simpa using hc))
  | false =>
   simp only [zf] at hop
   simp only [jq, if_false] at hcont
   obtain ⟨a1, a2, a3, ψ1, ν1, a4, a5, a6⟩ := Yw hop hcont
   exact ⟨a1, a2, a3, fun c hc => hcont.lt c hc, ψ1, ν1, a4, a5, fun hp' σ' h => a6 w hp' σ' _ h⟩
 obtain ⟨hnm, hids, hsh, hF0lt, ψ1, ν1, hbl1, hrows1, hrep1⟩ := k1
 have k2 : m ≤ m2 ∧ (∀ p, p ∈ rows2 → m ≤ p.1 ∧ p.1 < m2) ∧ args.length = pt.npar ∧ (∀ c, c ∈ F2 → c < w.heap.size) ∧ ∃ (ψ : Nat → List Nat) (ν : Nat → Value), Ea ψ (rows2.map (·.1)) = F2 ∧ (∀ p, p ∈ rows2 → FB w p.2 (ν p.1) (ψ p.1)) ∧
  ∀ (hp' : Nat → Option Ia) (σ' : Nat → Value), (∀ p, p ∈ rows2 → σ' p.1 = ν p.1) → ∀ t' d, Jb tm t' = some d → ∃ j v, t' = 1 + j ∧ args[j]? = some v ∧ Zc w (fun c => O c ∨ c ∈ b :: (F0 ++ F2)) hp' σ' d v := by
  cases cv with
  | true =>
   simp only [ze] at hop2
   simp only [if_true] at hargs
   obtain ⟨a1, a2, ψ2, ν2, a4, a5, a6⟩ := CT hop2 hargs
   exact ⟨a1, a2, YO hargs, hargs.lt, ψ2, ν2, a4, a5, fun hp' σ' h => a6 hp' σ' _ h⟩
  | false =>
   simp only [zf, jh] at hop2
   obtain ⟨rfl, rfl, rfl⟩ := hop2
   simp only [jq, if_false] at hargs
   obtain ⟨hv, rfl⟩ := hargs
   refine ⟨jo _, by simp, MJ hv, by simp, fun _ => [], fun _ => undef, by simp [Ea], by simp, fun hp' σ' _ t' d hd => ?_⟩
   have : (fun c => O c ∨ c ∈ b :: (F0 ++ [])) = (fun c => O c ∨ c = b ∨ c ∈ F0) := by
    funext c; simp
   rw [this]
   exact MM hv hd
 obtain ⟨hmm, hids2, hlen, hF2lt, ψ2, ν2, hbl2, hrows2, hrep2⟩ := k2
 refine calls_of_wp hf hb ?_
 let ψ : Nat → List Nat := fun id => if id = 500000 then [b] else if id < m then ψ1 id else ψ2 id
 let ν : Nat → Value := fun id => if id = 500000 then .pointer (some ⟨b, 0, none⟩) else if id < m then ν1 id else ν2 id
 have hψ0 : ψ 500000 = [b] := if_pos rfl
 have hν0 : ν 500000 = .pointer (some ⟨b, 0, none⟩) := if_pos rfl
 have hψ1 : ∀ p, p ∈ rows → ψ p.1 = ψ1 p.1 ∧ ν p.1 = ν1 p.1 := fun p hp => by
  have h1 := hids p hp
  have h2 : ¬ p.1 = 500000 := by omega
  simp only [ψ, ν, if_neg h2, if_pos h1.2, and_self]
 have hψ2 : ∀ p, p ∈ rows2 → ψ p.1 = ψ2 p.1 ∧ ν p.1 = ν2 p.1 := fun p hp => by
  have h1 := hids2 p hp
  have h2 : ¬ p.1 = 500000 := by omega
  have h3 : ¬ p.1 < m := by omega
  simp only [ψ, ν, if_neg h2, if_neg h3, and_self]
 let s0 : AS := ⟨fn.ntmps, (0, .ptr 500000 []) :: tm, (500000, some (.box τ d0)) :: (rows ++ rows2)⟩
 have hbx : s0.heap 500000 = some (.box τ d0) := by simp [s0, AS.heap, Tc]
 have hmem : ∀ id Da, s0.heap id = some Da → (id = 500000 ∧ Da = .box τ d0) ∨ (id ≠ 500000 ∧ id ∈ (rows ++ rows2).map (·.1) ∧ FB w (some Da) (ν id) (ψ id)) := by
  intro id Da hb
  by_cases hid : id = 500000
  ·subst hid
   rw [hbx] at hb
   simp only [jc] at hb
   exact .inl ⟨rfl, hb.symm⟩
  ·have hm := AS.heap_mem hb
   simp only [s0, jp, jh, hid, false_and, false_or] at hm
   refine .inr ⟨hid, yt (f := (·.1)) hm, ?_⟩
   rcases jl.1 hm with hm | hm
   ·rw [(hψ1 _ hm).1, (hψ1 _ hm).2]
    exact hrows1 _ hm
   ·rw [(hψ2 _ hm).1, (hψ2 _ hm).2]
    exact hrows2 _ hm
 have hblr : Ea ψ ((rows ++ rows2).map (·.1)) = F0 ++ F2 := by
  rw [yu, Be, ← hbl1, ← hbl2]
  congr 1
  ·exact Zk fun id hid => by
    obtain ⟨p, hp, rfl⟩ := qk.1 hid
    exact (hψ1 p hp).1
  ·exact Zk fun id hid => by
    obtain ⟨p, hp, rfl⟩ := qk.1 hid
    exact (hψ2 p hp).1
 have hbl : Ea ψ (500000 :: (rows ++ rows2).map (·.1)) = b :: (F0 ++ F2) := by
  have : Ea ψ (500000 :: (rows ++ rows2).map (·.1)) = ψ 500000 ++ Ea ψ ((rows ++ rows2).map (·.1)) := by simp only [Ea, yi, yn]
  rw [this, hψ0, hblr]; rfl
 have hndB : (Ea ψ (500000 :: (rows ++ rows2).map (·.1))).Nodup := by rw [hbl]; exact hnd
 have hidin : ∀ id Da, s0.heap id = some Da → id ∈ 500000 :: (rows ++ rows2).map (·.1) := by
  intro id Da hb
  rcases hmem id Da hb with ⟨rfl, _⟩ | ⟨_, h, _⟩
  ·exact List.mem_cons_self
  ·exact jr _ h
 let A : Fx := ⟨(· ∈ b :: (F0 ++ F2)), fun id => if id = 500000 then some (.pointer (some ⟨b, 0, none⟩)) else none, fun id v h => by
  split at h
  ·omega
  ·simp at h, I, hFB⟩
 have hOO : OO (fun c => O c ∨ c ∈ b :: (F0 ++ F2)) s0 ψ = (fun c => O c ∨ c ∈ b :: (F0 ++ F2)) := by
  funext c
  refine propext ⟨fun h => ?_, .inl⟩
  rcases h with h | ⟨id, Da, hb, hm⟩
  ·exact h
  ·refine .inr ?_
   rw [← hbl]
   exact Cb.2 ⟨id, hidin id Da hb, hm⟩
 have hc : Qa w.heap.size A (fun c => O c ∨ c ∈ b :: (F0 ++ F2)) w s0 ν ψ { tmps := (.pointer (some ⟨b, 0, none⟩) :: args).toArray ++ Array.replicate (fn.ntmps - (Value.pointer (some ⟨b, 0, none⟩) :: args).toArray.size) undef, defers := [] } w := by
  refine ⟨?_, rfl, ?_, ?_, ?_, ?_, ?_, ?_, ⟨rfl, rfl, rfl, jo _, fun _ _ _ => rfl⟩, ?_, hB, hI, fun id kk e xs hb => (hmem id _ hb).elim (fun h => by simp at h) fun h => h.2.2.nq.elim⟩
  ·simp [s0]; omega
  ·intro t d hd
   rw [hOO]
   simp only [s0] at hd
   rw [Tc] at hd
   split at hd
   ·rename_i e
    subst e
    simp only [jc] at hd
    subst hd
    refine ⟨.pointer (some ⟨b, 0, none⟩), by rw [Array.getElem?_append_left (by simp)]; simp, ?_⟩
    rw [Uq]
    exact ⟨rfl, fun ρ d _ => ⟨b, hν0, by simp [Hb]⟩⟩
   ·obtain ⟨j, v, h1, h2, h3⟩ := hrep2 s0.heap ν (fun p hp => (hψ2 p hp).2) t d hd
    refine ⟨v, ?_, h3⟩
    have hj : j < args.length := (q8.1 h2).1
    have : t = j + 1 := by omega
    subst this
    rw [Array.getElem?_append_left (by simpa using hj)]
    simpa using h2
  ·intro id Da hb
   rw [hOO]
   rcases hmem id Da hb with ⟨rfl, rfl⟩ | ⟨_, _, h2⟩
   ·exact ⟨hsh, b, cur, et, hν0, hh, hψ0, hrep1 _ _ fun p hp => (hψ1 p hp).2, hsz⟩
   ·exact h2.rep
  ·intro id Da hb
   have hi := hidin id Da hb
   have : (ψ id).Sublist (Ea ψ (500000 :: (rows ++ rows2).map (·.1))) := by
    unfold Ea
    exact List.sublist_flatten_of_mem (yt hi)
   exact this.nodup hndB
  ·intro id id' Da blk' hne hb hb' c hm
   exact ZG hndB (hidin id Da hb) (hidin id' blk' hb') hne hm
  ·intro id Da hb c hm
   refine .inr ?_
   show c ∈ b :: (F0 ++ F2)
   rw [← hbl]
   exact Cb.2 ⟨id, hidin id Da hb, hm⟩
  ·rintro c (hc | hc)
   ·exact hO c hc
   ·rcases jp.1 hc with rfl | hc
    ·exact hlt
    ·rcases jl.1 hc with hc | hc
     ·exact hF0lt c hc
     ·exact hF2lt c hc
  ·intro id v hv
   simp only [A] at hv
   split at hv
   ·rename_i e
    subst e
    simp only [jc] at hv
    exact hν0.trans hv
   ·simp at hv
 have hFz : QJ G A (fun c => O c ∨ c ∈ b :: (F0 ++ F2)) := by
  intro hz
  rcases hfz with h0 | ⟨h1, h2⟩
  ·rw [h0] at hz; simp at hz
  ·simp only [jd, yj] at h1
   obtain ⟨h1, h3⟩ := h1
   subst h1
   subst h3
   simp only [if_true] at hcont
   simp only [jq, if_false] at hargs
   obtain ⟨_, hF0⟩ := hcont
   obtain ⟨_, hF2⟩ := hargs
   refine .inr (.inr ⟨h2, fun x hx => ?_⟩)
   have hx' : x ∈ b :: (F0 ++ F2) := hx
   rw [hF0, hF2] at hx'
   simp only [yw, qc] at hx'
   rw [hx']
   show (if (500000 : Nat) = 500000 then some (Value.pointer (some ⟨b, 0, none⟩)) else none) = _
   exact if_pos rfl
 refine SU (A := A) hG hFz hm c hL he hc ?_
 intro e s σ φ a w' hk h
 have Zg : (match s.heap 500000, Vv G s fn.results.toList with
  | some (.box τ' d1), some d => match Ty.dec τ' τ, (bif vw then (match Bj d1 τ with
   | some y => some (y, [])
   | none => none) else Pb s d1 τ), Kg s rt fr d with
   | some _, some (x', l0), some (r, l) => bif Nf (500000 :: (l0 ++ l)) then some (x', r) else none
   | _, _, _ => none
  | _, _ => none) = some r → a.defers = [] ∧ ∃ v, (results fn a.tmps).run P w' = .ok v w' ∧ Qr (fun v w' => ∃ vs cur' et' F1 Fr, v = YC vs ∧ Yu w w' (· ∈ b :: (F0 ++ F2)) ∧ w'.heap[b]? = some (.cells cur' et' (0, 0)) ∧ cur'.size = τ.size ∧
  (if vw then La w' (fun c => O c ∨ c ∈ b :: (F0 ++ F2) ∨ c ∈ Fr) τ r.1 cur'.toList ∧ F1 = [] else Tb w' τ r.1 cur'.toList F1) ∧
  Mc w' (fun c => O c ∨ c ∈ b :: (F0 ++ F2) ∨ c ∈ F1 ∨ c ∈ Fr) rt r.2 fr vs Fr ∧ (b :: (F1 ++ Fr)).Nodup ∧ ∀ c ∈ F1 ++ Fr, w.heap.size ≤ c ∨ c ∈ F0 ++ F2) (.returned v) w' := by
  intro hk
  split at hk
  ·rename_i τ' d1 d hbx' hd
   split at hk
   ·rename_i q x' l0 r' l hq hx' hr
    obtain rfl := Ud hq
    simp only [Ja] at hk
    obtain ⟨hnd', hk⟩ := hk
    simp only [jc] at hk
    subst hk
    have hnd' := Gh hnd'
    obtain ⟨hsh', b', cur', et', hσ', hh', hF', hr0, hsz'⟩ := h.hp 500000 _ hbx'
    have hpin : σ 500000 = .pointer (some ⟨b, 0, none⟩) := h.pin 500000 _ (show (if (500000 : Nat) = 500000 then some (Value.pointer (some ⟨b, 0, none⟩)) else none) = _ from if_pos rfl)
    rw [hpin] at hσ'
    simp only [Value.pointer.injEq, jc, Addr.mk.injEq, and_true] at hσ'
    subst hσ'
    have hkl : (∀ j, j ∈ l0 → ∃ Da, s.heap j = some Da) ∧ (if vw then La w' (OO (fun c => O c ∨ c ∈ b :: (F0 ++ F2)) s φ) τ' x' cur'.toList ∧ l0 = [] else Tb w' τ' x' cur'.toList (Ea φ l0)) := by
     cases vw with
     | true =>
      simp only [ze] at hx'
      split at hx'
      ·rename_i y hy
       simp only [jc, jh] at hx'
       obtain ⟨rfl, rfl⟩ := hx'
       exact ⟨by simp, by simp only [if_true]; exact ⟨(Wg hy).2 _ hr0, trivial⟩⟩
      ·simp at hx'
     | false =>
      simp only [zf] at hx'
      obtain ⟨g1, g2⟩ := Jn h hx' hr0
      exact ⟨g2, by simpa using g1⟩
    obtain ⟨hlive0, hx1⟩ := hkl
    obtain ⟨vs, hvs, hru⟩ := IA hG.toEnvTy h hd
    obtain ⟨hR, hlive⟩ := IQ h hr hru
    have hall : ∀ j, j ∈ 500000 :: (l0 ++ l) → ∃ Da, s.heap j = some Da := by
     intro j hj
     rcases jp.1 hj with rfl | hj
     ·exact ⟨_, hbx'⟩
     ·rcases jl.1 hj with hj | hj
      ·exact hlive0 j hj
      ·exact hlive j hj
    have hbk : Ea φ (500000 :: (l0 ++ l)) = b :: (Ea φ l0 ++ Ea φ l) := by
     have : Ea φ (500000 :: (l0 ++ l)) = φ 500000 ++ Ea φ (l0 ++ l) := by simp only [Ea, yi, yn]
     rw [this, hF', Be]; rfl
    have hbn := Rf h hnd' hall
    rw [hbk] at hbn
    have hinOO : ∀ c, c ∈ Ea φ l0 ++ Ea φ l → OO (fun c => O c ∨ c ∈ b :: (F0 ++ F2)) s φ c := by
     intro c hc
     rw [← Be] at hc
     obtain ⟨j, hj, hm'⟩ := Cb.1 hc
     obtain ⟨Da, hbj⟩ := hall j (jr _ hj)
     exact .inr ⟨j, Da, hbj, hm'⟩
    refine ⟨h.df, _, Cz hvs, vs, cur', et', Ea φ l0, Ea φ l, rfl, ⟨h.fr.size, fun c hc hno => h.fr.block c hc hno, h.fr.os, h.fr.tape, h.fr.output⟩, hh', hsz', ?_, hR.mono ?_, hbn, ?_⟩
    ·cases vw with
     | true =>
      simp only [if_true] at hx1 ⊢
      refine ⟨hx1.1.weaken ?_, by rw [hx1.2]; simp [Ea]⟩
      rintro c (hc | hc | hc)
      ·exact .inl (.inl hc)
      ·exact .inl (.inr hc)
      ·exact hinOO c (qv _ hc)
     | false => simpa using hx1
    ·rintro c (hc | hc | hc | hc)
     ·exact .inl (.inl hc)
     ·exact .inl (.inr hc)
     ·exact hinOO c (qu _ hc)
     ·exact hinOO c (qv _ hc)
    ·intro c hcm
     have hcb : c ≠ b := by
      rintro rfl
      exact (yk.1 hbn).1 hcm
     rw [← Be] at hcm
     obtain ⟨j, hj, hm'⟩ := Cb.1 hcm
     obtain ⟨Da, hbj⟩ := hall j (jr _ hj)
     rcases h.fresh j Da hbj c hm' with h1 | h1
     ·exact .inl h1
     ·have h1 : c ∈ b :: (F0 ++ F2) := h1
      rcases jp.1 h1 with h1 | h1
      ·exact absurd h1 hcb
      ·exact .inr h1
   ·simp at hk
  ·simp at hk
 cases e with
 | normal => exact Zg hk
 | ret => exact Zg hk
 | exit j => simp at hk
def A2 (G : Ue) (L : List (Nat × Za)) (fn : Func) (pt τ : Ty) (x : T pt) : Option (T τ) :=
 match fn.body with
 | some c => Mu G L c ⟨fn.ntmps, Uv pt x 0, []⟩ fun e s => match e with
  | .exit _ => none
  | _ => match Vv G s fn.results.toList with
   | some (.pr (.ptr id []) .un) => match s.heap id with
    | some (.box τ' d) => match Ty.dec τ' τ, Bj d τ with
     | some _, some y => some y
     | _, _ => none
    | _ => none
   | _ => none
 | none => none
theorem Ial (hG : Cj P I G) (hm : P.follows .mixedOrders = true) {f : FuncId} {fn : Func} {c : Code} (hf : P.funcs[f]? = some fn) (hb : fn.body = some c) (hname : (fn.name == "runtime.NumGoroutine") = false)
 (hL : ∀ b, b ∈ He c → Kb G L b) {pt τ : Ty} {F : T pt → Option (T τ)} (hn : pt.npar ≤ fn.ntmps) (hF : ∀ x r, F x = some r → A2 G L fn pt τ x = some r) : Gg P I f (.nw pt τ F) := by
 refine ⟨⟨fn, hf, hname, by rw [hb]; rfl⟩, ?_⟩
 intro O w x r args hx hargs hO hI hB
 have he := hF x r hx
 unfold A2 at he
 rw [hb] at he
 simp only at he
 refine calls_of_wp hf hb ?_
 have hlen := MJ hargs
 have hc : Qa w.heap.size (QX I) O w ⟨fn.ntmps, Uv pt x 0, []⟩ (fun _ => undef) (fun _ => []) { tmps := args.toArray ++ Array.replicate (fn.ntmps - args.toArray.size) undef, defers := [] } w := by
  have hh : ∀ id, AS.heap ⟨fn.ntmps, Uv pt x 0, []⟩ id = none := fun id => rfl
  refine ⟨?_, rfl, ?_, ?_, ?_, ?_, ?_, hO, ⟨rfl, rfl, rfl, jo _, fun _ _ _ => rfl⟩, ?_, hB, hI, fun id kk e xs hb => by rw [hh] at hb; simp at hb⟩
  ·simp; omega
  ·intro t d hd
   have hOO : OO O ⟨fn.ntmps, Uv pt x 0, []⟩ (fun _ => []) = O := by
    funext b
    simp [OO, hh]
   rw [hOO]
   obtain ⟨j, v, h1, h2, h3⟩ := MM hargs hd
   refine ⟨v, ?_, h3⟩
   have hj : j < args.length := (q8.1 h2).1
   have : t = j := by omega
   subst this
   rw [Array.getElem?_append_left (by simpa using hj)]
   simpa using h2
  ·intro id Da hb; rw [hh] at hb; simp at hb
  ·intro id Da hb; rw [hh] at hb; simp at hb
  ·intro id id' Da blk' _ hb; rw [hh] at hb; simp at hb
  ·intro id Da hb; rw [hh] at hb; simp at hb
  ·intro id v hv; simp [QX] at hv
 refine SU (A := QX I) hG (fun _ => .inl fun _ h => h) hm c hL he hc ?_
 intro e s σ φ a w' hk h
 have Zg : (match Vv G s fn.results.toList with
  | some (.pr (.ptr id []) .un) => match s.heap id with
   | some (.box τ' d) => match Ty.dec τ' τ, Bj d τ with
    | some _, some y => some y
    | _, _ => none
   | _ => none
  | _ => none) = some r → a.defers = [] ∧ ∃ v, (results fn a.tmps).run P w' = .ok v w' ∧ Qr (fun v w' => ∃ b cur et, v = .pointer (some ⟨b, 0, none⟩) ∧ Yu w w' (fun _ => False) ∧ w.heap.size ≤ b ∧ w'.heap[b]? = some (.cells cur et (0, 0)) ∧ cur.size = τ.size ∧ La w' (fun c => O c ∨ c = b) τ r cur.toList) (.returned v) w' := by
  intro hk
  split at hk
  ·rename_i id hd
   split at hk
   ·rename_i τ' d hbx
    split at hk
    ·rename_i q y hq hy
     obtain rfl := Ud hq
     simp only [jc] at hk
     subst hk
     obtain ⟨vs, hvs, hru⟩ := IA hG.toEnvTy h hd
     cases vs with
     | nil => simp [RU] at hru
     | cons v vs =>
      obtain ⟨h1, h2⟩ := hru
      cases vs with
      | cons _ _ => simp [RU] at h2
      | nil =>
       obtain ⟨_, b, cur, et, hσ, hh, hφ, hr0, hsz⟩ := h.hp id _ hbx
       rw [Uq] at h1
       obtain ⟨b', hσ', hv⟩ := h1.2 _ _ hbx
       rw [hσ] at hσ'
       simp only [Value.pointer.injEq, jc, Addr.mk.injEq, and_true] at hσ'
       subst hσ'
       have hmem : b ∈ φ id := by rw [hφ]; simp
       refine ⟨h.df, _, Cz hvs, b, cur, et, by simp only [YC, hv, Hb], ⟨h.fr.size, fun b hb _ => h.fr.block b hb (fun h => h), h.fr.os, h.fr.tape, h.fr.output⟩, (h.fresh id _ hbx b hmem).resolve_right (fun h => h), hh, hsz, ?_⟩
       refine La.weaken ?_ ((Wg hy).2 _ hr0)
       rintro c (hc | rfl)
       ·exact .inl hc
       ·exact .inr ⟨id, _, hbx, hmem⟩
    ·simp at hk
   ·simp at hk
  ·simp at hk
 cases e with
 | normal => exact Zg hk
 | ret => exact Zg hk
 | exit j => simp at hk
end
open Go Go.WideShapes
def AU : (τ : Ty) → T τ → Prop
 | .i k, n => k.has n
 | .b, _ => True
 | .o, _ => True
 | .mp _ _, _ => True
 | .s, x => ja x ≤ Aj
 | .sl e, xs => ja xs ≤ Aj ∧ ∀ i (h : i < ja xs), AU e (List.get xs ⟨i, h⟩)
 | .u, _ => True
 | .p x y, v => AU x v.1 ∧ AU y v.2
def Ty.pos : Ty → Bool
 | .sl e => e.pos && yb 0 e.size
 | .p x y => x.pos && y.pos
 | .o => false
 | .mp _ _ => false
 | _ => true
section
variable {H : Type} {enc : TypeId × Value → H} {P : Program} {w : World} {base : Nat} {spare : Nat → Bool} {held : Bool}
theorem Iq {τ : Ty} {t : TypeId} (h : Nd P τ t = true) : P.cellsOf t = τ.size := by
 obtain ⟨i, h1, h2, _⟩ := Tok.size h
 simp [Program.cellsOf, h1, h2]
theorem Zaq {k : IntKind} {n : Int} (h : (Lit.int k n).wf = true) : k.has n := by
 simpa [Lit.wf, IntKind.has] using h
theorem Dat {a : Addr} {n : Nat} (h : n ≠ 0) : a.add n = ⟨a.block, a.off + n, none⟩ := by
 simp [Addr.add, h]
theorem SN {a : Addr} {n : Nat} {cs : List Value} (h : w.cells? base a n = some cs) (hn : 0 < n) :
 ∃ cur et fr, a = ⟨a.block, a.off, none⟩ ∧ w.heap[a.block]? = some (.cells cur et fr) ∧ a.off + n ≤ cur.size ∧ cs = Fd cur a.off n := by
 unfold World.cells? at h
 split at h
 ·have hlen : cs.length = n := by simpa using mapM_some_length h
  have hget : ∀ i, i < n → w.cell? (a.add i) = cs[i]? := fun i hi => mapM_some_get h i i (by simp [hi])
  have h0 := hget 0 hn
  have ha : a.add 0 = a := by simp [Addr.add]
  rw [ha] at h0
  have hc0 : cs[0]? = some (cs[0]'(by omega)) := je (by omega)
  rw [hc0] at h0
  unfold World.cell? at h0
  split at h0
  ·rename_i cur et fr hb
   have hsp : a.spot = none := by
    cases hs : a.spot with
    | none => rfl
    | some x => simp [hs] at h0
   have hcell : ∀ i, i < n → cur[a.off + i]? = cs[i]? := by
    intro i hi
    have := hget i hi
    by_cases hi0 : i = 0
    ·subst hi0
     rw [ha] at this
     unfold World.cell? at this
     rw [hb] at this
     simpa [hsp] using this
    ·rw [Dat hi0] at this
     unfold World.cell? at this
     simp only at this
     rw [hb] at this
     simpa using this
   refine ⟨cur, et, fr, by cases a; simp_all, hb, ?_, ?_⟩
   ·have h1 := hcell (n - 1) (by omega)
    rw [je (by omega)] at h1
    have := (Array.getElem?_eq_some_iff.1 h1).1
    omega
   ·apply qp
    intro i
    by_cases hi : i < n
    ·rw [Cf _ _ _ _ hi, hcell i hi]
    ·rw [qt (by omega), qt]
     simp [Fd]; omega
  ·simp at h0
 ·simp at h
theorem Yao {fs : List Field} {o : Nat} (h : Vf P .u fs o = true) : fs = [] := by
 cases fs <;> simp_all [Vf]
theorem Y3 {x y : Ty} {fs : List Field} {o : Nat} (h : Vf P (.p x y) fs o = true) : ∃ f r, fs = f :: r ∧ f.offset = o ∧ Nd P x f.type = true ∧ Vf P y r (o + x.size) = true := by
 cases fs with
 | nil => simp [Vf] at h
 | cons f r =>
  simp only [Vf, jd] at h
  exact ⟨f, r, rfl, ju h.1.1.1, h.1.2, h.2⟩
theorem H2 {x y : Ty} {t : TypeId} (h : Nd P (.p x y) t = true) : ∃ fs, P.underlying t = some (.struct fs) ∧ Vf P (.p x y) fs.toList 0 = true := by
 simp only [Nd, jd] at h
 obtain ⟨_, h⟩ := h
 split at h
 ·rename_i fs hfs
  refine ⟨fs, hfs, ?_⟩
  split at h
  ·rename_i f r hr
   rw [hr]
   simpa [Vf] using h
  ·simp at h
 ·simp at h
theorem I2 {t : TypeId} (h : Nd P .u t = true) : ∃ fs, P.underlying t = some (.struct fs) ∧ fs.size = 0 := by
 simp only [Nd, jd] at h
 obtain ⟨_, h⟩ := h
 split at h
 ·rename_i fs hfs
  exact ⟨fs, hfs, ju h⟩
 ·simp at h
mutual
theorem MP (hO : ∀ b, ¬ (fun _ : Nat => False) b) : ∀ (τ : Ty) (t : TypeId) (n : Nat) (cs : List Value) (x : DataW H × List MemPlace), Nd P τ t = true → τ.pos = true →
 DataW.trod enc P w base spare held n t cs = some x → ∃ y : T τ, La w (fun _ => False) τ y cs ∧ AU τ y
 | .i k, t, n, cs, x, ht, _, h => by
  obtain ⟨m, h1, _, h2⟩ := DataW.trod_int (Tok.i ht) h
  exact ⟨m, h1, Zaq h2⟩
 | .b, t, n, cs, x, ht, _, h => by
  obtain ⟨m, h1, _⟩ := DataW.trod_bool (Tok.b ht) h
  exact ⟨m, h1, trivial⟩
 | .o, t, n, cs, x, ht, hp, h => by simp [Ty.pos] at hp
 | .mp _ _, t, n, cs, x, ht, hp, h => by simp [Ty.pos] at hp
 | .s, t, n, cs, x, ht, _, h => by
  obtain ⟨m, h1, _, h2⟩ := DataW.trod_string (Tok.s ht) h
  refine ⟨m.data.toList, ?_, ?_⟩
  ·show cs = [.string ⟨qr m.data.toList⟩]
   rw [h1]
  ·show m.data.toList.length ≤ Aj
   have : m.size = m.data.toList.length := Array.length_toList.symm
   unfold maxLen at h2
   unfold Aj
   omega
 | .sl e, t, n, cs, x, ht, hp, h => by
  obtain ⟨et, hu, he⟩ := Tok.sl ht
  simp only [Ty.pos, jd] at hp
  have hpos : 0 < e.size := by simpa using hp.2
  rcases DataW.trod_slice hu h with ⟨h1, _⟩ | ⟨a, len, cap, elems, rest, m, _, h1, _, _, h2, h3, h4, h5, _, _⟩
  ·exact ⟨([] : List (T e)), ⟨none, 0, h1, jo _, Nat.zero_le _, .inl rfl⟩, ⟨Nat.zero_le _, fun i hi => absurd hi (Nat.not_lt_zero i)⟩⟩
  ·rw [Iq he] at h5
   have hone : ∀ i, i < len → ∃ y : T e, ∃ cs', w.cells? base (a.add (i * e.size)) e.size = some cs' ∧ La w (fun _ => False) e y cs' ∧ AU e y := by
    intro i hi
    have := h5 i hi
    rw [je (by omega), qe] at this
    obtain ⟨cs', hc, hy⟩ := this
    obtain ⟨y, hv, hr⟩ := MP hO e et m cs' _ he hp.1 hy
    exact ⟨y, cs', hc, hv, hr⟩
   let ys : List (T e) := List.ofFn fun i : Fin len => Classical.choose (hone i.1 i.2)
   have hlen : ys.length = len := by simp [ys]
   have hy : ∀ i (h : i < ys.length), ∃ cs', w.cells? base (a.add (i * e.size)) e.size = some cs' ∧ La w (fun _ => False) e (ys.get ⟨i, h⟩) cs' ∧ AU e (ys.get ⟨i, h⟩) := by
    intro i hi
    have := Classical.choose_spec (hone i (by omega))
    simpa [ys] using this
   have hmax : len ≤ Aj := by unfold maxLen at h3; unfold Aj; omega
   refine ⟨ys, ⟨some a, cap, by rw [h1, hlen], by rw [hlen]; exact h2, by rw [hlen]; exact hmax, ?_⟩, by rw [hlen]; exact hmax, fun i hi => (hy i hi).choose_spec.2.2⟩
   by_cases hl0 : len = 0
   ·left
    exact q7 (by omega)
   ·right
    obtain ⟨cs0, hc0, _⟩ := hy 0 (by omega)
    have ha0 : a.add (0 * e.size) = a := by simp [Addr.add]
    rw [ha0] at hc0
    obtain ⟨cur, et', fr, ha, hb, _, _⟩ := SN hc0 hpos
    have hadd : ∀ i, (a.add (i * e.size)).block = a.block ∧ (a.add (i * e.size)).off = a.off + i * e.size := by
     intro i
     unfold Addr.add
     split
     ·rename_i hz; simp [hz]
     ·exact ⟨rfl, rfl⟩
    refine ⟨a.block, a.off, cur, et', fr, by rw [← ha], fun h => h, hb, ?_, ?_⟩
    ·obtain ⟨cs1, hc1, _⟩ := hy (len - 1) (by omega)
     obtain ⟨cur1, et1, fr1, _, hb1, hs1, _⟩ := SN hc1 hpos
     rw [(hadd _).1, hb] at hb1
     simp only [jc, Obj.cells.injEq] at hb1
     rw [(hadd _).2, ← hb1.1] at hs1
     have : len * e.size = (len - 1) * e.size + e.size := by
      rw [← yo]; congr 1; omega
     show a.off + ys.length * e.size ≤ cur.size
     rw [hlen]
     omega
    ·intro i hi
     obtain ⟨cs1, hc1, hv, _⟩ := hy i hi
     obtain ⟨cur1, et1, fr1, _, hb1, _, hs1⟩ := SN hc1 hpos
     rw [(hadd _).1, hb] at hb1
     simp only [jc, Obj.cells.injEq] at hb1
     rw [(hadd _).2, ← hb1.1] at hs1
     rw [← hs1]
     exact hv
 | .u, t, n, cs, x, ht, _, h => by
  obtain ⟨fs, hu, hz⟩ := I2 ht
  obtain ⟨xs, m, _, _, hl, _⟩ := DataW.trod_struct hu h
  rw [Iq ht] at hl
  exact ⟨(), q7 hl, trivial⟩
 | .p a c2, t, n, cs, x, ht, hp, h => by
  obtain ⟨fs, hu, hf⟩ := H2 ht
  obtain ⟨xs, m, _, _, hl, _, hget⟩ := DataW.trod_struct hu h
  rw [Iq ht] at hl
  have := AR hO (.p a c2) fs.toList 0 m cs hf hp (by simpa using hl) (by
   intro i f hi
   have := hget i f (by simpa using hi)
   have hlt : i < xs.length := by
    have : i < fs.toList.length := (q8.1 hi).1
    simp at this; omega
   exact ⟨_, this.trans (je hlt)⟩)
  simpa using this
termination_by τ => (sizeOf τ, 1)
theorem AR (hO : ∀ b, ¬ (fun _ : Nat => False) b) : ∀ (τ : Ty) (fs : List Field) (o m : Nat) (cs : List Value), Vf P τ fs o = true → τ.pos = true → cs.length = o + τ.size →
 (∀ (i : Nat) (f : Field), fs[i]? = some f → ∃ x, DataW.trod enc P w base spare held m f.type ((cs.drop f.offset).take (P.cellsOf f.type)) = some x) →
 ∃ y : T τ, La w (fun _ => False) τ y (cs.drop o) ∧ AU τ y
 | .p a c2, fs, o, m, cs, hf, hp, hl, hx => by
  obtain ⟨f, r, rfl, ho, ht, hr⟩ := Y3 hf
  simp only [Ty.pos, jd] at hp
  simp only [Ty.size] at hl
  obtain ⟨z, hz⟩ := hx 0 f rfl
  rw [Iq ht, ho] at hz
  obtain ⟨y1, hv1, hr1⟩ := MP hO a f.type m _ z ht hp.1 hz
  obtain ⟨y2, hv2, hr2⟩ := AR hO c2 r (o + a.size) m cs hr hp.2 (by omega) (fun i f' hi => hx (i + 1) f' (by simpa using hi))
  refine ⟨(y1, y2), ⟨(cs.drop o).take a.size, cs.drop (o + a.size), ?_, hv1, hv2⟩, hr1, hr2⟩
  rw [← qq, List.take_append_drop]
 | .u, fs, o, m, cs, _, _, hl, _ => ⟨(), by simp only [La, Ty.size] at hl ⊢; exact List.drop_of_length_le (by omega), trivial⟩
 | .i _, fs, o, m, cs, hf, _, _, _ => by simp [Vf] at hf
 | .b, fs, o, m, cs, hf, _, _, _ => by simp [Vf] at hf
 | .o, fs, o, m, cs, hf, _, _, _ => by simp [Vf] at hf
 | .mp _ _, fs, o, m, cs, hf, _, _, _ => by simp [Vf] at hf
 | .s, fs, o, m, cs, hf, _, _, _ => by simp [Vf] at hf
 | .sl _, fs, o, m, cs, hf, _, _, _ => by simp [Vf] at hf
termination_by τ => (sizeOf τ, 0)
end
end
open Go Go.WideShapes Go.ChangeShapes
def Xk (P : Program) : Ty → List TypeId → Bool
 | .p x y, t :: ts => Nd P x t && x.pos && Xk P y ts
 | .u, [] => true
 | _, _ => false
section
variable {H : Type} {enc : TypeId × Value → H} {P : Program} {w : World} {base : Nat} {spare : Nat → Bool} {held : Bool}
theorem Daf {τ : Ty} {t : TypeId} {v : Value} {r : Reach} {b0 : Nat} (ht : Nd P τ t = true) (h : Value.okWide P w r b0 t v) : v = Od τ v.cells.toList := by
 have key : ∀ {τ : Ty}, τ.isAgg = false → v.cells = #[v] → v = Od τ v.cells.toList := by
  intro τ h1 h2
  rw [h2]; simp [Od, h1]
 cases τ with
 | i k =>
  obtain ⟨n, rfl⟩ := okWide_int (Tok.i ht) h
  exact key rfl rfl
 | b =>
  obtain ⟨n, rfl⟩ := okWide_bool (Tok.b ht) h
  exact key rfl rfl
 | o =>
  refine key rfl ?_
  obtain ⟨et, hu⟩ := Tok.o ht
  unfold Value.okWide at h
  rw [hu] at h
  cases v with
  | agg cs => simp [Cell.okWide, Cell.ok, hu] at h
  | _ => rfl
 | mp _ _ =>
  refine key rfl ?_
  obtain ⟨kt, et, hu, _⟩ := Tok.mp ht
  unfold Value.okWide at h
  rw [hu] at h
  cases v with
  | agg cs => simp [Cell.okWide, Cell.ok, hu] at h
  | _ => rfl
 | s =>
  refine key rfl ?_
  have hu := Tok.s ht
  unfold Value.okWide at h
  rw [hu] at h
  cases v with
  | agg cs => simp [Cell.okWide, Cell.ok, hu] at h
  | _ => rfl
 | sl e =>
  refine key rfl ?_
  obtain ⟨et, hu, _⟩ := Tok.sl ht
  unfold Value.okWide at h
  rw [hu] at h
  cases v with
  | agg cs => simp [Cell.okWide, Cell.ok, hu] at h
  | _ => rfl
 | u =>
  obtain ⟨fs, hu, _⟩ := I2 ht
  obtain ⟨cs, rfl, _⟩ := okWide_struct hu h
  simp [Od, Ty.isAgg, Value.cells]
 | p x y =>
  obtain ⟨fs, hu, _⟩ := H2 ht
  obtain ⟨cs, rfl, _⟩ := okWide_struct hu h
  simp [Od, Ty.isAgg, Value.cells]
theorem LP : ∀ {pt : Ty} {ts : List TypeId} {vs : List Value} {ds : List (DataW H)} {ps : List MemPlace}, Xk P pt ts = true → DataW.TrodAll enc P w 0 spare held ts vs ds ps →
 (∀ (j : Nat) t v, ts[j]? = some t → vs[j]? = some v → Value.okWide P w .any base t v) → ∃ x : T pt, Rg w (fun _ => False) pt x vs ∧ AU pt x
 | .p x y, t :: ts, v :: vs, d :: ds, ps, hp, h, hv => by
  simp only [Xk, jd] at hp
  obtain ⟨p, q, ⟨n, h1⟩, h2, _⟩ := h
  obtain ⟨a, ha, hra⟩ := MP (fun _ h => h) x t n _ _ hp.1.1 hp.1.2 h1
  obtain ⟨b, hb, hrb⟩ := LP hp.2 h2 fun j t' v' h1 h2 => hv (j + 1) t' v' (by simpa using h1) (by simpa using h2)
  exact ⟨(a, b), ⟨⟨_, Daf hp.1.1 (hv 0 t v rfl rfl), ha⟩, hb⟩, hra, hrb⟩
 | .u, [], [], [], _, _, _, _ => ⟨(), trivial, trivial⟩
 | .p _ _, [], _, _, _, hp, _, _ => by simp [Xk] at hp
 | .u, _ :: _, _, _, _, hp, _, _ => by simp [Xk] at hp
 | .i _, _, _, _, _, hp, _, _ => by simp [Xk] at hp
 | .b, _, _, _, _, hp, _, _ => by simp [Xk] at hp
 | .o, _, _, _, _, hp, _, _ => by simp [Xk] at hp
 | .mp _ _, _, _, _, _, hp, _, _ => by simp [Xk] at hp
 | .s, _, _, _, _, hp, _, _ => by simp [Xk] at hp
 | .sl _, _, _, _, _, hp, _, _ => by simp [Xk] at hp
 | .p _ _, _ :: _, [], _, _, _, h, _ => by simp [DataW.TrodAll] at h
 | .p _ _, _ :: _, _ :: _, [], _, _, h, _ => by simp [DataW.TrodAll] at h
 | .u, [], _ :: _, _, _, _, h, _ => by simp [DataW.TrodAll] at h
 | .u, [], [], _ :: _, _, _, h, _ => by simp [DataW.TrodAll] at h
def QP (P : Program) (t : TypeId) : Prop := ∃ τ : Ty, Nd P τ t = true ∧ τ.pos = true
theorem Z3 : ∀ {τ : Ty} {fs : List Field} {o : Nat}, Vf P τ fs o = true → τ.pos = true →
 (∀ f ∈ fs, QP P f.type) ∧ τ.size = (fs.map fun f => P.cellsOf f.type).sum ∧ ∀ (j : Nat) f, fs[j]? = some f → f.offset = o + ((fs.take j).map fun f => P.cellsOf f.type).sum
 | .u, fs, o, h, _ => by
  rw [Yao h]
  simp [Ty.size]
 | .p x y, fs, o, h, hp => by
  obtain ⟨f, r, rfl, ho, ht, hr⟩ := Y3 h
  simp only [Ty.pos, jd] at hp
  obtain ⟨h1, h2, h3⟩ := Z3 hr hp.2
  refine ⟨?_, ?_, ?_⟩
  ·intro g hg
   rcases jp.1 hg with rfl | hg
   ·exact ⟨x, ht, hp.1⟩
   ·exact h1 g hg
  ·simp [Ty.size, Iq ht, h2]
  ·intro j g hj
   cases j with
   | zero => simp at hj; subst hj; simp [ho]
   | succ j =>
    have := h3 j g (by simpa using hj)
    simp [this, Iq ht, jt]
 | .i _, fs, o, h, _ => by simp [Vf] at h
 | .b, fs, o, h, _ => by simp [Vf] at h
 | .o, fs, o, h, _ => by simp [Vf] at h
 | .mp _ _, fs, o, h, _ => by simp [Vf] at h
 | .s, fs, o, h, _ => by simp [Vf] at h
 | .sl _, fs, o, h, _ => by simp [Vf] at h
theorem OE {t : TypeId} {u : TypeDesc} (h : QP P t) (hu : P.underlying t = some u) : (∃ k, u = .int k) ∨ u = .bool ∨ u = .string ∨ (∃ e, u = .slice e ∧ QP P e ∧ 0 < P.cellsOf e) ∨ ∃ fs, u = .struct fs := by
 obtain ⟨τ, ht, hp⟩ := h
 cases τ with
 | i k => rw [Tok.i ht] at hu; exact .inl ⟨k, (y3 hu).symm⟩
 | b => rw [Tok.b ht] at hu; exact .inr (.inl (y3 hu).symm)
 | o => simp [Ty.pos] at hp
 | mp _ _ => simp [Ty.pos] at hp
 | s => rw [Tok.s ht] at hu; exact .inr (.inr (.inl (y3 hu).symm))
 | sl e =>
  obtain ⟨et, h1, h2⟩ := Tok.sl ht
  rw [h1] at hu
  simp only [Ty.pos, jd] at hp
  exact .inr (.inr (.inr (.inl ⟨et, (y3 hu).symm, ⟨e, h2, hp.1⟩, by rw [Iq h2]; simpa using hp.2⟩)))
 | u => obtain ⟨fs, h1, _⟩ := I2 ht; rw [h1] at hu; exact .inr (.inr (.inr (.inr ⟨fs, (y3 hu).symm⟩)))
 | p x y => obtain ⟨fs, h1, _⟩ := H2 ht; rw [h1] at hu; exact .inr (.inr (.inr (.inr ⟨fs, (y3 hu).symm⟩)))
theorem Fad : Kids P (QP P) := by
 refine ⟨?_, ?_, ?_, ?_, ?_⟩
 ·intro t e ht hu
  rcases OE ht hu with ⟨k, h⟩ | h | h | ⟨e', h, _⟩ | ⟨fs, h⟩ <;> simp at h
 ·intro t e ht hu
  rcases OE ht hu with ⟨k, h⟩ | h | h | ⟨e', h, h2, _⟩ | ⟨fs, h⟩ <;> simp at h
  rw [h]; exact h2
 ·intro t e n ht hu
  rcases OE ht hu with ⟨k, h⟩ | h | h | ⟨e', h, _⟩ | ⟨fs, h⟩ <;> simp at h
 ·intro t fs ht hu
  obtain ⟨τ, ht, hp⟩ := ht
  cases τ with
  | i k => rw [Tok.i ht] at hu; simp at hu
  | b => rw [Tok.b ht] at hu; simp at hu
  | o => simp [Ty.pos] at hp
  | mp _ _ => simp [Ty.pos] at hp
  | s => rw [Tok.s ht] at hu; simp at hu
  | sl e => obtain ⟨et, h1, _⟩ := Tok.sl ht; rw [h1] at hu; simp at hu
  | u =>
   obtain ⟨fs', h1, h2⟩ := I2 ht
   rw [h1] at hu
   simp only [jc, TypeDesc.struct.injEq] at hu
   subst hu
   have : fs'.toList = [] := by simpa using h2
   rw [Iq ht, this]
   simp [Ty.size]
  | p x y =>
   obtain ⟨fs', h1, h2⟩ := H2 ht
   rw [h1] at hu
   simp only [jc, TypeDesc.struct.injEq] at hu
   subst hu
   obtain ⟨a, b, c⟩ := Z3 h2 hp
   exact ⟨a, by rw [Iq ht, b], fun j f hj => by simpa using c j f hj⟩
 ·intro t k e ht hu
  rcases OE ht hu with ⟨k, h⟩ | h | h | ⟨e', h, _⟩ | ⟨fs, h⟩ <;> simp at h
theorem JR : ∀ {pt : Ty} {ts : List TypeId}, Xk P pt ts = true → ∀ t ∈ ts, QP P t
 | .p x y, t :: ts, h, t', ht => by
  simp only [Xk, jd] at h
  rcases jp.1 ht with rfl | ht
  ·exact ⟨x, h.1.1, h.1.2⟩
  ·exact JR h.2 t' ht
 | .u, [], _, _, ht => by simp at ht
 | .p _ _, [], _, _, ht => by simp at ht
 | .u, _ :: _, h, _, _ => by simp [Xk] at h
 | .i _, _, h, _, _ => by simp [Xk] at h
 | .b, _, h, _, _ => by simp [Xk] at h
 | .o, _, h, _, _ => by simp [Xk] at h
 | .mp _ _, _, h, _, _ => by simp [Xk] at h
 | .s, _, h, _, _ => by simp [Xk] at h
 | .sl _, _, h, _, _ => by simp [Xk] at h
theorem JN {w' : World} {sp' : Nat → Bool} : ∀ {ts : List TypeId} {vs : List Value} {ds : List (DataW H)} {ps : List MemPlace}, (∀ t ∈ ts, QP P t) →
 DataW.TrodAll enc P w 0 (fun _ => true) true ts vs ds ps → (∀ p ∈ ps, w.sameAt w' p) → (∀ p ∈ ps, sp' p.block = true) → DataW.TrodAll enc P w' 0 sp' true ts vs ds ps
 | [], [], [], _, _, h, _, _ => h
 | t :: ts, v :: vs, d :: ds, ps, hp, h, h1, h2 => by
  obtain ⟨p, q, ⟨n, ha⟩, hb, rfl⟩ := h
  refine ⟨p, q, ⟨n, DataW.trod_stays Fad ?_ (fun h => by simp at h) (hp t (by simp)) ha (fun z hz => h1 z (qu _ hz)) (fun z hz => h2 z (qu _ hz))⟩,
   JN (fun t ht => hp t (by simp [ht])) hb (fun z hz => h1 z (qv _ hz)) (fun z hz => h2 z (qv _ hz)), rfl⟩
  intro t e ht hu
  rcases OE ht hu with ⟨k, h⟩ | h | h | ⟨e', h, _, h2⟩ | ⟨fs, h⟩ <;> simp at h
  rw [h]; exact h2
 | [], _ :: _, _, _, _, h, _, _ => by simp [DataW.TrodAll] at h
 | [], [], _ :: _, _, _, h, _, _ => by simp [DataW.TrodAll] at h
 | _ :: _, [], _, _, _, h, _, _ => by simp [DataW.TrodAll] at h
 | _ :: _, _ :: _, [], _, _, h, _, _ => by simp [DataW.TrodAll] at h
theorem QR : ∀ {ts : List TypeId} {vs : List Value} {ds : List (DataW H)} {ps : List MemPlace}, DataW.TrodAll enc P w base spare held ts vs ds ps → ds.length = ts.length
 | [], [], [], _, _ => rfl
 | _ :: _, _ :: _, _ :: _, _, h => by
  obtain ⟨_, _, _, h, _⟩ := h
  simp [QR h]
 | [], _ :: _, _, _, h => by simp [DataW.TrodAll] at h
 | [], [], _ :: _, _, h => by simp [DataW.TrodAll] at h
 | _ :: _, [], _, _, h => by simp [DataW.TrodAll] at h
 | _ :: _, _ :: _, [], _, h => by simp [DataW.TrodAll] at h
theorem Yu.but {w w' : World} (h : Yu w w' fun _ => False) (may : MemPlace → Prop) : w.keptBut w' may := by
 refine ⟨h.os, h.output, fun i hi => ?_⟩
 rw [h.block i hi (fun h => h)]
 cases w.heap[i]? with
 | none => rfl
 | some o =>
  cases o with
  | cells c t fr => exact ⟨rfl, rfl, rfl, fun _ _ => rfl⟩
  | map es clock => exact .inr ⟨rfl, rfl⟩
  | _ => rfl
end
noncomputable def Gb {X R : Type} (step : X → Option (X ⊕ R)) (x : X) : Option R :=
 open Classical in if h : ∃ m y, VE step m x y then some h.choose_spec.choose else none
theorem VE.det {X R : Type} {step : X → Option (X ⊕ R)} : ∀ {m n : Nat} {x : X} {y z : R}, VE step m x y → VE step n x z → y = z
 | 0, _, _, _, _, h, _ => h.elim
 | _ + 1, 0, _, _, _, _, h => h.elim
 | m + 1, n + 1, x, y, z, h, h' => by
  rcases h with h | ⟨x1, h, h1⟩ <;> rcases h' with h' | ⟨x2, h', h2⟩
  ·rw [h] at h'; simpa using h'
  ·rw [h] at h'; simp at h'
  ·rw [h] at h'; simp at h'
  ·rw [h] at h'
   simp only [jc, yz] at h'
   subst h'
   exact VE.det h1 h2
theorem CJ {X R : Type} {step : X → Option (X ⊕ R)} {x : X} {y : R} : Gb step x = some y ↔ ∃ m, VE step m x y := by
 unfold Gb
 constructor
 ·intro h
  split at h
  ·rename_i hh
   simp only [jc] at h
   exact ⟨_, h ▸ hh.choose_spec.choose_spec⟩
  ·simp at h
 ·rintro ⟨m, h⟩
  have hh : ∃ m y, VE step m x y := ⟨m, y, h⟩
  rw [dif_pos hh]
  exact congrArg some (VE.det hh.choose_spec.choose_spec h)
theorem LB {X R : Type} {step : X → Option (X ⊕ R)} (x : X) : Gb step x = (step x).bind (Sum.elim (Gb step) some) := by
 apply Option.ext
 intro y
 rw [CJ]
 constructor
 ·rintro ⟨m, h⟩
  cases m with
  | zero => exact h.elim
  | succ m =>
   rcases h with h | ⟨x', h, h'⟩
   ·simp [h]
   ·simp [h, CJ.2 ⟨m, h'⟩]
 ·intro h
  rw [qe] at h
  obtain ⟨z, hz, h⟩ := h
  cases z with
  | inl x' =>
   obtain ⟨m, hm⟩ := CJ.1 h
   exact ⟨m + 1, .inr ⟨x', hz, hm⟩⟩
  | inr z =>
   simp only [Sum.elim_inr, jc] at h
   subst h
   exact ⟨1, .inl hz⟩
def lp (fn : Func) (i : Nat) : Code := (He (fn.body.getD .skip)).getD i .skip
theorem IZ {G : Ue} {L : List (Nat × Za)} {fn : Func} {i r : Nat} {ls : Za} {R : ls.inT.X → Option (ls.inT.X ⊕ (ls.outT.X ⊕ ls.retT.X))}
 (h1 : Rk (lp fn i) = some r) (h2 : (Jb L r) = some ls) (h3 : ls.F = Gb R) (h4 : ∀ x, GJ G L ls (lp fn i) x = R x) : Kb G L (lp fn i) := by
 intro r' ls' hr hl x y hy
 rw [h1] at hr
 simp only [jc] at hr
 subst hr
 rw [h2] at hl
 simp only [jc] at hl
 subst hl
 rw [h3] at hy
 obtain ⟨m, hm⟩ := CJ.1 hy
 have : GJ G L ls (lp fn i) = R := funext h4
 rw [this]
 exact ⟨m, hm⟩
theorem EJ {G : Ue} {L : List (Nat × Za)} {fn : Func} {k : Nat} (hk : qw (He (fn.body.getD .skip)).length k = true) (h : ∀ i, i < k → Kb G L (lp fn i)) :
 ∀ b, b ∈ He (fn.body.getD .skip) → Kb G L b := by
 intro b hb
 obtain ⟨i, hi, rfl⟩ := List.mem_iff_getElem.1 hb
 have := h i (by rw [← ju hk]; exact hi)
 unfold lp at this
 rwa [qf, je hi] at this
theorem Pa {p : Nat → Prop} : ∀ i, i < 0 → p i := fun i h => absurd h (Nat.not_lt_zero i)
theorem Ta {p : Nat → Prop} {k : Nat} (h : p k) (hr : ∀ i, i < k → p i) : ∀ i, i < k + 1 → p i := by
 intro i hi
 rcases Nat.lt_or_eq_of_le (Nat.lt_succ_iff.1 hi) with hi | rfl
 ·exact hr i hi
 ·exact h
section
variable {P : Program}
theorem Naj {l : List (Nat × Ty)} {fs : List (Nat × Ra)} {m : List (Nat × Nat)} {z : Bool} {ar : List (Nat × Ty × Nat)} {mv ml : List Nat}
 (h : ((l.all fun x => Nd P x.2 x.1) && (ar.all fun x => ZR P x.1 x.2.1 x.2.2)) = true) : EnvTy P ⟨l, fs, m, z, ar, mv, ml⟩ := by
 simp only [jd] at h
 exact ⟨fun t τ ht => yv.1 h.1 (t, τ) (Ew ht), fun t e n ht => yv.1 h.2 (t, e, n) (Ew ht)⟩
theorem UY {I : Yf} {l : List (Nat × Ty)} {m : List (Nat × Nat)} {z : Bool} {ar : List (Nat × Ty × Nat)} {mv ml : List Nat}
 (h : ((l.all fun x => Nd P x.2 x.1) && (ar.all fun x => ZR P x.1 x.2.1 x.2.2)) = true) : Cj P I ⟨l, [], m, z, ar, mv, ml⟩ :=
 { toEnvTy := Naj h, fn := fun f sem h => by simp [Jb] at h }
theorem Cj.cons {I : Yf} {l : List (Nat × Ty)} {fs : List (Nat × Ra)} {m : List (Nat × Nat)} {z : Bool} {ar : List (Nat × Ty × Nat)} {mv ml : List Nat} {f : Nat} {sem : Ra} (hs : Gg P I f sem)
 (h : Cj P I ⟨l, fs, m, z, ar, mv, ml⟩) : Cj P I ⟨l, (f, sem) :: fs, m, z, ar, mv, ml⟩ :=
 { toEnvTy := ⟨h.ty, h.ar⟩, fn := fun g s hg => by
    simp only [Tc] at hg
    split at hg
    ·rename_i e
     simp only [jc] at hg
     subst e; subst hg
     exact hs
    ·exact h.fn g s hg }
theorem MI {fn : Func} (h : fn.body.isSome = true) : fn.body = some (fn.body.getD .skip) := by
 cases hb : fn.body with
 | none => rw [hb] at h; simp at h
 | some c => rfl
variable {I : Yf} {G : Ue} {L : List (Nat × Za)}
theorem GP (hG : Cj P I G) (hm : P.follows .mixedOrders = true) {f : FuncId} {fn : Func} {k : Nat} {pt rt : Ty} {fr : List Bool} {F : T pt → Option (T rt)} (hf : P.funcs[f]? = some fn)
 (hb : (fn.body.isSome && !(fn.name == "runtime.NumGoroutine") && jx pt.npar fn.ntmps && qw (He (fn.body.getD .skip)).length k) = true)
 (hL : ∀ i, i < k → Kb G L (lp fn i)) (hF : ∀ x, evF G L fn pt rt fr x = F x) : Gg P I f (.pu pt rt fr F) := by
 simp only [jd, yj] at hb
 exact Jal hG hm hf (MI hb.1.1.1) hb.1.1.2 (EJ hb.2 hL) (q6 hb.1.2) fun x r h => (hF x).trans h
theorem Vah (hG : Cj P I G) (hfz : (!G.fz || cmB G.att) = true) (hm : P.follows .mixedOrders = true) {f : FuncId} {fn : Func} {k : Nat} {pt rt : Ty} {fr : List Bool} {F : T pt → Option (T rt)} (hf : P.funcs[f]? = some fn)
 (hb : (fn.body.isSome && !(fn.name == "runtime.NumGoroutine") && jx pt.npar fn.ntmps && qw (He (fn.body.getD .skip)).length k) = true)
 (hL : ∀ i, i < k → Kb G L (lp fn i)) (hF : ∀ x, Z1 G L fn pt rt fr x = F x) : Gg P I f (.co pt rt fr F) := by
 simp only [jd, yj] at hb
 exact Hal hG (by simpa using hfz) hm hf (MI hb.1.1.1) hb.1.1.2 (EJ hb.2 hL) (q6 hb.1.2) fun x r h => (hF x).trans h
theorem Tah (hG : Cj P I G) {vw cv : Bool} (hfz : (!G.fz || ((vw && !cv) && AC G.att)) = true) (hm : P.follows .mixedOrders = true) {f : FuncId} {fn : Func} {k : Nat} {τ pt rt : Ty} {fr : List Bool} {F : T τ → T pt → Option (T τ × T rt)} (hf : P.funcs[f]? = some fn)
 (hb : (fn.body.isSome && !(fn.name == "runtime.NumGoroutine") && jx (pt.npar + 1) fn.ntmps && qw (He (fn.body.getD .skip)).length k) = true)
 (hL : ∀ i, i < k → Kb G L (lp fn i)) (hF : ∀ x0 x, Y1 G L fn vw cv τ pt rt fr x0 x = F x0 x) : Gg P I f (.bx vw cv τ pt rt fr F) := by
 simp only [jd, yj] at hb
 have hz : G.fz = false ∨ ((vw && !cv) = true ∧ AC G.att = true) := by
  simp only [qx, yj, jd] at hfz ⊢
  exact hfz
 exact Gal hG hz hm hf (MI hb.1.1.1) hb.1.1.2 (EJ hb.2 hL) (q6 hb.1.2) fun x0 x r h => (hF x0 x).trans h
theorem Wah (hG : Cj P I G) (hm : P.follows .mixedOrders = true) {f : FuncId} {fn : Func} {k : Nat} {pt τ : Ty} {F : T pt → Option (T τ)} (hf : P.funcs[f]? = some fn)
 (hb : (fn.body.isSome && !(fn.name == "runtime.NumGoroutine") && jx pt.npar fn.ntmps && qw (He (fn.body.getD .skip)).length k) = true)
 (hL : ∀ i, i < k → Kb G L (lp fn i)) (hF : ∀ x, A2 G L fn pt τ x = F x) : Gg P I f (.nw pt τ F) := by
 simp only [jd, yj] at hb
 exact Ial hG hm hf (MI hb.1.1.1) hb.1.1.2 (EJ hb.2 hL) (q6 hb.1.2) fun x r h => (hF x).trans h
end
abbrev Zf : Ty := .p (.i .i64) (.p (.sl (.i .i64)) .u)
abbrev Ce : Ty := .p (.i .i64) (.p .o .u)
def hd (h : T .o) : Value := .slice h.1 h.2.1 h.2.2
section
variable {P : Program} {w w' : World}
theorem Jah {x : T Zf} {cs : List Value} {F : List Nat} (h : Tb w Zf x cs F) : ∃ h : T .o, cs = [.int .i64 x.1, hd h] ∧ Tb w (.sl (.i .i64)) x.2.1 [hd h] F := by
 obtain ⟨c1, c2, F1, F2, rfl, rfl, ⟨rfl, rfl⟩, c3, c4, F3, F4, rfl, rfl, h3, rfl, rfl⟩ := h
 have h3' := h3
 obtain ⟨_, ⟨e1, _, _⟩ | ⟨bl, off, cap, cur, et, Fs, e1, _⟩⟩ := h3
 ·subst e1
  exact ⟨(none, 0, 0), rfl, by simpa [hd] using h3'⟩
 ·subst e1
  exact ⟨(some ⟨bl, off, none⟩, ja x.2.1, cap), rfl, by simpa [hd] using h3'⟩
theorem Tat {x : T Zf} {h : T .o} {F : List Nat} (ho : Tb w (.sl (.i .i64)) x.2.1 [hd h] F) : Tb w Zf x [.int .i64 x.1, hd h] F :=
 ⟨[.int .i64 x.1], [hd h], [], F, rfl, rfl, ⟨rfl, rfl⟩, [hd h], [], F, [], by simp, by simp, ho, rfl, rfl⟩
theorem Laa (x : T Ce) (O : Nat → Prop) : La w O Ce x [.int .i64 x.1, hd x.2.1] :=
 ⟨[.int .i64 x.1], [hd x.2.1], rfl, rfl, [hd x.2.1], [], by simp, rfl, rfl⟩
theorem ZW {x : T Ce} {O : Nat → Prop} {cs : List Value} (h : La w O Ce x cs) : cs = [.int .i64 x.1, hd x.2.1] := by
 obtain ⟨c1, c2, rfl, rfl, c3, c4, rfl, rfl, rfl⟩ := h
 rfl
abbrev BU := T Zf × T Ce × List Nat
def Sab (w : World) (p : BU) : Prop := p.2.1.1 = p.1.1 ∧ Tb w (.sl (.i .i64)) p.1.2.1 [hd p.2.1.2.1] p.2.2
theorem Bal {l : List (T Zf)} {cs : List Value} {F : List Nat} (h : Tb w (.sl Zf) l cs F) :
 ∃ Q : List BU, Q.map (·.1) = l ∧ La w (fun _ => False) (.sl Ce) (Q.map (·.2.1)) cs ∧ (∀ p ∈ Q, Sab w p) ∧ (Q.map (·.2.2)).flatten.Sublist F := by
 obtain ⟨hm, ⟨rfl, rfl, rfl⟩ | ⟨bl, off, cap, cur, et, Fs, rfl, hh, h1, h2, h3, rfl, hl, hv⟩⟩ := h
 ·exact ⟨[], rfl, ⟨none, 0, rfl, jo _, hm, .inl rfl⟩, by simp, by simp⟩
 ·have key : ∀ i : Fin (ja l), ∃ h : T .o, Fd cur (off + i.val * Zf.size) Zf.size = [.int .i64 (List.get l i).1, hd h] ∧ Tb w (.sl (.i .i64)) (List.get l i).2.1 [hd h] (Fs.getD i.val []) :=
   fun i => Jah (hv i.val i.isLt)
  have ⟨g, hg⟩ := Classical.axiomOfChoice key
  let Q : List BU := List.ofFn fun i : Fin (ja l) => (List.get l i, ((List.get l i).1, g i, ()), Fs.getD i.val [])
  have hQ : ∀ i (hi : i < ja l), Q[i]'(by simp [Q]; exact hi) = (List.get l ⟨i, hi⟩, ((List.get l ⟨i, hi⟩).1, g ⟨i, hi⟩, ()), Fs.getD i []) := fun i hi => by simp [Q]
  have hQl : Q.length = ja l := by simp [Q]
  refine ⟨Q, ?_, ?_, ?_, ?_⟩
  ·apply List.ext_getElem
   ·simp [hQl]
   ·intro i h1 h2
    rw [List.getElem_map, hQ i h2]; rfl
  ·have hlen : ja (Q.map (·.2.1)) = ja l := by simp [hQl]
   refine ⟨_, cap, by rw [hlen], by rw [hlen]; exact h1, by rw [hlen]; exact hm, .inr ⟨bl, off, cur, et, _, rfl, fun h => h, hh, ?_, fun i hi => ?_⟩⟩
   ·rw [hlen]
    have := jm Zf.size h1
    exact qa (Nat.add_le_add_left this _) h3
   ·have hi' : i < ja l := by rw [← hlen]; exact hi
    have e : List.get (Q.map (·.2.1)) ⟨i, hi⟩ = ((List.get l ⟨i, hi'⟩).1, g ⟨i, hi'⟩, ()) := by
     show (Q.map (·.2.1))[i] = _
     rw [List.getElem_map, hQ i hi']
    rw [e]
    have := (hg ⟨i, hi'⟩).1
    show La w _ Ce _ (Fd cur (off + i * Zf.size) Zf.size)
    rw [this]
    exact Laa (((List.get l ⟨i, hi'⟩).1, g ⟨i, hi'⟩, ()) : T Ce) _
  ·intro p hp
   obtain ⟨i, hi, rfl⟩ := qj hp
   have hi' : i < ja l := by rw [← hQl]; exact hi
   rw [hQ i hi']
   exact ⟨rfl, (hg ⟨i, hi'⟩).2⟩
  ·have e : Q.map (·.2.2) = Fs := by
    apply List.ext_getElem
    ·simp [hQl, hl]
    ·intro i h1 h2
     have hi' : i < ja l := by rw [← hl]; exact h2
     rw [List.getElem_map, hQ i hi']
     simp [qs, je h2]
   rw [e]
   exact List.sublist_cons_self _ _
theorem Kal {Q : List BU} {cs : List Value} {F : List Nat} (h : Tb w (.sl Ce) (Q.map (·.2.1)) cs F) (hQ : ∀ p ∈ Q, Sab w p) :
 ∃ F', Tb w (.sl Zf) (Q.map (·.1)) cs F' ∧ (∀ b, b ∈ F' → b ∈ F ∨ b ∈ (Q.map (·.2.2)).flatten) ∧ ((∀ b, b ∈ F → b ∉ (Q.map (·.2.2)).flatten) → F.Nodup → (Q.map (·.2.2)).flatten.Nodup → F'.Nodup) := by
 obtain ⟨hm, ⟨rfl, hn, rfl⟩ | ⟨bl, off, cap, cur, et, Fs, rfl, hh, h1, h2, h3, rfl, hl, hv⟩⟩ := h
 ·have : Q = [] := List.map_eq_nil_iff.1 hn
  subst this
  exact ⟨[], ⟨hm, .inl ⟨rfl, rfl, rfl⟩⟩, by simp, by simp⟩
 ·have hlen : ja (Q.map (·.2.1)) = Q.length := by simp
  have hlen1 : ja (Q.map (·.1)) = Q.length := by simp
  rw [hlen] at hm h1 hl
  refine ⟨bl :: (Q.map (·.2.2)).flatten, ⟨by rw [hlen1]; exact hm, .inr ⟨bl, off, cap, cur, et, Q.map (·.2.2), by rw [hlen1]; simp, hh, by rw [hlen1]; exact h1, h2, h3, rfl, by simp, fun i hi => ?_⟩⟩, ?_, ?_⟩
  ·have hi' : i < Q.length := by rw [← hlen1]; exact hi
   have hv' := hv i (by rw [hlen]; exact hi')
   have e0 : List.get (Q.map (·.2.1)) ⟨i, by rw [hlen]; exact hi'⟩ = Q[i].2.1 := by
    show (Q.map (·.2.1))[i]'_ = _
    rw [List.getElem_map]
   have e1 : List.get (Q.map (·.1)) ⟨i, hi⟩ = Q[i].1 := by
    show (Q.map (·.1))[i]'_ = _
    rw [List.getElem_map]
   rw [e0] at hv'
   rw [e1]
   have hF0 : ∀ b, b ∈ Fs.getD i [] → False := by
    intro b hb
    obtain ⟨c1, c2, F1, F2, _, hF, ⟨_, rfl⟩, c3, c4, F3, F4, _, rfl, ⟨_, rfl⟩, _, rfl⟩ := hv'
    rw [hF] at hb; simp at hb
   have hcs := ZW (Tb.view (O := fun _ => False) hv' (fun b hb h => h))
   have hok := hQ Q[i] (qi hi')
   have e2 : (Q.map (·.2.2)).getD i [] = Q[i].2.2 := by
    simp [qs, je hi']
   rw [e2]
   show Tb w Zf _ (Fd cur (off + i * Ce.size) Ce.size) _
   rw [hcs, hok.1]
   exact Tat hok.2
  ·intro b hb
   rcases jp.1 hb with rfl | hb
   ·exact .inl (by simp)
   ·exact .inr hb
  ·intro hdj _ hnd
   exact yk.2 ⟨hdj bl (by simp), hnd⟩
end
def Zz (same : T Zf → T Zf → Bool) : T Zf → List (T Zf) → List (T Zf)
 | _, [] => []
 | a, x :: r => cond (same a x) (Zz same x r) (x :: Zz same x r)
def DH (same : T Zf → T Zf → Bool) : T Zf → List BU → List BU
 | _, [] => []
 | a, x :: r => cond (same a x.1) (DH same x.1 r) (x :: DH same x.1 r)
def BM (c : T Ce → T Ce → Option Bool) : T Ce → List (T Ce) → Option (List (T Ce))
 | _, [] => some []
 | a, x :: r => jz (c a x) fun b => jz (BM c x r) fun q => some (cond b q (x :: q))
theorem BS (same : T Zf → T Zf → Bool) : ∀ (Q : List BU) (a : T Zf), (DH same a Q).map (·.1) = Zz same a (Q.map (·.1))
 | [], _ => rfl
 | x :: r, a => by
  simp only [DH, Zz, yi]
  cases same a x.1 with
  | true => simp only [ze]; exact BS same r x.1
  | false => simp only [zf, yi]; rw [BS same r x.1]
theorem CS (same : T Zf → T Zf → Bool) : ∀ (Q : List BU) (a : T Zf), (DH same a Q).Sublist Q
 | [], _ => .slnil
 | x :: r, a => by
  simp only [DH]
  cases same a x.1 with
  | true => exact (CS same r x.1).cons x
  | false => exact (CS same r x.1).cons_cons x
theorem G7 {same : T Zf → T Zf → Bool} {c : T Ce → T Ce → Option Bool} {R : T Zf → T Ce → Prop} (hc : ∀ a ao b bo, R a ao → R b bo → c ao bo = some (same a b)) :
 ∀ (Q : List BU) (a : T Zf) (ao : T Ce), R a ao → (∀ p ∈ Q, R p.1 p.2.1) → BM c ao (Q.map (·.2.1)) = some ((DH same a Q).map (·.2.1))
 | [], _, _, _, _ => rfl
 | x :: r, a, ao, h, hq => by
  have hx := hq x (by simp)
  simp only [yi, BM, DH, hc _ _ _ _ h hx, jb]
  rw [G7 hc r x.1 x.2.1 hx (fun p hp => hq p (by simp [hp]))]
  simp only [jb]
  cases same a x.1 <;> rfl
theorem X6 {α : Type} {a b : List (List α)} (h : a.Sublist b) : a.flatten.Sublist b.flatten := by
 induction h with
 | slnil => simp
 | cons x _ ih => rw [yn]; exact ih.trans (List.sublist_append_right _ _)
 | cons_cons x _ ih => rw [yn, yn]; exact (List.Sublist.refl x).append ih
def YH (x : T Zf) : Bool := jx (ja x.2.1) Oa
noncomputable def Hac (same : T Zf → T Zf → Bool) (a : T Zf) (l : List (T Zf)) : Option (List (T Zf) × Unit) :=
 bif jx (ja l) Oa && (YH a && l.all YH) then some (Zz same a l, ()) else none
theorem Eap {w : World} {O O' : Nat → Prop} {xs ys : List Int} {v : Value} (h1 : La w O (.sl (.i .i64)) xs [v]) (h2 : La w O' (.sl (.i .i64)) ys [v]) : xs = ys := by
 obtain ⟨a, cap, e1, _, _, h1⟩ := h1
 obtain ⟨a', cap', e2, _, _, h2⟩ := h2
 rw [e1] at e2
 simp only [yh, Value.slice.injEq, and_true] at e2
 obtain ⟨rfl, hlen, rfl⟩ := e2
 have hlen' : xs.length = ys.length := hlen
 rcases h1 with h1 | ⟨bl, off, cur, et, fr, ha, _, hh, hs, hv⟩
 ·have h1' : xs = [] := h1
  subst h1'
  exact (q7 (by simpa using hlen'.symm)).symm
 ·rcases h2 with h2 | ⟨bl', off', cur', et', fr', ha', _, hh', hs', hv'⟩
  ·have h2' : ys = [] := h2
   subst h2'
   exact q7 (by simpa using hlen')
  ·rw [ha] at ha'
   simp only [jc, Addr.mk.injEq, and_true] at ha'
   obtain ⟨rfl, rfl⟩ := ha'
   rw [hh] at hh'
   simp only [jc] at hh'
   injection hh' with e3 _ _
   subst e3
   apply List.ext_getElem hlen'
   intro i h1 h2
   have p1 := hv i h1
   have p2 := hv' i h2
   have p1' : Fd cur (off + i * 1) 1 = [Value.int .i64 xs[i]] := p1
   have p2' : Fd cur (off + i * 1) 1 = [Value.int .i64 ys[i]] := p2
   rw [p1'] at p2'
   simpa using p2'
open Classical in
noncomputable def UN (w : World) (h : T .o) : Option (List Int) :=
 if hx : ∃ xs : List Int, La w (fun _ => False) (.sl (.i .i64)) xs [hd h] ∧ ja xs ≤ Oa then some hx.choose else none
theorem PY {w : World} {h : T .o} {xs : List Int} (hc : UN w h = some xs) : La w (fun _ => False) (.sl (.i .i64)) xs [hd h] ∧ ja xs ≤ Oa := by
 unfold UN at hc
 split at hc
 ·rename_i hx
  simp only [jc] at hc
  rw [← hc]; exact hx.choose_spec
 ·simp at hc
theorem H7 {w : World} {h : T .o} {xs : List Int} (hv : La w (fun _ => False) (.sl (.i .i64)) xs [hd h]) (hl : ja xs ≤ Oa) : UN w h = some xs := by
 unfold UN
 have hx : ∃ xs : List Int, La w (fun _ => False) (.sl (.i .i64)) xs [hd h] ∧ ja xs ≤ Oa := ⟨xs, hv, hl⟩
 rw [dif_pos hx]
 rw [Eap hx.choose_spec.1 hv]
noncomputable def G3 (w : World) (same : T Zf → T Zf → Bool) (a b : T Ce) : Option Bool :=
 jz (UN w a.2.1) fun u => jz (UN w b.2.1) fun v => some (same (a.1, u, ()) (b.1, v, ()))
@[reducible] noncomputable def ZX (c : T Ce → T Ce → Option Bool) : Ra := .pu (.p Ce (.p Ce .u)) (.p .b .u) [true] (fun x => jz (c x.1 x.2.1) fun b => some (b, ()))
theorem Nae {w w2 : World} (h : ∀ b, b < w.heap.size → w2.heap[b]? = w.heap[b]?) {τ : Ty} {x : T τ} {cs : List Value} {O : Nat → Prop} (hv : La w O τ x cs) : La w2 O τ x cs :=
 La.stable (fun b _ hb => h b hb) (fun _ _ h => h) hv
theorem Uah {P : Program} {I0 : Yf} {f f2 : FuncId} {SR : T (.p Zf (.p Zf .u)) → Option (T (.p .b .u))} {same : T Zf → T Zf → Bool}
 (hSR : ∀ a b : T Zf, ja a.2.1 ≤ Oa → ja b.2.1 ≤ Oa → SR (a, b, ()) = some (same a b, ()))
 (h2 : Gg P I0 f2 (.pu (.p Zf (.p Zf .u)) (.p .b .u) [true] SR))
 (h : ∀ (I : Yf) (c : T Ce → T Ce → Option Bool), Gg P I f2 (ZX c) → ∃ FO, Gg P I f (.pu (.p Ce (.p (.sl Ce) .u)) (.p (.sl Ce) .u) [true] FO) ∧
  ∀ (a : T Ce) (l r : List (T Ce)), ja l ≤ Oa → BM c a l = some r → FO (a, l, ()) = some (r, ())) :
 Gg P I0 f (.co (.p Zf (.p (.sl Zf) .u)) (.p (.sl Zf) .u) [true] (fun x => Hac same x.1 x.2.1)) := by
 have hE : LA P f := by
  have hS0 : Gg P I0 f2 (ZX fun _ _ => none) := ⟨h2.1, fun O w x r args hF => by simp at hF⟩
  obtain ⟨FO, hs, _⟩ := h I0 _ hS0
  exact hs.1
 refine ⟨hE, ?_⟩
 intro O w x r F0 args hF hA hnd hO _ hI hbase hF0
 obtain ⟨a, l, u⟩ := x
 match args, hA with
 | [a1, a2], hA =>
 obtain ⟨cs1, F1, F2', rfl, rfl, ho1, cs2, F2, F3, rfl, rfl, ho2, hF3⟩ := hA
 have hF3' : F3 = [] := hF3
 subst hF3'
 rw [yw] at *
 simp only [Hac] at hF
 cases hsm : (jx (ja l) Oa && (YH a && l.all YH)) with
 | false => rw [hsm] at hF; simp at hF
 | true =>
 rw [hsm] at hF
 simp only [ze, jc] at hF
 subst hF
 simp only [jd, yv, YH] at hsm
 have hl1 : ja l ≤ Oa := q6 hsm.1
 have hl2 : ja a.2.1 ≤ Oa := q6 hsm.2.1
 have hl3 : ∀ x ∈ l, ja x.2.1 ≤ Oa := fun x hx => q6 (hsm.2.2 x hx)
 obtain ⟨ah, rfl, hoa⟩ := Jah ho1
 obtain ⟨Q, rfl, hvQ, hokQ, hsub⟩ := Bal ho2
 let I : Yf := ⟨w.heap.size, fun w2 => w.heap.size ≤ w2.heap.size ∧ ∀ b, b < w.heap.size → w2.heap[b]? = w.heap[b]?, fun w1 w2 hb h1 => by
  refine ⟨?_, fun b hlt => (hb b hlt).trans (h1.2 b hlt)⟩
  rcases Nat.eq_zero_or_pos w.heap.size with h0 | h0
  ·omega
  ·have e := (hb (w.heap.size - 1) (by omega)).trans (h1.2 (w.heap.size - 1) (by omega))
   rw [Array.getElem?_eq_getElem (show w.heap.size - 1 < w.heap.size by omega)] at e
   have := (Array.getElem?_eq_some_iff.1 e).1
   omega⟩
 have hS : Gg P I f2 (ZX (G3 w same)) := by
  refine ⟨h2.1, ?_⟩
  intro O2 w2 x2 r2 args2 hF2 hA2 hO2 hI2 hb2
  obtain ⟨p, q, u2⟩ := x2
  match args2, hA2 with
  | [b1, b2], hA2 =>
  obtain ⟨⟨c1, rfl, hv1⟩, ⟨c2, rfl, hv2⟩, _⟩ := hA2
  simp only [G3] at hF2
  cases hu : UN w p.2.1 with
  | none => rw [hu] at hF2; simp at hF2
  | some xu =>
   cases hv : UN w q.2.1 with
   | none => rw [hu, hv] at hF2; simp at hF2
   | some xv =>
    rw [hu, hv] at hF2
    simp only [jb, jc] at hF2
    subst hF2
    obtain ⟨hxu, lxu⟩ := PY hu
    obtain ⟨hxv, lxv⟩ := PY hv
    have e1 := ZW hv1
    have e2 := ZW hv2
    subst e1; subst e2
    have mk : ∀ (p : T Ce) (xs : List Int), La w (fun _ => False) (.sl (.i .i64)) xs [hd p.2.1] → La w2 (fun _ => False) Zf (p.1, xs, ()) [.int .i64 p.1, hd p.2.1] := fun p xs hx =>
     ⟨[.int .i64 p.1], [hd p.2.1], rfl, rfl, [hd p.2.1], [], by simp, Nae hI2.2 hx, rfl⟩
    have hc := h2.2 (fun _ => False) w2 ((p.1, xu, ()), (q.1, xv, ()), ()) (same (p.1, xu, ()) (q.1, xv, ()), ()) [Od Ce [.int .i64 p.1, hd p.2.1], Od Ce [.int .i64 q.1, hd q.2.1]]
     (hSR _ _ lxu lxv) ⟨⟨_, rfl, mk p xu hxu⟩, ⟨_, rfl, mk q xv hxv⟩, trivial⟩ (fun b h => h.elim) (I0.st _ _ (fun b hb => hI2.2 b (qh hb hbase)) hI) (qa hbase hI2.1)
    refine hc.mono ?_
    intro e w3 hR
    cases e with
    | returned v =>
     obtain ⟨vs, Fr, hvs, hK, hR, hn, hfr⟩ := hR
     exact ⟨vs, Fr, hvs, hK, hR.all rfl, hn, hfr⟩
    | panicked _ => exact hR
    | outgrown => exact hR
 obtain ⟨FO, hs, hFO⟩ := h I (G3 w same) hS
 have hrel : ∀ a ao b bo, (fun (x : T Zf) (y : T Ce) => y.1 = x.1 ∧ La w (fun _ => False) (.sl (.i .i64)) x.2.1 [hd y.2.1] ∧ ja x.2.1 ≤ Oa) a ao →
  (fun (x : T Zf) (y : T Ce) => y.1 = x.1 ∧ La w (fun _ => False) (.sl (.i .i64)) x.2.1 [hd y.2.1] ∧ ja x.2.1 ≤ Oa) b bo → G3 w same ao bo = some (same a b) := by
  rintro a ao b bo ⟨e1, v1, l1⟩ ⟨e2, v2, l2⟩
  simp only [G3, H7 v1 l1, H7 v2 l2, jb, e1, e2]
 have hch := G7 (R := fun (x : T Zf) (y : T Ce) => y.1 = x.1 ∧ La w (fun _ => False) (.sl (.i .i64)) x.2.1 [hd y.2.1] ∧ ja x.2.1 ≤ Oa) hrel Q a (a.1, ah, ())
  ⟨rfl, Tb.view hoa fun b _ h => h, hl2⟩ (fun p hp => ⟨(hokQ p hp).1, Tb.view (hokQ p hp).2 fun b _ h => h, hl3 p.1 (yt hp)⟩)
 have hFO' := hFO (a.1, ah, ()) (Q.map (·.2.1)) _ (by simpa using hl1) hch
 have hc := hs.2 (fun _ => False) w ((a.1, ah, ()), Q.map (·.2.1), ()) ((DH same a Q).map (·.2.1), ()) [Od Ce [.int .i64 a.1, hd ah], Od (.sl Ce) cs2] hFO'
  ⟨⟨_, rfl, Laa ((a.1, ah, ()) : T Ce) _⟩, ⟨_, rfl, hvQ⟩, trivial⟩ (fun b h => h.elim) ⟨jo _, fun _ _ => rfl⟩ (jo _)
 refine hc.mono ?_
 intro e w3 hR
 cases e with
 | panicked _ => exact hR
 | outgrown => exact hR
 | returned v =>
  obtain ⟨vs, Fr, hvs, hK, hR, hn, hfr⟩ := hR
  match vs, hR with
  | [v1], hR =>
  obtain ⟨cs, G1, G2, rfl, rfl, hown, hG2⟩ := hR
  have hG2' : G2 = [] := hG2
  subst hG2'
  rw [yw] at *
  simp only [if_true] at hown
  have hlt : ∀ b, b ∈ F2 → b < w.heap.size := fun b hb => ho2.lt b hb
  have hsubQ := CS same Q a
  have hok3 : ∀ p ∈ DH same a Q, Sab w3 p := fun p hp => by
   have h0 := hokQ p (hsubQ.mem hp)
   exact ⟨h0.1, Tb.stable h0.2 fun b hb => hK.block b (h0.2.lt b hb) (fun h => h)⟩
  obtain ⟨F', ho', hm', hnd'⟩ := Kal hown hok3
  have hsub2 : ((DH same a Q).map (·.2.2)).flatten.Sublist F2 := by
   refine List.Sublist.trans ?_ hsub
   exact X6 (hsubQ.map _)
  have hndF2 : F2.Nodup := (yl.1 hnd).2.1
  have hnF' : F'.Nodup := hnd' (fun b hb hb2 => by
   have h3 := hfr b hb
   have h4 := hlt b (hsub2.mem hb2)
   omega) hn (hsub2.nodup hndF2)
  refine ⟨[Od (.sl Ce) cs], F', hvs, ⟨hK.size, fun b hb _ => hK.block b hb (fun h => h), hK.os, hK.tape, hK.output⟩, ⟨cs, F', [], rfl, by simp, ?_, rfl⟩, hnF', ?_⟩
  ·simp only [if_true]
   rw [← BS]
   exact ho'
  ·intro b hb
   rcases hm' b hb with hb | hb
   ·exact .inl (hfr b hb)
   ·exact .inr (qv _ (hsub2.mem hb))
noncomputable def srt (xs : List Int) : Option (List Int × Unit) := bif jx (ja xs) Oa then some (List.mergeSort xs (fun x y => decide (x ≤ y)), ()) else none
def T5 (n : Nat) : Bool := jx n 1048576
noncomputable def EW (x y : List UInt8) : Option (List (List UInt8) × Unit) :=
 bif T5 (ja x) && jx 1 (ja y) then some (Lib.split x y, ()) else none
noncomputable def D2 (x : List (List UInt8)) (y : List UInt8) : Option (List UInt8 × Unit) :=
 bif jx (ja x) 1073741824 && jx (ja (Lib.join x y)) 1073741824 then some (Lib.join x y, ()) else none
noncomputable def EQ (n : Int) : Option (List UInt8 × Unit) := bif decide (-9223372036854775808 ≤ n) && decide (n ≤ 9223372036854775807) then some (Lib.itoa n, ()) else none
noncomputable def Mac (x y : List UInt8) : Option (List UInt8 × (List UInt8 × (Bool × Unit))) :=
 bif jx (ja x) 4294967280 then some ((Lib.cut x y).1, (Lib.cut x y).2.1, (Lib.cut x y).2.2, ()) else none
noncomputable def N4 (x y : List UInt8) : Option (Int × Unit) := bif jx (ja x) 4294967280 then some (Lib.index x y, ()) else none
noncomputable def Rm (s : List UInt8) : Int × (Bool × Unit) :=
 bif yb (ja s) 1 || yb 10 (ja s) then ((0 : Int), false, ()) else match Lib.atoi s with
  | none => ((0 : Int), false, ())
  | some n => bif decide (n < -999999999) || decide (n > 999999999) || (Lib.itoa n != s) then ((0 : Int), false, ()) else (n, true, ())
noncomputable def Tad (s : List UInt8) : Option (Int × (Bool × Unit)) := some (Rm s)
theorem Caa {cur : Array Value} {k : Nat} {v : Value} (h : Fd cur k 1 = [v]) : cur[k]? = some v := by
 have := congrArg (·[0]?) h
 simp only [Cf cur k 1 0 (by omega)] at this
 simpa using this
theorem W9 {cur : Array Value} {k : Nat} {v : Value} (h : cur[k]? = some v) : Fd cur k 1 = [v] := by
 apply qp
 intro j
 by_cases hj : j = 0
 ·subst hj; rw [Cf cur k 1 0 (by omega)]; simpa using h
 ·have hk : k < cur.size := (Array.getElem?_eq_some_iff.1 h).1
  have hl : (Fd cur k 1).length = 1 := Id (by omega)
  rw [qt (by omega), qt (by simp; omega)]
theorem Gae {P : Program} {ρ : Go.Shelf.Ren} {f : FuncId} {I : Yf} (L : Go.Proofs.Lays.n191 P ρ) (hf : ρ.f 191 = f) : Gg P I f (.io (.sl (.i .i64)) .u .u [] (fun x0 _ => srt x0)) := by
 subst hf
 refine ⟨⟨_, L.f191, rfl, rfl⟩, ?_⟩
 intro O w x0 x r cs0 F0 args hF ho hnd hA hO _ _ _
 match args, hA with
 | [], _ =>
 simp only [srt] at hF
 cases hl : jx (ja x0) Oa with
 | false => rw [hl] at hF; simp at hF
 | true =>
 rw [hl] at hF
 simp only [ze, jc] at hF
 subst hF
 have hlim : Oa = 1073741824 := rfl
 have hx : ja x0 ≤ Oa := q6 hl
 have ho0 := ho
 obtain ⟨hm, ⟨rfl, hn, rfl⟩ | ⟨bl, off, cap, cur, et, Fs, rfl, hh, h1, h2, h3, rfl, hlen, hv⟩⟩ := ho
 ·have hn' : x0 = [] := hn
  subst hn'
  refine (Go.Proofs.Any.sort_Ints_none L none 0 w).mono ?_
  rintro e w' ⟨rfl, rfl⟩
  refine ⟨[], [], [], rfl, ⟨jo _, fun _ _ _ => rfl, rfl, rfl, rfl⟩, ?_, by simp, rfl, List.nodup_nil, by simp⟩
  show Tb w' (.sl (.i .i64)) (List.mergeSort ([] : List Int) _) _ _
  simpa using ho0
 ·have hcell : ∀ i (hi : i < x0.length), cur[off + i]? = some (.int .i64 x0[i]) := by
   intro i hi
   have := (hv i hi).1
   have e : Fd cur (off + i * 1) 1 = [Value.int .i64 x0[i]] := this
   rw [Nat.mul_one] at e
   exact Caa e
  have hFs : ∀ b, b ∈ Fs.flatten → False := by
   intro b hb
   obtain ⟨l, hl, hb⟩ := List.mem_flatten.1 hb
   obtain ⟨i, hi, rfl⟩ := qj hl
   have := (hv i (by rw [← hlen]; exact hi)).2
   rw [qf, je hi] at this
   simp only [qz] at this
   rw [this] at hb; simp at hb
  have hH : Go.Sort.Holds (Value.int .i64) w bl off x0.toArray := by
   intro j hj
   have hj' : j < x0.length := by simpa using hj
   refine ⟨?_, ?_⟩
   ·unfold World.cell?
    simp only [hh]
    rw [hcell j hj']
    simp [getElem!_pos, hj']
   ·unfold World.frozen?
    simp [hh]
  have hbl : bl < w.heap.size := (Array.getElem?_eq_some_iff.1 hh).1
  refine (Go.Proofs.Any.sort_Ints L bl off cap x0 w hH hbl (by omega)).mono ?_
  rintro e w' ⟨rfl, n, os, rfl⟩
  generalize hzs : (x0.mergeSort fun x y => decide (x ≤ y)) = zs
  have hzl : zs.length = x0.length := by rw [← hzs]; exact List.length_mergeSort _
  have hheap : ∀ b, b < w.heap.size → (Go.Sort.grow (Go.Sort.putRow (Value.int .i64) (Go.Sort.ahead w n) bl off zs.toArray) os).heap[b]? = if bl = b then (w.heap[b]?).map (Go.Sort.onCells (Go.Sort.putCells (Value.int .i64) off zs.toArray)) else w.heap[b]? := by
   intro b hb
   simp only [Go.Sort.grow, Go.Sort.putRow, Go.Sort.mapBlock, Go.Sort.ahead]
   rw [Array.getElem?_append_left (by simpa using hb), Array.getElem?_modify]
  refine ⟨[], bl :: Fs.flatten, [], rfl, ⟨?_, ?_, rfl, rfl, rfl⟩, ?_, fun b hb => .inr hb, rfl, by simpa using hnd, by simp⟩
  ·simp only [Go.Sort.grow, Array.size_append, Go.Sort.size_putRow, Go.Sort.ahead]
   omega
  ·intro b hb hno
   have hne : bl ≠ b := fun e => hno (by rw [e]; simp)
   rw [hheap b hb, if_neg hne]
  ·have hcs : ([.slice (some ⟨bl, off, none⟩) (ja x0) cap] : List Value) = [.slice (some ⟨bl, off, none⟩) (ja (zs : List Int)) cap] := by rw [hzl]
   show Tb _ (.sl (.i .i64)) (zs : List Int) _ _
   rw [hcs]
   refine ⟨by show zs.length ≤ Aj; rw [hzl]; exact hm, .inr ⟨bl, off, cap, _, et, Fs, rfl, (hheap bl hbl).trans (by rw [if_pos rfl, hh]; rfl), by show zs.length ≤ cap; rw [hzl]; exact h1, h2, by simpa [Go.Sort.putCells] using h3, rfl, by show Fs.length = zs.length; rw [hzl]; exact hlen, fun i hi => ?_⟩⟩
   have hi' : i < zs.length := hi
   have hi2 : i < x0.length := by omega
   refine ⟨?_, ?_⟩
   ·show Fd _ (off + i * 1) 1 = [Value.int .i64 zs[i]]
    rw [Nat.mul_one]
    apply W9
    simp only [Go.Sort.putCells, Array.getElem?_mapIdx, hcell i hi2, qb]
    rw [if_pos ⟨by omega, by simp; omega⟩, show off + i - off = i by omega]
    simp [getElem!_pos, hi']
   ·exact (hv i hi2).2
theorem XL (w : World) (o : Obj) : (w.alloc o).heap = w.heap.push o := rfl
theorem W6 {P : Program} {ρ : Go.Shelf.Ren} {f : FuncId} {I : Yf} (L : Go.Proofs.LaysM.n146 P ρ) (hf : ρ.f 146 = f)
 (hI : ∀ w, I.p w → ∃ m, w.cell? ⟨ρ.g 1, 0, none⟩ = some (.int .i64 m)) : Gg P I f (.pu (.p .s (.p .s .u)) (.p (.sl .s) .u) [true] (fun x => EW x.1 x.2.1)) := by
 subst hf
 refine ⟨⟨_, L.f146, rfl, rfl⟩, ?_⟩
 intro O w x r args hF hA hO hi hb
 match args, hA with
 | [a, b], hA =>
  obtain ⟨⟨ca, rfl, hca⟩, ⟨cb, rfl, hcb⟩, _⟩ := hA
  have hca' : ca = [.string ⟨qr x.1⟩] := hca
  have hcb' : cb = [.string ⟨qr x.2.1⟩] := hcb
  subst hca'; subst hcb'
  simp only [EW, T5] at hF
  cases h1 : jx (ja x.1) 1048576 with
  | false => rw [h1] at hF; simp at hF
  | true =>
  cases h2 : jx 1 (ja x.2.1) with
  | false => rw [h1, h2] at hF; simp at hF
  | true =>
  rw [h1, h2] at hF
  simp only [Bool.and_true, ze, jc] at hF
  subst hF
  have h1' := q6 h1
  have h2' := q6 h2
  obtain ⟨m, hm⟩ := hI w hi
  have hs1 : (⟨qr x.1⟩ : ByteArray).size = ja x.1 := by show (qr x.1).size = _; simp
  have hs2 : (⟨qr x.2.1⟩ : ByteArray).size = ja x.2.1 := by show (qr x.2.1).size = _; simp
  have hd : (Lib.splitB ⟨qr x.2.1⟩ 0 (Lib.countB ⟨qr x.1⟩ ⟨qr x.2.1⟩) ⟨qr x.1⟩).map (fun z => z.data.toList) = Lib.split x.1 x.2.1 := by
   rw [Lib.splitB_data]; rfl
  have hlen := Lib.splitB_all ⟨qr x.2.1⟩ (by omega) 0 _ ⟨qr x.1⟩ rfl
  have hle := Lib.countB_le ⟨qr x.2.1⟩ (by omega) _ ⟨qr x.1⟩ (jo _)
  obtain ⟨zs, hz⟩ : ∃ zs, Lib.splitB ⟨qr x.2.1⟩ 0 (Lib.countB ⟨qr x.1⟩ ⟨qr x.2.1⟩) ⟨qr x.1⟩ = zs := ⟨_, rfl⟩
  rw [hz] at hlen hd
  obtain ⟨n, hcn⟩ : ∃ n, Lib.countB ⟨qr x.1⟩ ⟨qr x.2.1⟩ = n := ⟨_, rfl⟩
  rw [hcn] at hlen hle
  have hn : (Lib.split x.1 x.2.1).length = n + 1 := by rw [← hd, yp, hlen]
  refine (Go.Proofs.Any.strings_Split { L with } L.i9 ⟨qr x.1⟩ ⟨qr x.2.1⟩ m w (by omega) hm (by omega)).mono ?_
  rintro e w' ⟨rfl, rfl⟩
  rw [hz]
  refine ⟨[.slice (some ⟨w.heap.size, 0, none⟩) (n + 1) (n + 1)], [w.heap.size], by rw [hcn]; rfl, ⟨?_, ?_, rfl, rfl, rfl⟩, ?_, by simp, by simp⟩
  ·rw [XL]; simp
  ·intro b hb _
   rw [XL]
   simp [Array.getElem?_push_lt hb, Array.getElem?_eq_getElem hb]
  ·refine ⟨[.slice (some ⟨w.heap.size, 0, none⟩) (n + 1) (n + 1)], [w.heap.size], [], rfl, rfl, ?_, rfl⟩
   show Tb _ (.sl .s) (Lib.split x.1 x.2.1) _ _
   refine ⟨by rw [hn]; unfold Aj; omega, .inr ⟨w.heap.size, 0, n + 1, (zs.map Value.string).toArray, ρ.t 9, yd (n + 1) [], ?_, ?_, by omega, by unfold Aj; omega, ?_, ?_, ?_, ?_⟩⟩
   ·rw [hn]
   ·rw [XL]; simp
   ·simp [Ty.size, hlen]
   ·simp
   ·simp [hn]
   ·intro i hi
    have hi' : i < n + 1 := by omega
    have hiz : i < zs.length := by omega
    refine ⟨?_, by simp [qf, List.getElem?_replicate, hi']⟩
    show Fd _ (0 + i * 1) 1 = _
    apply W9
    have : (Lib.split x.1 x.2.1)[i]'hi = (zs[i]).data.toList := by simp [← hd]
    show _ = some (Value.string ⟨qr ((Lib.split x.1 x.2.1)[i]'hi)⟩)
    rw [this]
    simp [hiz]
theorem Cad {P : Program} {ρ : Go.Shelf.Ren} {f : FuncId} {I : Yf} (L : Go.Proofs.Lays.n156 P ρ) (hf : ρ.f 156 = f) (X : Go.Proofs.Builder.Extra P ρ) : Gg P I f (.pu (.p (.sl .s) (.p .s .u)) (.p .s .u) [true] (fun x => D2 x.1 x.2.1)) := by
 subst hf
 refine ⟨⟨_, L.f156, rfl, rfl⟩, ?_⟩
 intro O w x r args hF hA hO hi hb
 match args, hA with
 | [a, b], hA =>
  obtain ⟨⟨ca, rfl, hca⟩, ⟨cb, rfl, hcb⟩, _⟩ := hA
  have hcb' : cb = [.string ⟨qr x.2.1⟩] := hcb
  subst hcb'
  obtain ⟨ad, cap, rfl, hcap, hmx, hrow⟩ := hca
  simp only [D2] at hF
  cases h0 : jx (ja x.1) 1073741824 with
  | false => rw [h0] at hF; simp at hF
  | true =>
  cases h1 : jx (ja (Lib.join x.1 x.2.1)) 1073741824 with
  | false => rw [h0, h1] at hF; simp at hF
  | true =>
  rw [h0, h1] at hF
  simp only [Bool.and_true, ze, jc] at hF
  subst hF
  have h1' := q6 h1
  have h0' := q6 h0
  have hfin : ∀ (e : Ending) (w' : World), e = .returned (.string ⟨(Lib.join x.1 x.2.1).toArray⟩) ∧ Go.RowKit.Below w.heap.size w w' → Qr (fun v w' => ∃ vs Fr, v = YC vs ∧ Yu w w' (fun _ => False) ∧ Mc w' (fun b => O b ∨ b ∈ Fr) (.p .s .u) ((Lib.join x.1 x.2.1, ()) : List UInt8 × Unit) [true] vs Fr ∧ Fr.Nodup ∧ ∀ b ∈ Fr, w.heap.size ≤ b) e w' := by
   rintro e w' ⟨rfl, hB⟩
   exact ⟨[.string ⟨(Lib.join x.1 x.2.1).toArray⟩], [], rfl, ⟨hB.size, fun b hb _ => hB.block b hb, hB.os, hB.tape, hB.output⟩, ⟨_, [], [], rfl, rfl, ⟨rfl, rfl⟩, rfl⟩, by simp, by simp⟩
  have hmp : za (fun z : ByteArray => z.data.toList) (za (fun l : List UInt8 => (⟨l.toArray⟩ : ByteArray)) x.1) = x.1 := by simp [List.map_map, Function.comp_def]
  rcases hrow with hx0 | ⟨bl, off, cur, et, fr, rfl, hno, hh, hsz, hv⟩
  ·have h0' : x.1 = [] := hx0
   have e0 : Lib.join x.1 x.2.1 = [] := by rw [h0']; rfl
   have el : ja x.1 = 0 := by rw [h0']; rfl
   show Calls P (ρ.f 156) #[.slice ad (ja x.1) cap, .string ⟨qr x.2.1⟩] w _
   rw [el]
   refine (Go.Proofs.Any.strings_Join_none L X ad cap ⟨qr x.2.1⟩ w).mono ?_
   rintro e w' ⟨rfl, rfl⟩
   exact hfin _ _ ⟨by rw [e0], Go.RowKit.Below.refl _ _⟩
  ·have hbl : bl < w.heap.size := (Array.getElem?_eq_some_iff.1 hh).1
   have c := Go.Proofs.Any.strings_Join L X bl off cap (za (fun l : List UInt8 => (⟨l.toArray⟩ : ByteArray)) x.1) ⟨qr x.2.1⟩ w ?_ hbl (by rw [yp]; show ja x.1 ≤ _; omega) (by rw [yp]; exact hcap) (by rw [hmp]; show (Lib.join x.1 (qr x.2.1).toList).length ≤ _; rw [List.toList_toArray]; omega)
   ·rw [hmp, yp] at c
    refine c.mono ?_
    rintro e w' ⟨rfl, hB⟩
    refine hfin _ _ ⟨?_, hB⟩
    show Ending.returned (Value.string ⟨(Lib.join x.1 (qr x.2.1).toList).toArray⟩) = _
    rw [List.toList_toArray]
   ·intro j z hj
    obtain ⟨hj', rfl⟩ := q8.1 hj
    rw [yp] at hj'
    have e : Fd cur (off + j * 1) 1 = [Value.string ⟨qr (x.1[j]'hj')⟩] := hv j hj'
    rw [Nat.mul_one] at e
    unfold World.cell?
    simp only [hh]
    rw [Caa e]
    simp
theorem Bad {P : Program} {ρ : Go.Shelf.Ren} {f : FuncId} {I : Yf} (L : Go.Proofs.LaysM.n171 P ρ) (hf : ρ.f 171 = f) (hI : ∀ w, I.p w → Lib.TabIs P w "internal/strconv.uint64pow10" .u64 Lib.pow10Tab) : Gg P I f (.pu (.p (.i .i64) .u) (.p .s .u) [true] (fun x => EQ x.1)) := by
 subst hf
 refine ⟨⟨_, L.f171, rfl, rfl⟩, ?_⟩
 intro O w x r args hF hA hO hi hb
 match args, hA with
 | [a], hA =>
  obtain ⟨⟨ca, rfl, hca⟩, _⟩ := hA
  have hca' : ca = [.int .i64 x.1] := hca
  subst hca'
  simp only [EQ] at hF
  by_cases h1 : -9223372036854775808 ≤ (x.1 : Int)
  case neg => rw [decide_eq_false h1] at hF; simp at hF
  by_cases h2 : (x.1 : Int) ≤ 9223372036854775807
  case neg => rw [decide_eq_false h2] at hF; simp at hF
  rw [decide_eq_true h1, decide_eq_true h2] at hF
  simp only [Bool.and_true, ze, jc] at hF
  subst hF
  refine (Go.Proofs.Any.strconv_Itoa L x.1 h1 h2 w (hI w hi)).mono ?_
  rintro e w' ⟨rfl, k, os, rfl⟩
  refine ⟨[.string ⟨(Lib.itoa x.1).toArray⟩], [], rfl, ⟨?_, ?_, rfl, rfl, rfl⟩, ⟨_, [], [], rfl, rfl, ⟨rfl, rfl⟩, rfl⟩, by simp, by simp⟩
  ·simp only [Go.Sort.grow, Array.size_append, World.drewN]
   omega
  ·intro b hb _
   simp only [Go.Sort.grow, World.drewN]
   rw [Array.getElem?_append_left hb]
open Go Go.WideShapes Go.ChangeShapes
theorem Qu {P : Program} {W : World} {x : String × DataW Unit} {rest : List (String × DataW Unit)} {ps : List MemPlace} (h : DataW.LaidVars P W (x :: rest) ps) : ∃ q, DataW.LaidVars P W rest q := by
 obtain ⟨g, t, cs, fuel, p, q, _, _, _, _, h, _⟩ := h
 exact ⟨q, h⟩
theorem V0 {P : Program} {W : World} {name : String} {k : IntKind} {zs : List Int} {rest : List (String × DataW Unit)} {ps : List MemPlace} {g : Nat} {t e : TypeId} {n : Nat}
 (hg : P.globalNamed name = some g) (hty : (P.globals[g]?).map (·.type) = some t) (ht : P.underlying t = some (.array n e)) (he : P.underlying e = some (.int k)) (hce : P.cellsOf e = 1) (hct : P.cellsOf t = n)
 (h : DataW.LaidVars P W ((name, Lib.tabData k zs) :: rest) ps) : Lib.TabIs P W name k zs := by
 obtain ⟨g', t', cs, fuel, p, q, hg', ht', hvar, hd, _, _⟩ := h
 obtain rfl := y3 (hg.symm.trans hg')
 obtain rfl := y3 (hty.symm.trans ht')
 unfold Lib.TabIs
 rw [hvar, ← Lib.cells_of_tab ht he hce hct hd]
def Wat (g : Nat) : Yf := ⟨g + 1, fun w => ∃ m, w.cell? ⟨g, 0, none⟩ = some (.int .i64 m), fun w w' hb h => by
 obtain ⟨m, hm⟩ := h
 refine ⟨m, ?_⟩
 unfold World.cell? at hm ⊢
 rw [hb g (Nat.lt_succ_self g)]
 exact hm⟩
theorem Aag {g : Nat} {w : World} (h : (Wat g).p w) : (Wat g).base ≤ w.heap.size := by
 obtain ⟨m, hm⟩ := h
 unfold World.cell? at hm
 have : g < w.heap.size := by
  apply Classical.byContradiction
  intro hn
  simp only [Array.getElem?_eq_none (show w.heap.size ≤ g by omega)] at hm
  simp at hm
 exact this
def Aad (P : Program) (g a : Nat) (name : String) (k : IntKind) (zs : List Int) (ha : P.globalNamed name = some a) : Yf := ⟨max g a + 1, fun w => (∃ m, w.cell? ⟨g, 0, none⟩ = some (.int .i64 m)) ∧ Lib.TabIs P w name k zs, fun w w' hb h => by
 obtain ⟨⟨m, hm⟩, ht⟩ := h
 refine ⟨⟨m, ?_⟩, ?_⟩
 ·unfold World.cell? at hm ⊢
  rw [hb g (by omega)]
  exact hm
 ·unfold Lib.TabIs World.var? at ht ⊢
  rw [ha] at ht ⊢
  simp only [jb] at ht ⊢
  rw [hb a (by omega)]
  exact ht⟩
theorem Cag {P : Program} {g a : Nat} {name : String} {k : IntKind} {zs : List Int} {ha : P.globalNamed name = some a} {w : World} (h : (Aad P g a name k zs ha).p w) : (Aad P g a name k zs ha).base ≤ w.heap.size := by
 obtain ⟨h1, ht⟩ := h
 have h1' : g + 1 ≤ w.heap.size := Aag (g := g) h1
 have : a < w.heap.size := by
  apply Classical.byContradiction
  intro hn
  unfold Lib.TabIs World.var? at ht
  rw [ha] at ht
  simp only [jb, Array.getElem?_eq_none (show w.heap.size ≤ a by omega)] at ht
  simp at ht
 show max g a + 1 ≤ _
 omega
theorem CF {P : Program} {l : List (String × DataW Unit)} {w : World} (h : (l.filter fun x => x.2.handleName?.isSome) = []) : laidMetH P l w = laidMet P l w := by
 unfold laidMetH
 rw [h]
section
variable {H : Type} {enc : TypeId × Value → H}
theorem NQ {a : Assume} {C : Checked} {os : Os} {f : FuncId} {fn : Func} {s : ChangeSpec} {conds : List PathCond} {apart fresh handsOn again : Bool} {X : World → Array Value → Prop}
 (hX : ∀ (w w' : World) (args : Array Value), w.heap = w'.heap → X w args → X w' args)
 (own : ownKnob C.prog.godebug = none) (started : os.Started) (noInit : C.prog.inits.idxOf? f = none) (hfn : C.prog.funcs[f]? = some fn)
 (witness : ∃ (w : World) (tape : Tape) (i : Input), w.os = os ∧ (w.forCall tape i).Shaped C.prog ∧ i.vars = [] ∧ Input.okWide C.prog (w.forCall tape i) .any w.heap.size f i ∧
  ((s.pre enc C.prog fn conds apart (w.forCall tape i).memory i.args ∧ X (w.forCall tape i).memory i.args) ∧ sizedMet enc C.prog fn (OpenSpec.ofChange s) apart (w.forCall tape i).memory i.args) ∧ a.holds C.prog (lone (Frame.enter C.prog f i.args .normal) [] (w.forCall tape i)))
 (contract : ∀ (W : World) (base : Nat) (args : Array Value) (ds gs : List (DataW H)) (before : List MemPlace),
  (∀ (j : Nat) t v, fn.params[j]? = some t → args[j]? = some v → Value.okWide C.prog W .any base t v) →
  DataW.Whole enc C.prog fn.params.toList s.vars apart W args.toList ds gs before →
  conds.all (PathCond.test C.prog ⟨fn.params.toList, ds, s.plain.varTypes C.prog, gs⟩) = true →
  (DataW.weightsEach C.prog (fn.params.toList ++ s.plain.varTypes C.prog) (ds ++ gs)).all (· ≤ reachBytes) = true → W.ShapedOpen C.prog → X W args →
  a.holds C.prog (lone (Frame.enter C.prog f args .normal) [] W) →
  Calls C.prog f args W fun e W' => ∃ v, e = .returned v ∧ s.post enc C.prog fn apart fresh handsOn again W args v W') :
 ReturnsInHanded a C os f .any (fun w args => (s.pre enc C.prog fn conds apart w args ∧ X w args) ∧ sizedMet enc C.prog fn (OpenSpec.ofChange s) apart w args) (s.post enc C.prog fn apart fresh handsOn again) := by
 refine returnsInHanded_of_calls own started noInit witness ?_
 intro w tape i _ hsh _ hok hpre hholds
 obtain ⟨_, _, _, fn', hfn', _, _, _, _, hval⟩ := hok
 have e : fn' = fn := y3 (hfn'.symm.trans hfn)
 subst e
 obtain ⟨⟨⟨ds, gs, before, hw, hc⟩, hx⟩, hz⟩ := hpre
 have hw' := DataW.Whole.of_heap (w' := w.forCall tape i) (by rfl) hw
 refine (contract (w.forCall tape i) w.heap.size i.args ds gs before hval hw' hc (hz.weights hw) hsh (hX _ _ _ (by rfl) hx) hholds).mono fun e W' ⟨v, he, hp⟩ => ?_
 subst he
 exact ChangeSpec.post_blind hp
theorem T4 {C : Checked} {os : Os} {f : FuncId} {fn : Func} {s : ChangeSpec} {apart fresh handsOn again : Bool} {pt : Ty} {fl : Bool} {F : T pt → Option (Bool × Unit)} {tb : TypeId} {I : Yf} {laid : List (String × DataW Unit)}
 (own : ownKnob C.prog.godebug = none) (started : os.Started) (noInit : C.prog.inits.idxOf? f = none) (hfn : C.prog.funcs[f]? = some fn)
 (witness : ∃ (w : World) (tape : Tape) (i : Input), w.os = os ∧ (w.forCall tape i).Shaped C.prog ∧ i.vars = [] ∧ Input.okWide C.prog (w.forCall tape i) .any w.heap.size f i ∧
  ((s.pre enc C.prog fn [] apart (w.forCall tape i).memory i.args ∧ laidMetH C.prog laid (w.forCall tape i).memory) ∧ sizedMet enc C.prog fn (OpenSpec.ofChange s) apart (w.forCall tape i).memory i.args) ∧ ({} : Assume).holds C.prog (lone (Frame.enter C.prog f i.args .normal) [] (w.forCall tape i)))
 (hvars : s.vars = []) (hs : ∀ ds : List (DataW H), ds.length = fn.params.toList.length → s.fn H ds = { results := [.lit (.bool true)], args := ds })
 (hp : Xk C.prog pt fn.params.toList = true) (hr : fn.resultTypes = #[tb]) (htb : C.prog.underlying tb = some .bool)
 (hsound : Gg C.prog I f (.pu pt (.p .b .u) [fl] F)) (hF : ∀ x, AU pt x → F x = some (true, ()))
 (hI : ∀ W : World, W.ShapedOpen C.prog → laidMetH C.prog laid W → I.p W ∧ I.base ≤ W.heap.size) (hnh : (laid.filter fun x => x.2.handleName?.isSome) = []) :
 ReturnsInHanded {} C os f .any (fun w args => (s.pre enc C.prog fn [] apart w args ∧ laidMetH C.prog laid w) ∧ sizedMet enc C.prog fn (OpenSpec.ofChange s) apart w args) (s.post enc C.prog fn apart fresh handsOn again) := by
 refine NQ (X := fun w _ => laidMetH C.prog laid w) (fun _ _ _ hh h => by
  rw [CF hnh] at h ⊢
  exact h.of_heap hh) own started noInit hfn witness ?_
 intro W b0 args ds gs before hval hW _ _ hsh hX _
 have hW0 := hW
 obtain ⟨p, q, hA, hV, hps, hfz, hnd⟩ := hW
 rw [hvars] at hV
 have hgs : gs = [] ∧ q = [] := by
  cases gs with
  | nil => exact ⟨rfl, hV⟩
  | cons _ _ => exact hV.elim
 obtain ⟨rfl, rfl⟩ := hgs
 simp only [yw] at hps
 subst hps
 obtain ⟨x, hx, hrx⟩ := LP (base := b0) hp hA fun j t v h1 h2 => hval j t v (by simpa using h1) (by simpa using h2)
 have hcall := hsound.2 (fun _ => False) W x (true, ()) args.toList (hF x hrx) hx (fun _ h => h.elim) (hI W hsh hX).1 (hI W hsh hX).2
 refine hcall.mono fun e W' hret => ?_
 cases e with
 | returned v =>
  obtain ⟨vs, Fr, hv, hk, hR, _, _⟩ := hret
  have hvt : v = .bool true := by
   cases vs with
   | nil => simp [Mc] at hR
   | cons a r =>
    obtain ⟨cs, F1, F2, ha, _, hown, hrest⟩ := hR
    cases r with
    | cons _ _ => simp [Mc] at hrest
    | nil =>
     have hcs : cs = [.bool true] := by
      cases fl with
      | true => exact hown.1
      | false => exact hown.1
     rw [hv, YC, ha, hcs]
     rfl
  subst hvt
  refine ⟨_, rfl, ?_⟩
  have hsp := hs ds (QR hA)
  have hlt : ∀ z ∈ before, z.block < W.heap.size := hW0.lt
  have hsame : ∀ z ∈ before, W.sameAt W' z := by
   intro z hz
   have hb := hk.block z.block (hlt z hz) (fun h => h)
   cases z with
   | cell b off =>
    show W'.cell? _ = W.cell? _
    simp only [World.cell?]
    rw [show W'.heap[b]? = W.heap[b]? from hb]
   | map b => exact hb
  have hargs : ∀ sp : Nat → Bool, (∀ z ∈ before, sp z.block = true) → DataW.TrodAll enc C.prog W' 0 sp true fn.params.toList args.toList ds before :=
   fun sp h => JN (JR hp) hA hsame h
  have hres : ∀ (b : Nat) (sp : Nat → Bool) (hd : Bool), DataW.TrodAll enc C.prog W' b sp hd fn.resultTypes.toList ((Value.bool true).resultList fn.resultTypes.size) [.lit (.bool true)] [] := by
   intro b sp hd
   rw [hr]
   exact trodAll_mk1 (Go.RowKit.shut_bool htb true)
  have hold : ∀ z ∈ before, (fun b => decide (b < W.heap.size)) z.block = true := fun z hz => by simpa using hlt z hz
  refine ⟨ds, [], before, [], before, [], hW0, ?_, ?_, ?_, hk.but _, fun _ => ⟨?_, ds.cons (.lit (.bool true)), [], before, ⟨before, [], ?_, ?_, by simp, ?_, ?_⟩, fun z hz _ => hz⟩⟩
  ·rw [yw, hsp]; exact hres _ _ _
  ·rw [yw, hsp]; exact hargs _ hold
  ·rw [yw, hsp, hvars]; rfl
  ·intro j t r hj hv
   rw [hr] at hj hv
   match j, hj, hv with
   | 0, hj, hv =>
    simp only [List.getElem?_toArray, List.getElem?_cons_zero, jc] at hj
    simp [Value.resultList] at hv
    subst hj; subst hv
    exact Go.RowKit.okWide_bool_mk htb true
  ·exact trodAll_append (hargs _ (fun _ _ => rfl)) (hres _ _ _)
  ·rw [hvars]; rfl
  ·intro b off hz
   have := hfz b off hz
   unfold World.frozen? at this ⊢
   rw [show W'.heap[b]? = W.heap[b]? from hk.block b (hlt _ hz) (fun h => h)]
   exact this
  ·exact hnd
 | _ => exact hret.elim
end
theorem Oaf (w : World) (n : Nat) : Yu w (w.drewN n) (fun _ => False) := ⟨jo _, fun _ _ _ => rfl, rfl, rfl, rfl⟩
theorem DE (l : List UInt8) : (⟨qr l⟩ : ByteArray).data.toList = l := by simp
theorem Jaf {P : Program} {ρ : Go.Shelf.Ren} {f : FuncId} {I : Yf} (L : Go.Proofs.Lays.n145 P ρ) (hf : ρ.f 145 = f)
 (hI : ∀ w, I.p w → ∃ m, w.cell? ⟨ρ.g 1, 0, none⟩ = some (.int .i64 m)) : Gg P I f (.pu (.p .s (.p .s .u)) (.p .s (.p .s (.p .b .u))) [true, true, true] (fun x => Mac x.1 x.2.1)) := by
 subst hf
 refine ⟨⟨_, L.f145, rfl, rfl⟩, ?_⟩
 intro O w x r args hF hA hO hi hb
 match args, hA with
 | [a, b], hA =>
  obtain ⟨⟨ca, rfl, hca⟩, ⟨cb, rfl, hcb⟩, _⟩ := hA
  have hca' : ca = [.string ⟨qr x.1⟩] := hca
  have hcb' : cb = [.string ⟨qr x.2.1⟩] := hcb
  subst hca'; subst hcb'
  simp only [Mac] at hF
  cases h1 : jx (ja x.1) 4294967280 with
  | false => rw [h1] at hF; simp at hF
  | true =>
  rw [h1] at hF
  simp only [ze, jc] at hF
  subst hF
  have h1' := q6 h1
  obtain ⟨m, hm⟩ := hI w hi
  have hs1 : (⟨qr x.1⟩ : ByteArray).size = ja x.1 := by show (qr x.1).size = _; simp
  refine (Go.Proofs.Any.strings_Cut L ⟨qr x.1⟩ ⟨qr x.2.1⟩ m w (by omega) hm).mono ?_
  rintro e w' ⟨rfl, n, rfl⟩
  rw [DE, DE]
  refine ⟨[.string ⟨(Lib.cut x.1 x.2.1).1.toArray⟩, .string ⟨(Lib.cut x.1 x.2.1).2.1.toArray⟩, .bool (Lib.cut x.1 x.2.1).2.2], [], rfl, Oaf w n, ?_, by simp, by simp⟩
  exact ⟨_, [], [], rfl, rfl, ⟨rfl, rfl⟩, _, [], [], rfl, rfl, ⟨rfl, rfl⟩, _, [], [], rfl, rfl, ⟨rfl, rfl⟩, rfl⟩
theorem O6 {P : Program} {ρ : Go.Shelf.Ren} {f : FuncId} {I : Yf} (L : Go.Proofs.Lays.n143 P ρ) (hf : ρ.f 143 = f)
 (hI : ∀ w, I.p w → ∃ m, w.cell? ⟨ρ.g 1, 0, none⟩ = some (.int .i64 m)) : Gg P I f (.pu (.p .s (.p .s .u)) (.p (.i .i64) .u) [true] (fun x => N4 x.1 x.2.1)) := by
 subst hf
 refine ⟨⟨_, L.f143, rfl, rfl⟩, ?_⟩
 intro O w x r args hF hA hO hi hb
 match args, hA with
 | [a, b], hA =>
  obtain ⟨⟨ca, rfl, hca⟩, ⟨cb, rfl, hcb⟩, _⟩ := hA
  have hca' : ca = [.string ⟨qr x.1⟩] := hca
  have hcb' : cb = [.string ⟨qr x.2.1⟩] := hcb
  subst hca'; subst hcb'
  simp only [N4] at hF
  cases h1 : jx (ja x.1) 4294967280 with
  | false => rw [h1] at hF; simp at hF
  | true =>
  rw [h1] at hF
  simp only [ze, jc] at hF
  subst hF
  have h1' := q6 h1
  obtain ⟨m, hm⟩ := hI w hi
  have hs1 : (⟨qr x.1⟩ : ByteArray).size = ja x.1 := by show (qr x.1).size = _; simp
  refine (Go.Proofs.Any.strings_Index L ⟨qr x.1⟩ ⟨qr x.2.1⟩ m w (by omega) hm).mono ?_
  rintro e w' ⟨rfl, rfl⟩
  rw [DE, DE]
  refine ⟨[.int .i64 (Lib.index x.1 x.2.1)], [], rfl, ⟨jo _, fun _ _ _ => rfl, rfl, rfl, rfl⟩, ?_, by simp, by simp⟩
  exact ⟨_, [], [], rfl, rfl, ⟨rfl, rfl⟩, rfl⟩
theorem Vad {P : Program} {f : FuncId} {I : Yf} (hE : LA P f)
 (h : ∀ (s : List UInt8) (w : World), I.p w → I.base ≤ w.heap.size → Calls P f #[.string ⟨qr s⟩] w fun e w' => e = .returned (.tuple #[.int .i64 (Rm s).1, .bool (Rm s).2.1]) ∧ Go.RowKit.Below w.heap.size w w') :
 Gg P I f (.pu (.p .s .u) (.p (.i .i64) (.p .b .u)) [true, true] (fun x => Tad x.1)) := by
 refine ⟨hE, ?_⟩
 intro O w x r args hF hA hO hi hb
 match args, hA with
 | [a], hA =>
  obtain ⟨⟨ca, rfl, hca⟩, _⟩ := hA
  have hca' : ca = [.string ⟨qr x.1⟩] := hca
  subst hca'
  simp only [Tad, jc] at hF
  subst hF
  refine (h x.1 w hi hb).mono ?_
  rintro e w' ⟨rfl, hB⟩
  refine ⟨[.int .i64 (Rm x.1).1, .bool (Rm x.1).2.1], [], rfl, ⟨hB.size, fun b hb _ => hB.block b hb, hB.os, hB.tape, hB.output⟩, ?_, by simp, by simp⟩
  exact ⟨_, [], [], rfl, rfl, ⟨rfl, rfl⟩, _, [], [], rfl, rfl, ⟨rfl, rfl⟩, rfl⟩
theorem Pat {P : Program} {W : World} {name : String} {d : DataW Unit} {rest : List (String × DataW Unit)} {ps : List MemPlace} {g : Nat}
 (hg : P.globalNamed name = some g) (hk : (((P.globals[g]?).map (·.type)).bind P.underlying).any (fun d => match d with | .interface _ => true | _ => false) = true)
 (h : DataW.LaidVars P W ((name, d) :: rest) ps) : ∃ ev, W.cell? ⟨g, 0, none⟩ = some ev ∧ (ev = .nilIface ∨ ∃ te pe, ev = .iface te pe) := by
 obtain ⟨g', t, cs, fuel, p, q, hg', ht', hvar, hd, _, _⟩ := h
 obtain rfl := y3 (hg.symm.trans hg')
 rw [ht'] at hk
 obtain ⟨ms, ht⟩ : ∃ ms, P.underlying t = some (.interface ms) := by
  simp only [jb] at hk
  revert hk
  cases P.underlying t with
  | none => intro hk; exact absurd hk (by simp)
  | some x => cases x with
   | interface ms => intro _; exact ⟨ms, rfl⟩
   | _ => intro hk; exact absurd hk (by simp)
 have hc : W.cell? ⟨g, 0, none⟩ = cs[0]? := by
  unfold World.var? at hvar
  rw [hg] at hvar
  simp only [jb] at hvar
  unfold World.cell?
  cases hb : W.heap[g]? with
  | none => rw [hb] at hvar; cases hvar
  | some o =>
   rw [hb] at hvar
   cases o <;> simp at hvar
   rw [hvar]; rfl
 rw [hc]
 cases fuel with
 | zero => simp [DataW.trod] at hd
 | succ n =>
  obtain ⟨l⟩ := cs
  unfold DataW.trod at hd
  rw [ht] at hd
  match l, hd with
  | [], hd => simp at hd
  | [v], hd =>
   cases v with
   | nilIface => exact ⟨_, by simp, .inl rfl⟩
   | iface te pe => exact ⟨_, by simp, .inr ⟨te, pe, rfl⟩⟩
   | _ => simp at hd
  | _ :: _ :: _, hd => simp at hd
def Yaj (P : Program) (g a : Nat) (name : String) (k : IntKind) (zs : List Int) (ha : P.globalNamed name = some a) (e : Nat) : Yf := ⟨max (max g a) e + 1, fun w => (Aad P g a name k zs ha).p w ∧ ∃ ev, w.cell? ⟨e, 0, none⟩ = some ev ∧ (ev = .nilIface ∨ ∃ te pe, ev = .iface te pe), fun w w' hb h => by
 obtain ⟨h1, ev, h2, h3⟩ := h
 refine ⟨(Aad P g a name k zs ha).st w w' (fun b hb' => hb b (qh hb' (show max g a + 1 ≤ max (max g a) e + 1 by omega))) h1, ev, ?_, h3⟩
 unfold World.cell? at h2 ⊢
 rw [hb e (by omega)]
 exact h2⟩
theorem Bag {P : Program} {g a e : Nat} {name : String} {k : IntKind} {zs : List Int} {ha : P.globalNamed name = some a} {w : World} (h : (Yaj P g a name k zs ha e).p w) : (Yaj P g a name k zs ha e).base ≤ w.heap.size := by
 obtain ⟨h1, ev, h2, h3⟩ := h
 have h1' : max g a + 1 ≤ w.heap.size := Cag h1
 have : e < w.heap.size := by
  apply Classical.byContradiction
  intro hn
  unfold World.cell? at h2
  simp only [Array.getElem?_eq_none (show w.heap.size ≤ e by omega)] at h2
  simp at h2
 show max (max g a) e + 1 ≤ _
 omega
theorem Dad {w w' : World} (h : Yu w w' (fun _ => False)) : Go.RowKit.Below w.heap.size w w' := ⟨h.os, h.tape, h.output, h.size, fun b hb => h.block b hb (fun x => x)⟩
theorem N0 {P : Program} {I : Yf} {f : FuncId} {F : T (.p (.i .i64) .u) → Option (T (.p .s .u))} (h : Gg P I f (.pu (.p (.i .i64) .u) (.p .s .u) [true] F))
 {n : Int} {r : List UInt8} (hF : F (n, ()) = some (r, ())) (w : World) (hi : I.p w) (hb : I.base ≤ w.heap.size) :
 Calls P f #[.int .i64 n] w fun e w' => e = .returned (.string ⟨qr r⟩) ∧ Go.RowKit.Below w.heap.size w w' := by
 refine (h.2 (fun _ => False) w (n, ()) (r, ()) [.int .i64 n] hF ⟨⟨[.int .i64 n], rfl, rfl⟩, trivial⟩ (fun _ hb => hb.elim) hi hb).mono ?_
 intro e w' hR
 cases e with
 | returned v =>
  obtain ⟨vs, Fr, rfl, hK, hR, _, _⟩ := hR
  refine ⟨?_, Dad hK⟩
  match vs, hR with
  | [a], hR =>
   obtain ⟨cs, F1, F2, rfl, _, ho, _⟩ := hR
   have ho' : cs = [.string ⟨qr r⟩] := ho.1
   subst ho'
   rfl
 | _ => exact hR.elim
theorem Jav {n : Int} (h1 : -999999999 ≤ n) (h2 : n ≤ 999999999) : EQ n = some (Lib.itoa n, ()) := by
 unfold EQ
 rw [show decide (-9223372036854775808 ≤ n) = true from decide_eq_true (by omega), show decide (n ≤ 9223372036854775807) = true from decide_eq_true (by omega)]
 rfl
def Ob {α S R : Type} (g : Nat → S → α → S ⊕ R) : Nat → S → List α → S ⊕ R
 | _, s, [] => .inl s
 | k, s, x :: xs => match g k s x with
  | .inl s' => Ob g (k + 1) s' xs
  | .inr r => .inr r
section
variable {X R : Type} {step : X → Option (X ⊕ R)}
theorem Xc {x : X} {z : Option (X ⊕ R)} (h : step x = z) : Gb step x = z.bind (Sum.elim (Gb step) some) := by
 rw [LB, h]
theorem P6 {α S R' : Type} (xs : List α) (g : Nat → S → α → S ⊕ R') (I : Nat → S → X) (out : S → R) (ex : R' → R) (Yf : Nat → S → Prop)
 (h : ∀ k (hk : k < xs.length) s, Yf k s → step (I k s) = some (match g k s xs[k] with | .inl s' => .inl (I (k + 1) s') | .inr r => .inr (ex r)) ∧ ∀ s', g k s xs[k] = .inl s' → Yf (k + 1) s')
 (he : ∀ s, Yf xs.length s → step (I xs.length s) = some (.inr (out s))) (s0 : S) (h0 : Yf 0 s0) :
 Gb step (I 0 s0) = some (match Ob g 0 s0 xs with | .inl s => out s | .inr r => ex r) := by
 have key : ∀ (ys : List α) (k : Nat) (s : S), xs.drop k = ys → k ≤ xs.length → Yf k s → Gb step (I k s) = some (match Ob g k s ys with | .inl s => out s | .inr r => ex r) := by
  intro ys
  induction ys with
  | nil =>
   intro k s hd hle hi
   have : k = xs.length := by
    have := congrArg ja hd
    simp at this
    omega
   subst this
   rw [Xc (he s hi)]
   rfl
  | cons y ys ih =>
   intro k s hd hle hi
   have hk : k < xs.length := by
    have := congrArg ja hd
    simp at this
    omega
   have hy : xs[k] = y := by
    have := congrArg (·[0]?) hd
    simp [List.getElem?_drop, je hk] at this
    exact this
   obtain ⟨h1, h2⟩ := h k hk s hi
   rw [Xc h1]
   rw [hy] at h2 ⊢
   simp only [Ob]
   cases hg : g k s y with
   | inl s' =>
    simp only [jb, qg]
    refine ih (k + 1) s' ?_ hk (h2 s' hg)
    rw [← qq, hd]
    rfl
   | inr r => rfl
 exact key xs 0 s0 rfl (Nat.zero_le _) h0
theorem HZ (I : Nat → X) (n : Nat) (out : R) (h : ∀ k, k < n → step (I k) = some (.inl (I (k + 1)))) (he : step (I n) = some (.inr out)) : Gb step (I 0) = some out := by
 have key : ∀ m k, m + k = n → Gb step (I k) = some out := by
  intro m
  induction m with
  | zero =>
   intro k hk
   have : k = n := by omega
   subst this
   rw [Xc he]; rfl
  | succ m ih =>
   intro k hk
   rw [Xc (h k (by omega))]
   exact ih (k + 1) (by omega)
 exact key n 0 (by omega)
end
theorem Gd {n : Int} (h1 : -9223372036854775808 ≤ n) (h2 : n ≤ 9223372036854775807) : j5 .i64 n = n := IntWalk.i64_in n ⟨h1, h2⟩
theorem Af {k : Nat} (h : k < 9223372036854775807) : j5 .i64 ((k : Int) + 1) = ((k + 1 : Nat) : Int) := by
 rw [Gd (by omega) (by omega)]; omega
theorem OaD {n : Int} (h1 : 0 ≤ n) (h2 : n ≤ 255) : j5 .u8 n = n := IntWalk.u8_in n ⟨h1, h2⟩
section
variable {α : Type}
theorem Dap (xs : List α) (k : Nat) : Hc xs (k : Int) = xs[k]? := by simp [Hc]
theorem Ec {xs : List α} {k : Nat} (h : k < xs.length) : Hc xs (k : Int) = some xs[k] := by rw [Dap, je h]
theorem Waj (x : α) (xs : List α) : Hc (x :: xs) 0 = some x := rfl
theorem Lg (n k : Nat) : Qd n (k : Int) = decide (k < n) := by
 simp [Qd]
theorem Aa {p : Prop} [Decidable p] (h : p) : decide p = true := decide_eq_true h
theorem Ba {p : Prop} [Decidable p] (h : ¬ p) : decide p = false := decide_eq_false h
end
theorem Vh : Oa = 1073741824 := rfl
def Eb : (τ : Ty) → T τ → Nat
 | .i _, _ => 0
 | .b, _ => 0
 | .o, _ => 0
 | .mp _ _, _ => 0
 | .s, x => ja x
 | .sl e, xs => ja xs + (za (Eb e) xs).sum
 | .u, _ => 0
 | .p a c, v => Eb a v.1 + Eb c v.2
def Ty.hasS : Ty → Bool
 | .s => true
 | .sl e => e.hasS
 | .p x y => x.hasS || y.hasS
 | _ => false
def Ka : Nat := 1048576
theorem Ay {α : Type} {f : α → Nat} {xs : List α} {k : Nat} (hk : k < xs.length) : f xs[k] ≤ (xs.map f).sum := by
 induction xs generalizing k with
 | nil => simp at hk
 | cons x xs ih =>
  cases k with
  | zero => simp
  | succ k =>
   have := ih (k := k) (by simpa using hk)
   simp only [List.getElem_cons_succ, yi, List.sum_cons]
   omega
theorem WT : ∀ {τ : Ty} (_ : (τ.flat && !τ.hasS) = true) {x : T τ}, Eb τ x = 0
 | .i _, _, _ => rfl
 | .b, _, _ => rfl
 | .o, _, _ => rfl
 | .mp _ _, _, _ => rfl
 | .s, h, _ => by simp [Ty.hasS] at h
 | .sl _, h, _ => by simp [Ty.flat] at h
 | .u, _, _ => rfl
 | .p a c, h, x => by
  simp only [Ty.flat, Ty.hasS, jd, yj, yq] at h
  simp only [Eb]
  rw [WT (τ := a) (by simp [h.1.1, h.2.1]), WT (τ := c) (by simp [h.1.2, h.2.2])]
theorem Yq {e : Ty} (h : (e.flat && !e.hasS) = true) (xs : List (T e)) : Eb (.sl e) xs = ja xs := by
 simp only [Eb]
 have : za (Eb e) xs = yd xs.length 0 := by
  apply List.ext_getElem
  ·simp
  ·intro i h1 h2
   simp [WT h]
 rw [this]
 simp
theorem Oi {α : Type} (b : Bool) (x y : α) : cond b (some x) (some y) = some (cond b x y) := by cases b <;> rfl
theorem Pi {α : Type} (b : Bool) (x y : α) : cond b (x, ()) (y, ()) = (cond b x y, ()) := by cases b <;> rfl
theorem Ad (b x y : Bool) : (cond b x y = true) ↔ ((b = true ∧ x = true) ∨ (¬ b = true ∧ y = true)) := by cases b <;> simp
theorem Pao {a b : Bool} (h : a = true ↔ b = true) : a = b := qm.2 h
theorem Jc {a b : Bool} (h : a = true ↔ b = true) : some (a, ()) = some (b, ()) := by rw [Pao h]
theorem XG (a b : Int) : ((a == b) = true) ↔ a = b := by simp
theorem ZL (a b : Int) : ((a != b) = true) ↔ ¬ a = b := by simp
def Ae {α : Type} (p : Nat → α → Bool) : Nat → List α → Bool
 | _, [] => true
 | k, x :: xs => p k x && Ae p (k + 1) xs
theorem Fh {X R : Type} {step : X → Option (X ⊕ R)} {α : Type} (xs : List α) (p : Nat → α → Bool) (I : Int → X) (yes no : R)
 (h : ∀ k (hk : k < xs.length), step (I (k : Int)) = some (cond (p k xs[k]) (.inl (I (j5 .i64 ((k : Int) + 1)))) (.inr no)))
 (he : step (I (xs.length : Int)) = some (.inr yes)) (hn : xs.length < 9223372036854775807) :
 Gb step (I 0) = some (cond (Ae p 0 xs) yes no) := by
 have key : ∀ (ys : List α) (k : Nat), xs.drop k = ys → k ≤ xs.length → Gb step (I (k : Int)) = some (cond (Ae p k ys) yes no) := by
  intro ys
  induction ys with
  | nil =>
   intro k hd hle
   have : k = xs.length := by
    have := congrArg ja hd
    simp at this
    omega
   subst this
   rw [Xc he]
   rfl
  | cons y ys ih =>
   intro k hd hle
   have hk : k < xs.length := by
    have := congrArg ja hd
    simp at this
    omega
   have hy : xs[k] = y := by
    have := congrArg (·[0]?) hd
    simp [List.getElem?_drop, je hk] at this
    exact this
   have hd' : xs.drop (k + 1) = ys := by rw [← qq, hd]; rfl
   rw [Xc (h k hk), hy]
   simp only [Ae]
   cases hc : p k y with
   | true =>
    simp only [ze, jk, jb, qg]
    rw [← ih (k + 1) hd' hk, Af (by omega)]
   | false => rfl
 have := key xs 0 rfl (Nat.zero_le _)
 simpa using this
theorem Fp {α : Type} {p : Nat → α → Bool} : ∀ {xs : List α} {k : Nat}, Ae p k xs = true ↔ ∀ j (hj : j < xs.length), p (k + j) xs[j] = true
 | [], _ => by simp [Ae]
 | x :: xs, k => by
  simp only [Ae, jd, Fp (xs := xs)]
  constructor
  ·rintro ⟨h1, h2⟩ j hj
   cases j with
   | zero => exact h1
   | succ j => simpa [jt, Nat.add_comm 1 j] using h2 j (by simpa using hj)
  ·intro h
   refine ⟨h 0 (by simp), fun j hj => ?_⟩
   have := h (j + 1) (by simpa using hj)
   rw [jt, Nat.add_comm 1 j]
   exact this
theorem TY {α β γ : Type} (b : Bool) (x : α) (y : β) (f : α → γ) (g : β → γ) : Sum.elim f g (cond b (.inl x) (.inr y)) = cond b (f x) (g y) := by cases b <;> rfl
def Lc {α S : Type} (g : Nat → S → α → S) : Nat → S → List α → S
 | _, s, [] => s
 | k, s, x :: xs => Lc g (k + 1) (g k s x) xs
theorem YN {α : Type} {xs ys : List α} {y : α} {k : Nat} (hd : xs.drop k = y :: ys) : ∃ hk : k < xs.length, xs[k] = y ∧ xs.drop (k + 1) = ys := by
 have hk : k < xs.length := by
  have := congrArg ja hd
  simp at this
  omega
 refine ⟨hk, ?_, by rw [← qq, hd]; rfl⟩
 have := congrArg (·[0]?) hd
 simp [List.getElem?_drop, je hk] at this
 exact this
theorem FS {α : Type} {xs : List α} {k : Nat} (hd : xs.drop k = []) (hk : k ≤ xs.length) : k = xs.length := by
 have := congrArg ja hd
 simp at this
 omega
theorem Bg {X R : Type} {step : X → Option (X ⊕ R)} {α S : Type} (xs : List α) (g : Nat → S → α → S) (I : S → Int → X) (out : S → R) (Yf : Nat → S → Prop)
 (h : ∀ k (hk : k < xs.length) s, Yf k s → step (I s (k : Int)) = some (.inl (I (g k s xs[k]) (j5 .i64 ((k : Int) + 1)))) ∧ Yf (k + 1) (g k s xs[k]))
 (he : ∀ s, Yf xs.length s → step (I s (xs.length : Int)) = some (.inr (out s))) (hn : xs.length < 9223372036854775807) (s0 : S) (h0 : Yf 0 s0) :
 Gb step (I s0 0) = some (out (Lc g 0 s0 xs)) ∧ Yf xs.length (Lc g 0 s0 xs) := by
 have key : ∀ (ys : List α) (k : Nat) (s : S), xs.drop k = ys → k ≤ xs.length → Yf k s → Gb step (I s (k : Int)) = some (out (Lc g k s ys)) ∧ Yf xs.length (Lc g k s ys) := by
  intro ys
  induction ys with
  | nil =>
   intro k s hd hle hi
   have := FS hd hle
   subst this
   rw [Xc (he s hi)]
   exact ⟨rfl, hi⟩
  | cons y ys ih =>
   intro k s hd hle hi
   obtain ⟨hk, hy, hd'⟩ := YN hd
   obtain ⟨h1, h2⟩ := h k hk s hi
   rw [Xc h1, hy, Af (by omega)]
   rw [hy] at h2
   exact ih (k + 1) _ hd' hk h2
 have := key xs 0 s0 rfl (Nat.zero_le _) h0
 simpa using this
theorem Tg {X R : Type} {step : X → Option (X ⊕ R)} {α S R' : Type} (xs : List α) (g : Nat → S → α → S ⊕ R') (I : S → Int → X) (out : S → R) (ex : R' → R) (Yf : Nat → S → Prop)
 (h : ∀ k (hk : k < xs.length) s, Yf k s → step (I s (k : Int)) = some (match g k s xs[k] with | .inl s' => .inl (I s' (j5 .i64 ((k : Int) + 1))) | .inr r => .inr (ex r)) ∧ ∀ s', g k s xs[k] = .inl s' → Yf (k + 1) s')
 (he : ∀ s, Yf xs.length s → step (I s (xs.length : Int)) = some (.inr (out s))) (hn : xs.length < 9223372036854775807) (s0 : S) (h0 : Yf 0 s0) :
 Gb step (I s0 0) = some (match Ob g 0 s0 xs with | .inl s => out s | .inr r => ex r) := by
 have := P6 (step := step) xs g (fun k s => I s (k : Int)) out ex Yf (fun k hk s hi => by
  obtain ⟨h1, h2⟩ := h k hk s hi
  refine ⟨?_, h2⟩
  rw [h1, Af (by omega)]) he s0 h0
 simpa using this
theorem z3 : ((3 : Int) == 0) = false := rfl
theorem Al {n lo hi : Nat} (h1 : lo ≤ hi) (h2 : hi ≤ n) : Jd n (lo : Int) (hi : Int) = true := by
 simp [Jd]; omega
section
variable {α β : Type}
end
end KF
