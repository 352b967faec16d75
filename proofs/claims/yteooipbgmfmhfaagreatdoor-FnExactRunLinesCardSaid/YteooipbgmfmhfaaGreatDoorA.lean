/- An evaluator of Go functions on plain data, its soundness, and plain laws on what the functions compute, part 1 (conditions: as each lemma tells). -/
import Derived.WalkKit
import Derived.Lib.ConvBytes
import Derived.Deep.AppendSrc
import Derived.Deep.Upon
set_option linter.unusedSimpArgs false
set_option linter.unusedVariables false
namespace KF
open Go
open List renaming length → ja, getElem?_eq_getElem → je, append → jf, mem_append → jl, mem_cons → jp, mem_cons_of_mem → jr, length_cons → jw, set → j5, length_nil → j6, mem_singleton → qb, length_append → qc, getD_eq_getElem?_getD → qe, getElem_mem → qi, getElem_of_mem → qj, mem_map → qk, length_drop → ql, ext_getElem? → qp, drop_drop → qq, toArray → qr, getD → qs, getElem?_eq_none → qt, mem_append_left → qu, mem_append_right → qv, any_eq_true → qy, append_assoc → q0, eq_nil_of_length_eq_zero → q7, getElem?_eq_some_iff → q8, length_eq_one_iff → q9, replicate → yd, nil_append → yg, cons_append → yh, map_cons → yk, nodup_cons → ym, nodup_append → yn, size_toArray → yo, flatten_cons → yp, length_map → yr, mem_map_of_mem → yv, map_append → yw, all_eq_true → yx, append_nil → yy, range → y3, map → zd, append_eq → ze, not_mem_nil → zf
open Option renaming bind_some → jb, bind → jz, map_some → qa, bind_eq_some_iff → qd, getD_some → qz, map_eq_some_iff → yz
open Option.some renaming injEq → jc, inj → zb
open Bool renaming and_eq_true → jd, not_true → jg, true_and → jk, false_eq_true → jq, not_false → j7, not_eq_true → j8, false_and → qh, eq_iff_iff → qm, or_eq_true → qx, not_eq_true' → yl, or_eq_false_iff → yt, false_or → yu
open Prod.mk renaming injEq → jh
open Nat renaming ble_eq_true_of_le → ji, mul_le_mul_right → jm, le_refl → jo, zero_add → js, add_assoc → jt, eq_of_beq_eq_true → ju, ble → jx, le_trans → j9, lt_of_lt_of_le → qg, beq → qw, le_of_ble_eq_true → q6, add_zero → ya, blt → yb, blt_eq → ye, add_mul → yf, beq_refl → yj, succ_mul → yq
open Int renaming toNat_natCast → jn, eq_ofNat_of_zero_le → jv, toNat → jy, tmod → yc
open Go.IntKind renaming wrap → j4
open Sum renaming elim_inl → qf
open Result renaming andThen_ok → qn
open Sem renaming run_bind → qo
open List.cons renaming injEq → yi
open Sum.inl renaming injEq → za
theorem zg.{u}{α:Sort u}(a b:α):cond true a b=a:=rfl
theorem zh.{u}{α:Sort u}(a b:α):cond false a b=b:=rfl
inductive Ty where
 |i (k:IntKind)
 |b
 |s
 |sl (e:Ty)
 |u
 |p (x y:Ty)
 |o
 |mp (k v:Ty)
 deriving DecidableEq
@[reducible]def T:Ty→Type
 |.i _=>Int
 |.b=>Bool
 |.o=>Option Addr×Nat×Nat
 |.mp k v=>List (T k×T v)
 |.s=>List UInt8
 |.sl e=>List (T e)
 |.u=>Unit
 |.p x y=>T x×T y
def Ty.size:Ty→Nat
 |.u=>0
 |.p x y=>x.size+y.size
 |_=>1
def Ty.flat:Ty→Bool
 |.sl _=>false
 |.mp _ _=>false
 |.p x y=>x.flat&&y.flat
 |_=>true
def Ty.cmp:Ty→Bool
 |.sl _|.o|.mp _ _=>false
 |.p x y=>x.cmp&&y.cmp
 |_=>true
def Ll:Nat:=9223372036854775807
def Ae(cur:Array Value)(o n:Nat):List Value:=(cur.toList.drop o).take n
theorem De{cur:Array Value}{o n:Nat}(h:o+n≤cur.size):(Ae cur o n).length=n:=by
 simp[Ae];omega
theorem Ag(cur:Array Value)(o n j:Nat)(h:j<n):(Ae cur o n)[j]?=cur[o+j]?:=by
 simp[Ae,h]
theorem OT(cur:Array Value)(o n p m:Nat)(h:p+m≤n):((Ae cur o n).drop p).take m=Ae cur (o+p) m:=by
 apply qp
 intro j
 simp only[Ae,List.getElem?_take,List.getElem?_drop]
 split
 ·rw[if_pos (by omega)];congr 1;omega
 ·rfl
theorem Gar(cur:Array Value)(o n m:Nat)(_:o+n≤cur.size):Ae cur o (n+m)=Ae cur o n++Ae cur (o+n) m:=by
 simp only[Ae]
 rw[List.take_add]
 simp[qq]
theorem LaI(cur:Array Value):Ae cur 0 cur.size=cur.toList:=by simp[Ae,List.take_of_length_le]
def Wm:Ty→List Value→Value
 |.p _ _,cs=>.agg cs.toArray
 |.u,cs=>.agg cs.toArray
 |_,cs=>cs.headD undef
def Wa(w:World)(O:Nat→Prop):(τ:Ty)→T τ→List Value→Prop
 |.i k,n,cs=>cs=[.int k n]
 |.b,x,cs=>cs=[.bool x]
 |.o,x,cs=>cs=[.slice x.1 x.2.1 x.2.2]
 |.mp k v,xs,cs=>(cs=[.map none]∧xs=([]:List (T k×T v)))∨∃r es clk,cs=[.map (some r)]∧¬O r∧w.heap[r]?=some (.map es clk)∧es.size=ja xs∧
  ∀i (h:i<ja xs),∃e ck cv,es[i]?=some e∧e.key=Wm k ck∧e.val=Wm v cv∧Wa w O k (List.get xs ⟨i,h⟩).1 ck∧Wa w O v (List.get xs ⟨i,h⟩).2 cv
 |.s,x,cs=>cs=[.string ⟨qr x⟩]
 |.sl e,xs,cs=>∃a cap,cs=[.slice a (ja xs) cap]∧ja xs≤cap∧ja xs≤Ll∧
  (xs=([]:List (T e))∨∃bl off cur et fr,a=some ⟨bl,off,none⟩∧¬O bl∧w.heap[bl]?=some (.cells cur et fr)∧
   off+ja xs*e.size≤cur.size∧
   ∀i (h:i<ja xs),Wa w O e (List.get xs ⟨i,h⟩) (Ae cur (off+i*e.size) e.size))
 |.u,_,cs=>cs=[]
 |.p x y,v,cs=>∃c1 c2,cs=c1++c2∧Wa w O x v.1 c1∧Wa w O y v.2 c2
def Ic(w:World):(τ:Ty)→T τ→List Value→List Nat→Prop
 |.i k,n,cs,F=>cs=[.int k n]∧F=[]
 |.b,x,cs,F=>cs=[.bool x]∧F=[]
 |.o,x,cs,F=>cs=[.slice x.1 x.2.1 x.2.2]∧F=[]
 |.mp k v,xs,cs,F=>(cs=[.map none]∧xs=([]:List (T k×T v))∧F=[])∨
  ∃r es clk Fs,cs=[.map (some r)]∧w.heap[r]?=some (.map es clk)∧es.size=ja xs∧F=r::List.flatten Fs∧ja Fs=ja xs∧
   ∀i (h:i<ja xs),∃e ck cv,es[i]?=some e∧e.key=Wm k ck∧e.val=Wm v cv∧Ic w k (List.get xs ⟨i,h⟩).1 ck []∧Ic w v (List.get xs ⟨i,h⟩).2 cv (Fs.getD i [])
 |.s,x,cs,F=>cs=[.string ⟨qr x⟩]∧F=[]
 |.sl e,xs,cs,F=>ja xs≤Ll∧((cs=[.slice none 0 0]∧xs=([]:List (T e))∧F=[])∨
  ∃bl off cap cur et Fs,cs=[.slice (some ⟨bl,off,none⟩) (ja xs) cap]∧w.heap[bl]?=some (.cells cur et (0,0))∧
   ja xs≤cap∧cap≤Ll∧off+cap*e.size≤cur.size∧F=bl::List.flatten Fs∧ja Fs=ja xs∧
   ∀i (h:i<ja xs),Ic w e (List.get xs ⟨i,h⟩) (Ae cur (off+i*e.size) e.size) (Fs.getD i []))
 |.u,_,cs,F=>cs=[]∧F=[]
 |.p x y,v,cs,F=>∃c1 c2 F1 F2,cs=c1++c2∧F=F1++F2∧Ic w x v.1 c1 F1∧Ic w y v.2 c2 F2
theorem Wa.length{w:World}{O:Nat→Prop}:∀{τ:Ty} {x:T τ} {cs:List Value},Wa w O τ x cs→cs.length=τ.size
 |.i _,_,_,h=>by simp[Wa]at h;simp[h,Ty.size]
 |.b,_,_,h=>by simp[Wa]at h;simp[h,Ty.size]
 |.o,_,_,h=>by simp[Wa]at h;simp[h,Ty.size]
 |.mp _ _,_,_,h=>by obtain⟨h,_⟩|⟨r,es,clk,h,_⟩:=h<;>simp[h,Ty.size]
 |.s,_,_,h=>by simp[Wa]at h;simp[h,Ty.size]
 |.sl _,_,_,h=>by obtain⟨a,cap,h,_⟩:=h;simp[h,Ty.size]
 |.u,_,_,h=>by simp[Wa]at h;simp[h,Ty.size]
 |.p x y,_,_,h=>by
  obtain⟨c1,c2,h,h1,h2⟩:=h
  have e1:=Wa.length h1
  have e2:=Wa.length h2
  simp[h,Ty.size,e1,e2]
theorem Wa.weaken{w:World}{O O':Nat→Prop}(hO:∀b,O' b→O b):∀{τ:Ty} {x:T τ} {cs:List Value},Wa w O τ x cs→Wa w O' τ x cs
 |.i _,_,_,h=>h
 |.b,_,_,h=>h
 |.o,_,_,h=>h
 |.mp k v,xs,_,h=>by
  obtain h|⟨r,es,clk,h,hr,hh,hs,hv⟩:=h
  ·exact .inl h
  ·refine .inr ⟨r,es,clk,h,fun c=>hr (hO _ c),hh,hs,fun i hi=>?_⟩
   obtain⟨e,ck,cv,h1,h2,h3,h4,h5⟩:=hv i hi
   exact⟨e,ck,cv,h1,h2,h3,Wa.weaken hO h4,Wa.weaken hO h5⟩
 |.s,_,_,h=>h
 |.sl e,xs,_,h=>by
  obtain⟨a,cap,h,h1,h2,h3⟩:=h
  refine⟨a,cap,h,h1,h2,h3.imp id ?_⟩
  rintro⟨bl,off,cur,et,fr,ha,hb,hh,hs,hv⟩
  exact⟨bl,off,cur,et,fr,ha,fun c=>hb (hO _ c),hh,hs,fun i hi=>Wa.weaken hO (hv i hi)⟩
 |.u,_,_,h=>h
 |.p x y,_,_,h=>by
  obtain⟨c1,c2,h,h1,h2⟩:=h
  exact⟨c1,c2,h,Wa.weaken hO h1,Wa.weaken hO h2⟩
theorem Wa.stable{w w':World}{O O':Nat→Prop}(hs:∀b,¬O b→b<w.heap.size→w'.heap[b]?=w.heap[b]?)
 (hO:∀b,b<w.heap.size→¬O b→¬O' b):
 ∀{τ:Ty} {x:T τ} {cs:List Value},Wa w O τ x cs→Wa w' O' τ x cs
 |.i _,_,_,h=>h
 |.b,_,_,h=>h
 |.o,_,_,h=>h
 |.mp k v,xs,_,h=>by
  obtain h|⟨r,es,clk,h,hr,hh,hz,hv⟩:=h
  ·exact .inl h
  ·have hlt:r<w.heap.size:=(Array.getElem?_eq_some_iff.1 hh).1
   refine .inr ⟨r,es,clk,h,hO _ hlt hr,(hs r hr hlt).trans hh,hz,fun i hi=>?_⟩
   obtain⟨e,ck,cv,h1,h2,h3,h4,h5⟩:=hv i hi
   exact⟨e,ck,cv,h1,h2,h3,Wa.stable hs hO h4,Wa.stable hs hO h5⟩
 |.s,_,_,h=>h
 |.sl e,xs,_,h=>by
  obtain⟨a,cap,h,h1,h2,h3⟩:=h
  refine⟨a,cap,h,h1,h2,h3.imp id ?_⟩
  rintro⟨bl,off,cur,et,fr,ha,hb,hh,hs',hv⟩
  have hlt:bl<w.heap.size:=(Array.getElem?_eq_some_iff.1 hh).1
  exact⟨bl,off,cur,et,fr,ha,hO _ hlt hb,(hs bl hb hlt).trans hh,hs',fun i hi=>Wa.stable hs hO (hv i hi)⟩
 |.u,_,_,h=>h
 |.p x y,_,_,h=>by
  obtain⟨c1,c2,h,h1,h2⟩:=h
  exact⟨c1,c2,h,Wa.stable hs hO h1,Wa.stable hs hO h2⟩
theorem Ic.length{w:World}:∀{τ:Ty} {x:T τ} {cs:List Value} {F:List Nat},Ic w τ x cs F→cs.length=τ.size
 |.i _,_,_,_,h=>by simp[h.1,Ty.size]
 |.b,_,_,_,h=>by simp[h.1,Ty.size]
 |.o,_,_,_,h=>by simp[h.1,Ty.size]
 |.mp _ _,_,_,_,h=>by obtain⟨h,_⟩|⟨_,_,_,_,h,_⟩:=h<;>simp[h,Ty.size]
 |.s,_,_,_,h=>by simp[h.1,Ty.size]
 |.sl _,_,_,_,h=>by
  obtain⟨_,⟨h,_⟩|⟨_,_,_,_,_,_,h,_⟩⟩:=h<;>simp[h,Ty.size]
 |.u,_,_,_,h=>by simp[h.1,Ty.size]
 |.p x y,_,_,_,h=>by
  obtain⟨c1,c2,F1,F2,h,_,h1,h2⟩:=h
  have e1:=Ic.length h1
  have e2:=Ic.length h2
  simp[h,Ty.size,e1,e2]
theorem Xf{Fs:List (List Nat)}{i:Nat}{b:Nat}(h:b∈Fs.getD i []):b∈Fs.flatten:=by
 rw[List.mem_flatten]
 rcases Nat.lt_or_ge i Fs.length with hi|hi
 ·exact⟨Fs[i],qi hi,by simpa[qs,hi]using h⟩
 ·simp[qs,qt hi]at h
theorem Tj{Fs:List (List Nat)}{b:Nat}(h:b∈Fs.flatten):∃i,i<Fs.length∧b∈Fs.getD i []:=by
 rw[List.mem_flatten]at h
 obtain⟨l,hl,hb⟩:=h
 obtain⟨i,hi,rfl⟩:=List.mem_iff_getElem.1 hl
 exact⟨i,hi,by simpa[qs,hi]using hb⟩
theorem Ic.lt{w:World}:∀{τ:Ty} {x:T τ} {cs:List Value} {F:List Nat},Ic w τ x cs F→∀b,b∈F→b<w.heap.size
 |.i _,_,_,_,h,b,hb=>by simp[h.2]at hb
 |.b,_,_,_,h,b,hb=>by simp[h.2]at hb
 |.o,_,_,_,h,b,hb=>by simp[h.2]at hb
 |.mp k v,xs,_,_,h,b,hb=>by
  obtain⟨_,_,h⟩|⟨r,es,clk,Fs,_,hh,_,hF,hl,hv⟩:=h
  ·simp[h]at hb
  ·subst hF
   cases jp.1 hb with
   |inl h=>subst h;exact(Array.getElem?_eq_some_iff.1 hh).1
   |inr h=>
    obtain⟨i,hi,hm⟩:=Tj h
    obtain⟨e,ck,cv,_,_,_,_,h5⟩:=hv i (hl▸hi)
    exact Ic.lt h5 b hm
 |.s,_,_,_,h,b,hb=>by simp[h.2]at hb
 |.sl e,xs,_,_,h,b,hb=>by
  obtain⟨_,⟨_,_,h⟩|⟨bl,off,cap,cur,et,Fs,_,hh,_,_,_,hF,hl,hv⟩⟩:=h
  ·simp[h]at hb
  ·subst hF
   cases jp.1 hb with
   |inl h=>subst h;exact(Array.getElem?_eq_some_iff.1 hh).1
   |inr h=>
    obtain⟨i,hi,hm⟩:=Tj h
    exact Ic.lt (hv i (hl▸hi)) b hm
 |.u,_,_,_,h,b,hb=>by simp[h.2]at hb
 |.p x y,_,_,_,h,b,hb=>by
  obtain⟨c1,c2,F1,F2,_,hF,h1,h2⟩:=h
  subst hF
  cases jl.1 hb with
  |inl h=>exact Ic.lt h1 b h
  |inr h=>exact Ic.lt h2 b h
theorem Ic.stable{w w':World}:∀{τ:Ty} {x:T τ} {cs:List Value} {F:List Nat},Ic w τ x cs F→(∀b,b∈F→w'.heap[b]?=w.heap[b]?)→Ic w' τ x cs F
 |.i _,_,_,_,h,_=>h
 |.b,_,_,_,h,_=>h
 |.o,_,_,_,h,_=>h
 |.mp k v,xs,_,_,h,hs=>by
  obtain h|⟨r,es,clk,Fs,h1,hh,hz,hF,hl,hv⟩:=h
  ·exact .inl h
  ·subst hF
   refine .inr ⟨r,es,clk,Fs,h1,(hs r (by simp)).trans hh,hz,rfl,hl,fun i hi=>?_⟩
   obtain⟨e,ck,cv,g1,g2,g3,g4,g5⟩:=hv i hi
   exact⟨e,ck,cv,g1,g2,g3,Ic.stable g4 (fun b hb=>by simp at hb),Ic.stable g5 fun b hb=>hs b (jr _ (Xf hb))⟩
 |.s,_,_,_,h,_=>h
 |.sl e,xs,_,_,h,hs=>by
  obtain⟨hm,h|⟨bl,off,cap,cur,et,Fs,h1,hh,h2,h3,h4,hF,hl,hv⟩⟩:=h
  ·exact⟨hm,.inl h⟩
  ·subst hF
   refine⟨hm,.inr ⟨bl,off,cap,cur,et,Fs,h1,(hs bl (by simp)).trans hh,h2,h3,h4,rfl,hl,fun i hi=>Ic.stable (hv i hi) fun b hb=>hs b (jr _ (Xf hb))⟩⟩
 |.u,_,_,_,h,_=>h
 |.p x y,_,_,_,h,hs=>by
  obtain⟨c1,c2,F1,F2,h0,hF,h1,h2⟩:=h
  subst hF
  exact⟨c1,c2,F1,F2,h0,rfl,Ic.stable h1 fun b hb=>hs b (qu _ hb),Ic.stable h2 fun b hb=>hs b (qv _ hb)⟩
theorem Ic.view{w:World}{O:Nat→Prop}:∀{τ:Ty} {x:T τ} {cs:List Value} {F:List Nat},Ic w τ x cs F→(∀b,b∈F→¬O b)→Wa w O τ x cs
 |.i _,_,_,_,h,_=>h.1
 |.b,_,_,_,h,_=>h.1
 |.o,_,_,_,h,_=>h.1
 |.mp k v,xs,_,_,h,hO=>by
  obtain⟨h1,h2,_⟩|⟨r,es,clk,Fs,h1,hh,hz,hF,hl,hv⟩:=h
  ·exact .inl ⟨h1,h2⟩
  ·subst hF
   refine .inr ⟨r,es,clk,h1,hO r (by simp),hh,hz,fun i hi=>?_⟩
   obtain⟨e,ck,cv,g1,g2,g3,g4,g5⟩:=hv i hi
   exact⟨e,ck,cv,g1,g2,g3,Ic.view g4 (fun b hb=>by simp at hb),Ic.view g5 fun b hb=>hO b (jr _ (Xf hb))⟩
 |.s,_,_,_,h,_=>h.1
 |.sl e,xs,_,_,h,hO=>by
  obtain⟨hm,⟨h,hx,_⟩|⟨bl,off,cap,cur,et,Fs,h1,hh,h2,h3,h4,hF,hl,hv⟩⟩:=h
  ·subst hx;exact⟨none,0,h,jo _,hm,.inl rfl⟩
  ·subst hF
   refine⟨_,cap,h1,h2,hm,.inr ⟨bl,off,cur,et,_,rfl,hO bl (by simp),hh,?_,fun i hi=>Ic.view (hv i hi) fun b hb=>hO b (jr _ (Xf hb))⟩⟩
   have:=jm e.size h2
   omega
 |.u,_,_,_,h,_=>h.1
 |.p x y,_,_,_,h,hO=>by
  obtain⟨c1,c2,F1,F2,h0,hF,h1,h2⟩:=h
  subst hF
  exact⟨c1,c2,h0,Ic.view h1 fun b hb=>hO b (qu _ hb),Ic.view h2 fun b hb=>hO b (qv _ hb)⟩
theorem Wa.flat{w w':World}{O:Nat→Prop}:∀{τ:Ty} {x:T τ} {cs:List Value},Wa w O τ x cs→τ.flat=true→Ic w' τ x cs []
 |.i _,_,_,h,_=>⟨h,rfl⟩
 |.b,_,_,h,_=>⟨h,rfl⟩
 |.o,_,_,h,_=>⟨h,rfl⟩
 |.mp _ _,_,_,_,hf=>by simp[Ty.flat]at hf
 |.s,_,_,h,_=>⟨h,rfl⟩
 |.sl e,xs,_,_,hf=>by simp[Ty.flat]at hf
 |.u,_,_,h,_=>⟨h,rfl⟩
 |.p x y,_,_,h,hf=>by
  obtain⟨c1,c2,h0,h1,h2⟩:=h
  simp only[Ty.flat,jd]at hf
  exact⟨c1,c2,[],[],h0,rfl,Wa.flat h1 hf.1,Wa.flat h2 hf.2⟩
inductive D where
 |und
 |anyv
 |t (τ:Ty) (x:T τ)
 |nil
 |own (id:Nat)
 |mpo (id:Nat)
 |cut (id lo hi:Nat)
 |ptr (id:Nat) (path:List Nat)
 |eptr (id:Nat) (i:Nat) (path:List Nat)
 |rp (τ:Ty) (x:T τ)
 |pr (a b:D)
 |un
 |tup (d:D)
def Ty.dec:(x y:Ty)→Option (PLift (x=y))
 |.i k,.i k'=>if h:k=k' then some ⟨by rw[h]⟩else none
 |.b,.b=>some ⟨rfl⟩
 |.o,.o=>some ⟨rfl⟩
 |.s,.s=>some ⟨rfl⟩
 |.u,.u=>some ⟨rfl⟩
 |.sl v,.sl w=>match Ty.dec v w with
  |some ⟨h⟩=>some ⟨by rw[h]⟩
  |none=>none
 |.p v v',.p w w'=>match Ty.dec v w,Ty.dec v' w' with
  |some ⟨h⟩,some ⟨g⟩=>some ⟨by rw[h,g]⟩
  |_,_=>none
 |.mp v v',.mp w w'=>match Ty.dec v w,Ty.dec v' w' with
  |some ⟨h⟩,some ⟨g⟩=>some ⟨by rw[h,g]⟩
  |_,_=>none
 |_,_=>none
def Ni:(e:Ty)→T e→List Nat→(τ:Ty)→T τ→Option (T e)
 |e,_,[],τ,y=>match Ty.dec τ e with
  |some ⟨h⟩=>some (h▸y)
  |none=>none
 |.p a _,v,0::p,τ,y=>match Ni a v.1 p τ y with
  |some u=>some (u,v.2)
  |none=>none
 |.p _ c,v,(n+1)::p,τ,y=>match Ni c v.2 (n::p) τ y with
  |some u=>some (v.1,u)
  |none=>none
 |_,_,_,_,_=>none
inductive Ka where
 |box (ρ:Ty) (d:D)
 |row (e:Ty) (deep:Bool) (xs:List (T e))
 |hol (e:Ty) (xs:List (T e)) (i:Nat) (x:T e) (path:List Nat) (τ:Ty) (d:D)
 |mov (e:Ty) (xs:List (T e)) (k:Nat)
 |mp (k v:Ty) (xs:List (T k×T v))
 |mq (kk:IntKind) (e:Ty) (xs:List (Int×List (T e)))
 |mx (k v:Ty) (xs:List (T k×T v))
 |fz (e:Ty) (xs:List (T e))
def Ka.rowN:Ka→Option (Ty×Nat)
 |.box _ _=>none
 |.row e _ xs=>some (e,ja xs)
 |.hol e xs _ _ _ _ _=>some (e,ja xs)
 |.mov e xs _=>some (e,ja xs)
 |.mp _ _ _=>none
 |.mq _ _ _=>none
 |.mx _ _ _=>none
 |.fz e xs=>some (e,ja xs)
def Ka.isM:Ka→Bool
 |.mp _ _ _|.mq _ _ _|.mx _ _ _=>true
 |_=>false
def Xb{α:Type}:List (Nat×α)→Nat→Option α
 |[],_=>none
 |(j,a)::r,k=>bif qw j k then some a else Xb r k
theorem Id{α:Type}(j k:Nat)(a:α)(r:List (Nat×α)):Xb ((j,a)::r) k=if j=k then some a else Xb r k:=by
 simp only[Xb]
 by_cases h:j=k
 ·subst h;simp
 ·have:qw j k=false:=by rw[←j8];intro e;exact h (ju e)
  simp[this,h]
structure AS where
 n:Nat
 tm:List (Nat×D)
 hp:List (Nat×Option Ka)
def AS.heap(s:AS)(id:Nat):Option Ka:=(Xb s.hp id).join
def Jc(cs:List Value)(o:Nat)(ce:List Value):List Value:=cs.take o++ce++cs.drop (o+ce.length)
def Za:Ty→Nat→Option Ty
 |.p x _,0=>some x
 |.p _ y,n+1=>Za y n
 |_,_=>none
def Ld:Ty→Nat→Nat
 |.p _ _,0=>0
 |.p x y,n+1=>x.size+Ld y n
 |_,_=>0
def Rf:Ty→List Nat→Option Ty
 |τ,[]=>some τ
 |τ,f::p=>(Za τ f).bind fun τ'=>Rf τ' p
def Yb:Ty→List Nat→Nat
 |_,[]=>0
 |τ,f::p=>Ld τ f+((Za τ f).map fun τ'=>Yb τ' p).getD 0
def D.ment(id:Nat):D→Bool
 |.own j|.mpo j|.ptr j _|.eptr j _ _|.cut j _ _=>qw j id
 |.pr a b=>a.ment id||b.ment id
 |.tup d=>d.ment id
 |_=>false
def Ka.ment(id:Nat):Ka→Bool
 |.box _ d=>d.ment id
 |.row _ _ _=>false
 |.hol _ _ _ _ _ _ d=>d.ment id
 |.mov _ _ _=>false
 |.mp _ _ _=>false
 |.mq _ _ _=>false
 |.mx _ _ _=>false
 |.fz _ _=>false
def AS.ment(s:AS)(id:Nat):Bool:=(s.tm.any fun x=>x.2.ment id)||(s.hp.any fun x=>(x.2.map (Ka.ment id)).getD false)
def Ob:Ty→D→Prop
 |τ,.t τ' _=>τ'=τ
 |.sl _,.nil=>True
 |.sl _,.own _=>True
 |.sl _,.cut _ _ _=>True
 |.mp _ _,.mpo _=>True
 |.p x y,.pr a b=>Ob x a∧Ob y b
 |.u,.un=>True
 |_,_=>False
section
variable(w:World) (O:Nat→Prop) (hp:Nat→Option Ka) (σ:Nat→Value)
def Kb:D→List Value→Prop
 |.und,_=>False
 |.anyv,_=>False
 |.t τ x,cs=>Wa w O τ x cs
 |.nil,cs=>cs=[.slice none 0 0]
 |.own id,cs=>∃v,cs=[v]∧v.oneCell'=true∧∀Ga r,hp id=some Ga→Ga.rowN=some r→v=σ id
 |.mpo id,cs=>∃v,cs=[v]∧v.oneCell'=true∧∀Ga,hp id=some Ga→Ga.isM=true→v=σ id
 |.cut id lo hi,cs=>∃v,cs=[v]∧v.oneCell'=true∧∀Ga e n,hp id=some Ga→Ga.rowN=some (e,n)→lo≤hi∧hi≤n∧
  ∃ad cap j,σ id=.slice ad n cap∧n≤cap∧j≤lo∧(lo<cap→j=lo)∧v=.slice (ad.map (·.add (j*e.size))) (hi-lo) (cap-lo)
 |.ptr id path,cs=>∃v,cs=[v]∧v.oneCell'=true∧∀ρ d,hp id=some (.box ρ d)→∃b,σ id=.pointer (some ⟨b,0,none⟩)∧v=.pointer (some ⟨b,Yb ρ path,none⟩)
 |.eptr id i path,cs=>∃v,cs=[v]∧v.oneCell'=true∧∀Ga e n,hp id=some Ga→Ga.rowN=some (e,n)→i<n∧
  ∃b off cap,σ id=.slice (some ⟨b,off,none⟩) n cap∧v=.pointer (some ⟨b,off+i*e.size+Yb e path,none⟩)
 |.rp τ x,cs=>∃b off cur et fr,cs=[.pointer (some ⟨b,off,none⟩)]∧¬O b∧w.heap[b]?=some (.cells cur et fr)∧off+τ.size≤cur.size∧Wa w O τ x (Ae cur off τ.size)
 |.pr a b,cs=>∃c1 c2,cs=c1++c2∧Kb a c1∧Kb b c2
 |.un,cs=>cs=[]
 |.tup _,_=>False
def D.isAgg:D→Bool
 |.t (.p _ _) _|.t .u _|.pr _ _|.un=>true
 |_=>false
def Kf(d:D)(v:Value):Prop:=
 if d.isAgg then∃cs:Array Value,v=.agg cs∧Kb w O hp σ d cs.toList else Kb w O hp σ d [v]
def Nh:D→List Value→Prop
 |.pr a b,v::vs=>Kf w O hp σ a v∧Nh b vs
 |.un,[]=>True
 |_,_=>False
def Td(d:D)(v:Value):Prop:=
 match d with
 |.tup ds=>∃vs:Array Value,v=.tuple vs∧Nh w O hp σ ds vs.toList
 |.und=>v=undef
 |.anyv=>True
 |d=>Kf w O hp σ d v
def Gd(id:Nat):Ka→List Nat→Prop
 |.box ρ d,F=>Ob ρ d∧∃b cur et,σ id=.pointer (some ⟨b,0,none⟩)∧w.heap[b]?=some (.cells cur et (0,0))∧F=[b]∧Kb w O hp σ d cur.toList∧cur.size=ρ.size
 |.row e true xs,F=>Ic w (.sl e) xs [σ id] F
 |.row e false xs,F=>ja xs≤Ll∧((σ id=.slice none 0 0∧xs=([]:List (T e))∧F=[])∨
  ∃bl off cap cur et,σ id=.slice (some ⟨bl,off,none⟩) (ja xs) cap∧w.heap[bl]?=some (.cells cur et (0,0))∧
   ja xs≤cap∧cap≤Ll∧off+cap*e.size≤cur.size∧F=[bl]∧
   ∀i (h:i<ja xs),Wa w O e (List.get xs ⟨i,h⟩) (Ae cur (off+i*e.size) e.size))
 |.hol e xs i x path τ d,F=>Ob τ d∧xs[i]?=some x∧Rf e path=some τ∧(∀b,b∈F→b<w.heap.size)∧
  ∃bl off cap cur et,σ id=.slice (some ⟨bl,off,none⟩) (ja xs) cap∧w.heap[bl]?=some (.cells cur et (0,0))∧bl∈F∧off+i*e.size+e.size≤cur.size∧
   Kb w O hp σ d (Ae cur (off+i*e.size+Yb e path) τ.size)∧
   ∀(w':World) (c':List Value),c'.length=τ.size→(∀b,b∈F→b≠bl→w'.heap[b]?=w.heap[b]?)→
    w'.heap[bl]?=some (.cells (Jc cur.toList (off+i*e.size+Yb e path) c').toArray et (0,0))→
    ∀(y:T τ) (Fy:List Nat) (x':T e),Ic w' τ y c' Fy→Ni e x path τ y=some x'→∃F',F'.Perm (F++Fy)∧Ic w' (.sl e) (j5 xs i x') [σ id] F'
 |.mov e xs k,F=>ja xs≤Ll∧((σ id=.slice none 0 0∧xs=([]:List (T e))∧F=[])∨
  ∃bl off cap cur et Fs,σ id=.slice (some ⟨bl,off,none⟩) (ja xs) cap∧w.heap[bl]?=some (.cells cur et (0,0))∧
   ja xs≤cap∧cap≤Ll∧off+cap*e.size≤cur.size∧F=bl::List.flatten Fs∧ja Fs=ja xs∧
   (∀i (h:i<ja xs),k≤i→Ic w e (List.get xs ⟨i,h⟩) (Ae cur (off+i*e.size) e.size) (Fs.getD i []))∧∀i,i<k→Fs.getD i []=[])
 |.mp k v xs,F=>∃r es clk,σ id=.map (some r)∧w.heap[r]?=some (.map es clk)∧F=[r]∧es.size=ja xs∧
  ∀i (h:i<ja xs),∃e ck cv,es[i]?=some e∧e.key=Wm k ck∧e.val=Wm v cv∧Wa w O k (List.get xs ⟨i,h⟩).1 ck∧Wa w O v (List.get xs ⟨i,h⟩).2 cv
 |.mq _ _ xs,F=>∃r es clk,σ id=.map (some r)∧w.heap[r]?=some (.map es clk)∧F=[r]∧es.size=ja xs
 |.mx k v xs,F=>Ic w (.mp k v) xs [σ id] F
 |.fz e xs,F=>F=[]∧Wa w O (.sl e) xs [σ id]
end
def Shr(w:World)(n0:Nat)(O:Nat→Prop)(v:Value)(kk:IntKind)(e:Ty)(xs:List (Int×List (T e))):Prop:=
 ∃r es clk Gs,v=.map (some r)∧w.heap[r]?=some (.map es clk)∧es.size=ja xs∧ja Gs=ja xs∧(List.flatten Gs).Nodup∧
  (∀b,b∈List.flatten Gs→n0≤b∧¬O b)∧
  ∀i (h:i<ja xs),∃en,es[i]?=some en∧en.key=.int kk (List.get xs ⟨i,h⟩).1∧Ic w (.sl e) (List.get xs ⟨i,h⟩).2 [en.val] (Gs.getD i [])
theorem Shr.stable{w w':World}{n0:Nat}{O O':Nat→Prop}{v:Value}{kk:IntKind}{e:Ty}{xs:List (Int×List (T e))}(hv:∀b,¬O b→b<w.heap.size→w'.heap[b]?=w.heap[b]?)(hO:∀b,b<w.heap.size→¬O b→¬O' b)
 (hr:∀r,v=.map (some r)→w'.heap[r]?=w.heap[r]?) (h:Shr w n0 O v kk e xs):Shr w' n0 O' v kk e xs:=by
 obtain⟨r,es,clk,Gs,h1,h2,h3,h4,h5,h6,h7⟩:=h
 have hlt:∀b,b∈List.flatten Gs→b<w.heap.size:=fun b hb=>by
  obtain⟨i,hi,hm⟩:=Tj hb
  obtain⟨en,_,_,ho⟩:=h7 i (h4▸hi)
  exact ho.lt b hm
 refine⟨r,es,clk,Gs,h1,(hr r h1).trans h2,h3,h4,h5,fun b hb=>⟨(h6 b hb).1,hO b (hlt b hb) (h6 b hb).2⟩,fun i hi=>?_⟩
 obtain⟨en,g1,g2,g3⟩:=h7 i hi
 exact⟨en,g1,g2,g3.stable fun b hb=>hv b (h6 b (Xf hb)).2 (hlt b (Xf hb))⟩
structure Bh where
 base:Nat
 p:World→Prop
 st:∀w w':World,(∀b,b<base→w'.heap[b]?=w.heap[b]?)→p w→p w'
structure Fx where
 A:Nat→Prop
 pin:Nat→Option Value
 low:∀id v,pin id=some v→500000≤id
 I:Bh
 avoid:∀b,A b→I.base≤b
structure Fr(n0:Nat)(A:Nat→Prop)(w0 w:World):Prop where
 os:w.os=w0.os
 tape:w.tape=w0.tape
 output:w.output=w0.output
 size:n0≤w.heap.size
 block:∀b,b<n0→¬A b→w.heap[b]?=w0.heap[b]?
def OO(O0:Nat→Prop)(s:AS)(φ:Nat→List Nat)(b:Nat):Prop:=O0 b∨∃id Ga,s.heap id=some Ga∧b∈φ id
structure Db(n0:Nat)(A:Fx)(O0:Nat→Prop)(w0:World)(s:AS)(σ:Nat→Value)(φ:Nat→List Nat)(a:Act)(w:World):Prop where
 sz:a.tmps.size=s.n
 df:a.defers=[]
 tm:∀t d,Xb s.tm t=some d→∃v,a.tmps[t]?=some v∧Td w (OO O0 s φ) s.heap σ d v
 hp:∀id Ga,s.heap id=some Ga→Gd w (OO O0 s φ) s.heap σ id Ga (φ id)
 nodup:∀id Ga,s.heap id=some Ga→(φ id).Nodup
 disj:∀id id' Ga blk',id≠id'→s.heap id=some Ga→s.heap id'=some blk'→∀b,b∈φ id→b∉φ id'
 fresh:∀id Ga,s.heap id=some Ga→∀b,b∈φ id→n0≤b∨A.A b
 o0:∀b,O0 b→b<n0
 fr:Fr n0 A.A w0 w
 pin:∀id v,A.pin id=some v→σ id=v
 iv0:A.I.base≤n0
 ivw:A.I.p w0
 shr:∀id kk e xs,s.heap id=some (.mq kk e xs)→Shr w n0 (OO O0 s φ) (σ id) kk e xs
theorem Db.iv{n0:Nat}{A:Fx}{O0:Nat→Prop}{w0 w:World}{s:AS}{σ:Nat→Value}{φ:Nat→List Nat}{a:Act}(h:Db n0 A O0 w0 s σ φ a w):A.I.p w:=
 A.I.st w0 w (fun b hb=>h.fr.block b (qg hb h.iv0) fun hA=>by have:=A.avoid b hA;omega) h.ivw
theorem Db.ivb{n0:Nat}{A:Fx}{O0:Nat→Prop}{w0 w:World}{s:AS}{σ:Nat→Value}{φ:Nat→List Nat}{a:Act}(h:Db n0 A O0 w0 s σ φ a w){id:Nat}{Ga:Ka}(hb:s.heap id=some Ga){b:Nat}(hm:b∈φ id):A.I.base≤b:=by
 rcases h.fresh id Ga hb b hm with h1|h1
 ·exact j9 h.iv0 h1
 ·exact A.avoid b h1
def Ka.like:Ka→Ka→Prop
 |.box ρ _,.box ρ' _=>ρ=ρ'
 |.row e _ xs,.row e' _ xs'=>e=e'∧ja xs=ja xs'
 |.row e _ xs,.hol e' xs' _ _ _ _ _=>e=e'∧ja xs=ja xs'
 |.hol e xs _ _ _ _ _,.row e' _ xs'=>e=e'∧ja xs=ja xs'
 |.hol e xs _ _ _ _ _,.hol e' xs' _ _ _ _ _=>e=e'∧ja xs=ja xs'
 |.row e _ xs,.mov e' xs' _=>e=e'∧ja xs=ja xs'
 |.mov e xs _,.mov e' xs' _=>e=e'∧ja xs=ja xs'
 |.mp k v _,.mp k' v' _=>k=k'∧v=v'
 |.mq k e _,.mq k' e' _=>k=k'∧e=e'
 |.mx k e _,.mx k' e' _=>k=k'∧e=e'
 |.row e _ xs,.fz e' xs'=>e=e'∧ja xs=ja xs'
 |.fz e xs,.fz e' xs'=>e=e'∧ja xs=ja xs'
 |_,_=>False
theorem Ka.like_refl(b:Ka):b.like b:=by cases b<;>simp[Ka.like]
theorem Ka.like_rowN{a b:Ka}{r:Ty×Nat}(h:a.like b)(hr:b.rowN=some r):a.rowN=some r:=by
 cases a<;>cases b<;>simp_all [Ka.like,Ka.rowN]
theorem Ka.like_isM{a b:Ka}(h:a.like b)(hr:b.isM=true):a.isM=true:=by
 cases a<;>cases b<;>simp_all [Ka.like,Ka.isM]
theorem ED{α:Type}{l:List (Nat×α)}{k:Nat}{a:α}(h:Xb l k=some a):(k,a)∈l:=by
 induction l with
 |nil=>simp[Xb]at h
 |cons x r ih=>
  obtain⟨j,b⟩:=x
  rw[Id]at h
  split at h
  ·rename_i hj;subst hj;simp at h;simp[h]
  ·exact jr _ (ih h)
theorem AS.heap_mem{s:AS}{id:Nat}{b:Ka}(h:s.heap id=some b):(id,some b)∈s.hp:=by
 unfold AS.heap at h
 cases hh:Xb s.hp id with
 |none=>simp[hh]at h
 |some o=>simp[hh]at h;subst h;exact ED hh
theorem AS.ment_heap{s:AS}{id j:Nat}{b:Ka}(h:s.heap j=some b)(hm:b.ment id=true):s.ment id=true:=by
 unfold AS.ment
 have:=AS.heap_mem h
 simp only[qx,qy]
 exact .inr ⟨_,this,by simpa using hm⟩
theorem AS.ment_tm{s:AS}{id t:Nat}{d:D}(h:Xb s.tm t=some d)(hm:d.ment id=true):s.ment id=true:=by
 unfold AS.ment
 simp only[qx,qy]
 exact .inl ⟨_,ED h,hm⟩
section
variable{w w':World} {O O':Nat→Prop} {hp hp':Nat→Option Ka} {σ σ':Nat→Value}
def Cp(hp hp':Nat→Option Ka)(σ σ':Nat→Value)(id:Nat):Prop:=
 ∀blk',hp' id=some blk'→∃Ga,hp id=some Ga∧Ga.like blk'∧σ' id=σ id
theorem Kb.stable(hv:∀b,¬O b→b<w.heap.size→w'.heap[b]?=w.heap[b]?)(hO:∀b,b<w.heap.size→¬O b→¬O' b):
 ∀(d:D) (cs:List Value),(∀id,d.ment id=true→Cp hp hp' σ σ' id)→Kb w O hp σ d cs→Kb w' O' hp' σ' d cs
 |.und,cs,_,h=>h
 |.anyv,cs,_,h=>h
 |.t τ x,cs,_,h=>Wa.stable hv hO h
 |.nil,cs,_,h=>h
 |.own id,cs,hc,h=>by
  obtain⟨v,hcs,h1c,h⟩:=h
  refine⟨v,hcs,h1c,fun blk' r he hr=>?_⟩
  obtain⟨Ga,hb,hl,hs⟩:=hc id (by simp[D.ment]) _ he
  rw[hs];exact h _ _ hb (Ka.like_rowN hl hr)
 |.ptr id path,cs,hc,h=>by
  obtain⟨v,hcs,h1c,h⟩:=h
  refine⟨v,hcs,h1c,fun ρ d he=>?_⟩
  obtain⟨Ga,hb,hl,hs⟩:=hc id (by simp[D.ment]) _ he
  cases Ga with
  |box ρ' d'=>simp[Ka.like]at hl;subst hl;rw[hs];exact h _ _ hb
  |row=>simp[Ka.like]at hl
  |hol=>simp[Ka.like]at hl
  |mov=>simp[Ka.like]at hl
  |mp=>simp[Ka.like]at hl
  |mq=>simp[Ka.like]at hl
  |mx=>simp[Ka.like]at hl
  |fz=>simp[Ka.like]at hl
 |.mpo id,cs,hc,h=>by
  obtain⟨v,hcs,h1c,h⟩:=h
  refine⟨v,hcs,h1c,fun blk' he hm=>?_⟩
  obtain⟨Ga,hb,hl,hs⟩:=hc id (by simp[D.ment]) _ he
  rw[hs];exact h _ hb (Ka.like_isM hl hm)
 |.cut id lo hi,cs,hc,h=>by
  obtain⟨v,hcs,h1c,h⟩:=h
  refine⟨v,hcs,h1c,fun blk' e n he hr=>?_⟩
  obtain⟨Ga,hb,hl,hs⟩:=hc id (by simp[D.ment]) _ he
  rw[hs];exact h _ _ _ hb (Ka.like_rowN hl hr)
 |.eptr id i path,cs,hc,h=>by
  obtain⟨v,hcs,h1c,h⟩:=h
  refine⟨v,hcs,h1c,fun blk' e n he hr=>?_⟩
  obtain⟨Ga,hb,hl,hs⟩:=hc id (by simp[D.ment]) _ he
  rw[hs];exact h _ _ _ hb (Ka.like_rowN hl hr)
 |.rp τ x,cs,_,h=>by
  obtain⟨b,off,cur,et,fr,hcs,hb,hh,hs,hvw⟩:=h
  have hlt:b<w.heap.size:=(Array.getElem?_eq_some_iff.1 hh).1
  exact⟨b,off,cur,et,fr,hcs,hO _ hlt hb,(hv _ hb hlt).trans hh,hs,Wa.stable hv hO hvw⟩
 |.pr a b,cs,hc,h=>by
  obtain⟨c1,c2,h0,h1,h2⟩:=h
  exact⟨c1,c2,h0,Kb.stable hv hO a c1 (fun id hi=>hc id (by simp[D.ment,hi])) h1,
   Kb.stable hv hO b c2 (fun id hi=>hc id (by simp[D.ment,hi])) h2⟩
 |.un,cs,_,h=>h
 |.tup d,cs,_,h=>h
theorem Kf.stable(hv:∀b,¬O b→b<w.heap.size→w'.heap[b]?=w.heap[b]?)(hO:∀b,b<w.heap.size→¬O b→¬O' b)
 (d:D) (v:Value) (hc:∀id,d.ment id=true→Cp hp hp' σ σ' id) (h:Kf w O hp σ d v):Kf w' O' hp' σ' d v:=by
 unfold Kf at*
 split
 ·rename_i ha
  simp only[ha,if_true]at h
  obtain⟨cs,h1,h2⟩:=h
  exact⟨cs,h1,Kb.stable hv hO d _ hc h2⟩
 ·rename_i ha
  simp only[ha,if_false,jq]at h
  exact Kb.stable hv hO d _ hc h
theorem Nh.stable(hv:∀b,¬O b→b<w.heap.size→w'.heap[b]?=w.heap[b]?)(hO:∀b,b<w.heap.size→¬O b→¬O' b):
 ∀(d:D) (vs:List Value) (_:∀id,d.ment id=true→Cp hp hp' σ σ' id) (_:Nh w O hp σ d vs),Nh w' O' hp' σ' d vs
 |.pr a b,v::vs,hc,h=>⟨Kf.stable hv hO a v (fun id hi=>hc id (by simp[D.ment,hi])) h.1,
  Nh.stable hv hO b vs (fun id hi=>hc id (by simp[D.ment,hi])) h.2⟩
 |.un,[],_,_=>trivial
 |.pr _ _,[],_,h=>h.elim
 |.un,_::_,_,h=>h.elim
 |.und,_,_,h=>by simp[Nh]at h
 |.anyv,_,_,h=>by simp[Nh]at h
 |.t _ _,_,_,h=>by simp[Nh]at h
 |.nil,_,_,h=>by simp[Nh]at h
 |.own _,_,_,h=>by simp[Nh]at h
 |.mpo _,_,_,h=>by simp[Nh]at h
 |.cut _ _ _,_,_,h=>by simp[Nh]at h
 |.ptr _ _,_,_,h=>by simp[Nh]at h
 |.eptr _ _ _,_,_,h=>by simp[Nh]at h
 |.rp _ _,_,_,h=>by simp[Nh]at h
 |.tup _,_,_,h=>by simp[Nh]at h
theorem Td.stable(hv:∀b,¬O b→b<w.heap.size→w'.heap[b]?=w.heap[b]?)(hO:∀b,b<w.heap.size→¬O b→¬O' b)
 (d:D) (v:Value) (hc:∀id,d.ment id=true→Cp hp hp' σ σ' id) (h:Td w O hp σ d v):Td w' O' hp' σ' d v:=by
 cases d with
 |tup ds=>
  obtain⟨vs,h1,h2⟩:=h
  exact⟨vs,h1,Nh.stable hv hO ds _ hc h2⟩
 |und=>exact h
 |anyv=>exact h
 |_=>exact Kf.stable hv hO _ v hc h
theorem Gd.lt{id:Nat}{Ga:Ka}{F:List Nat}(h:Gd w O hp σ id Ga F):∀b,b∈F→b<w.heap.size:=by
 intro b hb
 cases Ga with
 |box ρ d=>
  obtain⟨_,bb,cur,et,_,hh,hF,_⟩:=h
  subst hF
  simp at hb;subst hb
  exact(Array.getElem?_eq_some_iff.1 hh).1
 |row e dp xs=>
  cases dp with
  |true=>exact Ic.lt h b hb
  |false=>
   obtain⟨_,⟨_,_,hF⟩|⟨bl,off,cap,cur,et,_,hh,_,_,_,hF,_⟩⟩:=h
   ·subst hF;simp at hb
   ·subst hF
    simp at hb;subst hb
    exact(Array.getElem?_eq_some_iff.1 hh).1
 |hol e xs i x path τ d=>exact h.2.2.2.1 b hb
 |mov e xs k=>
  obtain⟨_,⟨_,_,hF⟩|⟨bl,off,cap,cur,et,Fs,_,hh,_,_,_,hF,hl,hv,hk⟩⟩:=h
  ·subst hF;simp at hb
  ·subst hF
   rcases jp.1 hb with rfl|hb
   ·exact(Array.getElem?_eq_some_iff.1 hh).1
   ·obtain⟨i,hi,hbi⟩:=Tj hb
    rw[hl]at hi
    rcases Nat.lt_or_ge i k with hik|hik
    ·rw[hk i hik]at hbi;simp at hbi
    ·exact(hv i hi hik).lt b hbi
 |mp k v xs=>
  obtain⟨r,es,clk,_,hh,hF,_⟩:=h
  subst hF
  simp at hb;subst hb
  exact(Array.getElem?_eq_some_iff.1 hh).1
 |mq kk e xs=>
  obtain⟨r,es,clk,_,hh,hF,_⟩:=h
  subst hF
  simp at hb;subst hb
  exact(Array.getElem?_eq_some_iff.1 hh).1
 |mx kk e xs=>exact Ic.lt h b hb
 |fz e xs=>rw[h.1]at hb;simp at hb
theorem Gd.stable(hv:∀b,¬O b→b<w.heap.size→w'.heap[b]?=w.heap[b]?)(hO:∀b,b<w.heap.size→¬O b→¬O' b)
 {id:Nat} {Ga:Ka} {F:List Nat} (hF:∀b,b∈F→w'.heap[b]?=w.heap[b]?) (hσ:σ' id=σ id)
 (hc:∀j,Ga.ment j=true→Cp hp hp' σ σ' j) (h:Gd w O hp σ id Ga F):Gd w' O' hp' σ' id Ga F:=by
 cases Ga with
 |box ρ d=>
  obtain⟨h0,bb,cur,et,h1,hh,hF',h2,h3⟩:=h
  subst hF'
  exact⟨h0,bb,cur,et,hσ.trans h1,(hF bb (by simp)).trans hh,rfl,Kb.stable hv hO d _ hc h2,h3⟩
 |row e dp xs=>
  cases dp with
  |true=>
   simp only[Gd]at h⊢
   rw[hσ]
   exact Ic.stable h hF
  |false=>
   obtain⟨hm,⟨h1,h2,h3⟩|⟨bl,off,cap,cur,et,h1,hh,h2,h3,h4,hF',hvw⟩⟩:=h
   ·exact⟨hm,.inl ⟨hσ.trans h1,h2,h3⟩⟩
   ·subst hF'
    exact⟨hm,.inr ⟨bl,off,cap,cur,et,hσ.trans h1,(hF bl (by simp)).trans hh,h2,h3,h4,rfl,fun i hi=>Wa.stable hv hO (hvw i hi)⟩⟩
 |hol e xs i x path τ d=>
  obtain⟨h1,h2,h3,h4,bl,off,cap,cur,et,h5,h8,h9,h10,h6,h7⟩:=h
  refine⟨h1,h2,h3,fun b hb=>?_,bl,off,cap,cur,et,hσ.trans h5,(hF bl h9).trans h8,h9,h10,Kb.stable hv hO d _ hc h6,fun w2 c' hl hw2 hbl y Fy x' hy hs=>?_⟩
  ·have:=hF b hb
   rw[Array.getElem?_eq_getElem (h4 b hb)]at this
   exact(Array.getElem?_eq_some_iff.1 this).1
  ·obtain⟨F',p1,p2⟩:=h7 w2 c' hl (fun b hb hne=>(hw2 b hb hne).trans (hF b hb)) hbl y Fy x' hy hs
   exact⟨F',p1,by rw[hσ];exact p2⟩
 |mov e xs k=>
  obtain⟨hm,⟨h1,h2,h3⟩|⟨bl,off,cap,cur,et,Fs,h1,hh,h2,h3,h4,hF',hl,hv',hk⟩⟩:=h
  ·exact⟨hm,.inl ⟨hσ.trans h1,h2,h3⟩⟩
  ·subst hF'
   exact⟨hm,.inr ⟨bl,off,cap,cur,et,Fs,hσ.trans h1,(hF bl (by simp)).trans hh,h2,h3,h4,rfl,hl,fun i hi hik=>(hv' i hi hik).stable fun b hb=>hF b (jr _ (Xf hb)),hk⟩⟩
 |mp k v xs=>
  obtain⟨r,es,clk,h1,hh,hF',hz,hv'⟩:=h
  subst hF'
  refine⟨r,es,clk,hσ.trans h1,(hF r (by simp)).trans hh,rfl,hz,fun i hi=>?_⟩
  obtain⟨e,ck,cv,g1,g2,g3,g4,g5⟩:=hv' i hi
  exact⟨e,ck,cv,g1,g2,g3,Wa.stable hv hO g4,Wa.stable hv hO g5⟩
 |mq kk e xs=>
  obtain⟨r,es,clk,h1,hh,hF',hz⟩:=h
  subst hF'
  exact⟨r,es,clk,hσ.trans h1,(hF r (by simp)).trans hh,rfl,hz⟩
 |mx kk e xs=>
  simp only[Gd]at h⊢
  rw[hσ]
  exact Ic.stable h hF
 |fz e xs=>exact⟨h.1,by rw[hσ];exact Wa.stable hv hO h.2⟩
end
section
variable{n0:Nat} {A:Fx} {O0:Nat→Prop} {w0 w w':World} {s s':AS} {σ σ':Nat→Value} {φ φ':Nat→List Nat} {a a':Act}
theorem Db.trans(h:Db n0 A O0 w0 s σ φ a w)(Tid:Nat→Prop)
 (hn:s'.n=s.n) (htm:s'.tm=s.tm)
 (hother:∀id,¬Tid id→s'.heap id=s.heap id∧σ' id=σ id∧φ' id=φ id)
 (hw:∀b,b<w.heap.size→(∀id Ga,Tid id→s.heap id=some Ga→b∉φ id)→w'.heap[b]?=w.heap[b]?)
 (hsize:w.heap.size≤w'.heap.size)
 (hsub:∀id blk',Tid id→s'.heap id=some blk'→∀b,b∈φ' id→w.heap.size≤b∨∃j Ga,Tid j∧s.heap j=some Ga∧b∈φ j)
 (hcomp:∀id blk',Tid id→s'.heap id=some blk'→s.ment id=true→∃Ga,s.heap id=some Ga∧Ga.like blk'∧σ' id=σ id)
 (hblk:∀id blk',Tid id→s'.heap id=some blk'→Gd w' (OO O0 s' φ') s'.heap σ' id blk' (φ' id)∧(φ' id).Nodup)
 (hdT:∀id id' Ga blk',Tid id→Tid id'→id≠id'→s'.heap id=some Ga→s'.heap id'=some blk'→∀b,b∈φ' id→b∉φ' id')
 (hos:w'.os=w.os) (htape:w'.tape=w.tape) (hout:w'.output=w.output) (hpin:∀id,Tid id→σ' id=σ id∨id<500000)
 (hshr:∀id kk e xs,Tid id→s'.heap id=some (.mq kk e xs)→Shr w' n0 (OO O0 s' φ') (σ' id) kk e xs):
 Db n0 A O0 w0 s' σ' φ' a w':=by
 have hlt:∀id Ga,s.heap id=some Ga→∀b,b∈φ id→b<w.heap.size:=fun id Ga hb b hm=>(h.hp id Ga hb).lt b hm
 have hOO:∀b,b<w.heap.size→¬OO O0 s φ b→¬OO O0 s' φ' b:=by
  rintro b hb hno (ho|⟨id,Ga,hl,hm⟩)
  ·exact hno (.inl ho)
  ·by_cases ht:Tid id
   ·rcases hsub id Ga ht hl b hm with hge|⟨j,blk',_,hj,hmj⟩
    ·omega
    ·exact hno (.inr ⟨j,blk',hj,hmj⟩)
   ·obtain⟨e1,_,e3⟩:=hother id ht
    exact hno (.inr ⟨id,Ga,e1▸hl,e3▸hm⟩)
 have hview:∀b,¬OO O0 s φ b→b<w.heap.size→w'.heap[b]?=w.heap[b]?:=fun b hno hb=>
  hw b hb fun id Ga _ hl hm=>hno (.inr ⟨id,Ga,hl,hm⟩)
 have hcp:∀id,s.ment id=true→Cp s.heap s'.heap σ σ' id:=by
  intro id hm blk' hl
  by_cases ht:Tid id
  ·exact hcomp id blk' ht hl hm
  ·obtain⟨e1,e2,_⟩:=hother id ht
   exact⟨blk',e1▸hl,Ka.like_refl _,e2⟩
 have hold:∀id Ga,¬Tid id→s.heap id=some Ga→∀b,b∈φ id→w'.heap[b]?=w.heap[b]?:=fun id Ga ht hl b hm=>
  hw b (hlt id Ga hl b hm) fun j blk' hj hl' hmj=>h.disj id j Ga blk' (fun e=>ht (e▸hj)) hl hl' b hm hmj
 refine⟨?_,h.df,?_,?_,?_,?_,?_,h.o0,?_,?pin,h.iv0,h.ivw,?shr⟩
 case shr=>
  intro id kk e xs hl
  by_cases ht:Tid id
  ·exact hshr id kk e xs ht hl
  ·obtain⟨e1,e2,_⟩:=hother id ht
   rw[e1]at hl
   rw[e2]
   refine(h.shr id kk e xs hl).stable hview hOO fun r hr=>?_
   obtain⟨r',es,clk,hσ,hh,hF,_⟩:=h.hp id _ hl
   have:r'=r:=by rw[hσ]at hr;simpa using hr
   subst this
   exact hold id _ ht hl r' (by rw[hF];simp)
 case pin=>
  intro id v hv
  by_cases ht:Tid id
  ·rcases hpin id ht with e|e
   ·exact e.trans (h.pin id v hv)
   ·exact absurd (A.low id v hv) (by omega)
  ·exact(hother id ht).2.1.trans (h.pin id v hv)
 ·rw[hn];exact h.sz
 ·intro t d hd
  rw[htm]at hd
  obtain⟨v,hv,hr⟩:=h.tm t d hd
  exact⟨v,hv,Td.stable hview hOO d v (fun id hi=>hcp id (AS.ment_tm hd hi)) hr⟩
 ·intro id Ga hl
  by_cases ht:Tid id
  ·exact(hblk id Ga ht hl).1
  ·obtain⟨e1,e2,e3⟩:=hother id ht
   rw[e1]at hl
   rw[e3]
   exact Gd.stable hview hOO (hold id Ga ht hl) e2 (fun j hj=>hcp j (AS.ment_heap hl hj)) (h.hp id Ga hl)
 ·intro id Ga hl
  by_cases ht:Tid id
  ·exact(hblk id Ga ht hl).2
  ·obtain⟨e1,_,e3⟩:=hother id ht
   rw[e3];exact h.nodup id Ga (e1▸hl)
 ·intro id id' Ga blk' hne hl hl' b hb
  by_cases ht:Tid id<;>by_cases ht':Tid id'
  ·exact hdT id id' Ga blk' ht ht' hne hl hl' b hb
  ·obtain⟨e1',_,e3'⟩:=hother id' ht'
   rw[e3']
   rcases hsub id Ga ht hl b hb with hge|⟨j,blkj,hj,hlj,hmj⟩
   ·intro hm
    have:=hlt id' blk' (e1'▸hl') b hm
    omega
   ·exact h.disj j id' blkj blk' (fun e=>ht' (e▸hj)) hlj (e1'▸hl') b hmj
  ·obtain⟨e1,_,e3⟩:=hother id ht
   rw[e3]at hb
   intro hm
   rcases hsub id' blk' ht' hl' b hm with hge|⟨j,blkj,hj,hlj,hmj⟩
   ·have:=hlt id Ga (e1▸hl) b hb
    omega
   ·exact h.disj j id blkj Ga (fun e=>ht (e▸hj)) hlj (e1▸hl) b hmj hb
  ·obtain⟨e1,_,e3⟩:=hother id ht
   obtain⟨e1',_,e3'⟩:=hother id' ht'
   rw[e3'];rw[e3]at hb
   exact h.disj id id' Ga blk' hne (e1▸hl) (e1'▸hl') b hb
 ·intro id Ga hl b hb
  by_cases ht:Tid id
  ·rcases hsub id Ga ht hl b hb with hge|⟨j,blkj,_,hlj,hmj⟩
   ·exact .inl (j9 h.fr.size hge)
   ·exact h.fresh j blkj hlj b hmj
  ·obtain⟨e1,_,e3⟩:=hother id ht
   rw[e3]at hb
   exact h.fresh id Ga (e1▸hl) b hb
 ·refine⟨hos.trans h.fr.os,htape.trans h.fr.tape,hout.trans h.fr.output,j9 h.fr.size hsize,fun b hb hA=>?_⟩
  refine Eq.trans ?_ (h.fr.block b hb hA)
  refine hw b (qg hb h.fr.size) fun id Ga _ hl hm=>?_
  rcases h.fresh id Ga hl b hm with hge|hA'
  ·omega
  ·exact hA hA'
theorem Db.drew(h:Db n0 A O0 w0 s σ φ a w):Db n0 A O0 w0 s σ φ a w.drew:=by
 refine h.trans (fun _=>False) rfl rfl (fun _ _=>⟨rfl,rfl,rfl⟩) (fun _ _ _=>rfl) (jo _) ?_ ?_ ?_ ?_ rfl rfl rfl ?_ ?_
 all_goals intro id;intros;contradiction
end
def Ty.isAgg:Ty→Bool
 |.p _ _|.u=>true
 |_=>false
def Me(τ:Ty)(cs:List Value):Value:=if τ.isAgg then .agg cs.toArray else cs.headD undef
def D.fst:D→Option D
 |.t (.p x _) v=>some (.t x v.1)
 |.pr a _=>some a
 |_=>none
def D.snd:D→Option D
 |.t (.p _ y) v=>some (.t y v.2)
 |.pr _ y=>some y
 |_=>none
def mkpr:D→D→D
 |.t a x,.t c y=>.t (.p a c) (x,y)
 |.t a x,.un=>.t (.p a .u) (x,())
 |a,b=>.pr a b
def D.field:D→Nat→Option D
 |d,0=>d.fst
 |d,n+1=>match d.snd with
  |some e=>e.field n
  |none=>none
def D.at:D→List Nat→Option D
 |d,[]=>some d
 |d,f::p=>match d.field f with
  |some e=>e.at p
  |none=>none
def D.setField:D→Nat→D→Option D
 |d,0,e=>match d.snd with
  |some r=>some (mkpr e r)
  |none=>none
 |d,n+1,e=>match d.fst,d.snd with
  |some a,some b=>match b.setField n e with
   |some b'=>some (mkpr a b')
   |none=>none
  |_,_=>none
def D.setAt:D→List Nat→D→Option D
 |_,[],e=>some e
 |d,f::p,e=>match d.field f with
  |some x=>match x.setAt p e with
   |some x'=>d.setField f x'
   |none=>none
  |none=>none
theorem Ob.isAgg{τ:Ty}{d:D}(h:Ob τ d):d.isAgg=τ.isAgg:=by
 cases d<;>cases τ<;>simp_all [Ob,D.isAgg,Ty.isAgg]
 all_goals(subst h;rfl)
theorem Ob.p{x y:Ty}{d:D}(h:Ob (.p x y) d):∃a b,d.fst=some a∧d.snd=some b∧Ob x a∧Ob y b:=by
 cases d with
 |t τ v=>
  simp only[Ob]at h
  subst h
  exact⟨.t x v.1,.t y v.2,rfl,rfl,by simp[Ob],by simp[Ob]⟩
 |pr a b=>exact⟨a,b,rfl,rfl,h.1,h.2⟩
 |_=>simp[Ob]at h
theorem Ob.mkpr{x y:Ty}{a b:D}(ha:Ob x a)(hb:Ob y b):Ob (.p x y) (mkpr a b):=by
 unfold KF.mkpr
 split
 ·simp only[Ob]at ha hb⊢;rw[ha,hb]
 ·cases y<;>simp_all [Ob]
 ·exact⟨ha,hb⟩
section
variable{w:World} {O:Nat→Prop} {hp:Nat→Option Ka} {σ:Nat→Value}
theorem Kb.length:∀{τ:Ty} {d:D} {cs:List Value},Ob τ d→Kb w O hp σ d cs→cs.length=τ.size
 |τ,.t τ' x,cs,hs,h=>by
  simp only[Ob]at hs;subst hs;exact Wa.length h
 |.sl _,.nil,cs,_,h=>by simp[Kb]at h;simp[h,Ty.size]
 |.sl _,.own _,cs,_,h=>by obtain⟨v,h,_⟩:=h;simp[h,Ty.size]
 |.sl _,.cut _ _ _,cs,_,h=>by obtain⟨v,h,_⟩:=h;simp[h,Ty.size]
 |.p x y,.pr a b,cs,hs,h=>by
  obtain⟨c1,c2,h0,h1,h2⟩:=h
  have e1:=Kb.length hs.1 h1
  have e2:=Kb.length hs.2 h2
  simp[h0,Ty.size,e1,e2]
 |.u,.un,cs,_,h=>by simp[Kb]at h;simp[h,Ty.size]
 |τ,.und,_,hs,_=>by cases τ<;>simp[Ob]at hs
 |.mp _ _,.mpo _,cs,_,h=>by obtain⟨v,h,_⟩:=h;simp[h,Ty.size]
 |.i _,.mpo _,_,hs,_=>by simp[Ob]at hs
 |.b,.mpo _,_,hs,_=>by simp[Ob]at hs
 |.o,.mpo _,_,hs,_=>by simp[Ob]at hs
 |.s,.mpo _,_,hs,_=>by simp[Ob]at hs
 |.u,.mpo _,_,hs,_=>by simp[Ob]at hs
 |.sl _,.mpo _,_,hs,_=>by simp[Ob]at hs
 |.p _ _,.mpo _,_,hs,_=>by simp[Ob]at hs
 |τ,.ptr _ _,_,hs,_=>by cases τ<;>simp[Ob]at hs
 |τ,.eptr _ _ _,_,hs,_=>by cases τ<;>simp[Ob]at hs
 |τ,.rp _ _,_,hs,_=>by cases τ<;>simp[Ob]at hs
theorem Kb.p{x y:Ty}{d a b:D}{cs:List Value}(hs:Ob (.p x y) d)(ha:d.fst=some a)(hb:d.snd=some b)(h:Kb w O hp σ d cs):
 Kb w O hp σ a (cs.take x.size)∧Kb w O hp σ b (cs.drop x.size):=by
 cases d with
 |t τ v=>
  simp only[Ob]at hs
  subst hs
  simp only[D.fst,D.snd,jc]at ha hb
  subst ha;subst hb
  obtain⟨c1,c2,h0,h1,h2⟩:=h
  have e1:=Wa.length h1
  subst h0
  simp only[←e1,List.take_left,List.drop_left]
  exact⟨h1,h2⟩
 |pr a' b'=>
  simp only[D.fst,D.snd,jc]at ha hb
  subst ha;subst hb
  obtain⟨c1,c2,h0,h1,h2⟩:=h
  have e1:=Kb.length hs.1 h1
  subst h0
  simp only[←e1,List.take_left,List.drop_left]
  exact⟨h1,h2⟩
 |_=>simp[Ob]at hs
theorem Kb.mkpr{a b:D}{c1 c2:List Value}(h1:Kb w O hp σ a c1)(h2:Kb w O hp σ b c2):Kb w O hp σ (mkpr a b) (c1++c2):=by
 unfold KF.mkpr
 split
 ·exact⟨c1,c2,rfl,h1,h2⟩
 ·simp only[Kb]at h2;subst h2;exact⟨c1,[],rfl,h1,rfl⟩
 ·exact⟨c1,c2,rfl,h1,h2⟩
theorem Ox:∀{ρ τ:Ty} {n:Nat},Za ρ n=some τ→Ld ρ n+τ.size≤ρ.size
 |.p x y,τ,0,h=>by simp[Za]at h;subst h;simp[Ld,Ty.size]
 |.p x y,τ,n+1,h=>by
  have:=Ox (ρ:=y) (n:=n) h
  simp[Ld,Ty.size];omega
 |.i _,_,_,h=>by simp[Za]at h
 |.b,_,_,h=>by simp[Za]at h
 |.o,_,_,h=>by simp[Za]at h
 |.mp _ _,_,_,h=>by simp[Za]at h
 |.s,_,_,h=>by simp[Za]at h
 |.sl _,_,_,h=>by simp[Za]at h
 |.u,_,_,h=>by simp[Za]at h
theorem Pj:∀{p:List Nat} {ρ τ:Ty},Rf ρ p=some τ→Yb ρ p+τ.size≤ρ.size
 |[],ρ,τ,h=>by simp[Rf]at h;subst h;simp[Yb]
 |f::p,ρ,τ,h=>by
  simp only[Rf]at h
  cases hf:Za ρ f with
  |none=>simp[hf]at h
  |some τ'=>
   simp only[hf,jb]at h
   have h1:=Ox hf
   have h2:=Pj (p:=p) h
   simp[Yb,hf];omega
theorem Kb.field:∀{n:Nat} {ρ τ:Ty} {d e:D} {cs:List Value},Ob ρ d→Za ρ n=some τ→d.field n=some e→Kb w O hp σ d cs→
 Ob τ e∧Kb w O hp σ e ((cs.drop (Ld ρ n)).take τ.size)
 |0,.p x y,τ,d,e,cs,hs,ht,he,h=>by
  simp only[Za,jc]at ht
  subst ht
  obtain⟨a,b,ha,hb,h1,h2⟩:=hs.p
  simp only[D.field,ha,jc]at he
  subst he
  exact⟨h1,by simpa[Ld]using(Kb.p hs ha hb h).1⟩
 |n+1,.p x y,τ,d,e,cs,hs,ht,he,h=>by
  obtain⟨a,b,ha,hb,h1,h2⟩:=hs.p
  simp only[D.field,hb]at he
  have:=Kb.field h2 (show Za y n=some τ from ht) he (Kb.p hs ha hb h).2
  simpa[Ld,qq,Nat.add_comm]using this
 |0,.i _,_,_,_,_,_,ht,_,_=>by simp[Za]at ht
 |0,.b,_,_,_,_,_,ht,_,_=>by simp[Za]at ht
 |0,.o,_,_,_,_,_,ht,_,_=>by simp[Za]at ht
 |0,.s,_,_,_,_,_,ht,_,_=>by simp[Za]at ht
 |0,.sl _,_,_,_,_,_,ht,_,_=>by simp[Za]at ht
 |0,.u,_,_,_,_,_,ht,_,_=>by simp[Za]at ht
 |n+1,.i _,_,_,_,_,_,ht,_,_=>by simp[Za]at ht
 |n+1,.b,_,_,_,_,_,ht,_,_=>by simp[Za]at ht
 |n+1,.o,_,_,_,_,_,ht,_,_=>by simp[Za]at ht
 |n+1,.s,_,_,_,_,_,ht,_,_=>by simp[Za]at ht
 |n+1,.sl _,_,_,_,_,_,ht,_,_=>by simp[Za]at ht
 |n+1,.u,_,_,_,_,_,ht,_,_=>by simp[Za]at ht
theorem Kb.at:∀{p:List Nat} {ρ τ:Ty} {d e:D} {cs:List Value},Ob ρ d→Rf ρ p=some τ→d.at p=some e→Kb w O hp σ d cs→
 Ob τ e∧Kb w O hp σ e ((cs.drop (Yb ρ p)).take τ.size)
 |[],ρ,τ,d,e,cs,hs,ht,he,h=>by
  simp only[Rf,jc]at ht
  subst ht
  simp only[D.at,jc]at he
  subst he
  have:=Kb.length hs h
  exact⟨hs,by simpa[Yb,←this]using h⟩
 |f::p,ρ,τ,d,e,cs,hs,ht,he,h=>by
  simp only[Rf]at ht
  cases hf:Za ρ f with
  |none=>simp[hf]at ht
  |some τ'=>
   simp only[hf,jb]at ht
   simp only[D.at]at he
   cases hd:d.field f with
   |none=>simp[hd]at he
   |some x=>
    simp only[hd]at he
    obtain⟨s1,r1⟩:=Kb.field hs hf hd h
    obtain⟨s2,r2⟩:=Kb.at s1 ht he r1
    refine⟨s2,?_⟩
    have hle:=Pj ht
    simp only[Yb,hf,qa,qz]
    rw[List.drop_take,List.take_take,qq]at r2
    rwa [Nat.min_eq_left (by omega)]at r2
theorem Yh{cs ce:List Value}{o:Nat}(h:o+ce.length≤cs.length):(Jc cs o ce).length=cs.length:=by
 simp[Jc];omega
theorem Jk{cs ce:List Value}{o:Nat}(h:o+ce.length≤cs.length)(j:Nat):
 (Jc cs o ce)[j]?=if j<o then cs[j]? else if j<o+ce.length then ce[j-o]? else cs[j]?:=by
 unfold Jc
 by_cases h1:j<o
 ·rw[if_pos h1,q0,List.getElem?_append_left (by simp;omega),List.getElem?_take,if_pos h1]
 ·rw[if_neg h1]
  by_cases h2:j<o+ce.length
  ·rw[if_pos h2,List.getElem?_append_left (by simp;omega),List.getElem?_append_right (by simp;omega)]
   congr 1
   simp
   omega
  ·rw[if_neg h2,List.getElem?_append_right (by simp;omega),List.getElem?_drop]
   congr 1
   simp
   omega
theorem FH{c1 c2 ce:List Value}{o:Nat}:Jc (c1++c2) (c1.length+o) ce=c1++Jc c2 o ce:=by
 unfold Jc
 rw[List.take_append,List.drop_append]
 simp[List.take_of_length_le,jt]
theorem Lab{cs ce:List Value}{o o' n:Nat}(h1:o+n≤cs.length)(h2:o'+ce.length≤n):
 Jc cs o (Jc ((cs.drop o).take n) o' ce)=Jc cs (o+o') ce:=by
 have hl:((cs.drop o).take n).length=n:=by simp;omega
 have hl2:(Jc ((cs.drop o).take n) o' ce).length=n:=by rw[Yh (by omega),hl]
 apply qp
 intro j
 rw[Jk (cs:=cs) (ce:=ce) (o:=o+o') (by omega),Jk (cs:=cs) (o:=o) (by omega),hl2]
 split
 ·rw[if_pos (by omega)]
 ·split
  ·rw[Jk (by omega)]
   split
   ·rw[if_pos (by omega),List.getElem?_take,if_pos (by omega),List.getElem?_drop];congr 1;omega
   ·split
    ·rw[if_neg (by omega),if_pos (by omega)];congr 1;omega
    ·rw[if_neg (by omega),if_neg (by omega),List.getElem?_take,if_pos (by omega),List.getElem?_drop];congr 1;omega
  ·rw[if_neg (by omega),if_neg (by omega)]
theorem Kb.setField:∀{n:Nat} {ρ τ:Ty} {d e d':D} {cs ce:List Value},Ob ρ d→Za ρ n=some τ→Ob τ e→d.setField n e=some d'→
 Ob ρ d'∧(Kb w O hp σ d cs→Kb w O hp σ e ce→Kb w O hp σ d' (Jc cs (Ld ρ n) ce))
 |0,.p x y,τ,d,e,d',cs,ce,hs,ht,hse,he=>by
  simp only[Za,jc]at ht
  subst ht
  obtain⟨a,b,ha,hb,h1,h2⟩:=hs.p
  simp only[D.setField,hb,jc]at he
  subst he
  refine⟨hse.mkpr h2,fun h hre=>?_⟩
  have:=Kb.mkpr hre (Kb.p hs ha hb h).2
  rw[←Kb.length hse hre]at this
  simpa[Jc,Ld]using this
 |n+1,.p x y,τ,d,e,d',cs,ce,hs,ht,hse,he=>by
  obtain⟨a,b,ha,hb,h1,h2⟩:=hs.p
  simp only[D.setField,ha,hb]at he
  cases hb':b.setField n e with
  |none=>simp[hb']at he
  |some b'=>
   simp only[hb',jc]at he
   subst he
   have ih:=fun cs=>Kb.setField (cs:=cs) (ce:=ce) h2 (show Za y n=some τ from ht) hse hb'
   refine⟨h1.mkpr (ih []).1,fun h hre=>?_⟩
   obtain⟨r1,r2⟩:=Kb.p hs ha hb h
   have:=Kb.mkpr r1 ((ih _).2 r2 hre)
   have hl:=Kb.length h1 r1
   rw[←FH,hl,List.take_append_drop]at this
   exact this
 |n,.i _,_,_,_,_,_,_,_,ht,_,_=>by cases n<;>simp[Za]at ht
 |n,.b,_,_,_,_,_,_,_,ht,_,_=>by cases n<;>simp[Za]at ht
 |n,.o,_,_,_,_,_,_,_,ht,_,_=>by cases n<;>simp[Za]at ht
 |n,.s,_,_,_,_,_,_,_,ht,_,_=>by cases n<;>simp[Za]at ht
 |n,.sl _,_,_,_,_,_,_,_,ht,_,_=>by cases n<;>simp[Za]at ht
 |n,.u,_,_,_,_,_,_,_,ht,_,_=>by cases n<;>simp[Za]at ht
theorem Ob.field:∀{n:Nat} {ρ τ:Ty} {d e:D},Ob ρ d→Za ρ n=some τ→d.field n=some e→Ob τ e
 |0,.p x y,τ,d,e,hs,ht,he=>by
  simp only[Za,jc]at ht
  subst ht
  obtain⟨a,b,ha,hb,h1,h2⟩:=hs.p
  simp only[D.field,ha,jc]at he
  subst he
  exact h1
 |n+1,.p x y,τ,d,e,hs,ht,he=>by
  obtain⟨a,b,ha,hb,h1,h2⟩:=hs.p
  simp only[D.field,hb]at he
  exact Ob.field h2 (show Za y n=some τ from ht) he
 |n,.i _,_,_,_,_,ht,_=>by cases n<;>simp[Za]at ht
 |n,.b,_,_,_,_,ht,_=>by cases n<;>simp[Za]at ht
 |n,.o,_,_,_,_,ht,_=>by cases n<;>simp[Za]at ht
 |n,.s,_,_,_,_,ht,_=>by cases n<;>simp[Za]at ht
 |n,.sl _,_,_,_,_,ht,_=>by cases n<;>simp[Za]at ht
 |n,.u,_,_,_,_,ht,_=>by cases n<;>simp[Za]at ht
theorem Ob.at:∀{p:List Nat} {ρ τ:Ty} {d e:D},Ob ρ d→Rf ρ p=some τ→d.at p=some e→Ob τ e
 |[],ρ,τ,d,e,hs,ht,he=>by
  simp only[Rf,jc]at ht
  subst ht
  simp only[D.at,jc]at he
  subst he
  exact hs
 |f::p,ρ,τ,d,e,hs,ht,he=>by
  simp only[Rf]at ht
  cases hf:Za ρ f with
  |none=>simp[hf]at ht
  |some τ'=>
   simp only[hf,jb]at ht
   simp only[D.at]at he
   cases hd:d.field f with
   |none=>simp[hd]at he
   |some x=>
    simp only[hd]at he
    exact Ob.at (Ob.field hs hf hd) ht he
theorem Kb.setAt:∀{p:List Nat} {ρ τ:Ty} {d e d':D} {cs ce:List Value},Ob ρ d→Rf ρ p=some τ→Ob τ e→d.setAt p e=some d'→
 Ob ρ d'∧(Kb w O hp σ d cs→Kb w O hp σ e ce→Kb w O hp σ d' (Jc cs (Yb ρ p) ce))
 |[],ρ,τ,d,e,d',cs,ce,hs,ht,hse,he=>by
  simp only[Rf,jc]at ht
  subst ht
  simp only[D.setAt,jc]at he
  subst he
  refine⟨hse,fun h hre=>?_⟩
  have e1:=Kb.length hs h
  have e2:=Kb.length hse hre
  have:cs.drop ce.length=[]:=List.drop_eq_nil_of_le (by omega)
  simpa[Jc,Yb,this]using hre
 |f::p,ρ,τ,d,e,d',cs,ce,hs,ht,hse,he=>by
  simp only[Rf]at ht
  cases hf:Za ρ f with
  |none=>simp[hf]at ht
  |some τ'=>
   simp only[hf,jb]at ht
   simp only[D.setAt]at he
   cases hd:d.field f with
   |none=>simp[hd]at he
   |some x=>
    simp only[hd]at he
    cases hx:x.setAt p e with
    |none=>simp[hx]at he
    |some x'=>
     simp only[hx]at he
     have hsx:Ob τ' x:=Ob.field hs hf hd
     have ih:=fun cs=>Kb.setAt (cs:=cs) (ce:=ce) hsx ht hse hx
     have hf':=fun ce=>Kb.setField (w:=w) (O:=O) (hp:=hp) (σ:=σ) (cs:=cs) (ce:=ce) hs hf (ih []).1 he
     refine⟨(hf' []).1,fun h hre=>?_⟩
     obtain⟨_,r1⟩:=Kb.field hs hf hd h
     have:=(hf' _).2 h ((ih _).2 r1 hre)
     have hle:=Pj ht
     have hle2:=Ox hf
     have e1:=Kb.length hs h
     have e2:=Kb.length hse hre
     rw[Lab (by omega) (by omega)]at this
     simpa[Yb,hf]using this
end
def Ty.zc:Ty→List Value
 |.i k=>[.int k 0]
 |.b=>[.bool false]
 |.o=>[.slice none 0 0]
 |.mp _ _=>[.map none]
 |.s=>[.string ⟨#[]⟩]
 |.sl _=>[.slice none 0 0]
 |.u=>[]
 |.p x y=>x.zc++y.zc
def Far:Value→Value→Bool
 |.int k n,.int k' n'=>k==k'&&n==n'
 |.bool a,.bool b=>a==b
 |.string a,.string b=>a.size==0&&b.size==0
 |.slice none 0 0,.slice none 0 0=>true
 |.map none,.map none=>true
 |_,_=>false
def VM:List Value→List Value→Bool
 |[],[]=>true
 |a::r,b::q=>Far a b&&VM r q
 |_,_=>false
theorem Paz{a b:Value}(h:Far a b=true):a=b:=by
 unfold Far at h
 split at h
 ·simp at h;rw[h.1,h.2]
 ·simp at h;rw[h]
 ·simp at h
  rw[h.1,h.2]
 ·rfl
 ·rfl
 ·simp at h
theorem KR:∀{a b:List Value},VM a b=true→a=b
 |[],[],_=>rfl
 |a::r,b::q,h=>by
  simp only[VM,jd]at h
  rw[Paz h.1,KR h.2]
 |[],_::_,h=>by simp[VM]at h
 |_::_,[],h=>by simp[VM]at h
def TL(P:Program)(t:TypeId)(τ:Ty):Bool:=
 match P.info? t with
 |some i=>qw i.size τ.size&&jx i.bytes 65536&&(match i.zero with
  |some (.agg cs)=>τ.isAgg&&VM cs.toList τ.zc
  |some z=>!τ.isAgg&&VM [z] τ.zc
  |none=>false)
 |none=>false
mutual
def Ie(P:Program):Ty→TypeId→Bool
 |.i k,t=>TL P t (.i k)&&(match P.underlying t with|some (.int k')=>k==k'|_=>false)
 |.b,t=>TL P t .b&&(match P.underlying t with|some .bool=>true|_=>false)
 |.o,t=>TL P t .o&&(match P.underlying t with|some (.slice _)=>true|_=>false)
 |.mp k v,t=>TL P t (.mp k v)&&(match P.underlying t with|some (.map kt et)=>Ie P k kt&&Ie P v et|_=>false)
 |.s,t=>TL P t .s&&(match P.underlying t with|some .string=>true|_=>false)
 |.sl e,t=>TL P t (.sl e)&&(match P.underlying t with|some (.slice et)=>Ie P e et|_=>false)
 |.u,t=>TL P t .u&&!P.stoodInHeld t&&(match P.underlying t with|some (.struct fs)=>qw fs.size 0|_=>false)
 |.p x y,t=>TL P t (.p x y)&&(!P.stoodInHeld t&&(!(x.cmp&&y.cmp)||!P.eqGuardType P.depth t))&&(match P.underlying t with
  |some (.struct fs)=>match fs.toList with
   |f::r=>qw f.offset 0&&f.name != "_" &&Ie P x f.type&&Yg P y r x.size
   |[]=>false
  |_=>false)
def Yg(P:Program):Ty→List Field→Nat→Bool
 |.u,[],_=>true
 |.p x y,f::r,o=>qw f.offset o&&f.name != "_" &&Ie P x f.type&&Yg P y r (o+x.size)
 |_,_,_=>false
end
variable{P:Program}
theorem Tok.info{τ:Ty}{t:TypeId}(h:Ie P τ t=true):TL P t τ=true:=by
 cases τ<;>simp only[Ie,jd]at h<;>first|exact h.1|exact h.1.1
theorem Tok.size{τ:Ty}{t:TypeId}(h:Ie P τ t=true):∃i,P.info? t=some i∧i.size=τ.size∧i.bytes≤65536∧i.zero=some (Me τ τ.zc):=by
 have h:=Tok.info h
 unfold TL at h
 split at h
 ·rename_i i hi
  simp only[jd]at h
  obtain⟨⟨h1,h2⟩,h3⟩:=h
  refine⟨i,hi,ju h1,q6 h2,?_⟩
  split at h3
  ·rename_i cs hz
   simp only[jd]at h3
   rw[hz,Me,if_pos h3.1,←KR h3.2]
  ·rename_i z _ hz
   simp only[jd]at h3
   have:τ.isAgg=false:=by simpa using h3.1
   rw[hz,Me,this,←KR h3.2]
   rfl
  ·simp at h3
 ·simp at h
theorem Tok.i{k:IntKind}{t:TypeId}(h:Ie P (.i k) t=true):P.underlying t=some (.int k):=by
 simp only[Ie,jd]at h
 obtain⟨_,h⟩:=h
 split at h
 ·rename_i k' hk;simp at h;rw[hk,h]
 ·simp at h
theorem Tok.b{t:TypeId}(h:Ie P .b t=true):P.underlying t=some .bool:=by
 simp only[Ie,jd]at h
 obtain⟨_,h⟩:=h
 split at h
 ·assumption
 ·simp at h
theorem Tok.s{t:TypeId}(h:Ie P .s t=true):P.underlying t=some .string:=by
 simp only[Ie,jd]at h
 obtain⟨_,h⟩:=h
 split at h
 ·assumption
 ·simp at h
theorem Tok.sl{e:Ty}{t:TypeId}(h:Ie P (.sl e) t=true):∃et,P.underlying t=some (.slice et)∧Ie P e et=true:=by
 simp only[Ie,jd]at h
 obtain⟨_,h⟩:=h
 split at h
 ·rename_i et he;exact⟨et,he,h⟩
 ·simp at h
theorem Tok.o{t:TypeId}(h:Ie P .o t=true):∃et,P.underlying t=some (.slice et):=by
 simp only[Ie,jd]at h
 obtain⟨_,h⟩:=h
 split at h
 ·rename_i et he;exact⟨et,he⟩
 ·simp at h
theorem Fok.field:∀{τ τf:Ty} {fs:List Field} {o n:Nat},Yg P τ fs o=true→Za τ n=some τf→
 ∃f,fs[n]?=some f∧f.offset=o+Ld τ n∧Ie P τf f.type=true
 |.p x y,τf,f::r,o,0,h,ht=>by
  simp only[Yg,jd]at h
  simp only[Za,jc]at ht
  subst ht
  exact⟨f,rfl,by simpa[Ld]using ju h.1.1.1,h.1.2⟩
 |.p x y,τf,f::r,o,n+1,h,ht=>by
  simp only[Yg,jd]at h
  obtain⟨f',h1,h2,h3⟩:=Fok.field h.2 (show Za y n=some τf from ht)
  exact⟨f',by simpa using h1,by simp only[Ld];omega,h3⟩
 |.p x y,_,[],_,_,h,_=>by simp[Yg]at h
 |.i _,_,_,_,_,_,ht=>by simp[Za]at ht
 |.b,_,_,_,_,_,ht=>by simp[Za]at ht
 |.o,_,_,_,_,_,ht=>by simp[Za]at ht
 |.mp _ _,_,_,_,_,_,ht=>by simp[Za]at ht
 |.s,_,_,_,_,_,ht=>by simp[Za]at ht
 |.sl _,_,_,_,_,_,ht=>by simp[Za]at ht
 |.u,_,_,_,_,_,ht=>by simp[Za]at ht
theorem Tok.struct{τ:Ty}{t:TypeId}(ha:τ.isAgg=true)(h:Ie P τ t=true):∃fs,P.underlying t=some (.struct fs)∧Yg P τ fs.toList 0=true:=by
 cases τ with
 |p x y=>
  simp only[Ie,jd]at h
  obtain⟨_,h⟩:=h
  split at h
  ·rename_i fs hfs
   refine⟨fs,hfs,?_⟩
   split at h
   ·rename_i f r hr
    rw[hr]
    simpa[Yg,js]using h
   ·simp at h
  ·simp at h
 |u=>
  simp only[Ie,jd]at h
  obtain⟨_,h⟩:=h
  split at h
  ·rename_i fs hfs
   refine⟨fs,hfs,?_⟩
   have:fs.toList=[]:=by
    have:=ju h
    exact q7 (by simpa using this)
   rw[this];rfl
  ·simp at h
 |_=>simp[Ty.isAgg]at ha
theorem Tok.mp{k v:Ty}{t:TypeId}(h:Ie P (.mp k v) t=true):∃kt et,P.underlying t=some (.map kt et)∧Ie P k kt=true∧Ie P v et=true:=by
 simp only[Ie,jd]at h
 obtain⟨_,h⟩:=h
 split at h
 ·rename_i kt et he
  simp only[jd]at h
  exact⟨kt,et,he,h.1,h.2⟩
 ·simp at h
theorem Tok.isAgg{τ:Ty}{t:TypeId}(h:Ie P τ t=true)(w:World):(Go.isAgg t).run P w=.ok τ.isAgg w:=by
 unfold Go.isAgg
 cases hτ:τ with
 |i k=>subst hτ;simp[run_underlying (Tok.i h),Ty.isAgg]
 |b=>subst hτ;simp[run_underlying (Tok.b h),Ty.isAgg]
 |o=>subst hτ;obtain⟨et,he⟩:=Tok.o h;simp[run_underlying he,Ty.isAgg]
 |mp k v=>subst hτ;obtain⟨kt,et,he,_⟩:=Tok.mp h;simp[run_underlying he,Ty.isAgg]
 |s=>subst hτ;simp[run_underlying (Tok.s h),Ty.isAgg]
 |sl e=>subst hτ;obtain⟨et,he,_⟩:=Tok.sl h;simp[run_underlying he,Ty.isAgg]
 |u=>subst hτ;obtain⟨fs,he,_⟩:=Tok.struct rfl h;simp[run_underlying he,Ty.isAgg]
 |p x y=>subst hτ;obtain⟨fs,he,_⟩:=Tok.struct rfl h;simp[run_underlying he,Ty.isAgg]
theorem Tok.sizeOf{τ:Ty}{t:TypeId}(h:Ie P τ t=true)(w:World):(Go.sizeOf t).run P w=.ok τ.size w:=by
 obtain⟨i,hi,hs,_⟩:=Tok.size h
 simp[Go.sizeOf,typeInfo,hi,hs]
theorem Tok.zero{τ:Ty}{t:TypeId}(h:Ie P τ t=true)(w:World):(zeroValue t).run P w=.ok (Me τ τ.zc) w:=by
 obtain⟨i,hi,_,_,hz⟩:=Tok.size h
 simp[zeroValue,typeInfo,hi,hz]
theorem Jr(b o n:Nat):(⟨b,o,none⟩:Addr).add n=⟨b,o+n,none⟩:=by unfold Addr.add;split<;>simp_all
theorem Ty.size_one{τ:Ty}(h:τ.isAgg=false):τ.size=1:=by cases τ<;>simp_all [Ty.isAgg,Ty.size]
theorem Rx{τ:Ty}{t:TypeId}(h:Ie P τ t=true){w:World}{b off:Nat}{cur:Array Value}{et:TypeId}{fr:Nat×Nat}
 (hh:w.heap[b]?=some (.cells cur et fr)) (hs:off+τ.size≤cur.size):(loadVar t ⟨b,off,none⟩).run P w=.ok (Me τ (Ae cur off τ.size)) w:=by
 unfold loadVar
 rw[qo,Tok.isAgg h w]
 have hcell:∀j v,(Ae cur off τ.size)[j]?=some v→w.cell? ((⟨b,off,none⟩:Addr).add j)=some v:=by
  intro j v hv
  rw[Jr,cell_of_row w b (off+j) cur et fr hh]
  have hj:j<τ.size:=by
   have:=(q8.1 hv).1
   rw[De hs]at this;exact this
  rw[Ag cur off τ.size j hj]at hv
  exact hv
 cases ha:τ.isAgg with
 |true=>
  have hl:=run_loadCells_list (P:=P) w ⟨b,off,none⟩ (Ae cur off τ.size) hcell
  rw[De hs]at hl
  simp[Tok.sizeOf h w,hl,Me,ha]
 |false=>
  have h1:=Ty.size_one ha
  have hl:=De hs
  rw[h1]at hl
  obtain⟨v,hv⟩:=q9.1 hl
  have:=hcell 0 v (by rw[h1,hv];rfl)
  rw[Jr,ya]at this
  simp[run_load,this,Me,ha,h1,hv]
theorem DH{τ:Ty}{t:TypeId}(h:Ie P τ t=true){w:World}{b off:Nat}{cur:Array Value}{et:TypeId}{v:Value}
 (hh:w.heap[b]?=some (.cells cur et (0,0))) (hs:off+τ.size≤cur.size) (hv:v.cells.toList.length=τ.size) (h1:∀x∈v.cells.toList,x.oneCell'=true):
 (storeVar t ⟨b,off,none⟩ v).run P w=.ok () (w.setRow b (Jc cur.toList off v.cells.toList).toArray):=by
 unfold storeVar
 have hv':v.cells.size=τ.size:=by simpa using hv
 have:=run_storeCells_at P b off et v.cells.toList 0 cur w hh (by rw[hv];simpa using hs) h1
 simp only[ya]at this
 simp[Tok.sizeOf h w,hv',this,Jc]
def Sa:Nat:=1073741824
def Wb{α:Type}(xs:List α)(i:Int):Option α:=bif decide (0≤i)then xs[i.toNat]? else none
def Ac(n:Nat)(i:Int):Bool:=decide (0≤i)&&decide (i<n)
def Ke(k:IntKind)(x y:Int):Int:=k.wrap (x*2^(min y.toNat k.bits))
def Mx(k:IntKind)(x y:Int):Int:=x.fdiv (2^(min y.toNat k.bits))
def Fh(k:IntKind)(x y:Int):Int:=k.wrap (BitVec.ofInt k.bits x&&&BitVec.ofInt k.bits y).toNat
def Xd(k:IntKind)(x y:Int):Int:=k.wrap (BitVec.ofInt k.bits x|||BitVec.ofInt k.bits y).toNat
def Ft(k:IntKind)(x y:Int):Int:=k.wrap (BitVec.ofInt k.bits x^^^BitVec.ofInt k.bits y).toNat
def Aj(k:IntKind)(x y:Int):Int:=k.wrap (BitVec.ofInt k.bits x&&&~~~BitVec.ofInt k.bits y).toNat
def Ya{α:Type}(xs:List α)(lo hi:Nat):List α:=(xs.take hi).drop lo
def Bd(n:Nat)(lo hi:Int):Bool:=decide (0≤lo)&&(decide (lo≤hi)&&decide (hi≤n))
def Nc(s:List UInt8):List Int:=s.map fun c=>(c.toNat:Int)
def Ap(b:List Int):List UInt8:=b.map fun n=>UInt8.ofNat n.toNat
def YB:(τ:Ty)→T τ→T τ→Bool
 |.i _,x,y=>(show Int from x)==y
 |.b,x,y=>(show Bool from x)==y
 |.o,_,_=>false
 |.mp _ _,_,_=>false
 |.s,x,y=>(show List UInt8 from x)==y
 |.sl _,_,_=>false
 |.u,_,_=>true
 |.p a c,x,y=>YB a x.1 y.1&&YB c x.2 y.2
def zT:(τ:Ty)→T τ
 |.i _=>(0:Int)
 |.b=>false
 |.o=>((none,0,0):Option Addr×Nat×Nat)
 |.mp k v=>([]:List (T k×T v))
 |.s=>([]:List UInt8)
 |.sl e=>([]:List (T e))
 |.u=>()
 |.p x y=>(zT x,zT y)
def zD:Ty→D
 |.sl _=>.nil
 |.u=>.un
 |.p x y=>mkpr (zD x) (zD y)
 |τ=>.t τ (zT τ)
def Kd:Ty→D→Bool
 |τ,.t τ' _=>(Ty.dec τ' τ).isSome
 |.sl _,.nil=>true
 |.sl _,.own _=>true
 |.p x y,.pr a b=>Kd x a&&Kd y b
 |.u,.un=>true
 |_,_=>false
def Hm:(d:D)→(τ:Ty)→Option (T τ)
 |.t τ' x,τ=>match Ty.dec τ' τ with
  |some ⟨h⟩=>some (h▸x)
  |none=>none
 |.nil,.sl e=>some ([]:List (T e))
 |.pr a b,.p x y=>match Hm a x,Hm b y with
  |some u,some v=>some (u,v)
  |_,_=>none
 |.un,.u=>some ()
 |_,_=>none
def Ib(s:AS):(d:D)→(τ:Ty)→Option (T τ)
 |.t τ' x,τ=>match Ty.dec τ' τ with
  |some ⟨h⟩=>some (h▸x)
  |none=>none
 |.nil,.sl e=>some ([]:List (T e))
 |.own id,.sl e=>match s.heap id with
  |some (.row e' _ xs)=>match Ty.dec e' e with
   |some ⟨h⟩=>some (h▸xs)
   |none=>none
  |some (.fz e' xs)=>match Ty.dec e' e with
   |some ⟨h⟩=>some (h▸xs)
   |none=>none
  |_=>none
 |.cut id lo hi,.sl e=>match s.heap id with
  |some (.row e' _ xs)=>match Ty.dec e' e with
   |some ⟨h⟩=>some (h▸(Ya xs lo hi:List (T e')))
   |none=>none
  |_=>none
 |.pr a b,.p x y=>match Ib s a x,Ib s b y with
  |some u,some v=>some (u,v)
  |_,_=>none
 |.un,.u=>some ()
 |_,_=>none
def Cc(s:AS):(d:D)→(τ:Ty)→Option (T τ×List Nat)
 |.t τ' x,τ=>bif τ'.flat then match Ty.dec τ' τ with
  |some ⟨h⟩=>some (h▸x,[])
  |none=>none
  else none
 |.nil,.sl e=>some (([]:List (T e)),[])
 |.own id,.sl e=>match s.heap id with
  |some (.row e' dp xs)=>bif dp||e'.flat then match Ty.dec e' e with
   |some ⟨h⟩=>some (h▸xs,[id])
   |none=>none
   else none
  |_=>none
 |.mpo id,.mp k v=>match s.heap id with
  |some (.mx k' v' xs)=>match Ty.dec k' k,Ty.dec v' v with
   |some ⟨h⟩,some ⟨g⟩=>some (h▸g▸xs,[id])
   |_,_=>none
  |_=>none
 |.pr a b,.p x y=>match Cc s a x,Cc s b y with
  |some (u,l),some (v,m)=>some ((u,v),l++m)
  |_,_=>none
 |.un,.u=>some ((),[])
 |_,_=>none
def Ty.cnt:Ty→Nat
 |.p x y=>x.cnt+y.cnt+1
 |_=>1
def D.hasOwn:D→Bool
 |.own _=>true
 |.cut _ _ _=>true
 |.pr a b=>a.hasOwn||b.hasOwn
 |_=>false
def Lg:List Nat→Bool
 |[]=>true
 |a::r=>!(r.any (qw a))&&Lg r
inductive Pa where
 |pu (pt rt:Ty) (fr:List Bool) (f:T pt→Option (T rt))
 |io (τ pt rt:Ty) (fr:List Bool) (f:T τ→T pt→Option (T τ×T rt))
 |co (pt rt:Ty) (fr:List Bool) (f:T pt→Option (T rt))
 |bx (vw cv:Bool) (τ pt rt:Ty) (fr:List Bool) (f:T τ→T pt→Option (T τ×T rt))
 |nw (pt τ:Ty) (f:T pt→Option (T τ))
structure Sf where
 ty:List (Nat×Ty)
 fn:List (Nat×Pa)
 att:List (Nat×Nat)
 fz:Bool
 ar:List (Nat×Ty×Nat)
 mv:List Nat
 ml:List Nat
def HW:Value→Option D
 |.int k n=>some (.t (.i k) n)
 |.bool b=>some (.t .b b)
 |.string s=>some (.t .s s.data.toList)
 |.slice none 0 0=>some .nil
 |.pointer none=>some .anyv
 |.map none=>some .anyv
 |_=>none
def AS.ev(s:AS):Operand→Option D
 |.tmp t=>Xb s.tm t
 |.const v=>HW v
 |_=>none
def AS.newOk(s:AS)(id:Nat):Bool:=!s.ment id&&yb id 500000
section
variable{Out:Type}
def Xi(s:AS)(dst:Option Tmp)(d:D)(upd:List (Nat×Option Ka))(k:AS→Option Out):Option Out:=
 match dst with
 |some t=>bif yb t s.n then k ⟨s.n,(t,d)::s.tm,upd++s.hp⟩else none
 |none=>k ⟨s.n,s.tm,upd++s.hp⟩
def Ed(l:List Nat):List (Nat×Option Ka):=l.map fun id=>(id,none)
def AZ(tb:Bool)(op:BinOp)(a b:D)(K:D→List (Nat×Option Ka)→Option Out):Option Out:=
 match a,b with
 |.t (.i ka) x,.t (.i kb) y=>
  match op with
  |.shl=>bif decide (0≤(y:Int))then K (.t (.i ka) (Ke ka x y)) []else none
  |.shr=>bif decide (0≤(y:Int))then K (.t (.i ka) (Mx ka x y)) []else none
  |_=>bif ka==kb then
   match op with
   |.add=>K (.t (.i ka) (ka.wrap ((x:Int)+y))) []
   |.sub=>K (.t (.i ka) (ka.wrap ((x:Int)-y))) []
   |.mul=>K (.t (.i ka) (ka.wrap ((x:Int)*y))) []
   |.quo=>bif (y:Int)==0 then none else K (.t (.i ka) (ka.wrap (Int.tdiv x y))) []
   |.rem=>bif (y:Int)==0 then none else K (.t (.i ka) (yc x y)) []
   |.and=>K (.t (.i ka) (Fh ka x y)) []
   |.or=>K (.t (.i ka) (Xd ka x y)) []
   |.xor=>K (.t (.i ka) (Ft ka x y)) []
   |.andNot=>K (.t (.i ka) (Aj ka x y)) []
   |.eql=>K (.t .b ((x:Int)==y)) []
   |.neq=>K (.t .b ((x:Int) !=y)) []
   |.lss=>K (.t .b (decide ((x:Int)<y))) []
   |.leq=>K (.t .b (decide ((x:Int)≤y))) []
   |.gtr=>K (.t .b (decide ((x:Int)>y))) []
   |.geq=>K (.t .b (decide ((x:Int)≥y))) []
   |_=>none
   else none
 |.t .s x,.t .s y=>
  match op with
  |.add=>bif jx (ja x+ja y) Sa then K (.t .s (jf x y)) []else none
  |.eql=>K (.t .b ((show List UInt8 from x)==y)) []
  |.neq=>K (.t .b ((show List UInt8 from x) !=y)) []
  |_=>none
 |.t .b x,.t .b y=>
  match op with
  |.eql=>bif tb then K (.t .b ((show Bool from x)==y)) []else none
  |.neq=>bif tb then K (.t .b ((show Bool from x) !=y)) []else none
  |_=>none
 |_,_=>none
def WaJ(s:AS)(tb:Bool)(dst:Option Tmp)(op:BinOp)(a b:D)(k:AS→Option Out):Option Out:=AZ tb op a b fun d u=>Xi s dst d u k
end
section
variable{Out:Type}
def Jy(s:AS):List Operand→Option D
 |[]=>some .un
 |x::r=>match s.ev x,Jy s r with
  |some a,some b=>some (.pr a b)
  |_,_=>none
def Ff:(τ:Ty)→T τ→Nat→D×List (Nat×Option Ka)×Nat
 |.sl e,xs,n=>(.own n,[(n,some (.row e true xs))],n+1)
 |.u,_,n=>(.un,[],n)
 |.mp k v,xs,n=>(.mpo n,[(n,some (.mx k v xs))],n+1)
 |.p x y,v,n=>match Ff x v.1 n with
  |(a,l,m)=>match Ff y v.2 m with
   |(b,l',m')=>(mkpr a b,l++l',m')
 |τ,x,n=>(.t τ x,[],n)
def Ah:(τ:Ty)→T τ→List Bool→Nat→Option (D×List (Nat×Option Ka)×Nat)
 |.u,_,[],n=>some (.un,[],n)
 |.p x y,v,f::r,n=>
  match(bif f then Ff x v.1 n else(.t x v.1,[],n))with
  |(a,l,m)=>match Ah y v.2 r m with
   |some (b,l',m')=>some (.pr a b,l++l',m')
   |none=>none
 |_,_,_,_=>none
def ZP:D→Option D
 |.pr a .un=>some a
 |d=>some (.tup d)
def TH:D→Nat→Option D
 |.pr a _,0=>some a
 |.pr _ b,n+1=>TH b n
 |_,_=>none
def Te(s:AS)(u:List (Nat×Option Ka)):Bool:=(u.all fun x=>s.newOk x.1)&&Lg (u.map (·.1))
def OQ(s:AS)(τ:Ty):D→List (Nat×Operand)→Option D
 |d,[]=>some d
 |d,(i,x)::r=>match s.ev x,Za τ i with
  |some e,some τ'=>bif Kd τ' e then match d.setField i e with
   |some d'=>OQ s τ d' r
   |none=>none
   else none
  |_,_=>none
def GX(s:AS)(e:Ty):Nat→List (Nat×Operand)→Option (List (T e)×List Nat)
 |_,[]=>some ([],[])
 |n,(i,x)::r=>bif qw i n then match s.ev x with
  |some d=>match Cc s d e,GX s e (n+1) r with
   |some (a,l),some (b,m)=>some (a::b,l++m)
   |_,_=>none
  |none=>none
  else none
def AR(s:AS)(e:Ty):Nat→List (Nat×Operand)→Option (List (T e))
 |_,[]=>some []
 |n,(i,x)::r=>bif qw i n then match s.ev x with
  |some d=>match Hm d e,AR s e (n+1) r with
   |some a,some b=>some (a::b)
   |_,_=>none
  |none=>none
  else none
def IT(s:AS):Option Operand→Option Int
 |none=>some 0
 |some x=>match s.ev x with
  |some (.t (.i _) n)=>some n
  |_=>none
def WW(s:AS)(len:Nat):Option Operand→Option Int
 |none=>some (len:Int)
 |some x=>match s.ev x with
  |some (.t (.i _) n)=>some n
  |_=>none
def GQ(s:AS)(e:Ty):D→Option (List (T e)×Bool×List Nat)
 |.nil=>some ([],true,[])
 |.t (.sl e') ys=>match Ty.dec e' e with
  |some ⟨h⟩=>some (h▸ys,e.flat,[])
  |none=>none
 |.t .s y=>match Ty.dec (.i .u8) e with
  |some ⟨h⟩=>some (h▸Nc y,true,[])
  |none=>none
 |.own id=>match s.heap id with
  |some (.row e' dp ys)=>match Ty.dec e' e with
   |some ⟨h⟩=>some (h▸ys,dp||e.flat,bif e.flat then[]else[id])
   |none=>none
  |_=>none
 |.cut id lo hi=>match s.heap id with
  |some (.row e' dp ys)=>match Ty.dec e' e with
   |some ⟨h⟩=>bif e.flat||!dp then some ((Ya (h▸ys:List (T e)) lo hi),e.flat,[])else none
   |none=>none
  |_=>none
 |_=>none
def N1(s:AS)(e:Ty):D→Option (List (T e)×Option Bool×List Nat)
 |.nil=>some ([],none,[])
 |.own id=>match s.heap id with
  |some (.row e' dp ys)=>match Ty.dec e' e with
   |some ⟨h⟩=>some (h▸ys,some (dp||e.flat),[id])
   |none=>none
  |_=>none
 |.cut id lo hi=>match s.heap id with
  |some (.row e' dp ys)=>match Ty.dec e' e with
   |some ⟨h⟩=>bif e.flat||!dp then some ((Ya (h▸ys:List (T e)) lo hi),some e.flat,[id])else none
   |none=>none
  |_=>none
 |_=>none
def D.ids:D→List Nat
 |.own j|.mpo j|.ptr j _|.eptr j _ _|.cut j _ _=>[j]
 |.pr a b=>a.ids++b.ids
 |.tup d=>d.ids
 |_=>[]
def D.owns:D→List Nat
 |.own j=>[j]
 |.pr a b=>a.owns++b.owns
 |_=>[]
def D.noCut:D→Bool
 |.cut _ _ _=>false
 |.pr a b=>a.noCut&&b.noCut
 |_=>true
def VF(l:List Nat)(x:Nat):Bool:=l.any (qw x)
def ER(l m:List Nat):Bool:=l.any (VF m)
def OJ(l:List (Nat×Nat)):Bool:=l.any fun p=>qw p.1 999999999
def cmB(l:List (Nat×Nat)):Bool:=l.any fun p=>qw p.1 999999998
def AS.boxLive(s:AS):Bool:=match s.heap 500000 with
 |some (.box _ _)=>true
 |_=>false
def XK:(d:D)→(τ:Ty)→T τ→List (Nat×Option Ka)
 |.own id,.sl e,xs=>[(id,some (.row e true xs))]
 |.mpo id,.mp k v,xs=>[(id,some (.mx k v xs))]
 |.pr a b,.p x y,v=>XK a x v.1++XK b y v.2
 |_,_,_=>[]
def FM(G:Sf)(s:AS)(dst:Option Tmp)(f:FuncId)(args:List Operand)(K:D→List (Nat×Option Ka)→Option Out):Option Out:=
 match Xb G.fn f with
 |some (.pu pt rt fr f)=>match Jy s args with
  |some ds=>match Ib s ds pt with
   |some x=>jz (f x) fun r=>match Ah rt r fr (100000+64*dst.getD 0)with
    |some (d,u,m)=>match ZP d with
     |some d'=>bif jx m (100064+64*dst.getD 0)&&Te s u&&((!ds.hasOwn||fr.all id)||((G.fz&&!OJ G.att)&&ds.noCut))then K d' (u++bif !ds.hasOwn||fr.all id then[]else Ed ds.owns)else none
     |none=>none
    |none=>none
   |none=>none
  |none=>none
 |some (.io τ pt rt fr f)=>match args with
  |a0::args=>match s.ev a0,Jy s args with
   |some d0,some ds=>match Cc s d0 τ,Ib s ds pt with
    |some (x0,l),some x=>jz (f x0 x) fun r=>match Ah rt r.2 fr (100000+64*dst.getD 0)with
     |some (d,u,m)=>match ZP d with
      |some d'=>bif jx m (100064+64*dst.getD 0)&&Te s u&&Lg l&&!ds.hasOwn then K d' (u++XK d0 τ r.1)else none
      |none=>none
     |none=>none
    |_,_=>none
   |_,_=>none
  |[]=>none
 |some (.co pt rt fr f)=>match Jy s args with
  |some ds=>match Cc s ds pt with
   |some (x,l)=>jz (f x) fun r=>match Ah rt r fr (100000+64*dst.getD 0)with
    |some (d,u,m)=>match ZP d with
     |some d'=>bif jx m (100064+64*dst.getD 0)&&Te s u&&Lg l&&(fr.all id||(G.fz&&!OJ G.att))then K d' (u++Ed l)else none
     |none=>none
    |none=>none
   |none=>none
  |none=>none
 |some (.bx vw cv τ pt rt fr f)=>match args with
  |a0::args=>match s.ev a0,Jy s args with
   |some (.ptr bid []),some ds=>match s.heap bid with
    |some (.box τ' d0)=>match Ty.dec τ' τ,(bif vw then(match Hm d0 τ with
     |some x=>some (x,[])
     |none=>none)else Cc s d0 τ),(bif cv then Cc s ds pt else match Ib s ds pt with
     |some x=>some (x,[])
     |none=>none)with
     |some _,some (x0,l),some (x,l2)=>jz (f x0 x) fun r=>match Ah rt r.2 fr (100000+64*dst.getD 0)with
      |some (d,u,m)=>match ZP d,(bif vw then(D.t τ r.1,[],m)else Ff τ r.1 m)with
       |some d',(e,v,m')=>bif jx m' (100064+64*dst.getD 0)&&Te s (u++v)&&Lg (bid::(l++l2))&&(cv||!ds.hasOwn)then K d' (u++(v++((bid,some (.box τ e))::Ed (l++l2))))else none
       |none,_=>none
      |none=>none
     |_,_,_=>none
    |_=>none
   |_,_=>none
  |[]=>none
 |some (.nw pt τ f)=>match dst,Jy s args with
  |some tt,some ds=>match Ib s ds pt with
   |some x=>jz (f x) fun r=>bif s.newOk tt&&!ds.hasOwn then K (.ptr tt []) [(tt,some (.box τ (.t τ r)))]else none
   |none=>none
  |_,_=>none
 |none=>none
def HO:Option Ty→Bool
 |some (.sl _)|some .s=>true
 |_=>false
def DD(G:Sf)(s:AS)(dst:Option Tmp)(t tx:TypeId)(a b:Operand)(K:D→List (Nat×Option Ka)→Option Out):Option Out:=
 match dst,Xb G.ty t,s.ev a,s.ev b with
 |some tt,some (.sl e),some da,some db=>match N1 s e da,GQ s e db with
  |some (xs,dp,l),some (ys,dq,m)=>
   bif (dp.getD dq==dq)&&s.newOk tt&&Lg (l++m)&&HO (Xb G.ty tx)then
    bif jx (ja xs+ja ys) Sa then
     K (.own tt) ((tt,some (.row e dq (jf xs ys)))::Ed (l++m))
    else none
   else none
  |_,_=>none
 |_,_,_,_=>none
def PP(G:Sf):Option Tmp→Bool
 |some tt=>VF G.ml tt
 |none=>false
def Iy(G:Sf)(s:AS)(dst:Option Tmp)(t tx:TypeId)(a b:Operand)(K:D→List (Nat×Option Ka)→Option Out):Option Out:=
 match dst,Xb G.ty t,s.ev a,s.ev b with
 |some _,some (.sl e),some (.own id),some db=>match s.heap id,GQ s e db with
  |some (.row e' dp xs),some (ys,dq,m)=>match Ty.dec e' e with
   |some ⟨h⟩=>bif (((dp||e.flat)==dq)&&Lg (id::m))&&(HO (Xb G.ty tx)&&(G.fz&&!OJ G.att))then
    bif jx (ja (h▸xs:List (T e))+ja ys) Sa then
     K (.t (.sl e) (jf (h▸xs:List (T e)) ys)) ((id,some (.fz e' xs))::Ed m)
    else none
    else none
   |none=>none
  |_,_=>none
 |_,_,_,_=>none
def BO(G:Sf)(s:AS)(dst:Option Tmp)(t tx:TypeId)(a b:Operand)(K:D→List (Nat×Option Ka)→Option Out):Option Out:=
 bif PP G dst then Iy G s dst t tx a b K else DD G s dst t tx a b K
def GM(G:Sf)(s:AS)(t tx:TypeId)(a b:Operand)(K:D→List (Nat×Option Ka)→Option Out):Option Out:=
 match Xb G.ty t,s.ev a,s.ev b with
 |some (.sl e),some (.own id),some db=>match s.heap id with
  |some (.row e' dp xs)=>match Ty.dec e' e,GQ s e' db with
   |some _,some (ys,_,_)=>bif e'.flat&&HO (Xb G.ty tx)then
    bif jx (ja ys) (ja xs)then
     K (.t (.i .i64) ((ja ys:Nat):Int)) [(id,some (.row e' dp (jf ys (List.drop (ja ys) xs))))]
    else none
    else none
   |_,_=>none
  |_=>none
 |_,_,_=>none
def KA(s:AS)(dst:Option Tmp)(τ:Ty)(id i:Nat)(e:Ty)(xs:List (T e))(k:Nat)(K:D→List (Nat×Option Ka)→Option Out):Option Out:=
 match Ty.dec e τ with
 |some _=>bif qw i k then jz xs[i]? fun x=>match Ff e x (100000+64*dst.getD 0)with
  |(d,u,m)=>bif jx m (100064+64*dst.getD 0)&&Te s u then K d ((id,some (.mov e xs (i+1)))::u)else none
  else none
 |none=>none
def BZ(G:Sf)(s:AS)(dst:Option Tmp)(t:TypeId)(id:Nat)(lo hi:Option Operand)(K:D→List (Nat×Option Ka)→Option Out):Option Out:=
 match s.heap id with
 |some (.row e dp xs)=>match IT s lo,WW s (ja xs) hi,Xb G.ty t with
  |some l,some h,some (.sl e')=>match Ty.dec e e' with
   |some _=>bif Bd (ja xs) l h then(match dst with
    |some tt=>bif VF G.mv tt then(bif s.newOk tt then K (.own tt) [(tt,some (.row e dp (Ya xs l.toNat h.toNat))),(id,none)]else none)else K (.cut id l.toNat h.toNat) []
    |none=>none)else none
   |none=>none
  |_,_,_=>none
 |_=>none
def QS(G:Sf)(s:AS)(t:TypeId)(id a b:Nat)(lo hi:Option Operand)(K:D→List (Nat×Option Ka)→Option Out):Option Out:=
 match s.heap id with
 |some (.row e _ _)=>match IT s lo,WW s (b-a) hi,Xb G.ty t with
  |some l,some h,some (.sl e')=>match Ty.dec e e' with
   |some _=>bif Bd (b-a) l h then K (.cut id (a+l.toNat) (a+h.toNat)) []else none
   |none=>none
  |_,_,_=>none
 |_=>none
def Hc(G:Sf)(s:AS)(o:Oper)(K:D→List (Nat×Option Ka)→Option Out):Option Out:=
 match o.op with
 |.move x|.assign x=>match s.ev x with
  |some d=>K d []
  |none=>none
 |.pick c a b=>match s.ev c with
  |some (.t .b β)=>cond (show Bool from β)
   (match s.ev a with|some d=>K d []|none=>none)
   (match s.ev b with|some d=>K d []|none=>none)
  |_=>none
 |.alloc t=>match o.dst,Xb G.ty t with
  |some tt,some τ=>bif s.newOk tt then K (.ptr tt []) [(tt,some (.box τ (zD τ)))]else none
  |some tt,none=>match Xb G.ar t with
   |some (e,n)=>bif s.newOk tt&&(yb 0 n&&(jx n 1000&&jx e.size 1000))then K (.eptr tt 0 []) [(tt,some (.row e true (yd n (zT e))))]else none
   |none=>none
  |none,_=>none
 |.box t x=>match o.dst,Xb G.ty t,s.ev x with
  |some tt,some τ,some d=>bif s.newOk tt&&Kd τ d then K (.ptr tt []) [(tt,some (.box τ d))]else none
  |_,_,_=>none
 |.build t ps=>match Xb G.ty t with
  |some τ=>match OQ s τ (zD τ) ps.toList with
   |some d=>bif τ.isAgg then K d []else none
   |none=>none
  |none=>none
 |.buildSlice t n ps=>match o.dst,Xb G.ty t with
  |some tt,some (.sl e)=>match GX s e 0 ps.toList with
   |some (xs,l)=>bif s.newOk tt&&Lg l&&qw n ps.size&&jx n 1000&&jx e.size 1000 then K (.own tt) ((tt,some (.row e true xs))::Ed l)else none
   |none=>match AR s e 0 ps.toList with
    |some xs=>bif s.newOk tt&&qw n ps.size&&jx n 1000&&jx e.size 1000 then K (.own tt) [(tt,some (.row e false xs))]else none
    |none=>none
  |_,_=>none
 |.load t x=>match Xb G.ty t,s.ev x with
  |some τ,some (.ptr id path)=>match s.heap id with
   |some (.box ρ d)=>match Rf ρ path,d.at path with
    |some τ',some e=>match Ty.dec τ' τ with
     |some _=>K e []
     |none=>none
    |_,_=>none
   |_=>none
  |some τ,some (.rp τ' v)=>match Ty.dec τ' τ with
   |some _=>K (.t τ' v) []
   |none=>none
  |some τ,some (.eptr id i path)=>bif PP G o.dst then(match s.heap id,path with
   |some (.row e true xs),[]=>KA s o.dst τ id i e xs 0 K
   |some (.mov e xs k),[]=>KA s o.dst τ id i e xs k K
   |_,_=>none)else match s.heap id with
   |some (.row e dp xs)=>jz xs[i]? fun x=>match Rf e path,(D.t e x).at path with
    |some τ',some y=>match Ty.dec τ' τ with
     |some _=>bif (!dp||e.flat)||τ'.flat then K y []else match Hm y τ' with
      |some y'=>match Ff τ' y' (100000+64*o.dst.getD 0)with
       |(d,u,m)=>bif jx m (100064+64*o.dst.getD 0)&&Te s u then K d ((id,some (.hol e xs i x path τ' d))::u)else none
      |none=>none
     |none=>none
    |_,_=>none
   |_=>none
  |_,_=>none
 |.store t x v=>match Xb G.ty t,s.ev x,s.ev v with
  |some τ,some (.ptr id path),some dv=>match s.heap id with
   |some (.box ρ d)=>match Rf ρ path,d.setAt path dv with
    |some τ',some d'=>match Ty.dec τ' τ with
     |some _=>bif Kd τ dv then K .und [(id,some (.box ρ d'))]else none
     |none=>none
    |_,_=>none
   |_=>none
  |some τ,some (.eptr id i path),some dv=>match s.heap id with
   |some (.row e dp xs)=>match Rf e path with
    |some τ'=>match Ty.dec τ' τ with
     |some _=>bif dp||e.flat then match Cc s dv τ with
      |some (y,l)=>bif (dp||l.isEmpty)&&Lg (id::l)then jz xs[i]? fun x=>match Ni e x path τ y with
       |some x'=>K .und ((id,some (.row e dp (j5 xs i x')))::Ed l)
       |none=>none
       else none
      |none=>none
      else match Hm dv τ with
       |some y=>jz xs[i]? fun x=>match Ni e x path τ y with
        |some x'=>K .und [(id,some (.row e dp (j5 xs i x')))]
        |none=>none
       |none=>none
     |none=>none
    |none=>none
   |some (.hol e xs i0 x path0 _ _)=>match Rf e path with
    |some τ'=>match Ty.dec τ' τ with
     |some _=>match Cc s dv τ with
      |some (y,l)=>bif Lg (id::l)&&(path==path0)then
       bif qw i i0 then match Ni e x path τ y with
        |some x'=>K .und ((id,some (.row e true (j5 xs i x')))::Ed l)
        |none=>none
       else none
       else none
      |none=>none
     |none=>none
    |none=>none
   |_=>none
  |_,_,_=>none
 |.nilCheck x=>match s.ev x with
  |some (.ptr id p)=>match s.heap id with
   |some (.box _ _)=>K (.ptr id p) []
   |_=>none
  |some (.rp τ v)=>K (.rp τ v) []
  |some (.eptr id i p)=>match(s.heap id).bind Ka.rowN with
   |some _=>K (.eptr id i p) []
   |none=>none
  |_=>none
 |.binOp op t x y _=>match s.ev x,s.ev y with
  |some a,some b=>bif a.isAgg then match Xb G.ty t with
   |some τ=>match Hm a τ,Hm b τ with
    |some u,some v=>bif τ.cmp&&τ.isAgg&&jx τ.cnt 9000 then match op with
     |.eql=>K (.t .b (YB τ u v)) []
     |.neq=>K (.t .b (!YB τ u v)) []
     |_=>none
     else none
    |_,_=>none
   |none=>none
   else AZ (match Xb G.ty t with|some .b=>true|_=>false) op a b K
  |_,_=>none
 |.unOp op _ x=>match op,s.ev x with
  |.not,some (.t .b v)=>K (.t .b (!(show Bool from v))) []
  |.neg,some (.t (.i kk) v)=>K (.t (.i kk) (kk.wrap ((0:Int)-v))) []
  |_,_=>none
 |.convert src t x=>match Xb G.ty src,Xb G.ty t,s.ev x with
  |some _,some (.i kk),some (.t (.i _) n)=>K (.t (.i kk) (kk.wrap n)) []
  |some .s,some .s,some (.t .s v)=>K (.t .s v) []
  |some (.sl (.i .u8)),some .s,some d=>match Ib s d (.sl (.i .u8))with
   |some v=>K (.t .s (Ap v)) []
   |none=>none
  |some .s,some (.sl (.i .u8)),some (.t .s v)=>bif jx (ja v) Sa then K (.t (.sl (.i .u8)) (Nc v)) []else none
  |_,_,_=>none
 |.slice t x lo hi none=>match s.ev x with
  |some (.t .s v)=>match IT s lo,WW s (ja v) hi,Xb G.ty t with
   |some l,some h,some .s=>bif Bd (ja v) l h then K (.t .s (Ya v l.toNat h.toNat)) []else none
   |_,_,_=>none
  |some (.t (.sl e) v)=>match IT s lo,WW s (ja v) hi,Xb G.ty t with
   |some l,some h,some (.sl e')=>match Ty.dec e e' with
    |some _=>bif Bd (ja v) l h then K (.t (.sl e) (Ya v l.toNat h.toNat)) []else none
    |none=>none
   |_,_,_=>none
  |some (.own id)=>BZ G s o.dst t id lo hi K
  |some .nil=>match IT s lo,WW s 0 hi,Xb G.ty t with
   |some l,some h,some (.sl _)=>bif Bd 0 l h then K .nil []else none
   |_,_,_=>none
  |some (.cut id a b)=>QS G s t id a b lo hi K
  |_=>none
 |.fieldAddr t x f=>match Xb G.ty t,s.ev x with
  |some τ,some (.ptr id path)=>match s.heap id with
   |some (.box ρ _)=>match Rf ρ path,Za τ f with
    |some τ',some τf=>match Ty.dec τ' τ with
     |some _=>bif yb 0 τf.size then K (.ptr id (path++[f])) []else none
     |none=>none
    |_,_=>none
   |_=>none
  |some τ,some (.eptr id i path)=>match(s.heap id).bind Ka.rowN with
   |some (e,_)=>match Rf e path,Za τ f with
    |some τ',some τf=>match Ty.dec τ' τ with
     |some _=>bif yb 0 τf.size then K (.eptr id i (path++[f])) []else none
     |none=>none
    |_,_=>none
   |none=>none
  |some τ,some (.rp τ' v)=>match Ty.dec τ' τ,(D.t τ' v).field f,Za τ' f with
   |some _,some (.t τf u),some τg=>bif yb 0 τg.size then K (.rp τf u) []else none
   |_,_,_=>none
  |_,_=>none
 |.field t x f=>match Xb G.ty t,s.ev x with
  |some τ,some d=>bif Kd τ d then match Za τ f,d.field f with
   |some _,some e=>K e []
   |_,_=>none
   else none
  |_,_=>none
 |.indexAddr t x i=>match Xb G.ty t,s.ev x,s.ev i with
  |some (.sl e'),some (.t (.sl e) xs),some (.t (.i _) n)=>match Ty.dec e e' with
   |some _=>jz (Wb (show List (T e)from xs) n) fun v=>K (.rp e v) []
   |none=>none
  |some (.sl e'),some (.own id),some (.t (.i _) n)=>match(s.heap id).bind Ka.rowN with
   |some (e,len)=>match Ty.dec e e' with
    |some _=>bif Ac len n then K (.eptr id (jy n) []) []else none
    |none=>none
   |none=>none
  |some (.sl e'),some (.cut id lo hi),some (.t (.i _) n)=>match(s.heap id).bind Ka.rowN with
   |some (e,_)=>match Ty.dec e e' with
    |some _=>bif Ac (hi-lo) n then K (.eptr id (lo+jy n) []) []else none
    |none=>none
   |none=>none
  |none,some (.eptr id 0 []),some (.t (.i _) n)=>match Xb G.ar t,(s.heap id).bind Ka.rowN with
   |some (e',c),some (e,len)=>match Ty.dec e e' with
    |some _=>bif qw c len then bif Ac len n then K (.eptr id (jy n) []) []else none else none
    |none=>none
   |_,_=>none
  |_,_,_=>none
 |.index t x i=>match Xb G.ty t,s.ev x,s.ev i with
  |some .s,some (.t .s v),some (.t (.i _) n)=>jz (Wb (show List UInt8 from v) n) fun c=>K (.t (.i .u8) (c.toNat:Int)) []
  |_,_,_=>none
 |.makeSlice t l c=>match o.dst,Xb G.ty t,s.ev l,s.ev c with
  |some tt,some (.sl e),some (.t (.i .i64) n),some (.t (.i .i64) m)=>
   bif s.newOk tt then
    bif ((n:Int)==m)&&(decide ((0:Int)≤n)&&decide ((n:Int)≤Sa))then
     K (.own tt) [(tt,some (.row e true (yd (jy n) (zT e))))]
    else none
   else none
  |_,_,_,_=>none
 |.extract x n=>match s.ev x with
  |some (.tup d)=>match TH d n with
   |some e=>K e []
   |none=>none
  |_=>none
 |.call ⟨.value (.func f),args,_⟩=>FM G s o.dst f args.toList K
 |.call ⟨.builtin .len,args,ts⟩=>match args.toList,ts.toList with
  |[x],[t]=>match Xb G.ty t,s.ev x with
   |some (.sl _),some (.t (.sl _) xs)=>K (.t (.i .i64) (ja xs:Int)) []
   |some .s,some (.t .s v)=>K (.t (.i .i64) (ja v:Int)) []
   |some (.sl _),some .nil=>K (.t (.i .i64) (0:Int)) []
   |some (.sl _),some (.own id)=>match(s.heap id).bind Ka.rowN with
    |some (_,len)=>K (.t (.i .i64) (len:Int)) []
    |none=>none
   |some (.sl _),some (.cut id lo hi)=>match(s.heap id).bind Ka.rowN with
    |some _=>K (.t (.i .i64) ((hi-lo:Nat):Int)) []
    |none=>none
   |_,_=>none
  |_,_=>none
 |.call ⟨.builtin .append,args,ts⟩=>match args.toList,ts.toList with
  |[a,b],[t,tx]=>BO G s o.dst t tx a b K
  |_,_=>none
 |.call ⟨.builtin .copy,args,ts⟩=>match args.toList,ts.toList with
  |[a,b],[t,tx]=>GM G s t tx a b K
  |_,_=>none
 |.call ⟨.builtin .max,args,_⟩=>match args.toList with
  |[x,y]=>match s.ev x,s.ev y with
   |some (.t (.i ka) a),some (.t (.i kb) b)=>bif ka==kb then K (.t (.i ka) (max (a:Int) b)) []else none
   |_,_=>none
  |_=>none
 |.call ⟨.builtin .min,args,_⟩=>match args.toList with
  |[x,y]=>match s.ev x,s.ev y with
   |some (.t (.i ka) a),some (.t (.i kb) b)=>bif ka==kb then K (.t (.i ka) (min (a:Int) b)) []else none
   |_,_=>none
  |_=>none
 |_=>none
def Ig(G:Sf)(s:AS)(o:Oper)(k:AS→Option Out):Option Out:=Hc G s o fun d u=>Xi s o.dst d u k
def Vd{α:Type}:List (Int×α)→Int→Option α
 |[],_=>none
 |(k,x)::r,n=>bif n==k then some x else Vd r n
def PU{α:Type}:List (Int×α)→Int→α→List (Int×α)
 |[],n,y=>[(n,y)]
 |(k,x)::r,n,y=>bif n==k then(k,y)::r else(k,x)::PU r n y
def Pae:Op→Bool
 |.makeMap _ _|.lookup _ _ _ _|.mapUpdate _ _ _ _|.insert _ _ _ _=>true
 |_=>false
def O6(G:Sf)(s:AS)(t:TypeId)(m x v:Operand)(K:D→List (Nat×Option Ka)→Option Out):Option Out:=
 match Xb G.ty t,s.ev m,s.ev x,s.ev v with
 |some (.mp (.i kk) τ),some (.mpo id),some (.t (.i k2) n),some d=>match s.heap id,Hm d τ with
  |some (.mp (.i k3) τ3 xs),some y=>match Ty.dec τ τ3 with
   |some ⟨h⟩=>bif (kk==k2)&&(kk==k3)then K .und [(id,some (.mp (.i k3) τ3 (PU (show List (Int×T τ3)from xs) n (h▸y))))]else none
   |none=>none
  |_,_=>none
 |_,_,_,_=>none
def Y0(G:Sf)(s:AS)(t:TypeId)(m x v:Operand)(K:D→List (Nat×Option Ka)→Option Out):Option Out:=
 match Xb G.ty t,s.ev m,s.ev x,s.ev v with
 |some (.mp (.i kk) (.sl e)),some (.mpo id),some (.t (.i k2) n),some d=>match s.heap id,Cc s d (.sl e)with
  |some (.mq k3 e3 xs),some (y,l)=>match Ty.dec e e3 with
   |some ⟨h⟩=>bif (kk==k2)&&((kk==k3)&&(Lg (id::l)&&(G.fz&&(!OJ G.att&&!cmB G.att))))then
    bif (Vd xs n).isNone then K .und ((id,some (.mq k3 e3 (jf xs [(n,(show List (T e3)from h▸y))])))::Ed l)else none
    else none
   |none=>none
  |_,_=>none
 |_,_,_,_=>none
def RS{τ:Ty}(xs:List (Int×T τ))(n:Int)(ok:Bool)(K:D→List (Nat×Option Ka)→Option Out):Option Out:=
 bif ok then K (.tup (.pr (.t τ ((Vd xs n).getD (zT τ))) (.pr (.t .b (Vd xs n).isSome) .un))) []else K (.t τ ((Vd xs n).getD (zT τ))) []
def AS.isMq(s:AS)(m:Operand):Bool:=match s.ev m with
 |some (.mpo id)=>match s.heap id with
  |some (.mq _ _ _)=>true
  |_=>false
 |_=>false
def WT(G:Sf)(s:AS)(o:Oper)(K:D→List (Nat×Option Ka)→Option Out):Option Out:=
 match o.op with
 |.makeMap t none=>match o.dst,Xb G.ty t with
  |some tt,some (.mp k v)=>bif VF G.mv tt then(match k,v with
   |.i kk,.sl e=>bif s.newOk tt then K (.mpo tt) [(tt,some (.mq kk e ([]:List (Int×List (T e)))))]else none
   |_,_=>none)else
   bif s.newOk tt then K (.mpo tt) [(tt,some (.mp k v ([]:List (T k×T v))))]else none
  |_,_=>none
 |.mapUpdate t m x v|.insert t m x v=>bif s.isMq m then Y0 G s t m x v K else O6 G s t m x v K
 |.lookup t m x ok=>match Xb G.ty t,s.ev m,s.ev x with
  |some (.mp (.i kk) τ),some (.mpo id),some (.t (.i k2) n)=>match s.heap id with
   |some (.mp (.i k3) τ3 xs)=>match Ty.dec τ τ3 with
    |some _=>bif (kk==k2)&&(kk==k3)then RS (τ:=τ3) xs n ok K else none
    |none=>none
   |some (.mq k3 e xs)=>match Ty.dec τ (.sl e)with
    |some _=>bif (kk==k2)&&(kk==k3)then RS (τ:=.sl e) xs n ok K else none
    |none=>none
   |some (.mx (.i k3) (.sl e) xs)=>match Ty.dec τ (.sl e)with
    |some _=>bif (kk==k2)&&((kk==k3)&&(ok&&PP G o.dst))&&s.newOk (100000+64*o.dst.getD 0)then
     K (.tup (.pr (.own (100000+64*o.dst.getD 0)) (.pr (.t .b (Vd xs n).isSome) .un))) [(100000+64*o.dst.getD 0,some (.row e true ((Vd xs n).getD []))),(id,none)]else none
    |none=>none
   |_=>none
  |some (.mp (.i kk) τ),some (.t (.mp (.i k3) τ3) xs),some (.t (.i k2) n)=>match Ty.dec τ τ3 with
   |some _=>bif (kk==k2)&&(kk==k3)then RS (τ:=τ3) xs n ok K else none
   |none=>none
  |_,_,_=>none
 |_=>none
def P6(G:Sf)(s:AS)(o:Oper)(k:AS→Option Out):Option Out:=bif Pae o.op then WT G s o fun d u=>Xi s o.dst d u k else Ig G s o k
end
inductive Ex where
 |normal
 |exit (id:Nat)
 |ret
inductive TD where
 |data (τ:Ty)
 |own (id:Nat) (e:Ty) (dp:Bool)
 |ptr (id:Nat) (path:List Nat)
 |pr (a b:TD)
 |un
 |hol (id:Nat) (e:Ty) (path:List Nat) (τ:Ty) (d:TD)
 |arr (id:Nat) (e:Ty)
 |mov (id:Nat) (e:Ty)
 |mpo (id:Nat) (k v:Ty)
 |mqo (id:Nat) (kk:IntKind) (e:Ty)
@[reducible]def TD.ty:TD→Ty
 |.data τ=>τ
 |.own _ e _=>.sl e
 |.ptr _ _=>.u
 |.pr a b=>.p a.ty b.ty
 |.un=>.u
 |.hol _ e _ _ d=>.p (.sl e) (.p (.i .i64) (.p e d.ty))
 |.arr _ e=>.sl e
 |.mov _ e=>.p (.sl e) (.i .i64)
 |.mpo _ k v=>.mp k v
 |.mqo _ kk e=>.mp (.i kk) (.sl e)
structure CG where
 tm:List (Tmp×TD)
 bx:List (Nat×Ty×TD)
@[reducible]def CG.tyT:List (Tmp×TD)→Ty
 |[]=>.u
 |(_,d)::r=>.p d.ty (CG.tyT r)
@[reducible]def CG.tyB:List (Nat×Ty×TD)→Ty
 |[]=>.u
 |(_,_,d)::r=>.p d.ty (CG.tyB r)
@[reducible]def CG.X(p:CG):Type:=T (CG.tyT p.tm)×T (CG.tyB p.bx)
abbrev Km:=List (Nat×Option Nat)
def Rz:(td:TD)→T td.ty→D
 |.data τ,x=>.t τ x
 |.own id _ _,_=>.own id
 |.ptr id p,_=>.ptr id p
 |.pr a b,v=>.pr (Rz a v.1) (Rz b v.2)
 |.un,_=>.un
 |.hol id _ _ _ _,_=>.own id
 |.arr id _,_=>.eptr id 0 []
 |.mov id _,_=>.own id
 |.mpo id _ _,_=>.mpo id
 |.mqo id _ _,_=>.mpo id
def Pe(s:AS):(td:TD)→D→Option (T td.ty×Km)
 |.data τ,d=>match Hm d τ with
  |some x=>some (x,[])
  |none=>none
 |.own id' e dp,.own id=>match s.heap id with
  |some (.row e' dp' xs)=>match Ty.dec e' e with
   |some ⟨h⟩=>bif (dp'==dp)||e.flat then some ((h▸xs:List (T e)),[(id',some id)])else none
   |none=>none
  |_=>none
 |.own id' _ _,.nil=>some (([]:List _),[(id',none)])
 |.hol id' e path τ td,.own id=>match s.heap id with
  |some (.hol e' xs i x path' τ' d)=>match Ty.dec e' e,Ty.dec τ' τ with
   |some ⟨h⟩,some _=>bif path==path' then match Pe s td d with
    |some (y,m)=>bif Kd τ (Rz td y)then some (((h▸xs:List (T e)),((((i:Nat):Int),((h▸x:T e),y)))),(id',some id)::m)else none
    |none=>none
    else none
   |_,_=>none
  |_=>none
 |.arr id' e,.eptr id 0 []=>match s.heap id with
  |some (.row e' true xs)=>match Ty.dec e' e with
   |some ⟨h⟩=>some ((h▸xs:List (T e)),[(id',some id)])
   |none=>none
  |_=>none
 |.mov id' e,.own id=>match s.heap id with
  |some (.row e' true xs)=>match Ty.dec e' e with
   |some ⟨h⟩=>some (((h▸xs:List (T e)),(0:Int)),[(id',some id)])
   |none=>none
  |some (.mov e' xs k)=>match Ty.dec e' e with
   |some ⟨h⟩=>some (((h▸xs:List (T e)),((k:Nat):Int)),[(id',some id)])
   |none=>none
  |_=>none
 |.mpo id' k v,.mpo id=>match s.heap id with
  |some (.mp k' v' xs)=>match Ty.dec k' k,Ty.dec v' v with
   |some ⟨h⟩,some ⟨g⟩=>some (h▸g▸xs,[(id',some id)])
   |_,_=>none
  |_=>none
 |.mqo id' kk e,.mpo id=>match s.heap id with
  |some (.mq kk' e' xs)=>match Ty.dec (.mp (.i kk') (.sl e')) (.mp (.i kk) (.sl e))with
   |some ⟨h⟩=>some ((h▸(show T (.mp (.i kk') (.sl e'))from xs):T (.mp (.i kk) (.sl e))),[(id',some id)])
   |none=>none
  |_=>none
 |.ptr id' p,.ptr id q=>bif p==q then some ((),[(id',some id)])else none
 |.pr a b,d=>match d.fst,d.snd with
  |some x,some y=>match Pe s a x,Pe s b y with
   |some (u,l),some (v,m)=>some ((u,v),l++m)
   |_,_=>none
  |_,_=>none
 |.un,d=>match Hm d .u with
  |some x=>some (x,[])
  |none=>none
 |_,_=>none
def Xap(s:AS):(l:List (Tmp×TD))→Option (T (CG.tyT l)×Km)
 |[]=>some ((),[])
 |(t,td)::r=>match Xb s.tm t with
  |some d=>match Pe s td d,Xap s r with
   |some (x,m),some (y,n)=>some ((x,y),m++n)
   |_,_=>none
  |none=>none
def Uad(s:AS):(l:List (Nat×Ty×TD))→Km→Option (T (CG.tyB l)×Km)
 |[],m=>some ((),m)
 |(id',ρ,td)::r,m=>match Xb m id' with
  |some (some id)=>match s.heap id with
   |some (.box ρ' d)=>match Ty.dec ρ' ρ with
    |some _=>match Pe s td d with
     |some (x,m')=>bif Kd ρ (Rz td x)then match Uad s r (m++m')with
      |some (y,m'')=>some ((x,y),m'')
      |none=>none
      else none
     |none=>none
    |none=>none
   |_=>none
  |_=>none
def EO:Km→Bool
 |[]=>true
 |(j,some i)::r=>((yb j 500000&&yb i 500000)||qw j i)&&EO r
 |(j,none)::r=>yb j 500000&&EO r
def TM(x y:Nat×Option Nat):Bool:=match x.2,y.2 with
 |some a,some c=>qw x.1 y.1==qw a c
 |none,none=>true
 |_,_=>!Nat.beq x.1 y.1
def OaD(m:Km):Bool:=(m.all fun x=>m.all fun y=>TM x y)&&EO m
def ext(p:CG)(s:AS):Option p.X:=
 match Xap s p.tm with
 |some (x,m)=>match Uad s p.bx m with
  |some (y,m')=>bif OaD m' then some (x,y)else none
  |none=>none
 |none=>none
def LC:(td:TD)→T td.ty→List (Nat×Option Ka)
 |.own id e dp,xs=>[(id,some (.row e dp xs))]
 |.pr a b,v=>LC a v.1++LC b v.2
 |.hol id e path τ d,v=>(id,some (.hol e v.1 (jy v.2.1) v.2.2.1 path τ (Rz d v.2.2.2)))::LC d v.2.2.2
 |.arr id e,xs=>[(id,some (.row e true xs))]
 |.mov id e,v=>[(id,some (.mov e v.1 (jy v.2)))]
 |.mpo id k v,xs=>[(id,some (.mp k v xs))]
 |.mqo id kk e,xs=>[(id,some (.mq kk e xs))]
 |_,_=>[]
def E5:(l:List (Tmp×TD))→T (CG.tyT l)→List (Nat×D)
 |[],_=>[]
 |(t,td)::r,v=>(t,Rz td v.1)::E5 r v.2
def U5:(l:List (Tmp×TD))→T (CG.tyT l)→List (Nat×Option Ka)
 |[],_=>[]
 |(_,td)::r,v=>LC td v.1++U5 r v.2
def D5:(l:List (Nat×Ty×TD))→T (CG.tyB l)→List (Nat×Option Ka)
 |[],_=>[]
 |(id,ρ,td)::r,v=>(id,some (.box ρ (Rz td v.1)))::(LC td v.1++D5 r v.2)
def OP(p:CG)(x:p.X)(n:Nat):AS:=⟨n,E5 p.tm x.1,U5 p.tm x.1++D5 p.bx x.2⟩
structure Qa where
 n:Nat
 inT:CG
 exitId:Nat
 outT:CG
 retT:CG
 F:inT.X→Option (outT.X⊕retT.X)
def Ln:Code→Option Nat
 |.region id _ _=>some id
 |.seq a b=>match Ln a with
  |some r=>some r
  |none=>Ln b
 |.cond _ a b=>match Ln a with
  |some r=>some r
  |none=>Ln b
 |.block _ c|.loop c|.scope c=>Ln c
 |_=>none
def Ka.ids:Ka→List Nat
 |.box _ d=>d.ids
 |.row _ _ _=>[]
 |.hol _ _ _ _ _ _ d=>d.ids
 |.mov _ _ _=>[]
 |.mp _ _ _=>[]
 |.mq _ _ _=>[]
 |.mx _ _ _=>[]
 |.fz _ _=>[]
def AS.attach(s:AS)(id:Nat):Option AS:=match s.heap id with
 |some (.hol e xs i x path τ d)=>match Cc s d τ with
  |some (y,l)=>bif Lg (id::l)then match Ni e x path τ y with
   |some x'=>some ⟨s.n,s.tm,(id,some (.row e true (j5 xs i x')))::(Ed l++s.hp)⟩
   |none=>none
   else none
  |none=>none
 |_=>some s
def Ty.isSl:Ty→Bool
 |.sl _=>true
 |_=>false
def Ty.isMp:Ty→Bool
 |.mp _ _=>true
 |_=>false
def D.frz(id:Nat)(τ:Ty)(x:T τ):D→D
 |.own j=>bif qw j id&&τ.isSl then .t τ x else .own j
 |.mpo j=>bif qw j id&&τ.isMp then .t τ x else .mpo j
 |.pr a b=>.pr (a.frz id τ x) (b.frz id τ x)
 |.tup d=>.tup (d.frz id τ x)
 |d=>d
def Ka.frz(id:Nat)(τ:Ty)(x:T τ):Ka→Ka
 |.box ρ d=>.box ρ (d.frz id τ x)
 |.hol e xs i z path τ' d=>.hol e xs i z path τ' (d.frz id τ x)
 |b=>b
def Ka.shaped:Ka→Bool
 |.box ρ d=>Kd ρ d
 |.hol _ _ _ _ _ τ d=>Kd τ d
 |_=>true
def AS.freeze(s:AS)(id:Nat):Option AS:=match s.heap id with
 |some (.row e _ xs)=>match(s.hp.map fun p=>(p.1,p.2.map (Ka.frz id (.sl e) xs)))with
  |hp=>bif hp.all fun p=>(p.2.map Ka.shaped).getD true then some ⟨s.n,s.tm.map fun p=>(p.1,p.2.frz id (.sl e) xs),(id,none)::hp⟩else none
 |some (.mp k v xs)=>match(s.hp.map fun p=>(p.1,p.2.map (Ka.frz id (.mp k v) xs)))with
  |hp=>bif hp.all fun p=>(p.2.map Ka.shaped).getD true then some ⟨s.n,s.tm.map fun p=>(p.1,p.2.frz id (.mp k v) xs),(id,none)::hp⟩else none
 |some (.mx k v xs)=>match(s.hp.map fun p=>(p.1,p.2.map (Ka.frz id (.mp k v) xs)))with
  |hp=>bif hp.all fun p=>(p.2.map Ka.shaped).getD true then some ⟨s.n,s.tm.map fun p=>(p.1,p.2.frz id (.mp k v) xs),(id,none)::hp⟩else none
 |_=>some s
def AS.frzParts(s:AS)(id:Nat):AS:=match s.heap id with
 |some (.row e true xs)=>⟨s.n,s.tm,(id,some (.row e false xs))::s.hp⟩
 |_=>s
def YR(fz bm:Bool):List (Nat×Nat)→Nat→AS→Option AS
 |[],_,s=>some s
 |(r,id)::l,n,s=>bif qw r n then match(bif jx 1000000000 id then(bif fz&&(!bm||s.boxLive)then(bif jx 2000000000 id then some (s.frzParts (id-2000000000))else s.freeze (id-1000000000))else none)else s.attach id)with
  |some s'=>YR fz bm l n s'
  |none=>none
  else YR fz bm l n s
structure FP where
 rt:List Nat
 ri:List Nat
 wt:Option Nat
 wi:List Nat
 mi:List Nat
def Yd:Op→List Operand
 |.move x|.assign x=>[x]
 |.pick c a b=>[c,a,b]
 |.box _ x=>[x]
 |.build _ ps=>ps.toList.map (·.2)
 |.buildSlice _ _ ps=>ps.toList.map (·.2)
 |.load _ x=>[x]
 |.store _ x v=>[x,v]
 |.nilCheck x=>[x]
 |.binOp _ _ x y _=>[x,y]
 |.unOp _ _ x=>[x]
 |.convert _ _ x=>[x]
 |.slice _ x lo hi _=>x::(lo.toList++hi.toList)
 |.fieldAddr _ x _=>[x]
 |.field _ x _=>[x]
 |.indexAddr _ x i=>[x,i]
 |.index _ x i=>[x,i]
 |.makeSlice _ l c=>[l,c]
 |.extract x _=>[x]
 |.call ⟨_,args,_⟩=>args.toList
 |_=>[]
def Dv:List Operand→List Nat
 |[]=>[]
 |.tmp t::r=>t::Dv r
 |_::r=>Dv r
def YO(s:AS):D→List Nat
 |.ptr id _=>match s.heap id with
  |some (.box _ d)=>d.ids
  |_=>[]
 |_=>[]
def MK:Op→Bool
 |.call _=>true
 |_=>false
def DI:Op→Bool
 |.move _|.assign _=>true
 |_=>false
def Li:Op→Bool
 |.nilCheck _|.fieldAddr _ _ _|.indexAddr _ _ _=>true
 |.call ⟨.builtin .len,_,_⟩=>true
 |_=>false
def HZ:Op→Bool
 |.load _ _|.store _ _ _=>true
 |_=>false
def RQ(s:AS)(c:Bool):List Operand→List Nat
 |[]=>[]
 |x::r=>match s.ev x with
  |some d=>(d.ids++bif c then YO s d else[])++RQ s c r
  |none=>RQ s c r
def Gy:List (Nat×Option Ka)→List Nat
 |[]=>[]
 |(_,some b)::r=>b.ids++Gy r
 |(_,none)::r=>Gy r
def MX(H:List Nat):List Nat→List Nat
 |[]=>[]
 |x::r=>bif VF H x then MX H r else x::MX H r
def E7(H:List Nat)(s:AS)(o:Oper)(g:List Nat)(d:D)(u:List (Nat×Option Ka)):FP:=
 ⟨g++Dv (Yd o.op),bif DI o.op then[]else bif Li o.op then MX H (RQ s (MK o.op) (Yd o.op))else RQ s (MK o.op) (Yd o.op),o.dst,u.map (·.1),d.ids++Gy u⟩
def V4(H:List Nat)(o:Op)(u:List (Nat×Option Ka)):Bool:=match H with
 |[]=>true
 |_=>bif HZ o then !ER H (u.tail.map (·.1))else !ER H (u.map (·.1))
def Cae:List (Nat×Nat)→Nat→List Nat
 |[],_=>[]
 |(r,id)::l,n=>bif qw r n then id::Cae l n else Cae l n
def N5(dst:Option Nat)(l:List Nat):Bool:=match dst with
 |some t=>l.any fun id=>qw id t||(jx (100000+64*t) id&&yb id (100064+64*t))
 |none=>l.any fun id=>jx 100000 id&&yb id 100064
def Zag(t:Option Nat)(l:List Nat):Bool:=match t with
 |some t=>VF l t
 |none=>false
def C5(f g:FP):Bool:=
 !Zag f.wt g.rt&&!Zag g.wt f.rt&&!Zag f.wt g.wt.toList&&!ER f.wi g.ri&&!ER g.wi f.ri&&!ER f.wi g.wi&&!N5 f.wt g.mi&&!N5 g.wt f.mi
def H4:List Nat→List Nat→List Nat
 |[],l=>l
 |x::r,l=>H4 r (bif VF l x then l else x::l)
def CZ(prev:List (Nat×(List Nat×FP))):List Edge→List Nat→List Nat
 |[],l=>l
 |e::r,l=>bif Region.binds .any e then CZ prev r (H4 (e.on::(match Xb prev e.on with
  |some (a,_)=>a
  |none=>[])) l)else CZ prev r l
def Kap(i:Nat)(es:List Edge):Bool:=es.all fun e=>!Region.binds .any e||yb e.on i
def RM(anc:List Nat)(f:FP)(prev:List (Nat×(List Nat×FP))):Bool:=prev.all fun p=>VF anc p.1||C5 p.2.2 f
section
variable{Out:Type}
def JI(G:Sf)(H:List Nat)(ops:Array Oper):List Oper→Nat→List (Nat×(List Nat×FP))→AS→(AS→Option Out)→Option Out
 |[],_,_,s,k=>k s
 |o::r,i,prev,s,k=>bif Kap i o.after.toList then
  match CZ prev o.after.toList []with
  |anc=>match o.guard with
   |none=>Hc G s o fun d u=>match E7 H s o [] d u with
    |f=>bif RM anc f prev&&V4 H o.op u then Xi s o.dst d u fun s'=>JI G H ops r (i+1) ((i,(anc,f))::prev) s' k else none
   |some (j,want)=>match(ops[j]?).bind (·.dst)with
    |some t=>match Xb s.tm t with
     |some (.t .b β)=>match E7 H s o [t] .und []with
      |f0=>cond (show Bool from β)
       (bif want then Hc G ⟨s.n,(t,.t .b true)::s.tm,s.hp⟩ o fun d u=>match E7 H s o [t] d u with
        |f=>bif RM anc f prev&&V4 H o.op u then Xi ⟨s.n,(t,.t .b true)::s.tm,s.hp⟩ o.dst d u fun s'=>JI G H ops r (i+1) ((i,(anc,f))::prev) s' k else none
        else bif RM anc f0 prev then Xi ⟨s.n,(t,.t .b true)::s.tm,s.hp⟩ o.dst .und [] fun s'=>JI G H ops r (i+1) ((i,(anc,f0))::prev) s' k else none)
       (bif want then bif RM anc f0 prev then Xi ⟨s.n,(t,.t .b false)::s.tm,s.hp⟩ o.dst .und [] fun s'=>JI G H ops r (i+1) ((i,(anc,f0))::prev) s' k else none
        else Hc G ⟨s.n,(t,.t .b false)::s.tm,s.hp⟩ o fun d u=>match E7 H s o [t] d u with
         |f=>bif RM anc f prev&&V4 H o.op u then Xi ⟨s.n,(t,.t .b false)::s.tm,s.hp⟩ o.dst d u fun s'=>JI G H ops r (i+1) ((i,(anc,f))::prev) s' k else none)
     |some .und=>match E7 H s o [t] .und []with
      |f0=>bif RM anc f0 prev then Xi s o.dst .und [] fun s'=>JI G H ops r (i+1) ((i,(anc,f0))::prev) s' k else none
     |_=>none
    |none=>none
  else none
end
section
variable{Out:Type}
def ZJ(G:Sf)(r:Nat)(ops:Array Oper):List Oper→Nat→AS→(AS→Option Out)→Option Out
 |[],_,s,k=>k s
 |o::rest,i,s,k=>match YR G.fz (OJ G.att) G.att (1000*r+i+1) s with
  |none=>none
  |some s=>match o.guard with
   |none=>P6 G s o fun s'=>ZJ G r ops rest (i+1) s' k
   |some (j,want)=>match(ops[j]?).bind (·.dst)with
    |some t=>match Xb s.tm t with
     |some (.t .b β)=>cond (show Bool from β)
      (bif want then P6 G ⟨s.n,(t,.t .b true)::s.tm,s.hp⟩ o fun s'=>ZJ G r ops rest (i+1) s' k
       else Xi ⟨s.n,(t,.t .b true)::s.tm,s.hp⟩ o.dst .und [] fun s'=>ZJ G r ops rest (i+1) s' k)
      (bif want then Xi ⟨s.n,(t,.t .b false)::s.tm,s.hp⟩ o.dst .und [] fun s'=>ZJ G r ops rest (i+1) s' k
       else P6 G ⟨s.n,(t,.t .b false)::s.tm,s.hp⟩ o fun s'=>ZJ G r ops rest (i+1) s' k)
     |some .und=>Xi s o.dst .und [] fun s'=>ZJ G r ops rest (i+1) s' k
     |_=>none
    |none=>none
def ZB(G:Sf)(L:List (Nat×Qa)):Code→AS→(Ex→AS→Option Out)→Option Out
 |.skip,s,k=>k .normal s
 |.region r ops draw,s,k=>match YR G.fz (OJ G.att) G.att (1000*r) s with
  |some s=>bif draw then JI G (Cae G.att (1000*r+998)) ops ops.toList 0 [] s fun s'=>match YR G.fz (OJ G.att) G.att (1000*r+999) s' with
   |some s'=>k .normal s'
   |none=>none
   else ZJ G r ops ops.toList 0 s fun s'=>match YR G.fz (OJ G.att) G.att (1000*r+999) s' with
    |some s'=>k .normal s'
    |none=>none
  |none=>none
 |.seq a b,s,k=>ZB G L a s fun e s'=>match e with
  |.normal=>ZB G L b s' k
  |.exit j=>k (.exit j) s'
  |.ret=>k .ret s'
 |.cond (.tmp t) x y,s,k=>match Xb s.tm t with
  |some (.t .b β)=>cond (show Bool from β) (ZB G L x ⟨s.n,(t,.t .b true)::s.tm,s.hp⟩ k) (ZB G L y ⟨s.n,(t,.t .b false)::s.tm,s.hp⟩ k)
  |_=>none
 |.cond (.const (.bool β)) x y,s,k=>cond β (ZB G L x s k) (ZB G L y s k)
 |.block id c,s,k=>ZB G L c s fun e s'=>match e with
  |.normal=>k .normal s'
  |.exit j=>bif qw j id then k .normal s' else k (.exit j) s'
  |.ret=>k .ret s'
 |.loop c,s,k=>match Ln c with
  |some r=>match Xb L r with
   |some ls=>match ext ls.inT s with
    |some x=>bif qw s.n ls.n then jz (ls.F x) (Sum.elim (fun y=>k (.exit ls.exitId) (OP ls.outT y s.n)) (fun z=>k .ret (OP ls.retT z s.n)))else none
    |none=>none
   |none=>none
  |none=>none
 |.exit id,s,k=>k (.exit id) s
 |.ret,s,k=>k .ret s
 |_,_,_=>none
def JR(G:Sf)(L:List (Nat×Qa))(ls:Qa)(body:Code)(x:ls.inT.X):Option (ls.inT.X⊕(ls.outT.X⊕ls.retT.X)):=
 ZB G L body (OP ls.inT x ls.n) fun e s'=>bif qw s'.n ls.n then match e with
  |.normal=>match ext ls.inT s' with
   |some x=>some (.inl x)
   |none=>none
  |.exit j=>bif qw j ls.exitId then match ext ls.outT s' with
   |some y=>some (.inr (.inl y))
   |none=>none
   else none
  |.ret=>match ext ls.retT s' with
   |some z=>some (.inr (.inr z))
   |none=>none
  else none
def BH(G:Sf)(s:AS):List ResultVar→Option D
 |[]=>some .un
 |.tmp t::r=>match Xb s.tm t,BH G s r with
  |some d,some e=>some (.pr d e)
  |_,_=>none
 |.cell t ty::r=>match Xb s.tm t,BH G s r with
  |some (.ptr id []),some e=>match s.heap id,Xb G.ty ty with
   |some (.box ρ d),some τ=>match Ty.dec ρ τ with
    |some _=>some (.pr d e)
    |none=>none
   |_,_=>none
  |_,_=>none
def Dar(s:AS):(rt:Ty)→List Bool→D→Option (T rt)
 |.p (.mp k v) .u,[true],.pr (.mpo id) .un=>match s.heap id with
  |some (.mq kk e xs)=>match Ty.dec (.mp (.i kk) (.sl e)) (.mp k v)with
   |some ⟨h⟩=>some ((h▸(show T (.mp (.i kk) (.sl e))from xs):T (.mp k v)),())
   |none=>none
  |_=>none
 |_,_,_=>none
def Qh(s:AS):(rt:Ty)→List Bool→D→Option (T rt×List Nat)
 |.u,[],.un=>some ((),[])
 |.p x y,f::r,.pr a b=>match(bif f then Cc s a x else match Hm a x with
  |some u=>some (u,[])
  |none=>none),Qh s y r b with
  |some (u,l),some (v,m)=>some ((u,v),l++m)
  |_,_=>none
 |_,_,_=>none
def VL:(pt:Ty)→T pt→Nat→List (Nat×D)
 |.p x y,v,n=>(n,.t x v.1)::VL y v.2 (n+1)
 |_,_,_=>[]
def evF(G:Sf)(L:List (Nat×Qa))(fn:Func)(pt rt:Ty)(fr:List Bool)(x:T pt):Option (T rt):=
 match fn.body with
 |some c=>ZB G L c ⟨fn.ntmps,VL pt x 0,[]⟩ fun e s=>match e with
  |.exit _=>none
  |_=>match BH G s fn.results.toList with
   |some d=>match Dar s rt fr d with
    |some r=>some r
    |none=>match Qh s rt fr d with
     |some (r,l)=>bif Lg l then some r else none
     |none=>none
   |none=>none
 |none=>none
end
section
variable{P:Program} {Out:Type} {n0:Nat} {A:Fx} {O0:Nat→Prop} {w0 w w':World} {s:AS} {σ σ':Nat→Value} {φ φ':Nat→List Nat} {a:Act}
def Nf(n0:Nat)(A:Fx)(O0:Nat→Prop)(w0:World)(k:AS→Option Out)(out:Out)(a:Act)(w:World):Prop:=
 ∃s σ φ,k s=some out∧Db n0 A O0 w0 s σ φ a w
theorem Db.put(h:Db n0 A O0 w0 s σ φ a w){t:Nat}(ht:t<s.n){d:D}{v:Value}(hr:Td w (OO O0 s φ) s.heap σ d v):
 Db n0 A O0 w0 ⟨s.n,(t,d)::s.tm,s.hp⟩ σ φ (a.put (some t) v) w:=by
 refine⟨?_,h.df,?_,h.hp,h.nodup,h.disj,h.fresh,h.o0,h.fr,h.pin,h.iv0,h.ivw,h.shr⟩
 ·simpa[Act.put]using h.sz
 ·intro t' d' hd
  rw[Id]at hd
  have hsz:=h.sz
  split at hd
  ·rename_i e
   subst e
   simp only[jc]at hd
   subst hd
   exact⟨v,by simp[Act.put,hsz,ht],hr⟩
  ·rename_i e
   obtain⟨v',hv',hr'⟩:=h.tm t' d' hd
   exact⟨v',by simpa[Act.put,Array.getElem?_setIfInBounds_ne e]using hv',hr'⟩
theorem Db.same(h:Db n0 A O0 w0 s σ φ a w){t:Nat}{d:D}(hd:Xb s.tm t=some d):
 Db n0 A O0 w0 ⟨s.n,(t,d)::s.tm,s.hp⟩ σ φ a w:=by
 refine⟨h.sz,h.df,?_,h.hp,h.nodup,h.disj,h.fresh,h.o0,h.fr,h.pin,h.iv0,h.ivw,h.shr⟩
 intro t' d' hd'
 rw[Id]at hd'
 split at hd'
 ·rename_i e
  subst e
  simp only[jc]at hd'
  subst hd'
  exact h.tm _ _ hd
 ·exact h.tm _ _ hd'
variable{o:Oper} {Q:Exit→Act→World→Prop} {k:AS→Option Out} {out:Out} {d:D} {v:Value} {upd:List (Nat×Option Ka)} {dst:Option Tmp}
theorem Jf{s₁:AS}(hn:s₁=⟨s.n,s.tm,upd++s.hp⟩)(hc:Db n0 A O0 w0 s₁ σ' φ' a w')(hr:Td w' (OO O0 s₁ φ') s₁.heap σ' d v)
 (he:Xi s dst d upd k=some out):Nf n0 A O0 w0 k out (a.put dst v) w':=by
 subst hn
 unfold Xi at he
 cases dst with
 |none=>exact⟨_,σ',φ',he,hc⟩
 |some t=>
  simp only at he
  cases hb:yb t s.n with
  |false=>simp[hb]at he
  |true=>
   rw[hb]at he
   have ht:t<s.n:=by rwa [ye]at hb
   exact⟨_,σ',φ',he,Db.put (s:=⟨s.n,s.tm,upd++s.hp⟩) hc ht hr⟩
theorem Pc(h:Db n0 A O0 w0 s σ φ a w)(hr:Td w (OO O0 s φ) s.heap σ d v)(he:Xi s dst d [] k=some out):
 Nf n0 A O0 w0 k out (a.put dst v) w:=Jf (s:=s) (s₁:=s) rfl h hr he
theorem Car{cv:Value}{d:D}(h:HW cv=some d){O:Nat→Prop}{hp:Nat→Option Ka}:Td w O hp σ d cv:=by
 unfold HW at h
 split at h<;>simp only[jc,reduceCtorEq]at h
 ·subst h;simp[Td,Kf,D.isAgg,Kb,Wa]
 ·subst h;simp[Td,Kf,D.isAgg,Kb,Wa]
 ·subst h;simp[Td,Kf,D.isAgg,Kb,Wa]
 ·subst h;simp[Td,Kf,D.isAgg,Kb]
 ·subst h;simp[Td]
 ·subst h;simp[Td]
theorem Db.ev(h:Db n0 A O0 w0 s σ φ a w){x:Operand}{d:D}(hx:s.ev x=some d):Td w (OO O0 s φ) s.heap σ d (a.eval x):=by
 cases x with
 |tmp t=>
  obtain⟨v,hv,hr⟩:=h.tm t d hx
  simp only[Act.eval]
  rw[Array.getD_eq_getD_getElem?,hv]
  exact hr
 |const v=>exact Car hx
 |_=>simp[AS.ev]at hx
theorem Bf{O:Nat→Prop}{hp:Nat→Option Ka}{k:IntKind}{n:Int}{v:Value}:Td w O hp σ (.t (.i k) n) v↔v=.int k n:=by
 simp[Td,Kf,D.isAgg,Kb,Wa]
theorem Xk{O:Nat→Prop}{hp:Nat→Option Ka}{n:Bool}{v:Value}:Td w O hp σ (.t .b n) v↔v=.bool n:=by
 simp[Td,Kf,D.isAgg,Kb,Wa]
theorem Hp{O:Nat→Prop}{hp:Nat→Option Ka}{n:List UInt8}{v:Value}:Td w O hp σ (.t .s n) v↔v=.string ⟨n.toArray⟩:=by
 simp[Td,Kf,D.isAgg,Kb,Wa]
theorem BE{O:Nat→Prop}{hp:Nat→Option Ka}{v:Value}:Td w O hp σ .und v↔v=undef:=by simp[Td]
theorem VaD(h:Db n0 A O0 w0 s σ φ a w){tb:Bool}{op:BinOp}{t:TypeId}{x y:D}{u v:Value}{X Y:Operand}
 (hx:Td w (OO O0 s φ) s.heap σ x u) (hy:Td w (OO O0 s φ) s.heap σ y v) (he:WaJ s tb dst op x y k=some out) (htb:tb=true→P.underlying t=some .bool):
 ∃r,(do eqGuard op t X Y u v;binOp op t u v:Sem Value).run P w=.ok r w∧Nf n0 A O0 w0 k out (a.put dst r) w:=by
 unfold WaJ AZ at he
 split at he
 ·rename_i ka x kb y
  rw[Bf]at hx hy
  subst hx;subst hy
  have hg:(eqGuard op t X Y (.int ka x) (.int kb y)).run P w=.ok () w:=by
   unfold eqGuard;split<;>rfl
  simp only[qo,hg,qn]
  have shi:∀{op:BinOp} {z:Int},Xi s dst (.t (.i ka) z) [] k=some out→(binOp op t (.int ka x) (.int kb y)).run P w=.ok (.int ka z) w→
   ∃r,(binOp op t (.int ka x) (.int kb y)).run P w=.ok r w∧Nf n0 A O0 w0 k out (a.put dst r) w:=
   fun hf hr=>⟨_,hr,Pc h (Bf.2 rfl) hf⟩
  have shb:∀{op:BinOp} {z:Bool},Xi s dst (.t .b z) [] k=some out→(binOp op t (.int ka x) (.int kb y)).run P w=.ok (.bool z) w→
   ∃r,(binOp op t (.int ka x) (.int kb y)).run P w=.ok r w∧Nf n0 A O0 w0 k out (a.put dst r) w:=
   fun hf hr=>⟨_,hr,Pc h (Xk.2 rfl) hf⟩
  split at he
  ·cases hy0:decide (0≤y)with
   |false=>simp[hy0]at he
   |true=>
    simp only[hy0,zg]at he
    have:¬y<0:=by simpa using hy0
    refine shi he ?_
    simp[binOp,Op.shift,this,Ke]
  ·cases hy0:decide (0≤y)with
   |false=>simp[hy0]at he
   |true=>
    simp only[hy0,zg]at he
    have:¬y<0:=by simpa using hy0
    refine shi he ?_
    simp[binOp,Op.shift,this,Mx]
  ·cases hk:(ka==kb)with
   |false=>simp[hk]at he
   |true=>
    simp only[hk,zg]at he
    have hkk:ka=kb:=by simpa using hk
    subst hkk
    split at he
    ·refine shi he ?_;simp[binOp,Op.intArith]
    ·refine shi he ?_;simp[binOp,Op.intArith]
    ·refine shi he ?_;simp[binOp,Op.intArith]
    ·cases hz:((y:Int)==0)with
     |true=>simp[hz]at he
     |false=>
      simp only[hz,zh]at he
      have:¬y=0:=by simpa using hz
      refine shi he ?_
      simp[binOp,Op.intDiv,this]
    ·cases hz:((y:Int)==0)with
     |true=>simp[hz]at he
     |false=>
      simp only[hz,zh]at he
      have:¬y=0:=by simpa using hz
      refine shi he ?_
      simp[binOp,Op.intDiv,this]
    ·refine shi he ?_;simp[binOp,Op.intBits,Fh]
    ·refine shi he ?_;simp[binOp,Op.intBits,Xd]
    ·refine shi he ?_;simp[binOp,Op.intBits,Ft]
    ·refine shi he ?_;simp[binOp,Op.intBits,Aj]
    ·refine shb he ?_;simp[binOp,Op.intCmp]
    ·refine shb he ?_;simp[binOp,Op.intCmp]
    ·refine shb he ?_;simp[binOp,Op.intCmp]
    ·refine shb he ?_;simp[binOp,Op.intCmp]
    ·refine shb he ?_;simp[binOp,Op.intCmp]
    ·refine shb he ?_;simp[binOp,Op.intCmp]
    ·simp at he
 ·rename_i x y
  rw[Hp]at hx hy
  subst hx;subst hy
  have hg:(eqGuard op t X Y (.string ⟨qr x⟩) (.string ⟨qr y⟩)).run P w=.ok () w:=by
   unfold eqGuard;split<;>rfl
  simp only[qo,hg,qn]
  have e1:(ByteArray.mk (qr x)).toList=x:=ByteArray.toList_mk x
  have e2:(ByteArray.mk (qr y)).toList=y:=ByteArray.toList_mk y
  split at he
  ·cases hl:jx (ja x+ja y) Sa with
   |false=>simp[hl]at he
   |true=>
    simp only[hl,zg]at he
    have hle:=q6 hl
    refine⟨_,?_,Pc h (Hp.2 rfl) he⟩
    have hs:¬(((ByteArray.mk (qr x)).size+(ByteArray.mk (qr y)).size:Nat):Int)>IntKind.i64.max:=by
     have:(ByteArray.mk (qr x)).size+(ByteArray.mk (qr y)).size=ja x+ja y:=by simp[ByteArray.size]
     rw[this]
     have:IntKind.i64.max=9223372036854775807:=by decide
     rw[this]
     unfold Sa at hle
     omega
    have ha:ByteArray.mk (qr x)++ByteArray.mk (qr y)=ByteArray.mk (qr (jf x y)):=by
     apply ByteArray.ext
     simp
    simp only[binOp,Op.stringOp,if_neg hs,ha]
    rfl
  ·refine⟨_,?_,Pc h (Xk.2 rfl) he⟩
   simp[binOp,Op.stringOp,e1,e2]
  ·refine⟨_,?_,Pc h (Xk.2 rfl) he⟩
   simp[binOp,Op.stringOp,e1,e2,bne]
  ·simp at he
 ·rename_i x y
  rw[Xk]at hx hy
  subst hx;subst hy
  have hg:(eqGuard op t X Y (.bool x) (.bool y)).run P w=.ok () w:=by
   unfold eqGuard;split<;>rfl
  simp only[qo,hg,qn]
  split at he
  ·cases tb with
   |false=>simp at he
   |true=>
    refine⟨_,?_,Pc h (Xk.2 rfl) he⟩
    simp[binOp,run_equal_bool w t x y (htb rfl)]
  ·cases tb with
   |false=>simp at he
   |true=>
    refine⟨_,?_,Pc h (Xk.2 rfl) he⟩
    simp[binOp,run_equal_bool w t x y (htb rfl),bne]
  ·simp at he
 ·simp at he
end
def B1(P:Program)(t:TypeId)(e:Ty)(n:Nat):Bool:=
 (match P.underlying t with
 |some (.array m et)=>qw m n&&Ie P e et
 |_=>false)&&(match P.info? t with
 |some i=>(match i.zero with
  |some (.agg cs)=>VM cs.toList (yd n e.zc).flatten
  |_=>false)
 |none=>false)
structure EnvTy(P:Program)(G:Sf):Prop where
 ty:∀t τ,Xb G.ty t=some τ→Ie P τ t=true
 ar:∀t e n,Xb G.ar t=some (e,n)→B1 P t e n=true
section
variable{P:Program} {Out:Type} {n0:Nat} {A:Fx} {O0:Nat→Prop} {w0 w w':World} {s:AS} {σ σ':Nat→Value} {φ φ':Nat→List Nat} {a:Act}
variable{o:Oper} {Q:Exit→Act→World→Prop} {k:AS→Option Out} {out:Out} {d:D} {v:Value} {upd:List (Nat×Option Ka)} {dst:Option Tmp} {G:Sf}
theorem Ec(hrun:(execOp a.eval o).run P w=.ok (.value v) w')(hg:Nf n0 A O0 w0 k out (a.put o.dst v) w'):o.wp P a w (Nf n0 A O0 w0 k out) Q:=by
 unfold Oper.wp;rw[hrun];exact hg
theorem AL(hrun:(execOp a.eval o).run P w=.ok .skip w')(hg:Nf n0 A O0 w0 k out (a.put o.dst undef) w'):o.wp P a w (Nf n0 A O0 w0 k out) Q:=by
 unfold Oper.wp;rw[hrun];exact hg
theorem Aam(h:Db n0 A O0 w0 s σ φ a w){x:Operand}(ho:o.op=.move x∨o.op=.assign x)
 (he:(match s.ev x with|some d=>Xi s o.dst d [] k|none=>none)=some out):o.wp P a w (Nf n0 A O0 w0 k out) Q:=by
 split at he
 ·rename_i d hd
  refine Ec (v:=a.eval x) (w':=w) ?_ (Pc h (h.ev hd) he)
  rcases ho with ho|ho<;>simp[execOp,ho]
 ·simp at he
theorem YaH(h:Db n0 A O0 w0 s σ φ a w){c x y:Operand}(ho:o.op=.pick c x y)
 (he:Ig G s o k=some out):o.wp P a w (Nf n0 A O0 w0 k out) Q:=by
 simp only[Ig,Hc,ho]at he
 split at he
 ·rename_i β hc
  have hv:=h.ev hc
  rw[Xk]at hv
  have hrun:∀z:Value,(if(show Bool from β)then a.eval x else a.eval y)=z→(execOp a.eval o).run P w=.ok (.value z) w:=by
   intro z hz
   simp only[execOp,ho,hv,asBool,qo,Sem.run_pure,qn]
   rw[←hz]
  cases hb:(show Bool from β)with
  |true=>
   have hb':β=true:=hb
   subst hb'
   simp only[zg]at he
   split at he
   ·rename_i d hd
    exact Ec (hrun _ rfl) (Pc h (h.ev hd) he)
   ·simp at he
  |false=>
   have hb':β=false:=hb
   subst hb'
   simp only[zh]at he
   split at he
   ·rename_i d hd
    exact Ec (hrun _ rfl) (Pc h (h.ev hd) he)
   ·simp at he
 ·simp at he
theorem ZaH(h:Db n0 A O0 w0 s σ φ a w){op:UnOp}{t:TypeId}{x:Operand}(ho:o.op=.unOp op t x)
 (he:Ig G s o k=some out):o.wp P a w (Nf n0 A O0 w0 k out) Q:=by
 simp only[Ig,Hc,ho]at he
 split at he
 ·rename_i b hx
  have hv:=h.ev hx
  rw[Xk]at hv
  exact Ec (w':=w) (by simp[execOp,ho,hv,Op.unary]) (Pc h (Xk.2 rfl) he)
 ·rename_i kk n hx
  have hv:=h.ev hx
  rw[Bf]at hv
  exact Ec (w':=w) (by simp[execOp,ho,hv,Op.unary,Op.intArith]) (Pc h (Bf.2 rfl) he)
 ·simp at he
theorem Say(hG:EnvTy P G)(h:Db n0 A O0 w0 s σ φ a w){op:BinOp}{t t':TypeId}{x y:Operand}(ho:o.op=.binOp op t x y t')
 (hagg:∀u,s.ev x=some u→u.isAgg=false) (he:Ig G s o k=some out):o.wp P a w (Nf n0 A O0 w0 k out) Q:=by
 simp only[Ig,Hc,ho]at he
 split at he
 ·rename_i u v hu hv
  rw[hagg u hu]at he
  simp only[zh]at he
  obtain⟨r,hr,hg⟩:=VaD (P:=P) (t:=t) (X:=x) (Y:=y) h (h.ev hu) (h.ev hv) he (by
   intro htb
   split at htb
   ·rename_i hb;exact Tok.b (hG.ty _ _ hb)
   ·simp at htb)
  exact Ec (w':=w) (by simp only[execOp,ho];rw[qo,hr];rfl) hg
 ·simp at he
theorem Uv{O:Nat→Prop}{hp:Nat→Option Ka}{τ:Ty}{d:D}{cs:List Value}(hs:Ob τ d)(h:Kb w O hp σ d cs):Td w O hp σ d (Me τ cs):=by
 have ha:=hs.isAgg
 have hl:=Kb.length hs h
 have key:Kf w O hp σ d (Me τ cs):=by
  unfold Kf Me
  rw[ha]
  cases hτ:τ.isAgg with
  |true=>simp only[if_true];exact⟨cs.toArray,rfl,by simpa using h⟩
  |false=>
   simp only[jq,if_false]
   rw[Ty.size_one hτ]at hl
   obtain⟨v,rfl⟩:=q9.1 hl
   simpa using h
 unfold Td
 split
 ·cases τ<;>simp[Ob]at hs
 ·cases τ<;>simp[Ob]at hs
 ·cases τ<;>simp[Ob]at hs
 ·exact key
theorem Qf{O:Nat→Prop}{hp:Nat→Option Ka}{τ:Ty}{d:D}{v:Value}(hs:Ob τ d)(h:Td w O hp σ d v):Kb w O hp σ d v.cells.toList∧v=Me τ v.cells.toList:=by
 have hV:Kf w O hp σ d v:=by
  cases d<;>first|(exact h)|(cases τ<;>simp[Ob]at hs)
 have ha:=hs.isAgg
 unfold Kf at hV
 rw[ha]at hV
 cases hτ:τ.isAgg with
 |true=>
  rw[hτ]at hV
  simp only[if_true]at hV
  obtain⟨cs,rfl,hr⟩:=hV
  exact⟨by simpa[Value.cells]using hr,by simp[Me,hτ,Value.cells]⟩
 |false=>
  rw[hτ]at hV
  simp only[jq,if_false]at hV
  have hone:v.cells= #[v]:=by
   cases d with
   |t τ' x=>
    simp only[Ob]at hs
    subst hs
    cases τ' with
    |i k=>simp only[Kb,Wa]at hV;simp at hV;subst hV;rfl
    |b=>simp only[Kb,Wa]at hV;simp at hV;subst hV;rfl
    |o=>simp only[Kb,Wa]at hV;simp at hV;subst hV;rfl
    |mp k m=>obtain⟨hq,_⟩|⟨q,es,clk,hq,_⟩:=hV<;>(simp at hq;subst hq;rfl)
    |s=>simp only[Kb,Wa]at hV;simp at hV;subst hV;rfl
    |sl e=>obtain⟨q,c,hq,_⟩:=hV;simp at hq;subst hq;rfl
    |u=>simp[Ty.isAgg]at hτ
    |p x y=>simp[Ty.isAgg]at hτ
   |nil=>simp only[Kb]at hV;simp at hV;subst hV;rfl
   |own id=>
    obtain⟨u,hu,h1,_⟩:=hV
    simp at hu;subst hu
    cases v<;>simp_all [Value.oneCell',Value.cells]
   |mpo id=>
    obtain⟨u,hu,h1,_⟩:=hV
    simp at hu;subst hu
    cases v<;>simp_all [Value.oneCell',Value.cells]
   |cut id lo hi=>
    obtain⟨u,hu,h1,_⟩:=hV
    simp at hu;subst hu
    cases v<;>simp_all [Value.oneCell',Value.cells]
   |_=>cases τ<;>simp[Ob,Ty.isAgg]at hs hτ
  rw[hone]
  exact⟨by simpa using hV,by simp[Me,hτ]⟩
end
theorem Se{x y:Ty}{q:PLift (x=y)}(_:Ty.dec x y=some q):x=y:=q.down
section
variable{P:Program} {Out:Type} {n0:Nat} {A:Fx} {O0:Nat→Prop} {w0 w w':World} {s:AS} {σ σ':Nat→Value} {φ φ':Nat→List Nat} {a:Act}
variable{o:Oper} {Q:Exit→Act→World→Prop} {k:AS→Option Out} {out:Out} {d:D} {v:Value} {upd:List (Nat×Option Ka)} {dst:Option Tmp} {G:Sf}
theorem Wz{id:Nat}{path:List Nat}{hp:Nat→Option Ka}{O:Nat→Prop}:Td w O hp σ (.ptr id path) v↔
 v.oneCell'=true∧∀ρ d,hp id=some (.box ρ d)→∃b,σ id=.pointer (some ⟨b,0,none⟩)∧v=.pointer (some ⟨b,Yb ρ path,none⟩):=by
 simp only[Td,Kf,D.isAgg,jq,if_false,Kb]
 constructor
 ·rintro⟨u,hu,h1,h2⟩
  simp at hu;subst hu;exact⟨h1,h2⟩
 ·rintro⟨h1,h2⟩;exact⟨v,rfl,h1,h2⟩
theorem Am{id i:Nat}{path:List Nat}{hp:Nat→Option Ka}{O:Nat→Prop}:Td w O hp σ (.eptr id i path) v↔
 v.oneCell'=true∧∀Ga e n,hp id=some Ga→Ga.rowN=some (e,n)→i<n∧
  ∃b off cap,σ id=.slice (some ⟨b,off,none⟩) n cap∧v=.pointer (some ⟨b,off+i*e.size+Yb e path,none⟩):=by
 simp only[Td,Kf,D.isAgg,jq,if_false,Kb]
 constructor
 ·rintro⟨u,hu,h1,h2⟩
  simp at hu;subst hu;exact⟨h1,h2⟩
 ·rintro⟨h1,h2⟩;exact⟨v,rfl,h1,h2⟩
theorem LT{τ:Ty}{x:T τ}{hp:Nat→Option Ka}{O:Nat→Prop}:Td w O hp σ (.rp τ x) v↔
 ∃b off cur et fr,v=.pointer (some ⟨b,off,none⟩)∧¬O b∧w.heap[b]?=some (.cells cur et fr)∧off+τ.size≤cur.size∧Wa w O τ x (Ae cur off τ.size):=by
 simp[Td,Kf,D.isAgg,Kb]
theorem QO{e:Ty}{x:List (T e)}{hp:Nat→Option Ka}{O:Nat→Prop}:Td w O hp σ (.t (.sl e) x) v↔Wa w O (.sl e) x [v]:=by
 simp[Td,Kf,D.isAgg,Kb]
theorem Tz{w:World}:∀{τ:Ty} {x:T τ} {cs:List Value} {F:List Nat},τ.flat=true→Ic w τ x cs F→F=[]
 |.i _,_,_,_,_,h=>h.2
 |.b,_,_,_,_,h=>h.2
 |.o,_,_,_,_,h=>h.2
 |.mp _ _,_,_,_,hf,_=>by simp[Ty.flat]at hf
 |.s,_,_,_,_,h=>h.2
 |.sl _,_,_,_,hf,_=>by simp[Ty.flat]at hf
 |.u,_,_,_,_,h=>h.2
 |.p x y,_,_,_,hf,h=>by
  obtain⟨c1,c2,F1,F2,_,hF,h1,h2⟩:=h
  simp only[Ty.flat,jd]at hf
  rw[hF,Tz hf.1 h1,Tz hf.2 h2];rfl
theorem Laz{id:Nat}{e:Ty}{dp:Bool}{xs:List (T e)}{O:Nat→Prop}{hp:Nat→Option Ka}{F:List Nat}(h:Gd w O hp σ id (.row e dp xs) F)
 (hf:dp=false∨e.flat=true) {i:Nat} {x:T e} (hx:xs[i]?=some x) {b off cap:Nat} (hσ:σ id=.slice (some ⟨b,off,none⟩) (ja xs) cap):
 ∃cur et,w.heap[b]?=some (.cells cur et (0,0))∧off+i*e.size+e.size≤cur.size∧Wa w O e x (Ae cur (off+i*e.size) e.size):=by
 have hi:i<ja xs:=(q8.1 hx).1
 have hxe:List.get xs ⟨i,hi⟩=x:=by simpa[je hi]using hx
 have hlt:(i+1)*e.size≤ja xs*e.size:=jm _ hi
 rw[yf,Nat.one_mul]at hlt
 cases dp with
 |true=>
  have hfl:e.flat=true:=by simpa using hf
  simp only[Gd,Ic,hσ]at h
  obtain⟨hm,⟨h1,_⟩|⟨bl,off',cap',cur,et,Fs,h1,hh,h2,h3,h4,hF,hl,hv⟩⟩:=h
  ·simp at h1
  ·simp at h1
   obtain⟨⟨rfl,rfl⟩,rfl⟩:=h1
   have:=hv i hi
   rw[hxe]at this
   have hcap:=jm e.size h2
   refine⟨cur,et,hh,by omega,?_⟩
   have hnil:Fs.getD i []=[]:=Tz hfl this
   exact this.view (by rw[hnil];simp)
 |false=>
  simp only[Gd,hσ]at h
  obtain⟨hm,⟨h1,_⟩|⟨bl,off',cap',cur,et,h1,hh,h2,h3,h4,hF,hv⟩⟩:=h
  ·simp at h1
  ·simp at h1
   obtain⟨⟨rfl,rfl⟩,rfl⟩:=h1
   have:=hv i hi
   rw[hxe]at this
   have hcap:=jm e.size h2
   exact⟨cur,et,hh,by omega,this⟩
end
section
variable{P:Program} {Out:Type} {n0:Nat} {A:Fx} {O0:Nat→Prop} {w0 w w':World} {s:AS} {σ σ':Nat→Value} {φ φ':Nat→List Nat} {a:Act}
variable{o:Oper} {Q:Exit→Act→World→Prop} {k:AS→Option Out} {out:Out} {d:D} {v:Value} {upd:List (Nat×Option Ka)} {dst:Option Tmp} {G:Sf}
theorem Tok.field{τ τf:Ty}{t:TypeId}{n:Nat}(h:Ie P τ t=true)(hf:Za τ n=some τf):
 ∃fs f,P.underlying t=some (.struct fs)∧fs[n]?=some f∧f.offset=Ld τ n∧Ie P τf f.type=true:=by
 have ha:τ.isAgg=true:=by cases τ<;>simp_all [Za,Ty.isAgg]
 obtain⟨fs,hu,hk⟩:=Tok.struct ha h
 obtain⟨f,h1,h2,h3⟩:=Fok.field hk hf
 exact⟨fs,f,hu,by simpa using h1,by simpa using h2,h3⟩
theorem JS{τ τf:Ty}{t:TypeId}{n:Nat}(h:Ie P τ t=true)(hf:Za τ n=some τf)(hs:0<τf.size)(b off:Nat):
 (Instr.fieldAt t (.pointer (some ⟨b,off,none⟩)) n).run P w=.ok (.pointer (some ⟨b,off+Ld τ n,none⟩)) w:=by
 obtain⟨fs,f,hu,h1,h2,h3⟩:=Tok.field h hf
 have hz:¬τf.size=0:=by omega
 simp[Instr.fieldAt,run_underlying hu,h1,Instr.sureAddr,fieldPlace,Tok.sizeOf h3 w,hz,Jr,h2]
theorem TU:∀{p:List Nat} {ρ τ:Ty} {f:Nat},Rf ρ p=some τ→Yb ρ (p++[f])=Yb ρ p+Ld τ f
 |[],ρ,τ,f,h=>by
  simp only[Rf,jc]at h
  subst h
  simp only[yg,Yb,js]
  cases Za ρ f<;>simp
 |g::p,ρ,τ,f,h=>by
  simp only[Rf]at h
  cases hg:Za ρ g with
  |none=>simp[hg]at h
  |some τ'=>
   simp only[hg,jb]at h
   have:=TU (f:=f) h
   simp only[yh,Yb,hg,qa,qz,this]
   omega
theorem Oaf(hG:EnvTy P G)(h:Db n0 A O0 w0 s σ φ a w){t:TypeId}{x:Operand}{f:Nat}(ho:o.op=.fieldAddr t x f)
 (he:Ig G s o k=some out):o.wp P a w (Nf n0 A O0 w0 k out) Q:=by
 simp only[Ig,Hc,ho]at he
 split at he
 ·rename_i τ id path hty hx
  split at he
  ·rename_i ρ d hb
   split at he
   ·rename_i τ' τf ht hf
    split at he
    ·rename_i q hq
     obtain rfl:=Se hq
     cases hz:yb 0 τf.size with
     |false=>simp[hz]at he
     |true=>
      simp only[hz,zg]at he
      rw[ye]at hz
      have hv:=h.ev hx
      rw[Wz]at hv
      obtain⟨b,hσ,hv⟩:=hv.2 ρ d hb
      have hr:=JS (w:=w) (hG.ty _ _ hty) hf hz b (Yb ρ path)
      refine Ec (w':=w) (v:=.pointer (some ⟨b,Yb ρ path+Ld τ' f,none⟩)) (by simp[execOp,ho,hv,hr]) (Pc h ?_ he)
      rw[Wz]
      refine⟨rfl,fun ρ' d' hb'=>?_⟩
      rw[hb]at hb'
      simp at hb'
      obtain⟨rfl,rfl⟩:=hb'
      exact⟨b,hσ,by rw[TU ht]⟩
    ·simp at he
   ·simp at he
  ·simp at he
 ·rename_i τ id i path hty hx
  split at he
  ·rename_i e len hbN
   obtain⟨Ga,hb,hN⟩:=qd.1 hbN
   split at he
   ·rename_i τ' τf ht hf
    split at he
    ·rename_i q hq
     obtain rfl:=Se hq
     cases hz:yb 0 τf.size with
     |false=>simp[hz]at he
     |true=>
      simp only[hz,zg]at he
      rw[ye]at hz
      have hv:=h.ev hx
      rw[Am]at hv
      obtain⟨hi,b,off,cap,hσ,hv⟩:=hv.2 _ _ _ hb hN
      have hr:=JS (w:=w) (hG.ty _ _ hty) hf hz b (off+i*e.size+Yb e path)
      refine Ec (w':=w) (v:=.pointer (some ⟨b,off+i*e.size+Yb e path+Ld τ' f,none⟩)) (by simp[execOp,ho,hv,hr]) (Pc h ?_ he)
      rw[Am]
      refine⟨rfl,fun blk' e' n' hb' hr'=>?_⟩
      rw[hb]at hb'
      cases hb'
      rw[hN]at hr'
      simp only[jc,jh]at hr'
      obtain⟨rfl,rfl⟩:=hr'
      exact⟨hi,b,off,cap,hσ,by rw[TU ht];congr 3;omega⟩
    ·simp at he
   ·simp at he
  ·simp at he
 ·rename_i τ τ' y hty hx
  split at he
  ·rename_i q τf u τg hq hfd hf
   obtain rfl:=Se hq
   cases hz:yb 0 τg.size with
   |false=>simp[hz]at he
   |true=>
    simp only[hz,zg]at he
    rw[ye]at hz
    have hv:=h.ev hx
    rw[LT]at hv
    obtain⟨b,off,cur,et,fr,hv,hO,hh,hs,hvw⟩:=hv
    have hr:=JS (w:=w) (hG.ty _ _ hty) hf hz b off
    have hrep:Kb w (OO O0 s φ) s.heap σ (.t τ' y) (Ae cur off τ'.size):=hvw
    obtain⟨hse,hre⟩:=Kb.field (by simp[Ob]) hf hfd hrep
    simp only[Ob]at hse
    subst hse
    have hle:=Ox hf
    rw[OT _ _ _ _ _ hle]at hre
    refine Ec (w':=w) (v:=.pointer (some ⟨b,off+Ld τ' f,none⟩)) (by simp[execOp,ho,hv,hr]) (Pc h ?_ he)
    rw[LT]
    exact⟨b,off+Ld τ' f,cur,et,fr,rfl,hO,hh,by omega,hre⟩
  ·simp at he
 ·simp at he
theorem Iah(h:Db n0 A O0 w0 s σ φ a w){x:Operand}(ho:o.op=.nilCheck x)
 (he:Ig G s o k=some out):o.wp P a w (Nf n0 A O0 w0 k out) Q:=by
 simp only[Ig,Hc,ho]at he
 split at he
 ·rename_i id p hx
  split at he
  ·rename_i ρ d hb
   have hv:=h.ev hx
   have hv':=hv
   rw[Wz]at hv
   obtain⟨b,hσ,hv⟩:=hv.2 ρ d hb
   refine Ec (w':=w) (v:=a.eval x) ?_ (Pc h hv' he)
   simp[execOp,ho,hv]
  ·simp at he
 ·rename_i τ y hx
  have hv:=h.ev hx
  have hv':=hv
  rw[LT]at hv
  obtain⟨b,off,cur,et,fr,hv,_⟩:=hv
  refine Ec (w':=w) (v:=a.eval x) ?_ (Pc h hv' he)
  simp[execOp,ho,hv]
 ·rename_i id i p hx
  split at he
  ·rename_i r hbN
   obtain⟨Ga,hb,hN⟩:=qd.1 hbN
   have hv:=h.ev hx
   have hv':=hv
   rw[Am]at hv
   obtain⟨_,b,off,cap,_,hv⟩:=hv.2 Ga r.1 r.2 hb hN
   refine Ec (w':=w) (v:=a.eval x) ?_ (Pc h hv' he)
   simp[execOp,ho,hv]
  ·simp at he
 ·simp at he
theorem Gae{α:Type}{xs:List α}{i:Int}{x:α}(h:Wb xs i=some x):0≤i∧i.toNat<xs.length∧xs[i.toNat]?=some x:=by
 unfold Wb at h
 cases hd:decide (0≤i)with
 |false=>simp[hd]at h
 |true=>
  simp only[hd,zg]at h
  exact⟨by simpa using hd,(q8.1 h).1,h⟩
theorem Vay(h:Db n0 A O0 w0 s σ φ a w)(hG:EnvTy P G){t:TypeId}{x y:Operand}(ho:o.op=.index t x y)
 (he:Ig G s o k=some out):o.wp P a w (Nf n0 A O0 w0 k out) Q:=by
 simp only[Ig,Hc,ho]at he
 split at he
 ·rename_i v kk n ht hx hy
  cases hi:Wb (show List UInt8 from v) n with
  |none=>simp[hi]at he
  |some c=>
   simp only[hi,jb]at he
   obtain⟨h0,hlt,hg⟩:=Gae hi
   have hv:=h.ev hx
   have hn:=h.ev hy
   rw[Hp]at hv
   rw[Bf]at hn
   have hlt2:n.toNat<ja v:=hlt
   have hsz:n<((ByteArray.mk (qr v)).size:Int):=by
    have:(ByteArray.mk (qr v)).size=ja v:=by simp[ByteArray.size]
    rw[this];exact(Int.toNat_lt h0).1 hlt2
   have hg':List.get v ⟨n.toNat,hlt2⟩=c:=by
    have:(show List UInt8 from v)[n.toNat]?=some c:=hg
    simpa[je hlt2]using this
   have hr:=run_index_string (P:=P) w t (ByteArray.mk (qr v)) kk n (Tok.s (hG.ty _ _ ht))
   rw[dif_pos ⟨h0,hsz⟩]at hr
   have hsz2:n.toNat<(ByteArray.mk (qr v)).size:=by simpa[ByteArray.size]using hlt2
   have hc:((ByteArray.mk (qr v))[n.toNat]'hsz2)=c:=hg'
   rw[hc]at hr
   refine Ec (w':=w) (v:=.int .u8 c.toNat) ?_ (Pc h (Bf.2 rfl) he)
   simp only[execOp,ho,hv,hn,qo,hr,qn,Sem.run_pure]
 ·simp at he
theorem ZU{id:Nat}{Ga:Ka}{e:Ty}{n:Nat}{O:Nat→Prop}{hp:Nat→Option Ka}{F:List Nat}(h:Gd w O hp σ id Ga F)(hr:Ga.rowN=some (e,n)):
 ∃ad cap,σ id=.slice ad n cap∧(0<n→∃b off,ad=some ⟨b,off,none⟩):=by
 cases Ga with
 |box ρ d=>simp[Ka.rowN]at hr
 |mp _ _ _=>simp[Ka.rowN]at hr
 |mq _ _ _=>simp[Ka.rowN]at hr
 |mx _ _ _=>simp[Ka.rowN]at hr
 |fz e' xs=>
  simp only[Ka.rowN,jc,jh]at hr
  obtain⟨rfl,rfl⟩:=hr
  obtain⟨_,ad,cap,h1,_,_,h2⟩:=h
  simp only[yi,and_true]at h1
  refine⟨ad,cap,h1,fun h0=>?_⟩
  rcases h2 with h2|⟨bl,off,_,_,_,h2,_⟩
  ·subst h2;simp at h0
  ·exact⟨bl,off,h2⟩
 |row e' dp xs=>
  simp only[Ka.rowN,jc,jh]at hr
  obtain⟨rfl,rfl⟩:=hr
  cases dp with
  |true=>
   simp only[Gd,Ic]at h
   obtain⟨_,⟨h1,h2,_⟩|⟨bl,off,cap,_,_,_,h2,_⟩⟩:=h
   ·simp at h1;subst h2;exact⟨none,0,h1,fun h=>by simp at h⟩
   ·simp at h2;exact⟨_,cap,h2,fun _=>⟨bl,off,rfl⟩⟩
  |false=>
   simp only[Gd]at h
   obtain⟨_,⟨h1,h2,_⟩|⟨bl,off,cap,_,_,h2,_⟩⟩:=h
   ·subst h2;exact⟨none,0,h1,fun h=>by simp at h⟩
   ·exact⟨_,cap,h2,fun _=>⟨bl,off,rfl⟩⟩
 |hol e' xs i x p τ d=>
  simp only[Ka.rowN,jc,jh]at hr
  obtain⟨rfl,rfl⟩:=hr
  obtain⟨_,_,_,_,bl,off,cap,cur,et,h1,_⟩:=h
  exact⟨_,cap,h1,fun _=>⟨bl,off,rfl⟩⟩
 |mov e' xs k=>
  simp only[Ka.rowN,jc,jh]at hr
  obtain⟨rfl,rfl⟩:=hr
  obtain⟨_,⟨h1,h2,_⟩|⟨bl,off,cap,cur,et,Fs,h1,_⟩⟩:=h
  ·subst h2;exact⟨none,0,h1,fun h=>by simp at h⟩
  ·exact⟨_,cap,h1,fun _=>⟨bl,off,rfl⟩⟩
theorem Paf(hG:EnvTy P G)(h:Db n0 A O0 w0 s σ φ a w){t:TypeId}{x y:Operand}(ho:o.op=.indexAddr t x y)
 (he:Ig G s o k=some out):o.wp P a w (Nf n0 A O0 w0 k out) Q:=by
 simp only[Ig,Hc,ho]at he
 split at he
 ·rename_i e' e xs kk n hty hx hy
  split at he
  ·rename_i q hq
   obtain rfl:=Se hq
   cases hi:Wb (show List (T e)from xs) n with
   |none=>simp[hi]at he
   |some c=>
    simp only[hi,jb]at he
    obtain⟨h0,hlt,hg⟩:=Gae hi
    have hv:=h.ev hx
    have hn:=h.ev hy
    rw[QO]at hv
    rw[Bf]at hn
    obtain⟨et,hu,hte⟩:=Tok.sl (hG.ty _ _ hty)
    obtain⟨ad,cap,hc,hcap,hm,hemp|⟨bl,off,cur,et',fr,rfl,hO,hh,hs,hvw⟩⟩:=hv
    ·rw[hemp]at hlt;simp at hlt
    ·simp at hc
     have hlt':n.toNat<ja xs:=hlt
     have hxe:List.get xs ⟨n.toNat,hlt'⟩=c:=by
      have:(show List (T e)from xs)[n.toNat]?=some c:=hg
      simpa[je hlt']using this
     have hel:=hvw n.toNat hlt'
     rw[hxe]at hel
     have hle:(n.toNat+1)*e.size≤ja xs*e.size:=jm _ hlt'
     rw[yf,Nat.one_mul]at hle
     have hnl:n<(ja xs:Int):=(Int.toNat_lt h0).1 hlt'
     refine Ec (w':=w) (v:=.pointer (some ⟨bl,off+n.toNat*e.size,none⟩)) ?_ (Pc h ?_ he)
     ·simp[execOp,ho,hc,hn,Instr.indexAt,asIntOf,run_underlying hu,h0,hnl,Tok.sizeOf hte w,Jr]
     ·rw[LT]
      exact⟨bl,off+n.toNat*e.size,cur,et',fr,rfl,hO,hh,by omega,hel⟩
  ·simp at he
 ·rename_i e' id kk n hty hx hy
  split at he
  ·rename_i e len hbN
   obtain⟨Ga,hb,hN⟩:=qd.1 hbN
   split at he
   ·rename_i q hq
    obtain rfl:=Se hq
    cases hi:Ac len n with
    |false=>simp[hi]at he
    |true=>
     simp only[hi,zg]at he
     simp only[Ac,jd,decide_eq_true_eq]at hi
     have hv:=h.ev hx
     have hn:=h.ev hy
     rw[Bf]at hn
     simp only[Td,Kf,D.isAgg,jq,if_false,Kb]at hv
     obtain⟨u,hu',h1c,hv⟩:=hv
     simp at hu'
     have hσ:=hv _ _ hb hN
     obtain⟨et,hu,hte⟩:=Tok.sl (hG.ty _ _ hty)
     have hlt:n.toNat<len:=(Int.toNat_lt hi.1).2 hi.2
     have hsl:∃b off cap,σ id=.slice (some ⟨b,off,none⟩) len cap:=by
      obtain⟨ad,cap,h1,h2⟩:=ZU (h.hp id _ hb) hN
      obtain⟨b,off,rfl⟩:=h2 (by omega)
      exact⟨b,off,cap,h1⟩
     obtain⟨b,off,cap,hs⟩:=hsl
     refine Ec (w':=w) (v:=.pointer (some ⟨b,off+n.toNat*e.size,none⟩)) ?_ (Pc h ?_ he)
     ·simp[execOp,ho,hu',hσ,hs,hn,Instr.indexAt,asIntOf,run_underlying hu,hi,Tok.sizeOf hte w,Jr]
     ·rw[Am]
      refine⟨rfl,fun blk' e' n' hb' hr'=>?_⟩
      rw[hb]at hb'
      cases hb'
      rw[hN]at hr'
      simp only[jc,jh]at hr'
      obtain⟨rfl,rfl⟩:=hr'
      exact⟨hlt,b,off,cap,hs,by simp[Yb]⟩
   ·simp at he
  ·simp at he
 ·rename_i e' id lo hi kk n hty hx hy
  split at he
  ·rename_i e len hbN
   obtain⟨Ga,hb,hN⟩:=qd.1 hbN
   split at he
   ·rename_i q hq
    obtain rfl:=Se hq
    cases hi':Ac (hi-lo) n with
    |false=>simp[hi']at he
    |true=>
     simp only[hi',zg]at he
     simp only[Ac,jd,decide_eq_true_eq]at hi'
     have hv:=h.ev hx
     have hn:=h.ev hy
     rw[Bf]at hn
     simp only[Td,Kf,D.isAgg,jq,if_false,Kb]at hv
     obtain⟨u,hu',h1c,hv⟩:=hv
     simp only[yi,and_true]at hu'
     obtain⟨hlo,hhi,ad0,cap,jj,hs0,hcap,hj1,hj2,hu2⟩:=hv _ _ _ hb hN
     obtain⟨et,hu,hte⟩:=Tok.sl (hG.ty _ _ hty)
     have hlt:n.toNat<hi-lo:=(Int.toNat_lt hi'.1).2 hi'.2
     have hsl:∃b off,σ id=.slice (some ⟨b,off,none⟩) len cap∧ad0=some ⟨b,off,none⟩:=by
      obtain⟨ad,cap',h1,h2⟩:=ZU (h.hp id _ hb) hN
      obtain⟨b,off,rfl⟩:=h2 (by omega)
      rw[h1]at hs0
      simp only[Value.slice.injEq,true_and]at hs0
      obtain⟨rfl,rfl⟩:=hs0
      exact⟨b,off,h1,rfl⟩
     obtain⟨b,off,hs,rfl⟩:=hsl
     obtain rfl:=hj2 (by omega)
     simp only[qa,Jr]at hu2
     have hnl:n<((hi-jj:Nat):Int):=hi'.2
     refine Ec (w':=w) (v:=.pointer (some ⟨b,off+jj*e.size+n.toNat*e.size,none⟩)) ?_ (Pc h ?_ he)
     ·simp[execOp,ho,hu',hu2,hn,Instr.indexAt,asIntOf,run_underlying hu,hi'.1,hnl,Tok.sizeOf hte w,Jr]
     ·rw[Am]
      refine⟨rfl,fun blk' e' n' hb' hr'=>?_⟩
      rw[hb]at hb'
      cases hb'
      rw[hN]at hr'
      simp only[jc,jh]at hr'
      obtain⟨rfl,rfl⟩:=hr'
      exact⟨by omega,b,off,cap,hs,by rw[yf,←jt];simp[Yb]⟩
   ·simp at he
  ·simp at he
 ·rename_i id kk n hty hx hy
  split at he
  ·rename_i e' c e len har hbN
   obtain⟨Ga,hb,hN⟩:=qd.1 hbN
   split at he
   ·rename_i q hq
    obtain rfl:=Se hq
    cases hc:qw c len with
    |false=>simp[hc]at he
    |true=>
     obtain rfl:=ju hc
     cases hi:Ac c n with
     |false=>simp[hi]at he
     |true=>
      simp only[yj,hi,zg]at he
      simp only[Ac,jd,decide_eq_true_eq]at hi
      have hv:=h.ev hx
      have hn:=h.ev hy
      rw[Bf]at hn
      rw[Am]at hv
      obtain⟨_,b,off,cap,hs,hv⟩:=hv.2 _ _ _ hb hN
      simp only[Nat.zero_mul,ya,Yb]at hv
      have har':=hG.ar _ _ _ har
      simp only[B1,jd]at har'
      have har1:=har'.1
      split at har1
      ·rename_i m et hu
       simp only[jd]at har1
       obtain rfl:=ju har1.1
       have hte:=har1.2
       have hlt:n.toNat<m:=(Int.toNat_lt hi.1).2 hi.2
       refine Ec (w':=w) (v:=.pointer (some ⟨b,off+n.toNat*e.size,none⟩)) ?_ (Pc h ?_ he)
       ·simp[execOp,ho,hv,hn,Instr.indexAt,Instr.sureAddr,asIntOf,run_underlying hu,hi,Tok.sizeOf hte w,Jr]
       ·rw[Am]
        refine⟨rfl,fun blk' e' n' hb' hr'=>?_⟩
        rw[hb]at hb'
        cases hb'
        rw[hN]at hr'
        simp only[jc,jh]at hr'
        obtain⟨rfl,rfl⟩:=hr'
        exact⟨hlt,b,off,cap,hs,by simp[Yb]⟩
      ·simp at har1
   ·simp at he
  ·simp at he
 ·simp at he
end
section
variable{P:Program} {Out:Type} {n0:Nat} {A:Fx} {O0:Nat→Prop} {w0 w w':World} {s:AS} {σ σ':Nat→Value} {φ φ':Nat→List Nat} {a:Act}
variable{o:Oper} {Q:Exit→Act→World→Prop} {k:AS→Option Out} {out:Out} {d:D} {v:Value} {upd:List (Nat×Option Ka)} {dst:Option Tmp} {G:Sf}
theorem Cag{O:Nat→Prop}{hp:Nat→Option Ka}:∀{ds e:D} {vs:List Value} {n:Nat},Nh w O hp σ ds vs→TH ds n=some e→∃v,vs[n]?=some v∧Kf w O hp σ e v
 |.pr x y,e,v::vs,0,h,hn=>by
  simp only[TH,jc]at hn
  subst hn
  exact⟨v,rfl,h.1⟩
 |.pr x y,e,v::vs,n+1,h,hn=>by
  obtain⟨u,h1,h2⟩:=Cag h.2 hn
  exact⟨u,by simpa using h1,h2⟩
 |.pr _ _,_,[],_,h,_=>h.elim
 |.und,_,_,_,_,hn=>by simp[TH]at hn
 |.anyv,_,_,_,_,hn=>by simp[TH]at hn
 |.mpo _,_,_,_,_,hn=>by simp[TH]at hn
 |.t _ _,_,_,_,_,hn=>by simp[TH]at hn
 |.nil,_,_,_,_,hn=>by simp[TH]at hn
 |.own _,_,_,_,_,hn=>by simp[TH]at hn
 |.ptr _ _,_,_,_,_,hn=>by simp[TH]at hn
 |.eptr _ _ _,_,_,_,_,hn=>by simp[TH]at hn
 |.rp _ _,_,_,_,_,hn=>by simp[TH]at hn
 |.un,_,_,_,_,hn=>by simp[TH]at hn
 |.tup _,_,_,_,_,hn=>by simp[TH]at hn
theorem ZD{O:Nat→Prop}{hp:Nat→Option Ka}(h:Kf w O hp σ d v):Td w O hp σ d v:=by
 cases d with
 |tup ds=>simp[Kf,D.isAgg,Kb]at h
 |und=>simp[Kf,D.isAgg,Kb]at h
 |anyv=>simp[Kf,D.isAgg,Kb]at h
 |_=>exact h
theorem Taq(h:Db n0 A O0 w0 s σ φ a w){x:Operand}{n:Nat}(ho:o.op=.extract x n)
 (he:Ig G s o k=some out):o.wp P a w (Nf n0 A O0 w0 k out) Q:=by
 simp only[Ig,Hc,ho]at he
 split at he
 ·rename_i ds hx
  split at he
  ·rename_i e hn
   have hv:=h.ev hx
   obtain⟨vs,hv,hr⟩:=hv
   obtain⟨u,h1,h2⟩:=Cag hr hn
   have h1':vs[n]?=some u:=by simpa using h1
   refine Ec (w':=w) (v:=u) ?_ (Pc h (ZD h2) he)
   simp[execOp,ho,hv,Instr.extract,h1']
  ·simp at he
 ·simp at he
theorem QK{id:Nat}{hp:Nat→Option Ka}{O:Nat→Prop}:Td w O hp σ (.own id) v↔v.oneCell'=true∧∀Ga r,hp id=some Ga→Ga.rowN=some r→v=σ id:=by
 simp only[Td,Kf,D.isAgg,jq,if_false,Kb]
 constructor
 ·rintro⟨u,hu,h1,h2⟩
  simp at hu;subst hu;exact⟨h1,h2⟩
 ·rintro⟨h1,h2⟩;exact⟨v,rfl,h1,h2⟩
theorem YP{hp:Nat→Option Ka}{O:Nat→Prop}:Td w O hp σ .nil v↔v=.slice none 0 0:=by
 simp[Td,Kf,D.isAgg,Kb]
theorem Mr{b:Builtin}{args:Array Operand}{ts:Array TypeId}{x:List Operand}(ho:o.op=.call ⟨.builtin b,args,ts⟩)(ha:args.toList=x):
 execOp a.eval o=builtin b ts o.type (args.map fun|.const _=>true|_=>false) (x.map a.eval).toArray:=by
 subst ha
 have:(args.toList.map a.eval).toArray=args.map a.eval:=by rw[←Array.toList_map,Array.toArray_toList]
 simp only[execOp,ho,resolve,this]
 rfl
theorem Wa1{α:Type}{ts:Array α}{t:α}(h:ts.toList=[t]):ts= #[t]:=by
 rw[←Array.toArray_toList (xs:=ts),h]
theorem QaL(hG:EnvTy P G)(h:Db n0 A O0 w0 s σ φ a w){args:Array Operand}{ts:Array TypeId}(ho:o.op=.call ⟨.builtin .len,args,ts⟩)
 (he:Ig G s o k=some out):o.wp P a w (Nf n0 A O0 w0 k out) Q:=by
 simp only[Ig,Hc,ho]at he
 split at he
 ·rename_i x t ha hts
  have hex:=Mr (a:=a) ho ha
  have hts':=Wa1 hts
  subst hts'
  have key:∀(V:Value) (n:Int),a.eval x=V→(Builtin.len_ #[t] o.type #[V]).run P w=.ok (.int .i64 n) w→Xi s o.dst (.t (.i .i64) n) [] k=some out→o.wp P a w (Nf n0 A O0 w0 k out) Q:=by
   intro V n hV hr hf
   refine Ec (w':=w) (v:=.int .i64 n) ?_ (Pc h (Bf.2 rfl) hf)
   rw[hex]
   simp only[yk,List.map_nil,hV,builtin,qo,hr,qn]
   rfl
  split at he
  ·rename_i e' e xs hty hx
   have hv:=h.ev hx
   rw[QO]at hv
   obtain⟨et,hu,_⟩:=Tok.sl (hG.ty _ _ hty)
   obtain⟨ad,cap,hc,_⟩:=hv
   simp at hc
   exact key _ _ hc (by simp[Builtin.len_,run_underlying hu,goInt]) he
  ·rename_i v hty hx
   have hv:=h.ev hx
   rw[Hp]at hv
   exact key _ _ hv (run_len_string w t o.type _ (Tok.s (hG.ty _ _ hty))) he
  ·rename_i e' hty hx
   have hv:=h.ev hx
   rw[YP]at hv
   obtain⟨et,hu,_⟩:=Tok.sl (hG.ty _ _ hty)
   exact key _ _ hv (by simp[Builtin.len_,run_underlying hu,goInt]) he
  ·rename_i e' id hty hx
   split at he
   ·rename_i e len hbN
    obtain⟨Ga,hb,hN⟩:=qd.1 hbN
    have hv:=h.ev hx
    rw[QK]at hv
    obtain⟨et,hu,_⟩:=Tok.sl (hG.ty _ _ hty)
    obtain⟨ad,cap,hσ,_⟩:=ZU (h.hp id _ hb) hN
    exact key _ _ ((hv.2 _ _ hb hN).trans hσ) (by simp[Builtin.len_,run_underlying hu,goInt]) he
   ·simp at he
  ·rename_i e' id lo hi hty hx
   split at he
   ·rename_i r hbN
    obtain⟨Ga,hb,hN⟩:=qd.1 hbN
    have hv:=h.ev hx
    simp only[Td,Kf,D.isAgg,jq,if_false,Kb]at hv
    obtain⟨u,hu',h1c,hv⟩:=hv
    simp only[yi,and_true]at hu'
    obtain⟨hlo,hhi,ad0,cap,jj,hs0,hcap,_,_,hu2⟩:=hv _ _ _ hb hN
    obtain⟨et,hu,_⟩:=Tok.sl (hG.ty _ _ hty)
    exact key _ _ (hu'.trans hu2) (by simp[Builtin.len_,run_underlying hu,goInt]) he
   ·simp at he
  ·simp at he
 ·simp at he
theorem RaL(h:Db n0 A O0 w0 s σ φ a w){args:Array Operand}{ts:Array TypeId}(ho:o.op=.call ⟨.builtin .max,args,ts⟩)
 (he:Ig G s o k=some out):o.wp P a w (Nf n0 A O0 w0 k out) Q:=by
 simp only[Ig,Hc,ho]at he
 split at he
 ·rename_i x y ha
  have hex:=Mr (a:=a) ho ha
  split at he
  ·rename_i ka n kb m hx hy
   cases hk:(ka==kb)with
   |false=>simp[hk]at he
   |true=>
    simp only[hk,zg]at he
    have hkk:ka=kb:=by simpa using hk
    subst hkk
    have hv:=h.ev hx
    have hw:=h.ev hy
    rw[Bf]at hv hw
    refine Ec (w':=w) (v:=.int ka (max (n:Int) m)) ?_ (Pc h (Bf.2 rfl) he)
    rw[hex]
    have:(Builtin.max_ ts o.type #[.int ka n,.int ka m]).run P w=.ok (.int ka (max (n:Int) m)) w:=by
     simp only[Builtin.max_,List.foldlM_cons,List.foldlM_nil,Builtin.max2,qo,Sem.run_pure,qn]
     congr 2
     rcases Int.lt_or_le n m with hlt|hle
     ·rw[if_pos hlt,Int.max_eq_right (by omega)]
     ·rw[if_neg (by exact Int.not_lt.2 hle),Int.max_eq_left hle]
    simp only[yk,List.map_nil,hv,hw,builtin,qo,this,qn]
    rfl
  ·simp at he
 ·simp at he
theorem SaL(h:Db n0 A O0 w0 s σ φ a w){args:Array Operand}{ts:Array TypeId}(ho:o.op=.call ⟨.builtin .min,args,ts⟩)
 (he:Ig G s o k=some out):o.wp P a w (Nf n0 A O0 w0 k out) Q:=by
 simp only[Ig,Hc,ho]at he
 split at he
 ·rename_i x y ha
  have hex:=Mr (a:=a) ho ha
  split at he
  ·rename_i ka n kb m hx hy
   cases hk:(ka==kb)with
   |false=>simp[hk]at he
   |true=>
    simp only[hk,zg]at he
    have hkk:ka=kb:=by simpa using hk
    subst hkk
    have hv:=h.ev hx
    have hw:=h.ev hy
    rw[Bf]at hv hw
    refine Ec (w':=w) (v:=.int ka (min (n:Int) m)) ?_ (Pc h (Bf.2 rfl) he)
    rw[hex]
    have:(Builtin.min_ ts o.type #[.int ka n,.int ka m]).run P w=.ok (.int ka (min (n:Int) m)) w:=by
     simp only[Builtin.min_,List.foldlM_cons,List.foldlM_nil,Builtin.min2,qo,Sem.run_pure,qn]
     congr 2
     rcases Int.lt_or_le m n with hlt|hle
     ·rw[if_pos hlt,Int.min_eq_right (by omega)]
     ·rw[if_neg (by exact Int.not_lt.2 hle),Int.min_eq_left hle]
    simp only[yk,List.map_nil,hv,hw,builtin,qo,this,qn]
    rfl
  ·simp at he
 ·simp at he
end
section
variable{P:Program} {Out:Type} {n0:Nat} {A:Fx} {O0:Nat→Prop} {w0 w w':World} {s:AS} {σ σ':Nat→Value} {φ φ':Nat→List Nat} {a:Act}
variable{o:Oper} {Q:Exit→Act→World→Prop} {k:AS→Option Out} {out:Out} {d:D} {v:Value} {upd:List (Nat×Option Ka)} {dst:Option Tmp} {G:Sf}
theorem Tok.some{τ:Ty}{t:TypeId}(h:Ie P τ t=true):∃d,P.underlying t=some d:=by
 cases hτ:τ with
 |i k=>subst hτ;exact⟨_,Tok.i h⟩
 |b=>subst hτ;exact⟨_,Tok.b h⟩
 |o=>subst hτ;obtain⟨et,he⟩:=Tok.o h;exact⟨_,he⟩
 |mp _ _=>subst hτ;obtain⟨kt,et,he,_⟩:=Tok.mp h;exact⟨_,he⟩
 |s=>subst hτ;exact⟨_,Tok.s h⟩
 |sl e=>subst hτ;obtain⟨et,he,_⟩:=Tok.sl h;exact⟨_,he⟩
 |u=>subst hτ;obtain⟨fs,he,_⟩:=Tok.struct rfl h;exact⟨_,he⟩
 |p x y=>subst hτ;obtain⟨fs,he,_⟩:=Tok.struct rfl h;exact⟨_,he⟩
def noO:Nat→Prop:=fun _=>False
theorem Wa.noO{O:Nat→Prop}{τ:Ty}{x:T τ}{cs:List Value}(h:Wa w O τ x cs):Wa w noO τ x cs:=h.weaken fun _ h=>h.elim
theorem Gag{id:Nat}{e:Ty}{dp:Bool}{xs:List (T e)}{O:Nat→Prop}{hp:Nat→Option Ka}{F:List Nat}(h:Gd w O hp σ id (.row e dp xs) F):
 Wa w noO (.sl e) xs [σ id]:=by
 cases dp with
 |true=>exact Ic.view (show Ic w (.sl e) xs [σ id] F from h) fun _ _ hb=>hb
 |false=>
  simp only[Gd]at h
  obtain⟨hm,⟨h1,h2,_⟩|⟨bl,off,cap,cur,et,h1,hh,h2,h3,h4,hF,hv⟩⟩:=h
  ·subst h2;exact⟨none,0,by rw[h1];rfl,jo _,hm,.inl rfl⟩
  ·have:=jm e.size h2
   exact⟨_,cap,by rw[h1],h2,hm,.inr ⟨bl,off,cur,et,_,rfl,fun hb=>hb,hh,by omega,fun i hi=>(hv i hi).noO⟩⟩
theorem JL{α:Type}{xs:List α}{lo hi:Nat}(h:hi≤xs.length):(Ya xs lo hi).length=hi-lo:=by
 simp[Ya];omega
theorem J1{α:Type}{xs:List α}{lo hi i:Nat}(hi':i<(Ya xs lo hi).length)(h2:lo+i<xs.length):(Ya xs lo hi).get ⟨i,hi'⟩=xs.get ⟨lo+i,h2⟩:=by
 simp[Ya]
theorem Wa.cut{w:World}{O:Nat→Prop}{e:Ty}{xs:List (T e)}{ad:Option Addr}{n cap lo hi j:Nat}(h:Wa w O (.sl e) xs [.slice ad n cap])(hlo:lo≤hi)(hhi:hi≤ja xs)(hj:lo<cap→j=lo):
 Wa w O (.sl e) (Ya xs lo hi) [.slice (ad.map (·.add (j*e.size))) (hi-lo) (cap-lo)]:=by
 obtain⟨ad',cap',hcs,hcap,hmx,hcase⟩:=h
 simp only[yi,Value.slice.injEq,and_true]at hcs
 obtain⟨rfl,rfl,rfl⟩:=hcs
 have hlen:ja (Ya xs lo hi)=hi-lo:=JL (xs:=(xs:List (T e))) (lo:=lo) hhi
 refine⟨_,cap-lo,by rw[hlen],by rw[hlen];omega,by rw[hlen];omega,?_⟩
 rcases Nat.eq_or_lt_of_le hlo with heq|hlt
 ·left
  exact q7 (by rw[hlen];omega)
 ·right
  rcases hcase with hemp|⟨bl,off,cur,et',fr,rfl,hO,hh,hs,hvv⟩
  ·rw[hemp]at hhi;simp at hhi;omega
  ·obtain rfl:=hj (by omega)
   have hmul:(j+(hi-j))*e.size≤ja xs*e.size:=jm _ (by omega)
   rw[yf]at hmul
   refine⟨bl,off+j*e.size,cur,et',fr,by simp[Jr],hO,hh,by rw[hlen];omega,fun i hi'=>?_⟩
   have hi2:i<hi-j:=by rw[←hlen];exact hi'
   have h2:j+i<ja xs:=by omega
   have:=hvv (j+i) h2
   rw[J1 (xs:=(xs:List (T e))) hi' h2]
   rw[yf,←jt]at this
   exact this
theorem Ny(h:Db n0 A O0 w0 s σ φ a w):∀{d:D} {τ:Ty} {x:T τ} {cs:List Value},Ib s d τ=some x→Kb w (OO O0 s φ) s.heap σ d cs→Wa w noO τ x cs
 |.t τ' y,τ,x,cs,he,hr=>by
  simp only[Ib]at he
  split at he
  ·rename_i q hq
   obtain rfl:=Se hq
   simp only[jc]at he
   subst he
   exact Wa.noO hr
  ·simp at he
 |.nil,.sl e,x,cs,he,hr=>by
  simp only[Ib,jc]at he
  subst he
  simp only[Kb]at hr
  exact⟨none,0,hr,jo _,by simp,.inl rfl⟩
 |.own id,.sl e,x,cs,he,hr=>by
  simp only[Ib]at he
  split at he
  ·rename_i e' dp xs hb
   split at he
   ·rename_i q hq
    obtain rfl:=Se hq
    simp only[jc]at he
    subst he
    obtain⟨v,hcs,_,hv⟩:=hr
    rw[hcs,hv _ _ hb rfl]
    exact Gag (h.hp id _ hb)
   ·simp at he
  ·rename_i e' xs hb
   split at he
   ·rename_i q hq
    obtain rfl:=Se hq
    simp only[jc]at he
    subst he
    obtain⟨v,hcs,_,hv⟩:=hr
    rw[hcs,hv _ _ hb rfl]
    exact Wa.noO (h.hp id _ hb).2
   ·simp at he
  ·simp at he
 |.cut id lo hi,.sl e,x,cs,he,hr=>by
  simp only[Ib]at he
  split at he
  ·rename_i e' dp xs hb
   split at he
   ·rename_i q hq
    obtain rfl:=Se hq
    simp only[jc]at he
    subst he
    obtain⟨v,hcs,_,hv⟩:=hr
    obtain⟨hlo,hhi,ad,cap,j,hs,hcap,_,hj,hv⟩:=hv _ _ _ hb rfl
    rw[hcs,hv]
    have:=Gag (h.hp id _ hb)
    rw[hs]at this
    exact this.cut hlo hhi hj
   ·simp at he
  ·simp at he
 |.pr y z,.p t1 t2,x,cs,he,hr=>by
  simp only[Ib]at he
  split at he
  ·rename_i u v hu hv
   simp only[jc]at he
   subst he
   obtain⟨c1,c2,h0,h1,h2⟩:=hr
   exact⟨c1,c2,h0,Ny h hu h1,Ny h hv h2⟩
  ·simp at he
 |.un,.u,x,cs,he,hr=>by
  simp only[Kb]at hr
  exact hr
 |.und,τ,_,_,he,_=>by cases τ<;>simp[Ib]at he
 |.anyv,τ,_,_,he,_=>by cases τ<;>simp[Ib]at he
 |.mpo _,τ,_,_,he,_=>by cases τ<;>simp[Ib]at he
 |.nil,.i _,_,_,he,_=>by simp[Ib]at he
 |.nil,.b,_,_,he,_=>by simp[Ib]at he
 |.nil,.o,_,_,he,_=>by simp[Ib]at he
 |.nil,.s,_,_,he,_=>by simp[Ib]at he
 |.nil,.u,_,_,he,_=>by simp[Ib]at he
 |.nil,.p _ _,_,_,he,_=>by simp[Ib]at he
 |.own _,.i _,_,_,he,_=>by simp[Ib]at he
 |.own _,.b,_,_,he,_=>by simp[Ib]at he
 |.own _,.o,_,_,he,_=>by simp[Ib]at he
 |.own _,.s,_,_,he,_=>by simp[Ib]at he
 |.own _,.u,_,_,he,_=>by simp[Ib]at he
 |.own _,.p _ _,_,_,he,_=>by simp[Ib]at he
 |.cut _ _ _,.i _,_,_,he,_=>by simp[Ib]at he
 |.cut _ _ _,.b,_,_,he,_=>by simp[Ib]at he
 |.cut _ _ _,.o,_,_,he,_=>by simp[Ib]at he
 |.cut _ _ _,.s,_,_,he,_=>by simp[Ib]at he
 |.cut _ _ _,.u,_,_,he,_=>by simp[Ib]at he
 |.cut _ _ _,.p _ _,_,_,he,_=>by simp[Ib]at he
 |.pr _ _,.i _,_,_,he,_=>by simp[Ib]at he
 |.pr _ _,.b,_,_,he,_=>by simp[Ib]at he
 |.pr _ _,.o,_,_,he,_=>by simp[Ib]at he
 |.pr _ _,.s,_,_,he,_=>by simp[Ib]at he
 |.pr _ _,.u,_,_,he,_=>by simp[Ib]at he
 |.pr _ _,.sl _,_,_,he,_=>by simp[Ib]at he
 |.un,.i _,_,_,he,_=>by simp[Ib]at he
 |.un,.b,_,_,he,_=>by simp[Ib]at he
 |.un,.o,_,_,he,_=>by simp[Ib]at he
 |.un,.s,_,_,he,_=>by simp[Ib]at he
 |.un,.sl _,_,_,he,_=>by simp[Ib]at he
 |.un,.p _ _,_,_,he,_=>by simp[Ib]at he
 |.ptr _ _,τ,_,_,he,_=>by cases τ<;>simp[Ib]at he
 |.eptr _ _ _,τ,_,_,he,_=>by cases τ<;>simp[Ib]at he
 |.rp _ _,τ,_,_,he,_=>by cases τ<;>simp[Ib]at he
 |.tup _,τ,_,_,he,_=>by cases τ<;>simp[Ib]at he
theorem PG:∀{d:D} {τ:Ty} {x:T τ},Ib s d τ=some x→Ob τ d
 |.t τ' y,τ,x,he=>by
  simp only[Ib]at he
  split at he
  ·rename_i q hq
   have:=Se hq
   simpa[Ob]using this
  ·simp at he
 |.nil,.sl e,x,he=>trivial
 |.own id,.sl e,x,he=>trivial
 |.cut _ _ _,.sl e,x,he=>trivial
 |.pr y z,.p t1 t2,x,he=>by
  simp only[Ib]at he
  split at he
  ·rename_i u v hu hv
   exact⟨PG hu,PG hv⟩
  ·simp at he
 |.un,.u,x,he=>trivial
 |.und,τ,_,he=>by cases τ<;>simp[Ib]at he
 |.anyv,τ,_,he=>by cases τ<;>simp[Ib]at he
 |.mpo _,τ,_,he=>by cases τ<;>simp[Ib]at he
 |.nil,.i _,_,he=>by simp[Ib]at he
 |.nil,.b,_,he=>by simp[Ib]at he
 |.nil,.o,_,he=>by simp[Ib]at he
 |.nil,.s,_,he=>by simp[Ib]at he
 |.nil,.u,_,he=>by simp[Ib]at he
 |.nil,.p _ _,_,he=>by simp[Ib]at he
 |.own _,.i _,_,he=>by simp[Ib]at he
 |.own _,.b,_,he=>by simp[Ib]at he
 |.own _,.o,_,he=>by simp[Ib]at he
 |.own _,.s,_,he=>by simp[Ib]at he
 |.own _,.u,_,he=>by simp[Ib]at he
 |.own _,.p _ _,_,he=>by simp[Ib]at he
 |.cut _ _ _,.i _,_,he=>by simp[Ib]at he
 |.cut _ _ _,.b,_,he=>by simp[Ib]at he
 |.cut _ _ _,.o,_,he=>by simp[Ib]at he
 |.cut _ _ _,.s,_,he=>by simp[Ib]at he
 |.cut _ _ _,.u,_,he=>by simp[Ib]at he
 |.cut _ _ _,.p _ _,_,he=>by simp[Ib]at he
 |.pr _ _,.i _,_,he=>by simp[Ib]at he
 |.pr _ _,.b,_,he=>by simp[Ib]at he
 |.pr _ _,.o,_,he=>by simp[Ib]at he
 |.pr _ _,.s,_,he=>by simp[Ib]at he
 |.pr _ _,.u,_,he=>by simp[Ib]at he
 |.pr _ _,.sl _,_,he=>by simp[Ib]at he
 |.un,.i _,_,he=>by simp[Ib]at he
 |.un,.b,_,he=>by simp[Ib]at he
 |.un,.o,_,he=>by simp[Ib]at he
 |.un,.s,_,he=>by simp[Ib]at he
 |.un,.sl _,_,he=>by simp[Ib]at he
 |.un,.p _ _,_,he=>by simp[Ib]at he
 |.ptr _ _,τ,_,he=>by cases τ<;>simp[Ib]at he
 |.eptr _ _ _,τ,_,he=>by cases τ<;>simp[Ib]at he
 |.rp _ _,τ,_,he=>by cases τ<;>simp[Ib]at he
 |.tup _,τ,_,he=>by cases τ<;>simp[Ib]at he
theorem Db.OO_lt(h:Db n0 A O0 w0 s σ φ a w){b:Nat}(hb:OO O0 s φ b):b<w.heap.size:=by
 rcases hb with hb|⟨id,Ga,hl,hm⟩
 ·exact qg (h.o0 b hb) h.fr.size
 ·exact(h.hp id Ga hl).lt b hm
theorem Eaw{O:Nat→Prop}{hp:Nat→Option Ka}{τ:Ty}{x:T τ}(he:Ib s d τ=some x)(h:Td w O hp σ d v):
 Kb w O hp σ d v.cells.toList∧v=Me τ v.cells.toList:=Qf (PG he) h
theorem Cah{b off:Nat}{cur:Array Value}{et:TypeId}{fr:Nat×Nat}{xs:List Int}(hh:w.heap[b]?=some (.cells cur et fr)){O:Nat→Prop}
 (hv:∀i (h:i<xs.length),Wa w O (.i .u8) (xs.get ⟨i,h⟩) (Ae cur (off+i*1) 1)):
 ∀i,i<xs.length→w.cell? ⟨b,off+i,none⟩=some (.int .u8 (xs.getD i 0)):=by
 intro i hi
 have h1:=hv i hi
 simp only[Wa,Nat.mul_one]at h1
 have h2:=Ag cur (off+i) 1 0 (by omega)
 rw[h1]at h2
 simp only[List.getElem?_cons_zero,ya]at h2
 rw[cell_of_row w b (off+i) cur et fr hh,←h2]
 simp[qs,hi]
theorem Lar(xs:List Int):strOfNums xs=⟨(Ap xs).toArray⟩:=by
 simp[strOfNums,Ap]
theorem Db.ext(h:Db n0 A O0 w0 s σ φ a w)(hs:w.heap.size≤w'.heap.size)(hb:∀b,b<w.heap.size→w'.heap[b]?=w.heap[b]?)
 (hos:w'.os=w.os) (htape:w'.tape=w.tape) (hout:w'.output=w.output):Db n0 A O0 w0 s σ φ a w':=by
 refine h.trans (fun _=>False) rfl rfl (fun _ _=>⟨rfl,rfl,rfl⟩) (fun b hb' _=>hb b hb') hs ?_ ?_ ?_ ?_ hos htape hout (fun _ h=>h.elim) ?_
 all_goals intro id;intros;contradiction
theorem Saq(hG:EnvTy P G)(h:Db n0 A O0 w0 s σ φ a w){src t:TypeId}{x:Operand}(ho:o.op=.convert src t x)
 (he:Ig G s o k=some out):o.wp P a w (Nf n0 A O0 w0 k out) Q:=by
 simp only[Ig,Hc,ho]at he
 split at he
 ·rename_i τs kk k' n hts htt hx
  have hv:=h.ev hx
  rw[Bf]at hv
  obtain⟨ds,hds⟩:=Tok.some (hG.ty _ _ hts)
  have hd:=Tok.i (hG.ty _ _ htt)
  refine Ec (w':=w) (v:=.int kk (kk.wrap n)) ?_ (Pc h (Bf.2 rfl) he)
  have:(convert src t (.int k' n)).run P w=.ok (.int kk (kk.wrap n)) w:=by
   simp[convert,run_underlying hds,run_underlying hd,Conv.intToInt]
  simp[execOp,ho,hv,this]
 ·rename_i v hts htt hx
  have hv:=h.ev hx
  rw[Hp]at hv
  have hds:=Tok.s (hG.ty _ _ hts)
  have hd:=Tok.s (hG.ty _ _ htt)
  refine Ec (w':=w) (v:=.string ⟨qr v⟩) ?_ (Pc h (Hp.2 rfl) he)
  have:(convert src t (.string ⟨qr v⟩)).run P w=.ok (.string ⟨qr v⟩) w:=by
   simp[convert,run_underlying hds,run_underlying hd]
  simp[execOp,ho,hv,this]
 ·rename_i d hts htt hx
  split at he
  ·rename_i v hvt
   have hv:=h.ev hx
   obtain⟨hr,hvof⟩:=Eaw hvt hv
   have hvw:=Ny h hvt hr
   obtain⟨et,hu,hte⟩:=Tok.sl (hG.ty _ _ hts)
   have hu8:=Tok.i hte
   have hd:=Tok.s (hG.ty _ _ htt)
   obtain⟨ad,cap,hc,hcap,hm,hemp|⟨bl,off,cur,et',fr,hee,hO,hh,hs,hvv⟩⟩:=hvw
   ·rw[hc]at hvof
    have hv':a.eval x=.slice ad (ja v) cap:=by rw[hvof];rfl
    refine Ec (w':=w) (v:=.string ⟨(Ap v).toArray⟩) ?_ (Pc h (Hp.2 rfl) he)
    have hcv:=run_convert_bytes_string (P:=P) w src t et ad (ja v) cap hu hu8 hd
    have hst:(Conv.bytesToString (.slice ad (ja v) cap)).run P w=.ok (.string ⟨(Ap v).toArray⟩) w:=by
     rw[hemp]
     cases ad with
     |none=>simp[Conv.bytesToString,Ap];rfl
     |some ad=>
      have:=run_bytesToString (P:=P) w ad 0 cap [] (by simp[loadCells,loadCellsFrom])
      exact this
    simp[execOp,ho,hv',hcv,hst]
   ·rw[hc]at hvof
    have hv':a.eval x=.slice ad (ja v) cap:=by rw[hvof];rfl
    subst hee
    refine Ec (w':=w) (v:=.string ⟨(Ap v).toArray⟩) ?_ (Pc h (Hp.2 rfl) he)
    have hcell:=Cah (off:=off) (xs:=v) hh hvv
    have hcv:=run_convert_bytes_arg (P:=P) w src et hu hu8 bl off (ja v) cap v rfl hcell t hd
    rw[Lar]at hcv
    simp[execOp,ho,hv',hcv]
  ·simp at he
 ·rename_i v hts htt hx
  cases hl:jx (ja v) Sa with
  |false=>simp[hl]at he
  |true=>
   simp only[hl,zg]at he
   have hle:=q6 hl
   have hv:=h.ev hx
   rw[Hp]at hv
   have hds:=Tok.s (hG.ty _ _ hts)
   obtain⟨et,hu,hte⟩:=Tok.sl (hG.ty _ _ htt)
   have hu8:=Tok.i hte
   have hr:=Lib.run_convert_string_bytes (P:=P) w src t et ⟨qr v⟩ hds hu hu8
   have hc:Db n0 A O0 w0 s σ φ a (Lib.bytesWorld w et ⟨qr v⟩):=by
    refine h.ext ?_ (fun b hb=>Lib.bytesWorld_at_old w et _ b hb) ?_ ?_ ?_
    ·rw[Lib.bytesWorld_size];omega
    all_goals(simp[Lib.bytesWorld,World.freeze]<;>rfl)
   refine Ec (w':=Lib.bytesWorld w et ⟨qr v⟩) (v:=.slice (some ⟨w.heap.size,0,none⟩) (ByteArray.mk (qr v)).size (grownCap w (ByteArray.mk (qr v)).size 0 et)) ?_ (Pc hc ?_ he)
   ·simp[execOp,ho,hv,hr]
   ·rw[QO]
    have hlen:(ByteArray.mk (qr v)).size=ja v:=by simp[ByteArray.size]
    have hbl:(Nc v).length=ja v:=by simp[Nc]
    have hcs:ja v≤(Lib.bytesCells w et ⟨qr v⟩).size:=by simp[Lib.bytesCells]
    refine⟨some ⟨w.heap.size,0,none⟩,grownCap w (ByteArray.mk (qr v)).size 0 et,by rw[hbl,hlen],?_,?_,.inr ⟨w.heap.size,0,_,et,_,rfl,?_,Lib.bytesWorld_at_new w et _,?_,?_⟩⟩
    ·rw[hbl,←hlen];exact grownCap_ge w _ _ _
    ·rw[hbl];unfold Ll;unfold Sa at hle;omega
    ·intro hb;exact Nat.lt_irrefl _ (h.OO_lt hb)
    ·rw[hbl];simpa[Ty.size]using hcs
    ·intro i hi
     have hi':i<ja v:=by rw[hbl]at hi;exact hi
     simp only[Wa,Ty.size,Nat.mul_one,js]
     have h1:Ae (Lib.bytesCells w et ⟨qr v⟩) i 1=[.int .u8 ((List.get v ⟨i,hi'⟩).toNat:Int)]:=by
      apply qp
      intro j
      rcases Nat.lt_or_ge j 1 with hj|hj
      ·have:j=0:=by omega
       subst this
       rw[Ag _ _ _ _ (by omega)]
       simp[Lib.bytesCells,hi',Array.getElem?_append]
      ·rw[qt (by rw[De (by omega)];exact hj),qt (by simpa using hj)]
     rw[h1]
     simp[Nc]
 ·simp at he
end
section
variable{P:Program} {Out:Type} {n0:Nat} {A:Fx} {O0:Nat→Prop} {w0 w w':World} {s:AS} {σ σ':Nat→Value} {φ φ':Nat→List Nat} {a:Act}
variable{o:Oper} {Q:Exit→Act→World→Prop} {k:AS→Option Out} {out:Out} {d:D} {v:Value} {upd:List (Nat×Option Ka)} {dst:Option Tmp} {G:Sf}
theorem LaL(h:Db n0 A O0 w0 s σ φ a w){x:Option Operand}{l:Int}(hl:IT s x=some l):
 (x=none∧l=0)∨∃y k,x=some y∧a.eval y=.int k l:=by
 unfold IT at hl
 split at hl
 ·simp at hl;exact .inl ⟨rfl,hl.symm⟩
 ·rename_i y
  split at hl
  ·rename_i k n hx
   simp at hl;subst hl
   have:=h.ev hx
   rw[Bf]at this
   exact .inr ⟨y,k,rfl,this⟩
  ·simp at hl
theorem LaK(h:Db n0 A O0 w0 s σ φ a w){n:Nat}{x:Option Operand}{l:Int}(hl:WW s n x=some l):
 (x=none∧l=n)∨∃y k,x=some y∧a.eval y=.int k l:=by
 unfold WW at hl
 split at hl
 ·simp at hl;exact .inl ⟨rfl,hl.symm⟩
 ·rename_i y
  split at hl
  ·rename_i k m hx
   simp at hl;subst hl
   have:=h.ev hx
   rw[Bf]at this
   exact .inr ⟨y,k,rfl,this⟩
  ·simp at hl
theorem Nu(h:Db n0 A O0 w0 s σ φ a w){n cap:Nat}{lo hi:Option Operand}{l m:Int}(hl:IT s lo=some l)(hh:WW s n hi=some m)
 (hc:Bd n l m=true) (hcap:n≤cap) (b:Bool):(Instr.sliceBounds b n cap (lo.map a.eval) (hi.map a.eval) none).run P w=.ok (l.toNat,m.toNat,cap) w:=by
 simp only[Bd,jd,decide_eq_true_eq]at hc
 have hm:m≤(cap:Int):=by omega
 have e1:0≤m:=by omega
 rcases LaK h hh with⟨rfl,hm'⟩|⟨y,ky,rfl,hy⟩<;>rcases LaL h hl with⟨rfl,hl'⟩|⟨z,kz,rfl,hz⟩
 ·subst hl';subst hm'
  simp[Instr.sliceBounds]
 ·subst hm'
  simp[Instr.sliceBounds,Instr.sliceBound,hz,asIntOf,hc]
 ·subst hl'
  simp[Instr.sliceBounds,Instr.sliceBound,hy,asIntOf,e1,hm]
 ·have hlm:l≤(m.toNat:Int):=by omega
  have hmax:max m 0=m:=Int.max_eq_left e1
  simp[Instr.sliceBounds,Instr.sliceBound,hy,hz,asIntOf,e1,hm,hc,hmax]
theorem Uq:∀{d:D} {τ:Ty},Kd τ d=true→Ob τ d
 |.t τ' x,τ,h=>by
  simp only[Kd]at h
  obtain⟨q,hq⟩:=Option.isSome_iff_exists.1 h
  have:=q.down
  simpa[Ob]using this
 |.nil,.sl _,_=>trivial
 |.own _,.sl _,_=>trivial
 |.pr x y,.p t1 t2,h=>by
  simp only[Kd,jd]at h
  exact⟨Uq h.1,Uq h.2⟩
 |.un,.u,_=>trivial
 |.und,τ,h=>by cases τ<;>simp[Kd]at h
 |.anyv,τ,h=>by cases τ<;>simp[Kd]at h
 |.mpo _,τ,h=>by cases τ<;>simp[Kd]at h
 |.nil,.i _,h=>by simp[Kd]at h
 |.nil,.b,h=>by simp[Kd]at h
 |.nil,.o,h=>by simp[Kd]at h
 |.nil,.s,h=>by simp[Kd]at h
 |.nil,.u,h=>by simp[Kd]at h
 |.nil,.p _ _,h=>by simp[Kd]at h
 |.own _,.i _,h=>by simp[Kd]at h
 |.own _,.b,h=>by simp[Kd]at h
 |.own _,.o,h=>by simp[Kd]at h
 |.own _,.s,h=>by simp[Kd]at h
 |.own _,.u,h=>by simp[Kd]at h
 |.own _,.p _ _,h=>by simp[Kd]at h
 |.cut _ _ _,τ,h=>by cases τ<;>simp[Kd]at h
 |.pr _ _,.i _,h=>by simp[Kd]at h
 |.pr _ _,.b,h=>by simp[Kd]at h
 |.pr _ _,.o,h=>by simp[Kd]at h
 |.pr _ _,.s,h=>by simp[Kd]at h
 |.pr _ _,.u,h=>by simp[Kd]at h
 |.pr _ _,.sl _,h=>by simp[Kd]at h
 |.un,.i _,h=>by simp[Kd]at h
 |.un,.b,h=>by simp[Kd]at h
 |.un,.o,h=>by simp[Kd]at h
 |.un,.s,h=>by simp[Kd]at h
 |.un,.sl _,h=>by simp[Kd]at h
 |.un,.p _ _,h=>by simp[Kd]at h
 |.ptr _ _,τ,h=>by cases τ<;>simp[Kd]at h
 |.eptr _ _ _,τ,h=>by cases τ<;>simp[Kd]at h
 |.rp _ _,τ,h=>by cases τ<;>simp[Kd]at h
 |.tup _,τ,h=>by cases τ<;>simp[Kd]at h
theorem Uay(hG:EnvTy P G)(h:Db n0 A O0 w0 s σ φ a w){t:TypeId}{x:Operand}{f:Nat}(ho:o.op=.field t x f)
 (he:Ig G s o k=some out):o.wp P a w (Nf n0 A O0 w0 k out) Q:=by
 simp only[Ig,Hc,ho]at he
 split at he
 ·rename_i τ d hty hx
  cases hs:Kd τ d with
  |false=>simp[hs]at he
  |true=>
   simp only[hs,zg]at he
   split at he
   ·rename_i τf e hf hd
    have hsh:=Uq hs
    obtain⟨hr,hv⟩:=Qf hsh (h.ev hx)
    obtain⟨hse,hre⟩:=Kb.field hsh hf hd hr
    obtain⟨fs,fl,hu,h1,h2,h3⟩:=Tok.field (hG.ty _ _ hty) hf
    have hagg:τ.isAgg=true:=by
     clear hr hv hse hre hsh hs hx hd hty hu
     cases τ<;>first|rfl|simp[Za]at hf
    have hlen:=Kb.length hsh hr
    have hle:=Ox hf
    refine Ec (w':=w) (v:=Me τf (((a.eval x).cells.toList.drop (Ld τ f)).take τf.size)) ?_ (Pc h (Uv hse hre) he)
    have hv':a.eval x=.agg (a.eval x).cells:=by
     conv=>lhs;rw[hv]
     simp[Me,hagg]
    generalize(a.eval x).cells=cs at*
    have hpart:(part fl.type cs fl.offset).run P w=.ok (Me τf ((cs.toList.drop (Ld τ f)).take τf.size)) w:=by
     unfold part
     rw[qo,Tok.isAgg h3 w,h2]
     cases ha:τf.isAgg with
     |true=>
      simp only[qn,if_true,qo,Tok.sizeOf h3 w,Sem.run_pure,Me,ha]
      congr 2
      apply Array.ext'
      simp
     |false=>
      have h1':=Ty.size_one ha
      have hlt:Ld τ f<cs.size:=by
       have:cs.toList.length=τ.size:=hlen
       simp at this;omega
      simp only[qn,jq,if_false,Me,ha,h1']
      have:(cs.toList.drop (Ld τ f)).take 1=[cs[Ld τ f]]:=by
       rw[List.drop_eq_getElem_cons (by simpa using hlt)]
       simp
      simp[this,hlt]
    simp only[execOp,ho,hv',Instr.field,qo,run_underlying hu,qn,h1,asAgg,Sem.run_pure,hpart]
   ·simp at he
 ·simp at he
end
def Di{α:Type}(f:Nat→α)(id:Nat)(v:α):Nat→α:=fun j=>if j=id then v else f j
theorem Qe{α:Type}(f:Nat→α)(id:Nat)(v:α):Di f id v id=v:=by simp[Di]
theorem Yl{α:Type}(f:Nat→α){id j:Nat}(v:α)(h:j≠id):Di f id v j=f j:=by simp[Di,h]
theorem Jh(s:AS)(id:Nat)(b:Option Ka):AS.heap ⟨s.n,s.tm,(id,b)::s.hp⟩ id=b:=by
 simp[AS.heap,Id]
theorem JD(s:AS){id j:Nat}(b:Option Ka)(h:j≠id):AS.heap ⟨s.n,s.tm,(id,b)::s.hp⟩ j=s.heap j:=by
 simp[AS.heap,Id,Ne.symm h]
section
variable{P:Program} {Out:Type} {n0:Nat} {A:Fx} {O0:Nat→Prop} {w0 w w':World} {s:AS} {σ σ':Nat→Value} {φ φ':Nat→List Nat} {a:Act}
variable{o:Oper} {Q:Exit→Act→World→Prop} {k:AS→Option Out} {out:Out} {d:D} {v:Value} {upd:List (Nat×Option Ka)} {dst:Option Tmp} {G:Sf}
theorem SH{id:Nat}(h:s.newOk id=true):id<500000:=by
 simp only[AS.newOk,jd]at h
 have:=h.2
 rwa [ye]at this
theorem Db.new1(h:Db n0 A O0 w0 s σ φ a w){id:Nat}(hnew:s.newOk id=true)(Ga:Ka)(val:Value)(F:List Nat)
 (hs:w.heap.size≤w'.heap.size) (hb:∀b,b<w.heap.size→w'.heap[b]?=w.heap[b]?)
 (hos:w'.os=w.os) (htape:w'.tape=w.tape) (hout:w'.output=w.output) (hF:F.Nodup) (hFn:∀b,b∈F→w.heap.size≤b)
 (hrep:∀(hp':Nat→Option Ka) (σ':Nat→Value) (O':Nat→Prop),σ' id=val→(∀b,b<w.heap.size→¬OO O0 s φ b→¬O' b)→
  (∀j,j≠id→Cp s.heap hp' σ σ' j)→Gd w' O' hp' σ' id Ga F)
 (hq:∀kk e xs,Ga=.mq kk e xs→Shr w' n0 (OO O0 ⟨s.n,s.tm,(id,some Ga)::s.hp⟩ (Di φ id F)) val kk e xs:=by intro _ _ _ h;cases h):
 Db n0 A O0 w0 ⟨s.n,s.tm,(id,some Ga)::s.hp⟩ (Di σ id val) (Di φ id F) a w':=by
 have hnm:s.ment id=false:=by
  simp only[AS.newOk,jd,yl]at hnew
  exact hnew.1
 have hOO:∀b,b<w.heap.size→¬OO O0 s φ b→¬OO O0 ⟨s.n,s.tm,(id,some Ga)::s.hp⟩ (Di φ id F) b:=by
  rintro b hlt hno (ho|⟨j,blk',hl,hm⟩)
  ·exact hno (.inl ho)
  ·by_cases hj:j=id
   ·subst hj
    rw[Qe]at hm
    have:=hFn b hm
    omega
   ·rw[JD s _ hj]at hl
    rw[Yl _ _ hj]at hm
    exact hno (.inr ⟨j,blk',hl,hm⟩)
 refine h.trans (fun j=>j=id) rfl rfl ?_ ?_ hs ?_ ?_ ?_ ?_ hos htape hout (fun j hj=>.inr (hj▸SH hnew)) ?_
 ·intro j hj
  exact⟨JD s _ hj,Yl _ _ hj,Yl _ _ hj⟩
 ·intro b hlt _;exact hb b hlt
 ·rintro j blk' rfl _ b hbm
  rw[Qe]at hbm
  exact .inl (hFn b hbm)
 ·rintro j blk' rfl _ hm
  rw[hnm]at hm;simp at hm
 ·rintro j blk' rfl hl
  rw[Jh]at hl
  simp only[jc]at hl
  subst hl
  rw[Qe]
  refine⟨hrep _ _ _ (Qe _ _ _) hOO ?_,hF⟩
  intro j' hj' blk' hl'
  rw[JD s _ hj']at hl'
  exact⟨blk',hl',Ka.like_refl _,Yl _ _ hj'⟩
 ·rintro j j' _ _ rfl rfl hne;exact absurd rfl hne
 ·rintro j kk e xs rfl hl
  rw[Jh]at hl
  simp only[jc]at hl
  rw[Qe]
  exact hq kk e xs hl
theorem Db.new1b(h:Db n0 A O0 w0 s σ φ a w){id:Nat}(hnew:s.newOk id=true)(Ga:Ka)(val:Value)(F:List Nat)
 (hs:w.heap.size≤w'.heap.size) (hb:∀b,b<w.heap.size→w'.heap[b]?=w.heap[b]?)
 (hos:w'.os=w.os) (htape:w'.tape=w.tape) (hout:w'.output=w.output) (hF:F.Nodup) (hFn:∀b,b∈F→w.heap.size≤b)
 (hrep:∀(hp':Nat→Option Ka) (σ':Nat→Value) (O':Nat→Prop),σ' id=val→(∀b,O' b→OO O0 s φ b∨b∈F)→Gd w' O' hp' σ' id Ga F)
 (hq:∀kk e xs,Ga≠ .mq kk e xs:=by intro _ _ _ h;cases h):
 Db n0 A O0 w0 ⟨s.n,s.tm,(id,some Ga)::s.hp⟩ (Di σ id val) (Di φ id F) a w':=by
 have hnm:s.ment id=false:=by
  simp only[AS.newOk,jd,yl]at hnew
  exact hnew.1
 have hOO:∀b,OO O0 ⟨s.n,s.tm,(id,some Ga)::s.hp⟩ (Di φ id F) b→OO O0 s φ b∨b∈F:=by
  rintro b (ho|⟨j,blk',hl,hm⟩)
  ·exact .inl (.inl ho)
  ·by_cases hj:j=id
   ·subst hj
    rw[Qe]at hm
    exact .inr hm
   ·rw[JD s _ hj]at hl
    rw[Yl _ _ hj]at hm
    exact .inl (.inr ⟨j,blk',hl,hm⟩)
 refine h.trans (fun j=>j=id) rfl rfl ?_ ?_ hs ?_ ?_ ?_ ?_ hos htape hout (fun j hj=>.inr (hj▸SH hnew)) ?_
 ·intro j hj
  exact⟨JD s _ hj,Yl _ _ hj,Yl _ _ hj⟩
 ·intro b hlt _;exact hb b hlt
 ·rintro j blk' rfl _ b hbm
  rw[Qe]at hbm
  exact .inl (hFn b hbm)
 ·rintro j blk' rfl _ hm
  rw[hnm]at hm;simp at hm
 ·rintro j blk' rfl hl
  rw[Jh]at hl
  simp only[jc]at hl
  subst hl
  rw[Qe]
  exact⟨hrep _ _ _ (Qe _ _ _) hOO,hF⟩
 ·rintro j j' _ _ rfl rfl hne;exact absurd rfl hne
 ·rintro j kk e xs rfl hl
  rw[Jh]at hl
  simp only[jc]at hl
  exact absurd hl (hq kk e xs)
theorem Vh(w:World)(o:Obj)(b:Nat)(h:b<w.heap.size):(w.alloc o).heap[b]?=w.heap[b]?:=Go.RowKit.Below.heap_alloc w o b h
theorem Xal(h:Db n0 A O0 w0 s σ φ a w){id:Nat}(hnew:s.newOk id=true){ρ:Ty}{d:D}{cs:List Value}(t:TypeId)(hsh:Ob ρ d)
 (hr:Kb w (OO O0 s φ) s.heap σ d cs) (hm:∀j,d.ment j=true→s.ment j=true):
 Db n0 A O0 w0 ⟨s.n,s.tm,(id,some (.box ρ d))::s.hp⟩ (Di σ id (.pointer (some ⟨w.heap.size,0,none⟩))) (Di φ id [w.heap.size]) a (w.alloc (.cells cs.toArray t)):=by
 have hnm:s.ment id=false:=by
  simp only[AS.newOk,jd,yl]at hnew
  exact hnew.1
 refine h.new1 hnew _ _ _ (by simp) (fun b hb=>Vh w _ b hb) rfl rfl rfl (by simp) (by simp) ?_
 intro hp' σ' O' hσ hO hc
 have hlen:=Kb.length hsh hr
 refine⟨hsh,w.heap.size,cs.toArray,t,hσ,heap_alloc_new w _,rfl,?_,by simpa using hlen⟩
 refine Kb.stable (fun b _ hlt=>Vh w _ b hlt) hO d _ (fun j hj=>hc j ?_) (by simpa using hr)
 intro e
 subst e
 rw[hm j hj]at hnm
 simp at hnm
theorem ST(w:World)(O:Nat→Prop)(hp:Nat→Option Ka)(σ:Nat→Value):∀τ:Ty,Ob τ (zD τ)∧Kb w O hp σ (zD τ) τ.zc∧∀j,(zD τ).ment j=false
 |.i k=>⟨by simp[zD,Ob],by simp[zD,Kb,Wa,zT,Ty.zc],fun _=>rfl⟩
 |.b=>⟨by simp[zD,Ob],by simp[zD,Kb,Wa,zT,Ty.zc],fun _=>rfl⟩
 |.o=>⟨by simp[zD,Ob],by simp[zD,Kb,Wa,zT,Ty.zc],fun _=>rfl⟩
 |.mp _ _=>⟨by simp[zD,Ob],by simp[zD,Kb,Wa,zT,Ty.zc],fun _=>rfl⟩
 |.s=>⟨by simp[zD,Ob],by simp[zD,Kb,Wa,zT,Ty.zc],fun _=>rfl⟩
 |.sl e=>⟨by simp[zD,Ob],by simp[zD,Kb,Ty.zc],fun _=>rfl⟩
 |.u=>⟨by simp[zD,Ob],by simp[zD,Kb,Ty.zc],fun _=>rfl⟩
 |.p x y=>by
  obtain⟨a1,a2,a3⟩:=ST w O hp σ x
  obtain⟨b1,b2,b3⟩:=ST w O hp σ y
  refine⟨Ob.mkpr a1 b1,Kb.mkpr a2 b2,fun j=>?_⟩
  have e1:=a3 j
  have e2:=b3 j
  simp only[zD]
  unfold mkpr
  split
  ·rfl
  ·rfl
  ·simp[D.ment,e1,e2]
theorem TO{id:Nat}{ρ:Ty}{d:D}{path:List Nat}(b:Nat)(hρ:Yb ρ path=0){O:Nat→Prop}{s':AS}(hs':s'.heap id=some (.box ρ d)):
 Td w O s'.heap (Di σ id (.pointer (some ⟨b,0,none⟩))) (.ptr id path) (.pointer (some ⟨b,0,none⟩)):=by
 rw[Wz]
 refine⟨rfl,fun ρ' d' hb=>?_⟩
 rw[hs']at hb
 simp at hb
 obtain⟨rfl,rfl⟩:=hb
 exact⟨b,Qe _ _ _,by rw[hρ]⟩
theorem PaL(_:EnvTy P G)(h:Db n0 A O0 w0 s σ φ a w){t:TypeId}{x:Operand}(ho:o.op=.box t x)
 (he:Ig G s o k=some out):o.wp P a w (Nf n0 A O0 w0 k out) Q:=by
 simp only[Ig,Hc,ho]at he
 split at he
 ·rename_i tt τ d hd hty hx
  cases hn:(s.newOk tt&&Kd τ d)with
  |false=>simp[hn]at he
  |true=>
   simp only[hn,zg]at he
   simp only[jd]at hn
   have hsh:=Uq hn.2
   obtain⟨hr,hv⟩:=Qf hsh (h.ev hx)
   have hm:∀j,d.ment j=true→s.ment j=true:=by
    intro j hj
    cases x with
    |tmp q=>exact AS.ment_tm hx hj
    |const c=>
     exfalso
     simp only[AS.ev]at hx
     unfold HW at hx
     split at hx<;>simp at hx<;>subst hx<;>simp[D.ment]at hj
    |_=>simp[AS.ev]at hx
   have hc:=Xal (id:=tt) h hn.1 t hsh hr hm
   refine Ec (w':=w.alloc (.cells (a.eval x).cells.toList.toArray t)) (v:=.pointer (some ⟨w.heap.size,0,none⟩)) ?_ (Jf rfl hc (TO _ rfl (Jh _ _ _)) he)
   simp[execOp,ho,Instr.box,newVar,newRow]
 ·simp at he
end
theorem AT:∀(l:List Value) (i off:Nat) (arr:Array Value),off+i+l.length≤arr.size→
 (l.zipIdx i).foldl (fun cs (x:Value×Nat)=>cs.setIfInBounds (off+x.2) x.1) arr=(Jc arr.toList (off+i) l).toArray
 |[],i,off,arr,_=>by
  simp[Jc]
 |c::l,i,off,arr,h=>by
  simp only[jw]at h
  rw[List.zipIdx_cons,List.foldl_cons,AT l (i+1) off _ (by simpa using by omega)]
  congr 1
  apply qp
  intro j
  have hl:off+(i+1)+l.length≤(arr.setIfInBounds (off+i) c).toList.length:=by simp;omega
  have hl2:off+i+(c::l).length≤arr.toList.length:=by simp;omega
  rw[Jk hl,Jk hl2]
  simp only[Array.toList_setIfInBounds]
  have hal:arr.toList.length=arr.size:=by simp
  rcases Nat.lt_trichotomy j (off+i)with hlt|heq|hgt
  ·rw[if_pos (show j<off+(i+1) by omega),if_pos hlt,List.getElem?_set_ne (by omega)]
  ·subst heq
   rw[if_pos (show off+i<off+(i+1) by omega),if_neg (by omega),if_pos (by simp),List.getElem?_set_self (by omega),Nat.sub_self]
   rfl
  ·by_cases h2:j<off+i+(l.length+1)
   ·rw[if_neg (show¬j<off+(i+1) by omega),if_pos (show j<off+(i+1)+l.length by omega),if_neg (by omega),if_pos (by simpa using h2)]
    have:j-(off+i)=(j-(off+(i+1)))+1:=by omega
    rw[this,List.getElem?_cons_succ]
   ·rw[if_neg (show¬j<off+(i+1) by omega),if_neg (show¬j<off+(i+1)+l.length by omega),if_neg (by omega),if_neg (by simpa using h2),List.getElem?_set_ne (by omega)]
theorem Tax(cells:Array Value)(off:Nat)(v:Value)(h:off+v.cells.size≤cells.size):
 v.cells.zipIdx.foldl (fun cs (c,j)=>cs.setIfInBounds (off+j) c) cells=(Jc cells.toList off v.cells.toList).toArray:=by
 rw[←Array.foldl_toList,Array.toList_zipIdx]
 have:=AT v.cells.toList 0 off cells (by simpa using h)
 simpa using this
theorem N9{place:Nat→Option (Nat×Nat)}{cells:Array Value}{i off size:Nat}{v:Value}{r:List (Nat×Value)}(hp:place i=some (off,size))
 (hs:v.cells.size=size) (hle:off+size≤cells.size):Instr.fill place cells ((i,v)::r)=Instr.fill place (Jc cells.toList off v.cells.toList).toArray r:=by
 have h1:¬(decide (v.cells.size≠size)||decide (off+v.cells.size>cells.size))=true:=by simp;omega
 rw[Instr.fill]
 simp only[hp]
 rw[if_neg h1,Tax cells off v (by omega)]
section
variable{P:Program} {Out:Type} {n0:Nat} {A:Fx} {O0:Nat→Prop} {w0 w w':World} {s:AS} {σ σ':Nat→Value} {φ φ':Nat→List Nat} {a:Act}
variable{o:Oper} {Q:Exit→Act→World→Prop} {k:AS→Option Out} {out:Out} {d:D} {v:Value} {upd:List (Nat×Option Ka)} {dst:Option Tmp} {G:Sf}
theorem Vad(h:Db n0 A O0 w0 s σ φ a w){τ:Ty}{place:Nat→Option (Nat×Nat)}(hpl:∀i τ',Za τ i=some τ'→place i=some (Ld τ i,τ'.size)):
 ∀(ps:List (Nat×Operand)) (d d':D) (cs:Array Value),OQ s τ d ps=some d'→Ob τ d→Kb w (OO O0 s φ) s.heap σ d cs.toList→
  ∃cs',Instr.fill place cs (ps.map fun x=>(x.1,a.eval x.2))=some cs'∧Ob τ d'∧Kb w (OO O0 s φ) s.heap σ d' cs'.toList
 |[],d,d',cs,he,hs,hr=>by
  simp only[OQ,jc]at he
  subst he
  exact⟨cs,rfl,hs,hr⟩
 |(i,x)::r,d,d',cs,he,hs,hr=>by
  simp only[OQ]at he
  split at he
  ·rename_i e τ' hx ht
   cases hsb:Kd τ' e with
   |false=>simp[hsb]at he
   |true=>
    simp only[hsb,zg]at he
    split at he
    ·rename_i d1 hd1
     have hse:=Uq hsb
     obtain⟨hre,hve⟩:=Qf hse (h.ev hx)
     obtain⟨hs1,hr1⟩:=Kb.setField (cs:=cs.toList) (ce:=(a.eval x).cells.toList) hs ht hse hd1
     have hlen:=Kb.length hse hre
     have hle:=Ox ht
     have hl0:=Kb.length hs hr
     have hsz:(a.eval x).cells.size=τ'.size:=by simpa using hlen
     have hfit:Ld τ i+τ'.size≤cs.size:=by
      have:cs.size=τ.size:=by simpa using hl0
      omega
     obtain⟨cs',h1,h2,h3⟩:=Vad h hpl r d1 d' (Jc cs.toList (Ld τ i) (a.eval x).cells.toList).toArray he hs1 (by simpa using hr1 hr hre)
     refine⟨cs',?_,h2,h3⟩
     rw[yk,N9 (hpl i τ' ht) hsz hfit]
     exact h1
    ·simp at he
  ·simp at he
theorem R4:∀{τ:Ty} {fs:List Field} {o:Nat},Yg P τ fs o=true→τ.isAgg=true→
 ∃places,fs.mapM (fun f=>(P.info? f.type).map fun i=>(f.offset,i.size))=some places∧∀i τ',Za τ i=some τ'→places[i]?=some (o+Ld τ i,τ'.size)
 |.u,[],o,_,_=>⟨[],rfl,fun i τ' h=>by simp[Za]at h⟩
 |.p x y,f::r,o,h,_=>by
  simp only[Yg,jd]at h
  obtain⟨i,hi,hs,_⟩:=Tok.size h.1.2
  have hy:y.isAgg=true:=by
   cases y<;>simp_all [Yg,Ty.isAgg]
  obtain⟨pl,h1,h2⟩:=R4 h.2 hy
  refine⟨(f.offset,i.size)::pl,by simp[List.mapM_cons,hi,h1],fun j τ' hj=>?_⟩
  have ho:=ju h.1.1.1
  cases j with
  |zero=>
   simp only[Za,jc]at hj
   subst hj
   simp[Ld,ho,hs]
  |succ j=>
   have:=h2 j τ' hj
   simp only[List.getElem?_cons_succ,this,Ld]
   congr 2;omega
 |.u,_::_,_,h,_=>by simp[Yg]at h
 |.p _ _,[],_,h,_=>by simp[Yg]at h
 |.i _,_,_,_,h=>by simp[Ty.isAgg]at h
 |.b,_,_,_,h=>by simp[Ty.isAgg]at h
 |.o,_,_,_,h=>by simp[Ty.isAgg]at h
 |.mp _ _,_,_,_,h=>by simp[Ty.isAgg]at h
 |.s,_,_,_,h=>by simp[Ty.isAgg]at h
 |.sl _,_,_,_,h=>by simp[Ty.isAgg]at h
theorem Tay(hG:EnvTy P G)(h:Db n0 A O0 w0 s σ φ a w){t:TypeId}{ps:Array (Nat×Operand)}(ho:o.op=.build t ps)
 (he:Ig G s o k=some out):o.wp P a w (Nf n0 A O0 w0 k out) Q:=by
 simp only[Ig,Hc,ho]at he
 split at he
 ·rename_i τ hty
  split at he
  ·rename_i d hd
   cases ha:τ.isAgg with
   |false=>simp[ha]at he
   |true=>
    simp only[ha,zg]at he
    obtain⟨z1,z2,_⟩:=ST w (OO O0 s φ) s.heap σ τ
    obtain⟨fs,hu,hk⟩:=Tok.struct ha (hG.ty _ _ hty)
    obtain⟨pl,hp1,hp2⟩:=R4 hk ha
    obtain⟨i,hi,hs,_,hz⟩:=Tok.size (hG.ty _ _ hty)
    obtain⟨cs',h1,h2,h3⟩:=Vad (place:=(pl.toArray[·]?)) h (fun j τ' hj=>by have:=hp2 j τ' hj;simpa using this) ps.toList (zD τ) d τ.zc.toArray hd z1 (by simpa using z2)
    have hb:P.built t (ps.map fun(j,y)=>(j,a.eval y)).toList=some cs':=by
     unfold Program.built
     simp only[hi,hu,hz,hp1]
     have:(ps.map fun(j,y)=>(j,a.eval y)).toList=ps.toList.map fun x=>(x.1,a.eval x.2):=by simp
     rw[this]
     simpa[Me,ha,Value.cells]using h1
    have hr:=run_build (P:=P) w t (ps.map fun(j,y)=>(j,a.eval y)) cs' hb
    refine Ec (w':=w) (v:=.agg cs') ?_ (Pc h ?_ he)
    ·simp only[execOp,ho,qo,hr,qn,Sem.run_pure]
    ·have:=Uv h2 h3
     simpa[Me,ha]using this
  ·simp at he
 ·simp at he
end
theorem Qy{l:List Nat}{hp:List (Nat×Option Ka)}{j:Nat}:Xb (Ed l++hp) j=if j∈l then some none else Xb hp j:=by
 induction l with
 |nil=>simp[Ed]
 |cons x l ih=>
  have:Ed (x::l)++hp=(x,none)::(Ed l++hp):=by simp[Ed]
  rw[this,Id,ih]
  by_cases h:x=j
  ·subst h;simp
  ·have h':¬j=x:=fun e=>h e.symm
   simp[h,h']
theorem He(s:AS)(id:Nat)(b:Option Ka)(l:List Nat)(j:Nat):
 AS.heap ⟨s.n,s.tm,(id,b)::(Ed l++s.hp)⟩ j=if j=id then b else if j∈l then none else s.heap j:=by
 simp only[AS.heap,Id,Qy]
 by_cases h:j=id
 ·subst h;simp
 ·have h':¬id=j:=fun e=>h e.symm
  simp only[h,h',if_false]
  split<;>simp
section
variable{P:Program} {Out:Type} {n0:Nat} {A:Fx} {O0:Nat→Prop} {w0 w w':World} {s:AS} {σ σ':Nat→Value} {φ φ':Nat→List Nat} {a:Act}
variable{o:Oper} {Q:Exit→Act→World→Prop} {k:AS→Option Out} {out:Out} {d:D} {v:Value} {upd:List (Nat×Option Ka)} {dst:Option Tmp} {G:Sf}
theorem Db.absorb(h:Db n0 A O0 w0 s σ φ a w){id:Nat}(hnew:s.newOk id=true)(l:List Nat)(hlive:∀j,j∈l→∃b,s.heap j=some b)(Ga:Ka)(val:Value)(F:List Nat)
 (hs:w.heap.size≤w'.heap.size) (hb:∀b,b<w.heap.size→(∀j,j∈l→b∉φ j)→w'.heap[b]?=w.heap[b]?)
 (hos:w'.os=w.os) (htape:w'.tape=w.tape) (hout:w'.output=w.output) (hF:F.Nodup) (hFn:∀b,b∈F→w.heap.size≤b∨∃j,j∈l∧b∈φ j)
 (hrep:∀(hp':Nat→Option Ka) (σ':Nat→Value) (O':Nat→Prop),σ' id=val→(∀b,b<w.heap.size→¬OO O0 s φ b→¬O' b)→
  Gd w' O' hp' σ' id Ga F)
 (hq:∀kk e xs,Ga≠ .mq kk e xs:=by intro _ _ _ h;cases h):
 Db n0 A O0 w0 ⟨s.n,s.tm,(id,some Ga)::(Ed l++s.hp)⟩ (Di σ id val) (Di φ id F) a w':=by
 have hnm:s.ment id=false:=by
  simp only[AS.newOk,jd,yl]at hnew
  exact hnew.1
 have hOO:∀b,b<w.heap.size→¬OO O0 s φ b→¬OO O0 ⟨s.n,s.tm,(id,some Ga)::(Ed l++s.hp)⟩ (Di φ id F) b:=by
  rintro b hlt hno (ho|⟨j,blk',hl,hm⟩)
  ·exact hno (.inl ho)
  ·rw[He]at hl
   by_cases hj:j=id
   ·subst hj
    rw[Qe]at hm
    rcases hFn b hm with hge|⟨j',hj',hm'⟩
    ·omega
    ·obtain⟨b',hb'⟩:=hlive j' hj'
     exact hno (.inr ⟨j',b',hb',hm'⟩)
   ·rw[if_neg hj]at hl
    split at hl
    ·simp at hl
    ·rw[Yl _ _ hj]at hm
     exact hno (.inr ⟨j,blk',hl,hm⟩)
 refine h.trans (fun j=>j=id∨j∈l) rfl rfl ?_ ?_ hs ?_ ?_ ?_ ?_ hos htape hout (fun j _=>by
  by_cases hj:j=id
  ·exact .inr (hj▸SH hnew)
  ·exact .inl (Yl _ _ hj)) ?_
 ·intro j hj
  simp only[not_or]at hj
  exact⟨by rw[He,if_neg hj.1,if_neg hj.2],Yl _ _ hj.1,Yl _ _ hj.1⟩
 ·intro b hlt hno
  refine hb b hlt fun j hj hm=>?_
  obtain⟨b',hb'⟩:=hlive j hj
  exact hno j b' (.inr hj) hb' hm
 ·intro j blk' _ hl b hbm
  rw[He]at hl
  by_cases hj:j=id
  ·subst hj
   rw[Qe]at hbm
   rcases hFn b hbm with hge|⟨j',hj',hm'⟩
   ·exact .inl hge
   ·obtain⟨b',hb'⟩:=hlive j' hj'
    exact .inr ⟨j',b',.inr hj',hb',hm'⟩
  ·rename_i ht
   rw[if_neg hj,if_pos (ht.resolve_left hj)]at hl
   simp at hl
 ·intro j blk' ht hl hm
  rw[He]at hl
  by_cases hj:j=id
  ·subst hj;rw[hnm]at hm;simp at hm
  ·rw[if_neg hj,if_pos (ht.resolve_left hj)]at hl
   simp at hl
 ·intro j blk' ht hl
  rw[He]at hl
  by_cases hj:j=id
  ·subst hj
   rw[if_pos rfl]at hl
   simp only[jc]at hl
   subst hl
   rw[Qe]
   exact⟨hrep _ _ _ (Qe _ _ _) hOO,hF⟩
  ·rw[if_neg hj,if_pos (ht.resolve_left hj)]at hl
   simp at hl
 ·intro j j' b1 b2 ht ht' hne hl hl'
  rw[He]at hl hl'
  have e1:j=id:=by
   by_cases hj:j=id
   ·exact hj
   ·rw[if_neg hj,if_pos (ht.resolve_left hj)]at hl;simp at hl
  have e2:j'=id:=by
   by_cases hj:j'=id
   ·exact hj
   ·rw[if_neg hj,if_pos (ht'.resolve_left hj)]at hl';simp at hl'
  exact absurd (e1.trans e2.symm) hne
 ·intro j kk e xs ht hl
  rw[He]at hl
  by_cases hj:j=id
  ·rw[if_pos hj]at hl
   simp only[jc]at hl
   exact absurd hl (hq kk e xs)
  ·rw[if_neg hj,if_pos (ht.resolve_left hj)]at hl
   simp at hl
theorem Mi:∀{l:List Nat},Lg l=true→l.Nodup
 |[],_=>List.nodup_nil
 |x::l,h=>by
  simp only[Lg,jd,yl]at h
  refine ym.2 ⟨fun hm=>?_,Mi h.2⟩
  have:l.any (qw x)=true:=qy.2 ⟨x,hm,yj x⟩
  rw[h.1]at this;simp at this
def Ha(φ:Nat→List Nat)(l:List Nat):List Nat:=(l.map φ).flatten
theorem Pb{l:List Nat}{b:Nat}:b∈Ha φ l↔∃j,j∈l∧b∈φ j:=by
 simp only[Ha,List.mem_flatten,qk]
 constructor
 ·rintro⟨_,⟨j,hj,rfl⟩,hb⟩;exact⟨j,hj,hb⟩
 ·rintro⟨j,hj,hb⟩;exact⟨_,⟨j,hj,rfl⟩,hb⟩
theorem Ye{l m:List Nat}:Ha φ (l++m)=Ha φ l++Ha φ m:=by simp[Ha]
theorem Rg(h:Db n0 A O0 w0 s σ φ a w):∀{l:List Nat},l.Nodup→(∀j,j∈l→∃b,s.heap j=some b)→(Ha φ l).Nodup
 |[],_,_=>by simp[Ha]
 |x::l,hn,hl=>by
  rw[ym]at hn
  have ih:=Rg h hn.2 fun j hj=>hl j (jr _ hj)
  obtain⟨bx,hbx⟩:=hl x (by simp)
  have:Ha φ (x::l)=φ x++Ha φ l:=by simp[Ha]
  rw[this,yn]
  refine⟨h.nodup x bx hbx,ih,?_⟩
  intro b hb c hc e
  subst e
  obtain⟨j,hj,hm⟩:=Pb.1 hc
  obtain⟨bj,hbj⟩:=hl j (jr _ hj)
  exact h.disj x j bx bj (fun e=>hn.1 (e▸hj)) hbx hbj b hb hm
theorem LZ{id:Nat}{e:Ty}{dp:Bool}{xs:List (T e)}{O:Nat→Prop}{hp:Nat→Option Ka}{F:List Nat}(h:Gd w O hp σ id (.row e dp xs) F)
 (hd:dp=true∨e.flat=true):Ic w (.sl e) xs [σ id] F:=by
 cases dp with
 |true=>exact h
 |false=>
  have hf:e.flat=true:=by simpa using hd
  simp only[Gd]at h
  obtain⟨hm,⟨h1,h2,h3⟩|⟨bl,off,cap,cur,et,h1,hh,h2,h3,h4,hF,hv⟩⟩:=h
  ·exact⟨hm,.inl ⟨by rw[h1],h2,h3⟩⟩
  ·refine⟨hm,.inr ⟨bl,off,cap,cur,et,yd (ja xs) [],by rw[h1],hh,h2,h3,h4,?_,by simp,fun i hi=>?_⟩⟩
   ·rw[hF];congr 1;simp
   ·have:=(hv i hi).flat (w':=w) hf
    simpa[qs,hi]using this
theorem Er(h:Db n0 A O0 w0 s σ φ a w):∀{d:D} {τ:Ty} {x:T τ} {l:List Nat} {cs:List Value},Cc s d τ=some (x,l)→Kb w (OO O0 s φ) s.heap σ d cs→
 Ic w τ x cs (Ha φ l)∧(∀j,j∈l→∃b,s.heap j=some b)
 |.t τ' y,τ,x,l,cs,he,hr=>by
  simp only[Cc]at he
  cases hf:τ'.flat with
  |false=>simp[hf]at he
  |true=>
   simp only[hf,zg]at he
   split at he
   ·rename_i q hq
    obtain rfl:=Se hq
    simp only[jc,jh]at he
    obtain⟨rfl,rfl⟩:=he
    exact⟨Wa.flat hr hf,by simp⟩
   ·simp at he
 |.nil,.sl e,x,l,cs,he,hr=>by
  simp only[Cc,jc,jh]at he
  obtain⟨rfl,rfl⟩:=he
  simp only[Kb]at hr
  exact⟨⟨by simp,.inl ⟨hr,rfl,rfl⟩⟩,by simp⟩
 |.own id,.sl e,x,l,cs,he,hr=>by
  simp only[Cc]at he
  split at he
  ·rename_i e' dp xs hb
   cases hd:(dp||e'.flat)with
   |false=>simp[hd]at he
   |true=>
    simp only[hd,zg]at he
    split at he
    ·rename_i q hq
     obtain rfl:=Se hq
     simp only[jc,jh]at he
     obtain⟨rfl,rfl⟩:=he
     obtain⟨v,hcs,_,hv⟩:=hr
     rw[hcs,hv _ _ hb rfl]
     have:=LZ (h.hp id _ hb) (by simpa using hd)
     exact⟨by simpa[Ha]using this,by simp;exact⟨_,hb⟩⟩
    ·simp at he
  ·simp at he
 |.pr y z,.p t1 t2,x,l,cs,he,hr=>by
  simp only[Cc]at he
  split at he
  ·rename_i u l1 v l2 hu hv
   simp only[jc,jh]at he
   obtain⟨rfl,rfl⟩:=he
   obtain⟨c1,c2,h0,h1,h2⟩:=hr
   obtain⟨a1,b1⟩:=Er h hu h1
   obtain⟨a2,b2⟩:=Er h hv h2
   refine⟨⟨c1,c2,_,_,h0,Ye,a1,a2⟩,fun j hj=>?_⟩
   cases jl.1 hj with
   |inl h=>exact b1 j h
   |inr h=>exact b2 j h
  ·simp at he
 |.un,.u,x,l,cs,he,hr=>by
  simp only[Cc,jc,jh,true_and]at he
  subst he
  simp only[Kb]at hr
  exact⟨⟨hr,rfl⟩,by simp⟩
 |.und,τ,_,_,_,he,_=>by cases τ<;>simp[Cc]at he
 |.anyv,τ,_,_,_,he,_=>by cases τ<;>simp[Cc]at he
 |.mpo id,.mp k v,x,l,cs,he,hr=>by
  simp only[Cc]at he
  split at he
  ·rename_i k' v' xs hb
   split at he
   ·rename_i q1 q2 h1 h2
    obtain rfl:=Se h1
    obtain rfl:=Se h2
    simp only[jc,jh]at he
    obtain⟨rfl,rfl⟩:=he
    obtain⟨v,hcs,_,hv⟩:=hr
    rw[hcs,hv _ hb rfl]
    have this:Ic w (.mp _ _) xs [σ id] (φ id):=h.hp id _ hb
    exact⟨by simpa[Ha]using this,by simp;exact⟨_,hb⟩⟩
   ·simp at he
  ·simp at he
 |.mpo _,.i _,_,_,_,he,_=>by simp[Cc]at he
 |.mpo _,.b,_,_,_,he,_=>by simp[Cc]at he
 |.mpo _,.o,_,_,_,he,_=>by simp[Cc]at he
 |.mpo _,.s,_,_,_,he,_=>by simp[Cc]at he
 |.mpo _,.u,_,_,_,he,_=>by simp[Cc]at he
 |.mpo _,.sl _,_,_,_,he,_=>by simp[Cc]at he
 |.mpo _,.p _ _,_,_,_,he,_=>by simp[Cc]at he
 |.nil,.i _,_,_,_,he,_=>by simp[Cc]at he
 |.nil,.b,_,_,_,he,_=>by simp[Cc]at he
 |.nil,.o,_,_,_,he,_=>by simp[Cc]at he
 |.nil,.s,_,_,_,he,_=>by simp[Cc]at he
 |.nil,.u,_,_,_,he,_=>by simp[Cc]at he
 |.nil,.p _ _,_,_,_,he,_=>by simp[Cc]at he
 |.own _,.i _,_,_,_,he,_=>by simp[Cc]at he
 |.own _,.b,_,_,_,he,_=>by simp[Cc]at he
 |.own _,.o,_,_,_,he,_=>by simp[Cc]at he
 |.own _,.s,_,_,_,he,_=>by simp[Cc]at he
 |.own _,.u,_,_,_,he,_=>by simp[Cc]at he
 |.own _,.p _ _,_,_,_,he,_=>by simp[Cc]at he
 |.cut _ _ _,τ,_,_,_,he,_=>by cases τ<;>simp[Cc]at he
 |.pr _ _,.i _,_,_,_,he,_=>by simp[Cc]at he
 |.pr _ _,.b,_,_,_,he,_=>by simp[Cc]at he
 |.pr _ _,.o,_,_,_,he,_=>by simp[Cc]at he
 |.pr _ _,.s,_,_,_,he,_=>by simp[Cc]at he
 |.pr _ _,.u,_,_,_,he,_=>by simp[Cc]at he
 |.pr _ _,.sl _,_,_,_,he,_=>by simp[Cc]at he
 |.un,.i _,_,_,_,he,_=>by simp[Cc]at he
 |.un,.b,_,_,_,he,_=>by simp[Cc]at he
 |.un,.o,_,_,_,he,_=>by simp[Cc]at he
 |.un,.s,_,_,_,he,_=>by simp[Cc]at he
 |.un,.sl _,_,_,_,he,_=>by simp[Cc]at he
 |.un,.p _ _,_,_,_,he,_=>by simp[Cc]at he
 |.ptr _ _,τ,_,_,_,he,_=>by cases τ<;>simp[Cc]at he
 |.eptr _ _ _,τ,_,_,_,he,_=>by cases τ<;>simp[Cc]at he
 |.rp _ _,τ,_,_,_,he,_=>by cases τ<;>simp[Cc]at he
 |.tup _,τ,_,_,_,he,_=>by cases τ<;>simp[Cc]at he
end
theorem Iam{cur:Array Value}{o n:Nat}{l:List Value}(ho:o+n≤cur.size)(hl:l.length=n)(h:∀j,j<n→cur[o+j]?=l[j]?):Ae cur o n=l:=by
 apply qp
 intro j
 rcases Nat.lt_or_ge j n with hj|hj
 ·rw[Ag _ _ _ _ hj,h j hj]
 ·rw[qt (by rw[De ho];exact hj),qt (by omega)]
theorem Q1(size:Nat):∀(ps:List (Nat×Value)) (m:Nat) (cs:Array Value),(∀j p,ps[j]?=some p→p.1=m+j∧p.2.cells.size=size)→(m+ps.length)*size≤cs.size→
 ∃cs',Instr.fill (fun i=>some (i*size,size)) cs ps=some cs'∧cs'.size=cs.size∧(∀k,k<m*size→cs'[k]?=cs[k]?)∧
  ∀j p,ps[j]?=some p→Ae cs' ((m+j)*size) size=p.2.cells.toList
 |[],m,cs,_,_=>⟨cs,rfl,rfl,fun _ _=>rfl,fun j p h=>by simp at h⟩
 |(i,v)::r,m,cs,hp,hle=>by
  obtain⟨hi,hv⟩:=hp 0 (i,v) rfl
  simp only[ya]at hi hv
  subst hi
  simp only[jw]at hle
  have e1:(i+1)*size=i*size+size:=by rw[yf,Nat.one_mul]
  have hmono:(i+1)*size≤(i+(r.length+1))*size:=jm _ (by omega)
  have hvl:v.cells.toList.length=size:=by simpa using hv
  have hfit:i*size+v.cells.toList.length≤cs.toList.length:=by rw[hvl];simp;omega
  have hsz:(Jc cs.toList (i*size) v.cells.toList).toArray.size=cs.size:=by
   simp only[yo];rw[Yh hfit];simp
  obtain⟨cs',h1,h2,h3,h4⟩:=Q1 size r (i+1) (Jc cs.toList (i*size) v.cells.toList).toArray (fun j p hj=>by
   obtain⟨a1,a2⟩:=hp (j+1) p (by simpa using hj)
   exact⟨by omega,a2⟩) (by
    rw[hsz];have:i+1+r.length=i+(r.length+1):=by omega
    rw[this];exact hle)
  refine⟨cs',?_,by rw[h2,hsz],?_,?_⟩
  ·rw[N9 rfl hv (by omega)];exact h1
  ·intro k hk
   rw[h3 k (by omega)]
   have:=Jk hfit k
   rw[if_pos hk]at this
   simpa using this
  ·intro j p hj
   cases j with
   |zero=>
    simp only[List.getElem?_cons_zero,jc]at hj
    subst hj
    simp only[ya]
    refine Iam (by rw[h2,hsz];omega) hvl fun j' hj'=>?_
    rw[h3 _ (by omega)]
    have:=Jk hfit (i*size+j')
    rw[if_neg (by omega),if_pos (by omega)]at this
    rw[Nat.add_sub_cancel_left]at this
    simpa using this
   |succ j=>
    have:=h4 j p (by simpa using hj)
    have e2:i+1+j=i+(j+1):=by omega
    rwa [e2]at this
theorem Aab{z:Array Value}{n sz i j:Nat}(hz:z.size=sz)(hi:i<n)(hj:j<sz):(madeCells z (n*sz))[i*sz+j]?=z[j]?:=by
 have hlt:i*sz+j<n*sz:=by
  have:(i+1)*sz≤n*sz:=jm _ hi
  rw[yf,Nat.one_mul]at this
  omega
 have hm:(i*sz+j)%sz=j:=by rw[Nat.mul_comm,Nat.mul_add_mod,Nat.mod_eq_of_lt hj]
 simp[madeCells,hlt,hz,hm,hj]
theorem Qaz{z:Array Value}{n sz i:Nat}(hz:z.size=sz)(hi:i<n):Ae (madeCells z (n*sz)) (i*sz) sz=z.toList:=by
 refine Iam ?_ (by simpa using hz) fun j hj=>?_
 ·have:(i+1)*sz≤n*sz:=jm _ hi
  rw[yf,Nat.one_mul]at this
  simpa[size_madeCells]using this
 ·rw[Aab hz hi hj];simp
theorem IaI{τ:Ty}{d:D}{v:Value}{w:World}{O:Nat→Prop}{hp:Nat→Option Ka}{σ:Nat→Value}(hs:Ob τ d)(ha:τ.isAgg=false)(h:Kb w O hp σ d [v]):v.cells= #[v]:=by
 cases d with
 |t τ' x=>
  simp only[Ob]at hs
  subst hs
  cases τ' with
  |i k=>simp only[Kb,Wa,yi,and_true]at h;rw[h];rfl
  |b=>simp only[Kb,Wa,yi,and_true]at h;rw[h];rfl
  |o=>simp only[Kb,Wa,yi,and_true]at h;rw[h];rfl
  |mp _ _=>obtain⟨hq,_⟩|⟨q,es,clk,hq,_⟩:=h<;>(simp only[yi,and_true]at hq;rw[hq];rfl)
  |s=>simp only[Kb,Wa,yi,and_true]at h;rw[h];rfl
  |sl e=>obtain⟨q,c,hq,_⟩:=h;simp only[yi,and_true]at hq;rw[hq];rfl
  |u=>simp[Ty.isAgg]at ha
  |p x y=>simp[Ty.isAgg]at ha
 |nil=>simp only[Kb,yi,and_true]at h;rw[h];rfl
 |own id=>
  obtain⟨u,hu,h1,_⟩:=h
  simp only[yi,and_true]at hu
  subst hu
  cases v<;>first|rfl|simp[Value.oneCell']at h1
 |mpo id=>
  obtain⟨u,hu,h1,_⟩:=h
  simp only[yi,and_true]at hu
  subst hu
  cases v<;>first|rfl|simp[Value.oneCell']at h1
 |cut id lo hi=>
  obtain⟨u,hu,h1,_⟩:=h
  simp only[yi,and_true]at hu
  subst hu
  cases v<;>first|rfl|simp[Value.oneCell']at h1
 |_=>cases τ<;>simp[Ob,Ty.isAgg]at hs ha
theorem Faw{τ:Ty}{cs:List Value}{w:World}{O:Nat→Prop}{hp:Nat→Option Ka}{σ:Nat→Value}{d:D}(hs:Ob τ d)(h:Kb w O hp σ d cs):(Me τ cs).cells.toList=cs:=by
 have hl:=Kb.length hs h
 unfold Me
 cases ha:τ.isAgg with
 |true=>simp[Value.cells]
 |false=>
  rw[Ty.size_one ha]at hl
  obtain⟨u,rfl⟩:=q9.1 hl
  have:=IaI hs ha h
  simp[this]
theorem LV(τ:Ty):(Me τ τ.zc).cells.toList=τ.zc:=by
 obtain⟨h1,h2,_⟩:=ST default (fun _=>False) (fun _=>none) (fun _=>default) τ
 exact Faw h1 h2
theorem YM(τ:Ty):τ.zc.length=τ.size:=by
 obtain⟨h1,h2,_⟩:=ST default (fun _=>False) (fun _=>none) (fun _=>default) τ
 exact Kb.length h1 h2
theorem Yad{z:List Value}{sz:Nat}(hz:z.length=sz):∀{n j:Nat},j<n→Ae (yd n z).flatten.toArray (j*sz) sz=z
 |0,_,h=>by omega
 |n+1,0,_=>by
  simp only[Ae,List.replicate_succ,yp,Nat.zero_mul,List.drop_zero,←hz]
  simp
 |n+1,j+1,h=>by
  have:=Yad hz (n:=n) (j:=j) (by omega)
  simp only[Ae,List.replicate_succ,yp]at this⊢
  rw[yq,Nat.add_comm,List.drop_append,List.drop_eq_nil_of_le (by omega)]
  have e:sz+j*sz-z.length=j*sz:=by omega
  rw[e]
  simpa using this
theorem B9(w:World):∀τ:Ty,Ic w τ (zT τ) τ.zc []
 |.i _=>⟨rfl,rfl⟩
 |.b=>⟨rfl,rfl⟩
 |.o=>⟨rfl,rfl⟩
 |.mp _ _=>.inl ⟨rfl,rfl,rfl⟩
 |.s=>⟨rfl,rfl⟩
 |.sl e=>⟨by simp[zT],.inl ⟨rfl,rfl,rfl⟩⟩
 |.u=>⟨rfl,rfl⟩
 |.p x y=>⟨_,_,[],[],rfl,rfl,B9 w x,B9 w y⟩
section
variable{P:Program} {Out:Type} {n0:Nat} {A:Fx} {O0:Nat→Prop} {w0 w w':World} {s:AS} {σ σ':Nat→Value} {φ φ':Nat→List Nat} {a:Act}
variable{o:Oper} {Q:Exit→Act→World→Prop} {k:AS→Option Out} {out:Out} {d:D} {v:Value} {upd:List (Nat×Option Ka)} {dst:Option Tmp} {G:Sf}
theorem AE{id:Nat}{e:Ty}{dp:Bool}{xs:List (T e)}{O:Nat→Prop}{val:Value}(hv:val.oneCell'=true){s':AS}(_:s'.heap id=some (.row e dp xs)):
 Td w O s'.heap (Di σ id val) (.own id) val:=by
 rw[QK]
 exact⟨hv,fun _ _ _ _=>(Qe _ _ _).symm⟩
theorem May(h:Db n0 A O0 w0 s σ φ a w){tt:Nat}(hn:s.newOk tt=true){e:Ty}{et:TypeId}(n:Nat)(hle:n≤1073741824):
 Db n0 A O0 w0 ⟨s.n,s.tm,(tt,some (.row e true (yd n (zT e))))::s.hp⟩ (Di σ tt (.slice (some ⟨w.heap.size,0,none⟩) n n)) (Di φ tt [w.heap.size]) a
  (w.alloc (.cells (madeCells (Me e e.zc).cells (n*e.size)) et)):=by
 have hzc:(Me e e.zc).cells.size=e.size:=by
  have:=LV e
  rw[←Array.length_toList,this,YM]
 have hmade:(madeCells (Me e e.zc).cells (n*e.size)).size=n*e.size:=size_madeCells _ _
 have hlen:ja (yd n (zT e))=n:=List.length_replicate
 refine h.new1 (id:=tt) hn _ _ _ (by simp) (fun b hb=>Vh w _ b hb) rfl rfl rfl (by simp) (by simp) ?_
 intro hp' σ' O' hσ _ _
 simp only[Gd,hσ]
 refine⟨by rw[hlen];unfold Ll;omega,.inr ⟨w.heap.size,0,n,_,et,yd n [],by rw[hlen],heap_alloc_new w _,by rw[hlen];exact jo _,by unfold Ll;omega,by rw[hmade];omega,by simp,by simp,fun j hj=>?_⟩⟩
 have hj':j<n:=by rw[hlen]at hj;exact hj
 simp only[js]
 rw[Qaz hzc hj',LV]
 have e1:List.get (yd n (zT e)) ⟨j,hj⟩=zT e:=List.getElem_replicate hj
 have e2:(yd n ([]:List Nat)).getD j []=[]:=by
  rw[qe,List.getElem?_replicate];split<;>rfl
 rw[e1,e2]
 exact B9 _ e
theorem Pav{e:Ty}{t et:TypeId}(hu:P.underlying t=some (.slice et))(hte:Ie P e et=true)(n:Int)(h0:0≤n)(h30:n≤1073741824):
 (Instr.makeSlice t (.int .i64 n) (.int .i64 n)).run P w=.ok (.slice (some ⟨w.heap.size,0,none⟩) n.toNat n.toNat) (w.alloc (.cells (madeCells (Me e e.zc).cells (n.toNat*e.size)) et)):=by
 obtain⟨i,hi,hsz,hby,hz⟩:=Tok.size hte
 have hbytes:(i.bytes:Int)*n≤281474976710656:=by
  have h1:(i.bytes:Int)≤65536:=by omega
  have:=Int.mul_le_mul h1 h30 h0 (by omega)
  omega
 have hr:=run_make (P:=P) w t et i _ hu hi hz .i64 .i64 n n h0 (Int.le_refl _) hbytes (by omega)
 rwa [hsz]at hr
theorem Qaf(hG:EnvTy P G)(h:Db n0 A O0 w0 s σ φ a w){t:TypeId}{x y:Operand}(ho:o.op=.makeSlice t x y)
 (he:Ig G s o k=some out):o.wp P a w (Nf n0 A O0 w0 k out) Q:=by
 simp only[Ig,Hc,ho]at he
 split at he
 ·rename_i tt e n m hd hty hx hy
  cases hn:s.newOk tt with
  |false=>simp[hn]at he
  |true=>
   simp only[hn,zg]at he
   cases hc:(((n:Int)==m)&&(decide ((0:Int)≤n)&&decide ((n:Int)≤Sa)))with
   |false=>rw[hc]at he;exact absurd he (by simp)
   |true=>
    rw[hc]at he
    simp only[zg]at he
    simp only[jd,beq_iff_eq,decide_eq_true_eq]at hc
    obtain⟨hnm,h0,hle⟩:=hc
    subst hnm
    have hv:=h.ev hx
    have hv2:=h.ev hy
    rw[Bf]at hv hv2
    obtain⟨et,hu,hte⟩:=Tok.sl (hG.ty _ _ hty)
    have hr:=Pav (w:=w) hu hte n h0 hle
    have hc:=May (tt:=tt) (et:=et) h hn (e:=e) (jy n) (by
     have:(jy n:Int)≤1073741824:=by rw[Int.toNat_of_nonneg h0];exact hle
     exact Int.ofNat_le.1 this)
    refine Ec (v:=.slice (some ⟨w.heap.size,0,none⟩) (jy n) (jy n)) ?_ (Jf rfl hc (AE rfl (Jh _ _ _)) he)
    simp only[execOp,ho,hv,hv2,qo,hr,qn,Sem.run_pure]
 ·simp at he
theorem Ray(hG:EnvTy P G)(h:Db n0 A O0 w0 s σ φ a w){t:TypeId}(ho:o.op=.alloc t)
 (he:Ig G s o k=some out):o.wp P a w (Nf n0 A O0 w0 k out) Q:=by
 simp only[Ig,Hc,ho]at he
 split at he
 ·rename_i tt τ hd hty
  cases hn:s.newOk tt with
  |false=>simp[hn]at he
  |true=>
   simp only[hn,zg]at he
   obtain⟨h1,h2,h3⟩:=ST w (OO O0 s φ) s.heap σ τ
   have hc:=Xal (id:=tt) h hn t h1 h2 (fun j hj=>by rw[h3 j]at hj;simp at hj)
   refine Ec (w':=w.alloc (.cells τ.zc.toArray t)) (v:=.pointer (some ⟨w.heap.size,0,none⟩)) ?_ (Jf rfl hc (TO _ rfl (Jh _ _ _)) he)
   have hz:=Tok.zero (hG.ty _ _ hty) w
   have hcells:(Me τ τ.zc).cells=τ.zc.toArray:=by
    have hl:=Kb.length h1 h2
    unfold Me
    cases ha:τ.isAgg with
    |true=>simp[Value.cells]
    |false=>
     rw[Ty.size_one ha]at hl
     obtain⟨u,hu⟩:=q9.1 hl
     rw[hu]
     cases τ<;>simp_all [Ty.zc,Ty.isAgg]<;>subst hu<;>rfl
   simp[execOp,ho,Instr.alloc,hz,newVar,newRow,hcells]
 ·rename_i tt hd hty
  split at he
  ·rename_i e n har
   cases hn:(s.newOk tt&&(yb 0 n&&(jx n 1000&&jx e.size 1000)))with
   |false=>rw[hn]at he;simp at he
   |true=>
    rw[hn]at he
    simp only[zg]at he
    simp only[jd]at hn
    obtain⟨hnew,hn0,hn1,_⟩:=hn
    rw[ye]at hn0
    have hn1:=q6 hn1
    have hlen:ja (yd n (zT e))=n:=List.length_replicate
    have hsz:(yd n e.zc).flatten.length=n*e.size:=by simp[List.length_flatten,YM]
    have hc:Db n0 A O0 w0 ⟨s.n,s.tm,(tt,some (.row e true (yd n (zT e))))::s.hp⟩ (Di σ tt (.slice (some ⟨w.heap.size,0,none⟩) n n)) (Di φ tt [w.heap.size]) a
     (w.alloc (.cells (yd n e.zc).flatten.toArray t)):=by
     refine h.new1 (id:=tt) hnew _ _ _ (by simp) (fun b hb=>Vh w _ b hb) rfl rfl rfl (by simp) (by simp) ?_
     intro hp' σ' O' hσ _ _
     simp only[Gd,hσ]
     refine⟨by rw[hlen];unfold Ll;omega,.inr ⟨w.heap.size,0,n,_,t,yd n [],by rw[hlen],heap_alloc_new w _,by rw[hlen];exact jo _,by unfold Ll;omega,by simp only[yo,hsz];omega,by simp,by simp,fun j hj=>?_⟩⟩
     have hj':j<n:=by rw[hlen]at hj;exact hj
     simp only[js]
     have hseg:Ae (yd n e.zc).flatten.toArray (j*e.size) e.size=e.zc:=Yad (YM e) hj'
     have e1:List.get (yd n (zT e)) ⟨j,hj⟩=zT e:=List.getElem_replicate hj
     have e2:(yd n ([]:List Nat)).getD j []=[]:=by
      rw[qe,List.getElem?_replicate];split<;>rfl
     rw[hseg,e1,e2]
     exact B9 _ e
    refine Ec (v:=.pointer (some ⟨w.heap.size,0,none⟩)) ?_ (Jf rfl hc ?_ he)
    ·have har':=hG.ar _ _ _ har
     simp only[B1,jd]at har'
     have h2:=har'.2
     split at h2
     ·rename_i inf hinf
      split at h2
      ·rename_i cs hz
       have hcs:cs=(yd n e.zc).flatten.toArray:=by
        apply Array.toList_inj.1
        simpa using KR h2
       simp[execOp,ho,Instr.alloc,zeroValue,typeInfo,hinf,hz,newVar,newRow,Value.cells,hcs]
      ·simp at h2
     ·simp at h2
    ·rw[Am]
     refine⟨rfl,fun blk' e' n' hb' hr'=>?_⟩
     have hb2:AS.heap ⟨s.n,s.tm,(tt,some (.row e true (yd n (zT e))))::s.hp⟩ tt=some (.row e true (yd n (zT e))):=Jh _ _ _
     have hb3:=hb2.symm.trans hb'
     cases hb3
     simp only[Ka.rowN,jc,jh]at hr'
     obtain⟨rfl,hr'⟩:=hr'
     rw[hlen]at hr'
     subst hr'
     exact⟨hn0,w.heap.size,0,n,by rw[Qe],by simp[Yb]⟩
  ·simp at he
 ·simp at he
theorem Pal(h:Db n0 A O0 w0 s σ φ a w){e:Ty}:∀{ps:List (Nat×Operand)} {m:Nat} {xs:List (T e)} {l:List Nat},GX s e m ps=some (xs,l)→
 xs.length=ps.length∧∃Ls:List (List Nat),Ls.length=ps.length∧l=Ls.flatten∧
  ∀j p,ps[j]?=some p→p.1=m+j∧∃d x lj,s.ev p.2=some d∧Cc s d e=some (x,lj)∧xs[j]?=some x∧Ls[j]?=some lj
 |[],m,xs,l,he=>by
  simp only[GX,jc,jh]at he
  obtain⟨rfl,rfl⟩:=he
  exact⟨rfl,[],rfl,rfl,fun j p hj=>by simp at hj⟩
 |(i,x)::r,m,xs,l,he=>by
  simp only[GX]at he
  cases hi:qw i m with
  |false=>simp[hi]at he
  |true=>
   simp only[hi,zg]at he
   split at he
   ·rename_i d hx
    split at he
    ·rename_i y l1 ys l2 hy hys
     simp only[jc,jh]at he
     obtain⟨rfl,rfl⟩:=he
     obtain⟨h1,Ls,h2,h3,h4⟩:=Pal h hys
     refine⟨by simp[h1],l1::Ls,by simp[h2],by simp[h3],fun j p hj=>?_⟩
     cases j with
     |zero=>
      simp only[List.getElem?_cons_zero,jc]at hj
      subst hj
      exact⟨by simpa using ju hi,d,y,l1,hx,hy,rfl,rfl⟩
     |succ j=>
      obtain⟨a1,a2⟩:=h4 j p (by simpa using hj)
      exact⟨by omega,by simpa using a2⟩
    ·simp at he
   ·simp at he
theorem Eaf{e:Ty}:∀{ps:List (Nat×Operand)} {m:Nat} {xs:List (T e)},AR s e m ps=some xs→
 xs.length=ps.length∧∀j p,ps[j]?=some p→p.1=m+j∧∃d x,s.ev p.2=some d∧Hm d e=some x∧xs[j]?=some x
 |[],m,xs,he=>by
  simp only[AR,jc]at he
  subst he
  exact⟨rfl,fun j p hj=>by simp at hj⟩
 |(i,x)::r,m,xs,he=>by
  simp only[AR]at he
  cases hi:qw i m with
  |false=>simp[hi]at he
  |true=>
   simp only[hi,zg]at he
   split at he
   ·rename_i d hx
    split at he
    ·rename_i y ys hy hys
     simp only[jc]at he
     subst he
     obtain⟨h1,h4⟩:=Eaf hys
     refine⟨by simp[h1],fun j p hj=>?_⟩
     cases j with
     |zero=>
      simp only[List.getElem?_cons_zero,jc]at hj
      subst hj
      exact⟨by simpa using ju hi,d,y,hx,hy,rfl⟩
     |succ j=>
      obtain⟨a1,a2⟩:=h4 j p (by simpa using hj)
      exact⟨by omega,by simpa using a2⟩
    ·simp at he
   ·simp at he
theorem Sl:∀{d:D} {τ:Ty} {x:T τ} {l:List Nat},Cc s d τ=some (x,l)→Ob τ d:=by
 intro d
 induction d with
 |t τ' y=>
  intro τ x l he
  simp only[Cc]at he
  cases hf:τ'.flat with
  |false=>simp[hf]at he
  |true=>
   simp only[hf,zg]at he
   split at he
   ·rename_i q hq
    have:=Se hq
    simpa[Ob]using this
   ·simp at he
 |pr y z ih1 ih2=>
  intro τ x l he
  cases τ with
  |p t1 t2=>
   simp only[Cc]at he
   split at he
   ·rename_i u l1 v l2 hu hv
    exact⟨ih1 hu,ih2 hv⟩
   ·simp at he
  |_=>simp[Cc]at he
 |nil=>intro τ x l he;cases τ<;>first|trivial|simp[Cc]at he
 |own id=>intro τ x l he;cases τ<;>first|trivial|simp[Cc]at he
 |un=>intro τ x l he;cases τ<;>first|trivial|simp[Cc]at he
 |mpo id=>intro τ x l he;cases τ<;>first|trivial|simp[Cc]at he
 |_=>intro τ x l he;cases τ<;>simp[Cc]at he
theorem Qi{O:Nat→Prop}{hp:Nat→Option Ka}:∀{d:D} {τ:Ty} {x:T τ},Hm d τ=some x→Ob τ d∧∀cs,Kb w O hp σ d cs→Wa w O τ x cs:=by
 intro d
 induction d with
 |t τ' y=>
  intro τ x he
  simp only[Hm]at he
  split at he
  ·rename_i q hq
   obtain rfl:=Se hq
   simp only[jc]at he
   subst he
   exact⟨by simp[Ob],fun cs hr=>hr⟩
  ·simp at he
 |pr y z ih1 ih2=>
  intro τ x he
  cases τ with
  |p t1 t2=>
   simp only[Hm]at he
   split at he
   ·rename_i u v hu hv
    simp only[jc]at he
    subst he
    refine⟨⟨(ih1 hu).1,(ih2 hv).1⟩,?_⟩
    rintro cs ⟨c1,c2,h0,h1,h2⟩
    exact⟨c1,c2,h0,(ih1 hu).2 _ h1,(ih2 hv).2 _ h2⟩
   ·simp at he
  |_=>simp[Hm]at he
 |nil=>
  intro τ x he
  cases τ with
  |sl e=>
   simp only[Hm,jc]at he
   subst he
   refine⟨trivial,fun cs hr=>?_⟩
   simp only[Kb]at hr
   exact⟨none,0,hr,jo _,by simp,.inl rfl⟩
  |_=>simp[Hm]at he
 |un=>
  intro τ x he
  cases τ with
  |u=>exact⟨trivial,fun cs hr=>hr⟩
  |_=>simp[Hm]at he
 |_=>intro τ x he;cases τ<;>simp[Hm]at he
theorem MT{e:Ty}{t et:TypeId}(hu:P.underlying t=some (.slice et))(hte:Ie P e et=true){n:Nat}(hn:n≤1000)(he:e.size≤1000){parts:Array (Nat×Value)}{cells:Array Value}
 (hf:Instr.fill (fun i=>some (i*e.size,e.size)) (madeCells (Me e e.zc).cells (n*e.size)) parts.toList=some cells):
 (Instr.buildSlice t n parts).run P w=.ok (.slice (some ⟨w.heap.size,0,none⟩) n n) (w.alloc (.cells cells et)):=by
 have hle:n*e.size≤1000*1000:=Nat.mul_le_mul hn he
 have h24:¬(n*e.size>2^24):=by omega
 unfold Instr.buildSlice
 simp only[qo,run_underlying hu,qn,Tok.sizeOf hte w]
 rw[if_neg h24]
 by_cases hz:n*e.size=0
 ·have hm0:(Array.range (n*e.size)).map ((#[]:Array Value)[·%(#[]:Array Value).size]!)=madeCells (Me e e.zc).cells (n*e.size):=by
   rw[hz];simp[madeCells]
  rw[if_pos hz]
  simp only[qo,Sem.run_pure,qn]
  rw[hm0,hf]
  simp[newRow]
 ·rw[if_neg hz]
  simp only[qo,Tok.zero hte w,Sem.run_pure,qn]
  have hm0:(Array.range (n*e.size)).map ((Me e e.zc).cells[·%(Me e e.zc).cells.size]!)=madeCells (Me e e.zc).cells (n*e.size):=rfl
  rw[hm0,hf]
  simp[newRow]
end
section
variable{P:Program} {Out:Type} {n0:Nat} {A:Fx} {O0:Nat→Prop} {w0 w w':World} {s:AS} {σ σ':Nat→Value} {φ φ':Nat→List Nat} {a:Act}
variable{o:Oper} {Q:Exit→Act→World→Prop} {k:AS→Option Out} {out:Out} {d:D} {v:Value} {upd:List (Nat×Option Ka)} {dst:Option Tmp} {G:Sf}
theorem Ic.block_ext{τ:Ty}{x:T τ}{cs:List Value}{F:List Nat}(h:Ic w τ x cs F)(hb:∀b,b<w.heap.size→w'.heap[b]?=w.heap[b]?):Ic w' τ x cs F:=
 h.stable fun b hm=>hb b (h.lt b hm)
theorem Bab(hG:EnvTy P G)(h:Db n0 A O0 w0 s σ φ a w){t:TypeId}{n:Nat}{ps:Array (Nat×Operand)}(ho:o.op=.buildSlice t n ps)
 (he:Ig G s o k=some out):o.wp P a w (Nf n0 A O0 w0 k out) Q:=by
 simp only[Ig,Hc,ho]at he
 split at he
 ·rename_i tt e hd hty
  obtain⟨et,hu,hte⟩:=Tok.sl (hG.ty _ _ hty)
  have hzc:(Me e e.zc).cells.size=e.size:=by
   have:=LV e
   rw[←Array.length_toList,this,YM]
  have hpm:(ps.map fun(j,y)=>(j,a.eval y)).toList=ps.toList.map fun x=>(x.1,a.eval x.2):=by simp
  split at he
  ·rename_i xs l hl
   cases hc:(s.newOk tt&&Lg l&&qw n ps.size&&jx n 1000&&jx e.size 1000)with
   |false=>rw[hc]at he;simp at he
   |true=>
    rw[hc]at he
    simp only[zg]at he
    simp only[jd]at hc
    obtain⟨⟨⟨⟨hn,hnd⟩,hnp⟩,hn1⟩,he1⟩:=hc
    have hnp:=ju hnp
    have hn1:=q6 hn1
    have he1:=q6 he1
    obtain⟨hlen,Ls,hL1,hL2,hL3⟩:=Pal h hl
    have hpl:ps.toList.length=n:=by simp[hnp]
    have hparts:∀j p,(ps.toList.map fun x=>(x.1,a.eval x.2))[j]?=some p→p.1=0+j∧p.2.cells.size=e.size:=by
     intro j p hj
     rw[List.getElem?_map]at hj
     cases hq:ps.toList[j]? with
     |none=>rw[hq]at hj;simp at hj
     |some q=>
      rw[hq]at hj
      simp only[qa,jc]at hj
      subst hj
      obtain⟨h1,d,x,lj,h2,h3,h4,h5⟩:=hL3 j q hq
      obtain⟨hr,_⟩:=Qf (Sl h3) (h.ev h2)
      have:=Kb.length (Sl h3) hr
      exact⟨h1,by simpa using this⟩
    obtain⟨cs',hf,hsz,_,hseg⟩:=Q1 e.size (ps.toList.map fun x=>(x.1,a.eval x.2)) 0 (madeCells (Me e e.zc).cells (n*e.size)) hparts (by
     rw[size_madeCells];simp[hnp])
    rw[size_madeCells]at hsz
    rw[←hpm]at hf
    have hr:=MT (w:=w) hu hte hn1 he1 hf
    have hxl:ja xs=n:=by rw[←hpl];exact hlen
    have hlive:∀j,j∈l→∃b,s.heap j=some b:=by
     intro j hj
     rw[hL2]at hj
     obtain⟨lj,hlj,hm⟩:=List.mem_flatten.1 hj
     obtain⟨q,hq,rfl⟩:=List.mem_iff_getElem.1 hlj
     have hq':q<ps.toList.length:=by rw[←hL1];exact hq
     obtain⟨_,d,x,lj,h2,h3,h4,h5⟩:=hL3 q _ (je hq')
     obtain⟨hr,_⟩:=Qf (Sl h3) (h.ev h2)
     rw[je hq]at h5
     simp only[jc]at h5
     rw[h5]at hm
     exact(Er h h3 hr).2 j hm
    have hflat:(Ls.map (Ha φ)).flatten=Ha φ l:=by
     rw[hL2]
     clear hL1 hL2 hL3
     induction Ls with
     |nil=>simp[Ha]
     |cons x r ih=>simp only[yk,yp,Ye,ih]
    have hlt:∀b,b∈Ha φ l→b<w.heap.size:=by
     intro b hb
     obtain⟨j,hj,hm⟩:=Pb.1 hb
     obtain⟨bj,hbj⟩:=hlive j hj
     exact(h.hp j bj hbj).lt b hm
    have hc:=h.absorb (id:=tt) (w':=w.alloc (.cells cs' et)) hn l hlive (.row e true xs) (.slice (some ⟨w.heap.size,0,none⟩) n n) (w.heap.size::Ha φ l)
     (by simp) (fun b hb _=>Vh w _ b hb) rfl rfl rfl (by
      rw[ym]
      exact⟨fun hm=>Nat.lt_irrefl _ (hlt _ hm),Rg h (Mi hnd) hlive⟩) (by
      intro b hb
      cases jp.1 hb with
      |inl e=>left;omega
      |inr hm=>right;exact Pb.1 hm) (by
      intro hp' σ' O' hσ _
      simp only[Gd,hσ]
      refine⟨by rw[hxl];unfold Ll;omega,.inr ⟨w.heap.size,0,n,cs',et,Ls.map (Ha φ),by rw[hxl],heap_alloc_new w _,by omega,by unfold Ll;omega,by rw[hsz];omega,by rw[hflat],by rw[yr,hL1,hxl,hpl],fun j hj=>?_⟩⟩
      have hj':j<ps.toList.length:=by rw[hpl,←hxl];exact hj
      obtain⟨_,d,x,lj,h2,h3,h4,h5⟩:=hL3 j _ (je hj')
      obtain⟨hrep,_⟩:=Qf (Sl h3) (h.ev h2)
      have hown:=(Er h h3 hrep).1
      have hx:List.get xs ⟨j,hj⟩=x:=by
       rw[je hj]at h4
       simpa using h4
      have hF:(Ls.map (Ha φ)).getD j []=Ha φ lj:=by
       rw[qe,List.getElem?_map,h5];rfl
      have hs:=hseg j (ps.toList[j].1,a.eval ps.toList[j].2) (by rw[List.getElem?_map,je hj'];rfl)
      simp only[js]at hs⊢
      rw[hx,hF,hs]
      exact hown.block_ext fun b hb=>Vh w _ b hb)
    refine Ec (v:=.slice (some ⟨w.heap.size,0,none⟩) n n) ?_ (Jf (upd:=(tt,some (.row e true xs))::Ed l) rfl hc (AE rfl (by rw[yh,He,if_pos rfl])) he)
    simp only[execOp,ho,qo,hr,qn,Sem.run_pure]
  ·split at he
   ·rename_i xs hl
    cases hc:(s.newOk tt&&qw n ps.size&&jx n 1000&&jx e.size 1000)with
    |false=>rw[hc]at he;simp at he
    |true=>
     rw[hc]at he
     simp only[zg]at he
     simp only[jd]at hc
     obtain⟨⟨⟨hn,hnp⟩,hn1⟩,he1⟩:=hc
     have hnp:=ju hnp
     have hn1:=q6 hn1
     have he1:=q6 he1
     obtain⟨hlen,hL3⟩:=Eaf hl
     have hpl:ps.toList.length=n:=by simp[hnp]
     have hparts:∀j p,(ps.toList.map fun x=>(x.1,a.eval x.2))[j]?=some p→p.1=0+j∧p.2.cells.size=e.size:=by
      intro j p hj
      rw[List.getElem?_map]at hj
      cases hq:ps.toList[j]? with
      |none=>rw[hq]at hj;simp at hj
      |some q=>
       rw[hq]at hj
       simp only[qa,jc]at hj
       subst hj
       obtain⟨h1,d,x,h2,h3,h4⟩:=hL3 j q hq
       have hsh:=(Qi (w:=w) (O:=OO O0 s φ) (hp:=s.heap) (σ:=σ) h3).1
       obtain⟨hr,_⟩:=Qf hsh (h.ev h2)
       have:=Kb.length hsh hr
       exact⟨h1,by simpa using this⟩
     obtain⟨cs',hf,hsz,_,hseg⟩:=Q1 e.size (ps.toList.map fun x=>(x.1,a.eval x.2)) 0 (madeCells (Me e e.zc).cells (n*e.size)) hparts (by
      rw[size_madeCells];simp[hnp])
     rw[size_madeCells]at hsz
     rw[←hpm]at hf
     have hr:=MT (w:=w) hu hte hn1 he1 hf
     have hxl:ja xs=n:=by rw[←hpl];exact hlen
     have hc:=h.new1 (id:=tt) (w':=w.alloc (.cells cs' et)) hn (.row e false xs) (.slice (some ⟨w.heap.size,0,none⟩) n n) [w.heap.size]
      (by simp) (fun b hb=>Vh w _ b hb) rfl rfl rfl (by simp) (by simp) (by
       intro hp' σ' O' hσ hO _
       simp only[Gd,hσ]
       refine⟨by rw[hxl];unfold Ll;omega,.inr ⟨w.heap.size,0,n,cs',et,by rw[hxl],heap_alloc_new w _,by omega,by unfold Ll;omega,by rw[hsz];omega,rfl,fun j hj=>?_⟩⟩
       have hj':j<ps.toList.length:=by rw[hpl,←hxl];exact hj
       obtain⟨_,d,x,h2,h3,h4⟩:=hL3 j _ (je hj')
       obtain⟨hsh,hvw⟩:=Qi (w:=w) (O:=OO O0 s φ) (hp:=s.heap) (σ:=σ) h3
       obtain⟨hrep,_⟩:=Qf hsh (h.ev h2)
       have hx:List.get xs ⟨j,hj⟩=x:=by
        rw[je hj]at h4
        simpa using h4
       have hs:=hseg j (ps.toList[j].1,a.eval ps.toList[j].2) (by rw[List.getElem?_map,je hj'];rfl)
       simp only[js]at hs⊢
       rw[hx,hs]
       exact(hvw _ hrep).stable (fun b _ hb=>Vh w _ b hb) hO)
     refine Ec (v:=.slice (some ⟨w.heap.size,0,none⟩) n n) ?_ (Jf rfl hc (AE rfl (Jh _ _ _)) he)
     simp only[execOp,ho,qo,hr,qn,Sem.run_pure]
   ·simp at he
 ·simp at he
end
section
variable{P:Program} {w:World}
theorem Eaa{τ:Ty}{t:TypeId}(h:Ie P τ t=true){xs:Array Value}{o:Nat}(hs:o+τ.size≤xs.size):
 (part t xs o).run P w=.ok (Me τ (Ae xs o τ.size)) w:=by
 unfold part
 rw[qo,Tok.isAgg h w]
 simp only[qn]
 cases ha:τ.isAgg with
 |true=>
  simp only[if_true,qo,Tok.sizeOf h w,qn,Sem.run_pure,Me,ha]
  congr 2
  apply Array.ext'
  simp[Ae,List.take_drop]
 |false=>
  have h1:=Ty.size_one ha
  have hl:=De hs
  rw[h1]at hl
  obtain⟨v,hv⟩:=q9.1 hl
  have:xs[o]?=some v:=by
   have:=Ag xs o 1 0 (by omega)
   rw[hv]at this
   simpa using this.symm
  simp[Me,ha,h1,hv,this]
theorem Jai{τ:Ty}(hF:∀(x y:T τ) (fs:List Field) (o d:Nat) (xs ys:Array Value) (O:Nat→Prop),τ.cmp=true→τ.isAgg=true→Yg P τ fs o=true→τ.cnt≤d+1→
 Wa w O τ x (Ae xs o τ.size)→Wa w O τ y (Ae ys o τ.size)→o+τ.size≤xs.size→o+τ.size≤ys.size→(Op.eqFields d xs ys fs).run P w=.ok (YB τ x y) w)
 {t:TypeId} (h:Ie P τ t=true) (hf:τ.cmp=true) {d:Nat} (hd:τ.cnt≤d) {x y:T τ} {cs ds:List Value} {O:Nat→Prop} (hx:Wa w O τ x cs) (hy:Wa w O τ y ds):
 (Op.equalIn d t (Me τ cs) (Me τ ds)).run P w=.ok (YB τ x y) w:=by
 have h0:0<τ.cnt:=by cases τ<;>simp[Ty.cnt]
 obtain⟨d,rfl⟩:∃e,d=e+1:=⟨d-1,by omega⟩
 have lx:=Wa.length hx
 have ly:=Wa.length hy
 cases τ with
 |i k=>simp only[Wa]at hx hy;subst hx;subst hy;simp[Me,Ty.isAgg,YB,run_equalIn_int w d t k k _ _ (Tok.i h)]
 |b=>simp only[Wa]at hx hy;subst hx;subst hy;simp[Me,Ty.isAgg,YB,run_equalIn_bool' w d t _ _ (Tok.b h)]
 |o=>simp[Ty.cmp]at hf
 |mp _ _=>simp[Ty.cmp]at hf
 |s=>
  simp only[Wa]at hx hy;subst hx;subst hy
  have e1:(ByteArray.mk (qr x)).toList=x:=ByteArray.toList_mk x
  have e2:(ByteArray.mk (qr y)).toList=y:=ByteArray.toList_mk y
  simp[Me,Ty.isAgg,YB,run_equalIn_string w d t _ _ (Tok.s h),e1,e2]
 |sl e=>simp[Ty.cmp]at hf
 |u=>
  obtain⟨fs,hfs,hfo⟩:=Tok.struct rfl h
  have hfs0:fs.toList=[]:=by
   cases hq:fs.toList with
   |nil=>rfl
   |cons a r=>rw[hq]at hfo;simp[Yg]at hfo
  have:fs= #[]:=by apply Array.ext';simpa using hfs0
  subst this
  have hst:P.stoodInHeld t=false:=by
   have h':=h
   simp only[Ie,jd,yl]at h'
   exact h'.1.2
  simp[Me,Ty.isAgg,YB,Op.equalIn,run_underlying hfs,qo,hst]
 |p a b'=>
  have ha:(Ty.p a b').isAgg=true:=rfl
  obtain⟨fs,hfs,hfo⟩:=Tok.struct ha h
  have hst:P.stoodInHeld t=false:=by
   have h':=h
   simp only[Ie,jd,yl]at h'
   exact h'.1.2.1
  have hfo':P.fieldsOf t=fs:=by simp[Program.fieldsOf,hfs]
  have hvx:Me (Ty.p a b') cs=.agg cs.toArray:=by simp[Me,ha]
  have hvy:Me (Ty.p a b') ds=.agg ds.toArray:=by simp[Me,ha]
  rw[hvx,hvy,run_equalIn_agg w d t _ _ (by rw[hfo'];exact hfs) hst,hfo']
  refine hF x y fs.toList 0 d _ _ O hf ha hfo hd ?_ ?_ (by simpa using Nat.le_of_eq lx.symm) (by simpa using Nat.le_of_eq ly.symm)
  ·simpa[Ae,←lx]using hx
  ·simpa[Ae,←ly]using hy
theorem Aaq(d:Nat){t:TypeId}{xs ys:Array Value}(hfs:P.underlying t=some (.struct #[])):(Op.eqGuardIn (d+1) t (.agg xs) (.agg ys)).run P w=.ok false w:=by
 simp[Op.eqGuardIn,run_underlying hfs]
theorem eqF:∀{τ:Ty} (x y:T τ) (fs:List Field) (o d:Nat) (xs ys:Array Value) (O:Nat→Prop),τ.cmp=true→τ.isAgg=true→Yg P τ fs o=true→τ.cnt≤d+1→
 Wa w O τ x (Ae xs o τ.size)→Wa w O τ y (Ae ys o τ.size)→o+τ.size≤xs.size→o+τ.size≤ys.size→(Op.eqFields d xs ys fs).run P w=.ok (YB τ x y) w
 |.u,x,y,fs,o,d,xs,ys,O,_,_,hfo,_,_,_,_,_=>by
  cases fs with
  |nil=>simp[Op.eqFields,YB]
  |cons a r=>simp[Yg]at hfo
 |.p a c2,x,y,fs,o,d,xs,ys,O,hf,_,hfo,hd,hx,hy,hxs,hys=>by
  cases fs with
  |nil=>simp[Yg]at hfo
  |cons f r=>
   simp only[Yg,jd,bne_iff_ne,ne_eq]at hfo
   obtain⟨⟨⟨hfo0,hname⟩,hta⟩,hfr⟩:=hfo
   have hoff:=ju hfo0
   simp only[Ty.cmp,jd]at hf
   simp only[Ty.size]at hx hy hxs hys
   simp only[Ty.cnt]at hd
   obtain⟨c1,c2,hc,hc1,hc2⟩:=hx
   obtain⟨e1,e2,hec,he1,he2⟩:=hy
   rw[Gar _ _ _ _ (by omega)]at hc hec
   have hc':=List.append_inj hc (by rw[De (by omega),Wa.length hc1])
   have he':=List.append_inj hec (by rw[De (by omega),Wa.length he1])
   obtain⟨q1,q2⟩:=hc'
   obtain⟨q3,q4⟩:=he'
   subst q1;subst q2;subst q3;subst q4
   have p1:=Eaa (w:=w) hta (xs:=xs) (o:=o) (by omega)
   have p2:=Eaa (w:=w) hta (xs:=ys) (o:=o) (by omega)
   have hI:=Jai (P:=P) (w:=w) (τ:=a) (fun x y=>eqF x y) hta hf.1 (d:=d) (by omega) hc1 he1
   simp only[Op.eqFields,hname,not_false_eq_true,if_true,ne_eq,qo,hoff,p1,p2,hI,qn,YB]
   cases hq:YB a x.1 y.1 with
   |false=>simp
   |true=>
    simp only[jg,jq,if_false,jk]
    have hb:c2.isAgg=true:=by
     cases c2 with
     |p _ _=>rfl
     |u=>rfl
     |_=>simp[Yg]at hfr
    exact eqF x.2 y.2 r (o+a.size) d xs ys O hf.2 hb hfr (by omega) hc2 he2 (by omega) (by omega)
 |.i _,_,_,_,_,_,_,_,_,_,ha,_,_,_,_,_,_=>by simp[Ty.isAgg]at ha
 |.b,_,_,_,_,_,_,_,_,_,ha,_,_,_,_,_,_=>by simp[Ty.isAgg]at ha
 |.o,_,_,_,_,_,_,_,_,_,ha,_,_,_,_,_,_=>by simp[Ty.isAgg]at ha
 |.mp _ _,_,_,_,_,_,_,_,_,_,ha,_,_,_,_,_,_=>by simp[Ty.isAgg]at ha
 |.s,_,_,_,_,_,_,_,_,_,ha,_,_,_,_,_,_=>by simp[Ty.isAgg]at ha
 |.sl _,_,_,_,_,_,_,_,_,_,ha,_,_,_,_,_,_=>by simp[Ty.isAgg]at ha
theorem Ear{τ:Ty}{t:TypeId}(h:Ie P τ t=true)(hf:τ.cmp=true)(hc:τ.cnt≤9000){x y:T τ}{cs ds:List Value}{O:Nat→Prop}(hx:Wa w O τ x cs)(hy:Wa w O τ y ds):
 (Op.equalIn 10000 t (Me τ cs) (Me τ ds)).run P w=.ok (YB τ x y) w:=
 Jai (fun x y=>eqF x y) h hf (by omega) hx hy
theorem Caw{τ:Ty}{t:TypeId}(h:Ie P τ t=true)(ha:τ.isAgg=true)(hf:τ.cmp=true)(op:BinOp)(X Y:Operand)(xs ys:Array Value):
 (eqGuard op t X Y (.agg xs) (.agg ys)).run P w=.ok () w:=by
 cases τ with
 |p a c2=>
  refine run_eqGuard_agg w op t X Y xs ys ?_
  simp only[Ie,jd,qx,yl]at h
  have:=h.1.2.2
  simp only[Ty.cmp,jd]at hf
  simpa[hf]using this
 |u=>
  obtain⟨fs,hfs,hfo⟩:=Tok.struct ha h
  have hfs0:fs.toList=[]:=by
   cases hq:fs.toList with
   |nil=>rfl
   |cons a r=>rw[hq]at hfo;simp[Yg]at hfo
  have:fs= #[]:=by apply Array.ext';simpa using hfs0
  subst this
  by_cases hg:P.eqGuardType P.depth t=false
  ·exact run_eqGuard_agg w op t X Y xs ys hg
  ·simp only[Bool.not_eq_false]at hg
   have hgn:=Aaq (P:=P) (w:=w) 9999 (xs:=xs) (ys:=ys) hfs
   have:Op.maxDepth=9999+1:=rfl
   cases op<;>simp[eqGuard,run_program,hg,this,hgn]
 |_=>simp[Ty.isAgg]at ha
end
section
variable{P:Program} {Out:Type} {n0:Nat} {A:Fx} {O0:Nat→Prop} {w0 w w':World} {s:AS} {σ σ':Nat→Value} {φ φ':Nat→List Nat} {a:Act}
variable{o:Oper} {Q:Exit→Act→World→Prop} {k:AS→Option Out} {out:Out} {d:D} {v:Value} {upd:List (Nat×Option Ka)} {dst:Option Tmp} {G:Sf}
theorem Bav(hG:EnvTy P G)(h:Db n0 A O0 w0 s σ φ a w){op:BinOp}{t t':TypeId}{x y:Operand}(ho:o.op=.binOp op t x y t')
 (he:Ig G s o k=some out):o.wp P a w (Nf n0 A O0 w0 k out) Q:=by
 by_cases hagg:∀u,s.ev x=some u→u.isAgg=false
 ·exact Say hG h ho hagg he
 ·simp only[Ig,Hc,ho]at he
  split at he
  ·rename_i u v hu hv
   have hua:u.isAgg=true:=by
    cases hq:u.isAgg with
    |true=>rfl
    |false=>exact absurd (fun u' hu'=>by rw[hu]at hu';simp at hu';subst hu';exact hq) hagg
   rw[hua]at he
   simp only[zg]at he
   split at he
   ·rename_i τ hty
    split at he
    ·rename_i p q hp hq
     cases hc:(τ.cmp&&τ.isAgg&&jx τ.cnt 9000)with
     |false=>rw[hc]at he;simp at he
     |true=>
      rw[hc]at he
      simp only[zg]at he
      simp only[jd]at hc
      have hcnt:=q6 hc.2
      obtain⟨s1,v1⟩:=Qi (w:=w) (O:=OO O0 s φ) (hp:=s.heap) (σ:=σ) hp
      obtain⟨s2,v2⟩:=Qi (w:=w) (O:=OO O0 s φ) (hp:=s.heap) (σ:=σ) hq
      obtain⟨r1,e1⟩:=Qf s1 (h.ev hu)
      obtain⟨r2,e2⟩:=Qf s2 (h.ev hv)
      have hrun:=Ear (P:=P) (hG.ty _ _ hty) hc.1.1 hcnt (v1 _ r1) (v2 _ r2)
      have g1:Me τ (a.eval x).cells.toList=.agg (a.eval x).cells.toList.toArray:=by simp[Me,hc.1.2]
      have g2:Me τ (a.eval y).cells.toList=.agg (a.eval y).cells.toList.toArray:=by simp[Me,hc.1.2]
      have hgd:=fun op=>Caw (P:=P) (w:=w) (hG.ty _ _ hty) hc.1.2 hc.1.1 op x y (a.eval x).cells.toList.toArray (a.eval y).cells.toList.toArray
      rw[g1,g2]at hrun
      rw[g1]at e1
      rw[g2]at e2
      split at he
      ·refine Ec (w':=w) (v:=.bool (YB τ p q)) ?_ (Pc h (Xk.2 rfl) he)
       simp only[execOp,ho]
       rw[e1,e2]
       simp only[qo,hgd,qn,run_eql_struct,hrun,Sem.run_pure]
      ·refine Ec (w':=w) (v:=.bool (!YB τ p q)) ?_ (Pc h (Xk.2 rfl) he)
       simp only[execOp,ho]
       rw[e1,e2]
       simp only[qo,hgd,qn,run_neq_struct,hrun,Sem.run_pure]
      ·simp at he
    ·simp at he
   ·simp at he
  ·simp at he
end
theorem Wa.one{w:World}{O:Nat→Prop}:∀{τ:Ty} {x:T τ} {cs:List Value},Wa w O τ x cs→∀v∈cs,v.oneCell'=true
 |.i _,_,_,h,v,hv=>by simp only[Wa]at h;subst h;simp at hv;subst hv;rfl
 |.b,_,_,h,v,hv=>by simp only[Wa]at h;subst h;simp at hv;subst hv;rfl
 |.o,_,_,h,v,hv=>by simp only[Wa]at h;subst h;simp at hv;subst hv;rfl
 |.mp _ _,_,_,h,v,hv=>by obtain⟨h,_⟩|⟨r,es,clk,h,_⟩:=h<;>(subst h;simp at hv;subst hv;rfl)
 |.s,_,_,h,v,hv=>by simp only[Wa]at h;subst h;simp at hv;subst hv;rfl
 |.sl _,_,_,h,v,hv=>by obtain⟨a,cap,h,_⟩:=h;subst h;simp at hv;subst hv;rfl
 |.u,_,_,h,v,hv=>by simp only[Wa]at h;subst h;simp at hv
 |.p x y,_,_,h,v,hv=>by
  obtain⟨c1,c2,h,h1,h2⟩:=h
  subst h
  rcases jl.1 hv with hv|hv
  ·exact Wa.one h1 v hv
  ·exact Wa.one h2 v hv
theorem Ic.one{w:World}:∀{τ:Ty} {x:T τ} {cs:List Value} {F:List Nat},Ic w τ x cs F→∀v∈cs,v.oneCell'=true
 |.i _,_,_,_,h,v,hv=>by simp only[Ic]at h;rw[h.1]at hv;simp at hv;subst hv;rfl
 |.b,_,_,_,h,v,hv=>by simp only[Ic]at h;rw[h.1]at hv;simp at hv;subst hv;rfl
 |.o,_,_,_,h,v,hv=>by simp only[Ic]at h;rw[h.1]at hv;simp at hv;subst hv;rfl
 |.mp _ _,_,_,_,h,v,hv=>by obtain⟨h,_⟩|⟨r,es,clk,Fs,h,_⟩:=h<;>(subst h;simp at hv;subst hv;rfl)
 |.s,_,_,_,h,v,hv=>by simp only[Ic]at h;rw[h.1]at hv;simp at hv;subst hv;rfl
 |.sl _,_,_,_,h,v,hv=>by
  obtain⟨_,⟨h,_⟩|⟨_,_,_,_,_,_,h,_⟩⟩:=h<;>(subst h;simp at hv;subst hv;rfl)
 |.u,_,_,_,h,v,hv=>by simp only[Ic]at h;rw[h.1]at hv;simp at hv
 |.p x y,_,_,_,h,v,hv=>by
  obtain⟨c1,c2,F1,F2,h,_,h1,h2⟩:=h
  subst h
  rcases jl.1 hv with hv|hv
  ·exact Ic.one h1 v hv
  ·exact Ic.one h2 v hv
theorem Kb.one{w:World}{O:Nat→Prop}{hp:Nat→Option Ka}{σ:Nat→Value}:∀{d:D} {cs:List Value},Kb w O hp σ d cs→∀v∈cs,v.oneCell'=true
 |.und,_,h,_,_=>by simp[Kb]at h
 |.anyv,_,h,_,_=>by simp[Kb]at h
 |.t τ x,_,h,v,hv=>Wa.one h v hv
 |.nil,_,h,v,hv=>by simp only[Kb]at h;subst h;simp at hv;subst hv;rfl
 |.own _,_,h,v,hv=>by obtain⟨u,h,h1,_⟩:=h;subst h;simp at hv;subst hv;exact h1
 |.mpo _,_,h,v,hv=>by obtain⟨u,h,h1,_⟩:=h;subst h;simp at hv;subst hv;exact h1
 |.cut _ _ _,_,h,v,hv=>by obtain⟨u,h,h1,_⟩:=h;subst h;simp at hv;subst hv;exact h1
 |.ptr _ _,_,h,v,hv=>by obtain⟨u,h,h1,_⟩:=h;subst h;simp at hv;subst hv;exact h1
 |.eptr _ _ _,_,h,v,hv=>by obtain⟨u,h,h1,_⟩:=h;subst h;simp at hv;subst hv;exact h1
 |.rp _ _,_,h,v,hv=>by obtain⟨b,off,cur,et,fr,h,_⟩:=h;subst h;simp at hv;subst hv;rfl
 |.pr a b,_,h,v,hv=>by
  obtain⟨c1,c2,h,h1,h2⟩:=h
  subst h
  rcases jl.1 hv with hv|hv
  ·exact Kb.one h1 v hv
  ·exact Kb.one h2 v hv
 |.un,_,h,v,hv=>by simp only[Kb]at h;subst h;simp at hv
 |.tup _,_,h,_,_=>by simp[Kb]at h
theorem LS{c1 c2 ce:List Value}{o:Nat}(h:o+ce.length≤c1.length):Jc (c1++c2) o ce=Jc c1 o ce++c2:=by
 unfold Jc
 rw[List.take_append_of_le_length (by omega),List.drop_append_of_le_length h]
 simp[q0]
theorem HV{cs ce:List Value}(h:ce.length=cs.length):Jc cs 0 ce=ce:=by
 unfold Jc
 rw[List.drop_eq_nil_of_le (by omega)]
 simp
theorem ZC{cur:Array Value}{o n o':Nat}{ce:List Value}(h1:o+n≤cur.size)(h2:o'+ce.length≤n):
 Ae (Jc cur.toList (o+o') ce).toArray o n=Jc (Ae cur o n) o' ce:=by
 have hl:(Ae cur o n).length=n:=De h1
 have hs:(Jc cur.toList (o+o') ce).length=cur.size:=by rw[Yh (by simp;omega)];simp
 apply qp
 intro j
 rw[Jk (by omega)]
 by_cases hj:j<n
 ·rw[Ag _ _ _ _ hj,List.getElem?_toArray,Jk (by simp;omega),Ag _ _ _ _ hj]
  by_cases c1:j<o'
  ·rw[if_pos (by omega),if_pos c1];simp
  ·rw[if_neg (by omega),if_neg c1]
   by_cases c2:j<o'+ce.length
   ·rw[if_pos (by omega),if_pos c2];congr 1;omega
   ·rw[if_neg (by omega),if_neg c2];simp
 ·rw[qt (by rw[De (by simpa[hs]using h1)];omega),if_neg (by omega),if_neg (by omega),qt (by omega)]
theorem XH{cur:Array Value}{o p m:Nat}{ce:List Value}(h:o+ce.length≤cur.size)(hm:p+m≤cur.size)(hd:p+m≤o∨o+ce.length≤p):
 Ae (Jc cur.toList o ce).toArray p m=Ae cur p m:=by
 have hs:(Jc cur.toList o ce).length=cur.size:=by rw[Yh (by simpa using h)];simp
 apply qp
 intro j
 by_cases hj:j<m
 ·rw[Ag _ _ _ _ hj,List.getElem?_toArray,Jk (by simpa using h),Ag _ _ _ _ hj]
  by_cases c1:p+j<o
  ·rw[if_pos c1];simp
  ·rw[if_neg c1,if_neg (by omega)];simp
 ·rw[qt (by rw[De (by simpa[hs]using hm)];omega),qt (by rw[De hm];omega)]
theorem YX{w:World}{O:Nat→Prop}:∀{e:Ty} {x x':T e} {p:List Nat} {τ:Ty} {y:T τ} {cs ce:List Value},Ni e x p τ y=some x'→Rf e p=some τ→
 Wa w O e x cs→Wa w O τ y ce→Wa w O e x' (Jc cs (Yb e p) ce)
 |e,x,x',[],τ,y,cs,ce,hs,ht,hx,hy=>by
  unfold Ni at hs
  split at hs
  ·rename_i q hq
   subst q
   simp only[jc]at hs
   subst hs
   have l1:=Wa.length hx
   have l2:=Wa.length hy
   simp only[Yb]
   rw[HV (by omega)]
   exact hy
  ·simp at hs
 |.p a b',x,x',0::p,τ,y,cs,ce,hs,ht,hx,hy=>by
  simp only[Ni]at hs
  split at hs
  ·rename_i u hu
   simp only[jc]at hs
   subst hs
   obtain⟨c1,c2,hc,h1,h2⟩:=hx
   subst hc
   have ht':Rf a p=some τ:=by simpa[Rf,Za]using ht
   have hle:=Pj ht'
   have ih:=YX hu ht' h1 hy
   have l1:=Wa.length h1
   have l2:=Wa.length hy
   have ho:Yb (.p a b') (0::p)=Yb a p:=by simp[Yb,Ld,Za]
   rw[ho,LS (by omega)]
   exact⟨_,_,rfl,ih,h2⟩
  ·simp at hs
 |.p a b',x,x',(n+1)::p,τ,y,cs,ce,hs,ht,hx,hy=>by
  simp only[Ni]at hs
  split at hs
  ·rename_i u hu
   simp only[jc]at hs
   subst hs
   obtain⟨c1,c2,hc,h1,h2⟩:=hx
   subst hc
   have ht':Rf b' (n::p)=some τ:=by simpa[Rf,Za]using ht
   have ih:=YX hu ht' h2 hy
   have l1:=Wa.length h1
   have ho:Yb (.p a b') ((n+1)::p)=c1.length+Yb b' (n::p):=by simp[Yb,Ld,Za,l1,jt]
   rw[ho,FH]
   exact⟨_,_,rfl,h1,ih⟩
  ·simp at hs
 |.i _,_,_,_::_,_,_,_,_,hs,_,_,_=>by simp[Ni]at hs
 |.b,_,_,_::_,_,_,_,_,hs,_,_,_=>by simp[Ni]at hs
 |.o,_,_,_::_,_,_,_,_,hs,_,_,_=>by simp[Ni]at hs
 |.mp _ _,_,_,_::_,_,_,_,_,hs,_,_,_=>by simp[Ni]at hs
 |.s,_,_,_::_,_,_,_,_,hs,_,_,_=>by simp[Ni]at hs
 |.sl _,_,_,_::_,_,_,_,_,hs,_,_,_=>by simp[Ni]at hs
 |.u,_,_,_::_,_,_,_,_,hs,_,_,_=>by simp[Ni]at hs
theorem Y2{w:World}:∀{e:Ty} {x x':T e} {p:List Nat} {τ:Ty} {y:T τ} {cs ce:List Value} {F Fy:List Nat},Ni e x p τ y=some x'→Rf e p=some τ→
 Ic w e x cs F→Ic w τ y ce Fy→∃F1 F2 F3,F=F1++F2++F3∧Ic w e x' (Jc cs (Yb e p) ce) (F1++Fy++F3)
 |e,x,x',[],τ,y,cs,ce,F,Fy,hs,ht,hx,hy=>by
  unfold Ni at hs
  split at hs
  ·rename_i q hq
   subst q
   simp only[jc]at hs
   subst hs
   have l1:=Ic.length hx
   have l2:=Ic.length hy
   simp only[Yb]
   rw[HV (by omega)]
   exact⟨[],F,[],by simp,by simpa using hy⟩
  ·simp at hs
 |.p a b',x,x',0::p,τ,y,cs,ce,F,Fy,hs,ht,hx,hy=>by
  simp only[Ni]at hs
  split at hs
  ·rename_i u hu
   simp only[jc]at hs
   subst hs
   obtain⟨c1,c2,Fa,Fb,hc,hF,h1,h2⟩:=hx
   subst hc
   subst hF
   have ht':Rf a p=some τ:=by simpa[Rf,Za]using ht
   have hle:=Pj ht'
   obtain⟨F1,F2,F3,e1,ih⟩:=Y2 hu ht' h1 hy
   have l1:=Ic.length h1
   have l2:=Ic.length hy
   have ho:Yb (.p a b') (0::p)=Yb a p:=by simp[Yb,Ld,Za]
   rw[ho,LS (by omega)]
   exact⟨F1,F2,F3++Fb,by simp[e1],_,_,F1++Fy++F3,Fb,rfl,by simp,ih,h2⟩
  ·simp at hs
 |.p a b',x,x',(n+1)::p,τ,y,cs,ce,F,Fy,hs,ht,hx,hy=>by
  simp only[Ni]at hs
  split at hs
  ·rename_i u hu
   simp only[jc]at hs
   subst hs
   obtain⟨c1,c2,Fa,Fb,hc,hF,h1,h2⟩:=hx
   subst hc
   subst hF
   have ht':Rf b' (n::p)=some τ:=by simpa[Rf,Za]using ht
   obtain⟨F1,F2,F3,e1,ih⟩:=Y2 hu ht' h2 hy
   have l1:=Ic.length h1
   have ho:Yb (.p a b') ((n+1)::p)=c1.length+Yb b' (n::p):=by simp[Yb,Ld,Za,l1,jt]
   rw[ho,FH]
   exact⟨Fa++F1,F2,F3,by simp[e1],_,_,Fa,F1++Fy++F3,rfl,by simp,h1,ih⟩
  ·simp at hs
 |.i _,_,_,_::_,_,_,_,_,_,_,hs,_,_,_=>by simp[Ni]at hs
 |.b,_,_,_::_,_,_,_,_,_,_,hs,_,_,_=>by simp[Ni]at hs
 |.o,_,_,_::_,_,_,_,_,_,_,hs,_,_,_=>by simp[Ni]at hs
 |.mp _ _,_,_,_::_,_,_,_,_,_,_,hs,_,_,_=>by simp[Ni]at hs
 |.s,_,_,_::_,_,_,_,_,_,_,hs,_,_,_=>by simp[Ni]at hs
 |.sl _,_,_,_::_,_,_,_,_,_,_,hs,_,_,_=>by simp[Ni]at hs
 |.u,_,_,_::_,_,_,_,_,_,_,hs,_,_,_=>by simp[Ni]at hs
section
variable{P:Program} {Out:Type} {n0:Nat} {A:Fx} {O0:Nat→Prop} {w0 w w':World} {s:AS} {σ σ':Nat→Value} {φ φ':Nat→List Nat} {a:Act}
variable{o:Oper} {Q:Exit→Act→World→Prop} {k:AS→Option Out} {out:Out} {d:D} {v:Value} {upd:List (Nat×Option Ka)} {dst:Option Tmp} {G:Sf}
theorem Db.turn(h:Db n0 A O0 w0 s σ φ a w){id:Nat}{blk0 Ga:Ka}(hid:s.heap id=some blk0)(hlike:blk0.like Ga)(l:List Nat)
 (hlive:∀j,j∈l→∃b,s.heap j=some b) (_hl:id∉l) (F:List Nat)
 (hs:w.heap.size≤w'.heap.size) (hb:∀b,b<w.heap.size→b∉φ id→(∀j,j∈l→b∉φ j)→w'.heap[b]?=w.heap[b]?)
 (hos:w'.os=w.os) (htape:w'.tape=w.tape) (hout:w'.output=w.output) (hF:F.Nodup) (hFn:∀b,b∈F→w.heap.size≤b∨b∈φ id∨∃j,j∈l∧b∈φ j)
 (hrep:∀(hp':Nat→Option Ka) (O':Nat→Prop),(∀b,b<w.heap.size→¬OO O0 s φ b→¬O' b)→(∀j,Cp s.heap hp' σ σ j)→
  Gd w' O' hp' σ id Ga F)
 (hq:∀kk e xs,Ga=.mq kk e xs→Shr w' n0 (OO O0 ⟨s.n,s.tm,(id,some Ga)::(Ed l++s.hp)⟩ (Di φ id F)) (σ id) kk e xs:=by intro _ _ _ h;cases h):
 Db n0 A O0 w0 ⟨s.n,s.tm,(id,some Ga)::(Ed l++s.hp)⟩ σ (Di φ id F) a w':=by
 have hOO:∀b,b<w.heap.size→¬OO O0 s φ b→¬OO O0 ⟨s.n,s.tm,(id,some Ga)::(Ed l++s.hp)⟩ (Di φ id F) b:=by
  rintro b hlt hno (ho|⟨j,blk',hl,hm⟩)
  ·exact hno (.inl ho)
  ·rw[He]at hl
   by_cases hj:j=id
   ·subst hj
    rw[Qe]at hm
    rcases hFn b hm with hge|hm'|⟨j',hj',hm'⟩
    ·omega
    ·exact hno (.inr ⟨j,blk0,hid,hm'⟩)
    ·obtain⟨b',hb'⟩:=hlive j' hj'
     exact hno (.inr ⟨j',b',hb',hm'⟩)
   ·rw[if_neg hj]at hl
    split at hl
    ·simp at hl
    ·rw[Yl _ _ hj]at hm
     exact hno (.inr ⟨j,blk',hl,hm⟩)
 have hcp:∀j,Cp s.heap (AS.heap ⟨s.n,s.tm,(id,some Ga)::(Ed l++s.hp)⟩) σ σ j:=by
  intro j blk' hj
  rw[He]at hj
  by_cases hji:j=id
  ·subst hji
   rw[if_pos rfl]at hj
   simp only[jc]at hj
   subst hj
   exact⟨blk0,hid,hlike,rfl⟩
  ·rw[if_neg hji]at hj
   split at hj
   ·simp at hj
   ·exact⟨blk',hj,Ka.like_refl _,rfl⟩
 refine h.trans (fun j=>j=id∨j∈l) rfl rfl ?_ ?_ hs ?_ ?_ ?_ ?_ hos htape hout (fun _ _=>.inl rfl) ?_
 ·intro j hj
  simp only[not_or]at hj
  exact⟨by rw[He,if_neg hj.1,if_neg hj.2],rfl,Yl _ _ hj.1⟩
 ·intro b hlt hno
  refine hb b hlt (fun hm=>hno id blk0 (.inl rfl) hid hm) fun j hj hm=>?_
  obtain⟨b',hb'⟩:=hlive j hj
  exact hno j b' (.inr hj) hb' hm
 ·intro j blk' ht hl b hbm
  rw[He]at hl
  by_cases hj:j=id
  ·subst hj
   rw[Qe]at hbm
   rcases hFn b hbm with hge|hm'|⟨j',hj',hm'⟩
   ·exact .inl hge
   ·exact .inr ⟨j,blk0,.inl rfl,hid,hm'⟩
   ·obtain⟨b',hb'⟩:=hlive j' hj'
    exact .inr ⟨j',b',.inr hj',hb',hm'⟩
  ·rw[if_neg hj,if_pos (ht.resolve_left hj)]at hl
   simp at hl
 ·intro j blk' ht hl _
  exact hcp j blk' hl
 ·intro j blk' ht hl
  rw[He]at hl
  by_cases hj:j=id
  ·subst hj
   rw[if_pos rfl]at hl
   simp only[jc]at hl
   subst hl
   rw[Qe]
   exact⟨hrep _ _ hOO hcp,hF⟩
  ·rw[if_neg hj,if_pos (ht.resolve_left hj)]at hl
   simp at hl
 ·intro j j' b1 b2 ht ht' hne hl hl'
  rw[He]at hl hl'
  have e1:j=id:=by
   by_cases hj:j=id
   ·exact hj
   ·rw[if_neg hj,if_pos (ht.resolve_left hj)]at hl;simp at hl
  have e2:j'=id:=by
   by_cases hj:j'=id
   ·exact hj
   ·rw[if_neg hj,if_pos (ht'.resolve_left hj)]at hl';simp at hl'
  exact absurd (e1.trans e2.symm) hne
 ·intro j kk e xs ht hl
  rw[He]at hl
  by_cases hj:j=id
  ·rw[if_pos hj]at hl
   simp only[jc]at hl
   rw[hj]
   exact hq kk e xs hl
  ·rw[if_neg hj,if_pos (ht.resolve_left hj)]at hl
   simp at hl
theorem C8{id:Nat}{e:Ty}{xs:List (T e)}{O:Nat→Prop}{hp:Nat→Option Ka}{F:List Nat}(h:Ic w (.sl e) xs [σ id] F)(hf:e.flat=true):
 Gd w O hp σ id (.row e false xs) F:=by
 obtain⟨hm,⟨h1,h2,h3⟩|⟨bl,off,cap,cur,et,Fs,h1,hh,h2,h3,h4,hF,hl,hv⟩⟩:=h
 ·simp only[yi,and_true]at h1
  exact⟨hm,.inl ⟨h1,h2,h3⟩⟩
 ·simp only[yi,and_true]at h1
  have hnil:∀i,i<Fs.length→Fs.getD i []=[]:=fun i hi=>Tz hf (hv i (by omega))
  have hfl:Fs.flatten=[]:=by
   rw[List.flatten_eq_nil_iff]
   intro l hl'
   obtain⟨i,hi,rfl⟩:=List.mem_iff_getElem.1 hl'
   have:=hnil i hi
   simpa[qs,hi]using this
  refine⟨hm,.inr ⟨bl,off,cap,cur,et,h1,hh,h2,h3,h4,by rw[hF,hfl],fun i hi=>?_⟩⟩
  have:=hv i hi
  rw[hnil i (by omega)]at this
  exact this.view (by simp)
theorem LL{Fs:List (List Nat)}{i:Nat}(hi:i<Fs.length)(X:List Nat):
 Fs.flatten=(Fs.take i).flatten++Fs.getD i []++(Fs.drop (i+1)).flatten∧(Fs.set i X).flatten=(Fs.take i).flatten++X++(Fs.drop (i+1)).flatten:=by
 have h1:Fs=Fs.take i++Fs.getD i []::Fs.drop (i+1):=by
  have:Fs.getD i []=Fs[i]:=by simp[qs,hi]
  rw[this,List.getElem_cons_drop hi,List.take_append_drop]
 have h2:Fs.set i X=Fs.take i++X::Fs.drop (i+1):=by rw[List.set_eq_take_append_cons_drop];simp[hi]
 constructor
 ·conv=>lhs;rw[h1]
  simp
 ·rw[h2];simp
theorem Yav{e τ:Ty}{xs:List (T e)}{b off cap:Nat}{F Fy:List Nat}{i:Nat}{x x':T e}{y:T τ}{p:List Nat}{ce:List Value}{cur:Array Value}{et:TypeId}
 (hx:Ic w (.sl e) xs [.slice (some ⟨b,off,none⟩) (ja xs) cap] F) (hn:(F++Fy).Nodup) (hi:xs[i]?=some x) (hs:Ni e x p τ y=some x') (ht:Rf e p=some τ)
 (hy:Ic w τ y ce Fy) (hcur:w.heap[b]?=some (.cells cur et (0,0))):
 ∃F',Ic (w.setRow b (Jc cur.toList (off+i*e.size+Yb e p) ce).toArray) (.sl e) (j5 xs i x') [.slice (some ⟨b,off,none⟩) (ja xs) cap] F'∧F'.Nodup∧
  (∀c,c∈F'→c∈F∨c∈Fy):=by
 obtain⟨hm,⟨h1,_⟩|⟨bl,off',cap',cur',et',Fs,h1,hh,h2,h3,h4,hF,hl,hv⟩⟩:=hx
 ·simp at h1
 ·simp at h1
  obtain⟨⟨rfl,rfl⟩,rfl⟩:=h1
  rw[hcur]at hh
  simp only[jc,Obj.cells.injEq]at hh
  obtain⟨rfl,rfl,_⟩:=hh
  have hil:i<ja xs:=(q8.1 hi).1
  have hxe:List.get xs ⟨i,hil⟩=x:=by simpa[je hil]using hi
  have hle:=Pj ht
  have hyl:=Ic.length hy
  have hcap:=jm e.size h2
  have hlt:(i+1)*e.size≤ja xs*e.size:=jm _ hil
  rw[yf,Nat.one_mul]at hlt
  have hoi:=hv i hil
  rw[hxe]at hoi
  have hbF:b∉Fs.flatten∧b∉Fy:=by
   rw[hF]at hn
   simp only[yh,ym,jl,not_or]at hn
   exact hn.1
  have hst:∀c,c≠b→(w.setRow b (Jc cur.toList (off+i*e.size+Yb e p) ce).toArray).heap[c]?=w.heap[c]?:=fun c hc=>setRow_other w b c _ hc
  have hoi':=hoi.stable (w':=w.setRow b (Jc cur.toList (off+i*e.size+Yb e p) ce).toArray) fun c hc=>hst c fun e=>hbF.1 (e▸Xf hc)
  have hy':=hy.stable (w':=w.setRow b (Jc cur.toList (off+i*e.size+Yb e p) ce).toArray) fun c hc=>hst c fun e=>hbF.2 (e▸hc)
  obtain⟨F1,F2,F3,hFi,hown⟩:=Y2 hs ht hoi' hy'
  have hiF:i<Fs.length:=by omega
  obtain⟨g1,g2⟩:=LL hiF (F1++Fy++F3)
  refine⟨b::(Fs.set i (F1++Fy++F3)).flatten,⟨by simpa using hm,.inr ⟨b,off,cap,_,et,_,by simp,setRow_heap w b cur _ et (0,0) hcur,by simpa using h2,h3,?_,rfl,by simpa using hl,?_⟩⟩,?_,?_⟩
  ·rw[yo,Yh (by simp;omega)]
   simpa using h4
  ·intro j hj
   have hjl:j<ja xs:=by simpa using hj
   by_cases hji:j=i
   ·subst hji
    have e1:List.get (j5 xs j x') ⟨j,hj⟩=x':=by simp
    have e2:(Fs.set j (F1++Fy++F3)).getD j []=F1++Fy++F3:=by simp[qs,hiF]
    rw[e1,e2,ZC (by omega) (by omega)]
    exact hown
   ·have e1:List.get (j5 xs i x') ⟨j,hj⟩=List.get xs ⟨j,hjl⟩:=by simp[Ne.symm hji]
    have e2:(Fs.set i (F1++Fy++F3)).getD j []=Fs.getD j []:=by simp[qs,Ne.symm hji]
    have hjle:(j+1)*e.size≤ja xs*e.size:=jm _ hjl
    rw[yf,Nat.one_mul]at hjle
    rw[e1,e2,XH (by omega) (by omega) ?_]
    ·exact(hv j hjl).stable fun c hc=>hst c fun e=>hbF.1 (e▸Xf hc)
    ·rcases Nat.lt_or_gt_of_ne hji with hlt'|hlt'
     ·left
      have:=jm e.size hlt'
      rw[yq]at this
      omega
     ·right
      have:=jm e.size hlt'
      rw[yq]at this
      omega
  ·rw[g2]
   rw[hF,g1,hFi]at hn
   refine(List.Perm.nodup_iff (l₁:=b::((Fs.take i).flatten++(F1++Fy++F3)++(Fs.drop (i+1)).flatten)) (l₂:=(b::((Fs.take i).flatten++(F1++F3)++(Fs.drop (i+1)).flatten))++Fy) ?_).2 (List.Sublist.nodup ?_ hn)
   ·rw[List.perm_iff_count]
    intro c
    simp only[List.count_append,List.count_cons]
    omega
   ·refine List.Sublist.append (List.Sublist.cons_cons _ (List.Sublist.append (List.Sublist.append (List.Sublist.refl _) ?_) (List.Sublist.refl _))) (List.Sublist.refl _)
    exact List.Sublist.append (List.sublist_append_left _ _) (List.Sublist.refl _)
  ·intro c hc
   rw[g2]at hc
   rw[hF,g1,hFi]
   simp only[jp,jl]at hc⊢
   grind
end
section
variable{P:Program} {Out:Type} {n0:Nat} {A:Fx} {O0:Nat→Prop} {w0 w w':World} {s:AS} {σ σ':Nat→Value} {φ φ':Nat→List Nat} {a:Act}
variable{o:Oper} {Q:Exit→Act→World→Prop} {k:AS→Option Out} {out:Out} {d:D} {v:Value} {upd:List (Nat×Option Ka)} {dst:Option Tmp} {G:Sf}
theorem Xay(hG:EnvTy P G)(h:Db n0 A O0 w0 s σ φ a w){t:TypeId}{x y:Operand}(ho:o.op=.store t x y)
 (he:Ig G s o k=some out):o.wp P a w (Nf n0 A O0 w0 k out) Q:=by
 simp only[Ig,Hc,ho]at he
 split at he
 ·
  rename_i τ id path dv hty hx hy
  split at he
  ·rename_i ρ d hb
   split at he
   ·rename_i τ' d' ht hd
    split at he
    ·rename_i q hq
     obtain rfl:=Se hq
     cases hsb:Kd τ' dv with
     |false=>rw[hsb]at he;simp at he
     |true=>
      rw[hsb]at he
      simp only[zg]at he
      have hse:=Uq hsb
      have hv:=h.ev hx
      rw[Wz]at hv
      obtain⟨b,hσ,hv⟩:=hv.2 ρ d hb
      obtain⟨hs,b',cur,et,hσ',hh,hF,hr,hsz⟩:=h.hp id _ hb
      rw[hσ]at hσ'
      simp at hσ'
      subst hσ'
      obtain⟨hre,hve⟩:=Qf hse (h.ev hy)
      have hlen:=Kb.length hse hre
      have hle:=Pj ht
      have hl:=DH (w:=w) (hG.ty _ _ hty) hh (by omega:Yb ρ path+τ'.size≤cur.size) hlen (Kb.one hre)
      obtain⟨hsd,hrd⟩:=Kb.setAt (w:=w) (O:=OO O0 s φ) (hp:=s.heap) (σ:=σ) hs ht hse hd
      have hr':=hrd hr hre
      have hc:Db n0 A O0 w0 ⟨s.n,s.tm,(id,some (.box ρ d'))::(Ed []++s.hp)⟩ σ (Di φ id (φ id)) a (w.setRow b (Jc cur.toList (Yb ρ path) (a.eval y).cells.toList).toArray):=by
       refine h.turn (blk0:=.box ρ d) (Ga:=.box ρ d') hb rfl [] (by simp) (by simp) (φ id) (by simp) ?_ rfl rfl rfl (h.nodup _ _ hb) (fun c hc=>.inr (.inl hc)) ?_
       ·intro c _ hc _
        rw[hF]at hc
        exact setRow_other w b c _ (by simpa using hc)
       ·intro hp' O' hO hcp
        refine⟨hsd,b,_,et,hσ,setRow_heap w b cur _ et (0,0) hh,hF,?_,?_⟩
        ·refine Kb.stable ?_ hO d' _ (fun j _=>hcp j) (by simpa using hr')
         intro c hc _
         refine setRow_other w b c _ fun e=>hc (.inr ⟨id,_,hb,?_⟩)
         rw[hF,e];simp
        ·have:=Yh (cs:=cur.toList) (ce:=(a.eval y).cells.toList) (o:=Yb ρ path) (by rw[hlen];simp;omega)
         simpa[this]using hsz
      refine AL (w':=w.setRow b (Jc cur.toList (Yb ρ path) (a.eval y).cells.toList).toArray) ?_ (Jf rfl hc ?_ he)
      ·simp[execOp,ho,hv,Instr.storeAt,Instr.sureAddr,hl]
      ·exact BE.2 rfl
    ·simp at he
   ·simp at he
  ·simp at he
 ·
  rename_i τ id i path dv hty hx hy
  split at he
  ·rename_i e dp xs hb
   split at he
   ·rename_i τ' ht
    split at he
    ·rename_i q hq
     obtain rfl:=Se hq
     have hv:=h.ev hx
     rw[Am]at hv
     obtain⟨hi,b,off,cap,hσ,hv⟩:=hv.2 _ _ _ hb rfl
     have hle:=Pj ht
     cases hf:(dp||e.flat)with
     |true=>
      rw[hf]at he
      simp only[zg]at he
      split at he
      ·rename_i y' l hoT
       cases hck:((dp||l.isEmpty)&&Lg (id::l))with
       |false=>rw[hck]at he;simp at he
       |true=>
        rw[hck]at he
        simp only[zg]at he
        simp only[jd]at hck
        have hnd:=Mi hck.2
        cases hxi:xs[i]? with
        |none=>simp[hxi]at he
        |some x0=>
         simp only[hxi,jb]at he
         split at he
         ·rename_i x' hset
          have hse:=Sl hoT
          obtain⟨hre,hve⟩:=Qf hse (h.ev hy)
          have hlen:=Kb.length hse hre
          obtain⟨hoy,hlive⟩:=Er h hoT hre
          have hrow:=LZ (h.hp id _ hb) (by simpa using hf)
          rw[hσ]at hrow
          have hblk:∃cur et,w.heap[b]?=some (.cells cur et (0,0))∧off+cap*e.size≤cur.size∧ja xs≤cap∧b∈φ id:=by
           obtain⟨hm,⟨h1,_⟩|⟨bl,off',cap',cur',et',Fs,h1,hh,h2,h3,h4,hF,hl,_⟩⟩:=hrow
           ·simp at h1
           ·simp at h1
            obtain⟨⟨rfl,rfl⟩,rfl⟩:=h1
            exact⟨cur',et',hh,h4,h2,by rw[hF];simp⟩
          obtain⟨cur,et,hh,hsz,hnc,hbm⟩:=hblk
          have hlt:(i+1)*e.size≤cap*e.size:=jm _ (by omega)
          rw[yq]at hlt
          have hl:=DH (w:=w) (hG.ty _ _ hty) hh (by omega:off+i*e.size+Yb e path+τ'.size≤cur.size) hlen (Ic.one hoy)
          have hFF:(φ id++Ha φ l).Nodup:=by
           have:=Rg h hnd (by
            intro j hj
            rcases jp.1 hj with rfl|hj
            ·exact⟨_,hb⟩
            ·exact hlive j hj)
           simpa[Ha]using this
          obtain⟨F',hown',hF',hsub⟩:=Yav hrow hFF hxi hset ht hoy hh
          have hc:Db n0 A O0 w0 ⟨s.n,s.tm,(id,some (.row e dp (j5 xs i x')))::(Ed l++s.hp)⟩ σ (Di φ id F') a (w.setRow b (Jc cur.toList (off+i*e.size+Yb e path) (a.eval y).cells.toList).toArray):=by
           refine h.turn (blk0:=.row e dp xs) hb (by simp[Ka.like]) l hlive (ym.1 hnd).1 F' (by simp) ?_ rfl rfl rfl hF' ?_ ?_
           ·intro c _ hc _
            exact setRow_other w b c _ fun e=>hc (e▸hbm)
           ·intro c hc
            rcases hsub c hc with hc|hc
            ·exact .inr (.inl hc)
            ·exact .inr (.inr (Pb.1 hc))
           ·intro hp' O' _ _
            cases dp with
            |true=>simp only[Gd];rw[hσ];exact hown'
            |false=>exact C8 (by rw[hσ];exact hown') (by simpa using hf)
          refine AL (w':=w.setRow b (Jc cur.toList (off+i*e.size+Yb e path) (a.eval y).cells.toList).toArray) ?_ (Jf rfl hc ?_ he)
          ·simp[execOp,ho,hv,Instr.storeAt,Instr.sureAddr,hl]
          ·exact BE.2 rfl
         ·simp at he
      ·simp at he
     |false=>
      rw[hf]at he
      simp only[zh]at he
      split at he
      ·rename_i y' hoT
       cases hxi:xs[i]? with
       |none=>simp[hxi]at he
       |some x0=>
        simp only[hxi,jb]at he
        split at he
        ·rename_i x' hset
         obtain⟨hse,hvw⟩:=Qi (w:=w) (O:=OO O0 s φ) (hp:=s.heap) (σ:=σ) hoT
         obtain⟨hre,hve⟩:=Qf hse (h.ev hy)
         have hlen:=Kb.length hse hre
         have hvy:=hvw _ hre
         have hdp:dp=false:=by
          simp only[yt]at hf
          exact hf.1
         subst hdp
         have hrow:=h.hp id _ hb
         simp only[Gd,hσ]at hrow
         obtain⟨hm,⟨h1,_⟩|⟨bl,off',cap',cur,et,h1,hh,h2,h3,h4,hF,hvs⟩⟩:=hrow
         ·simp at h1
         ·simp at h1
          obtain⟨⟨rfl,rfl⟩,rfl⟩:=h1
          have hlt:(i+1)*e.size≤ja xs*e.size:=jm _ hi
          rw[yq]at hlt
          have hcap:=jm e.size h2
          have hl:=DH (w:=w) (hG.ty _ _ hty) hh (by omega:off+i*e.size+Yb e path+τ'.size≤cur.size) hlen (Wa.one hvy)
          have hxe:List.get xs ⟨i,hi⟩=x0:=by simpa[je hi]using hxi
          have hvi:=hvs i hi
          rw[hxe]at hvi
          have hnew:=YX hset ht hvi hvy
          have hc:Db n0 A O0 w0 ⟨s.n,s.tm,(id,some (.row e false (j5 xs i x')))::(Ed []++s.hp)⟩ σ (Di φ id (φ id)) a (w.setRow b (Jc cur.toList (off+i*e.size+Yb e path) (a.eval y).cells.toList).toArray):=by
           refine h.turn (blk0:=.row e false xs) hb (by simp[Ka.like]) [] (by simp) (by simp) (φ id) (by simp) ?_ rfl rfl rfl (h.nodup _ _ hb) (fun c hc=>.inr (.inl hc)) ?_
           ·intro c _ hc _
            rw[hF]at hc
            exact setRow_other w b c _ (by simpa using hc)
           ·intro hp' O' hO _
            have hst:∀{τ:Ty} {z:T τ} {cs:List Value},Wa w (OO O0 s φ) τ z cs→Wa (w.setRow b (Jc cur.toList (off+i*e.size+Yb e path) (a.eval y).cells.toList).toArray) O' τ z cs:=by
             intro τ z cs hz
             refine Wa.stable ?_ hO hz
             intro c hc _
             refine setRow_other w b c _ fun e=>hc (.inr ⟨id,_,hb,?_⟩)
             rw[hF,e];simp
            have hyl:=Wa.length hvy
            refine⟨by simpa using hm,.inr ⟨b,off,cap,_,et,by simpa using hσ,setRow_heap w b cur _ et (0,0) hh,by simpa using h2,h3,?_,hF,?_⟩⟩
            ·rw[yo,Yh (by have:cur.toList.length=cur.size:=Array.length_toList;omega)]
             simpa using h4
            ·intro j hj
             have hjl:j<ja xs:=by simpa using hj
             by_cases hji:j=i
             ·subst hji
              have e1:List.get (j5 xs j x') ⟨j,hj⟩=x':=by simp
              rw[e1,ZC (by omega) (by omega)]
              exact hst hnew
             ·have e1:List.get (j5 xs i x') ⟨j,hj⟩=List.get xs ⟨j,hjl⟩:=by simp[Ne.symm hji]
              have hjle:(j+1)*e.size≤ja xs*e.size:=jm _ hjl
              rw[yq]at hjle
              rw[e1,XH (by omega) (by omega) ?_]
              ·exact hst (hvs j hjl)
              ·rcases Nat.lt_or_gt_of_ne hji with hlt'|hlt'
               ·left
                have:=jm e.size hlt'
                rw[yq]at this
                omega
               ·right
                have:=jm e.size hlt'
                rw[yq]at this
                omega
          refine AL (w':=w.setRow b (Jc cur.toList (off+i*e.size+Yb e path) (a.eval y).cells.toList).toArray) ?_ (Jf rfl hc ?_ he)
          ·simp[execOp,ho,hv,Instr.storeAt,Instr.sureAddr,hl]
          ·exact BE.2 rfl
        ·simp at he
      ·simp at he
    ·simp at he
   ·simp at he
  ·
   rename_i e xs i0 x0 path0 τ0 d hb
   split at he
   ·rename_i τ' ht
    split at he
    ·rename_i q hq
     obtain rfl:=Se hq
     split at he
     ·rename_i y' l hoT
      cases hck:(Lg (id::l)&&(path==path0))with
      |false=>rw[hck]at he;simp at he
      |true=>
       rw[hck]at he
       simp only[zg]at he
       simp only[jd,beq_iff_eq]at hck
       obtain⟨hnd,hpp⟩:=hck
       subst hpp
       have hnd:=Mi hnd
       cases hbi:qw i i0 with
       |false=>rw[hbi]at he;simp at he
       |true=>
        rw[hbi]at he
        simp only[zg]at he
        have hii:=ju hbi
        subst hii
        split at he
        ·rename_i x' hset
         obtain⟨hsh,hxi,ht0,hlt,bl,off,cap,cur,et,hσ,hh,hbF,hsz,hrep,hwand⟩:=h.hp id _ hb
         have e1:τ0=τ':=by rw[ht0]at ht;simpa using ht
         subst e1
         have hv:=h.ev hx
         rw[Am]at hv
         obtain⟨hi,b,off',cap',hσ',hv⟩:=hv.2 _ _ _ hb rfl
         rw[hσ]at hσ'
         simp at hσ'
         obtain⟨⟨rfl,rfl⟩,rfl⟩:=hσ'
         have hle:=Pj ht
         have hse:=Sl hoT
         obtain⟨hre,hve⟩:=Qf hse (h.ev hy)
         have hlen:=Kb.length hse hre
         obtain⟨hoy,hlive⟩:=Er h hoT hre
         have hl:=DH (w:=w) (hG.ty _ _ hty) hh (by omega:off+i*e.size+Yb e path+τ0.size≤cur.size) hlen (Ic.one hoy)
         have hFF:(φ id++Ha φ l).Nodup:=by
          have:=Rg h hnd (by
           intro j hj
           rcases jp.1 hj with rfl|hj
           ·exact⟨_,hb⟩
           ·exact hlive j hj)
          simpa[Ha]using this
         have hnot:bl∉Ha φ l:=fun hm=>(yn.1 hFF).2.2 bl hbF bl hm rfl
         have hst:∀c,c≠bl→(w.setRow bl (Jc cur.toList (off+i*e.size+Yb e path) (a.eval y).cells.toList).toArray).heap[c]?=w.heap[c]?:=fun c hc=>setRow_other w bl c _ hc
         obtain⟨F',hperm,hown'⟩:=hwand (w.setRow bl (Jc cur.toList (off+i*e.size+Yb e path) (a.eval y).cells.toList).toArray) _ hlen (fun c _ hne=>hst c hne)
          (setRow_heap w bl cur _ et (0,0) hh) y' (Ha φ l) x' (hoy.stable fun c hc=>hst c fun e=>hnot (e▸hc)) hset
         have hc:Db n0 A O0 w0 ⟨s.n,s.tm,(id,some (.row e true (j5 xs i x')))::(Ed l++s.hp)⟩ σ (Di φ id F') a (w.setRow bl (Jc cur.toList (off+i*e.size+Yb e path) (a.eval y).cells.toList).toArray):=by
          refine h.turn (blk0:=.hol e xs i x0 path τ0 d) hb (by simp[Ka.like]) l hlive (ym.1 hnd).1 F' (by simp) ?_ rfl rfl rfl (hperm.nodup_iff.2 hFF) ?_ ?_
          ·intro c _ hc _
           exact hst c fun e=>hc (e▸hbF)
          ·intro c hc
           rcases jl.1 (hperm.mem_iff.1 hc)with hc|hc
           ·exact .inr (.inl hc)
           ·exact .inr (.inr (Pb.1 hc))
          ·intro hp' O' _ _
           exact hown'
         refine AL (w':=w.setRow bl (Jc cur.toList (off+i*e.size+Yb e path) (a.eval y).cells.toList).toArray) ?_ (Jf rfl hc ?_ he)
         ·simp[execOp,ho,hv,Instr.storeAt,Instr.sureAddr,hl]
         ·exact BE.2 rfl
        ·simp at he
     ·simp at he
    ·simp at he
   ·simp at he
  ·simp at he
 ·simp at he
end
def FG(L:List Value)(i size:Nat):List Value:=(L.drop (i*size)).take size
structure El(w:World)(O:Nat→Prop)(dq:Bool)(e:Ty)(xs:List (T e))(L:List Value)(Fs:List (List Nat)):Prop where
 len:L.length=ja xs*e.size
 flen:Fs.length=ja xs
 el:∀i (h:i<ja xs),if dq then Ic w e (List.get xs ⟨i,h⟩) (FG L i e.size) (Fs.getD i [])else Wa w O e (List.get xs ⟨i,h⟩) (FG L i e.size)∧Fs.getD i []=[]
def Yi(w:World)(O:Nat→Prop)(dq:Bool)(e:Ty)(xs:List (T e))(v:Value)(F:List Nat):Prop:=
 ja xs≤Ll∧((v=.slice none 0 0∧xs=([]:List (T e))∧F=[])∨
  ∃bl off cap cur et Fs,v=.slice (some ⟨bl,off,none⟩) (ja xs) cap∧w.heap[bl]?=some (.cells cur et (0,0))∧
   ja xs≤cap∧cap≤Ll∧off+cap*e.size≤cur.size∧F=bl::List.flatten Fs∧El w O dq e xs (Ae cur off (ja xs*e.size)) Fs)
theorem VS{cur:Array Value}{off n i size:Nat}(hi:i<n):FG (Ae cur off (n*size)) i size=Ae cur (off+i*size) size:=by
 unfold FG
 refine OT _ _ _ _ _ ?_
 have:(i+1)*size≤n*size:=jm _ hi
 rw[yq]at this
 exact this
theorem NI{Fs:List (List Nat)}(h:∀i,i<Fs.length→Fs.getD i []=[]):Fs.flatten=[]:=by
 rw[List.flatten_eq_nil_iff]
 intro l hl'
 obtain⟨i,hi,rfl⟩:=List.mem_iff_getElem.1 hl'
 have:=h i hi
 simpa[qs,hi]using this
theorem Ym{w:World}{O:Nat→Prop}{hp:Nat→Option Ka}{σ:Nat→Value}{id:Nat}{dq:Bool}{e:Ty}{xs:List (T e)}{F:List Nat}:
 Gd w O hp σ id (.row e dq xs) F↔Yi w O dq e xs (σ id) F:=by
 cases dq with
 |true=>
  simp only[Gd,Ic,Yi]
  constructor
  ·rintro⟨hm,⟨h1,h2,h3⟩|⟨bl,off,cap,cur,et,Fs,h1,hh,h2,h3,h4,hF,hl,hv⟩⟩
   ·simp only[yi,and_true]at h1
    exact⟨hm,.inl ⟨h1,h2,h3⟩⟩
   ·simp only[yi,and_true]at h1
    have:=jm e.size h2
    refine⟨hm,.inr ⟨bl,off,cap,cur,et,Fs,h1,hh,h2,h3,h4,hF,⟨De (by omega),hl,fun i hi=>?_⟩⟩⟩
    rw[if_pos rfl,VS hi]
    exact hv i hi
  ·rintro⟨hm,⟨h1,h2,h3⟩|⟨bl,off,cap,cur,et,Fs,h1,hh,h2,h3,h4,hF,hel⟩⟩
   ·exact⟨hm,.inl ⟨by rw[h1],h2,h3⟩⟩
   ·refine⟨hm,.inr ⟨bl,off,cap,cur,et,Fs,by rw[h1],hh,h2,h3,h4,hF,hel.flen,fun i hi=>?_⟩⟩
    have:=hel.el i hi
    rw[if_pos rfl,VS hi]at this
    exact this
 |false=>
  simp only[Gd,Yi]
  constructor
  ·rintro⟨hm,⟨h1,h2,h3⟩|⟨bl,off,cap,cur,et,h1,hh,h2,h3,h4,hF,hv⟩⟩
   ·exact⟨hm,.inl ⟨h1,h2,h3⟩⟩
   ·have:=jm e.size h2
    refine⟨hm,.inr ⟨bl,off,cap,cur,et,yd (ja xs) [],h1,hh,h2,h3,h4,by rw[hF];simp,⟨De (by omega),by simp,fun i hi=>?_⟩⟩⟩
    rw[if_neg (by simp),VS hi]
    exact⟨hv i hi,by simp[qs,hi]⟩
  ·rintro⟨hm,⟨h1,h2,h3⟩|⟨bl,off,cap,cur,et,Fs,h1,hh,h2,h3,h4,hF,hel⟩⟩
   ·exact⟨hm,.inl ⟨h1,h2,h3⟩⟩
   ·refine⟨hm,.inr ⟨bl,off,cap,cur,et,h1,hh,h2,h3,h4,?_,fun i hi=>?_⟩⟩
    ·rw[hF,NI]
     intro i hi
     have:=hel.el i (by rw[←hel.flen];exact hi)
     rw[if_neg (by simp)]at this
     exact this.2
    ·have:=hel.el i hi
     rw[if_neg (by simp),VS hi]at this
     exact this.1
theorem El.stable{w w':World}{O O':Nat→Prop}{dq:Bool}{e:Ty}{xs:List (T e)}{L:List Value}{Fs:List (List Nat)}(h:El w O dq e xs L Fs)
 (hv:∀b,¬O b→b<w.heap.size→w'.heap[b]?=w.heap[b]?) (hO:∀b,b<w.heap.size→¬O b→¬O' b) (hF:∀b,b∈Fs.flatten→w'.heap[b]?=w.heap[b]?):
 El w' O' dq e xs L Fs:=by
 refine⟨h.len,h.flen,fun i hi=>?_⟩
 have:=h.el i hi
 cases dq with
 |true=>
  simp only[if_true]at this⊢
  exact this.stable fun b hb=>hF b (Xf hb)
 |false=>
  simp only[jq,if_false]at this⊢
  exact⟨Wa.stable hv hO this.1,this.2⟩
theorem M4{L L':List Value}{i size:Nat}(h:(i+1)*size≤L.length):FG (L++L') i size=FG L i size:=by
 rw[yq]at h
 unfold FG
 rw[List.drop_append_of_le_length (by omega),List.take_append_of_le_length (by simp;omega)]
theorem P1{L L':List Value}{n j size:Nat}(h:L.length=n*size):FG (L++L') (n+j) size=FG L' j size:=by
 unfold FG
 rw[yf,←h,List.drop_append,List.drop_eq_nil_of_le (by omega)]
 simp
theorem El.append{w:World}{O:Nat→Prop}{dq:Bool}{e:Ty}{xs ys:List (T e)}{L L':List Value}{Fs Gs:List (List Nat)}(h:El w O dq e xs L Fs)(h':El w O dq e ys L' Gs):
 El w O dq e (jf xs ys) (L++L') (Fs++Gs):=by
 have ha:jf xs ys=xs++ys:=rfl
 refine⟨by rw[ha,qc,qc,h.len,h'.len,yf],by rw[ha,qc,qc,h.flen,h'.flen],fun i hi=>?_⟩
 have hi':i<ja xs+ja ys:=by rw[ha,qc]at hi;exact hi
 rcases Nat.lt_or_ge i (ja xs)with hl|hg
 ·have h1:List.get (jf xs ys) ⟨i,hi⟩=List.get xs ⟨i,hl⟩:=by
   show(xs++ys)[i]=xs[i]
   exact List.getElem_append_left hl
  have h2:(Fs++Gs).getD i []=Fs.getD i []:=by
   have:i<Fs.length:=by rw[h.flen];exact hl
   simp[qs,List.getElem?_append_left this]
  rw[h1,h2,M4 (by rw[h.len];exact jm _ hl)]
  exact h.el i hl
 ·obtain⟨j,rfl⟩:=Nat.exists_eq_add_of_le hg
  have hj:j<ja ys:=by omega
  have h1:List.get (jf xs ys) ⟨ja xs+j,hi⟩=List.get ys ⟨j,hj⟩:=by
   show(xs++ys)[ja xs+j]=ys[j]
   rw[List.getElem_append_right (by omega)]
   congr 1;omega
  have h2:(Fs++Gs).getD (ja xs+j) []=Gs.getD j []:=by
   rw[←h.flen]
   simp[qs,List.getElem?_append_right]
  rw[h1,h2,P1 h.len]
  exact h'.el j hj
theorem El.nil{w:World}{O:Nat→Prop}{dq:Bool}{e:Ty}:El w O dq e ([]:List (T e)) [] []:=
 ⟨by simp,rfl,fun i h=>absurd h (by simp)⟩
section
variable{P:Program} {w:World}
theorem V2(t tx ty et:TypeId)(i:TypeInfo)(ht:P.underlying t=some (.slice et))(hi:P.info? et=some i){b off sLen sCap:Nat}{x:Value}{n:Nat}{news:List Value}(hs:Src P i.size tx x n news w)
 {cur:Array Value} {ct:TypeId} (hh:w.heap[b]?=some (.cells cur ct (0,0))) (hroom:sLen+n≤sCap) (hfit:off+sLen*i.size+news.length≤cur.size):
 (Builtin.append_ #[t,tx] ty #[.slice (some ⟨b,off,none⟩) sLen sCap,x]).run P w=.ok (.slice (some ⟨b,off,none⟩) (sLen+n) sCap) (w.setRow b (Jc cur.toList (off+sLen*i.size) news).toArray):=by
 have hst:=run_storeCells_at P b (off+sLen*i.size) ct news 0 cur w hh (by simpa using hfit) hs.one
 simp only[ya]at hst
 rcases hs.kind with⟨e',hk⟩|hk<;>simp[Builtin.append_,run_underlying ht,run_underlying hk,Go.sizeOf,typeInfo,hi,hs.len,hroom,hs.cells,Addr.add_lit,hst,Jc]
theorem PT{cur:Array Value}{off n:Nat}{news:List Value}(h:off+n+news.length≤cur.size):
 Ae (Jc cur.toList (off+n) news).toArray off (n+news.length)=Ae cur off n++news:=by
 have hs:(Jc cur.toList (off+n) news).length=cur.size:=by rw[Yh (by simpa using h)];simp
 apply qp
 intro j
 by_cases hj:j<n+news.length
 ·rw[Ag _ _ _ _ hj,List.getElem?_toArray,Jk (by simpa using h)]
  by_cases hn:j<n
  ·rw[if_pos (by omega),List.getElem?_append_left (by rw[De (by omega)];exact hn),Ag _ _ _ _ hn];simp
  ·rw[if_neg (by omega),if_pos (by omega),List.getElem?_append_right (by rw[De (by omega)];omega),De (by omega)]
   congr 1;omega
 ·rw[qt (by rw[De (by simp only[yo,hs];omega)];omega),qt (by rw[qc,De (by omega)];omega)]
theorem WZ{e:Ty}{t tx ty et:TypeId}(ht:P.underlying t=some (.slice et))(hte:Ie P e et=true){O:Nat→Prop}{dq:Bool}{xs ys:List (T e)}{v x:Value}{F:List Nat}
 (hx:Yi w O dq e xs v F) {news:List Value} {Gs:List (List Nat)} (hs:Src P e.size tx x (ja ys) news w) (hy:El w O dq e ys news Gs) (hn:(F++Gs.flatten).Nodup)
 (hlim:ja xs+ja ys≤Sa) (hFO:∀c,c∈F→O c) (hGO:∀c,c∈Gs.flatten→c<w.heap.size):
 ∃v' w' F',(Builtin.append_ #[t,tx] ty #[v,x]).run P w=.ok v' w'∧v'.oneCell'=true∧w.heap.size≤w'.heap.size∧(∀c,c<w.heap.size→c∉F→w'.heap[c]?=w.heap[c]?)∧
  w'.os=w.os∧w'.tape=w.tape∧w'.output=w.output∧F'.Nodup∧(∀c,c∈F'→w.heap.size≤c∨c∈F∨c∈Gs.flatten)∧
  (∀O',(∀b,b<w.heap.size→¬O b→¬O' b)→Yi w' O' dq e (jf xs ys) v' F'∧Yi w' O' dq e xs v F):=by
 obtain⟨i,hi,hsz,hby,hz⟩:=Tok.size hte
 have hal:ja (jf xs ys)=ja xs+ja ys:=by show(xs++ys).length=_;simp
 have hs':Src P i.size tx x (ja ys) news w:=by rw[hsz];exact hs
 have hzs:(Me e e.zc).cells.size=e.size:=by
  have:=LV e
  rw[←Array.length_toList,this,YM]
 have hmaxl:maxLen=9223372036854775807:=rfl
 have hmaxn:Ll=9223372036854775807:=rfl
 have hlim':ja xs+ja ys≤1073741824:=hlim
 have hbytes:(ja xs+ja ys)*i.bytes≤140737488355328:=by
  have:=Nat.mul_le_mul hlim' hby
  omega
 have hx0:=hx
 have keep:∀(w':World),(∀c,c<w.heap.size→w'.heap[c]?=w.heap[c]?)→∀O',(∀b,b<w.heap.size→¬O b→¬O' b)→Yi w' O' dq e xs v F:=by
  intro w' hw O' hO'
  obtain⟨hm,h|⟨bl,off,cap,cur,ct,Fs,h1,hh,h2,h3,h4,hF,hel⟩⟩:=hx0
  ·exact⟨hm,.inl h⟩
  ·refine⟨hm,.inr ⟨bl,off,cap,cur,ct,Fs,h1,(hw bl (Array.getElem?_eq_some_iff.1 hh).1).trans hh,h2,h3,h4,hF,hel.stable (fun b _ hb=>hw b hb) hO' fun b hb=>hw b ?_⟩⟩
   obtain⟨i',hi',hm'⟩:=Tj hb
   have:=hel.el i' (by rw[←hel.flen];exact hi')
   cases dq with
   |true=>
    simp only[if_true]at this
    exact this.lt b hm'
   |false=>
    simp only[jq,if_false]at this
    rw[this.2]at hm'
    simp at hm'
 have grow:∀(base:Option Addr) (cap:Nat) (olds:List Value) (Fs:List (List Nat)),v=.slice base (ja xs) cap→cap<ja xs+ja ys→
  (Builtin.firstCells i.size (ja xs) (.slice base (ja xs) cap)).run P w.drew=.ok olds.toArray w.drew→El w O dq e xs olds Fs→(∀c,c∈Fs.flatten→c∈F)→(Fs.flatten++Gs.flatten).Nodup→
  (∀c,c∈Fs.flatten→c<w.heap.size)→
  ∃v' w' F',(Builtin.append_ #[t,tx] ty #[v,x]).run P w=.ok v' w'∧v'.oneCell'=true∧w.heap.size≤w'.heap.size∧(∀c,c<w.heap.size→c∉F→w'.heap[c]?=w.heap[c]?)∧
  w'.os=w.os∧w'.tape=w.tape∧w'.output=w.output∧F'.Nodup∧(∀c,c∈F'→w.heap.size≤c∨c∈F∨c∈Gs.flatten)∧
  (∀O',(∀b,b<w.heap.size→¬O b→¬O' b)→Yi w' O' dq e (jf xs ys) v' F'∧Yi w' O' dq e xs v F):=by
  intro base cap olds Fs hv hg hold hel hsub hnd hlt
  have hr:=run_append_grow_src (P:=P) w t tx ty et i _ ht hi hz base (ja xs) cap olds hold x (ja ys) news hs' hg (by omega) (growslice_fits hg hbytes)
  have hge:=grownCap_ge w (ja xs+ja ys) cap et
  have hle:=grownCap_le_maxLen w (ja xs+ja ys) cap et (by omega)
  have hold':∀b,b<w.heap.size→(w.drew.alloc (.cells ((olds++news).toArray++Builtin.zeroCells (Me e e.zc).cells (grownCap w (ja xs+ja ys) cap et-(ja xs+ja ys))) et)).heap[b]?=w.heap[b]?:=
   fun b hb=>Vh w.drew _ b hb
  refine⟨_,_,w.heap.size::(Fs++Gs).flatten,by rw[hv];exact hr,rfl,by simp,fun c hc _=>hold' c hc,rfl,rfl,rfl,?_,?_,?_⟩
  ·rw[ym,List.flatten_append]
   refine⟨fun hm=>?_,hnd⟩
   rcases jl.1 hm with hm|hm
   ·exact absurd (hlt _ hm) (by omega)
   ·exact absurd (hGO _ hm) (by omega)
  ·intro c hc
   rw[List.flatten_append]at hc
   rcases jp.1 hc with rfl|hc
   ·exact .inl (jo _)
   ·rcases jl.1 hc with hc|hc
    ·exact .inr (.inl (hsub c hc))
    ·exact .inr (.inr hc)
  ·intro O' hO'
   have happ:=(hel.append hy).stable (w':=w.drew.alloc (.cells ((olds++news).toArray++Builtin.zeroCells (Me e e.zc).cells (grownCap w (ja xs+ja ys) cap et-(ja xs+ja ys))) et)) (O':=O')
    (fun b _ hb=>hold' b hb) hO' (by
     intro b hb
     rw[List.flatten_append]at hb
     rcases jl.1 hb with hb|hb
     ·exact hold' b (hlt b hb)
     ·exact hold' b (hGO b hb))
   have hol:(olds++news).length=ja (jf xs ys)*e.size:=(hel.append hy).len
   refine⟨?_,keep _ (fun c hc=>hold' c hc) O' hO'⟩
   refine⟨by rw[hal];omega,.inr ⟨w.heap.size,0,_,_,et,Fs++Gs,by rw[hal],heap_alloc_new w.drew _,by rw[hal];exact hge,by omega,?_,rfl,?_⟩⟩
   ·simp only[Array.size_append,yo,size_zeroCells,hzs,hol,hal,←yf,js]
    exact jm _ (by omega)
   ·have:Ae ((olds++news).toArray++Builtin.zeroCells (Me e e.zc).cells (grownCap w (ja xs+ja ys) cap et-(ja xs+ja ys))) 0 (ja (jf xs ys)*e.size)=olds++news:=by
     simp only[Ae,List.drop_zero,Array.toList_append]
     rw[←hol]
     exact List.take_left
    rw[this]
    exact happ
 obtain⟨hm,⟨h1,h2,h3⟩|⟨bl,off,cap,cur,ct,Fs,h1,hh,h2,h3,h4,hF,hel⟩⟩:=hx
 ·subst h2
  by_cases hm0:ja ys=0
  ·have hy0:ys=([]:List (T e)):=q7 hm0
   subst hy0
   have hnews:news=[]:=q7 (by rw[hs.newsLen];simp)
   subst hnews
   have hr:=run_append_nothing (P:=P) w t tx ty et i ht hi none 0 0 (jo _) x hs'
   refine⟨_,w,[],by rw[h1];exact hr,rfl,jo _,fun _ _ _=>rfl,rfl,rfl,rfl,List.nodup_nil,by simp,fun O' _=>⟨⟨by simp,.inl ⟨rfl,rfl,rfl⟩⟩,by simp,.inl ⟨h1,rfl,h3⟩⟩⟩
  ·refine grow none 0 [] [] (by rw[h1];rfl) (by simp;omega) ?_ El.nil (by simp) (by simpa[h3]using hn) (by simp)
   simpa using run_firstCells_none (P:=P) w.drew i.size 0 0 0
 ·have hcap:=jm e.size h2
  by_cases hroom:ja xs+ja ys≤cap
  ·have hcap2:=jm e.size hroom
   rw[yf]at hcap2
   have hnl:=hs.newsLen
   have hr:=V2 (P:=P) (w:=w) (b:=bl) (off:=off) (sLen:=ja xs) (sCap:=cap) t tx ty et i ht hi hs' hh hroom (by rw[hsz];omega)
   rw[hsz]at hr
   have hbF:bl∉Fs.flatten∧bl∉Gs.flatten:=by
    rw[hF]at hn
    simp only[yh,ym,jl,not_or]at hn
    exact hn.1
   have hblO:O bl:=hFO bl (by rw[hF];simp)
   have hoth:∀c,c≠bl→(w.setRow bl (Jc cur.toList (off+ja xs*e.size) news).toArray).heap[c]?=w.heap[c]?:=fun c hc=>setRow_other w bl c _ hc
   refine⟨_,_,bl::(Fs++Gs).flatten,by rw[h1];exact hr,rfl,by simp,fun c _ hc=>hoth c fun e=>hc (by rw[hF,e];simp),rfl,rfl,rfl,?_,?_,?_⟩
   ·rw[hF]at hn
    rw[List.flatten_append]
    simpa using hn
   ·intro c hc
    rw[List.flatten_append]at hc
    rw[hF]
    simp only[jp,jl]at hc⊢
    grind
   ·intro O' hO'
    have happ:=(hel.append hy).stable (w':=w.setRow bl (Jc cur.toList (off+ja xs*e.size) news).toArray) (O':=O')
     (fun b hb _=>hoth b fun e=>hb (e▸hblO)) hO' (by
      intro b hb
      rw[List.flatten_append]at hb
      exact hoth b fun e=>by
       subst e
       rcases jl.1 hb with hb|hb
       ·exact hbF.1 hb
       ·exact hbF.2 hb)
    have hcl:cur.toList.length=cur.size:=Array.length_toList
    have hsl:=Yh (cs:=cur.toList) (ce:=news) (o:=off+ja xs*e.size) (by omega)
    have hold:=hel.stable (w':=w.setRow bl (Jc cur.toList (off+ja xs*e.size) news).toArray) (O':=O')
     (fun b hb _=>hoth b fun e=>hb (e▸hblO)) hO' (by
      intro b hb
      exact hoth b fun e=>by
       subst e
       exact hbF.1 hb)
    have hseg:Ae (Jc cur.toList (off+ja xs*e.size) news).toArray off (ja xs*e.size)=Ae cur off (ja xs*e.size):=by
     have h5:=PT (cur:=cur) (off:=off) (n:=ja xs*e.size) (news:=news) (by omega)
     have h6:=congrArg (List.take (ja xs*e.size)) h5
     rw[List.take_left' (De (by omega))]at h6
     rw[←h6]
     unfold Ae
     rw[List.take_take]
     congr 1
     omega
    refine⟨?_,by omega,.inr ⟨bl,off,cap,_,ct,Fs,h1,setRow_heap w bl cur _ ct (0,0) hh,h2,h3,by rw[yo,hsl,hcl];exact h4,hF,by rw[hseg];exact hold⟩⟩
    refine⟨by rw[hal];omega,.inr ⟨bl,off,cap,_,ct,Fs++Gs,by rw[hal],setRow_heap w bl cur _ ct (0,0) hh,by rw[hal];exact hroom,h3,?_,rfl,?_⟩⟩
    ·rw[yo,hsl,hcl]
     exact h4
    ·rw[hal,yf,←hnl,PT (by omega)]
     exact happ
  ·refine grow (some ⟨bl,off,none⟩) cap (Ae cur off (ja xs*e.size)) Fs h1 (by omega) ?_ hel (fun c hc=>by rw[hF];exact jr _ hc) ?_ ?_
   ·refine run_firstCells_some (P:=P) w.drew i.size (ja xs) ⟨bl,off,none⟩ (ja xs) cap _ (by rw[hsz];exact De (by omega)) ?_
    intro j u hu
    rw[Jr]
    show w.cell? _=_
    rw[cell_of_row w bl (off+j) cur ct (0,0) hh]
    have hj:j<ja xs*e.size:=by
     have:=(q8.1 hu).1
     rwa [De (by omega)]at this
    rwa [Ag _ _ _ _ hj]at hu
   ·rw[hF]at hn
    exact(ym.1 (by simpa using hn)).2
   ·intro c hc
    obtain⟨i',hi',hm'⟩:=Tj hc
    have:=hel.el i' (by rw[←hel.flen];exact hi')
    cases dq with
    |true=>
     simp only[if_true]at this
     exact this.lt c hm'
    |false=>
     simp only[jq,if_false]at this
     rw[this.2]at hm'
     simp at hm'
end
end KF
