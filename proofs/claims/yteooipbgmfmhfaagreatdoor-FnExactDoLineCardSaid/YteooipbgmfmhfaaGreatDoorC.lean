/- An evaluator of Go functions on plain data, its soundness, and plain laws on what the functions compute, part 3 (conditions: as each lemma tells). -/
import Derived.Test.YteooipbgmfmhfaaGreatDoorB
import Derived.LoopN
import Derived.ChangeArms
import Derived.ChangeStays
import Derived.ChangeSame
import Derived.WideShapes
import Derived.RowKit
import Derived.Handed
import Derived.JoinedOf
import Derived.Lib.Split
import Derived.Lib.Join
import Derived.Lib.ItoaNum
import Derived.Lib.IndexMore
import Derived.Lib.Bytealg
import Derived.Lib.Atoi
import Derived.Shelf.Sort.Plain
import Derived.Shelf.Slices.In.SortNone2
import Derived.Shelf.LaysM
import Derived.Shelf.Strings.Split
import Derived.Shelf.Strings.OnBuilder
import Derived.Shelf.Strconv.Itoa3
import Derived.LaidLaws
import Derived.LaidHandle
import Derived.Lib.LaidTab
import Derived.Shelf.Strings.Cut
import Derived.Shelf.Strings.Search3
import Derived.Shelf.Small.Strs
import Derived.Lib.AtoiBound
import Derived.IntWalk
set_option linter.unusedSimpArgs false
set_option linter.unusedVariables false
namespace KF
open Go
open List renaming length → ja, getElem?_eq_getElem → je, append → jf, mem_append → jl, mem_cons → jp, mem_cons_of_mem → jr, length_cons → jw, set → j5, length_nil → j6, length_set → j7, mem_singleton → qc, length_append → qd, getD_eq_getElem?_getD → qf, getElem_mem → qj, getElem_of_mem → qk, mem_map → ql, getElem?_set_self → qm, length_drop → qn, ext_getElem? → qr, drop_drop → qs, toArray → qt, getD → qu, getElem?_eq_none → qv, mem_append_left → qw, mem_append_right → qx, any_eq_true → q0, append_assoc → q7, eq_nil_of_length_eq_zero → q9, getElem?_eq_some_iff → ya, length_eq_one_iff → yb, replicate → yf, nil_append → yi, cons_append → yj, map_cons → ym, nodup_cons → yo, nodup_append → yp, size_toArray → yq, flatten_cons → yr, length_map → yu, mem_map_of_mem → yx, map_append → yy, all_eq_true → yz, append_nil → y3, range → zb, map → zg, append_eq → zh, not_mem_nil → zi
open Option renaming bind_some → jb, bind → jz, map_some → qb, bind_eq_some_iff → qe, getD_some → q6, map_eq_some_iff → za
open Option.some renaming injEq → jc, inj → zf
open Bool renaming and_eq_true → jd, not_true → jg, true_and → jk, false_eq_true → jq, not_false → j8, not_eq_true → j9, false_and → qi, eq_iff_iff → qo, or_eq_true → qz, not_eq_true' → yn, or_eq_false_iff → yv, false_or → yw
open Prod.mk renaming injEq → jh
open Nat renaming ble_eq_true_of_le → ji, mul_le_mul_right → jm, le_refl → jo, zero_add → js, add_assoc → jt, eq_of_beq_eq_true → ju, ble → jx, le_trans → qa, lt_of_lt_of_le → qh, beq → qy, le_of_ble_eq_true → q8, add_zero → yc, blt → yd, blt_eq → yg, add_mul → yh, beq_refl → yl, succ_mul → yt, zero_le → zd
open Int renaming toNat_natCast → jn, eq_ofNat_of_zero_le → jv, toNat → jy, tmod → ye
open Go.IntKind renaming wrap → j4
open Sum renaming elim_inl → qg
open Result renaming andThen_ok → qp
open Sem renaming run_bind → qq
open List.cons renaming injEq → yk
open Sum.inl renaming injEq → ze
structure Ml(s s':AS):Prop extends Eqv s s' where
 nw:∀id,s'.newOk id=s.newOk id
theorem Ml.refl(s:AS):Ml s s:=⟨Eqv.refl s,fun _=>rfl⟩
theorem Ml.agr{s s':AS}(h:Ml s s')(o:Oper):Agr s s' o:=
 ⟨fun _ hx=>Gad hx fun t _=>h.tm t,fun _ _ _ _ _ _ id _=>h.hp id,fun _ _ _ _ _ id _=>by rw[h.hp id],fun id _=>h.nw id,fun _ _ _ _ _ _ _ _ _ _ id _=>h.hp id⟩
theorem Ml.symm{s s':AS}(h:Ml s s'):Ml s' s:=⟨h.toEqv.symm,fun id=>(h.nw id).symm⟩
theorem Ml.trans{s1 s2 s3:AS}(h:Ml s1 s2)(h':Ml s2 s3):Ml s1 s3:=⟨h.toEqv.trans h'.toEqv,fun id=>(h'.nw id).trans (h.nw id)⟩
theorem Ml.putE{s s':AS}(h:Ml s s')(dst:Option Tmp)(e:Ef):Ml (KF.putE s dst e) (KF.putE s' dst e):=by
 refine⟨⟨h.n,fun t=>?_,fun id=>?_⟩,fun id=>?_⟩
 ·rw[XG,XG,h.tm t]
 ·rw[TB,TB,h.hp id]
 ·have e0:=h.nw id
  unfold AS.newOk at e0⊢
  simp only[AS.ment,KF.putE,List.any_append]at e0⊢
  revert e0
  generalize((match dst with|some t=>[(t,e.1)]|none=>[]).any fun x=>x.2.ment id)=b1
  generalize(e.2.any fun x=>(x.2.map (Ra.ment id)).getD false)=b2
  generalize(s.tm.any fun x=>x.2.ment id)=c1
  generalize(s.hp.any fun x=>(x.2.map (Ra.ment id)).getD false)=c2
  generalize(s'.tm.any fun x=>x.2.ment id)=d1
  generalize(s'.hp.any fun x=>(x.2.map (Ra.ment id)).getD false)=d2
  generalize yd id 500000=z
  cases b1<;>cases b2<;>cases c1<;>cases c2<;>cases d1<;>cases d2<;>cases z<;>simp
theorem Ml.refine{s:AS}{t:Nat}{β:Bool}(hd:Dc s.tm t=some (.t .b β)):Ml s ⟨s.n,(t,.t .b β)::s.tm,s.hp⟩:=by
 refine⟨⟨rfl,fun t'=>?_,fun _=>rfl⟩,fun id=>?_⟩
 ·rw[Qd]
  split
  ·rename_i e;subst e;exact hd.symm
  ·rfl
 ·simp[AS.newOk,AS.ment,D.ment]
theorem Zaj{s s':AS}(h:∀j,s'.heap j=s.heap j)(d:D):NU s d=NU s' d:=by
 cases d with
 |ptr id p=>simp only[NU,h id]
 |_=>rfl
def TaO(s:AS)(u:List (Nat×Option Ra)):Prop:=u=[]∨∃id b tl,u=(id,some b)::tl∧(s.heap id).map Ra.kind=some b.kind
theorem Fag{s:AS}{dst:Option Tmp}{τ:Ty}{id i:Nat}{e:Ty}{xs:List (T e)}{k:Nat}{ef:Ef}(hs:(s.heap id).map Ra.kind=some (none,some (e,ja xs)))
 (h:EB s dst τ id i e xs k (fun d u=>some (d,u))=some ef):TaO s ef.2:=by
 unfold EB at h
 split at h
 ·cases hb:qy i k with
  |false=>rw[hb]at h;simp at h
  |true=>
   rw[hb]at h
   simp only[zj,qe]at h
   obtain⟨x,hx,h⟩:=h
   simp only[Sa,jc]at h
   obtain⟨_,rfl⟩:=h
   exact .inr ⟨id,_,_,rfl,hs⟩
 ·simp at h
theorem Iaz{α:Type}{c:Bool}{a b:Option α}{x:α}(h:(bif c then a else b)=some x):a=some x∨b=some x:=by cases c<;>simp_all
theorem JaU{G:Yf}{s:AS}{o:Oper}{ef:Ef}(hk:T5 o.op=true)(h:Mc G s o (fun d u=>some (d,u))=some ef):TaO s ef.2:=by
 cases ho:o.op with
 |load t x=>
  simp only[Mc,ho]at h
  split at h
  ·split at h
   ·split at h
    ·split at h
     ·simp only[jc]at h;rw[←h];exact .inl rfl
     ·simp at h
    ·simp at h
   ·simp at h
  ·split at h
   ·simp only[jc]at h;rw[←h];exact .inl rfl
   ·simp at h
  ·rename_i τ id i path _ _
   cases hml:FV G o.dst with
   |true=>
    rw[hml]at h
    simp only[zj]at h
    split at h
    ·rename_i hb hz;exact Fag (by rw[hb];rfl) h
    ·rename_i hb hz;exact Fag (by rw[hb];rfl) h
    ·simp at h
   |false=>
    rw[hml]at h
    simp only[zk]at h
    split at h
    ·rename_i e dp xs hb
     simp only[qe]at h
     obtain⟨x,hx,h⟩:=h
     split at h
     ·split at h
      ·rcases Iaz h with h|h
       ·simp only[jc]at h;rw[←h];exact .inl rfl
       ·split at h
        ·simp only[Sa,jc]at h
         obtain⟨_,rfl⟩:=h
         exact .inr ⟨id,_,_,rfl,by rw[hb];rfl⟩
        ·simp at h
      ·simp at h
     ·simp at h
    ·simp at h
  ·simp at h
 |store t x v=>
  simp only[Mc,ho]at h
  split at h
  ·rename_i τ id path dv _ _ _
   split at h
   ·rename_i ρ d hb
    split at h
    ·split at h
     ·simp only[Sa,jc]at h
      obtain⟨_,rfl⟩:=h
      exact .inr ⟨id,_,_,rfl,by rw[hb];rfl⟩
     ·simp at h
    ·simp at h
   ·simp at h
  ·rename_i τ id i path dv _ _ _
   split at h
   ·rename_i e dp xs hb
    split at h
    ·split at h
     ·cases hc:(dp||e.flat)with
      |true=>
       rw[hc]at h
       simp only[zj]at h
       split at h
       ·simp only[Sa,qe]at h
        obtain⟨_,x,hx,h⟩:=h
        split at h
        ·simp only[jc]at h;rw[←h]
         exact .inr ⟨id,_,_,rfl,by rw[hb];simp[Ra.kind]⟩
        ·simp at h
       ·simp at h
      |false=>
       rw[hc]at h
       simp only[zk]at h
       split at h
       ·simp only[qe]at h
        obtain⟨x,hx,h⟩:=h
        split at h
        ·simp only[jc]at h;rw[←h]
         exact .inr ⟨id,_,_,rfl,by rw[hb];simp[Ra.kind]⟩
        ·simp at h
       ·simp at h
     ·simp at h
    ·simp at h
   ·rename_i e xs i0 x path0 τ0 d0 hb
    split at h
    ·split at h
     ·split at h
      ·simp only[Sa]at h
       obtain⟨_,_,h⟩:=h
       split at h
       ·simp only[jc]at h;rw[←h]
        exact .inr ⟨id,_,_,rfl,by rw[hb];simp[Ra.kind]⟩
       ·simp at h
      ·simp at h
     ·simp at h
    ·simp at h
   ·simp at h
  ·simp at h
 |_=>rw[ho]at hk;simp[T5]at hk
theorem Jad{G:Yf}{s:AS}{o:Oper}{ef:Ef}{H:List Nat}(h:J6 G s o ef)(hb:Dab H o.op ef.2=true):I2 H s ef:=by
 intro id hid hm
 unfold Dab at hb
 split at hb
 ·simp at hid
 ·cases hk:T5 o.op with
  |false=>
   rw[hk]at hb
   simp only[zk,yn]at hb
   exact absurd hm (ZI hb id hid)
  |true=>
   rw[hk]at hb
   simp only[zj,yn]at hb
   have hkp:=JaU hk (h _ fun d u=>some (d,u))
   rcases hkp with h0|⟨id0,b,tl,h0,h1⟩
   ·rw[h0]at hm;simp at hm
   ·rw[h0]at hm hb⊢
    rcases jp.1 hm with e|hm
    ·subst e
     simp only[Qd,if_true,Option.join_some,qb]
     exact h1.symm
    ·exact absurd hm (ZI hb id hid)
theorem Tab{H:List Nat}{x:Nat}:∀{l:List Nat},x∈l→x∈A4 H l∨x∈H
 |y::l,h=>by
  simp only[A4]
  rcases jp.1 h with e|h
  ·subst e
   cases hm:XH H x with
   |true=>exact .inr (J0.1 hm)
   |false=>exact .inl (by simp)
  ·refine(Tab h).imp (fun h=>?_) id
   cases XH H y with
   |true=>exact h
   |false=>exact jr _ h
theorem Aag{s:AS}{c:Bool}:∀{l:List Operand} {x:Operand} {d:D} {id:Nat},x∈l→s.ev x=some d→(d.ment id=true∨(c=true∧id∈NU s d))→id∈HW s c l
 |[],_,_,_,h,_,_=>by simp at h
 |y::l,x,d,id,h,hd,hm=>by
  rcases jp.1 h with e|h
  ·subst e
   simp only[HW,hd]
   refine qw _ (jl.2 ?_)
   refine hm.imp ZU.1 ?_
   rintro⟨rfl,h⟩
   exact h
  ·have ih:=Aag h hd hm
   simp only[HW]
   split
   ·exact qx _ ih
   ·exact ih
section
variable{P:Program} {n0:Nat} {A:Fx} {O0:Nat→Prop} {w0:World} {G:Yf} {ops:Array Oper} {s0:AS} {E:Nat→Ef} {F:Nat→FP} {anc:Nat→List Nat} {H:List Nat} {Q:Exit→Act→World→Prop}
variable{Out:Type} {k:AS→Option Out} {out:Out}
theorem PM.congr{E':Nat→Ef}{F':Nat→FP}{anc':Nat→List Nat}{m:Nat}{o:Oper}(h:PM G H ops s0 E F anc m o)(hE:∀j,j≤m→E j=E' j∧F j=F' j∧anc j=anc' j):PM G H ops s0 E' F' anc' m o:=by
 have hst:Hf ops E (fun _=>true) s0 m=Hf ops E' (fun _=>true) s0 m:=BG m fun j hj=>⟨(hE j (by omega)).1,rfl⟩
 obtain⟨e1,e2,e3⟩:=hE m (jo _)
 refine⟨by rw[←hst,←e1];exact h.step,by rw[←hst,←e1,←e2];exact h.fp,h.dst,h.back,?_,?_,by rw[←hst,←e1];exact h.hard⟩
 ·intro x hx
  rw[←e3]at hx
  obtain⟨e,he,hb,hxe⟩:=h.up x hx
  refine⟨e,he,hb,hxe.imp id fun hxe=>?_⟩
  rw[←(hE e.on (Nat.le_of_lt (h.back e he hb))).2.2]
  exact hxe
 ·intro j hj
  rw[←e3,←e2,←(hE j (by omega)).2.1]
  exact h.ind j hj
theorem Oaa:∀{r l:List Nat} {x:Nat},x∈Naa r l→x∈r∨x∈l
 |[],_,_,h=>.inr h
 |y::r,l,x,h=>by
  simp only[Naa]at h
  rcases Oaa h with h|h
  ·exact .inl (jr _ h)
  ·cases hm:XH l y with
   |true=>rw[hm]at h;exact .inr h
   |false=>
    rw[hm]at h
    rcases jp.1 h with h|h
    ·exact .inl (by rw[h];simp)
    ·exact .inr h
theorem L2{prev:List (Nat×(List Nat×FP))}:∀{es:List Edge} {l:List Nat} {x:Nat},x∈O5 prev es l→x∈l∨∃e,e∈es∧Region.binds .any e=true∧(x=e.on∨∃p,Dc prev e.on=some p∧x∈p.1)
 |[],l,x,h=>.inl h
 |e::es,l,x,h=>by
  simp only[O5]at h
  cases hb:Region.binds .any e with
  |false=>
   rw[hb]at h
   rcases L2 h with h|⟨e',he',hb',hx⟩
   ·exact .inl h
   ·exact .inr ⟨e',jr _ he',hb',hx⟩
  |true=>
   rw[hb]at h
   rcases L2 h with h|⟨e',he',hb',hx⟩
   ·rcases Oaa h with h|h
    ·refine .inr ⟨e,by simp,hb,?_⟩
     rcases jp.1 h with h|h
     ·exact .inl h
     ·split at h
      ·rename_i a f hp;exact .inr ⟨_,hp,h⟩
      ·simp at h
    ·exact .inl h
   ·exact .inr ⟨e',jr _ he',hb',hx⟩
theorem Hav:∀(l:List Oper) (i:Nat) (prev:List (Nat×(List Nat×FP))) (s:AS) (E:Nat→Ef) (F:Nat→FP) (anc:Nat→List Nat),ops.toList.drop i=l→YL G H ops l i prev s k=some out→
 Ml (Hf ops E (fun _=>true) s0 i) s→(∀j,j<i→Dc prev j=some (anc j,F j))→(∀m o,m<i→ops[m]?=some o→PM G H ops s0 E F anc m o)→
 ∃E F anc,(∀m o,ops[m]?=some o→PM G H ops s0 E F anc m o)∧∃sf,k sf=some out∧Eqv (Hf ops E (fun _=>true) s0 ops.size) sf
 |[],i,prev,s,E,F,anc,hl,he,hs,hprev,hPM=>by
  have hi:ops.size≤i:=by
   have:=congrArg ja hl
   simp at this
   omega
  have hst:Hf ops E (fun _=>true) s0 i=Hf ops E (fun _=>true) s0 ops.size:=by
   clear hs he hl hprev hPM
   induction i with
   |zero=>
    have:ops.size=0:=by omega
    rw[this]
   |succ i ih=>
    by_cases h:ops.size=i+1
    ·rw[h]
    ·rw[←ih (by omega)]
     have:ops[i]?=none:=Array.getElem?_eq_none (by omega)
     simp only[Hf,this]
  refine⟨E,F,anc,fun m o ho=>hPM m o ?_ ho,s,he,by rw[←hst];exact hs.toEqv⟩
  have:=(Array.getElem?_eq_some_iff.1 ho).1
  omega
 |o::l,i,prev,s,E,F,anc,hl,he,hs,hprev,hPM=>by
  have hi:i<ops.size:=by
   have:=congrArg ja hl
   simp at this
   omega
  have hoi:ops[i]?=some o:=by
   have h1:=congrArg (·[0]?) hl
   simpa using h1
  have hl':ops.toList.drop (i+1)=l:=by
   have h1:=congrArg (List.drop 1) hl
   simpa[qs,Nat.add_comm]using h1
  have next:∀(an:List Nat) (f:FP) (e:Ef) (sx:AS),an=O5 prev o.after.toList []→(∀e,e∈o.after.toList→Region.binds .any e=true→e.on<i)→DS an f prev=true→Ml s sx→
   LZ G ops (Hf ops E (fun _=>true) s0 i) o e→GaI H ops (Hf ops E (fun _=>true) s0 i) o e f→I2 H (Hf ops E (fun _=>true) s0 i) e→Qi sx o.dst e.1 e.2 (fun s'=>YL G H ops l (i+1) ((i,(an,f))::prev) s' k)=some out→
   ∃E F anc,(∀m o,ops[m]?=some o→PM G H ops s0 E F anc m o)∧∃sf,k sf=some out∧Eqv (Hf ops E (fun _=>true) s0 ops.size) sf:=by
   intro an f e sx han hback hok hsx hstep hfp hhard hfin
   have hdst:∀t,o.dst=some t→t<sx.n:=by
    intro t ht
    unfold Qi at hfin
    rw[ht]at hfin
    simp only at hfin
    cases hb:yd t sx.n with
    |true=>rwa [yg]at hb
    |false=>rw[hb]at hfin;simp at hfin
   rw[Z7 hdst]at hfin
   have hn:sx.n=s0.n:=by rw[hsx.n,hs.n,Mac]
   have hEi:∀j,j<i→E j=(fun j=>if j=i then e else E j) j∧F j=(fun j=>if j=i then f else F j) j∧anc j=(fun j=>if j=i then an else anc j) j:=by
    intro j hj
    have:j≠i:=by omega
    simp[this]
   have hst:Hf ops E (fun _=>true) s0 i=Hf ops (fun j=>if j=i then e else E j) (fun _=>true) s0 i:=BG i fun j hj=>⟨(hEi j hj).1,rfl⟩
   refine Hav l (i+1) _ _ (fun j=>if j=i then e else E j) (fun j=>if j=i then f else F j) (fun j=>if j=i then an else anc j) hl' hfin ?_ ?_ ?_
   ·have:Hf ops (fun j=>if j=i then e else E j) (fun _=>true) s0 (i+1)=putE (Hf ops E (fun _=>true) s0 i) o.dst e:=by
     rw[hst]
     simp only[Hf,hoi,zj,if_true]
    rw[this]
    exact(hs.trans hsx).putE _ _
   ·intro j hj
    rw[Qd]
    by_cases hji:i=j
    ·subst hji;simp
    ·have hne:j≠i:=fun e=>hji e.symm
     rw[if_neg hji,hprev j (by omega)]
     simp[hne]
   ·intro m om hm hom
    by_cases hmi:m=i
    ·subst hmi
     rw[hoi]at hom
     simp only[jc]at hom
     subst hom
     refine⟨?_,?_,fun t ht=>by rw[←hn];exact hdst t ht,hback,?_,?_,by rw[←hst];simpa using hhard⟩
     ·rw[←hst];simpa using hstep
     ·rw[←hst];simpa using hfp
     ·intro x hx
      simp only[if_true]at hx
      rw[han]at hx
      rcases L2 hx with hx|⟨e',he',hb',hx⟩
      ·simp at hx
      ·have hlt:=hback e' he' hb'
       refine⟨e',he',hb',hx.imp id ?_⟩
       rintro⟨p,hp,hxp⟩
       rw[hprev _ hlt]at hp
       simp only[jc]at hp
       subst hp
       have:e'.on≠m:=by omega
       simpa[this]using hxp
     ·intro j hj
      have hok':=hok
      unfold DS at hok'
      rw[yz]at hok'
      have hmem:=IE (hprev j hj)
      have h1:=hok' _ hmem
      simp only[qz]at h1
      have hjm:j≠m:=by omega
      simp only[if_true,hjm,if_false]
      exact h1.imp J0.1 id
    ·exact(hPM m om (by omega) hom).congr fun j hj=>hEi j (by omega)
  have hfpOk:∀(g:List Nat) (e:Ef),(∀j want t,o.guard=some (j,want)→(ops[j]?).bind (·.dst)=some t→t∈g)→GaI H ops (Hf ops E (fun _=>true) s0 i) o e (Iad H s o g e.1 e.2):=by
   intro g e hg
   refine⟨rfl,rfl,rfl,fun t ht=>qx _ ht,fun j want t hgu ht=>qw _ (hg j want t hgu ht),fun hmv x hx d hd id hm=>?_⟩
   have hmem:id∈HW s (OP o.op) (Ge o.op):=by
    refine Aag hx ?_ (hm.imp (fun h=>h) fun h=>⟨h.1,(Zaj (fun j=>hs.hp j) d)▸h.2⟩)
    rw[←hd]
    exact Gad hx fun t _=>hs.tm t
   show id∈(bif GL o.op then[]else bif Xi o.op then _ else _)∨_
   rw[hmv]
   cases hsp:Xi o.op with
   |false=>exact .inl hmem
   |true=>exact(Tab hmem).imp (fun h=>h) fun h=>⟨rfl,h⟩
  simp only[YL]at he
  cases hbk:Daz i o.after.toList with
  |false=>rw[hbk]at he;simp at he
  |true=>
   rw[hbk]at he
   simp only[zj]at he
   have hback:∀e,e∈o.after.toList→Region.binds .any e=true→e.on<i:=by
    intro e hem hbe
    unfold Daz at hbk
    rw[yz]at hbk
    have:=hbk e hem
    rw[hbe]at this
    simp only[jg,yw]at this
    rwa [yg]at this
   have hEff:∀(sx:AS) (K:D→List (Nat×Option Ra)→Option Out),Ml s sx→Mc G sx o K=some out→∃e:Ef,K e.1 e.2=some out∧J6 G (Hf ops E (fun _=>true) s0 i) o e:=by
    intro sx K hsx hK
    obtain⟨d,u,h1,h2⟩:=KaI hK
    refine⟨(d,u),h1,?_⟩
    have:J6 G sx o (d,u):=h2
    exact this.congr ((hs.trans hsx).symm.agr o)
   cases hg:o.guard with
   |none=>
    rw[hg]at he
    simp only at he
    obtain⟨e,h1,h2⟩:=hEff s _ (Ml.refl s) he
    simp only[Sa,jd]at h1
    exact next _ _ e s rfl hback h1.1.1 (Ml.refl s) (by unfold LZ;rw[hg];exact h2) (hfpOk [] e (by intro j want t hgu;rw[hg]at hgu;simp at hgu)) (Jad h2 h1.1.2) h1.2
   |some g=>
    obtain⟨j,want⟩:=g
    rw[hg]at he
    simp only at he
    split at he
    ·rename_i t ht
     have hgt:∀j' want' t',o.guard=some (j',want')→(ops[j']?).bind (·.dst)=some t'→t'∈[t]:=by
      intro j' want' t' hgu ht'
      rw[hg]at hgu
      simp only[jc,jh]at hgu
      obtain⟨rfl,rfl⟩:=hgu
      rw[ht]at ht'
      simp only[jc]at ht'
      rw[ht'];simp
     split at he
     ·rename_i β hd
      have hdst:Dc (Hf ops E (fun _=>true) s0 i).tm t=some (.t .b β):=by rw[←hs.tm];exact hd
      have goal1:∀e:Ef,(if β=want then J6 G (Hf ops E (fun _=>true) s0 i) o e else e=(.und,[]))→LZ G ops (Hf ops E (fun _=>true) s0 i) o e:=by
       intro e h
       unfold LZ
       rw[hg]
       exact⟨t,ht,.inl ⟨β,hdst,h⟩⟩
      cases hβ:(show Bool from β)with
      |true=>
       have hβ':β=true:=hβ
       subst hβ'
       simp only[zj]at he
       cases want with
       |true=>
        simp only[zj]at he
        obtain⟨e,h1,h2⟩:=hEff _ _ (Ml.refine hd) he
        simp only[Sa,jd]at h1
        exact next _ _ e _ rfl hback h1.1.1 (Ml.refine hd) (goal1 e (by rw[if_pos rfl];exact h2)) (hfpOk [t] e hgt) (Jad h2 h1.1.2) h1.2
       |false=>
        simp only[zk,Sa]at he
        exact next _ _ (.und,[]) _ rfl hback he.1 (Ml.refine hd) (goal1 _ (by rw[if_neg (by simp)])) (hfpOk [t] (.und,[]) hgt) (by intro id _ hm;simp at hm) he.2
      |false=>
       have hβ':β=false:=hβ
       subst hβ'
       simp only[zk]at he
       cases want with
       |true=>
        simp only[zj,Sa]at he
        exact next _ _ (.und,[]) _ rfl hback he.1 (Ml.refine hd) (goal1 _ (by rw[if_neg (by simp)])) (hfpOk [t] (.und,[]) hgt) (by intro id _ hm;simp at hm) he.2
       |false=>
        simp only[zk]at he
        obtain⟨e,h1,h2⟩:=hEff _ _ (Ml.refine hd) he
        simp only[Sa,jd]at h1
        exact next _ _ e _ rfl hback h1.1.1 (Ml.refine hd) (goal1 e (by rw[if_pos rfl];exact h2)) (hfpOk [t] e hgt) (Jad h2 h1.1.2) h1.2
     ·rename_i hd
      simp only[Sa]at he
      refine next _ _ (.und,[]) s rfl hback he.1 (Ml.refl s) ?_ (hfpOk [t] (.und,[]) hgt) (by intro id _ hm;simp at hm) he.2
      unfold LZ
      rw[hg]
      exact⟨t,ht,.inr ⟨by rw[←hs.tm];exact hd,rfl⟩⟩
     ·simp at he
    ·simp at he
theorem Iau{n j:Nat}:DB (Array.replicate n false) j=false:=by
 unfold DB
 rw[Array.getD_eq_getD_getElem?,Array.getElem?_replicate]
 split<;>rfl
theorem ZaF(hG:Ll P A.I G)(hfz:MX G A O0)(hm:P.follows .mixedOrders=true){id:Nat}{H:List Nat}{draw:Bool}{s:AS}{σ:Nat→Value}{φ:Nat→List Nat}{a:Act}{w:World}(h:Kb n0 A O0 w0 s σ φ a w)
 (he:(bif draw then YL G H ops ops.toList 0 [] s k else ZO G id ops ops.toList 0 s k)=some out) (hQ:∀a w,Zf n0 A O0 w0 k out a w→Q .normal a w):(Code.region id ops draw).wp P Q a w:=by
 cases draw with
 |false=>
  simp only[zk]at he
  refine wp_region ?_
  have:=Sap (P:=P) (Q:=Q) hG hfz (fun s σ φ a w h1 h2=>hQ a w ⟨s,σ,φ,h1,h2⟩) ops.toList 0 s σ φ a w (by simp) he h
  simpa using this
 |true=>
  simp only[zj]at he
  obtain⟨E,F,anc,hPM,sf,h1,h2⟩:=Hav (s0:=s) ops.toList 0 [] s (fun _=>(.und,[])) (fun _=>⟨[],[],none,[],[]⟩) (fun _=>[]) (by simp) he (Ml.refl s) (by intro j hj;omega) (by intro m o hm;omega)
  refine wp_region_any hm ?_
  refine ZaJ hG hfz hPM (fun σ φ a w hc=>hQ a w ⟨sf,σ,φ,h1,hc.eqv h2⟩) ops.size (Array.replicate ops.size false) σ φ a _ (by simp) ?_ ?_ ?_
  ·have:=List.countP_le_length (p:=fun j=>!(Array.replicate ops.size false).getD j true) (l:=zb ops.size)
   simpa using this
  ·intro j o ho hL
   rw[Iau]at hL
   simp at hL
  ·have:Hf ops E (DB (Array.replicate ops.size false)) s ops.size=s:=by
    rw[M9 (i:=0) ops.size (zd _) fun j _ _=>Iau]
    rfl
   rw[this]
   exact h.drew
end
theorem QaD{s:AS}:∀{td:TD} {d:D} {x:T td.ty} {m:Km},Ye s td d=some (x,m)→(JA td x).isAgg=d.isAgg:=by
 intro td
 cases td with
 |data τ=>
  intro d x m h
  simp only[Ye]at h
  split at h
  ·rename_i y hy
   simp only[jc,jh]at h
   obtain⟨rfl,_⟩:=h
   have hs:=(Bj (w:=default) (σ:=fun _=>undef) (O:=fun _=>False) (hp:=fun _=>none) hy).1
   rw[hs.isAgg]
   cases τ<;>rfl
  ·simp at h
 |own id e dp=>
  intro d x m h
  cases d<;>simp[Ye]at h<;>rfl
 |ptr id p=>
  intro d x m h
  cases d<;>simp[Ye]at h<;>rfl
 |hol id e p τ td=>
  intro d x m h
  cases d<;>simp[Ye]at h<;>rfl
 |arr id e=>
  intro d x m h
  cases d<;>first|rfl|(simp[Ye]at h;done)
 |mov id e=>
  intro d x m h
  cases d<;>simp[Ye]at h<;>rfl
 |mpo id k v=>
  intro d x m h
  cases d<;>simp[Ye]at h<;>rfl
 |mqo id kk e=>
  intro d x m h
  cases d<;>simp[Ye]at h<;>rfl
 |pr a b=>
  intro d x m h
  simp only[Ye]at h
  cases d with
  |t τ v=>cases τ<;>simp[D.fst]at h<;>rfl
  |pr u v=>rfl
  |_=>simp[D.fst]at h
 |un=>
  intro d x m h
  simp only[Ye]at h
  split at h
  ·rename_i y hy
   have hs:=(Bj (w:=default) (σ:=fun _=>undef) (O:=fun _=>False) (hp:=fun _=>none) hy).1
   rw[hs.isAgg]
   rfl
  ·simp at h
def N1(m m':Km):Prop:=∀p,p∈m→p∈m'
section
variable{w:World} {s:AS} {σ σ':Nat→Value} {O O':Nat→Prop} {hp':Nat→Option Ra} {m:Km}
structure TOk(s:AS)(σ σ':Nat→Value)(hp':Nat→Option Ra)(m:Km):Prop where
 isS:∀j i,(j,some i)∈m→σ' j=σ i
 isN:∀j,(j,none)∈m→σ' j=.slice none 0 0
 isB:∀j i ρ d,(j,some i)∈m→hp' j=some (.box ρ d)→∃d',s.heap i=some (.box ρ d')
 isR:∀j i Ka r,(j,some i)∈m→hp' j=some Ka→Ka.rowN=some r→∃blk',s.heap i=some blk'∧blk'.rowN=some r
theorem R5(hT:TOk s σ σ' hp' m)(hO:∀b,b<w.heap.size→¬O b→¬O' b):∀{td:TD} {d:D} {x:T td.ty} {m0:Km} {cs:List Value},Ye s td d=some (x,m0)→N1 m0 m→Pb w O s.heap σ d cs→
 Pb w O' hp' σ' (JA td x) cs:=by
 intro td
 induction td with
 |data τ=>
  intro d x m0 cs h hm hr
  simp only[Ye]at h
  split at h
  ·rename_i y hy
   simp only[jc,jh]at h
   obtain⟨rfl,_⟩:=h
   exact Bb.stable (fun _ _ _=>rfl) hO ((Bj hy).2 _ hr)
  ·simp at h
 |own id' e dp=>
  intro d x m0 cs h hm hr
  cases d with
  |own id=>
   simp only[Ye]at h
   split at h
   ·rename_i e' dp' xs hb
    split at h
    ·rename_i q hq
     subst q
     simp only[Sa]at h
     obtain⟨_,h⟩:=h
     simp only[jc,jh]at h
     obtain⟨rfl,rfl⟩:=h
     obtain⟨v,hcs,h1,hv⟩:=hr
     refine⟨v,hcs,h1,fun _ _ _ _=>?_⟩
     rw[hT.isS id' id (hm _ (by simp))]
     exact hv _ _ hb rfl
    ·simp at h
   ·simp at h
  |nil=>
   simp only[Ye,jc,jh]at h
   obtain⟨rfl,rfl⟩:=h
   simp only[Pb]at hr
   exact⟨_,hr,rfl,fun _ _ _ _=>(hT.isN id' (hm _ (by simp))).symm⟩
  |_=>simp[Ye]at h
 |mpo id' k v=>
  intro d x m0 cs h hm hr
  cases d with
  |mpo id=>
   simp only[Ye]at h
   split at h
   ·rename_i k' v' xs hb
    split at h
    ·rename_i q1 q2 hq1 hq2
     subst q1
     subst q2
     simp only[jc,jh]at h
     obtain⟨rfl,rfl⟩:=h
     obtain⟨u,hcs,h1,hv⟩:=hr
     refine⟨u,hcs,h1,fun _ _ _=>?_⟩
     rw[hT.isS id' id (hm _ (by simp))]
     exact hv _ hb rfl
    ·simp at h
   ·simp at h
  |_=>simp[Ye]at h
 |mqo id' kk e=>
  intro d x m0 cs h hm hr
  cases d with
  |mpo id=>
   simp only[Ye]at h
   split at h
   ·rename_i kk' e' xs hb
    split at h
    ·rename_i q hq
     simp only[jc,jh]at h
     obtain⟨rfl,rfl⟩:=h
     obtain⟨u,hcs,h1,hv⟩:=hr
     refine⟨u,hcs,h1,fun _ _ _=>?_⟩
     rw[hT.isS id' id (hm _ (by simp))]
     exact hv _ hb rfl
    ·simp at h
   ·simp at h
  |_=>simp[Ye]at h
 |hol id' e p τ td _=>
  intro d x m0 cs h hm hr
  cases d with
  |own id=>
   simp only[Ye]at h
   split at h
   ·rename_i e' xs i x1 p' τ' d' hb
    split at h
    ·simp only[Sa]at h
     obtain⟨_,h⟩:=h
     split at h
     ·rename_i y m1 h1
      simp only[Sa]at h
      obtain⟨_,h⟩:=h
      simp only[jc,jh]at h
      obtain⟨rfl,rfl⟩:=h
      obtain⟨v,hcs,h1,hv⟩:=hr
      refine⟨v,hcs,h1,fun _ _ _ _=>?_⟩
      rw[hT.isS id' id (hm _ (by simp))]
      exact hv _ _ hb rfl
     ·simp at h
    ·simp at h
   ·simp at h
  |_=>simp[Ye]at h
 |arr id' e=>
  intro d x m0 cs h hm hr
  cases d with
  |eptr id i q=>
   cases i with
   |succ i=>simp[Ye]at h
   |zero=>
    cases q with
    |cons _ _=>simp[Ye]at h
    |nil=>
     simp only[Ye]at h
     split at h
     ·rename_i e' xs hb
      split at h
      ·rename_i q hq
       subst q
       simp only[jc,jh]at h
       obtain⟨rfl,rfl⟩:=h
       obtain⟨v,hcs,h1,hv⟩:=hr
       refine⟨v,hcs,h1,fun blk' e2 n2 hb' hr'=>?_⟩
       obtain⟨blk0,hb0,hr0⟩:=hT.isR id' id blk' _ (hm _ (by simp)) hb' hr'
       rw[hT.isS id' id (hm _ (by simp))]
       exact hv _ _ _ hb0 hr0
      ·simp at h
     ·simp at h
  |_=>simp[Ye]at h
 |mov id' e=>
  intro d x m0 cs h hm hr
  cases d with
  |own id=>
   simp only[Ye]at h
   split at h
   ·rename_i e' xs hb
    split at h
    ·rename_i q hq
     subst q
     simp only[jc,jh]at h
     obtain⟨rfl,rfl⟩:=h
     obtain⟨v,hcs,h1,hv⟩:=hr
     refine⟨v,hcs,h1,fun _ _ _ _=>?_⟩
     rw[hT.isS id' id (hm _ (by simp))]
     exact hv _ _ hb rfl
    ·simp at h
   ·rename_i e' xs k hb
    split at h
    ·rename_i q hq
     subst q
     simp only[jc,jh]at h
     obtain⟨rfl,rfl⟩:=h
     obtain⟨v,hcs,h1,hv⟩:=hr
     refine⟨v,hcs,h1,fun _ _ _ _=>?_⟩
     rw[hT.isS id' id (hm _ (by simp))]
     exact hv _ _ hb rfl
    ·simp at h
   ·simp at h
  |_=>simp[Ye]at h
 |ptr id' p=>
  intro d x m0 cs h hm hr
  cases d with
  |ptr id q=>
   simp only[Ye,Sa]at h
   obtain⟨hpq,h⟩:=h
   simp only[jc,jh]at h
   obtain⟨_,rfl⟩:=h
   have hpq':p=q:=by simpa using hpq
   subst hpq'
   obtain⟨v,hcs,h1,hv⟩:=hr
   refine⟨v,hcs,h1,fun ρ d hb=>?_⟩
   obtain⟨d',hd'⟩:=hT.isB id' id ρ d (hm _ (by simp)) hb
   rw[hT.isS id' id (hm _ (by simp))]
   exact hv ρ d' hd'
  |_=>simp[Ye]at h
 |pr a b iha ihb=>
  intro d x m0 cs h hm hr
  simp only[Ye]at h
  split at h
  ·rename_i d1 d2 h1 h2
   split at h
   ·rename_i u l v l' h3 h4
    simp only[jc,jh]at h
    obtain⟨rfl,rfl⟩:=h
    have key:∃c1 c2,cs=c1++c2∧Pb w O s.heap σ d1 c1∧Pb w O s.heap σ d2 c2:=by
     cases d with
     |t τ v=>
      cases τ with
      |p t1 t2=>
       simp only[D.fst,D.snd,jc]at h1 h2
       subst h1;subst h2
       exact hr
      |_=>simp[D.fst]at h1
     |pr d1' d2'=>
      simp only[D.fst,D.snd,jc]at h1 h2
      subst h1;subst h2
      exact hr
     |_=>simp[D.fst]at h1
    obtain⟨c1,c2,hc,r1,r2⟩:=key
    exact⟨c1,c2,hc,iha h3 (fun p hp=>hm p (qw _ hp)) r1,ihb h4 (fun p hp=>hm p (qx _ hp)) r2⟩
   ·simp at h
  ·simp at h
 |un=>
  intro d x m0 cs h hm hr
  simp only[Ye]at h
  split at h
  ·rename_i y hy
   exact(Bj hy).2 _ hr
  ·simp at h
theorem TaI(hT:TOk s σ σ' hp' m)(hO:∀b,b<w.heap.size→¬O b→¬O' b){td:TD}{d:D}{x:T td.ty}{m0:Km}{v:Value}(h:Ye s td d=some (x,m0))(hm:N1 m0 m)(hr:Zd w O s.heap σ d v):
 Zd w O' hp' σ' (JA td x) v:=by
 have hne:Wf w O s.heap σ d v:=by
  cases d with
  |und=>cases td<;>simp[Ye,Hm,D.fst]at h
  |anyv=>cases td<;>simp[Ye,Hm,D.fst]at h
  |tup ds=>cases td<;>simp[Ye,Hm,D.fst]at h
  |_=>exact hr
 refine NF ?_
 unfold Wf at hne⊢
 rw[QaD h]
 split
 ·rename_i ha
  rw[if_pos ha]at hne
  obtain⟨cs,h1,h2⟩:=hne
  exact⟨cs,h1,R5 hT hO h hm h2⟩
 ·rename_i ha
  rw[if_neg ha]at hne
  exact R5 hT hO h hm hne
def Bai(s:AS)(m:Km)(j:Nat)(Ka:Ra):Prop:=
 ((j,none)∈m∧∃e dp,Ka=.row e dp ([]:List (T e)))∨
 ∃i,(j,some i)∈m∧((∃e dp dp' xs,Ka=.row e dp xs∧s.heap i=some (.row e dp' xs)∧(dp'=dp∨e.flat=true))∨
  (∃ρ d td x m0,Ka=.box ρ (JA td x)∧s.heap i=some (.box ρ d)∧Ye s td d=some (x,m0)∧N1 m0 m∧Tb ρ (JA td x))∨
  (∃e xs k x p τ d td y m0,Ka=.hol e xs k x p τ (JA td y)∧s.heap i=some (.hol e xs k x p τ d)∧Ye s td d=some (y,m0)∧N1 m0 m∧Tb τ (JA td y))∨
  (∃e xs k,Ka=.mov e xs k∧(s.heap i=some (.mov e xs k)∨(s.heap i=some (.row e true xs)∧k=0)))∨
  (∃k v xs,Ka=.mp k v xs∧s.heap i=some (.mp k v xs))∨
  ∃kk e xs,Ka=.mq kk e xs∧s.heap i=some (.mq kk e xs))
theorem B7:∀{td:TD} {d:D} {x:T td.ty} {m0:Km},Ye s td d=some (x,m0)→N1 m0 m→∀p,p∈OD td x→∃Ka,p.2=some Ka∧Bai s m p.1 Ka:=by
 intro td
 induction td with
 |own id' e dp=>
  intro d x m0 h hm p hp
  simp only[OD,qc]at hp
  subst hp
  cases d with
  |own id=>
   simp only[Ye]at h
   split at h
   ·rename_i e' dp' xs hb
    split at h
    ·rename_i q hq
     subst q
     simp only[Sa]at h
     obtain⟨hc,h⟩:=h
     simp only[jc,jh]at h
     obtain⟨rfl,rfl⟩:=h
     refine⟨_,rfl,.inr ⟨id,hm _ (by simp),.inl ⟨_,dp,dp',_,rfl,hb,?_⟩⟩⟩
     simpa using hc
    ·simp at h
   ·simp at h
  |nil=>
   simp only[Ye,jc,jh]at h
   obtain⟨rfl,rfl⟩:=h
   exact⟨_,rfl,.inl ⟨hm _ (by simp),e,dp,rfl⟩⟩
  |_=>simp[Ye]at h
 |hol id' e pth τ td ih=>
  intro d x m0 h hm p hp
  cases d with
  |own id=>
   simp only[Ye]at h
   split at h
   ·rename_i e' xs i x1 p' τ' d' hb
    split at h
    ·rename_i q1 q2 hq1 hq2
     subst q1
     obtain rfl:=Af hq2
     simp only[Sa]at h
     obtain⟨hpp,h⟩:=h
     have hpp:pth=p':=by simpa using hpp
     subst hpp
     split at h
     ·rename_i y m1 h1
      simp only[Sa]at h
      obtain⟨hsh,h⟩:=h
      simp only[jc,jh]at h
      obtain⟨rfl,rfl⟩:=h
      simp only[OD]at hp
      rcases jp.1 hp with rfl|hp
      ·exact⟨_,rfl,.inr ⟨id,hm _ (by simp),.inr (.inr (.inl ⟨_,_,i,_,_,_,d',td,y,m1,by simp only[jn],hb,h1,fun p hp=>hm p (jr _ hp),Uq hsh⟩))⟩⟩
      ·exact ih h1 (fun p hp=>hm p (jr _ hp)) p hp
     ·simp at h
    ·simp at h
   ·simp at h
  |_=>simp[Ye]at h
 |pr a b iha ihb=>
  intro d x m0 h hm p hp
  simp only[Ye]at h
  split at h
  ·split at h
   ·rename_i u l v l' h3 h4
    simp only[jc,jh]at h
    obtain⟨rfl,rfl⟩:=h
    simp only[OD]at hp
    rcases jl.1 hp with hp|hp
    ·exact iha h3 (fun p hp=>hm p (qw _ hp)) p hp
    ·exact ihb h4 (fun p hp=>hm p (qx _ hp)) p hp
   ·simp at h
  ·simp at h
 |arr id' e=>
  intro d x m0 h hm p hp
  simp only[OD,qc]at hp
  subst hp
  cases d with
  |eptr id i q=>
   cases i with
   |succ i=>simp[Ye]at h
   |zero=>
    cases q with
    |cons _ _=>simp[Ye]at h
    |nil=>
     simp only[Ye]at h
     split at h
     ·rename_i e' xs hb
      split at h
      ·rename_i q hq
       subst q
       simp only[jc,jh]at h
       obtain⟨rfl,rfl⟩:=h
       exact⟨_,rfl,.inr ⟨id,hm _ (by simp),.inl ⟨_,true,true,_,rfl,hb,.inl rfl⟩⟩⟩
      ·simp at h
     ·simp at h
  |_=>simp[Ye]at h
 |mpo id' k v=>
  intro d x m0 h hm p hp
  simp only[OD,qc]at hp
  subst hp
  cases d with
  |mpo id=>
   simp only[Ye]at h
   split at h
   ·rename_i k' v' xs hb
    split at h
    ·rename_i q1 q2 hq1 hq2
     subst q1
     subst q2
     simp only[jc,jh]at h
     obtain⟨rfl,rfl⟩:=h
     exact⟨_,rfl,.inr ⟨id,hm _ (by simp),.inr (.inr (.inr (.inr (.inl ⟨_,_,_,rfl,hb⟩))))⟩⟩
    ·simp at h
   ·simp at h
  |_=>simp[Ye]at h
 |mqo id' kk e=>
  intro d x m0 h hm p hp
  simp only[OD,qc]at hp
  subst hp
  cases d with
  |mpo id=>
   simp only[Ye]at h
   split at h
   ·rename_i kk' e' xs hb
    split at h
    ·rename_i q hq
     have q2:=q
     simp only[Ty.mp.injEq,Ty.i.injEq,Ty.sl.injEq]at q2
     obtain⟨rfl,rfl⟩:=q2
     simp only[jc,jh]at h
     obtain⟨rfl,rfl⟩:=h
     exact⟨_,rfl,.inr ⟨id,hm _ (by simp),.inr (.inr (.inr (.inr (.inr ⟨_,_,_,rfl,hb⟩))))⟩⟩
    ·simp at h
   ·simp at h
  |_=>simp[Ye]at h
 |mov id' e=>
  intro d x m0 h hm p hp
  simp only[OD,qc]at hp
  subst hp
  cases d with
  |own id=>
   simp only[Ye]at h
   split at h
   ·rename_i e' xs hb
    split at h
    ·rename_i q hq
     subst q
     simp only[jc,jh]at h
     obtain⟨rfl,rfl⟩:=h
     exact⟨_,rfl,.inr ⟨id,hm _ (by simp),.inr (.inr (.inr (.inl ⟨_,_,0,rfl,.inr ⟨hb,rfl⟩⟩)))⟩⟩
    ·simp at h
   ·rename_i e' xs k hb
    split at h
    ·rename_i q hq
     subst q
     simp only[jc,jh]at h
     obtain⟨rfl,rfl⟩:=h
     exact⟨_,rfl,.inr ⟨id,hm _ (by simp),.inr (.inr (.inr (.inl ⟨_,_,k,by simp only[jn],.inl hb⟩)))⟩⟩
    ·simp at h
   ·simp at h
  |_=>simp[Ye]at h
 |_=>intro d x m0 h hm p hp;simp[OD]at hp
theorem Haq:∀{l:List (Tmp×TD)} {x:T (DI.tyT l)} {m0:Km},Raz s l=some (x,m0)→N1 m0 m→
 (∀t d',Dc (Mab l x) t=some d'→∃td d y m1,Dc s.tm t=some d∧Ye s td d=some (y,m1)∧N1 m1 m∧d'=JA td y)∧(∀p,p∈Cac l x→∃Ka,p.2=some Ka∧Bai s m p.1 Ka)
 |[],x,m0,h,hm=>⟨by simp[Mab,Dc],by simp[Cac]⟩
 |(t0,td)::r,x,m0,h,hm=>by
  simp only[Raz]at h
  split at h
  ·rename_i d hd
   split at h
   ·rename_i y m1 z m2 h1 h2
    simp only[jc,jh]at h
    obtain⟨rfl,rfl⟩:=h
    have hm1:N1 m1 m:=fun p hp=>hm p (qw _ hp)
    obtain⟨i1,i2⟩:=Haq h2 (fun p hp=>hm p (qx _ hp))
    refine⟨fun t d' ht=>?_,fun p hp=>?_⟩
    ·simp only[Mab]at ht
     rw[Qd]at ht
     split at ht
     ·rename_i e
      subst e
      simp only[jc]at ht
      exact⟨td,d,y,m1,hd,h1,hm1,ht.symm⟩
     ·exact i1 t d' ht
    ·simp only[Cac]at hp
     rcases jl.1 hp with hp|hp
     ·exact B7 h1 hm1 p hp
     ·exact i2 p hp
   ·simp at h
  ·simp at h
theorem Gaq:∀{l:List (Nat×Ty×TD)} {x:T (DI.tyB l)} {m0 m':Km},Qak s l m0=some (x,m')→N1 m' m→
 N1 m0 m∧∀p,p∈Lab l x→∃Ka,p.2=some Ka∧Bai s m p.1 Ka
 |[],x,m0,m',h,hm=>by
  simp only[Qak,jc,jh]at h
  obtain⟨_,rfl⟩:=h
  exact⟨hm,by simp[Lab]⟩
 |(id',ρ,td)::r,x,m0,m',h,hm=>by
  simp only[Qak]at h
  split at h
  ·rename_i id hid
   split at h
   ·rename_i ρ' d hb
    split at h
    ·rename_i q hq
     obtain rfl:=q.down
     split at h
     ·rename_i y m1 h1
      simp only[Sa]at h
      obtain⟨hsh,h⟩:=h
      split at h
      ·rename_i z m2 h2
       simp only[jc,jh]at h
       obtain⟨rfl,rfl⟩:=h
       obtain⟨i1,i2⟩:=Gaq h2 hm
       have hm0:N1 m0 m:=fun p hp=>i1 p (qw _ hp)
       have hm1:N1 m1 m:=fun p hp=>i1 p (qx _ hp)
       refine⟨hm0,fun p hp=>?_⟩
       simp only[Lab]at hp
       rcases jp.1 hp with rfl|hp
       ·exact⟨_,rfl,.inr ⟨id,hm0 _ (IE hid),.inr (.inl ⟨_,d,td,y,m1,rfl,hb,h1,hm1,Uq hsh⟩)⟩⟩
       ·rcases jl.1 hp with hp|hp
        ·exact B7 h1 hm1 p hp
        ·exact i2 p hp
      ·simp at h
     ·simp at h
    ·simp at h
   ·simp at h
  ·simp at h
end
theorem V0:∀{m:Km},YT m=true→∀j i,(j,some i)∈m→(j<500000∧i<500000)∨j=i
 |[],_,_,_,h=>by simp at h
 |(j0,some i0)::r,hp,j,i,h=>by
  simp only[YT,jd,qz]at hp
  rcases jp.1 h with e|h
  ·simp only[jh,jc]at e
   obtain⟨rfl,rfl⟩:=e
   rcases hp.1 with h1|h1
   ·rw[yg,yg]at h1;exact .inl h1
   ·exact .inr (ju h1)
  ·exact V0 hp.2 j i h
 |(j0,none)::r,hp,j,i,h=>by
  simp only[YT,jd]at hp
  rcases jp.1 h with e|h
  ·simp at e
  ·exact V0 hp.2 j i h
theorem U0:∀{m:Km},YT m=true→∀j,(j,none)∈m→j<500000
 |[],_,_,h=>by simp at h
 |(j0,some i0)::r,hp,j,h=>by
  simp only[YT,jd]at hp
  rcases jp.1 h with e|h
  ·simp at e
  ·exact U0 hp.2 j h
 |(j0,none)::r,hp,j,h=>by
  simp only[YT,jd]at hp
  rcases jp.1 h with e|h
  ·simp only[jh,and_true]at e
   subst e
   have:=hp.1
   rwa [yg]at this
  ·exact U0 hp.2 j h
theorem Uau{m:Km}(h:(m.all fun x=>m.all fun y=>FS x y)=true){x y:Nat×Option Nat}(hx:x∈m)(hy:y∈m):FS x y=true:=
 yz.1 (yz.1 h x hx) y hy
theorem AaK{m:Km}(h:(m.all fun x=>m.all fun y=>FS x y)=true){j:Nat}{a c:Option Nat}(hx:(j,a)∈m)(hy:(j,c)∈m):a=c:=by
 have:=Uau h hx hy
 unfold FS at this
 cases a with
 |none=>cases c with
  |none=>rfl
  |some c=>simp at this
 |some a=>cases c with
  |none=>simp at this
  |some c=>simpa[Nat.beq_eq]using this
theorem BaK{m:Km}(h:(m.all fun x=>m.all fun y=>FS x y)=true){j j' i:Nat}(hx:(j,some i)∈m)(hy:(j',some i)∈m):j=j':=by
 have:=Uau h hx hy
 unfold FS at this
 simpa using this
theorem Kaf{α:Type}{j:Nat}{a:α}:∀{m:List (Nat×α)},(j,a)∈m→∃c,Dc m j=some c∧(j,c)∈m
 |[],h=>by simp at h
 |(j0,a0)::r,h=>by
  rw[Qd]
  by_cases hj:j0=j
  ·subst hj;exact⟨a0,by simp,by simp⟩
  ·rw[if_neg hj]
   rcases jp.1 h with e|h
   ·simp only[jh]at e
    exact absurd e.1.symm hj
   ·obtain⟨c,h1,h2⟩:=Kaf h
    exact⟨c,h1,jr _ h2⟩
theorem JE{m:Km}(h:(m.all fun x=>m.all fun y=>FS x y)=true){j:Nat}{a:Option Nat}(hx:(j,a)∈m):Dc m j=some a:=by
 obtain⟨c,h1,h2⟩:=Kaf hx
 rw[h1,AaK h hx h2]
section
variable{n0:Nat} {A:Fx} {O0:Nat→Prop} {w0 w:World} {s:AS} {σ:Nat→Value} {φ:Nat→List Nat} {a:Act}
theorem S5(h:Kb n0 A O0 w0 s σ φ a w){p:DI}{x:p.X}(he:ext p s=some x):∃σ' φ',Kb n0 A O0 w0 (EV p x s.n) σ' φ' a w:=by
 unfold ext at he
 split at he
 ·rename_i x1 m1 h1
  split at he
  ·rename_i x2 m h2
   simp only[Sa]at he
   obtain⟨hmo,he⟩:=he
   simp only[jc]at he
   subst he
   simp only[LaP,jd]at hmo
   obtain⟨hn1,hpo⟩:=hmo
   obtain⟨hm1,hB⟩:=Gaq h2 (fun p hp=>hp)
   obtain⟨hT1,hT2⟩:=Haq h1 hm1
   let σ':Nat→Value:=fun j=>match Dc m j with
    |some (some i)=>σ i
    |some none=>.slice none 0 0
    |none=>σ j
   let φ':Nat→List Nat:=fun j=>match Dc m j with
    |some (some i)=>φ i
    |_=>[]
   have hσs:∀j i,(j,some i)∈m→σ' j=σ i∧φ' j=φ i:=fun j i hj=>by
    have:=JE hn1 hj
    simp only[σ',φ',this,and_self]
   have hσn:∀j,(j,none)∈m→σ' j=.slice none 0 0∧φ' j=[]:=fun j hj=>by
    have:=JE hn1 hj
    simp only[σ',φ',this,and_self]
   have hent:∀j Ka,(EV p (x1,x2) s.n).heap j=some Ka→Bai s m j Ka:=by
    intro j Ka hj
    have hmem:=AS.heap_mem hj
    simp only[EV]at hmem
    rcases jl.1 hmem with hmem|hmem
    ·obtain⟨blk',e,hE⟩:=hT2 _ hmem
     simp only[jc]at e
     subst e
     exact hE
    ·obtain⟨blk',e,hE⟩:=hB _ hmem
     simp only[jc]at e
     subst e
     exact hE
   have hlive:∀j Ka,(EV p (x1,x2) s.n).heap j=some Ka→φ' j=[]∨∃i blk0,(j,some i)∈m∧s.heap i=some blk0∧φ' j=φ i:=by
    intro j Ka hj
    rcases hent j Ka hj with⟨hn,_⟩|⟨i,hi,⟨e,dp,dp',xs,_,hb,_⟩|⟨ρ,d,td,y,m0,_,hb,_⟩|⟨e,xs,k,x,p,τ,d,td,y,m0,_,hb,_⟩|⟨e,xs,k,_,hb|⟨hb,_⟩⟩|⟨_,_,_,_,hb⟩|⟨_,_,_,_,hb⟩⟩
    ·exact .inl (hσn j hn).2
    ·exact .inr ⟨i,_,hi,hb,(hσs j i hi).2⟩
    ·exact .inr ⟨i,_,hi,hb,(hσs j i hi).2⟩
    ·exact .inr ⟨i,_,hi,hb,(hσs j i hi).2⟩
    ·exact .inr ⟨i,_,hi,hb,(hσs j i hi).2⟩
    ·exact .inr ⟨i,_,hi,hb,(hσs j i hi).2⟩
    ·exact .inr ⟨i,_,hi,hb,(hσs j i hi).2⟩
    ·exact .inr ⟨i,_,hi,hb,(hσs j i hi).2⟩
   have hOO:∀b,b<w.heap.size→¬OO O0 s φ b→¬OO O0 (EV p (x1,x2) s.n) φ' b:=by
    rintro b _ hno (ho|⟨j,Ka,hj,hm⟩)
    ·exact hno (.inl ho)
    ·rcases hlive j Ka hj with hφ|⟨i,blk0,_,hb,hφ⟩
     ·rw[hφ]at hm;simp at hm
     ·rw[hφ]at hm;exact hno (.inr ⟨i,blk0,hb,hm⟩)
   have hTOk:TOk s σ σ' (EV p (x1,x2) s.n).heap m:=by
    refine⟨fun j i hj=>(hσs j i hj).1,fun j hj=>(hσn j hj).1,fun j i ρ d hj hb=>?_,fun j i Ka r hj hb hr=>?_⟩
    rcases hent j _ hb with⟨hn,e,dp,hh⟩|⟨i',hi',⟨e,dp,dp',xs,hh,_⟩|⟨ρ',d',td,y,m0,hh,hb',_⟩|⟨e,xs,k,x,p,τ,d',td,y,m0,hh,_⟩|⟨e,xs,k,hh,_⟩|⟨_,_,_,hh,_⟩|⟨_,_,_,hh,_⟩⟩
    ·simp at hh
    ·simp at hh
    ·simp only[Ra.box.injEq]at hh
     have e1:=JE hn1 hj
     have e2:=JE hn1 hi'
     rw[e1]at e2
     simp only[jc]at e2
     subst e2
     exact⟨d',by rw[hb',hh.1]⟩
    ·simp at hh
    ·simp at hh
    ·simp at hh
    ·simp at hh
    ·have e1:=JE hn1 hj
     rcases hent j _ hb with⟨hn,_⟩|⟨i',hi',hx⟩
     ·have e2:=JE hn1 hn
      rw[e1]at e2
      simp at e2
     ·have e2:=JE hn1 hi'
      rw[e1]at e2
      simp only[jc]at e2
      subst e2
      rcases hx with⟨e,dp,dp',xs,rfl,hb',_⟩|⟨ρ',d',td,y,m0,rfl,_⟩|⟨e,xs,k,x,p,τ,d',td,y,m0,rfl,hb',_⟩|⟨e,xs,k,rfl,hb'|⟨hb',_⟩⟩|⟨_,_,_,rfl,_⟩|⟨_,_,_,rfl,_⟩
      ·exact⟨_,hb',hr⟩
      ·simp[Ra.rowN]at hr
      ·exact⟨_,hb',hr⟩
      ·exact⟨_,hb',hr⟩
      ·exact⟨_,hb',hr⟩
      ·simp[Ra.rowN]at hr
      ·simp[Ra.rowN]at hr
   refine⟨σ',φ',h.sz,h.df,?_,?_,?_,?_,?_,h.o0,h.fr,?_,h.iv0,h.ivw,?_⟩
   ·intro t d' hd
    obtain⟨td,d,y,m0,g1,g2,g3,g4⟩:=hT1 t d' hd
    obtain⟨v,hv,hr⟩:=h.tm t d g1
    rw[g4]
    exact⟨v,hv,TaI hTOk hOO g2 g3 hr⟩
   ·intro j Ka hj
    rcases hent j Ka hj with⟨hn,e,dp,rfl⟩|⟨i,hi,⟨e,dp,dp',xs,rfl,hb,hd⟩|⟨ρ,d,td,y,m0,rfl,hb,hex,hsub,hsh⟩|⟨e,xs,k,x,p,τ,d,td,y,m0,rfl,hb,hex,hsub,hsh⟩|⟨e,xs,k,rfl,hb⟩|⟨kk,vv,xs,rfl,hb⟩|⟨kk,e,xs,rfl,hb⟩⟩
    ·rw[Zm,(hσn j hn).1,(hσn j hn).2]
     exact⟨by simp,.inl ⟨rfl,rfl,rfl⟩⟩
    ·rw[Zm,(hσs j i hi).1,(hσs j i hi).2]
     have hrow:=Zm.1 (h.hp i _ hb)
     have hst:∀dq,Ij w (OO O0 s φ) dq e xs (σ i) (φ i)→Ij w (OO O0 (EV p (x1,x2) s.n) φ') dq e xs (σ i) (φ i):=by
      rintro dq ⟨hm,g|⟨bl,off,cap,cur,et,Fs,g1,hh,g2,g3,g4,hF,hel⟩⟩
      ·exact⟨hm,.inl g⟩
      ·exact⟨hm,.inr ⟨bl,off,cap,cur,et,Fs,g1,hh,g2,g3,g4,hF,hel.stable (fun _ _ _=>rfl) hOO (fun _ _=>rfl)⟩⟩
     rcases hd with rfl|hf
     ·exact hst _ hrow
     ·have hup:=hrow.up
      rw[hf,Bool.or_true]at hup
      cases dp with
      |true=>exact hst _ hup
      |false=>
       cases dp' with
       |false=>exact hst _ hrow
       |true=>
        have hown:=W5 (h.hp i _ hb) (.inl rfl)
        exact hst _ (Zm.1 (Iae (O:=OO O0 s φ) (hp:=s.heap) hown hf))
    ·rw[(hσs j i hi).2]
     obtain⟨_,b,cur,et,g1,hh,hF,hr,hsz⟩:=h.hp i _ hb
     exact⟨hsh,b,cur,et,by rw[(hσs j i hi).1];exact g1,hh,hF,R5 hTOk hOO hex hsub hr,hsz⟩
    ·rw[(hσs j i hi).2]
     obtain⟨_,g1,g2,g3,bl,off,cap,cur,et,g4,g5,g6,g7,hr,hw⟩:=h.hp i _ hb
     refine⟨hsh,g1,g2,g3,bl,off,cap,cur,et,by rw[(hσs j i hi).1];exact g4,g5,g6,g7,R5 hTOk hOO hex hsub hr,fun w' c' h1 h2 h3 y Fy x' h4 h5=>?_⟩
     rw[(hσs j i hi).1]
     exact hw w' c' h1 h2 h3 y Fy x' h4 h5
    ·rw[(hσs j i hi).2]
     have hm0:Pd w (OO O0 s φ) s.heap σ i (.mov e xs k) (φ i):=by
      rcases hb with hb|⟨hb,rfl⟩
      ·exact h.hp i _ hb
      ·exact Ban (h.hp i _ hb)
     obtain⟨hlen,⟨g1,g2,g3⟩|⟨bl,off,cap,cur,et,Fs,g1,g⟩⟩:=hm0
     ·exact⟨hlen,.inl ⟨by rw[(hσs j i hi).1];exact g1,g2,g3⟩⟩
     ·exact⟨hlen,.inr ⟨bl,off,cap,cur,et,Fs,by rw[(hσs j i hi).1];exact g1,g⟩⟩
    ·rw[(hσs j i hi).2]
     obtain⟨r,es,clk,g1,g2,g3,g4,g5⟩:=h.hp i _ hb
     exact⟨r,es,clk,by rw[(hσs j i hi).1];exact g1,g2,g3,M6 (fun _ _ _=>rfl) hOO ⟨g4,g5⟩⟩
    ·rw[(hσs j i hi).2]
     obtain⟨r,es,clk,g1,g2⟩:=h.hp i _ hb
     exact⟨r,es,clk,by rw[(hσs j i hi).1];exact g1,g2⟩
   ·intro j Ka hj
    rcases hlive j Ka hj with hφ|⟨i,blk0,_,hb,hφ⟩
    ·rw[hφ];exact List.nodup_nil
    ·rw[hφ];exact h.nodup i blk0 hb
   ·intro j j' Ka blk' hne hj hj' b hb hb'
    rcases hlive j Ka hj with hφ|⟨i,blk0,hi,hbi,hφ⟩
    ·rw[hφ]at hb;simp at hb
    ·rcases hlive j' blk' hj' with hφ'|⟨i',blk0',hi',hbi',hφ'⟩
     ·rw[hφ']at hb';simp at hb'
     ·rw[hφ]at hb
      rw[hφ']at hb'
      by_cases hii:i=i'
      ·subst hii
       exact hne (BaK hn1 hi hi')
      ·exact h.disj i i' blk0 blk0' hii hbi hbi' b hb hb'
   ·intro j Ka hj b hb
    rcases hlive j Ka hj with hφ|⟨i,blk0,_,hbi,hφ⟩
    ·rw[hφ]at hb;simp at hb
    ·rw[hφ]at hb;exact h.fresh i blk0 hbi b hb
   ·intro j v hv
    have hlow:=A.low j v hv
    show σ' j=v
    simp only[σ']
    split
    ·rename_i i hg
     rcases V0 hpo j i (IE hg)with⟨hj,_⟩|rfl
     ·omega
     ·exact h.pin _ v hv
    ·rename_i hg
     have:=U0 hpo j (IE hg)
     omega
    ·exact h.pin j v hv
   ·intro j kk e xs hj
    rcases hent j _ hj with⟨hn,e,dp,hh⟩|⟨i,hi,⟨e,dp,dp',xs,hh,_⟩|⟨ρ',d',td,y,m0,hh,hb',_⟩|⟨e,xs,k,x,p,τ,d',td,y,m0,hh,_⟩|⟨e,xs,k,hh,_⟩|⟨_,_,_,hh,_⟩|⟨kk2,e2,xs2,hh,hb⟩⟩
    ·simp at hh
    ·simp at hh
    ·simp at hh
    ·simp at hh
    ·simp at hh
    ·simp at hh
    ·simp only[Ra.mq.injEq]at hh
     obtain⟨rfl,rfl,hh⟩:=hh
     simp only[heq_eq_eq]at hh
     subst hh
     rw[(hσs j i hi).1]
     exact(h.shr i _ _ _ hb).stable (fun _ _ _=>rfl) hOO (fun _ _=>rfl)
  ·simp at he
 ·simp at he
end
def XaX:Ex→Exit
 |.normal=>.normal
 |.exit id=>.exit id
 |.ret=>.ret
def NS{X R:Type}(step:X→Option (X⊕R)):Nat→X→R→Prop
 |0,_,_=>False
 |n+1,x,r=>step x=some (.inr r)∨∃x',step x=some (.inl x')∧NS step n x' r
def Pf:Code→List Code
 |.seq a b=>Pf a++Pf b
 |.cond _ a b=>Pf a++Pf b
 |.block _ c=>Pf c
 |.loop c=>c::Pf c
 |_=>[]
def Ta(G:Yf)(L:List (Nat×Na))(b:Code):Prop:=
 ∀r ls,Jn b=some r→Dc L r=some ls→∀x y,ls.F x=some y→∃m,NS (AX G L ls b) m x y
section
variable{P:Program} {n0:Nat} {A:Fx} {O0:Nat→Prop} {w0:World} {G:Yf} {L:List (Nat×Na)}
theorem Vaa(hG:Ll P A.I G)(hfz:MX G A O0)(hm:P.follows .mixedOrders=true):∀(c:Code),(∀b,b∈Pf c→Ta G L b)→∀{Out:Type} {k:Ex→AS→Option Out} {out:Out} {s:AS} {σ:Nat→Value} {φ:Nat→List Nat} {a:Act} {w:World} {Q:Exit→Act→World→Prop},
 GB G L c s k=some out→Kb n0 A O0 w0 s σ φ a w→(∀e s σ φ a w,k e s=some out→Kb n0 A O0 w0 s σ φ a w→Q (XaX e) a w)→c.wp P Q a w:=by
 intro c
 induction c with
 |skip=>
  intro _ Out k out s σ φ a w Q he h hQ
  simp only[GB]at he
  exact wp_skip (hQ .normal s σ φ a w he h)
 |region id ops draw=>
  intro _ Out k out s σ φ a w Q he h hQ
  simp only[GB]at he
  split at he
  ·rename_i s1 h1
   obtain⟨φ1,hc⟩:=AP hfz h h1
   refine ZaF (k:=fun s'=>match OX G.fz (DO G.att) G.att (1000*id+999) s' with
    |some s'=>k .normal s'
    |none=>none) hG hfz hm hc he fun a w ⟨s',σ',φ',h2,h3⟩=>?_
   simp only at h2
   split at h2
   ·rename_i s2 h4
    obtain⟨φ2,hc2⟩:=AP hfz h3 h4
    exact hQ .normal _ σ' φ2 a w h2 hc2
   ·simp at h2
  ·simp at he
 |seq x y ihx ihy=>
  intro hL Out k out s σ φ a w Q he h hQ
  simp only[GB]at he
  refine wp_seq (ihx (fun b hb=>hL b (by simp[Pf,hb])) he h fun e s' σ' φ' a' w' hk h'=>?_)
  cases e with
  |normal=>exact ihy (fun b hb=>hL b (by simp[Pf,hb])) hk h' hQ
  |exit j=>exact hQ (.exit j) s' σ' φ' a' w' hk h'
  |ret=>exact hQ .ret s' σ' φ' a' w' hk h'
 |cond x y z ihy ihz=>
  intro hL Out k out s σ φ a w Q he h hQ
  cases x with
  |tmp t=>
   simp only[GB]at he
   split at he
   ·rename_i β hd
    have hs:=h.same hd
    obtain⟨v,hv,hr⟩:=h.tm t _ hd
    rw[Zk]at hr
    subst hr
    have hev:a.eval (.tmp t)=.bool β:=by
     simp only[Act.eval]
     rw[Array.getD_eq_getD_getElem?,hv]
     rfl
    refine wp_cond_split hev (fun hb=>?_) (fun hb=>?_)
    ·subst hb
     simp only[zj]at he
     exact ihy (fun b hb=>hL b (by simp[Pf,hb])) he hs hQ
    ·subst hb
     simp only[zk]at he
     exact ihz (fun b hb=>hL b (by simp[Pf,hb])) he hs hQ
   ·simp at he
  |const cv=>
   cases cv with
   |bool β=>
    simp only[GB]at he
    refine wp_cond_split (show a.eval (.const (.bool β))=.bool β from rfl) (fun hb=>?_) (fun hb=>?_)
    ·subst hb
     simp only[zj]at he
     exact ihy (fun b hb=>hL b (by simp[Pf,hb])) he h hQ
    ·subst hb
     simp only[zk]at he
     exact ihz (fun b hb=>hL b (by simp[Pf,hb])) he h hQ
   |_=>simp[GB]at he
  |_=>simp[GB]at he
 |block id c ih=>
  intro hL Out k out s σ φ a w Q he h hQ
  simp only[GB]at he
  refine wp_block (ih (fun b hb=>hL b (by simpa[Pf]using hb)) he h fun e s' σ' φ' a' w' hk h'=>?_)
  cases e with
  |normal=>exact hQ .normal s' σ' φ' a' w' hk h'
  |exit j=>
   simp only[XaX,Exit.inBlock]
   cases hb:qy j id with
   |true=>
    rw[if_pos (ju hb)]
    simp only[hb,zj]at hk
    exact hQ .normal s' σ' φ' a' w' hk h'
   |false=>
    rw[if_neg (fun e=>by rw[e,yl]at hb;simp at hb)]
    simp only[hb,zk]at hk
    exact hQ (.exit j) s' σ' φ' a' w' hk h'
  |ret=>exact hQ .ret s' σ' φ' a' w' hk h'
 |exit id=>
  intro _ Out k out s σ φ a w Q he h hQ
  simp only[GB]at he
  exact wp_exit (hQ (.exit id) s σ φ a w he h)
 |ret=>
  intro _ Out k out s σ φ a w Q he h hQ
  simp only[GB]at he
  exact wp_ret (hQ .ret s σ φ a w he h)
 |loop c ih=>
  intro hL Out k out s σ φ a w Q he h hQ
  simp only[GB]at he
  split at he
  ·rename_i r hr
   split at he
   ·rename_i ls hls
    split at he
    ·rename_i x hx
     simp only[Sa]at he
     obtain⟨hn,he⟩:=he
     have hn:=ju hn
     rw[qe]at he
     obtain⟨y,hy,he⟩:=he
     obtain⟨m,hit⟩:=hL c (by simp[Pf]) r ls hr hls x y hy
     obtain⟨σ1,φ1,h1⟩:=S5 h hx
     rw[hn]at h1 he
     refine wp_loop_rounds m ?_
     have key:∀(m:Nat) (x:ls.inT.X) (σ:Nat→Value) (φ:Nat→List Nat) (a:Act) (w:World),NS (AX G L ls c) m x y→Kb n0 A O0 w0 (EV ls.inT x ls.n) σ φ a w→Code.rounds P c Q m a w:=by
      intro m
      induction m with
      |zero=>intro x σ φ a w hit _;exact hit.elim
      |succ m ihm=>
       intro x σ φ a w hit h
       rw[rounds_succ]
       have body:∀z,AX G L ls c x=some z→(z=.inr y∨∃x',z=.inl x'∧NS (AX G L ls c) m x' y)→c.wp P (Exit.then (Code.rounds P c Q m) Q) a w:=by
        intro z hz hzy
        unfold AX at hz
        refine ih (fun b hb=>hL b (by simp[Pf,hb])) hz h fun e s' σ' φ' a' w' hk h'=>?_
        simp only[Sa]at hk
        obtain⟨hn',hk⟩:=hk
        have hn':=ju hn'
        cases e with
        |normal=>
         simp only at hk
         split at hk
         ·rename_i x' hx'
          simp only[jc]at hk
          obtain⟨σ2,φ2,h2⟩:=S5 h' hx'
          rw[hn']at h2
          rcases hzy with hzy|⟨x'',hzy,hit'⟩
          ·rw[hzy]at hk;simp at hk
          ·rw[hzy]at hk
           simp only[ze]at hk
           subst hk
           exact ihm x' σ2 φ2 a' w' hit' h2
         ·simp at hk
        |exit j=>
         simp only[Sa]at hk
         obtain⟨hj,hk⟩:=hk
         have hj:=ju hj
         split at hk
         ·rename_i y' hy'
          simp only[jc]at hk
          obtain⟨σ2,φ2,h2⟩:=S5 h' hy'
          rw[hn']at h2
          rcases hzy with hzy|⟨x'',hzy,_⟩
          ·rw[hzy]at hk
           simp only[Sum.inr.injEq]at hk
           subst hk
           simp only[qg]at he
           show Q (.exit j) a' w'
           rw[hj]
           exact hQ (.exit ls.exitId) _ σ2 φ2 a' w' he h2
          ·rw[hzy]at hk;simp at hk
         ·simp at hk
        |ret=>
         simp only at hk
         split at hk
         ·rename_i y' hy'
          simp only[jc]at hk
          obtain⟨σ2,φ2,h2⟩:=S5 h' hy'
          rw[hn']at h2
          rcases hzy with hzy|⟨x'',hzy,_⟩
          ·rw[hzy]at hk
           simp only[Sum.inr.injEq]at hk
           subst hk
           simp only[Sum.elim_inr]at he
           exact hQ .ret _ σ2 φ2 a' w' he h2
          ·rw[hzy]at hk;simp at hk
         ·simp at hk
       rcases hit with hit|⟨x',hit,hit'⟩
       ·exact body _ hit (.inl rfl)
       ·exact body _ hit (.inr ⟨x',rfl,hit'⟩)
     exact key m x σ1 φ1 a w hit h1
    ·simp at he
   ·simp at he
  ·simp at he
 |_=>intros;rename_i he _ _;simp[GB]at he
end
theorem Ld.mono{w:World}{O O':Nat→Prop}(hO:∀b,O' b→O b):∀{rt:Ty} {r:T rt} {fr:List Bool} {vs:List Value} {F:List Nat},Ld w O rt r fr vs F→Ld w O' rt r fr vs F
 |.u,_,[],[],_,h=>h
 |.p x y,r,f::fr,v::vs,F,h=>by
  obtain⟨cs,F1,F2,hv,hF,h1,h2⟩:=h
  refine⟨cs,F1,F2,hv,hF,?_,Ld.mono hO h2⟩
  cases f with
  |true=>exact h1
  |false=>
   simp only[jq,if_false]at h1⊢
   exact⟨h1.1.weaken hO,h1.2⟩
 |.u,_,_::_,_,_,h=>by simp[Ld]at h
 |.u,_,[],_::_,_,h=>by simp[Ld]at h
 |.p _ _,_,[],_,_,h=>by simp[Ld]at h
 |.p _ _,_,_::_,[],_,h=>by simp[Ld]at h
 |.i _,_,fr,vs,_,h=>by simp[Ld]at h
 |.b,_,fr,vs,_,h=>by simp[Ld]at h
 |.o,_,fr,vs,_,h=>by simp[Ld]at h
 |.mp _ _,_,fr,vs,_,h=>by simp[Ld]at h
 |.s,_,fr,vs,_,h=>by simp[Ld]at h
 |.sl _,_,fr,vs,_,h=>by simp[Ld]at h
section
variable{P:Program} {n0:Nat} {A:Fx} {O0:Nat→Prop} {w0 w:World} {s:AS} {σ:Nat→Value} {φ:Nat→List Nat} {a:Act} {G:Yf} {L:List (Nat×Na)}
def RU(w:World)(O:Nat→Prop)(hp:Nat→Option Ra)(σ:Nat→Value):D→List Value→Prop
 |.pr a b,v::vs=>Zd w O hp σ a v∧RU w O hp σ b vs
 |.un,[]=>True
 |_,_=>False
def K4(tmps:Array Value):ResultVar→Sem Value
 |.tmp t=>pure (tmps.getD t undef)
 |.cell a t=>do loadVar t (←asAddr (tmps.getD a undef))
theorem VK(hG:EnvTy P G)(h:Kb n0 A O0 w0 s σ φ a w):∀{rs:List ResultVar} {d:D},ND G s rs=some d→∃vs,(rs.mapM (K4 a.tmps)).run P w=.ok vs w∧RU w (OO O0 s φ) s.heap σ d vs
 |[],d,he=>by
  simp only[ND,jc]at he
  subst he
  exact⟨[],by simp,trivial⟩
 |.tmp t::r,d,he=>by
  simp only[ND]at he
  split at he
  ·rename_i d1 d2 h1 h2
   simp only[jc]at he
   subst he
   obtain⟨vs,hvs,hr⟩:=VK hG h h2
   obtain⟨v,hv,hru⟩:=h.tm t d1 h1
   have hg:a.tmps.getD t undef=v:=by rw[Array.getD_eq_getD_getElem?,hv];rfl
   refine⟨v::vs,?_,hru,hr⟩
   rw[List.mapM_cons]
   simp only[K4,qq,Sem.run_pure,qp,hvs,hg]
  ·simp at he
 |.cell t ty::r,d,he=>by
  simp only[ND]at he
  split at he
  ·rename_i id d2 h1 h2
   split at he
   ·rename_i ρ d1 τ hb hty
    split at he
    ·rename_i q hq
     obtain rfl:=q.down
     simp only[jc]at he
     subst he
     obtain⟨vs,hvs,hr⟩:=VK hG h h2
     obtain⟨v,hv,hru⟩:=h.tm t _ h1
     have hg:a.tmps.getD t undef=v:=by rw[Array.getD_eq_getD_getElem?,hv];rfl
     rw[QA]at hru
     obtain⟨b,hσ,hv'⟩:=hru.2 _ _ hb
     obtain⟨hs,b',cur,et,hσ',hh,hF,hrep,hsz⟩:=h.hp id _ hb
     rw[hσ]at hσ'
     simp at hσ'
     subst hσ'
     have hl:=Ky (P:=P) (hG.ty _ _ hty) (off:=0) hh (by omega)
     have hseg:Je cur 0 ρ.size=cur.toList:=by rw[←hsz];exact GaV cur
     rw[hseg]at hl
     refine⟨Oe ρ cur.toList::vs,?_,Bs hs hrep,hr⟩
     rw[List.mapM_cons]
     have hoff:Ec ρ []=0:=rfl
     rw[hoff]at hv'
     subst hv'
     simp only[K4,qq,Sem.run_pure,qp,hvs,hg,asAddr,hl]
    ·simp at he
   ·simp at he
  ·simp at he
theorem DZ(h:Kb n0 A O0 w0 s σ φ a w):∀{rt:Ty} {fr:List Bool} {d:D} {r:T rt} {l:List Nat} {vs:List Value},Jh s rt fr d=some (r,l)→RU w (OO O0 s φ) s.heap σ d vs→
 Ld w (OO O0 s φ) rt r fr vs (La φ l)∧∀j,j∈l→∃b,s.heap j=some b
 |.u,[],.un,r,l,vs,he,hr=>by
  simp only[Jh,jc,jh]at he
  obtain⟨_,rfl⟩:=he
  cases vs with
  |nil=>exact⟨by simp[Ld,La],by simp⟩
  |cons v vs=>simp[RU]at hr
 |.p x y,f::fr,.pr d1 d2,r,l,vs,he,hr=>by
  cases vs with
  |nil=>simp[RU]at hr
  |cons v vs=>
   simp only[Jh]at he
   split at he
   ·rename_i u l1 z l2 h1 h2
    simp only[jc,jh]at he
    obtain⟨rfl,rfl⟩:=he
    obtain⟨g1,g2⟩:=DZ h h2 hr.2
    cases f with
    |true=>
     simp only[zj]at h1
     obtain⟨hrep,hv⟩:=Cg (Ul h1) hr.1
     obtain⟨ho,hl⟩:=So h h1 hrep
     refine⟨⟨_,La φ l1,La φ l2,hv,Se,?_,g1⟩,?_⟩
     ·simpa using ho
     ·intro j hj
      rcases jl.1 hj with hj|hj
      ·exact hl j hj
      ·exact g2 j hj
    |false=>
     simp only[zk]at h1
     split at h1
     ·rename_i u' hu
      simp only[jc,jh]at h1
      obtain⟨rfl,rfl⟩:=h1
      obtain⟨hs,hvw⟩:=Bj (w:=w) (O:=OO O0 s φ) (hp:=s.heap) (σ:=σ) hu
      obtain⟨hrep,hv⟩:=Cg hs hr.1
      refine⟨⟨_,[],La φ l2,hv,by simp[La],?_,g1⟩,by simpa using g2⟩
      simpa using hvw _ hrep
     ·simp at h1
   ·simp at he
 |.u,_::_,d,_,_,_,he,_=>by cases d<;>simp[Jh]at he
 |.u,[],.und,_,_,_,he,_=>by simp[Jh]at he
 |.u,[],.anyv,_,_,_,he,_=>by simp[Jh]at he
 |.u,[],.mpo _,_,_,_,he,_=>by simp[Jh]at he
 |.u,[],.t _ _,_,_,_,he,_=>by simp[Jh]at he
 |.u,[],.nil,_,_,_,he,_=>by simp[Jh]at he
 |.u,[],.own _,_,_,_,he,_=>by simp[Jh]at he
 |.u,[],.ptr _ _,_,_,_,he,_=>by simp[Jh]at he
 |.u,[],.eptr _ _ _,_,_,_,he,_=>by simp[Jh]at he
 |.u,[],.rp _ _,_,_,_,he,_=>by simp[Jh]at he
 |.u,[],.pr _ _,_,_,_,he,_=>by simp[Jh]at he
 |.u,[],.tup _,_,_,_,he,_=>by simp[Jh]at he
 |.p _ _,[],d,_,_,_,he,_=>by cases d<;>simp[Jh]at he
 |.p _ _,_::_,.und,_,_,_,he,_=>by simp[Jh]at he
 |.p _ _,_::_,.anyv,_,_,_,he,_=>by simp[Jh]at he
 |.p _ _,_::_,.mpo _,_,_,_,he,_=>by simp[Jh]at he
 |.p _ _,_::_,.t _ _,_,_,_,he,_=>by simp[Jh]at he
 |.p _ _,_::_,.nil,_,_,_,he,_=>by simp[Jh]at he
 |.p _ _,_::_,.own _,_,_,_,he,_=>by simp[Jh]at he
 |.p _ _,_::_,.ptr _ _,_,_,_,he,_=>by simp[Jh]at he
 |.p _ _,_::_,.eptr _ _ _,_,_,_,he,_=>by simp[Jh]at he
 |.p _ _,_::_,.rp _ _,_,_,_,he,_=>by simp[Jh]at he
 |.p _ _,_::_,.un,_,_,_,he,_=>by simp[Jh]at he
 |.p _ _,_::_,.tup _,_,_,_,he,_=>by simp[Jh]at he
 |.i _,fr,d,_,_,_,he,_=>by cases fr<;>cases d<;>simp[Jh]at he
 |.b,fr,d,_,_,_,he,_=>by cases fr<;>cases d<;>simp[Jh]at he
 |.o,fr,d,_,_,_,he,_=>by cases fr<;>cases d<;>simp[Jh]at he
 |.mp _ _,fr,d,_,_,_,he,_=>by cases fr<;>cases d<;>simp[Jh]at he
 |.s,fr,d,_,_,_,he,_=>by cases fr<;>cases d<;>simp[Jh]at he
 |.sl _,fr,d,_,_,_,he,_=>by cases fr<;>cases d<;>simp[Jh]at he
theorem Ubl(h:Kb n0 A O0 w0 s σ φ a w){id:Nat}{kk:IntKind}{e:Ty}{xs:List (Int×List (T e))}(hb:s.heap id=some (.mq kk e xs)):
 ∃F,Nc w (.mp (.i kk) (.sl e)) xs [σ id] F∧F.Nodup∧(∀b,b∈F→n0≤b∨A.A b)∧F.head?=(φ id).head?∧∀b,b∈F.tail→n0≤b∧¬OO O0 s φ b:=by
 obtain⟨r,es,clk,g1,g2,g3,g4⟩:=h.hp id _ hb
 obtain⟨r',es',clk',Gs,s1,s2,s3,s4,s5,s6,s7⟩:=h.shr id _ _ _ hb
 rw[g1]at s1
 simp only[Value.map.injEq,jc]at s1
 subst s1
 refine⟨r::List.flatten Gs,.inr ⟨r,es',clk',Gs,by rw[g1],s2,s3,rfl,s4,fun i hi=>?_⟩,?_,?_,by rw[g3];rfl,fun b hb'=>s6 b hb'⟩
 ·obtain⟨en,q1,q2,q3⟩:=s7 i hi
  exact⟨en,[.int kk (List.get xs ⟨i,hi⟩).1],[en.val],q1,q2,rfl,⟨rfl,rfl⟩,q3⟩
 ·refine yo.2 ⟨fun hm=>(s6 r hm).2 (.inr ⟨id,_,hb,by rw[g3];simp⟩),s5⟩
 ·intro b hm
  rcases jp.1 hm with rfl|hm
  ·exact h.fresh id _ hb _ (by rw[g3];simp)
  ·exact .inl (s6 b hm).1
theorem EaV(h:Kb n0 A O0 w0 s σ φ a w){rt:Ty}{fr:List Bool}{d:D}{r:T rt}{vs:List Value}(he:XaA s rt fr d=some r)(hr:RU w (OO O0 s φ) s.heap σ d vs):
 ∃F,(∀O',Ld w O' rt r fr vs F)∧F.Nodup∧(∀b,b∈F→n0≤b∨A.A b):=by
 unfold XaA at he
 split at he
 ·rename_i k v id
  split at he
  ·rename_i kk e xs hb
   split at he
   ·rename_i q hq
    have q2:=q
    simp only[Ty.mp.injEq]at q2
    obtain⟨rfl,rfl⟩:=q2
    simp only[jc]at he
    subst he
    obtain⟨F,h1,h2,h3,_⟩:=Ubl h hb
    cases vs with
    |nil=>simp[RU]at hr
    |cons u vs=>
     obtain⟨hr1,hr2⟩:=hr
     cases vs with
     |cons _ _=>simp[RU]at hr2
     |nil=>
      have hu:u=σ id:=(LF.1 hr1).2 _ hb rfl
      subst hu
      exact⟨F,fun _=>⟨[σ id],F,[],rfl,by simp,h1,rfl⟩,h2,h3⟩
   ·simp at he
  ·simp at he
 ·simp at he
theorem AJ{fn:Func}{vs:List Value}(h:(fn.results.toList.mapM (K4 a.tmps)).run P w=.ok vs w):(results fn a.tmps).run P w=.ok (YP vs) w:=by
 unfold results
 rw[Array.mapM_eq_mapM_toList]
 simp only[map_eq_pure_bind,bind_assoc,pure_bind,qq,Sem.run_pure]
 show(Sem.run P (List.mapM (K4 a.tmps) fn.results.toList) w).andThen (fun vs w'=>Result.ok (if h:vs.toArray.size=1 then vs.toArray[0]else Value.tuple vs.toArray) w')=_
 rw[h]
 simp only[qp]
 congr 1
 cases vs with
 |nil=>rfl
 |cons v vs=>cases vs<;>rfl
end
def Ty.npar:Ty→Nat
 |.p _ y=>y.npar+1
 |_=>0
theorem IX{w:World}{O:Nat→Prop}:∀{pt:Ty} {x:T pt} {args:List Value},Ji w O pt x args→args.length=pt.npar
 |.u,_,[],_=>rfl
 |.p x y,v,a::r,h=>by simp[Ty.npar,IX h.2]
 |.u,_,_::_,h=>by simp[Ji]at h
 |.p _ _,_,[],h=>by simp[Ji]at h
 |.i _,_,l,h=>by simp[Ji]at h
 |.b,_,l,h=>by simp[Ji]at h
 |.o,_,l,h=>by simp[Ji]at h
 |.mp _ _,_,l,h=>by simp[Ji]at h
 |.s,_,l,h=>by simp[Ji]at h
 |.sl _,_,l,h=>by simp[Ji]at h
theorem T0{w:World}{O:Nat→Prop}{hp:Nat→Option Ra}{σ:Nat→Value}:∀{pt:Ty} {x:T pt} {args:List Value} {n t:Nat} {d:D},Ji w O pt x args→Dc (MD pt x n) t=some d→
 ∃j v,t=n+j∧args[j]?=some v∧Zd w O hp σ d v
 |.p x y,v,a::r,n,t,d,h,hd=>by
  simp only[MD]at hd
  rw[Qd]at hd
  split at hd
  ·rename_i e
   simp only[jc]at hd
   subst hd
   obtain⟨⟨cs,ha,hv⟩,_⟩:=h
   refine⟨0,a,by omega,rfl,?_⟩
   rw[ha]
   exact Bs (τ:=x) (by simp[Tb]) hv
  ·obtain⟨j,v',h1,h2,h3⟩:=T0 (hp:=hp) (σ:=σ) h.2 hd
   exact⟨j+1,v',by omega,by simpa using h2,h3⟩
 |.p _ _,_,[],_,_,_,h,_=>by simp[Ji]at h
 |.u,_,_,_,_,_,_,hd=>by simp[MD,Dc]at hd
 |.i _,_,_,_,_,_,h,_=>by simp[Ji]at h
 |.b,_,_,_,_,_,h,_=>by simp[Ji]at h
 |.o,_,_,_,_,_,h,_=>by simp[Ji]at h
 |.mp _ _,_,_,_,_,_,h,_=>by simp[Ji]at h
 |.s,_,_,_,_,_,h,_=>by simp[Ji]at h
 |.sl _,_,_,_,_,_,h,_=>by simp[Ji]at h
section
variable{P:Program} {G:Yf} {L:List (Nat×Na)}
variable{I:Gh}
def RaJ(I:Gh):Fx:=⟨fun _=>False,fun _=>none,fun _ _ h=>by simp at h,I,fun _ h=>h.elim⟩
theorem WaK(hG:Ll P I G)(hm:P.follows .mixedOrders=true){f:FuncId}{fn:Func}{c:Code}(hf:P.funcs[f]?=some fn)(hb:fn.body=some c)(hname:(fn.name== "runtime.NumGoroutine")=false)
 (hL:∀b,b∈Pf c→Ta G L b) {pt rt:Ty} {fr:List Bool} {F:T pt→Option (T rt)} (hn:pt.npar≤fn.ntmps) (hF:∀x r,F x=some r→evF G L fn pt rt fr x=some r):Th P I f (.pu pt rt fr F):=by
 refine⟨⟨fn,hf,hname,by rw[hb];rfl⟩,?_⟩
 intro O w x r args hx hargs hO hI hB
 have he:=hF x r hx
 unfold evF at he
 rw[hb]at he
 simp only at he
 refine calls_of_wp hf hb ?_
 have hlen:=IX hargs
 have hc:Kb w.heap.size (RaJ I) O w ⟨fn.ntmps,MD pt x 0,[]⟩ (fun _=>undef) (fun _=>[]) {tmps:=args.toArray++Array.replicate (fn.ntmps-args.toArray.size) undef,defers:=[]} w:=by
  have hh:∀id,AS.heap ⟨fn.ntmps,MD pt x 0,[]⟩ id=none:=fun id=>rfl
  refine⟨?_,rfl,?_,?_,?_,?_,?_,hO,⟨rfl,rfl,rfl,jo _,fun _ _ _=>rfl⟩,?_,hB,hI,fun id kk e xs hb=>by rw[hh]at hb;simp at hb⟩
  ·simp;omega
  ·intro t d hd
   have hOO:OO O ⟨fn.ntmps,MD pt x 0,[]⟩ (fun _=>[])=O:=by
    funext b
    simp[OO,hh]
   rw[hOO]
   obtain⟨j,v,h1,h2,h3⟩:=T0 hargs hd
   refine⟨v,?_,h3⟩
   have hj:j<args.length:=(ya.1 h2).1
   have:t=j:=by omega
   subst this
   rw[Array.getElem?_append_left (by simpa using hj)]
   simpa using h2
  ·intro id Ka hb;rw[hh]at hb;simp at hb
  ·intro id Ka hb;rw[hh]at hb;simp at hb
  ·intro id id' Ka blk' _ hb;rw[hh]at hb;simp at hb
  ·intro id Ka hb;rw[hh]at hb;simp at hb
  ·intro id v hv;simp[RaJ]at hv
 refine Vaa (A:=RaJ I) hG (fun _=>.inl fun _ h=>h) hm c hL he hc ?_
 intro e s σ φ a w' hk h
 have Qi:(match ND G s fn.results.toList with
  |some d=>match XaA s rt fr d with
   |some r=>some r
   |none=>match Jh s rt fr d with
    |some (r,l)=>bif Ng l then some r else none
    |none=>none
  |none=>none)=some r→a.defers=[]∧∃v,(results fn a.tmps).run P w'=.ok v w'∧Ox (fun v w'=>∃vs Fr,v=YP vs∧YB w w' (fun _=>False)∧Ld w' (fun b=>O b∨b∈Fr) rt r fr vs Fr∧Fr.Nodup∧∀b∈Fr,w.heap.size≤b) (.returned v) w':=by
  intro hk
  split at hk
  ·rename_i d hd
   split at hk
   ·rename_i r' hq
    simp only[jc]at hk
    subst hk
    obtain⟨vs,hvs,hru⟩:=VK hG.toEnvTy h hd
    obtain⟨F,hR,hnd,hfr⟩:=EaV h hq hru
    exact⟨h.df,_,AJ hvs,vs,F,rfl,⟨h.fr.size,fun b hb _=>h.fr.block b hb (fun h=>h),h.fr.os,h.fr.tape,h.fr.output⟩,hR _,hnd,fun b hb=>(hfr b hb).resolve_right (fun h=>h)⟩
   split at hk
   ·rename_i r' l hr
    simp only[Sa]at hk
    obtain⟨hnd,hk⟩:=hk
    simp only[jc]at hk
    subst hk
    have hnd:=Ki hnd
    obtain⟨vs,hvs,hru⟩:=VK hG.toEnvTy h hd
    obtain⟨hR,hlive⟩:=DZ h hr hru
    refine⟨h.df,_,AJ hvs,vs,La φ l,rfl,⟨h.fr.size,fun b hb _=>h.fr.block b hb (fun h=>h),h.fr.os,h.fr.tape,h.fr.output⟩,hR.mono ?_,Rg h hnd hlive,?_⟩
    ·rintro b (hb|hb)
     ·exact .inl hb
     ·obtain⟨j,hj,hm'⟩:=Qb.1 hb
      obtain⟨Ka,hbj⟩:=hlive j hj
      exact .inr ⟨j,Ka,hbj,hm'⟩
    ·intro b hb
     obtain⟨j,hj,hm'⟩:=Qb.1 hb
     obtain⟨Ka,hbj⟩:=hlive j hj
     exact(h.fresh j Ka hbj b hm').resolve_right (fun h=>h)
   ·simp at hk
  ·simp at hk
 cases e with
 |normal=>exact Qi hk
 |ret=>exact Qi hk
 |exit j=>simp at hk
end
def Caj(G:Yf)(L:List (Nat×Na))(fn:Func)(τ pt rt:Ty)(fr:List Bool)(x0:T τ)(x:T pt):Option (T τ×T rt):=
 match fn.body with
 |some c=>match Df τ x0 500000 with
  |(d0,rows,_)=>GB G L c ⟨fn.ntmps,(0,d0)::MD pt x 1,rows⟩ fun e s=>match e with
   |.exit _=>none
   |_=>match Hc s d0 τ,ND G s fn.results.toList with
    |some (x',l0),some d=>match Jh s rt fr d with
     |some (r,l)=>bif Ng (l0++l)then some (x',r)else none
     |none=>none
    |_,_=>none
 |none=>none
theorem ZL{φ:Nat→List Nat}:∀{L:List Nat},(La φ L).Nodup→∀{i j b:Nat},i∈L→j∈L→i≠j→b∈φ i→b∉φ j
 |[],_,_,_,_,h,_,_,_=>by simp at h
 |x::L,hn,i,j,b,hi,hj,hne,hb=>by
  intro hb'
  have hx:La φ (x::L)=φ x++La φ L:=by simp[La]
  rw[hx,yp]at hn
  rcases jp.1 hi with e1|q1
  ·rcases jp.1 hj with e2|q2
   ·exact hne (e1.trans e2.symm)
   ·exact hn.2.2 b (e1▸hb) b (Qb.2 ⟨j,q2,hb'⟩) rfl
  ·rcases jp.1 hj with e2|q2
   ·exact hn.2.2 b (e2▸hb') b (Qb.2 ⟨i,q1,hb⟩) rfl
   ·exact ZL hn.2.1 q1 q2 hne hb hb'
section
variable{P:Program} {G:Yf} {L:List (Nat×Na)} {I:Gh}
theorem VaK(hG:Ll P I G)(hfz:G.fz=false)(hm:P.follows .mixedOrders=true){f:FuncId}{fn:Func}{c:Code}(hf:P.funcs[f]?=some fn)(hb:fn.body=some c)(hname:(fn.name== "runtime.NumGoroutine")=false)
 (hL:∀b,b∈Pf c→Ta G L b) {τ pt rt:Ty} {fr:List Bool} {F:T τ→T pt→Option (T τ×T rt)} (hn:pt.npar+1≤fn.ntmps) (hF:∀x0 x r,F x0 x=some r→Caj G L fn τ pt rt fr x0 x=some r):
 Th P I f (.io τ pt rt fr F):=by
 refine⟨⟨fn,hf,hname,by rw[hb];rfl⟩,?_⟩
 intro O w x0 x r cs0 F0 args hx hown hF0 hargs hO hI hB hFB
 have he:=hF x0 x r hx
 unfold Caj at he
 rw[hb]at he
 simp only at he
 rcases hop:Df τ x0 500000 with⟨d0,rows,m⟩
 rw[hop]at he
 simp only at he
 obtain⟨_,hids,hsh,ψ,ν,hbl,hrows,hrep⟩:=NA hop hown
 refine calls_of_wp hf hb ?_
 have hlen:=IX hargs
 have hmem:∀id Ka,AS.heap ⟨fn.ntmps,(0,d0)::MD pt x 1,rows⟩ id=some Ka→id∈rows.map (·.1)∧FB w (some Ka) (ν id) (ψ id):=by
  intro id Ka hb
  have hm:=AS.heap_mem hb
  exact⟨yx (f:=(·.1)) hm,hrows _ hm⟩
 have hF0':(La ψ (rows.map (·.1))).Nodup:=by rw[hbl];exact hF0
 let A:Fx:=⟨(·∈F0),fun id=>if id∈rows.map (·.1)then some (ν id)else none,fun id v h=>by
  split at h
  ·rename_i hi
   obtain⟨p,hp,rfl⟩:=ql.1 hi
   exact(hids p hp).1
  ·simp at h,I,hFB⟩
 have hOO:OO (fun b=>O b∨b∈F0) ⟨fn.ntmps,(0,d0)::MD pt x 1,rows⟩ ψ=(fun b=>O b∨b∈F0):=by
  funext b
  refine propext ⟨fun h=>?_,.inl⟩
  rcases h with h|⟨id,Ka,hb,hm⟩
  ·exact h
  ·refine .inr ?_
   rw[←hbl]
   exact Qb.2 ⟨id,(hmem id Ka hb).1,hm⟩
 have hc:Kb w.heap.size A (fun b=>O b∨b∈F0) w ⟨fn.ntmps,(0,d0)::MD pt x 1,rows⟩ ν ψ {tmps:=(Oe τ cs0::args).toArray++Array.replicate (fn.ntmps-(Oe τ cs0::args).toArray.size) undef,defers:=[]} w:=by
  refine⟨?_,rfl,?_,?_,?_,?_,?_,?_,⟨rfl,rfl,rfl,jo _,fun _ _ _=>rfl⟩,?_,hB,hI,fun id kk e xs hb=>((hmem id _ hb).2.nq).elim⟩
  ·simp;omega
  ·intro t d hd
   rw[hOO]
   rw[Qd]at hd
   split at hd
   ·rename_i e
    subst e
    simp only[jc]at hd
    subst hd
    exact⟨Oe τ cs0,by rw[Array.getElem?_append_left (by simp)];simp,Bs hsh (hrep w _ _ _ fun _ _=>rfl)⟩
   ·obtain⟨j,v,h1,h2,h3⟩:=T0 hargs hd
    refine⟨v,?_,h3⟩
    have hj:j<args.length:=(ya.1 h2).1
    have:t=j+1:=by omega
    subst this
    rw[Array.getElem?_append_left (by simpa using hj)]
    simpa using h2
  ·intro id Ka hb
   exact(hmem id Ka hb).2.rep
  ·intro id Ka hb
   have hi:=(hmem id Ka hb).1
   have:(ψ id).Sublist (La ψ (rows.map (·.1))):=by
    unfold La
    exact List.sublist_flatten_of_mem (yx hi)
   exact this.nodup hF0'
  ·intro id id' Ka blk' hne hb hb' b hm
   exact ZL hF0' (hmem id Ka hb).1 (hmem id' blk' hb').1 hne hm
  ·intro id Ka hb b hm
   refine .inr ?_
   show b∈F0
   rw[←hbl]
   exact Qb.2 ⟨id,(hmem id Ka hb).1,hm⟩
  ·rintro b (hb|hb)
   ·exact hO b hb
   ·exact hown.lt b hb
  ·intro id v hv
   simp only[A]at hv
   split at hv
   ·simpa using hv
   ·simp at hv
 refine Vaa (A:=A) hG (fun h=>by rw[hfz]at h;simp at h) hm c hL he hc ?_
 intro e s σ φ a w' hk h
 have Qi:(match Hc s d0 τ,ND G s fn.results.toList with
  |some (x',l0),some d=>match Jh s rt fr d with
   |some (r,l)=>bif Ng (l0++l)then some (x',r)else none
   |none=>none
  |_,_=>none)=some r→a.defers=[]∧∃v,(results fn a.tmps).run P w'=.ok v w'∧Ox (fun v w'=>∃vs F1 Fr,v=YP vs∧YB w w' (·∈F0)∧Nc w' τ r.1 cs0 F1∧(∀b∈F1,w.heap.size≤b∨b∈F0)∧
  Ld w' (fun b=>O b∨b∈F0∨b∈F1∨b∈Fr) rt r.2 fr vs Fr∧(F1++Fr).Nodup∧∀b∈Fr,w.heap.size≤b∨b∈F0) (.returned v) w':=by
  intro hk
  split at hk
  ·rename_i x' l0 d hx' hd
   split at hk
   ·rename_i r' l hr
    simp only[Sa]at hk
    obtain⟨hnd,hk⟩:=hk
    simp only[jc]at hk
    subst hk
    have hnd:=Ki hnd
    have hr0:Pb w' (OO (fun b=>O b∨b∈F0) s φ) s.heap σ d0 cs0:=by
     refine hrep w' _ _ _ fun p hp=>h.pin p.1 (ν p.1) ?_
     show(if p.1∈rows.map (·.1)then some (ν p.1)else none)=_
     rw[if_pos (yx (f:=(·.1)) hp)]
    obtain⟨ho',hlive0⟩:=So h hx' hr0
    obtain⟨vs,hvs,hru⟩:=VK hG.toEnvTy h hd
    obtain⟨hR,hlive⟩:=DZ h hr hru
    have hall:∀j,j∈l0++l→∃b,s.heap j=some b:=by
     intro j hj
     rcases jl.1 hj with hj|hj
     ·exact hlive0 j hj
     ·exact hlive j hj
    have hfr:∀b,b∈La φ (l0++l)→w.heap.size≤b∨b∈F0:=by
     intro b hb
     obtain⟨j,hj,hm'⟩:=Qb.1 hb
     obtain⟨Ka,hbj⟩:=hall j hj
     exact h.fresh j Ka hbj b hm'
    have hinOO:∀b,b∈La φ (l0++l)→OO (fun b=>O b∨b∈F0) s φ b:=by
     intro b hb
     obtain⟨j,hj,hm'⟩:=Qb.1 hb
     obtain⟨Ka,hbj⟩:=hall j hj
     exact .inr ⟨j,Ka,hbj,hm'⟩
    rw[Se]at hfr hinOO
    refine⟨h.df,_,AJ hvs,vs,La φ l0,La φ l,rfl,⟨h.fr.size,fun b hb hno=>h.fr.block b hb hno,h.fr.os,h.fr.tape,h.fr.output⟩,ho',fun b hb=>hfr b (qw _ hb),hR.mono ?_,?_,fun b hb=>hfr b (qx _ hb)⟩
    ·rintro b (hb|hb|hb|hb)
     ·exact .inl (.inl hb)
     ·exact .inl (.inr hb)
     ·exact hinOO b (qw _ hb)
     ·exact hinOO b (qx _ hb)
    ·rw[←Se]
     exact Rg h hnd hall
   ·simp at hk
  ·simp at hk
 cases e with
 |normal=>exact Qi hk
 |ret=>exact Qi hk
 |exit j=>simp at hk
end
def XT:(pt:Ty)→T pt→Nat→Nat→List (Nat×D)×List (Nat×Option Ra)×Nat
 |.p x y,v,t,n=>match Df x v.1 n with
  |(d,l,m)=>match XT y v.2 (t+1) m with
   |(tm,l',m')=>((t,d)::tm,l++l',m')
 |_,_,_,n=>([],[],n)
def Baj(G:Yf)(L:List (Nat×Na))(fn:Func)(pt rt:Ty)(fr:List Bool)(x:T pt):Option (T rt):=
 match fn.body with
 |some c=>match XT pt x 0 400000 with
  |(tm,rows,_)=>GB G L c ⟨fn.ntmps,tm,rows⟩ fun e s=>match e with
   |.exit _=>none
   |_=>match ND G s fn.results.toList with
    |some d=>match Jh s rt fr d with
     |some (r,l)=>bif Ng l then some r else none
     |none=>none
    |none=>none
 |none=>none
def Aaj(G:Yf)(L:List (Nat×Na))(fn:Func)(vw cv:Bool)(τ pt rt:Ty)(fr:List Bool)(x0:T τ)(x:T pt):Option (T τ×T rt):=
 match fn.body with
 |some c=>match(bif vw then(D.t τ x0,[],400000)else Df τ x0 400000)with
  |(d0,rows,m)=>match(bif cv then XT pt x 1 m else(MD pt x 1,[],m))with
   |(tm,rows2,m2)=>bif jx m2 500000 then GB G L c ⟨fn.ntmps,(0,.ptr 500000 [])::tm,(500000,some (.box τ d0))::(rows++rows2)⟩ fun e s=>match e with
    |.exit _=>none
    |_=>match s.heap 500000,ND G s fn.results.toList with
     |some (.box τ' d1),some d=>match Ty.dec τ' τ,(bif vw then(match Hm d1 τ with
      |some y=>some (y,[])
      |none=>none)else Hc s d1 τ),Jh s rt fr d with
      |some _,some (x',l0),some (r,l)=>bif Ng (500000::(l0++l))then some (x',r)else none
      |_,_,_=>none
     |_,_=>none
    else none
 |none=>none
theorem D4{w:World}:∀{pt:Ty} {x:T pt} {args:List Value} {F:List Nat},Vg w pt x args F→args.length=pt.npar
 |.u,_,[],_,_=>rfl
 |.p x y,v,a::r,F,h=>by
  obtain⟨cs,F1,F2,_,_,_,h⟩:=h
  simp[Ty.npar,D4 h]
 |.u,_,_::_,_,h=>by simp[Vg]at h
 |.p _ _,_,[],_,h=>by simp[Vg]at h
 |.i _,_,l,_,h=>by simp[Vg]at h
 |.b,_,l,_,h=>by simp[Vg]at h
 |.o,_,l,_,h=>by simp[Vg]at h
 |.mp _ _,_,l,_,h=>by simp[Vg]at h
 |.s,_,l,_,h=>by simp[Vg]at h
 |.sl _,_,l,_,h=>by simp[Vg]at h
theorem Vg.lt{w:World}:∀{pt:Ty} {x:T pt} {args:List Value} {F:List Nat},Vg w pt x args F→∀b,b∈F→b<w.heap.size
 |.u,_,[],F,h,b,hb=>by simp only[Vg]at h;subst h;simp at hb
 |.p x y,v,a::r,F,h,b,hb=>by
  obtain⟨cs,F1,F2,_,rfl,ho,h⟩:=h
  rcases jl.1 hb with hb|hb
  ·exact ho.lt b hb
  ·exact Vg.lt h b hb
 |.u,_,_::_,_,h,_,_=>by simp[Vg]at h
 |.p _ _,_,[],_,h,_,_=>by simp[Vg]at h
 |.i _,_,l,_,h,_,_=>by simp[Vg]at h
 |.b,_,l,_,h,_,_=>by simp[Vg]at h
 |.o,_,l,_,h,_,_=>by simp[Vg]at h
 |.mp _ _,_,l,_,h,_,_=>by simp[Vg]at h
 |.s,_,l,_,h,_,_=>by simp[Vg]at h
 |.sl _,_,l,_,h,_,_=>by simp[Vg]at h
theorem A9{w:World}:∀{pt:Ty} {x:T pt} {args:List Value} {F:List Nat} {t n m:Nat} {tm:List (Nat×D)} {l:List (Nat×Option Ra)},XT pt x t n=(tm,l,m)→Vg w pt x args F→
 n≤m∧(∀p,p∈l→n≤p.1∧p.1<m)∧∃(ψ:Nat→List Nat) (ν:Nat→Value),La ψ (l.map (·.1))=F∧(∀p,p∈l→FB w p.2 (ν p.1) (ψ p.1))∧
  ∀(hp':Nat→Option Ra) (σ':Nat→Value) (O':Nat→Prop),(∀p,p∈l→σ' p.1=ν p.1)→∀t' d,Dc tm t'=some d→∃j v,t'=t+j∧args[j]?=some v∧Zd w O' hp' σ' d v
 |.u,x,[],F,t,n,m,tm,l,he,h=>by
  simp only[XT,jh]at he
  obtain⟨rfl,rfl,rfl⟩:=he
  simp only[Vg]at h
  exact⟨jo _,by simp,fun _=>[],fun _=>undef,by simp[La,h],by simp,fun _ _ _ _ t' d hd=>by simp[Dc]at hd⟩
 |.p t1 t2,x,a::r,F,t,n,m,tm,l,he,h=>by
  obtain⟨cs,F1,F2,ha,hF,ho,hr⟩:=h
  simp only[XT]at he
  rcases ho1:Df t1 x.1 n with⟨d1,l1,m1⟩
  rcases ho2:XT t2 x.2 (t+1) m1 with⟨tm2,l2,m2⟩
  rw[ho1]at he
  simp only at he
  rw[ho2]at he
  simp only[jh]at he
  obtain⟨rfl,rfl,rfl⟩:=he
  obtain⟨a1,a2,a3,ψ1,ν1,a4,a5,a6⟩:=NA ho1 ho
  obtain⟨b1,b2,ψ2,ν2,b4,b5,b6⟩:=A9 ho2 hr
  refine⟨by omega,?_,fun id=>if id<m1 then ψ1 id else ψ2 id,fun id=>if id<m1 then ν1 id else ν2 id,?_,?_,?_⟩
  ·intro p hp
   rcases jl.1 hp with hp|hp
   ·have:=a2 p hp;omega
   ·have:=b2 p hp;omega
  ·rw[yy,Se,hF,←a4,←b4]
   congr 1
   ·exact Sn fun id hid=>by
     obtain⟨p,hp,rfl⟩:=ql.1 hid
     rw[if_pos (a2 p hp).2]
   ·exact Sn fun id hid=>by
     obtain⟨p,hp,rfl⟩:=ql.1 hid
     rw[if_neg (by have:=b2 p hp;omega)]
  ·intro p hp
   rcases jl.1 hp with hp|hp
   ·simp only[if_pos (a2 p hp).2];exact a5 p hp
   ·have:¬p.1<m1:=by have:=b2 p hp;omega
    simp only[if_neg this];exact b5 p hp
  ·intro hp' σ' O' hσ t' d hd
   rw[Qd]at hd
   split at hd
   ·rename_i e
    simp only[jc]at hd
    subst hd
    refine⟨0,a,by omega,rfl,?_⟩
    rw[ha]
    refine Bs a3 (a6 w hp' σ' O' fun p hp=>?_)
    have h1:=hσ p (qw _ hp)
    simp only[if_pos (a2 p hp).2]at h1
    exact h1
   ·obtain⟨j,v,h1,h2,h3⟩:=b6 hp' σ' O' (fun p hp=>by
     have h1:=hσ p (qx _ hp)
     have h2:¬p.1<m1:=by have:=b2 p hp;omega
     simp only[if_neg h2]at h1
     exact h1) t' d hd
    exact⟨j+1,v,by omega,by simpa using h2,h3⟩
 |.u,_,_::_,_,_,_,_,_,_,_,h=>by simp[Vg]at h
 |.p _ _,_,[],_,_,_,_,_,_,_,h=>by simp[Vg]at h
 |.i _,_,l,_,_,_,_,_,_,_,h=>by simp[Vg]at h
 |.b,_,l,_,_,_,_,_,_,_,h=>by simp[Vg]at h
 |.o,_,l,_,_,_,_,_,_,_,h=>by simp[Vg]at h
 |.mp _ _,_,l,_,_,_,_,_,_,_,h=>by simp[Vg]at h
 |.s,_,l,_,_,_,_,_,_,_,h=>by simp[Vg]at h
 |.sl _,_,l,_,_,_,_,_,_,_,h=>by simp[Vg]at h
section
variable{P:Program} {G:Yf} {L:List (Nat×Na)} {I:Gh}
theorem UaK(hG:Ll P I G)(hfz:G.fz=false∨cmB G.att=true)(hm:P.follows .mixedOrders=true){f:FuncId}{fn:Func}{c:Code}(hf:P.funcs[f]?=some fn)(hb:fn.body=some c)(hname:(fn.name== "runtime.NumGoroutine")=false)
 (hL:∀b,b∈Pf c→Ta G L b) {pt rt:Ty} {fr:List Bool} {F:T pt→Option (T rt)} (hn:pt.npar≤fn.ntmps) (hF:∀x r,F x=some r→Baj G L fn pt rt fr x=some r):
 Th P I f (.co pt rt fr F):=by
 refine⟨⟨fn,hf,hname,by rw[hb];rfl⟩,?_⟩
 intro O w x r F0 args hx hargs hF0 hO hOF hI hB hFB
 have he:=hF x r hx
 unfold Baj at he
 rw[hb]at he
 simp only at he
 rcases hop:XT pt x 0 400000 with⟨tm,rows,m⟩
 rw[hop]at he
 simp only at he
 obtain⟨_,hids,ψ,ν,hbl,hrows,hrep⟩:=A9 hop hargs
 refine calls_of_wp hf hb ?_
 have hlen:=D4 hargs
 have hmem:∀id Ka,AS.heap ⟨fn.ntmps,tm,rows⟩ id=some Ka→id∈rows.map (·.1)∧FB w (some Ka) (ν id) (ψ id):=by
  intro id Ka hb
  have hm:=AS.heap_mem hb
  exact⟨yx (f:=(·.1)) hm,hrows _ hm⟩
 have hF0':(La ψ (rows.map (·.1))).Nodup:=by rw[hbl];exact hF0
 let A:Fx:=⟨(·∈F0),fun _=>none,fun _ _ h=>by simp at h,I,hFB⟩
 obtain⟨O1,hO1,hO1F,hO1R⟩:∃O1:Nat→Prop,(∀b,O1 b→b<w.heap.size)∧(∀b,b∈F0→¬O1 b)∧∀(w':World) (r:T rt) (vs:List Value) (Fr:List Nat),Ld w' (fun b=>O1 b∨b∈Fr) rt r fr vs Fr→Ld w' (fun b=>O b∨b∈Fr) rt r fr vs Fr:=by
  rcases hOF with hall|hOF
  ·exact⟨noO,fun b hb=>hb.elim,fun _ _ hb=>hb.elim,fun w' r vs Fr hR=>hR.all hall⟩
  ·exact⟨O,hO,hOF,fun _ _ _ _ hR=>hR⟩
 have hc:Kb w.heap.size A O1 w ⟨fn.ntmps,tm,rows⟩ ν ψ {tmps:=args.toArray++Array.replicate (fn.ntmps-args.toArray.size) undef,defers:=[]} w:=by
  refine⟨?_,rfl,?_,?_,?_,?_,?_,?_,⟨rfl,rfl,rfl,jo _,fun _ _ _=>rfl⟩,?_,hB,hI,fun id kk e xs hb=>((hmem id _ hb).2.nq).elim⟩
  ·simp;omega
  ·intro t d hd
   obtain⟨j,v,h1,h2,h3⟩:=hrep (AS.heap ⟨fn.ntmps,tm,rows⟩) ν (OO O1 ⟨fn.ntmps,tm,rows⟩ ψ) (fun _ _=>rfl) t d hd
   refine⟨v,?_,h3⟩
   have hj:j<args.length:=(ya.1 h2).1
   have:t=j:=by omega
   subst this
   rw[Array.getElem?_append_left (by simpa using hj)]
   simpa using h2
  ·intro id Ka hb
   exact(hmem id Ka hb).2.rep
  ·intro id Ka hb
   have hi:=(hmem id Ka hb).1
   have:(ψ id).Sublist (La ψ (rows.map (·.1))):=by
    unfold La
    exact List.sublist_flatten_of_mem (yx hi)
   exact this.nodup hF0'
  ·intro id id' Ka blk' hne hb hb' b hm
   exact ZL hF0' (hmem id Ka hb).1 (hmem id' blk' hb').1 hne hm
  ·intro id Ka hb b hm
   refine .inr ?_
   show b∈F0
   rw[←hbl]
   exact Qb.2 ⟨id,(hmem id Ka hb).1,hm⟩
  ·exact hO1
  ·intro id v hv;simp[A]at hv
 refine Vaa (A:=A) hG (fun h=>.inr (.inl ⟨hfz.resolve_left (by rw[h];simp),fun b hb=>hO1F b hb⟩)) hm c hL he hc ?_
 intro e s σ φ a w' hk h
 have Qi:(match ND G s fn.results.toList with
  |some d=>match Jh s rt fr d with
   |some (r,l)=>bif Ng l then some r else none
   |none=>none
  |none=>none)=some r→a.defers=[]∧∃v,(results fn a.tmps).run P w'=.ok v w'∧Ox (fun v w'=>∃vs Fr,v=YP vs∧YB w w' (·∈F0)∧
  Ld w' (fun b=>O b∨b∈Fr) rt r fr vs Fr∧Fr.Nodup∧∀b∈Fr,w.heap.size≤b∨b∈F0) (.returned v) w':=by
  intro hk
  split at hk
  ·rename_i d hd
   split at hk
   ·rename_i r' l hr
    simp only[Sa]at hk
    obtain⟨hnd,hk⟩:=hk
    simp only[jc]at hk
    subst hk
    have hnd:=Ki hnd
    obtain⟨vs,hvs,hru⟩:=VK hG.toEnvTy h hd
    obtain⟨hR,hlive⟩:=DZ h hr hru
    refine⟨h.df,_,AJ hvs,vs,La φ l,rfl,⟨h.fr.size,fun b hb hno=>h.fr.block b hb hno,h.fr.os,h.fr.tape,h.fr.output⟩,hO1R _ _ _ _ (hR.mono ?_),Rg h hnd hlive,?_⟩
    ·rintro b (hb|hb)
     ·exact .inl hb
     ·obtain⟨j,hj,hm'⟩:=Qb.1 hb
      obtain⟨Ka,hbj⟩:=hlive j hj
      exact .inr ⟨j,Ka,hbj,hm'⟩
    ·intro b hb
     obtain⟨j,hj,hm'⟩:=Qb.1 hb
     obtain⟨Ka,hbj⟩:=hlive j hj
     exact h.fresh j Ka hbj b hm'
   ·simp at hk
  ·simp at hk
 cases e with
 |normal=>exact Qi hk
 |ret=>exact Qi hk
 |exit j=>simp at hk
theorem TaK{vw cv:Bool}(hG:Ll P I G)(hfz:G.fz=false∨((vw&&!cv)=true∧DO G.att=true))(hm:P.follows .mixedOrders=true){f:FuncId}{fn:Func}{c:Code}(hf:P.funcs[f]?=some fn)(hb:fn.body=some c)(hname:(fn.name== "runtime.NumGoroutine")=false)
 (hL:∀b,b∈Pf c→Ta G L b) {τ pt rt:Ty} {fr:List Bool} {F:T τ→T pt→Option (T τ×T rt)} (hn:pt.npar+1≤fn.ntmps) (hF:∀x0 x r,F x0 x=some r→Aaj G L fn vw cv τ pt rt fr x0 x=some r):
 Th P I f (.bx vw cv τ pt rt fr F):=by
 refine⟨⟨fn,hf,hname,by rw[hb];rfl⟩,?_⟩
 intro O w x0 x r b cur et F0 F2 args hx hh hsz hcont hargs hnd hO hI hB hFB
 have he:=hF x0 x r hx
 unfold Aaj at he
 rw[hb]at he
 simp only at he
 rcases hop:(bif vw then(D.t τ x0,[],400000)else Df τ x0 400000)with⟨d0,rows,m⟩
 rw[hop]at he
 simp only at he
 rcases hop2:(bif cv then XT pt x 1 m else(MD pt x 1,[],m))with⟨tm,rows2,m2⟩
 rw[hop2]at he
 simp only[Sa]at he
 obtain⟨hm2,he⟩:=he
 have hm2:=q8 hm2
 have hlt:b<w.heap.size:=(Array.getElem?_eq_some_iff.1 hh).1
 have k1:400000≤m∧(∀p,p∈rows→400000≤p.1∧p.1<m)∧Tb τ d0∧(∀c,c∈F0→c<w.heap.size)∧∃(ψ:Nat→List Nat) (ν:Nat→Value),La ψ (rows.map (·.1))=F0∧(∀p,p∈rows→FB w p.2 (ν p.1) (ψ p.1))∧
  ∀(hp':Nat→Option Ra) (σ':Nat→Value),(∀p,p∈rows→σ' p.1=ν p.1)→Pb w (fun c=>O c∨c∈b::(F0++F2)) hp' σ' d0 cur.toList:=by
  cases vw with
  |true=>
   simp only[zj,jh]at hop
   obtain⟨rfl,rfl,rfl⟩:=hop
   simp only[if_true]at hcont
   obtain⟨hv,rfl⟩:=hcont
   refine⟨jo _,by simp,by simp[Tb],by simp,fun _=>[],fun _=>undef,by simp[La],by simp,fun hp' σ' _=>Bb.weaken (fun c hc=>?_) hv⟩
   rcases hc with hc|hc
   ·exact .inl hc
   ·rcases jp.1 hc with rfl|hc
    ·exact .inr (.inl rfl)
    ·exact .inr (.inr (by simpa using hc))
  |false=>
   simp only[zk]at hop
   simp only[jq,if_false]at hcont
   obtain⟨a1,a2,a3,ψ1,ν1,a4,a5,a6⟩:=NA hop hcont
   exact⟨a1,a2,a3,fun c hc=>hcont.lt c hc,ψ1,ν1,a4,a5,fun hp' σ' h=>a6 w hp' σ' _ h⟩
 obtain⟨hnm,hids,hsh,hF0lt,ψ1,ν1,hbl1,hrows1,hrep1⟩:=k1
 have k2:m≤m2∧(∀p,p∈rows2→m≤p.1∧p.1<m2)∧args.length=pt.npar∧(∀c,c∈F2→c<w.heap.size)∧∃(ψ:Nat→List Nat) (ν:Nat→Value),La ψ (rows2.map (·.1))=F2∧(∀p,p∈rows2→FB w p.2 (ν p.1) (ψ p.1))∧
  ∀(hp':Nat→Option Ra) (σ':Nat→Value),(∀p,p∈rows2→σ' p.1=ν p.1)→∀t' d,Dc tm t'=some d→∃j v,t'=1+j∧args[j]?=some v∧Zd w (fun c=>O c∨c∈b::(F0++F2)) hp' σ' d v:=by
  cases cv with
  |true=>
   simp only[zj]at hop2
   simp only[if_true]at hargs
   obtain⟨a1,a2,ψ2,ν2,a4,a5,a6⟩:=A9 hop2 hargs
   exact⟨a1,a2,D4 hargs,hargs.lt,ψ2,ν2,a4,a5,fun hp' σ' h=>a6 hp' σ' _ h⟩
  |false=>
   simp only[zk,jh]at hop2
   obtain⟨rfl,rfl,rfl⟩:=hop2
   simp only[jq,if_false]at hargs
   obtain⟨hv,rfl⟩:=hargs
   refine⟨jo _,by simp,IX hv,by simp,fun _=>[],fun _=>undef,by simp[La],by simp,fun hp' σ' _ t' d hd=>?_⟩
   have:(fun c=>O c∨c∈b::(F0++[]))=(fun c=>O c∨c=b∨c∈F0):=by
    funext c;simp
   rw[this]
   exact T0 hv hd
 obtain⟨hmm,hids2,hlen,hF2lt,ψ2,ν2,hbl2,hrows2,hrep2⟩:=k2
 refine calls_of_wp hf hb ?_
 let ψ:Nat→List Nat:=fun id=>if id=500000 then[b]else if id<m then ψ1 id else ψ2 id
 let ν:Nat→Value:=fun id=>if id=500000 then .pointer (some ⟨b,0,none⟩)else if id<m then ν1 id else ν2 id
 have hψ0:ψ 500000=[b]:=if_pos rfl
 have hν0:ν 500000=.pointer (some ⟨b,0,none⟩):=if_pos rfl
 have hψ1:∀p,p∈rows→ψ p.1=ψ1 p.1∧ν p.1=ν1 p.1:=fun p hp=>by
  have h1:=hids p hp
  have h2:¬p.1=500000:=by omega
  simp only[ψ,ν,if_neg h2,if_pos h1.2,and_self]
 have hψ2:∀p,p∈rows2→ψ p.1=ψ2 p.1∧ν p.1=ν2 p.1:=fun p hp=>by
  have h1:=hids2 p hp
  have h2:¬p.1=500000:=by omega
  have h3:¬p.1<m:=by omega
  simp only[ψ,ν,if_neg h2,if_neg h3,and_self]
 let s0:AS:=⟨fn.ntmps,(0,.ptr 500000 [])::tm,(500000,some (.box τ d0))::(rows++rows2)⟩
 have hbx:s0.heap 500000=some (.box τ d0):=by simp[s0,AS.heap,Qd]
 have hmem:∀id Ka,s0.heap id=some Ka→(id=500000∧Ka=.box τ d0)∨(id≠500000∧id∈(rows++rows2).map (·.1)∧FB w (some Ka) (ν id) (ψ id)):=by
  intro id Ka hb
  by_cases hid:id=500000
  ·subst hid
   rw[hbx]at hb
   simp only[jc]at hb
   exact .inl ⟨rfl,hb.symm⟩
  ·have hm:=AS.heap_mem hb
   simp only[s0,jp,jh,hid,false_and,false_or]at hm
   refine .inr ⟨hid,yx (f:=(·.1)) hm,?_⟩
   rcases jl.1 hm with hm|hm
   ·rw[(hψ1 _ hm).1,(hψ1 _ hm).2]
    exact hrows1 _ hm
   ·rw[(hψ2 _ hm).1,(hψ2 _ hm).2]
    exact hrows2 _ hm
 have hblr:La ψ ((rows++rows2).map (·.1))=F0++F2:=by
  rw[yy,Se,←hbl1,←hbl2]
  congr 1
  ·exact Sn fun id hid=>by
    obtain⟨p,hp,rfl⟩:=ql.1 hid
    exact(hψ1 p hp).1
  ·exact Sn fun id hid=>by
    obtain⟨p,hp,rfl⟩:=ql.1 hid
    exact(hψ2 p hp).1
 have hbl:La ψ (500000::(rows++rows2).map (·.1))=b::(F0++F2):=by
  have:La ψ (500000::(rows++rows2).map (·.1))=ψ 500000++La ψ ((rows++rows2).map (·.1)):=by simp only[La,ym,yr]
  rw[this,hψ0,hblr];rfl
 have hndB:(La ψ (500000::(rows++rows2).map (·.1))).Nodup:=by rw[hbl];exact hnd
 have hidin:∀id Ka,s0.heap id=some Ka→id∈500000::(rows++rows2).map (·.1):=by
  intro id Ka hb
  rcases hmem id Ka hb with⟨rfl,_⟩|⟨_,h,_⟩
  ·exact List.mem_cons_self
  ·exact jr _ h
 let A:Fx:=⟨(·∈b::(F0++F2)),fun id=>if id=500000 then some (.pointer (some ⟨b,0,none⟩))else none,fun id v h=>by
  split at h
  ·omega
  ·simp at h,I,hFB⟩
 have hOO:OO (fun c=>O c∨c∈b::(F0++F2)) s0 ψ=(fun c=>O c∨c∈b::(F0++F2)):=by
  funext c
  refine propext ⟨fun h=>?_,.inl⟩
  rcases h with h|⟨id,Ka,hb,hm⟩
  ·exact h
  ·refine .inr ?_
   rw[←hbl]
   exact Qb.2 ⟨id,hidin id Ka hb,hm⟩
 have hc:Kb w.heap.size A (fun c=>O c∨c∈b::(F0++F2)) w s0 ν ψ {tmps:=(.pointer (some ⟨b,0,none⟩)::args).toArray++Array.replicate (fn.ntmps-(Value.pointer (some ⟨b,0,none⟩)::args).toArray.size) undef,defers:=[]} w:=by
  refine⟨?_,rfl,?_,?_,?_,?_,?_,?_,⟨rfl,rfl,rfl,jo _,fun _ _ _=>rfl⟩,?_,hB,hI,fun id kk e xs hb=>(hmem id _ hb).elim (fun h=>by simp at h) fun h=>h.2.2.nq.elim⟩
  ·simp[s0];omega
  ·intro t d hd
   rw[hOO]
   simp only[s0]at hd
   rw[Qd]at hd
   split at hd
   ·rename_i e
    subst e
    simp only[jc]at hd
    subst hd
    refine⟨.pointer (some ⟨b,0,none⟩),by rw[Array.getElem?_append_left (by simp)];simp,?_⟩
    rw[QA]
    exact⟨rfl,fun ρ d _=>⟨b,hν0,by simp[Ec]⟩⟩
   ·obtain⟨j,v,h1,h2,h3⟩:=hrep2 s0.heap ν (fun p hp=>(hψ2 p hp).2) t d hd
    refine⟨v,?_,h3⟩
    have hj:j<args.length:=(ya.1 h2).1
    have:t=j+1:=by omega
    subst this
    rw[Array.getElem?_append_left (by simpa using hj)]
    simpa using h2
  ·intro id Ka hb
   rw[hOO]
   rcases hmem id Ka hb with⟨rfl,rfl⟩|⟨_,_,h2⟩
   ·exact⟨hsh,b,cur,et,hν0,hh,hψ0,hrep1 _ _ fun p hp=>(hψ1 p hp).2,hsz⟩
   ·exact h2.rep
  ·intro id Ka hb
   have hi:=hidin id Ka hb
   have:(ψ id).Sublist (La ψ (500000::(rows++rows2).map (·.1))):=by
    unfold La
    exact List.sublist_flatten_of_mem (yx hi)
   exact this.nodup hndB
  ·intro id id' Ka blk' hne hb hb' c hm
   exact ZL hndB (hidin id Ka hb) (hidin id' blk' hb') hne hm
  ·intro id Ka hb c hm
   refine .inr ?_
   show c∈b::(F0++F2)
   rw[←hbl]
   exact Qb.2 ⟨id,hidin id Ka hb,hm⟩
  ·rintro c (hc|hc)
   ·exact hO c hc
   ·rcases jp.1 hc with rfl|hc
    ·exact hlt
    ·rcases jl.1 hc with hc|hc
     ·exact hF0lt c hc
     ·exact hF2lt c hc
  ·intro id v hv
   simp only[A]at hv
   split at hv
   ·rename_i e
    subst e
    simp only[jc]at hv
    exact hν0.trans hv
   ·simp at hv
 have hFz:MX G A (fun c=>O c∨c∈b::(F0++F2)):=by
  intro hz
  rcases hfz with h0|⟨h1,h2⟩
  ·rw[h0]at hz;simp at hz
  ·simp only[jd,yn]at h1
   obtain⟨h1,h3⟩:=h1
   subst h1
   subst h3
   simp only[if_true]at hcont
   simp only[jq,if_false]at hargs
   obtain⟨_,hF0⟩:=hcont
   obtain⟨_,hF2⟩:=hargs
   refine .inr (.inr ⟨h2,fun x hx=>?_⟩)
   have hx':x∈b::(F0++F2):=hx
   rw[hF0,hF2]at hx'
   simp only[y3,qc]at hx'
   rw[hx']
   show(if(500000:Nat)=500000 then some (Value.pointer (some ⟨b,0,none⟩))else none)=_
   exact if_pos rfl
 refine Vaa (A:=A) hG hFz hm c hL he hc ?_
 intro e s σ φ a w' hk h
 have Qi:(match s.heap 500000,ND G s fn.results.toList with
  |some (.box τ' d1),some d=>match Ty.dec τ' τ,(bif vw then(match Hm d1 τ with
   |some y=>some (y,[])
   |none=>none)else Hc s d1 τ),Jh s rt fr d with
   |some _,some (x',l0),some (r,l)=>bif Ng (500000::(l0++l))then some (x',r)else none
   |_,_,_=>none
  |_,_=>none)=some r→a.defers=[]∧∃v,(results fn a.tmps).run P w'=.ok v w'∧Ox (fun v w'=>∃vs cur' et' F1 Fr,v=YP vs∧YB w w' (·∈b::(F0++F2))∧w'.heap[b]?=some (.cells cur' et' (0,0))∧cur'.size=τ.size∧
  (if vw then Bb w' (fun c=>O c∨c∈b::(F0++F2)∨c∈Fr) τ r.1 cur'.toList∧F1=[]else Nc w' τ r.1 cur'.toList F1)∧
  Ld w' (fun c=>O c∨c∈b::(F0++F2)∨c∈F1∨c∈Fr) rt r.2 fr vs Fr∧(b::(F1++Fr)).Nodup∧∀c∈F1++Fr,w.heap.size≤c∨c∈F0++F2) (.returned v) w':=by
  intro hk
  split at hk
  ·rename_i τ' d1 d hbx' hd
   split at hk
   ·rename_i q x' l0 r' l hq hx' hr
    obtain rfl:=Af hq
    simp only[Sa]at hk
    obtain⟨hnd',hk⟩:=hk
    simp only[jc]at hk
    subst hk
    have hnd':=Ki hnd'
    obtain⟨hsh',b',cur',et',hσ',hh',hF',hr0,hsz'⟩:=h.hp 500000 _ hbx'
    have hpin:σ 500000=.pointer (some ⟨b,0,none⟩):=h.pin 500000 _ (show(if(500000:Nat)=500000 then some (Value.pointer (some ⟨b,0,none⟩))else none)=_ from if_pos rfl)
    rw[hpin]at hσ'
    simp only[Value.pointer.injEq,jc,Addr.mk.injEq,and_true]at hσ'
    subst hσ'
    have hkl:(∀j,j∈l0→∃Ka,s.heap j=some Ka)∧(if vw then Bb w' (OO (fun c=>O c∨c∈b::(F0++F2)) s φ) τ' x' cur'.toList∧l0=[]else Nc w' τ' x' cur'.toList (La φ l0)):=by
     cases vw with
     |true=>
      simp only[zj]at hx'
      split at hx'
      ·rename_i y hy
       simp only[jc,jh]at hx'
       obtain⟨rfl,rfl⟩:=hx'
       exact⟨by simp,by simp only[if_true];exact⟨(Bj hy).2 _ hr0,trivial⟩⟩
      ·simp at hx'
     |false=>
      simp only[zk]at hx'
      obtain⟨g1,g2⟩:=So h hx' hr0
      exact⟨g2,by simpa using g1⟩
    obtain⟨hlive0,hx1⟩:=hkl
    obtain⟨vs,hvs,hru⟩:=VK hG.toEnvTy h hd
    obtain⟨hR,hlive⟩:=DZ h hr hru
    have hall:∀j,j∈500000::(l0++l)→∃Ka,s.heap j=some Ka:=by
     intro j hj
     rcases jp.1 hj with rfl|hj
     ·exact⟨_,hbx'⟩
     ·rcases jl.1 hj with hj|hj
      ·exact hlive0 j hj
      ·exact hlive j hj
    have hbk:La φ (500000::(l0++l))=b::(La φ l0++La φ l):=by
     have:La φ (500000::(l0++l))=φ 500000++La φ (l0++l):=by simp only[La,ym,yr]
     rw[this,hF',Se];rfl
    have hbn:=Rg h hnd' hall
    rw[hbk]at hbn
    have hinOO:∀c,c∈La φ l0++La φ l→OO (fun c=>O c∨c∈b::(F0++F2)) s φ c:=by
     intro c hc
     rw[←Se]at hc
     obtain⟨j,hj,hm'⟩:=Qb.1 hc
     obtain⟨Ka,hbj⟩:=hall j (jr _ hj)
     exact .inr ⟨j,Ka,hbj,hm'⟩
    refine⟨h.df,_,AJ hvs,vs,cur',et',La φ l0,La φ l,rfl,⟨h.fr.size,fun c hc hno=>h.fr.block c hc hno,h.fr.os,h.fr.tape,h.fr.output⟩,hh',hsz',?_,hR.mono ?_,hbn,?_⟩
    ·cases vw with
     |true=>
      simp only[if_true]at hx1⊢
      refine⟨hx1.1.weaken ?_,by rw[hx1.2];simp[La]⟩
      rintro c (hc|hc|hc)
      ·exact .inl (.inl hc)
      ·exact .inl (.inr hc)
      ·exact hinOO c (qx _ hc)
     |false=>simpa using hx1
    ·rintro c (hc|hc|hc|hc)
     ·exact .inl (.inl hc)
     ·exact .inl (.inr hc)
     ·exact hinOO c (qw _ hc)
     ·exact hinOO c (qx _ hc)
    ·intro c hcm
     have hcb:c≠b:=by
      rintro rfl
      exact(yo.1 hbn).1 hcm
     rw[←Se]at hcm
     obtain⟨j,hj,hm'⟩:=Qb.1 hcm
     obtain⟨Ka,hbj⟩:=hall j (jr _ hj)
     rcases h.fresh j Ka hbj c hm' with h1|h1
     ·exact .inl h1
     ·have h1:c∈b::(F0++F2):=h1
      rcases jp.1 h1 with h1|h1
      ·exact absurd h1 hcb
      ·exact .inr h1
   ·simp at hk
  ·simp at hk
 cases e with
 |normal=>exact Qi hk
 |ret=>exact Qi hk
 |exit j=>simp at hk
end
open Go Go.WideShapes
def Et:(τ:Ty)→T τ→Prop
 |.i k,n=>k.has n
 |.b,_=>True
 |.o,_=>True
 |.mp _ _,_=>True
 |.s,x=>ja x≤Il
 |.sl e,xs=>ja xs≤Il∧∀i (h:i<ja xs),Et e (List.get xs ⟨i,h⟩)
 |.u,_=>True
 |.p x y,v=>Et x v.1∧Et y v.2
def Ty.pos:Ty→Bool
 |.sl e=>e.pos&&yd 0 e.size
 |.p x y=>x.pos&&y.pos
 |.o=>false
 |.mp _ _=>false
 |_=>true
section
variable{H:Type} {enc:TypeId×Value→H} {P:Program} {w:World} {base:Nat} {spare:Nat→Bool} {held:Bool}
theorem Uv{τ:Ty}{t:TypeId}(h:Qe P τ t=true):P.cellsOf t=τ.size:=by
 obtain⟨i,h1,h2,_⟩:=Tok.size h
 simp[Program.cellsOf,h1,h2]
theorem LaU{k:IntKind}{n:Int}(h:(Lit.int k n).wf=true):k.has n:=by
 simpa[Lit.wf,IntKind.has]using h
theorem KaX{a:Addr}{n:Nat}(h:n≠0):a.add n=⟨a.block,a.off+n,none⟩:=by
 simp[Addr.add,h]
theorem Q2{a:Addr}{n:Nat}{cs:List Value}(h:w.cells? base a n=some cs)(hn:0<n):
 ∃cur et fr,a=⟨a.block,a.off,none⟩∧w.heap[a.block]?=some (.cells cur et fr)∧a.off+n≤cur.size∧cs=Je cur a.off n:=by
 unfold World.cells? at h
 split at h
 ·have hlen:cs.length=n:=by simpa using mapM_some_length h
  have hget:∀i,i<n→w.cell? (a.add i)=cs[i]?:=fun i hi=>mapM_some_get h i i (by simp[hi])
  have h0:=hget 0 hn
  have ha:a.add 0=a:=by simp[Addr.add]
  rw[ha]at h0
  have hc0:cs[0]?=some (cs[0]'(by omega)):=je (by omega)
  rw[hc0]at h0
  unfold World.cell? at h0
  split at h0
  ·rename_i cur et fr hb
   have hsp:a.spot=none:=by
    cases hs:a.spot with
    |none=>rfl
    |some x=>simp[hs]at h0
   have hcell:∀i,i<n→cur[a.off+i]?=cs[i]?:=by
    intro i hi
    have:=hget i hi
    by_cases hi0:i=0
    ·subst hi0
     rw[ha]at this
     unfold World.cell? at this
     rw[hb]at this
     simpa[hsp]using this
    ·rw[KaX hi0]at this
     unfold World.cell? at this
     simp only at this
     rw[hb]at this
     simpa using this
   refine⟨cur,et,fr,by cases a;simp_all,hb,?_,?_⟩
   ·have h1:=hcell (n-1) (by omega)
    rw[je (by omega)]at h1
    have:=(Array.getElem?_eq_some_iff.1 h1).1
    omega
   ·apply qr
    intro i
    by_cases hi:i<n
    ·rw[Jg _ _ _ _ hi,hcell i hi]
    ·rw[qv (by omega),qv]
     simp[Je];omega
  ·simp at h0
 ·simp at h
theorem GaQ{fs:List Field}{o:Nat}(h:Dh P .u fs o=true):fs=[]:=by
 cases fs<;>simp_all [Dh]
theorem Wak{x y:Ty}{fs:List Field}{o:Nat}(h:Dh P (.p x y) fs o=true):∃f r,fs=f::r∧f.offset=o∧Qe P x f.type=true∧Dh P y r (o+x.size)=true:=by
 cases fs with
 |nil=>simp[Dh]at h
 |cons f r=>
  simp only[Dh,jd]at h
  exact⟨f,r,rfl,ju h.1.1.1,h.1.2,h.2⟩
theorem Kaj{x y:Ty}{t:TypeId}(h:Qe P (.p x y) t=true):∃fs,P.underlying t=some (.struct fs)∧Dh P (.p x y) fs.toList 0=true:=by
 simp only[Qe,jd]at h
 obtain⟨_,h⟩:=h
 split at h
 ·rename_i fs hfs
  refine⟨fs,hfs,?_⟩
  split at h
  ·rename_i f r hr
   rw[hr]
   simpa[Dh]using h
  ·simp at h
 ·simp at h
theorem Laj{t:TypeId}(h:Qe P .u t=true):∃fs,P.underlying t=some (.struct fs)∧fs.size=0:=by
 simp only[Qe,jd]at h
 obtain⟨_,h⟩:=h
 split at h
 ·rename_i fs hfs
  exact⟨fs,hfs,ju h⟩
 ·simp at h
mutual
theorem Y4(hO:∀b,¬(fun _:Nat=>False) b):∀(τ:Ty) (t:TypeId) (n:Nat) (cs:List Value) (x:DataW H×List MemPlace),Qe P τ t=true→τ.pos=true→
 DataW.trod enc P w base spare held n t cs=some x→∃y:T τ,Bb w (fun _=>False) τ y cs∧Et τ y
 |.i k,t,n,cs,x,ht,_,h=>by
  obtain⟨m,h1,_,h2⟩:=DataW.trod_int (Tok.i ht) h
  exact⟨m,h1,LaU h2⟩
 |.b,t,n,cs,x,ht,_,h=>by
  obtain⟨m,h1,_⟩:=DataW.trod_bool (Tok.b ht) h
  exact⟨m,h1,trivial⟩
 |.o,t,n,cs,x,ht,hp,h=>by simp[Ty.pos]at hp
 |.mp _ _,t,n,cs,x,ht,hp,h=>by simp[Ty.pos]at hp
 |.s,t,n,cs,x,ht,_,h=>by
  obtain⟨m,h1,_,h2⟩:=DataW.trod_string (Tok.s ht) h
  refine⟨m.data.toList,?_,?_⟩
  ·show cs=[.string ⟨qt m.data.toList⟩]
   rw[h1]
  ·show m.data.toList.length≤Il
   have:m.size=m.data.toList.length:=Array.length_toList.symm
   unfold maxLen at h2
   unfold Il
   omega
 |.sl e,t,n,cs,x,ht,hp,h=>by
  obtain⟨et,hu,he⟩:=Tok.sl ht
  simp only[Ty.pos,jd]at hp
  have hpos:0<e.size:=by simpa using hp.2
  rcases DataW.trod_slice hu h with⟨h1,_⟩|⟨a,len,cap,elems,rest,m,_,h1,_,_,h2,h3,h4,h5,_,_⟩
  ·exact⟨([]:List (T e)),⟨none,0,h1,jo _,zd _,.inl rfl⟩,⟨zd _,fun i hi=>absurd hi (Nat.not_lt_zero i)⟩⟩
  ·rw[Uv he]at h5
   have hone:∀i,i<len→∃y:T e,∃cs',w.cells? base (a.add (i*e.size)) e.size=some cs'∧Bb w (fun _=>False) e y cs'∧Et e y:=by
    intro i hi
    have:=h5 i hi
    rw[je (by omega),qe]at this
    obtain⟨cs',hc,hy⟩:=this
    obtain⟨y,hv,hr⟩:=Y4 hO e et m cs' _ he hp.1 hy
    exact⟨y,cs',hc,hv,hr⟩
   let ys:List (T e):=List.ofFn fun i:Fin len=>Classical.choose (hone i.1 i.2)
   have hlen:ys.length=len:=by simp[ys]
   have hy:∀i (h:i<ys.length),∃cs',w.cells? base (a.add (i*e.size)) e.size=some cs'∧Bb w (fun _=>False) e (ys.get ⟨i,h⟩) cs'∧Et e (ys.get ⟨i,h⟩):=by
    intro i hi
    have:=Classical.choose_spec (hone i (by omega))
    simpa[ys]using this
   have hmax:len≤Il:=by unfold maxLen at h3;unfold Il;omega
   refine⟨ys,⟨some a,cap,by rw[h1,hlen],by rw[hlen];exact h2,by rw[hlen];exact hmax,?_⟩,by rw[hlen];exact hmax,fun i hi=>(hy i hi).choose_spec.2.2⟩
   by_cases hl0:len=0
   ·left
    exact q9 (by omega)
   ·right
    obtain⟨cs0,hc0,_⟩:=hy 0 (by omega)
    have ha0:a.add (0*e.size)=a:=by simp[Addr.add]
    rw[ha0]at hc0
    obtain⟨cur,et',fr,ha,hb,_,_⟩:=Q2 hc0 hpos
    have hadd:∀i,(a.add (i*e.size)).block=a.block∧(a.add (i*e.size)).off=a.off+i*e.size:=by
     intro i
     unfold Addr.add
     split
     ·rename_i hz;simp[hz]
     ·exact⟨rfl,rfl⟩
    refine⟨a.block,a.off,cur,et',fr,by rw[←ha],fun h=>h,hb,?_,?_⟩
    ·obtain⟨cs1,hc1,_⟩:=hy (len-1) (by omega)
     obtain⟨cur1,et1,fr1,_,hb1,hs1,_⟩:=Q2 hc1 hpos
     rw[(hadd _).1,hb]at hb1
     simp only[jc,Obj.cells.injEq]at hb1
     rw[(hadd _).2,←hb1.1]at hs1
     have:len*e.size=(len-1)*e.size+e.size:=by
      rw[←yt];congr 1;omega
     show a.off+ys.length*e.size≤cur.size
     rw[hlen]
     omega
    ·intro i hi
     obtain⟨cs1,hc1,hv,_⟩:=hy i hi
     obtain⟨cur1,et1,fr1,_,hb1,_,hs1⟩:=Q2 hc1 hpos
     rw[(hadd _).1,hb]at hb1
     simp only[jc,Obj.cells.injEq]at hb1
     rw[(hadd _).2,←hb1.1]at hs1
     rw[←hs1]
     exact hv
 |.u,t,n,cs,x,ht,_,h=>by
  obtain⟨fs,hu,hz⟩:=Laj ht
  obtain⟨xs,m,_,_,hl,_⟩:=DataW.trod_struct hu h
  rw[Uv ht]at hl
  exact⟨(),q9 hl,trivial⟩
 |.p a c2,t,n,cs,x,ht,hp,h=>by
  obtain⟨fs,hu,hf⟩:=Kaj ht
  obtain⟨xs,m,_,_,hl,_,hget⟩:=DataW.trod_struct hu h
  rw[Uv ht]at hl
  have:=O6 hO (.p a c2) fs.toList 0 m cs hf hp (by simpa using hl) (by
   intro i f hi
   have:=hget i f (by simpa using hi)
   have hlt:i<xs.length:=by
    have:i<fs.toList.length:=(ya.1 hi).1
    simp at this;omega
   exact⟨_,this.trans (je hlt)⟩)
  simpa using this
termination_by τ=>(sizeOf τ,1)
theorem O6(hO:∀b,¬(fun _:Nat=>False) b):∀(τ:Ty) (fs:List Field) (o m:Nat) (cs:List Value),Dh P τ fs o=true→τ.pos=true→cs.length=o+τ.size→
 (∀(i:Nat) (f:Field),fs[i]?=some f→∃x,DataW.trod enc P w base spare held m f.type ((cs.drop f.offset).take (P.cellsOf f.type))=some x)→
 ∃y:T τ,Bb w (fun _=>False) τ y (cs.drop o)∧Et τ y
 |.p a c2,fs,o,m,cs,hf,hp,hl,hx=>by
  obtain⟨f,r,rfl,ho,ht,hr⟩:=Wak hf
  simp only[Ty.pos,jd]at hp
  simp only[Ty.size]at hl
  obtain⟨z,hz⟩:=hx 0 f rfl
  rw[Uv ht,ho]at hz
  obtain⟨y1,hv1,hr1⟩:=Y4 hO a f.type m _ z ht hp.1 hz
  obtain⟨y2,hv2,hr2⟩:=O6 hO c2 r (o+a.size) m cs hr hp.2 (by omega) (fun i f' hi=>hx (i+1) f' (by simpa using hi))
  refine⟨(y1,y2),⟨(cs.drop o).take a.size,cs.drop (o+a.size),?_,hv1,hv2⟩,hr1,hr2⟩
  rw[←qs,List.take_append_drop]
 |.u,fs,o,m,cs,_,_,hl,_=>⟨(),by simp only[Bb,Ty.size]at hl⊢;exact List.drop_of_length_le (by omega),trivial⟩
 |.i _,fs,o,m,cs,hf,_,_,_=>by simp[Dh]at hf
 |.b,fs,o,m,cs,hf,_,_,_=>by simp[Dh]at hf
 |.o,fs,o,m,cs,hf,_,_,_=>by simp[Dh]at hf
 |.mp _ _,fs,o,m,cs,hf,_,_,_=>by simp[Dh]at hf
 |.s,fs,o,m,cs,hf,_,_,_=>by simp[Dh]at hf
 |.sl _,fs,o,m,cs,hf,_,_,_=>by simp[Dh]at hf
termination_by τ=>(sizeOf τ,0)
end
end
open Go Go.WideShapes Go.ChangeShapes
def On(P:Program):Ty→List TypeId→Bool
 |.p x y,t::ts=>Qe P x t&&x.pos&&On P y ts
 |.u,[]=>true
 |_,_=>false
section
variable{H:Type} {enc:TypeId×Value→H} {P:Program} {w:World} {base:Nat} {spare:Nat→Bool} {held:Bool}
theorem OaC{τ:Ty}{t:TypeId}{v:Value}{r:Reach}{b0:Nat}(ht:Qe P τ t=true)(h:Value.okWide P w r b0 t v):v=Oe τ v.cells.toList:=by
 have key:∀{τ:Ty},τ.isAgg=false→v.cells= #[v]→v=Oe τ v.cells.toList:=by
  intro τ h1 h2
  rw[h2];simp[Oe,h1]
 cases τ with
 |i k=>
  obtain⟨n,rfl⟩:=okWide_int (Tok.i ht) h
  exact key rfl rfl
 |b=>
  obtain⟨n,rfl⟩:=okWide_bool (Tok.b ht) h
  exact key rfl rfl
 |o=>
  refine key rfl ?_
  obtain⟨et,hu⟩:=Tok.o ht
  unfold Value.okWide at h
  rw[hu]at h
  cases v with
  |agg cs=>simp[Cell.okWide,Cell.ok,hu]at h
  |_=>rfl
 |mp _ _=>
  refine key rfl ?_
  obtain⟨kt,et,hu,_⟩:=Tok.mp ht
  unfold Value.okWide at h
  rw[hu]at h
  cases v with
  |agg cs=>simp[Cell.okWide,Cell.ok,hu]at h
  |_=>rfl
 |s=>
  refine key rfl ?_
  have hu:=Tok.s ht
  unfold Value.okWide at h
  rw[hu]at h
  cases v with
  |agg cs=>simp[Cell.okWide,Cell.ok,hu]at h
  |_=>rfl
 |sl e=>
  refine key rfl ?_
  obtain⟨et,hu,_⟩:=Tok.sl ht
  unfold Value.okWide at h
  rw[hu]at h
  cases v with
  |agg cs=>simp[Cell.okWide,Cell.ok,hu]at h
  |_=>rfl
 |u=>
  obtain⟨fs,hu,_⟩:=Laj ht
  obtain⟨cs,rfl,_⟩:=okWide_struct hu h
  simp[Oe,Ty.isAgg,Value.cells]
 |p x y=>
  obtain⟨fs,hu,_⟩:=Kaj ht
  obtain⟨cs,rfl,_⟩:=okWide_struct hu h
  simp[Oe,Ty.isAgg,Value.cells]
theorem X4:∀{pt:Ty} {ts:List TypeId} {vs:List Value} {ds:List (DataW H)} {ps:List MemPlace},On P pt ts=true→DataW.TrodAll enc P w 0 spare held ts vs ds ps→
 (∀(j:Nat) t v,ts[j]?=some t→vs[j]?=some v→Value.okWide P w .any base t v)→∃x:T pt,Ji w (fun _=>False) pt x vs∧Et pt x
 |.p x y,t::ts,v::vs,d::ds,ps,hp,h,hv=>by
  simp only[On,jd]at hp
  obtain⟨p,q,⟨n,h1⟩,h2,_⟩:=h
  obtain⟨a,ha,hra⟩:=Y4 (fun _ h=>h) x t n _ _ hp.1.1 hp.1.2 h1
  obtain⟨b,hb,hrb⟩:=X4 hp.2 h2 fun j t' v' h1 h2=>hv (j+1) t' v' (by simpa using h1) (by simpa using h2)
  exact⟨(a,b),⟨⟨_,OaC hp.1.1 (hv 0 t v rfl rfl),ha⟩,hb⟩,hra,hrb⟩
 |.u,[],[],[],_,_,_,_=>⟨(),trivial,trivial⟩
 |.p _ _,[],_,_,_,hp,_,_=>by simp[On]at hp
 |.u,_::_,_,_,_,hp,_,_=>by simp[On]at hp
 |.i _,_,_,_,_,hp,_,_=>by simp[On]at hp
 |.b,_,_,_,_,hp,_,_=>by simp[On]at hp
 |.o,_,_,_,_,hp,_,_=>by simp[On]at hp
 |.mp _ _,_,_,_,_,hp,_,_=>by simp[On]at hp
 |.s,_,_,_,_,hp,_,_=>by simp[On]at hp
 |.sl _,_,_,_,_,hp,_,_=>by simp[On]at hp
 |.p _ _,_::_,[],_,_,_,h,_=>by simp[DataW.TrodAll]at h
 |.p _ _,_::_,_::_,[],_,_,h,_=>by simp[DataW.TrodAll]at h
 |.u,[],_::_,_,_,_,h,_=>by simp[DataW.TrodAll]at h
 |.u,[],[],_::_,_,_,h,_=>by simp[DataW.TrodAll]at h
def B5(P:Program)(t:TypeId):Prop:=∃τ:Ty,Qe P τ t=true∧τ.pos=true
theorem Xak:∀{τ:Ty} {fs:List Field} {o:Nat},Dh P τ fs o=true→τ.pos=true→
 (∀f∈fs,B5 P f.type)∧τ.size=(fs.map fun f=>P.cellsOf f.type).sum∧∀(j:Nat) f,fs[j]?=some f→f.offset=o+((fs.take j).map fun f=>P.cellsOf f.type).sum
 |.u,fs,o,h,_=>by
  rw[GaQ h]
  simp[Ty.size]
 |.p x y,fs,o,h,hp=>by
  obtain⟨f,r,rfl,ho,ht,hr⟩:=Wak h
  simp only[Ty.pos,jd]at hp
  obtain⟨h1,h2,h3⟩:=Xak hr hp.2
  refine⟨?_,?_,?_⟩
  ·intro g hg
   rcases jp.1 hg with rfl|hg
   ·exact⟨x,ht,hp.1⟩
   ·exact h1 g hg
  ·simp[Ty.size,Uv ht,h2]
  ·intro j g hj
   cases j with
   |zero=>simp at hj;subst hj;simp[ho]
   |succ j=>
    have:=h3 j g (by simpa using hj)
    simp[this,Uv ht,jt]
 |.i _,fs,o,h,_=>by simp[Dh]at h
 |.b,fs,o,h,_=>by simp[Dh]at h
 |.o,fs,o,h,_=>by simp[Dh]at h
 |.mp _ _,fs,o,h,_=>by simp[Dh]at h
 |.s,fs,o,h,_=>by simp[Dh]at h
 |.sl _,fs,o,h,_=>by simp[Dh]at h
theorem GS{t:TypeId}{u:TypeDesc}(h:B5 P t)(hu:P.underlying t=some u):(∃k,u=.int k)∨u=.bool∨u=.string∨(∃e,u=.slice e∧B5 P e∧0<P.cellsOf e)∨∃fs,u=.struct fs:=by
 obtain⟨τ,ht,hp⟩:=h
 cases τ with
 |i k=>rw[Tok.i ht]at hu;exact .inl ⟨k,(zf hu).symm⟩
 |b=>rw[Tok.b ht]at hu;exact .inr (.inl (zf hu).symm)
 |o=>simp[Ty.pos]at hp
 |mp _ _=>simp[Ty.pos]at hp
 |s=>rw[Tok.s ht]at hu;exact .inr (.inr (.inl (zf hu).symm))
 |sl e=>
  obtain⟨et,h1,h2⟩:=Tok.sl ht
  rw[h1]at hu
  simp only[Ty.pos,jd]at hp
  exact .inr (.inr (.inr (.inl ⟨et,(zf hu).symm,⟨e,h2,hp.1⟩,by rw[Uv h2];simpa using hp.2⟩)))
 |u=>obtain⟨fs,h1,_⟩:=Laj ht;rw[h1]at hu;exact .inr (.inr (.inr (.inr ⟨fs,(zf hu).symm⟩)))
 |p x y=>obtain⟨fs,h1,_⟩:=Kaj ht;rw[h1]at hu;exact .inr (.inr (.inr (.inr ⟨fs,(zf hu).symm⟩)))
theorem BaA:Kids P (B5 P):=by
 refine⟨?_,?_,?_,?_,?_⟩
 ·intro t e ht hu
  rcases GS ht hu with⟨k,h⟩|h|h|⟨e',h,_⟩|⟨fs,h⟩<;>simp at h
 ·intro t e ht hu
  rcases GS ht hu with⟨k,h⟩|h|h|⟨e',h,h2,_⟩|⟨fs,h⟩<;>simp at h
  rw[h];exact h2
 ·intro t e n ht hu
  rcases GS ht hu with⟨k,h⟩|h|h|⟨e',h,_⟩|⟨fs,h⟩<;>simp at h
 ·intro t fs ht hu
  obtain⟨τ,ht,hp⟩:=ht
  cases τ with
  |i k=>rw[Tok.i ht]at hu;simp at hu
  |b=>rw[Tok.b ht]at hu;simp at hu
  |o=>simp[Ty.pos]at hp
  |mp _ _=>simp[Ty.pos]at hp
  |s=>rw[Tok.s ht]at hu;simp at hu
  |sl e=>obtain⟨et,h1,_⟩:=Tok.sl ht;rw[h1]at hu;simp at hu
  |u=>
   obtain⟨fs',h1,h2⟩:=Laj ht
   rw[h1]at hu
   simp only[jc,TypeDesc.struct.injEq]at hu
   subst hu
   have:fs'.toList=[]:=by simpa using h2
   rw[Uv ht,this]
   simp[Ty.size]
  |p x y=>
   obtain⟨fs',h1,h2⟩:=Kaj ht
   rw[h1]at hu
   simp only[jc,TypeDesc.struct.injEq]at hu
   subst hu
   obtain⟨a,b,c⟩:=Xak h2 hp
   exact⟨a,by rw[Uv ht,b],fun j f hj=>by simpa using c j f hj⟩
 ·intro t k e ht hu
  rcases GS ht hu with⟨k,h⟩|h|h|⟨e',h,_⟩|⟨fs,h⟩<;>simp at h
theorem A7:∀{pt:Ty} {ts:List TypeId},On P pt ts=true→∀t∈ts,B5 P t
 |.p x y,t::ts,h,t',ht=>by
  simp only[On,jd]at h
  rcases jp.1 ht with rfl|ht
  ·exact⟨x,h.1.1,h.1.2⟩
  ·exact A7 h.2 t' ht
 |.u,[],_,_,ht=>by simp at ht
 |.p _ _,[],_,_,ht=>by simp at ht
 |.u,_::_,h,_,_=>by simp[On]at h
 |.i _,_,h,_,_=>by simp[On]at h
 |.b,_,h,_,_=>by simp[On]at h
 |.o,_,h,_,_=>by simp[On]at h
 |.mp _ _,_,h,_,_=>by simp[On]at h
 |.s,_,h,_,_=>by simp[On]at h
 |.sl _,_,h,_,_=>by simp[On]at h
theorem X1{w':World}{sp':Nat→Bool}:∀{ts:List TypeId} {vs:List Value} {ds:List (DataW H)} {ps:List MemPlace},(∀t∈ts,B5 P t)→
 DataW.TrodAll enc P w 0 (fun _=>true) true ts vs ds ps→(∀p∈ps,w.sameAt w' p)→(∀p∈ps,sp' p.block=true)→DataW.TrodAll enc P w' 0 sp' true ts vs ds ps
 |[],[],[],_,_,h,_,_=>h
 |t::ts,v::vs,d::ds,ps,hp,h,h1,h2=>by
  obtain⟨p,q,⟨n,ha⟩,hb,rfl⟩:=h
  refine⟨p,q,⟨n,DataW.trod_stays BaA ?_ (fun h=>by simp at h) (hp t (by simp)) ha (fun z hz=>h1 z (qw _ hz)) (fun z hz=>h2 z (qw _ hz))⟩,
   X1 (fun t ht=>hp t (by simp[ht])) hb (fun z hz=>h1 z (qx _ hz)) (fun z hz=>h2 z (qx _ hz)),rfl⟩
  intro t e ht hu
  rcases GS ht hu with⟨k,h⟩|h|h|⟨e',h,_,h2⟩|⟨fs,h⟩<;>simp at h
  rw[h];exact h2
 |[],_::_,_,_,_,h,_,_=>by simp[DataW.TrodAll]at h
 |[],[],_::_,_,_,h,_,_=>by simp[DataW.TrodAll]at h
 |_::_,[],_,_,_,h,_,_=>by simp[DataW.TrodAll]at h
 |_::_,_::_,[],_,_,h,_,_=>by simp[DataW.TrodAll]at h
theorem G7:∀{ts:List TypeId} {vs:List Value} {ds:List (DataW H)} {ps:List MemPlace},DataW.TrodAll enc P w base spare held ts vs ds ps→ds.length=ts.length
 |[],[],[],_,_=>rfl
 |_::_,_::_,_::_,_,h=>by
  obtain⟨_,_,_,h,_⟩:=h
  simp[G7 h]
 |[],_::_,_,_,h=>by simp[DataW.TrodAll]at h
 |[],[],_::_,_,h=>by simp[DataW.TrodAll]at h
 |_::_,[],_,_,h=>by simp[DataW.TrodAll]at h
 |_::_,_::_,[],_,h=>by simp[DataW.TrodAll]at h
theorem YB.but{w w':World}(h:YB w w' fun _=>False)(may:MemPlace→Prop):w.keptBut w' may:=by
 refine⟨h.os,h.output,fun i hi=>?_⟩
 rw[h.block i hi (fun h=>h)]
 cases w.heap[i]? with
 |none=>rfl
 |some o=>
  cases o with
  |cells c t fr=>exact⟨rfl,rfl,rfl,fun _ _=>rfl⟩
  |map es clock=>exact .inr ⟨rfl,rfl⟩
  |_=>rfl
end
noncomputable def Va{X R:Type}(step:X→Option (X⊕R))(x:X):Option R:=
 open Classical in if h:∃m y,NS step m x y then some h.choose_spec.choose else none
theorem NS.det{X R:Type}{step:X→Option (X⊕R)}:∀{m n:Nat} {x:X} {y z:R},NS step m x y→NS step n x z→y=z
 |0,_,_,_,_,h,_=>h.elim
 |_+1,0,_,_,_,_,h=>h.elim
 |m+1,n+1,x,y,z,h,h'=>by
  rcases h with h|⟨x1,h,h1⟩<;>rcases h' with h'|⟨x2,h',h2⟩
  ·rw[h]at h';simpa using h'
  ·rw[h]at h';simp at h'
  ·rw[h]at h';simp at h'
  ·rw[h]at h'
   simp only[jc,ze]at h'
   subst h'
   exact NS.det h1 h2
theorem RW{X R:Type}{step:X→Option (X⊕R)}{x:X}{y:R}:Va step x=some y↔∃m,NS step m x y:=by
 unfold Va
 constructor
 ·intro h
  split at h
  ·rename_i hh
   simp only[jc]at h
   exact⟨_,h▸hh.choose_spec.choose_spec⟩
  ·simp at h
 ·rintro⟨m,h⟩
  have hh:∃m y,NS step m x y:=⟨m,y,h⟩
  rw[dif_pos hh]
  exact congrArg some (NS.det hh.choose_spec.choose_spec h)
theorem IN{X R:Type}{step:X→Option (X⊕R)}(x:X):Va step x=(step x).bind (Sum.elim (Va step) some):=by
 apply Option.ext
 intro y
 rw[RW]
 constructor
 ·rintro⟨m,h⟩
  cases m with
  |zero=>exact h.elim
  |succ m=>
   rcases h with h|⟨x',h,h'⟩
   ·simp[h]
   ·simp[h,RW.2 ⟨m,h'⟩]
 ·intro h
  rw[qe]at h
  obtain⟨z,hz,h⟩:=h
  cases z with
  |inl x'=>
   obtain⟨m,hm⟩:=RW.1 h
   exact⟨m+1,.inr ⟨x',hz,hm⟩⟩
  |inr z=>
   simp only[Sum.elim_inr,jc]at h
   subst h
   exact⟨1,.inl hz⟩
def lp(fn:Func)(i:Nat):Code:=(Pf (fn.body.getD .skip)).getD i .skip
theorem Cag{G:Yf}{L:List (Nat×Na)}{fn:Func}{i r:Nat}{ls:Na}{R:ls.inT.X→Option (ls.inT.X⊕(ls.outT.X⊕ls.retT.X))}
 (h1:Jn (lp fn i)=some r) (h2:(Dc L r)=some ls) (h3:ls.F=Va R) (h4:∀x,AX G L ls (lp fn i) x=R x):Ta G L (lp fn i):=by
 intro r' ls' hr hl x y hy
 rw[h1]at hr
 simp only[jc]at hr
 subst hr
 rw[h2]at hl
 simp only[jc]at hl
 subst hl
 rw[h3]at hy
 obtain⟨m,hm⟩:=RW.1 hy
 have:AX G L ls (lp fn i)=R:=funext h4
 rw[this]
 exact⟨m,hm⟩
theorem SW{G:Yf}{L:List (Nat×Na)}{fn:Func}{k:Nat}(hk:qy (Pf (fn.body.getD .skip)).length k=true)(h:∀i,i<k→Ta G L (lp fn i)):
 ∀b,b∈Pf (fn.body.getD .skip)→Ta G L b:=by
 intro b hb
 obtain⟨i,hi,rfl⟩:=List.mem_iff_getElem.1 hb
 have:=h i (by rw[←ju hk];exact hi)
 unfold lp at this
 rwa [qf,je hi]at this
theorem Ga{p:Nat→Prop}:∀i,i<0→p i:=fun i h=>absurd h (Nat.not_lt_zero i)
theorem Ea{p:Nat→Prop}{k:Nat}(h:p k)(hr:∀i,i<k→p i):∀i,i<k+1→p i:=by
 intro i hi
 rcases Nat.lt_or_eq_of_le (Nat.lt_succ_iff.1 hi)with hi|rfl
 ·exact hr i hi
 ·exact h
section
variable{P:Program}
theorem SaI{l:List (Nat×Ty)}{fs:List (Nat×Ha)}{m:List (Nat×Nat)}{z:Bool}{ar:List (Nat×Ty×Nat)}{mv ml:List Nat}
 (h:((l.all fun x=>Qe P x.2 x.1)&&(ar.all fun x=>O7 P x.1 x.2.1 x.2.2))=true):EnvTy P ⟨l,fs,m,z,ar,mv,ml⟩:=by
 simp only[jd]at h
 exact⟨fun t τ ht=>yz.1 h.1 (t,τ) (IE ht),fun t e n ht=>yz.1 h.2 (t,e,n) (IE ht)⟩
theorem Vaf{I:Gh}{l:List (Nat×Ty)}{m:List (Nat×Nat)}{z:Bool}{ar:List (Nat×Ty×Nat)}{mv ml:List Nat}
 (h:((l.all fun x=>Qe P x.2 x.1)&&(ar.all fun x=>O7 P x.1 x.2.1 x.2.2))=true):Ll P I ⟨l,[],m,z,ar,mv,ml⟩:=
 {toEnvTy:=SaI h,fn:=fun f sem h=>by simp[Dc]at h}
theorem Ll.cons{I:Gh}{l:List (Nat×Ty)}{fs:List (Nat×Ha)}{m:List (Nat×Nat)}{z:Bool}{ar:List (Nat×Ty×Nat)}{mv ml:List Nat}{f:Nat}{sem:Ha}(hs:Th P I f sem)
 (h:Ll P I ⟨l,fs,m,z,ar,mv,ml⟩):Ll P I ⟨l,(f,sem)::fs,m,z,ar,mv,ml⟩:=
 {toEnvTy:=⟨h.ty,h.ar⟩,fn:=fun g s hg=>by
    simp only[Qd]at hg
    split at hg
    ·rename_i e
     simp only[jc]at hg
     subst e;subst hg
     exact hs
    ·exact h.fn g s hg}
theorem BW{fn:Func}(h:fn.body.isSome=true):fn.body=some (fn.body.getD .skip):=by
 cases hb:fn.body with
 |none=>rw[hb]at h;simp at h
 |some c=>rfl
variable{I:Gh} {G:Yf} {L:List (Nat×Na)}
theorem N4(hG:Ll P I G)(hm:P.follows .mixedOrders=true){f:FuncId}{fn:Func}{k:Nat}{pt rt:Ty}{fr:List Bool}{F:T pt→Option (T rt)}(hf:P.funcs[f]?=some fn)
 (hb:(fn.body.isSome&&!(fn.name== "runtime.NumGoroutine")&&jx pt.npar fn.ntmps&&qy (Pf (fn.body.getD .skip)).length k)=true)
 (hL:∀i,i<k→Ta G L (lp fn i)) (hF:∀x,evF G L fn pt rt fr x=F x):Th P I f (.pu pt rt fr F):=by
 simp only[jd,yn]at hb
 exact WaK hG hm hf (BW hb.1.1.1) hb.1.1.2 (SW hb.2 hL) (q8 hb.1.2) fun x r h=>(hF x).trans h
theorem JaG(hG:Ll P I G)(hfz:G.fz=false)(hm:P.follows .mixedOrders=true){f:FuncId}{fn:Func}{k:Nat}{τ pt rt:Ty}{fr:List Bool}{F:T τ→T pt→Option (T τ×T rt)}(hf:P.funcs[f]?=some fn)
 (hb:(fn.body.isSome&&!(fn.name== "runtime.NumGoroutine")&&jx (pt.npar+1) fn.ntmps&&qy (Pf (fn.body.getD .skip)).length k)=true)
 (hL:∀i,i<k→Ta G L (lp fn i)) (hF:∀x0 x,Caj G L fn τ pt rt fr x0 x=F x0 x):Th P I f (.io τ pt rt fr F):=by
 simp only[jd,yn]at hb
 exact VaK hG hfz hm hf (BW hb.1.1.1) hb.1.1.2 (SW hb.2 hL) (q8 hb.1.2) fun x0 x r h=>(hF x0 x).trans h
theorem IaG(hG:Ll P I G)(hfz:(!G.fz||cmB G.att)=true)(hm:P.follows .mixedOrders=true){f:FuncId}{fn:Func}{k:Nat}{pt rt:Ty}{fr:List Bool}{F:T pt→Option (T rt)}(hf:P.funcs[f]?=some fn)
 (hb:(fn.body.isSome&&!(fn.name== "runtime.NumGoroutine")&&jx pt.npar fn.ntmps&&qy (Pf (fn.body.getD .skip)).length k)=true)
 (hL:∀i,i<k→Ta G L (lp fn i)) (hF:∀x,Baj G L fn pt rt fr x=F x):Th P I f (.co pt rt fr F):=by
 simp only[jd,yn]at hb
 exact UaK hG (by simpa using hfz) hm hf (BW hb.1.1.1) hb.1.1.2 (SW hb.2 hL) (q8 hb.1.2) fun x r h=>(hF x).trans h
theorem GaG(hG:Ll P I G){vw cv:Bool}(hfz:(!G.fz||((vw&&!cv)&&DO G.att))=true)(hm:P.follows .mixedOrders=true){f:FuncId}{fn:Func}{k:Nat}{τ pt rt:Ty}{fr:List Bool}{F:T τ→T pt→Option (T τ×T rt)}(hf:P.funcs[f]?=some fn)
 (hb:(fn.body.isSome&&!(fn.name== "runtime.NumGoroutine")&&jx (pt.npar+1) fn.ntmps&&qy (Pf (fn.body.getD .skip)).length k)=true)
 (hL:∀i,i<k→Ta G L (lp fn i)) (hF:∀x0 x,Aaj G L fn vw cv τ pt rt fr x0 x=F x0 x):Th P I f (.bx vw cv τ pt rt fr F):=by
 simp only[jd,yn]at hb
 have hz:G.fz=false∨((vw&&!cv)=true∧DO G.att=true):=by
  simp only[qz,yn,jd]at hfz⊢
  exact hfz
 exact TaK hG hz hm hf (BW hb.1.1.1) hb.1.1.2 (SW hb.2 hL) (q8 hb.1.2) fun x0 x r h=>(hF x0 x).trans h
end
abbrev Hh:Ty:=.p (.i .i64) (.p (.sl (.i .i64)) .u)
abbrev Lf:Ty:=.p (.i .i64) (.p .o .u)
def hd(h:T .o):Value:=.slice h.1 h.2.1 h.2.2
section
variable{P:Program} {w w':World}
theorem PaF{x:T Hh}{cs:List Value}{F:List Nat}(h:Nc w Hh x cs F):∃h:T .o,cs=[.int .i64 x.1,hd h]∧Nc w (.sl (.i .i64)) x.2.1 [hd h] F:=by
 obtain⟨c1,c2,F1,F2,rfl,rfl,⟨rfl,rfl⟩,c3,c4,F3,F4,rfl,rfl,h3,rfl,rfl⟩:=h
 have h3':=h3
 obtain⟨_,⟨e1,_,_⟩|⟨bl,off,cap,cur,et,Fs,e1,_⟩⟩:=h3
 ·subst e1
  exact⟨(none,0,0),rfl,by simpa[hd]using h3'⟩
 ·subst e1
  exact⟨(some ⟨bl,off,none⟩,ja x.2.1,cap),rfl,by simpa[hd]using h3'⟩
theorem YaX{x:T Hh}{h:T .o}{F:List Nat}(ho:Nc w (.sl (.i .i64)) x.2.1 [hd h] F):Nc w Hh x [.int .i64 x.1,hd h] F:=
 ⟨[.int .i64 x.1],[hd h],[],F,rfl,rfl,⟨rfl,rfl⟩,[hd h],[],F,[],by simp,by simp,ho,rfl,rfl⟩
theorem Iav(x:T Lf)(O:Nat→Prop):Bb w O Lf x [.int .i64 x.1,hd x.2.1]:=
 ⟨[.int .i64 x.1],[hd x.2.1],rfl,rfl,[hd x.2.1],[],by simp,rfl,rfl⟩
theorem Kad{x:T Lf}{O:Nat→Prop}{cs:List Value}(h:Bb w O Lf x cs):cs=[.int .i64 x.1,hd x.2.1]:=by
 obtain⟨c1,c2,rfl,rfl,c3,c4,rfl,rfl,rfl⟩:=h
 rfl
abbrev V9:=T Hh×T Lf×List Nat
def Ray(w:World)(p:V9):Prop:=p.2.1.1=p.1.1∧Nc w (.sl (.i .i64)) p.1.2.1 [hd p.2.1.2.1] p.2.2
theorem NaK{l:List (T Hh)}{cs:List Value}{F:List Nat}(h:Nc w (.sl Hh) l cs F):
 ∃Q:List V9,Q.map (·.1)=l∧Bb w (fun _=>False) (.sl Lf) (Q.map (·.2.1)) cs∧(∀p∈Q,Ray w p)∧(Q.map (·.2.2)).flatten.Sublist F:=by
 obtain⟨hm,⟨rfl,rfl,rfl⟩|⟨bl,off,cap,cur,et,Fs,rfl,hh,h1,h2,h3,rfl,hl,hv⟩⟩:=h
 ·exact⟨[],rfl,⟨none,0,rfl,jo _,hm,.inl rfl⟩,by simp,by simp⟩
 ·have key:∀i:Fin (ja l),∃h:T .o,Je cur (off+i.val*Hh.size) Hh.size=[.int .i64 (List.get l i).1,hd h]∧Nc w (.sl (.i .i64)) (List.get l i).2.1 [hd h] (Fs.getD i.val []):=
   fun i=>PaF (hv i.val i.isLt)
  have⟨g,hg⟩:=Classical.axiomOfChoice key
  let Q:List V9:=List.ofFn fun i:Fin (ja l)=>(List.get l i,((List.get l i).1,g i,()),Fs.getD i.val [])
  have hQ:∀i (hi:i<ja l),Q[i]'(by simp[Q];exact hi)=(List.get l ⟨i,hi⟩,((List.get l ⟨i,hi⟩).1,g ⟨i,hi⟩,()),Fs.getD i []):=fun i hi=>by simp[Q]
  have hQl:Q.length=ja l:=by simp[Q]
  refine⟨Q,?_,?_,?_,?_⟩
  ·apply List.ext_getElem
   ·simp[hQl]
   ·intro i h1 h2
    rw[List.getElem_map,hQ i h2];rfl
  ·have hlen:ja (Q.map (·.2.1))=ja l:=by simp[hQl]
   refine⟨_,cap,by rw[hlen],by rw[hlen];exact h1,by rw[hlen];exact hm,.inr ⟨bl,off,cur,et,_,rfl,fun h=>h,hh,?_,fun i hi=>?_⟩⟩
   ·rw[hlen]
    have:=jm Hh.size h1
    exact qa (Nat.add_le_add_left this _) h3
   ·have hi':i<ja l:=by rw[←hlen];exact hi
    have e:List.get (Q.map (·.2.1)) ⟨i,hi⟩=((List.get l ⟨i,hi'⟩).1,g ⟨i,hi'⟩,()):=by
     show(Q.map (·.2.1))[i]=_
     rw[List.getElem_map,hQ i hi']
    rw[e]
    have:=(hg ⟨i,hi'⟩).1
    show Bb w _ Lf _ (Je cur (off+i*Hh.size) Hh.size)
    rw[this]
    exact Iav (((List.get l ⟨i,hi'⟩).1,g ⟨i,hi'⟩,()):T Lf) _
  ·intro p hp
   obtain⟨i,hi,rfl⟩:=qk hp
   have hi':i<ja l:=by rw[←hQl];exact hi
   rw[hQ i hi']
   exact⟨rfl,(hg ⟨i,hi'⟩).2⟩
  ·have e:Q.map (·.2.2)=Fs:=by
    apply List.ext_getElem
    ·simp[hQl,hl]
    ·intro i h1 h2
     have hi':i<ja l:=by rw[←hl];exact h2
     rw[List.getElem_map,hQ i hi']
     simp[qu,je h2]
   rw[e]
   exact List.sublist_cons_self _ _
theorem XaK{Q:List V9}{cs:List Value}{F:List Nat}(h:Nc w (.sl Lf) (Q.map (·.2.1)) cs F)(hQ:∀p∈Q,Ray w p):
 ∃F',Nc w (.sl Hh) (Q.map (·.1)) cs F'∧(∀b,b∈F'→b∈F∨b∈(Q.map (·.2.2)).flatten)∧((∀b,b∈F→b∉(Q.map (·.2.2)).flatten)→F.Nodup→(Q.map (·.2.2)).flatten.Nodup→F'.Nodup):=by
 obtain⟨hm,⟨rfl,hn,rfl⟩|⟨bl,off,cap,cur,et,Fs,rfl,hh,h1,h2,h3,rfl,hl,hv⟩⟩:=h
 ·have:Q=[]:=List.map_eq_nil_iff.1 hn
  subst this
  exact⟨[],⟨hm,.inl ⟨rfl,rfl,rfl⟩⟩,by simp,by simp⟩
 ·have hlen:ja (Q.map (·.2.1))=Q.length:=by simp
  have hlen1:ja (Q.map (·.1))=Q.length:=by simp
  rw[hlen]at hm h1 hl
  refine⟨bl::(Q.map (·.2.2)).flatten,⟨by rw[hlen1];exact hm,.inr ⟨bl,off,cap,cur,et,Q.map (·.2.2),by rw[hlen1];simp,hh,by rw[hlen1];exact h1,h2,h3,rfl,by simp,fun i hi=>?_⟩⟩,?_,?_⟩
  ·have hi':i<Q.length:=by rw[←hlen1];exact hi
   have hv':=hv i (by rw[hlen];exact hi')
   have e0:List.get (Q.map (·.2.1)) ⟨i,by rw[hlen];exact hi'⟩=Q[i].2.1:=by
    show(Q.map (·.2.1))[i]'_=_
    rw[List.getElem_map]
   have e1:List.get (Q.map (·.1)) ⟨i,hi⟩=Q[i].1:=by
    show(Q.map (·.1))[i]'_=_
    rw[List.getElem_map]
   rw[e0]at hv'
   rw[e1]
   have hF0:∀b,b∈Fs.getD i []→False:=by
    intro b hb
    obtain⟨c1,c2,F1,F2,_,hF,⟨_,rfl⟩,c3,c4,F3,F4,_,rfl,⟨_,rfl⟩,_,rfl⟩:=hv'
    rw[hF]at hb;simp at hb
   have hcs:=Kad (Nc.view (O:=fun _=>False) hv' (fun b hb h=>h))
   have hok:=hQ Q[i] (qj hi')
   have e2:(Q.map (·.2.2)).getD i []=Q[i].2.2:=by
    simp[qu,je hi']
   rw[e2]
   show Nc w Hh _ (Je cur (off+i*Lf.size) Lf.size) _
   rw[hcs,hok.1]
   exact YaX hok.2
  ·intro b hb
   rcases jp.1 hb with rfl|hb
   ·exact .inl (by simp)
   ·exact .inr hb
  ·intro hdj _ hnd
   exact yo.2 ⟨hdj bl (by simp),hnd⟩
end
def Oz(same:T Hh→T Hh→Bool):T Hh→List (T Hh)→List (T Hh)
 |_,[]=>[]
 |a,x::r=>cond (same a x) (Oz same x r) (x::Oz same x r)
def TU(same:T Hh→T Hh→Bool):T Hh→List V9→List V9
 |_,[]=>[]
 |a,x::r=>cond (same a x.1) (TU same x.1 r) (x::TU same x.1 r)
def YZ(c:T Lf→T Lf→Option Bool):T Lf→List (T Lf)→Option (List (T Lf))
 |_,[]=>some []
 |a,x::r=>jz (c a x) fun b=>jz (YZ c x r) fun q=>some (cond b q (x::q))
theorem Q7(same:T Hh→T Hh→Bool):∀(Q:List V9) (a:T Hh),(TU same a Q).map (·.1)=Oz same a (Q.map (·.1))
 |[],_=>rfl
 |x::r,a=>by
  simp only[TU,Oz,ym]
  cases same a x.1 with
  |true=>simp only[zj];exact Q7 same r x.1
  |false=>simp only[zk,ym];rw[Q7 same r x.1]
theorem R7(same:T Hh→T Hh→Bool):∀(Q:List V9) (a:T Hh),(TU same a Q).Sublist Q
 |[],_=>.slnil
 |x::r,a=>by
  simp only[TU]
  cases same a x.1 with
  |true=>exact(R7 same r x.1).cons x
  |false=>exact(R7 same r x.1).cons_cons x
theorem Wap{same:T Hh→T Hh→Bool}{c:T Lf→T Lf→Option Bool}{R:T Hh→T Lf→Prop}(hc:∀a ao b bo,R a ao→R b bo→c ao bo=some (same a b)):
 ∀(Q:List V9) (a:T Hh) (ao:T Lf),R a ao→(∀p∈Q,R p.1 p.2.1)→YZ c ao (Q.map (·.2.1))=some ((TU same a Q).map (·.2.1))
 |[],_,_,_,_=>rfl
 |x::r,a,ao,h,hq=>by
  have hx:=hq x (by simp)
  simp only[ym,YZ,TU,hc _ _ _ _ h hx,jb]
  rw[Wap hc r x.1 x.2.1 hx (fun p hp=>hq p (by simp[hp]))]
  simp only[jb]
  cases same a x.1<;>rfl
theorem Bap{α:Type}{a b:List (List α)}(h:a.Sublist b):a.flatten.Sublist b.flatten:=by
 induction h with
 |slnil=>simp
 |cons x _ ih=>rw[yr];exact ih.trans (List.sublist_append_right _ _)
 |cons_cons x _ ih=>rw[yr,yr];exact(List.Sublist.refl x).append ih
def UV(x:T Hh):Bool:=jx (ja x.2.1) Wa
noncomputable def Faz(same:T Hh→T Hh→Bool)(a:T Hh)(l:List (T Hh)):Option (List (T Hh)×Unit):=
 bif jx (ja l) Wa&&(UV a&&l.all UV)then some (Oz same a l,())else none
theorem MaQ{w:World}{O O':Nat→Prop}{xs ys:List Int}{v:Value}(h1:Bb w O (.sl (.i .i64)) xs [v])(h2:Bb w O' (.sl (.i .i64)) ys [v]):xs=ys:=by
 obtain⟨a,cap,e1,_,_,h1⟩:=h1
 obtain⟨a',cap',e2,_,_,h2⟩:=h2
 rw[e1]at e2
 simp only[yk,Value.slice.injEq,and_true]at e2
 obtain⟨rfl,hlen,rfl⟩:=e2
 have hlen':xs.length=ys.length:=hlen
 rcases h1 with h1|⟨bl,off,cur,et,fr,ha,_,hh,hs,hv⟩
 ·have h1':xs=[]:=h1
  subst h1'
  exact(q9 (by simpa using hlen'.symm)).symm
 ·rcases h2 with h2|⟨bl',off',cur',et',fr',ha',_,hh',hs',hv'⟩
  ·have h2':ys=[]:=h2
   subst h2'
   exact q9 (by simpa using hlen')
  ·rw[ha]at ha'
   simp only[jc,Addr.mk.injEq,and_true]at ha'
   obtain⟨rfl,rfl⟩:=ha'
   rw[hh]at hh'
   simp only[jc]at hh'
   injection hh' with e3 _ _
   subst e3
   apply List.ext_getElem hlen'
   intro i h1 h2
   have p1:=hv i h1
   have p2:=hv' i h2
   have p1':Je cur (off+i*1) 1=[Value.int .i64 xs[i]]:=p1
   have p2':Je cur (off+i*1) 1=[Value.int .i64 ys[i]]:=p2
   rw[p1']at p2'
   simpa using p2'
open Classical in
noncomputable def S2(w:World)(h:T .o):Option (List Int):=
 if hx:∃xs:List Int,Bb w (fun _=>False) (.sl (.i .i64)) xs [hd h]∧ja xs≤Wa then some hx.choose else none
theorem Maf{w:World}{h:T .o}{xs:List Int}(hc:S2 w h=some xs):Bb w (fun _=>False) (.sl (.i .i64)) xs [hd h]∧ja xs≤Wa:=by
 unfold S2 at hc
 split at hc
 ·rename_i hx
  simp only[jc]at hc
  rw[←hc];exact hx.choose_spec
 ·simp at hc
theorem Yap{w:World}{h:T .o}{xs:List Int}(hv:Bb w (fun _=>False) (.sl (.i .i64)) xs [hd h])(hl:ja xs≤Wa):S2 w h=some xs:=by
 unfold S2
 have hx:∃xs:List Int,Bb w (fun _=>False) (.sl (.i .i64)) xs [hd h]∧ja xs≤Wa:=⟨xs,hv,hl⟩
 rw[dif_pos hx]
 rw[MaQ hx.choose_spec.1 hv]
noncomputable def Eak(w:World)(same:T Hh→T Hh→Bool)(a b:T Lf):Option Bool:=
 jz (S2 w a.2.1) fun u=>jz (S2 w b.2.1) fun v=>some (same (a.1,u,()) (b.1,v,()))
@[reducible]noncomputable def Oae(c:T Lf→T Lf→Option Bool):Ha:=.pu (.p Lf (.p Lf .u)) (.p .b .u) [true] (fun x=>jz (c x.1 x.2.1) fun b=>some (b,()))
theorem VaB{w w2:World}(h:∀b,b<w.heap.size→w2.heap[b]?=w.heap[b]?){τ:Ty}{x:T τ}{cs:List Value}{O:Nat→Prop}(hv:Bb w O τ x cs):Bb w2 O τ x cs:=
 Bb.stable (fun b _ hb=>h b hb) (fun _ _ h=>h) hv
theorem HaG{P:Program}{I0:Gh}{f f2:FuncId}{SR:T (.p Hh (.p Hh .u))→Option (T (.p .b .u))}{same:T Hh→T Hh→Bool}
 (hSR:∀a b:T Hh,ja a.2.1≤Wa→ja b.2.1≤Wa→SR (a,b,())=some (same a b,()))
 (h2:Th P I0 f2 (.pu (.p Hh (.p Hh .u)) (.p .b .u) [true] SR))
 (h:∀(I:Gh) (c:T Lf→T Lf→Option Bool),Th P I f2 (Oae c)→∃FO,Th P I f (.pu (.p Lf (.p (.sl Lf) .u)) (.p (.sl Lf) .u) [true] FO)∧
  ∀(a:T Lf) (l r:List (T Lf)),ja l≤Wa→YZ c a l=some r→FO (a,l,())=some (r,())):
 Th P I0 f (.co (.p Hh (.p (.sl Hh) .u)) (.p (.sl Hh) .u) [true] (fun x=>Faz same x.1 x.2.1)):=by
 have hE:CL P f:=by
  have hS0:Th P I0 f2 (Oae fun _ _=>none):=⟨h2.1,fun O w x r args hF=>by simp at hF⟩
  obtain⟨FO,hs,_⟩:=h I0 _ hS0
  exact hs.1
 refine⟨hE,?_⟩
 intro O w x r F0 args hF hA hnd hO _ hI hbase hF0
 obtain⟨a,l,u⟩:=x
 match args,hA with
 |[a1,a2],hA=>
 obtain⟨cs1,F1,F2',rfl,rfl,ho1,cs2,F2,F3,rfl,rfl,ho2,hF3⟩:=hA
 have hF3':F3=[]:=hF3
 subst hF3'
 rw[y3]at*
 simp only[Faz]at hF
 cases hsm:(jx (ja l) Wa&&(UV a&&l.all UV))with
 |false=>rw[hsm]at hF;simp at hF
 |true=>
 rw[hsm]at hF
 simp only[zj,jc]at hF
 subst hF
 simp only[jd,yz,UV]at hsm
 have hl1:ja l≤Wa:=q8 hsm.1
 have hl2:ja a.2.1≤Wa:=q8 hsm.2.1
 have hl3:∀x∈l,ja x.2.1≤Wa:=fun x hx=>q8 (hsm.2.2 x hx)
 obtain⟨ah,rfl,hoa⟩:=PaF ho1
 obtain⟨Q,rfl,hvQ,hokQ,hsub⟩:=NaK ho2
 let I:Gh:=⟨w.heap.size,fun w2=>w.heap.size≤w2.heap.size∧∀b,b<w.heap.size→w2.heap[b]?=w.heap[b]?,fun w1 w2 hb h1=>by
  refine⟨?_,fun b hlt=>(hb b hlt).trans (h1.2 b hlt)⟩
  rcases Nat.eq_zero_or_pos w.heap.size with h0|h0
  ·omega
  ·have e:=(hb (w.heap.size-1) (by omega)).trans (h1.2 (w.heap.size-1) (by omega))
   rw[Array.getElem?_eq_getElem (show w.heap.size-1<w.heap.size by omega)]at e
   have:=(Array.getElem?_eq_some_iff.1 e).1
   omega⟩
 have hS:Th P I f2 (Oae (Eak w same)):=by
  refine⟨h2.1,?_⟩
  intro O2 w2 x2 r2 args2 hF2 hA2 hO2 hI2 hb2
  obtain⟨p,q,u2⟩:=x2
  match args2,hA2 with
  |[b1,b2],hA2=>
  obtain⟨⟨c1,rfl,hv1⟩,⟨c2,rfl,hv2⟩,_⟩:=hA2
  simp only[Eak]at hF2
  cases hu:S2 w p.2.1 with
  |none=>rw[hu]at hF2;simp at hF2
  |some xu=>
   cases hv:S2 w q.2.1 with
   |none=>rw[hu,hv]at hF2;simp at hF2
   |some xv=>
    rw[hu,hv]at hF2
    simp only[jb,jc]at hF2
    subst hF2
    obtain⟨hxu,lxu⟩:=Maf hu
    obtain⟨hxv,lxv⟩:=Maf hv
    have e1:=Kad hv1
    have e2:=Kad hv2
    subst e1;subst e2
    have mk:∀(p:T Lf) (xs:List Int),Bb w (fun _=>False) (.sl (.i .i64)) xs [hd p.2.1]→Bb w2 (fun _=>False) Hh (p.1,xs,()) [.int .i64 p.1,hd p.2.1]:=fun p xs hx=>
     ⟨[.int .i64 p.1],[hd p.2.1],rfl,rfl,[hd p.2.1],[],by simp,VaB hI2.2 hx,rfl⟩
    have hc:=h2.2 (fun _=>False) w2 ((p.1,xu,()),(q.1,xv,()),()) (same (p.1,xu,()) (q.1,xv,()),()) [Oe Lf [.int .i64 p.1,hd p.2.1],Oe Lf [.int .i64 q.1,hd q.2.1]]
     (hSR _ _ lxu lxv) ⟨⟨_,rfl,mk p xu hxu⟩,⟨_,rfl,mk q xv hxv⟩,trivial⟩ (fun b h=>h.elim) (I0.st _ _ (fun b hb=>hI2.2 b (qh hb hbase)) hI) (qa hbase hI2.1)
    refine hc.mono ?_
    intro e w3 hR
    cases e with
    |returned v=>
     obtain⟨vs,Fr,hvs,hK,hR,hn,hfr⟩:=hR
     exact⟨vs,Fr,hvs,hK,hR.all rfl,hn,hfr⟩
    |panicked _=>exact hR
    |outgrown=>exact hR
 obtain⟨FO,hs,hFO⟩:=h I (Eak w same) hS
 have hrel:∀a ao b bo,(fun(x:T Hh) (y:T Lf)=>y.1=x.1∧Bb w (fun _=>False) (.sl (.i .i64)) x.2.1 [hd y.2.1]∧ja x.2.1≤Wa) a ao→
  (fun(x:T Hh) (y:T Lf)=>y.1=x.1∧Bb w (fun _=>False) (.sl (.i .i64)) x.2.1 [hd y.2.1]∧ja x.2.1≤Wa) b bo→Eak w same ao bo=some (same a b):=by
  rintro a ao b bo ⟨e1,v1,l1⟩ ⟨e2,v2,l2⟩
  simp only[Eak,Yap v1 l1,Yap v2 l2,jb,e1,e2]
 have hch:=Wap (R:=fun(x:T Hh) (y:T Lf)=>y.1=x.1∧Bb w (fun _=>False) (.sl (.i .i64)) x.2.1 [hd y.2.1]∧ja x.2.1≤Wa) hrel Q a (a.1,ah,())
  ⟨rfl,Nc.view hoa fun b _ h=>h,hl2⟩ (fun p hp=>⟨(hokQ p hp).1,Nc.view (hokQ p hp).2 fun b _ h=>h,hl3 p.1 (yx hp)⟩)
 have hFO':=hFO (a.1,ah,()) (Q.map (·.2.1)) _ (by simpa using hl1) hch
 have hc:=hs.2 (fun _=>False) w ((a.1,ah,()),Q.map (·.2.1),()) ((TU same a Q).map (·.2.1),()) [Oe Lf [.int .i64 a.1,hd ah],Oe (.sl Lf) cs2] hFO'
  ⟨⟨_,rfl,Iav ((a.1,ah,()):T Lf) _⟩,⟨_,rfl,hvQ⟩,trivial⟩ (fun b h=>h.elim) ⟨jo _,fun _ _=>rfl⟩ (jo _)
 refine hc.mono ?_
 intro e w3 hR
 cases e with
 |panicked _=>exact hR
 |outgrown=>exact hR
 |returned v=>
  obtain⟨vs,Fr,hvs,hK,hR,hn,hfr⟩:=hR
  match vs,hR with
  |[v1],hR=>
  obtain⟨cs,G1,G2,rfl,rfl,hown,hG2⟩:=hR
  have hG2':G2=[]:=hG2
  subst hG2'
  rw[y3]at*
  simp only[if_true]at hown
  have hlt:∀b,b∈F2→b<w.heap.size:=fun b hb=>ho2.lt b hb
  have hsubQ:=R7 same Q a
  have hok3:∀p∈TU same a Q,Ray w3 p:=fun p hp=>by
   have h0:=hokQ p (hsubQ.mem hp)
   exact⟨h0.1,Nc.stable h0.2 fun b hb=>hK.block b (h0.2.lt b hb) (fun h=>h)⟩
  obtain⟨F',ho',hm',hnd'⟩:=XaK hown hok3
  have hsub2:((TU same a Q).map (·.2.2)).flatten.Sublist F2:=by
   refine List.Sublist.trans ?_ hsub
   exact Bap (hsubQ.map _)
  have hndF2:F2.Nodup:=(yp.1 hnd).2.1
  have hnF':F'.Nodup:=hnd' (fun b hb hb2=>by
   have h3:=hfr b hb
   have h4:=hlt b (hsub2.mem hb2)
   omega) hn (hsub2.nodup hndF2)
  refine⟨[Oe (.sl Lf) cs],F',hvs,⟨hK.size,fun b hb _=>hK.block b hb (fun h=>h),hK.os,hK.tape,hK.output⟩,⟨cs,F',[],rfl,by simp,?_,rfl⟩,hnF',?_⟩
  ·simp only[if_true]
   rw[←Q7]
   exact ho'
  ·intro b hb
   rcases hm' b hb with hb|hb
   ·exact .inl (hfr b hb)
   ·exact .inr (qx _ (hsub2.mem hb))
noncomputable def srt(xs:List Int):Option (List Int×Unit):=bif jx (ja xs) Wa then some (List.mergeSort xs (fun x y=>decide (x≤y)),())else none
def Dan(n:Nat):Bool:=jx n 1048576
noncomputable def Jac(x y:List UInt8):Option (List (List UInt8)×Unit):=
 bif Dan (ja x)&&jx 1 (ja y)then some (Lib.split x y,())else none
noncomputable def Faj(x:List (List UInt8))(y:List UInt8):Option (List UInt8×Unit):=
 bif jx (ja x) 1073741824&&jx (ja (Lib.join x y)) 1073741824 then some (Lib.join x y,())else none
noncomputable def U5(n:Int):Option (List UInt8×Unit):=bif decide (-9223372036854775808≤n)&&decide (n≤9223372036854775807)then some (Lib.itoa n,())else none
noncomputable def Jaz(x y:List UInt8):Option (List UInt8×(List UInt8×(Bool×Unit))):=
 bif jx (ja x) 4294967280 then some ((Lib.cut x y).1,(Lib.cut x y).2.1,(Lib.cut x y).2.2,())else none
noncomputable def Ial(x y:List UInt8):Option (Int×Unit):=bif jx (ja x) 4294967280 then some (Lib.index x y,())else none
noncomputable def Oj(s:List UInt8):Int×(Bool×Unit):=
 bif yd (ja s) 1||yd 10 (ja s)then((0:Int),false,())else match Lib.atoi s with
  |none=>((0:Int),false,())
  |some n=>bif decide (n< -999999999)||decide (n>999999999)||(Lib.itoa n !=s)then((0:Int),false,())else(n,true,())
noncomputable def RaA(s:List UInt8):Option (Int×(Bool×Unit)):=some (Oj s)
theorem Bav{cur:Array Value}{k:Nat}{v:Value}(h:Je cur k 1=[v]):cur[k]?=some v:=by
 have:=congrArg (·[0]?) h
 simp only[Jg cur k 1 0 (by omega)]at this
 simpa using this
theorem Rau{cur:Array Value}{k:Nat}{v:Value}(h:cur[k]?=some v):Je cur k 1=[v]:=by
 apply qr
 intro j
 by_cases hj:j=0
 ·subst hj;rw[Jg cur k 1 0 (by omega)];simpa using h
 ·have hk:k<cur.size:=(Array.getElem?_eq_some_iff.1 h).1
  have hl:(Je cur k 1).length=1:=Me (by omega)
  rw[qv (by omega),qv (by simp;omega)]
theorem CaB{P:Program}{ρ:Go.Shelf.Ren}{f:FuncId}{I:Gh}(L:Go.Proofs.Lays.n191 P ρ)(hf:ρ.f 191=f):Th P I f (.io (.sl (.i .i64)) .u .u [] (fun x0 _=>srt x0)):=by
 subst hf
 refine⟨⟨_,L.f191,rfl,rfl⟩,?_⟩
 intro O w x0 x r cs0 F0 args hF ho hnd hA hO _ _ _
 match args,hA with
 |[],_=>
 simp only[srt]at hF
 cases hl:jx (ja x0) Wa with
 |false=>rw[hl]at hF;simp at hF
 |true=>
 rw[hl]at hF
 simp only[zj,jc]at hF
 subst hF
 have hlim:Wa=1073741824:=rfl
 have hx:ja x0≤Wa:=q8 hl
 have ho0:=ho
 obtain⟨hm,⟨rfl,hn,rfl⟩|⟨bl,off,cap,cur,et,Fs,rfl,hh,h1,h2,h3,rfl,hlen,hv⟩⟩:=ho
 ·have hn':x0=[]:=hn
  subst hn'
  refine(Go.Proofs.Any.sort_Ints_none L none 0 w).mono ?_
  rintro e w' ⟨rfl,rfl⟩
  refine⟨[],[],[],rfl,⟨jo _,fun _ _ _=>rfl,rfl,rfl,rfl⟩,?_,by simp,rfl,List.nodup_nil,by simp⟩
  show Nc w' (.sl (.i .i64)) (List.mergeSort ([]:List Int) _) _ _
  simpa using ho0
 ·have hcell:∀i (hi:i<x0.length),cur[off+i]?=some (.int .i64 x0[i]):=by
   intro i hi
   have:=(hv i hi).1
   have e:Je cur (off+i*1) 1=[Value.int .i64 x0[i]]:=this
   rw[Nat.mul_one]at e
   exact Bav e
  have hFs:∀b,b∈Fs.flatten→False:=by
   intro b hb
   obtain⟨l,hl,hb⟩:=List.mem_flatten.1 hb
   obtain⟨i,hi,rfl⟩:=qk hl
   have:=(hv i (by rw[←hlen];exact hi)).2
   rw[qf,je hi]at this
   simp only[q6]at this
   rw[this]at hb;simp at hb
  have hH:Go.Sort.Holds (Value.int .i64) w bl off x0.toArray:=by
   intro j hj
   have hj':j<x0.length:=by simpa using hj
   refine⟨?_,?_⟩
   ·unfold World.cell?
    simp only[hh]
    rw[hcell j hj']
    simp[getElem!_pos,hj']
   ·unfold World.frozen?
    simp[hh]
  have hbl:bl<w.heap.size:=(Array.getElem?_eq_some_iff.1 hh).1
  refine(Go.Proofs.Any.sort_Ints L bl off cap x0 w hH hbl (by omega)).mono ?_
  rintro e w' ⟨rfl,n,os,rfl⟩
  generalize hzs:(x0.mergeSort fun x y=>decide (x≤y))=zs
  have hzl:zs.length=x0.length:=by rw[←hzs];exact List.length_mergeSort _
  have hheap:∀b,b<w.heap.size→(Go.Sort.grow (Go.Sort.putRow (Value.int .i64) (Go.Sort.ahead w n) bl off zs.toArray) os).heap[b]?=if bl=b then(w.heap[b]?).map (Go.Sort.onCells (Go.Sort.putCells (Value.int .i64) off zs.toArray))else w.heap[b]?:=by
   intro b hb
   simp only[Go.Sort.grow,Go.Sort.putRow,Go.Sort.mapBlock,Go.Sort.ahead]
   rw[Array.getElem?_append_left (by simpa using hb),Array.getElem?_modify]
  refine⟨[],bl::Fs.flatten,[],rfl,⟨?_,?_,rfl,rfl,rfl⟩,?_,fun b hb=>.inr hb,rfl,by simpa using hnd,by simp⟩
  ·simp only[Go.Sort.grow,Array.size_append,Go.Sort.size_putRow,Go.Sort.ahead]
   omega
  ·intro b hb hno
   have hne:bl≠b:=fun e=>hno (by rw[e];simp)
   rw[hheap b hb,if_neg hne]
  ·have hcs:([.slice (some ⟨bl,off,none⟩) (ja x0) cap]:List Value)=[.slice (some ⟨bl,off,none⟩) (ja (zs:List Int)) cap]:=by rw[hzl]
   show Nc _ (.sl (.i .i64)) (zs:List Int) _ _
   rw[hcs]
   refine⟨by show zs.length≤Il;rw[hzl];exact hm,.inr ⟨bl,off,cap,_,et,Fs,rfl,(hheap bl hbl).trans (by rw[if_pos rfl,hh];rfl),by show zs.length≤cap;rw[hzl];exact h1,h2,by simpa[Go.Sort.putCells]using h3,rfl,by show Fs.length=zs.length;rw[hzl];exact hlen,fun i hi=>?_⟩⟩
   have hi':i<zs.length:=hi
   have hi2:i<x0.length:=by omega
   refine⟨?_,?_⟩
   ·show Je _ (off+i*1) 1=[Value.int .i64 zs[i]]
    rw[Nat.mul_one]
    apply Rau
    simp only[Go.Sort.putCells,Array.getElem?_mapIdx,hcell i hi2,qb]
    rw[if_pos ⟨by omega,by simp;omega⟩,show off+i-off=i by omega]
    simp[getElem!_pos,hi']
   ·exact(hv i hi2).2
theorem RZ(w:World)(o:Obj):(w.alloc o).heap=w.heap.push o:=rfl
theorem Aap{P:Program}{ρ:Go.Shelf.Ren}{f:FuncId}{I:Gh}(L:Go.Proofs.LaysM.n146 P ρ)(hf:ρ.f 146=f)
 (hI:∀w,I.p w→∃m,w.cell? ⟨ρ.g 1,0,none⟩=some (.int .i64 m)):Th P I f (.pu (.p .s (.p .s .u)) (.p (.sl .s) .u) [true] (fun x=>Jac x.1 x.2.1)):=by
 subst hf
 refine⟨⟨_,L.f146,rfl,rfl⟩,?_⟩
 intro O w x r args hF hA hO hi hb
 match args,hA with
 |[a,b],hA=>
  obtain⟨⟨ca,rfl,hca⟩,⟨cb,rfl,hcb⟩,_⟩:=hA
  have hca':ca=[.string ⟨qt x.1⟩]:=hca
  have hcb':cb=[.string ⟨qt x.2.1⟩]:=hcb
  subst hca';subst hcb'
  simp only[Jac,Dan]at hF
  cases h1:jx (ja x.1) 1048576 with
  |false=>rw[h1]at hF;simp at hF
  |true=>
  cases h2:jx 1 (ja x.2.1)with
  |false=>rw[h1,h2]at hF;simp at hF
  |true=>
  rw[h1,h2]at hF
  simp only[Bool.and_true,zj,jc]at hF
  subst hF
  have h1':=q8 h1
  have h2':=q8 h2
  obtain⟨m,hm⟩:=hI w hi
  have hs1:(⟨qt x.1⟩:ByteArray).size=ja x.1:=by show(qt x.1).size=_;simp
  have hs2:(⟨qt x.2.1⟩:ByteArray).size=ja x.2.1:=by show(qt x.2.1).size=_;simp
  have hd:(Lib.splitB ⟨qt x.2.1⟩ 0 (Lib.countB ⟨qt x.1⟩ ⟨qt x.2.1⟩) ⟨qt x.1⟩).map (fun z=>z.data.toList)=Lib.split x.1 x.2.1:=by
   rw[Lib.splitB_data];rfl
  have hlen:=Lib.splitB_all ⟨qt x.2.1⟩ (by omega) 0 _ ⟨qt x.1⟩ rfl
  have hle:=Lib.countB_le ⟨qt x.2.1⟩ (by omega) _ ⟨qt x.1⟩ (jo _)
  obtain⟨zs,hz⟩:∃zs,Lib.splitB ⟨qt x.2.1⟩ 0 (Lib.countB ⟨qt x.1⟩ ⟨qt x.2.1⟩) ⟨qt x.1⟩=zs:=⟨_,rfl⟩
  rw[hz]at hlen hd
  obtain⟨n,hcn⟩:∃n,Lib.countB ⟨qt x.1⟩ ⟨qt x.2.1⟩=n:=⟨_,rfl⟩
  rw[hcn]at hlen hle
  have hn:(Lib.split x.1 x.2.1).length=n+1:=by rw[←hd,yu,hlen]
  refine(Go.Proofs.Any.strings_Split {L with} L.i9 ⟨qt x.1⟩ ⟨qt x.2.1⟩ m w (by omega) hm (by omega)).mono ?_
  rintro e w' ⟨rfl,rfl⟩
  rw[hz]
  refine⟨[.slice (some ⟨w.heap.size,0,none⟩) (n+1) (n+1)],[w.heap.size],by rw[hcn];rfl,⟨?_,?_,rfl,rfl,rfl⟩,?_,by simp,by simp⟩
  ·rw[RZ];simp
  ·intro b hb _
   rw[RZ]
   simp[Array.getElem?_push_lt hb,Array.getElem?_eq_getElem hb]
  ·refine⟨[.slice (some ⟨w.heap.size,0,none⟩) (n+1) (n+1)],[w.heap.size],[],rfl,rfl,?_,rfl⟩
   show Nc _ (.sl .s) (Lib.split x.1 x.2.1) _ _
   refine⟨by rw[hn];unfold Il;omega,.inr ⟨w.heap.size,0,n+1,(zs.map Value.string).toArray,ρ.t 9,yf (n+1) [],?_,?_,by omega,by unfold Il;omega,?_,?_,?_,?_⟩⟩
   ·rw[hn]
   ·rw[RZ];simp
   ·simp[Ty.size,hlen]
   ·simp
   ·simp[hn]
   ·intro i hi
    have hi':i<n+1:=by omega
    have hiz:i<zs.length:=by omega
    refine⟨?_,by simp[qf,List.getElem?_replicate,hi']⟩
    show Je _ (0+i*1) 1=_
    apply Rau
    have:(Lib.split x.1 x.2.1)[i]'hi=(zs[i]).data.toList:=by simp[←hd]
    show _=some (Value.string ⟨qt ((Lib.split x.1 x.2.1)[i]'hi)⟩)
    rw[this]
    simp[hiz]
theorem Zaz{P:Program}{ρ:Go.Shelf.Ren}{f:FuncId}{I:Gh}(L:Go.Proofs.Lays.n156 P ρ)(hf:ρ.f 156=f)(X:Go.Proofs.Builder.Extra P ρ):Th P I f (.pu (.p (.sl .s) (.p .s .u)) (.p .s .u) [true] (fun x=>Faj x.1 x.2.1)):=by
 subst hf
 refine⟨⟨_,L.f156,rfl,rfl⟩,?_⟩
 intro O w x r args hF hA hO hi hb
 match args,hA with
 |[a,b],hA=>
  obtain⟨⟨ca,rfl,hca⟩,⟨cb,rfl,hcb⟩,_⟩:=hA
  have hcb':cb=[.string ⟨qt x.2.1⟩]:=hcb
  subst hcb'
  obtain⟨ad,cap,rfl,hcap,hmx,hrow⟩:=hca
  simp only[Faj]at hF
  cases h0:jx (ja x.1) 1073741824 with
  |false=>rw[h0]at hF;simp at hF
  |true=>
  cases h1:jx (ja (Lib.join x.1 x.2.1)) 1073741824 with
  |false=>rw[h0,h1]at hF;simp at hF
  |true=>
  rw[h0,h1]at hF
  simp only[Bool.and_true,zj,jc]at hF
  subst hF
  have h1':=q8 h1
  have h0':=q8 h0
  have hfin:∀(e:Ending) (w':World),e=.returned (.string ⟨(Lib.join x.1 x.2.1).toArray⟩)∧Go.RowKit.Below w.heap.size w w'→Ox (fun v w'=>∃vs Fr,v=YP vs∧YB w w' (fun _=>False)∧Ld w' (fun b=>O b∨b∈Fr) (.p .s .u) ((Lib.join x.1 x.2.1,()):List UInt8×Unit) [true] vs Fr∧Fr.Nodup∧∀b∈Fr,w.heap.size≤b) e w':=by
   rintro e w' ⟨rfl,hB⟩
   exact⟨[.string ⟨(Lib.join x.1 x.2.1).toArray⟩],[],rfl,⟨hB.size,fun b hb _=>hB.block b hb,hB.os,hB.tape,hB.output⟩,⟨_,[],[],rfl,rfl,⟨rfl,rfl⟩,rfl⟩,by simp,by simp⟩
  have hmp:zg (fun z:ByteArray=>z.data.toList) (zg (fun l:List UInt8=>(⟨l.toArray⟩:ByteArray)) x.1)=x.1:=by simp[List.map_map,Function.comp_def]
  rcases hrow with hx0|⟨bl,off,cur,et,fr,rfl,hno,hh,hsz,hv⟩
  ·have h0':x.1=[]:=hx0
   have e0:Lib.join x.1 x.2.1=[]:=by rw[h0'];rfl
   have el:ja x.1=0:=by rw[h0'];rfl
   show Calls P (ρ.f 156) #[.slice ad (ja x.1) cap,.string ⟨qt x.2.1⟩] w _
   rw[el]
   refine(Go.Proofs.Any.strings_Join_none L X ad cap ⟨qt x.2.1⟩ w).mono ?_
   rintro e w' ⟨rfl,rfl⟩
   exact hfin _ _ ⟨by rw[e0],Go.RowKit.Below.refl _ _⟩
  ·have hbl:bl<w.heap.size:=(Array.getElem?_eq_some_iff.1 hh).1
   have c:=Go.Proofs.Any.strings_Join L X bl off cap (zg (fun l:List UInt8=>(⟨l.toArray⟩:ByteArray)) x.1) ⟨qt x.2.1⟩ w ?_ hbl (by rw[yu];show ja x.1≤_;omega) (by rw[yu];exact hcap) (by rw[hmp];show(Lib.join x.1 (qt x.2.1).toList).length≤_;rw[List.toList_toArray];omega)
   ·rw[hmp,yu]at c
    refine c.mono ?_
    rintro e w' ⟨rfl,hB⟩
    refine hfin _ _ ⟨?_,hB⟩
    show Ending.returned (Value.string ⟨(Lib.join x.1 (qt x.2.1).toList).toArray⟩)=_
    rw[List.toList_toArray]
   ·intro j z hj
    obtain⟨hj',rfl⟩:=ya.1 hj
    rw[yu]at hj'
    have e:Je cur (off+j*1) 1=[Value.string ⟨qt (x.1[j]'hj')⟩]:=hv j hj'
    rw[Nat.mul_one]at e
    unfold World.cell?
    simp only[hh]
    rw[Bav e]
    simp
theorem Yaz{P:Program}{ρ:Go.Shelf.Ren}{f:FuncId}{I:Gh}(L:Go.Proofs.LaysM.n171 P ρ)(hf:ρ.f 171=f)(hI:∀w,I.p w→Lib.TabIs P w "internal/strconv.uint64pow10" .u64 Lib.pow10Tab):Th P I f (.pu (.p (.i .i64) .u) (.p .s .u) [true] (fun x=>U5 x.1)):=by
 subst hf
 refine⟨⟨_,L.f171,rfl,rfl⟩,?_⟩
 intro O w x r args hF hA hO hi hb
 match args,hA with
 |[a],hA=>
  obtain⟨⟨ca,rfl,hca⟩,_⟩:=hA
  have hca':ca=[.int .i64 x.1]:=hca
  subst hca'
  simp only[U5]at hF
  by_cases h1:-9223372036854775808≤(x.1:Int)
  case neg=>rw[decide_eq_false h1]at hF;simp at hF
  by_cases h2:(x.1:Int)≤9223372036854775807
  case neg=>rw[decide_eq_false h2]at hF;simp at hF
  rw[decide_eq_true h1,decide_eq_true h2]at hF
  simp only[Bool.and_true,zj,jc]at hF
  subst hF
  refine(Go.Proofs.Any.strconv_Itoa L x.1 h1 h2 w (hI w hi)).mono ?_
  rintro e w' ⟨rfl,k,os,rfl⟩
  refine⟨[.string ⟨(Lib.itoa x.1).toArray⟩],[],rfl,⟨?_,?_,rfl,rfl,rfl⟩,⟨_,[],[],rfl,rfl,⟨rfl,rfl⟩,rfl⟩,by simp,by simp⟩
  ·simp only[Go.Sort.grow,Array.size_append,World.drewN]
   omega
  ·intro b hb _
   simp only[Go.Sort.grow,World.drewN]
   rw[Array.getElem?_append_left hb]
open Go Go.WideShapes Go.ChangeShapes
theorem LB{P:Program}{W:World}{x:String×DataW Unit}{rest:List (String×DataW Unit)}{ps:List MemPlace}(h:DataW.LaidVars P W (x::rest) ps):∃q,DataW.LaidVars P W rest q:=by
 obtain⟨g,t,cs,fuel,p,q,_,_,_,_,h,_⟩:=h
 exact⟨q,h⟩
theorem Zah{P:Program}{W:World}{name:String}{k:IntKind}{zs:List Int}{rest:List (String×DataW Unit)}{ps:List MemPlace}{g:Nat}{t e:TypeId}{n:Nat}
 (hg:P.globalNamed name=some g) (hty:(P.globals[g]?).map (·.type)=some t) (ht:P.underlying t=some (.array n e)) (he:P.underlying e=some (.int k)) (hce:P.cellsOf e=1) (hct:P.cellsOf t=n)
 (h:DataW.LaidVars P W ((name,Lib.tabData k zs)::rest) ps):Lib.TabIs P W name k zs:=by
 obtain⟨g',t',cs,fuel,p,q,hg',ht',hvar,hd,_,_⟩:=h
 obtain rfl:=zf (hg.symm.trans hg')
 obtain rfl:=zf (hty.symm.trans ht')
 unfold Lib.TabIs
 rw[hvar,←Lib.cells_of_tab ht he hce hct hd]
def BaY(g:Nat):Gh:=⟨g+1,fun w=>∃m,w.cell? ⟨g,0,none⟩=some (.int .i64 m),fun w w' hb h=>by
 obtain⟨m,hm⟩:=h
 refine⟨m,?_⟩
 unfold World.cell? at hm⊢
 rw[hb g (Nat.lt_succ_self g)]
 exact hm⟩
theorem RaD{g:Nat}{w:World}(h:(BaY g).p w):(BaY g).base≤w.heap.size:=by
 obtain⟨m,hm⟩:=h
 unfold World.cell? at hm
 have:g<w.heap.size:=by
  apply Classical.byContradiction
  intro hn
  simp only[Array.getElem?_eq_none (show w.heap.size≤g by omega)]at hm
  simp at hm
 exact this
def Xaz(P:Program)(g a:Nat)(name:String)(k:IntKind)(zs:List Int)(ha:P.globalNamed name=some a):Gh:=⟨max g a+1,fun w=>(∃m,w.cell? ⟨g,0,none⟩=some (.int .i64 m))∧Lib.TabIs P w name k zs,fun w w' hb h=>by
 obtain⟨⟨m,hm⟩,ht⟩:=h
 refine⟨⟨m,?_⟩,?_⟩
 ·unfold World.cell? at hm⊢
  rw[hb g (by omega)]
  exact hm
 ·unfold Lib.TabIs World.var? at ht⊢
  rw[ha]at ht⊢
  simp only[jb]at ht⊢
  rw[hb a (by omega)]
  exact ht⟩
theorem TaD{P:Program}{g a:Nat}{name:String}{k:IntKind}{zs:List Int}{ha:P.globalNamed name=some a}{w:World}(h:(Xaz P g a name k zs ha).p w):(Xaz P g a name k zs ha).base≤w.heap.size:=by
 obtain⟨h1,ht⟩:=h
 have h1':g+1≤w.heap.size:=RaD (g:=g) h1
 have:a<w.heap.size:=by
  apply Classical.byContradiction
  intro hn
  unfold Lib.TabIs World.var? at ht
  rw[ha]at ht
  simp only[jb,Array.getElem?_eq_none (show w.heap.size≤a by omega)]at ht
  simp at ht
 show max g a+1≤_
 omega
theorem AT{P:Program}{l:List (String×DataW Unit)}{w:World}(h:(l.filter fun x=>x.2.handleName?.isSome)=[]):laidMetH P l w=laidMet P l w:=by
 unfold laidMetH
 rw[h]
section
variable{H:Type} {enc:TypeId×Value→H}
theorem Z5{a:Assume}{C:Checked}{os:Os}{f:FuncId}{fn:Func}{s:ChangeSpec}{conds:List PathCond}{apart fresh handsOn again:Bool}{X:World→Array Value→Prop}
 (hX:∀(w w':World) (args:Array Value),w.heap=w'.heap→X w args→X w' args)
 (own:ownKnob C.prog.godebug=none) (started:os.Started) (noInit:C.prog.inits.idxOf? f=none) (hfn:C.prog.funcs[f]?=some fn)
 (witness:∃(w:World) (tape:Tape) (i:Input),w.os=os∧(w.forCall tape i).Shaped C.prog∧i.vars=[]∧Input.okWide C.prog (w.forCall tape i) .any w.heap.size f i∧
  ((s.pre enc C.prog fn conds apart (w.forCall tape i).memory i.args∧X (w.forCall tape i).memory i.args)∧sizedMet enc C.prog fn (OpenSpec.ofChange s) apart (w.forCall tape i).memory i.args)∧a.holds C.prog (lone (Frame.enter C.prog f i.args .normal) [] (w.forCall tape i)))
 (contract:∀(W:World) (base:Nat) (args:Array Value) (ds gs:List (DataW H)) (before:List MemPlace),
  (∀(j:Nat) t v,fn.params[j]?=some t→args[j]?=some v→Value.okWide C.prog W .any base t v)→
  DataW.Whole enc C.prog fn.params.toList s.vars apart W args.toList ds gs before→
  conds.all (PathCond.test C.prog ⟨fn.params.toList,ds,s.plain.varTypes C.prog,gs⟩)=true→
  (DataW.weightsEach C.prog (fn.params.toList++s.plain.varTypes C.prog) (ds++gs)).all (·≤reachBytes)=true→W.ShapedOpen C.prog→X W args→
  a.holds C.prog (lone (Frame.enter C.prog f args .normal) [] W)→
  Calls C.prog f args W fun e W'=>∃v,e=.returned v∧s.post enc C.prog fn apart fresh handsOn again W args v W'):
 ReturnsInHanded a C os f .any (fun w args=>(s.pre enc C.prog fn conds apart w args∧X w args)∧sizedMet enc C.prog fn (OpenSpec.ofChange s) apart w args) (s.post enc C.prog fn apart fresh handsOn again):=by
 refine returnsInHanded_of_calls own started noInit witness ?_
 intro w tape i _ hsh _ hok hpre hholds
 obtain⟨_,_,_,fn',hfn',_,_,_,_,hval⟩:=hok
 have e:fn'=fn:=zf (hfn'.symm.trans hfn)
 subst e
 obtain⟨⟨⟨ds,gs,before,hw,hc⟩,hx⟩,hz⟩:=hpre
 have hw':=DataW.Whole.of_heap (w':=w.forCall tape i) (by rfl) hw
 refine(contract (w.forCall tape i) w.heap.size i.args ds gs before hval hw' hc (hz.weights hw) hsh (hX _ _ _ (by rfl) hx) hholds).mono fun e W' ⟨v,he,hp⟩=>?_
 subst he
 exact ChangeSpec.post_blind hp
theorem Xal{C:Checked}{os:Os}{f:FuncId}{fn:Func}{s:ChangeSpec}{apart fresh handsOn again:Bool}{pt:Ty}{fl:Bool}{F:T pt→Option (Bool×Unit)}{tb:TypeId}{I:Gh}{laid:List (String×DataW Unit)}
 (own:ownKnob C.prog.godebug=none) (started:os.Started) (noInit:C.prog.inits.idxOf? f=none) (hfn:C.prog.funcs[f]?=some fn)
 (witness:∃(w:World) (tape:Tape) (i:Input),w.os=os∧(w.forCall tape i).Shaped C.prog∧i.vars=[]∧Input.okWide C.prog (w.forCall tape i) .any w.heap.size f i∧
  ((s.pre enc C.prog fn [] apart (w.forCall tape i).memory i.args∧laidMetH C.prog laid (w.forCall tape i).memory)∧sizedMet enc C.prog fn (OpenSpec.ofChange s) apart (w.forCall tape i).memory i.args)∧({}:Assume).holds C.prog (lone (Frame.enter C.prog f i.args .normal) [] (w.forCall tape i)))
 (hvars:s.vars=[]) (hs:∀ds:List (DataW H),ds.length=fn.params.toList.length→s.fn H ds={results:=[.lit (.bool true)],args:=ds})
 (hp:On C.prog pt fn.params.toList=true) (hr:fn.resultTypes= #[tb]) (htb:C.prog.underlying tb=some .bool)
 (hsound:Th C.prog I f (.pu pt (.p .b .u) [fl] F)) (hF:∀x,Et pt x→F x=some (true,()))
 (hI:∀W:World,W.ShapedOpen C.prog→laidMetH C.prog laid W→I.p W∧I.base≤W.heap.size) (hnh:(laid.filter fun x=>x.2.handleName?.isSome)=[]):
 ReturnsInHanded {} C os f .any (fun w args=>(s.pre enc C.prog fn [] apart w args∧laidMetH C.prog laid w)∧sizedMet enc C.prog fn (OpenSpec.ofChange s) apart w args) (s.post enc C.prog fn apart fresh handsOn again):=by
 refine Z5 (X:=fun w _=>laidMetH C.prog laid w) (fun _ _ _ hh h=>by
  rw[AT hnh]at h⊢
  exact h.of_heap hh) own started noInit hfn witness ?_
 intro W b0 args ds gs before hval hW _ _ hsh hX _
 have hW0:=hW
 obtain⟨p,q,hA,hV,hps,hfz,hnd⟩:=hW
 rw[hvars]at hV
 have hgs:gs=[]∧q=[]:=by
  cases gs with
  |nil=>exact⟨rfl,hV⟩
  |cons _ _=>exact hV.elim
 obtain⟨rfl,rfl⟩:=hgs
 simp only[y3]at hps
 subst hps
 obtain⟨x,hx,hrx⟩:=X4 (base:=b0) hp hA fun j t v h1 h2=>hval j t v (by simpa using h1) (by simpa using h2)
 have hcall:=hsound.2 (fun _=>False) W x (true,()) args.toList (hF x hrx) hx (fun _ h=>h.elim) (hI W hsh hX).1 (hI W hsh hX).2
 refine hcall.mono fun e W' hret=>?_
 cases e with
 |returned v=>
  obtain⟨vs,Fr,hv,hk,hR,_,_⟩:=hret
  have hvt:v=.bool true:=by
   cases vs with
   |nil=>simp[Ld]at hR
   |cons a r=>
    obtain⟨cs,F1,F2,ha,_,hown,hrest⟩:=hR
    cases r with
    |cons _ _=>simp[Ld]at hrest
    |nil=>
     have hcs:cs=[.bool true]:=by
      cases fl with
      |true=>exact hown.1
      |false=>exact hown.1
     rw[hv,YP,ha,hcs]
     rfl
  subst hvt
  refine⟨_,rfl,?_⟩
  have hsp:=hs ds (G7 hA)
  have hlt:∀z∈before,z.block<W.heap.size:=hW0.lt
  have hsame:∀z∈before,W.sameAt W' z:=by
   intro z hz
   have hb:=hk.block z.block (hlt z hz) (fun h=>h)
   cases z with
   |cell b off=>
    show W'.cell? _=W.cell? _
    simp only[World.cell?]
    rw[show W'.heap[b]?=W.heap[b]? from hb]
   |map b=>exact hb
  have hargs:∀sp:Nat→Bool,(∀z∈before,sp z.block=true)→DataW.TrodAll enc C.prog W' 0 sp true fn.params.toList args.toList ds before:=
   fun sp h=>X1 (A7 hp) hA hsame h
  have hres:∀(b:Nat) (sp:Nat→Bool) (hd:Bool),DataW.TrodAll enc C.prog W' b sp hd fn.resultTypes.toList ((Value.bool true).resultList fn.resultTypes.size) [.lit (.bool true)] []:=by
   intro b sp hd
   rw[hr]
   exact trodAll_mk1 (Go.RowKit.shut_bool htb true)
  have hold:∀z∈before,(fun b=>decide (b<W.heap.size)) z.block=true:=fun z hz=>by simpa using hlt z hz
  refine⟨ds,[],before,[],before,[],hW0,?_,?_,?_,hk.but _,fun _=>⟨?_,ds.cons (.lit (.bool true)),[],before,⟨before,[],?_,?_,by simp,?_,?_⟩,fun z hz _=>hz⟩⟩
  ·rw[y3,hsp];exact hres _ _ _
  ·rw[y3,hsp];exact hargs _ hold
  ·rw[y3,hsp,hvars];rfl
  ·intro j t r hj hv
   rw[hr]at hj hv
   match j,hj,hv with
   |0,hj,hv=>
    simp only[List.getElem?_toArray,List.getElem?_cons_zero,jc]at hj
    simp[Value.resultList]at hv
    subst hj;subst hv
    exact Go.RowKit.okWide_bool_mk htb true
  ·exact trodAll_append (hargs _ (fun _ _=>rfl)) (hres _ _ _)
  ·rw[hvars];rfl
  ·intro b off hz
   have:=hfz b off hz
   unfold World.frozen? at this⊢
   rw[show W'.heap[b]?=W.heap[b]? from hk.block b (hlt _ hz) (fun h=>h)]
   exact this
  ·exact hnd
 |_=>exact hret.elim
end
theorem AaD(w:World)(n:Nat):YB w (w.drewN n) (fun _=>False):=⟨jo _,fun _ _ _=>rfl,rfl,rfl,rfl⟩
theorem RR(l:List UInt8):(⟨qt l⟩:ByteArray).data.toList=l:=by simp
theorem YaC{P:Program}{ρ:Go.Shelf.Ren}{f:FuncId}{I:Gh}(L:Go.Proofs.Lays.n145 P ρ)(hf:ρ.f 145=f)
 (hI:∀w,I.p w→∃m,w.cell? ⟨ρ.g 1,0,none⟩=some (.int .i64 m)):Th P I f (.pu (.p .s (.p .s .u)) (.p .s (.p .s (.p .b .u))) [true,true,true] (fun x=>Jaz x.1 x.2.1)):=by
 subst hf
 refine⟨⟨_,L.f145,rfl,rfl⟩,?_⟩
 intro O w x r args hF hA hO hi hb
 match args,hA with
 |[a,b],hA=>
  obtain⟨⟨ca,rfl,hca⟩,⟨cb,rfl,hcb⟩,_⟩:=hA
  have hca':ca=[.string ⟨qt x.1⟩]:=hca
  have hcb':cb=[.string ⟨qt x.2.1⟩]:=hcb
  subst hca';subst hcb'
  simp only[Jaz]at hF
  cases h1:jx (ja x.1) 4294967280 with
  |false=>rw[h1]at hF;simp at hF
  |true=>
  rw[h1]at hF
  simp only[zj,jc]at hF
  subst hF
  have h1':=q8 h1
  obtain⟨m,hm⟩:=hI w hi
  have hs1:(⟨qt x.1⟩:ByteArray).size=ja x.1:=by show(qt x.1).size=_;simp
  refine(Go.Proofs.Any.strings_Cut L ⟨qt x.1⟩ ⟨qt x.2.1⟩ m w (by omega) hm).mono ?_
  rintro e w' ⟨rfl,n,rfl⟩
  rw[RR,RR]
  refine⟨[.string ⟨(Lib.cut x.1 x.2.1).1.toArray⟩,.string ⟨(Lib.cut x.1 x.2.1).2.1.toArray⟩,.bool (Lib.cut x.1 x.2.1).2.2],[],rfl,AaD w n,?_,by simp,by simp⟩
  exact⟨_,[],[],rfl,rfl,⟨rfl,rfl⟩,_,[],[],rfl,rfl,⟨rfl,rfl⟩,_,[],[],rfl,rfl,⟨rfl,rfl⟩,rfl⟩
theorem Pao{P:Program}{ρ:Go.Shelf.Ren}{f:FuncId}{I:Gh}(L:Go.Proofs.Lays.n143 P ρ)(hf:ρ.f 143=f)
 (hI:∀w,I.p w→∃m,w.cell? ⟨ρ.g 1,0,none⟩=some (.int .i64 m)):Th P I f (.pu (.p .s (.p .s .u)) (.p (.i .i64) .u) [true] (fun x=>Ial x.1 x.2.1)):=by
 subst hf
 refine⟨⟨_,L.f143,rfl,rfl⟩,?_⟩
 intro O w x r args hF hA hO hi hb
 match args,hA with
 |[a,b],hA=>
  obtain⟨⟨ca,rfl,hca⟩,⟨cb,rfl,hcb⟩,_⟩:=hA
  have hca':ca=[.string ⟨qt x.1⟩]:=hca
  have hcb':cb=[.string ⟨qt x.2.1⟩]:=hcb
  subst hca';subst hcb'
  simp only[Ial]at hF
  cases h1:jx (ja x.1) 4294967280 with
  |false=>rw[h1]at hF;simp at hF
  |true=>
  rw[h1]at hF
  simp only[zj,jc]at hF
  subst hF
  have h1':=q8 h1
  obtain⟨m,hm⟩:=hI w hi
  have hs1:(⟨qt x.1⟩:ByteArray).size=ja x.1:=by show(qt x.1).size=_;simp
  refine(Go.Proofs.Any.strings_Index L ⟨qt x.1⟩ ⟨qt x.2.1⟩ m w (by omega) hm).mono ?_
  rintro e w' ⟨rfl,rfl⟩
  rw[RR,RR]
  refine⟨[.int .i64 (Lib.index x.1 x.2.1)],[],rfl,⟨jo _,fun _ _ _=>rfl,rfl,rfl,rfl⟩,?_,by simp,by simp⟩
  exact⟨_,[],[],rfl,rfl,⟨rfl,rfl⟩,rfl⟩
theorem TaA{P:Program}{f:FuncId}{I:Gh}(hE:CL P f)
 (h:∀(s:List UInt8) (w:World),I.p w→I.base≤w.heap.size→Calls P f #[.string ⟨qt s⟩] w fun e w'=>e=.returned (.tuple #[.int .i64 (Oj s).1,.bool (Oj s).2.1])∧Go.RowKit.Below w.heap.size w w'):
 Th P I f (.pu (.p .s .u) (.p (.i .i64) (.p .b .u)) [true,true] (fun x=>RaA x.1)):=by
 refine⟨hE,?_⟩
 intro O w x r args hF hA hO hi hb
 match args,hA with
 |[a],hA=>
  obtain⟨⟨ca,rfl,hca⟩,_⟩:=hA
  have hca':ca=[.string ⟨qt x.1⟩]:=hca
  subst hca'
  simp only[RaA,jc]at hF
  subst hF
  refine(h x.1 w hi hb).mono ?_
  rintro e w' ⟨rfl,hB⟩
  refine⟨[.int .i64 (Oj x.1).1,.bool (Oj x.1).2.1],[],rfl,⟨hB.size,fun b hb _=>hB.block b hb,hB.os,hB.tape,hB.output⟩,?_,by simp,by simp⟩
  exact⟨_,[],[],rfl,rfl,⟨rfl,rfl⟩,_,[],[],rfl,rfl,⟨rfl,rfl⟩,rfl⟩
theorem VaX{P:Program}{W:World}{name:String}{d:DataW Unit}{rest:List (String×DataW Unit)}{ps:List MemPlace}{g:Nat}
 (hg:P.globalNamed name=some g) (hk:(((P.globals[g]?).map (·.type)).bind P.underlying).any (fun d=>match d with|.interface _=>true|_=>false)=true)
 (h:DataW.LaidVars P W ((name,d)::rest) ps):∃ev,W.cell? ⟨g,0,none⟩=some ev∧(ev=.nilIface∨∃te pe,ev=.iface te pe):=by
 obtain⟨g',t,cs,fuel,p,q,hg',ht',hvar,hd,_,_⟩:=h
 obtain rfl:=zf (hg.symm.trans hg')
 rw[ht']at hk
 obtain⟨ms,ht⟩:∃ms,P.underlying t=some (.interface ms):=by
  simp only[jb]at hk
  revert hk
  cases P.underlying t with
  |none=>intro hk;exact absurd hk (by simp)
  |some x=>cases x with
   |interface ms=>intro _;exact⟨ms,rfl⟩
   |_=>intro hk;exact absurd hk (by simp)
 have hc:W.cell? ⟨g,0,none⟩=cs[0]?:=by
  unfold World.var? at hvar
  rw[hg]at hvar
  simp only[jb]at hvar
  unfold World.cell?
  cases hb:W.heap[g]? with
  |none=>rw[hb]at hvar;cases hvar
  |some o=>
   rw[hb]at hvar
   cases o<;>simp at hvar
   rw[hvar];rfl
 rw[hc]
 cases fuel with
 |zero=>simp[DataW.trod]at hd
 |succ n=>
  obtain⟨l⟩:=cs
  unfold DataW.trod at hd
  rw[ht]at hd
  match l,hd with
  |[],hd=>simp at hd
  |[v],hd=>
   cases v with
   |nilIface=>exact⟨_,by simp,.inl rfl⟩
   |iface te pe=>exact⟨_,by simp,.inr ⟨te,pe,rfl⟩⟩
   |_=>simp at hd
  |_::_::_,hd=>simp at hd
def CaJ(P:Program)(g a:Nat)(name:String)(k:IntKind)(zs:List Int)(ha:P.globalNamed name=some a)(e:Nat):Gh:=⟨max (max g a) e+1,fun w=>(Xaz P g a name k zs ha).p w∧∃ev,w.cell? ⟨e,0,none⟩=some ev∧(ev=.nilIface∨∃te pe,ev=.iface te pe),fun w w' hb h=>by
 obtain⟨h1,ev,h2,h3⟩:=h
 refine⟨(Xaz P g a name k zs ha).st w w' (fun b hb'=>hb b (qh hb' (show max g a+1≤max (max g a) e+1 by omega))) h1,ev,?_,h3⟩
 unfold World.cell? at h2⊢
 rw[hb e (by omega)]
 exact h2⟩
theorem SaD{P:Program}{g a e:Nat}{name:String}{k:IntKind}{zs:List Int}{ha:P.globalNamed name=some a}{w:World}(h:(CaJ P g a name k zs ha e).p w):(CaJ P g a name k zs ha e).base≤w.heap.size:=by
 obtain⟨h1,ev,h2,h3⟩:=h
 have h1':max g a+1≤w.heap.size:=TaD h1
 have:e<w.heap.size:=by
  apply Classical.byContradiction
  intro hn
  unfold World.cell? at h2
  simp only[Array.getElem?_eq_none (show w.heap.size≤e by omega)]at h2
  simp at h2
 show max (max g a) e+1≤_
 omega
theorem AaA{w w':World}(h:YB w w' (fun _=>False)):Go.RowKit.Below w.heap.size w w':=⟨h.os,h.tape,h.output,h.size,fun b hb=>h.block b hb (fun x=>x)⟩
theorem Pah{P:Program}{I:Gh}{f:FuncId}{F:T (.p (.i .i64) .u)→Option (T (.p .s .u))}(h:Th P I f (.pu (.p (.i .i64) .u) (.p .s .u) [true] F))
 {n:Int} {r:List UInt8} (hF:F (n,())=some (r,())) (w:World) (hi:I.p w) (hb:I.base≤w.heap.size):
 Calls P f #[.int .i64 n] w fun e w'=>e=.returned (.string ⟨qt r⟩)∧Go.RowKit.Below w.heap.size w w':=by
 refine(h.2 (fun _=>False) w (n,()) (r,()) [.int .i64 n] hF ⟨⟨[.int .i64 n],rfl,rfl⟩,trivial⟩ (fun _ hb=>hb.elim) hi hb).mono ?_
 intro e w' hR
 cases e with
 |returned v=>
  obtain⟨vs,Fr,rfl,hK,hR,_,_⟩:=hR
  refine⟨?_,AaA hK⟩
  match vs,hR with
  |[a],hR=>
   obtain⟨cs,F1,F2,rfl,_,ho,_⟩:=hR
   have ho':cs=[.string ⟨qt r⟩]:=ho.1
   subst ho'
   rfl
 |_=>exact hR.elim
theorem Ea0{n:Int}(h1:-999999999≤n)(h2:n≤999999999):U5 n=some (Lib.itoa n,()):=by
 unfold U5
 rw[show decide (-9223372036854775808≤n)=true from decide_eq_true (by omega),show decide (n≤9223372036854775807)=true from decide_eq_true (by omega)]
 rfl
def Cb{α S R:Type}(g:Nat→S→α→S⊕R):Nat→S→List α→S⊕R
 |_,s,[]=>.inl s
 |k,s,x::xs=>match g k s x with
  |.inl s'=>Cb g (k+1) s' xs
  |.inr r=>.inr r
section
variable{X R:Type} {step:X→Option (X⊕R)}
theorem Vb{x:X}{z:Option (X⊕R)}(h:step x=z):Va step x=z.bind (Sum.elim (Va step) some):=by
 rw[IN,h]
theorem W6{α S R':Type}(xs:List α)(g:Nat→S→α→S⊕R')(I:Nat→S→X)(out:S→R)(ex:R'→R)(Gh:Nat→S→Prop)
 (h:∀k (hk:k<xs.length) s,Gh k s→step (I k s)=some (match g k s xs[k]with|.inl s'=>.inl (I (k+1) s')|.inr r=>.inr (ex r))∧∀s',g k s xs[k]=.inl s'→Gh (k+1) s')
 (he:∀s,Gh xs.length s→step (I xs.length s)=some (.inr (out s))) (s0:S) (h0:Gh 0 s0):
 Va step (I 0 s0)=some (match Cb g 0 s0 xs with|.inl s=>out s|.inr r=>ex r):=by
 have key:∀(ys:List α) (k:Nat) (s:S),xs.drop k=ys→k≤xs.length→Gh k s→Va step (I k s)=some (match Cb g k s ys with|.inl s=>out s|.inr r=>ex r):=by
  intro ys
  induction ys with
  |nil=>
   intro k s hd hle hi
   have:k=xs.length:=by
    have:=congrArg ja hd
    simp at this
    omega
   subst this
   rw[Vb (he s hi)]
   rfl
  |cons y ys ih=>
   intro k s hd hle hi
   have hk:k<xs.length:=by
    have:=congrArg ja hd
    simp at this
    omega
   have hy:xs[k]=y:=by
    have:=congrArg (·[0]?) hd
    simp[List.getElem?_drop,je hk]at this
    exact this
   obtain⟨h1,h2⟩:=h k hk s hi
   rw[Vb h1]
   rw[hy]at h2⊢
   simp only[Cb]
   cases hg:g k s y with
   |inl s'=>
    simp only[jb,qg]
    refine ih (k+1) s' ?_ hk (h2 s' hg)
    rw[←qs,hd]
    rfl
   |inr r=>rfl
 exact key xs 0 s0 rfl (zd _) h0
theorem EF(I:Nat→X)(n:Nat)(out:R)(h:∀k,k<n→step (I k)=some (.inl (I (k+1))))(he:step (I n)=some (.inr out)):Va step (I 0)=some out:=by
 have key:∀m k,m+k=n→Va step (I k)=some out:=by
  intro m
  induction m with
  |zero=>
   intro k hk
   have:k=n:=by omega
   subst this
   rw[Vb he];rfl
  |succ m ih=>
   intro k hk
   rw[Vb (h k (by omega))]
   exact ih (k+1) (by omega)
 exact key n 0 (by omega)
end
theorem Mf{n:Int}(h1:-9223372036854775808≤n)(h2:n≤9223372036854775807):j4 .i64 n=n:=IntWalk.i64_in n ⟨h1,h2⟩
theorem Gc{k:Nat}(h:k<9223372036854775807):j4 .i64 ((k:Int)+1)=((k+1:Nat):Int):=by
 rw[Mf (by omega) (by omega)];omega
theorem Wbh{n:Int}(h1:0≤n)(h2:n≤255):j4 .u8 n=n:=IntWalk.u8_in n ⟨h1,h2⟩
section
variable{α:Type}
theorem LaQ(xs:List α)(k:Nat):Ib xs (k:Int)=xs[k]?:=by simp[Ib]
theorem Nb{xs:List α}{k:Nat}(h:k<xs.length):Ib xs (k:Int)=some xs[k]:=by rw[LaQ,je h]
theorem BaJ(x:α)(xs:List α):Ib (x::xs) 0=some x:=rfl
theorem Ve(n k:Nat):Rb n (k:Int)=decide (k<n):=by
 simp[Rb]
theorem Ba{p:Prop}[Decidable p](h:p):decide p=true:=decide_eq_true h
theorem Aa{p:Prop}[Decidable p](h:¬p):decide p=false:=decide_eq_false h
theorem QaG{xs:List α}{k:Nat}(h:k<xs.length):xs.take (k+1)=xs.take k++[xs[k]]:=by
 rw[List.take_succ_eq_append_getElem h]
end
theorem SaK{α:Type}{xs:List α}{z:α}{k:Nat}(h:k<xs.length):(xs.take k++yf (xs.length-k) z).set k xs[k]=xs.take (k+1)++yf (xs.length-(k+1)) z:=by
 have h1:(xs.take k).length=k:=by simp;omega
 rw[List.set_append_right _ _ (by omega),h1,Nat.sub_self,show xs.length-k=(xs.length-(k+1))+1 by omega,List.replicate_succ,List.set_cons_zero,QaG h,q7]
 rfl
theorem UaI{α:Type}{xs:List α}{z:α}{k:Nat}(h:k≤xs.length):(xs.take k++yf (xs.length-k) z).length=xs.length:=by
 simp;omega
theorem Naf{α R:Type}{X:Type}{step:X→Option (X⊕R)}(xs:List α)(z:α)(I:List α→Int→X)(out:List α→R)
 (h:∀k (hk:k<xs.length) (o:List α),o.length=xs.length→step (I o (k:Int))=some (.inl (I (o.set k xs[k]) (j4 .i64 ((k:Int)+1)))))
 (he:∀o,step (I o (xs.length:Int))=some (.inr (out o))) (hn:xs.length<9223372036854775807):
 Va step (I (yf xs.length z) 0)=some (out xs):=by
 have:=EF (step:=step) (fun k=>I (xs.take k++yf (xs.length-k) z) (k:Int)) xs.length (out xs) (fun k hk=>by
  rw[h k hk _ (UaI (by omega)),SaK hk,Gc (by omega)]) (by
  rw[List.take_length,Nat.sub_self]
  simpa using he xs)
 simpa using this
theorem Lau{n:Nat}(h:n≤Wa):(((n:Int)==(n:Int))&&(decide ((0:Int)≤(n:Int))&&decide ((n:Int)≤((Wa:Nat):Int))))=true:=by
 simp only[beq_self_eq_true,jk,jd,decide_eq_true_eq]
 omega
theorem Bg:Wa=1073741824:=rfl
def Ja:(τ:Ty)→T τ→Nat
 |.i _,_=>0
 |.b,_=>0
 |.o,_=>0
 |.mp _ _,_=>0
 |.s,x=>ja x
 |.sl e,xs=>ja xs+(zg (Ja e) xs).sum
 |.u,_=>0
 |.p a c,v=>Ja a v.1+Ja c v.2
def Ty.hasS:Ty→Bool
 |.s=>true
 |.sl e=>e.hasS
 |.p x y=>x.hasS||y.hasS
 |_=>false
def Da:Nat:=1048576
theorem Sv{α:Type}{f:α→Nat}{xs:List α}{k:Nat}(hk:k<xs.length):f xs[k]≤(xs.map f).sum:=by
 induction xs generalizing k with
 |nil=>simp at hk
 |cons x xs ih=>
  cases k with
  |zero=>simp
  |succ k=>
   have:=ih (k:=k) (by simpa using hk)
   simp only[List.getElem_cons_succ,ym,List.sum_cons]
   omega
def AO(n l:Nat):Int:=if n≤l then((l-n:Nat):Int)else-1
theorem Fl{n l:Nat}(h:n≤l):AO n l=((l-n:Nat):Int):=if_pos h
theorem Gi{n l:Nat}(h:¬n≤l):AO n l=-1:=if_neg h
theorem JaV{α X R:Type}{step:X→Option (X⊕R)}(xs:List α)(n:α→Nat)(I:Int→Int→X)(yes:Int→R)(no:R)
 (h:∀k (hk:k<xs.length) (l:Nat),l≤Da→step (I (l:Int) (k:Int))=some (if n xs[k]≤l then .inl (I ((l-n xs[k]:Nat):Int) (j4 .i64 ((k:Int)+1)))else .inr no))
 (he:∀l:Nat,step (I (l:Int) (xs.length:Int))=some (.inr (yes (l:Int)))) (hn:xs.length<9223372036854775807) (l:Nat) (hl:l≤Da):
 Va step (I (l:Int) 0)=some (if(xs.map n).sum≤l then yes ((l-(xs.map n).sum:Nat):Int)else no):=by
 have key:∀(ys:List α) (k l:Nat),xs.drop k=ys→k≤xs.length→l≤Da→Va step (I (l:Int) (k:Int))=some (if(ys.map n).sum≤l then yes ((l-(ys.map n).sum:Nat):Int)else no):=by
  intro ys
  induction ys with
  |nil=>
   intro k l hd hle hi
   have:k=xs.length:=by
    have:=congrArg ja hd
    simp at this
    omega
   subst this
   rw[Vb (he l)]
   simp
  |cons y ys ih=>
   intro k l hd hle hi
   have hk:k<xs.length:=by
    have:=congrArg ja hd
    simp at this
    omega
   have hy:xs[k]=y:=by
    have:=congrArg (·[0]?) hd
    simp[List.getElem?_drop,je hk]at this
    exact this
   have hd':xs.drop (k+1)=ys:=by rw[←qs,hd];rfl
   rw[Vb (h k hk l hi),hy]
   simp only[ym,List.sum_cons]
   by_cases hc:n y≤l
   ·simp only[hc,if_true,jb,qg]
    rw[Gc (by omega),ih (k+1) (l-n y) hd' hk (by omega)]
    by_cases hc2:(ys.map n).sum≤l-n y
    ·rw[if_pos hc2,if_pos (by omega)]
     congr 3
     omega
    ·rw[if_neg hc2,if_neg (by omega)]
   ·rw[if_neg hc,if_neg (by omega)]
    rfl
 have:=key xs 0 l rfl (zd _) hl
 simpa using this
theorem BL:∀{τ:Ty} (_:(τ.flat&&!τ.hasS)=true) {x:T τ},Ja τ x=0
 |.i _,_,_=>rfl
 |.b,_,_=>rfl
 |.o,_,_=>rfl
 |.mp _ _,_,_=>rfl
 |.s,h,_=>by simp[Ty.hasS]at h
 |.sl _,h,_=>by simp[Ty.flat]at h
 |.u,_,_=>rfl
 |.p a c,h,x=>by
  simp only[Ty.flat,Ty.hasS,jd,yn,yv]at h
  simp only[Ja]
  rw[BL (τ:=a) (by simp[h.1.1,h.2.1]),BL (τ:=c) (by simp[h.1.2,h.2.2])]
theorem Lp{e:Ty}(h:(e.flat&&!e.hasS)=true)(xs:List (T e)):Ja (.sl e) xs=ja xs:=by
 simp only[Ja]
 have:zg (Ja e) xs=yf xs.length 0:=by
  apply List.ext_getElem
  ·simp
  ·intro i h1 h2
   simp[BL h]
 rw[this]
 simp
theorem Uk{α:Type}(b:Bool)(x y:α):cond b (some x) (some y)=some (cond b x y):=by cases b<;>rfl
theorem Vk{α:Type}(b:Bool)(x y:α):cond b (x,()) (y,())=(cond b x y,()):=by cases b<;>rfl
theorem Ae(b x y:Bool):(cond b x y=true)↔((b=true∧x=true)∨(¬b=true∧y=true)):=by cases b<;>simp
theorem Uap{a b:Bool}(h:a=true↔b=true):a=b:=qo.2 h
theorem Kd{a b:Bool}(h:a=true↔b=true):some (a,())=some (b,()):=by rw[Uap h]
theorem LU(a b:Int):((a==b)=true)↔a=b:=by simp
theorem TZ(a b:Int):((a !=b)=true)↔¬a=b:=by simp
def Ig{α:Type}(p:Nat→α→Bool):Nat→List α→Bool
 |_,[]=>true
 |k,x::xs=>p k x&&Ig p (k+1) xs
theorem Kh{X R:Type}{step:X→Option (X⊕R)}{α:Type}(xs:List α)(p:Nat→α→Bool)(I:Int→X)(yes no:R)
 (h:∀k (hk:k<xs.length),step (I (k:Int))=some (cond (p k xs[k]) (.inl (I (j4 .i64 ((k:Int)+1)))) (.inr no)))
 (he:step (I (xs.length:Int))=some (.inr yes)) (hn:xs.length<9223372036854775807):
 Va step (I 0)=some (cond (Ig p 0 xs) yes no):=by
 have key:∀(ys:List α) (k:Nat),xs.drop k=ys→k≤xs.length→Va step (I (k:Int))=some (cond (Ig p k ys) yes no):=by
  intro ys
  induction ys with
  |nil=>
   intro k hd hle
   have:k=xs.length:=by
    have:=congrArg ja hd
    simp at this
    omega
   subst this
   rw[Vb he]
   rfl
  |cons y ys ih=>
   intro k hd hle
   have hk:k<xs.length:=by
    have:=congrArg ja hd
    simp at this
    omega
   have hy:xs[k]=y:=by
    have:=congrArg (·[0]?) hd
    simp[List.getElem?_drop,je hk]at this
    exact this
   have hd':xs.drop (k+1)=ys:=by rw[←qs,hd];rfl
   rw[Vb (h k hk),hy]
   simp only[Ig]
   cases hc:p k y with
   |true=>
    simp only[zj,jk,jb,qg]
    rw[←ih (k+1) hd' hk,Gc (by omega)]
   |false=>rfl
 have:=key xs 0 rfl (zd _)
 simpa using this
theorem Bz{α:Type}{p:Nat→α→Bool}:∀{xs:List α} {k:Nat},Ig p k xs=true↔∀j (hj:j<xs.length),p (k+j) xs[j]=true
 |[],_=>by simp[Ig]
 |x::xs,k=>by
  simp only[Ig,jd,Bz (xs:=xs)]
  constructor
  ·rintro⟨h1,h2⟩ j hj
   cases j with
   |zero=>exact h1
   |succ j=>simpa[jt,Nat.add_comm 1 j]using h2 j (by simpa using hj)
  ·intro h
   refine⟨h 0 (by simp),fun j hj=>?_⟩
   have:=h (j+1) (by simpa using hj)
   rw[jt,Nat.add_comm 1 j]
   exact this
theorem Uaf{α β γ:Type}(b:Bool)(x:α)(y:β)(f:α→γ)(g:β→γ):Sum.elim f g (cond b (.inl x) (.inr y))=cond b (f x) (g y):=by cases b<;>rfl
def Vc{α S:Type}(g:Nat→S→α→S):Nat→S→List α→S
 |_,s,[]=>s
 |k,s,x::xs=>Vc g (k+1) (g k s x) xs
theorem W2{α:Type}{xs ys:List α}{y:α}{k:Nat}(hd:xs.drop k=y::ys):∃hk:k<xs.length,xs[k]=y∧xs.drop (k+1)=ys:=by
 have hk:k<xs.length:=by
  have:=congrArg ja hd
  simp at this
  omega
 refine⟨hk,?_,by rw[←qs,hd];rfl⟩
 have:=congrArg (·[0]?) hd
 simp[List.getElem?_drop,je hk]at this
 exact this
theorem V7{α:Type}{xs:List α}{k:Nat}(hd:xs.drop k=[])(hk:k≤xs.length):k=xs.length:=by
 have:=congrArg ja hd
 simp at this
 omega
theorem Ue{X R:Type}{step:X→Option (X⊕R)}{α S:Type}(xs:List α)(g:Nat→S→α→S)(I:S→Int→X)(out:S→R)(Gh:Nat→S→Prop)
 (h:∀k (hk:k<xs.length) s,Gh k s→step (I s (k:Int))=some (.inl (I (g k s xs[k]) (j4 .i64 ((k:Int)+1))))∧Gh (k+1) (g k s xs[k]))
 (he:∀s,Gh xs.length s→step (I s (xs.length:Int))=some (.inr (out s))) (hn:xs.length<9223372036854775807) (s0:S) (h0:Gh 0 s0):
 Va step (I s0 0)=some (out (Vc g 0 s0 xs))∧Gh xs.length (Vc g 0 s0 xs):=by
 have key:∀(ys:List α) (k:Nat) (s:S),xs.drop k=ys→k≤xs.length→Gh k s→Va step (I s (k:Int))=some (out (Vc g k s ys))∧Gh xs.length (Vc g k s ys):=by
  intro ys
  induction ys with
  |nil=>
   intro k s hd hle hi
   have:=V7 hd hle
   subst this
   rw[Vb (he s hi)]
   exact⟨rfl,hi⟩
  |cons y ys ih=>
   intro k s hd hle hi
   obtain⟨hk,hy,hd'⟩:=W2 hd
   obtain⟨h1,h2⟩:=h k hk s hi
   rw[Vb h1,hy,Gc (by omega)]
   rw[hy]at h2
   exact ih (k+1) _ hd' hk h2
 have:=key xs 0 s0 rfl (zd _) h0
 simpa using this
theorem Ug{X R:Type}{step:X→Option (X⊕R)}{α S R':Type}(xs:List α)(g:Nat→S→α→S⊕R')(I:S→Int→X)(out:S→R)(ex:R'→R)(Gh:Nat→S→Prop)
 (h:∀k (hk:k<xs.length) s,Gh k s→step (I s (k:Int))=some (match g k s xs[k]with|.inl s'=>.inl (I s' (j4 .i64 ((k:Int)+1)))|.inr r=>.inr (ex r))∧∀s',g k s xs[k]=.inl s'→Gh (k+1) s')
 (he:∀s,Gh xs.length s→step (I s (xs.length:Int))=some (.inr (out s))) (hn:xs.length<9223372036854775807) (s0:S) (h0:Gh 0 s0):
 Va step (I s0 0)=some (match Cb g 0 s0 xs with|.inl s=>out s|.inr r=>ex r):=by
 have:=W6 (step:=step) xs g (fun k s=>I s (k:Int)) out ex Gh (fun k hk s hi=>by
  obtain⟨h1,h2⟩:=h k hk s hi
  refine⟨?_,h2⟩
  rw[h1,Gc (by omega)]) he s0 h0
 simpa using this
theorem HaF{X R X' R':Type}{J1:X→Option (X⊕R)}{stepH:X'→Option (X'⊕R')}{α:Type}(c:α→Nat)(B:Nat)(IM:List α→Int→Int→X)(outM:List α→Int→R)(IH:List α→Int→Int→X')(outH:List α→Int→R')
 (h:∀(o:List α) (k i:Nat) (hi:i<o.length),k+c o[i]≤B→∃x' k',k≤k'∧k'≤k+c o[i]∧
  J1 (IM o (k:Int) (i:Int))=some (.inl (IM (o.set i x') (k':Int) (j4 .i64 ((i:Int)+1))))∧
  ∀(o2:List α) (hi2:i<o2.length),o2[i]=x'→stepH (IH o2 (k:Int) (i:Int))=some (.inl (IH o2 (k':Int) (j4 .i64 ((i:Int)+1)))))
 (heM:∀(o:List α) (k:Nat),J1 (IM o (k:Int) (o.length:Int))=some (.inr (outM o (k:Int))))
 (heH:∀(o:List α) (k:Nat),stepH (IH o (k:Int) (o.length:Int))=some (.inr (outH o (k:Int))))
 (xs:List α) (k:Nat) (hB:k+(xs.map c).sum≤B) (hn:xs.length<9223372036854775807):
 ∃(o:List α) (k':Nat),k≤k'∧k'≤k+(xs.map c).sum∧o.length=xs.length∧Va J1 (IM xs (k:Int) 0)=some (outM o (k':Int))∧Va stepH (IH o (k:Int) 0)=some (outH o (k':Int)):=by
 have key:∀(m i k:Nat) (o:List α),o.length=xs.length→m+i=xs.length→k+((o.drop i).map c).sum≤B→
  ∃(o':List α) (k':Nat),k≤k'∧k'≤k+((o.drop i).map c).sum∧o'.length=xs.length∧o'.take i=o.take i∧Va J1 (IM o (k:Int) (i:Int))=some (outM o' (k':Int))∧Va stepH (IH o' (k:Int) (i:Int))=some (outH o' (k':Int)):=by
  intro m
  induction m with
  |zero=>
   intro i k o ho hm hk
   have:i=o.length:=by omega
   subst this
   refine⟨o,k,jo _,by omega,ho,rfl,?_,?_⟩
   ·rw[Vb (heM o k)];rfl
   ·rw[Vb (heH o k)];rfl
  |succ m ih=>
   intro i k o ho hm hk
   have hi:i<o.length:=by omega
   have hdrop:o.drop i=o[i]::o.drop (i+1):=List.drop_eq_getElem_cons hi
   rw[hdrop,ym,List.sum_cons]at hk⊢
   obtain⟨x',k1,h1,h2,h3,h4⟩:=h o k i hi (by omega)
   have hd1:(o.set i x').drop (i+1)=o.drop (i+1):=by
    rw[List.drop_set]
    simp
   obtain⟨o',k',g1,g2,g3,g4,g5,g6⟩:=ih (i+1) k1 (o.set i x') (by simpa using ho) (by omega) (by rw[hd1];omega)
   rw[hd1]at g2
   have ht:o'.take i=o.take i:=by
    have:=congrArg (List.take i) g4
    rw[List.take_take,List.take_take,Nat.min_eq_left (by omega),List.take_set_of_le (jo _)]at this
    exact this
   have hx:o'[i]'(by omega)=x':=by
    have:=congrArg (·[i]?) g4
    simp[je (show i<o'.length by omega),hi]at this
    exact this
   refine⟨o',k',by omega,by omega,g3,ht,?_,?_⟩
   ·rw[Vb h3,Gc (by omega)]
    exact g5
   ·rw[Vb (h4 o' (by omega) hx),Gc (by omega)]
    exact g6
 obtain⟨o,k',h1,h2,h3,_,h5,h6⟩:=key xs.length 0 k xs rfl rfl (by simpa using hB)
 exact⟨o,k',h1,by simpa using h2,h3,by simpa using h5,by simpa using h6⟩
def Ie:Nat:=1099511627776
theorem Ibo(e:Ty)(xs:List (T e)):(zg (fun x=>8+8*Ja e x) xs).sum=8*Ja (.sl e) xs:=by
 simp only[Ja]
 induction xs with
 |nil=>rfl
 |cons x xs ih=>
  simp only[ym,List.sum_cons,jw]at ih⊢
  omega
theorem z3:((3:Int)==0)=false:=rfl
theorem Xh{n lo hi:Nat}(h1:lo≤hi)(h2:hi≤n):Nd n (lo:Int) (hi:Int)=true:=by
 simp[Nd];omega
def kf:(τ:Ty)→T τ→T τ→Prop
 |.sl _,_,_=>True
 |.p x y,a,c=>kf x a.1 c.1∧kf y a.2 c.2
 |.i _,a,c=>a=c
 |.b,a,c=>a=c
 |.o,a,c=>a=c
 |.mp _ _,a,c=>a=c
 |.s,a,c=>a=c
 |.u,a,c=>a=c
theorem Dy:∀(τ:Ty) (a:T τ),kf τ a a
 |.sl _,_=>trivial
 |.p x y,a=>⟨Dy x a.1,Dy y a.2⟩
 |.i _,_=>rfl
 |.b,_=>rfl
 |.o,_=>rfl
 |.mp _ _,_=>rfl
 |.s,_=>rfl
 |.u,_=>rfl
section
variable{α β:Type}
def toR(f:α→Option (α×Unit))(t0 t3:List α)(t4:Int):Option (((List α×(List α×(Int×Unit)))×Unit)⊕(((List α×Unit)×Unit)⊕β)):=
 cond (decide (t4<((ja t0:Nat):Int))) (jz (Ib t0 t4) fun x7=>jz (f x7) fun r8=>cond (Rb (ja t3) t4)
  (jz t3[(jy t4)]? fun x9=>some (.inl ((t0,j5 t3 (jy t4) r8.1,j4 .i64 (t4+1),()),()))) none) (some (.inr (.inl ((t3,()),()))))
noncomputable def toG(β:Type)(z:α)(f:α→Option (α×Unit))(a0:List α):Option (List α×Unit):=
 cond ((((ja a0:Nat):Int)==((ja a0:Nat):Int))&&(decide ((0:Int)≤((ja a0:Nat):Int))&&decide (((ja a0:Nat):Int)≤((Wa:Nat):Int))))
  (jz (Va (fun x:(List α×(List α×(Int×Unit)))×Unit=>toR (β:=β) f x.1.1 x.1.2.1 x.1.2.2.1) ((a0,yf (jy ((ja a0:Nat):Int)) z,(0:Int),()),())) (Sum.elim (fun y10=>some (y10.1.1,())) (fun _=>none))) none
theorem Ca0(z:α)(f:α→Option (α×Unit))(a:List α)(hn:a.length≤Da)(hf:∀k (h:k<a.length),f a[k]=some (a[k],())):toG β z f a=some (a,()):=by
 have h20:Da=1048576:=rfl
 have hl:=Naf (step:=fun x:(List α×(List α×(Int×Unit)))×Unit=>toR (β:=β) f x.1.1 x.1.2.1 x.1.2.2.1) a z (fun o i=>((a,o,i,()),())) (fun o=>.inl ((o,()),())) (by
  intro k hk o ho
  simp only[toR]
  rw[Ba (show(k:Int)<(ja a:Int) by omega),Nb hk]
  simp only[zj,jb]
  rw[hf k hk]
  simp only[zj,jb]
  rw[Ve,Ba (show k<ja o by omega)]
  simp[je (show k<ja o by omega)]) (by
  intro o
  simp[toR]) (by omega)
 unfold toG
 rw[Lau (by rw[Bg];omega)]
 simp only[zj]
 rw[show jy ((ja a:Nat):Int)=ja a by simp]
 erw[hl]
 rfl
theorem toS{e:Ty}(β:Type)(z:T e){f:T e→Option (T e×Unit)}{F:List (T e)→Option (List (T e)×Unit)}(a:List (T e))(hz:Ja (.sl e) a≤Da)(hf:∀x,Ja e x≤Da→f x=some (x,()))(h:F a=toG β z f a):F a=some (a,()):=by
 have hz':ja a+(zg (Ja e) a).sum≤Da:=hz
 rw[h]
 exact Ca0 z f a (by omega) fun k hk=>hf _ (by have:=Sv (f:=Ja e) hk;omega)
def eqR(f:α→α→Option (Bool×Unit))(t0 t1:List α)(t5:Int):Option (((List α×(List α×(Int×Unit)))×Unit)⊕((Unit×Unit)⊕((Bool×Unit)×Unit))):=
 cond (decide (t5<((ja t0:Nat):Int))) (jz (Ib t0 t5) fun x7=>jz (Ib t1 t5) fun x8=>jz (f x7 x8) fun r9=>cond (!r9.1) (some (.inr (.inr ((false,()),()))))
  (some (.inl ((t0,t1,j4 .i64 (t5+1),()),())))) (some (.inr (.inl ((),()))))
noncomputable def eqG(f:α→α→Option (Bool×Unit))(a0 a1:List α):Option (Bool×Unit):=
 cond (((ja a0:Nat):Int) !=((ja a1:Nat):Int)) (some (false,()))
  (jz (Va (fun x:(List α×(List α×(Int×Unit)))×Unit=>eqR f x.1.1 x.1.2.1 x.1.2.2.1) ((a0,a1,(0:Int),()),())) (Sum.elim (fun _=>some (true,())) (fun z11=>some (z11.1.1,()))))
theorem UaX(f:α→α→Option (Bool×Unit))(a:List α)(hn:a.length≤Ie)(hf:∀k (h:k<a.length),f a[k] a[k]=some (true,())):eqG f a a=some (true,()):=by
 have h40:Ie=1099511627776:=rfl
 have hl:=EF (step:=fun x:(List α×(List α×(Int×Unit)))×Unit=>eqR f x.1.1 x.1.2.1 x.1.2.2.1) (fun k=>((a,a,(k:Int),()),())) (ja a) (.inl ((),())) (by
  intro k hk
  simp only[eqR]
  rw[Ba (show(k:Int)<(ja a:Int) by omega),Nb hk]
  simp only[zj,jb]
  rw[hf k hk]
  simp only[jb,jg,zk]
  rw[Gc (by omega)]) (by
  simp[eqR])
 unfold eqG
 rw[bne_self_eq_false']
 simp only[zk]
 erw[hl]
 rfl
theorem eqS{e:Ty}{f:T e→T e→Option (Bool×Unit)}{F:List (T e)→List (T e)→Option (Bool×Unit)}(a:List (T e))(hz:Ja (.sl e) a≤Ie)(hf:∀x,Ja e x≤Ie→f x x=some (true,()))(h:F a a=eqG f a a):F a a=some (true,()):=by
 have hz':ja a+(zg (Ja e) a).sum≤Ie:=hz
 rw[h]
 exact UaX f a (by omega) fun k hk=>hf _ (by have:=Sv (f:=Ja e) hk;omega)
def KaB(f:α→Int→Option (Int×Unit))(t0:List α)(t1 t5:Int):Option (((List α×(Int×(Int×Unit)))×Unit)⊕(((Int×Unit)×Unit)⊕((Int×Unit)×Unit))):=
 cond (decide (t5<((ja t0:Nat):Int))) (jz (Ib t0 t5) fun x5=>jz (f x5 t1) fun r6=>cond (decide (r6.1<(0:Int))) (some (.inr (.inr (((-1:Int),()),()))))
  (some (.inl ((t0,r6.1,j4 .i64 (t5+1),()),())))) (some (.inr (.inl ((t1,()),()))))
noncomputable def szG(f:α→Int→Option (Int×Unit))(a0:List α)(a1:Int):Option (Int×Unit):=
 cond (decide ((j4 .i64 (a1-((ja a0:Nat):Int)))<(0:Int))) (some ((-1:Int),()))
  (jz (Va (fun x:(List α×(Int×(Int×Unit)))×Unit=>KaB f x.1.1 x.1.2.1 x.1.2.2.1) ((a0,j4 .i64 (a1-((ja a0:Nat):Int)),(0:Int),()),())) (Sum.elim (fun y7=>some (y7.1.1,())) (fun z8=>some (z8.1.1,()))))
theorem szS{e:Ty}{f:T e→Int→Option (Int×Unit)}{F:List (T e)→Int→Option (Int×Unit)}(a:List (T e))(hr:Et (.sl e) a)(l:Nat)(hl:l≤Da)
 (hf:∀x,Et e x→∀l:Nat,l≤Da→f x (l:Int)=some (AO (Ja e x) l,())) (hF:F a (l:Int)=szG f a (l:Int)):F a (l:Int)=some (AO (Ja (.sl e) a) l,()):=by
 have h20:Da=1048576:=rfl
 have hlen:ja a≤9223372036854775807:=hr.1
 rw[hF]
 unfold szG
 rw[Mf (by omega) (by omega)]
 by_cases h:ja a≤l
 ·rw[Aa (by omega),show(l:Int)-(ja a:Int)=((l-ja a:Nat):Int) by omega]
  simp only[zk]
  have hx:=JaV (step:=fun x:(List (T e)×(Int×(Int×Unit)))×Unit=>KaB f x.1.1 x.1.2.1 x.1.2.2.1) a (Ja e) (fun l i=>((a,l,i,()),())) (fun l=>.inl ((l,()),())) (.inr (((-1:Int),()),())) (by
   intro k hk l hl
   simp only[KaB]
   rw[Ba (show(k:Int)<(ja a:Int) by omega),Nb hk]
   simp only[zj,jb]
   rw[hf a[k] (hr.2 k hk) l hl]
   simp only[jb]
   by_cases hc:Ja e a[k]≤l
   ·rw[Fl hc,Aa (by omega),if_pos hc];rfl
   ·rw[Gi hc,if_neg hc];rfl) (by
   intro l
   simp[KaB]) (by omega) (l-ja a) (by omega)
  rw[hx]
  simp only[jb]
  have hs:Ja (.sl e) a=ja a+(zg (Ja e) a).sum:=rfl
  rw[hs]
  by_cases h2:(zg (Ja e) a).sum≤l-ja a
  ·rw[if_pos h2,Fl (by omega)];simp only[qg];rw[show l-ja a-(zg (Ja e) a).sum=l-(ja a+(zg (Ja e) a).sum) by omega]
  ·rw[if_neg h2,Gi (by omega)];rfl
 ·rw[Gi (show¬Ja (.sl e) a≤l by have hs:Ja (.sl e) a=ja a+(zg (Ja e) a).sum:=rfl;omega),Ba (by omega)];rfl
def XaZ(a0:List α)(a1:Int):Option (Int×Unit):=
 cond (decide ((j4 .i64 (a1-((ja a0:Nat):Int)))<(0:Int))) (some ((-1:Int),())) (some ((j4 .i64 (a1-((ja a0:Nat):Int))),()))
theorem Pan{e:Ty}{F:List (T e)→Int→Option (Int×Unit)}(a:List (T e))(hr:Et (.sl e) a)(l:Nat)(hl:l≤Da)(he:(e.flat&&!e.hasS)=true)(hF:F a (l:Int)=XaZ a (l:Int)):F a (l:Int)=some (AO (Ja (.sl e) a) l,()):=by
 have h20:Da=1048576:=rfl
 have hlen:ja a≤9223372036854775807:=hr.1
 rw[hF]
 unfold XaZ
 rw[Mf (by omega) (by omega),Lp he a]
 by_cases h:ja a≤l
 ·rw[Fl h,Aa (by omega),show(l:Int)-(ja a:Int)=((l-ja a:Nat):Int) by omega];rfl
 ·rw[Gi h,Ba (by omega)];rfl
end
theorem UW{e:Ty}{β β':Type}{RM:List (T e)→Int→Int→Option (((List (T e)×(Int×(Int×Unit)))×Unit)⊕(((List (T e)×(Int×Unit))×Unit)⊕β))}
 {RH:List (T e)→Int→Int→Option (((List (T e)×(Int×(Int×Unit)))×Unit)⊕(((Int×Unit)×Unit)⊕β'))} {M:List (T e)→Int→Option (List (T e)×(Int×Unit))} {Hd:List (T e)→Int→Option (Int×Unit)} {g:β→Option (List (T e)×(Int×Unit))} {g':β'→Option (Int×Unit)}
 (hM:∀o k,M o k=jz (Va (fun x=>RM x.1.1 x.1.2.1 x.1.2.2.1) ((o,k,0,()),())) (Sum.elim (fun y=>some (y.1.1,(y.1.2.1,()))) g))
 (hH:∀o k,Hd o k=jz (Va (fun x=>RH x.1.1 x.1.2.1 x.1.2.2.1) ((o,k,0,()),())) (Sum.elim (fun y=>some (y.1.1,())) g'))
 (h:∀(o:List (T e)) (k i:Nat) (hi:i<o.length),k+(8+8*Ja e o[i])≤Ie→∃(x':T e) (k':Nat),k≤k'∧k'≤k+(8+8*Ja e o[i])∧
  RM o (k:Int) (i:Int)=some (.inl ((o.set i x',(k':Int),(j4 .i64 ((i:Int)+1)),()),()))∧
  ∀(o2:List (T e)) (hi2:i<o2.length),o2[i]=x'→RH o2 (k:Int) (i:Int)=some (.inl ((o2,(k':Int),(j4 .i64 ((i:Int)+1)),()),())))
 (heM:∀(o:List (T e)) (k:Int),RM o k (o.length:Int)=some (.inr (.inl ((o,k,()),()))))
 (heH:∀(o:List (T e)) (k:Int),RH o k (o.length:Int)=some (.inr (.inl ((k,()),()))))
 (a:List (T e)) (k:Nat) (hk:k+8*Ja (.sl e) a≤Ie):
 ∃(a':List (T e)) (k':Nat),k≤k'∧k'≤k+8*Ja (.sl e) a∧M a (k:Int)=some (a',((k':Int),()))∧Hd a' (k:Int)=some ((k':Int),())∧kf (.sl e) a a':=by
 have h40:Ie=1099511627776:=rfl
 by_cases hlen:ja a<9223372036854775807
 case neg=>exfalso;have h1:ja a≤Ja (.sl e) a:=Nat.le_add_right _ _;omega
 have hsum:(zg (fun x=>8+8*Ja e x) a).sum=8*Ja (.sl e) a:=Ibo _ _
 have hx:=HaF (J1:=fun x:((List (T e)×(Int×(Int×Unit)))×Unit)=>RM x.1.1 x.1.2.1 x.1.2.2.1) (stepH:=fun x:((List (T e)×(Int×(Int×Unit)))×Unit)=>RH x.1.1 x.1.2.1 x.1.2.2.1) (fun x=>8+8*Ja e x) Ie (fun o k i=>((o,k,i,()),())) (fun o k=>.inl ((o,k,()),())) (fun o k i=>((o,k,i,()),())) (fun _ k=>.inl ((k,()),())) h
  (fun o k=>heM o _) (fun o k=>heH o _) a k (by rw[hsum];exact hk) hlen
 obtain⟨o,k1,h1,h2,_,h4,h5⟩:=hx
 rw[hsum]at h2
 refine⟨o,k1,h1,h2,?_,?_,trivial⟩
 ·rw[hM]
  erw[h4]
  rfl
 ·rw[hH]
  erw[h5]
  rfl
end KF
