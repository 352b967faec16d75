/- An evaluator of Go functions on plain data, its soundness, and plain laws on what the functions compute, part 3 (conditions: as each lemma tells). -/
import Derived.Test.YteooipbgmfmhfaaGreatDoorB
import Derived.LoopN
import Derived.ChangeArms
import Derived.ChangeStays
import Derived.ChangeSame
import Derived.WideShapes
import Derived.RowKit
import Derived.Handed
import Derived.JoinedOf
import Derived.Lib.Split
import Derived.Lib.Join
import Derived.Lib.ItoaNum
import Derived.Lib.IndexMore
import Derived.Lib.Bytealg
import Derived.Lib.Atoi
import Derived.Shelf.Sort.Plain
import Derived.Shelf.Slices.In.SortNone2
import Derived.Shelf.LaysM
import Derived.Shelf.Strings.Split
import Derived.Shelf.Strings.OnBuilder
import Derived.Shelf.Strconv.Itoa3
import Derived.LaidLaws
import Derived.LaidHandle
import Derived.Lib.LaidTab
import Derived.Shelf.Strings.Cut
import Derived.Shelf.Strings.Search3
import Derived.Shelf.Small.Strs
import Derived.Lib.AtoiBound
import Derived.IntWalk
set_option linter.unusedSimpArgs false
set_option linter.unusedVariables false
namespace KF
open Go
open List renaming length → ja, getElem?_eq_getElem → je, append → jf, mem_append → jl, mem_cons → jp, mem_cons_of_mem → jr, length_cons → jw, set → j5, length_nil → j6, mem_singleton → qb, length_append → qc, getD_eq_getElem?_getD → qe, getElem_mem → qi, getElem_of_mem → qj, mem_map → qk, length_drop → ql, ext_getElem? → qp, drop_drop → qq, toArray → qr, getD → qs, getElem?_eq_none → qt, mem_append_left → qu, mem_append_right → qv, any_eq_true → qy, append_assoc → q0, eq_nil_of_length_eq_zero → q7, getElem?_eq_some_iff → q8, length_eq_one_iff → q9, replicate → yd, nil_append → yg, cons_append → yh, map_cons → yk, nodup_cons → ym, nodup_append → yn, size_toArray → yo, flatten_cons → yp, length_map → yr, mem_map_of_mem → yv, map_append → yw, all_eq_true → yx, append_nil → yy, range → y3, map → zd, append_eq → ze, not_mem_nil → zf
open Option renaming bind_some → jb, bind → jz, map_some → qa, bind_eq_some_iff → qd, getD_some → qz, map_eq_some_iff → yz
open Option.some renaming injEq → jc, inj → zb
open Bool renaming and_eq_true → jd, not_true → jg, true_and → jk, false_eq_true → jq, not_false → j7, not_eq_true → j8, false_and → qh, eq_iff_iff → qm, or_eq_true → qx, not_eq_true' → yl, or_eq_false_iff → yt, false_or → yu
open Prod.mk renaming injEq → jh
open Nat renaming ble_eq_true_of_le → ji, mul_le_mul_right → jm, le_refl → jo, zero_add → js, add_assoc → jt, eq_of_beq_eq_true → ju, ble → jx, le_trans → j9, lt_of_lt_of_le → qg, beq → qw, le_of_ble_eq_true → q6, add_zero → ya, blt → yb, blt_eq → ye, add_mul → yf, beq_refl → yj, succ_mul → yq
open Int renaming toNat_natCast → jn, eq_ofNat_of_zero_le → jv, toNat → jy, tmod → yc
open Go.IntKind renaming wrap → j4
open Sum renaming elim_inl → qf
open Result renaming andThen_ok → qn
open Sem renaming run_bind → qo
open List.cons renaming injEq → yi
open Sum.inl renaming injEq → za
structure Nl(s s':AS):Prop extends Eqv s s' where
 nw:∀id,s'.newOk id=s.newOk id
theorem Nl.refl(s:AS):Nl s s:=⟨Eqv.refl s,fun _=>rfl⟩
theorem Nl.agr{s s':AS}(h:Nl s s')(o:Oper):Agr s s' o:=
 ⟨fun _ hx=>B7 hx fun t _=>h.tm t,fun _ _ _ _ _ _ id _=>h.hp id,fun _ _ _ _ _ id _=>by rw[h.hp id],fun id _=>h.nw id,fun _ _ _ _ _ _ _ _ _ _ id _=>h.hp id⟩
theorem Nl.symm{s s':AS}(h:Nl s s'):Nl s' s:=⟨h.toEqv.symm,fun id=>(h.nw id).symm⟩
theorem Nl.trans{s1 s2 s3:AS}(h:Nl s1 s2)(h':Nl s2 s3):Nl s1 s3:=⟨h.toEqv.trans h'.toEqv,fun id=>(h'.nw id).trans (h.nw id)⟩
theorem Nl.putE{s s':AS}(h:Nl s s')(dst:Option Tmp)(e:Ef):Nl (KF.putE s dst e) (KF.putE s' dst e):=by
 refine⟨⟨h.n,fun t=>?_,fun id=>?_⟩,fun id=>?_⟩
 ·rw[ZE,ZE,h.tm t]
 ·rw[BB,BB,h.hp id]
 ·have e0:=h.nw id
  unfold AS.newOk at e0⊢
  simp only[AS.ment,KF.putE,List.any_append]at e0⊢
  revert e0
  generalize((match dst with|some t=>[(t,e.1)]|none=>[]).any fun x=>x.2.ment id)=b1
  generalize(e.2.any fun x=>(x.2.map (Ka.ment id)).getD false)=b2
  generalize(s.tm.any fun x=>x.2.ment id)=c1
  generalize(s.hp.any fun x=>(x.2.map (Ka.ment id)).getD false)=c2
  generalize(s'.tm.any fun x=>x.2.ment id)=d1
  generalize(s'.hp.any fun x=>(x.2.map (Ka.ment id)).getD false)=d2
  generalize yb id 500000=z
  cases b1<;>cases b2<;>cases c1<;>cases c2<;>cases d1<;>cases d2<;>cases z<;>simp
theorem Nl.refine{s:AS}{t:Nat}{β:Bool}(hd:Xb s.tm t=some (.t .b β)):Nl s ⟨s.n,(t,.t .b β)::s.tm,s.hp⟩:=by
 refine⟨⟨rfl,fun t'=>?_,fun _=>rfl⟩,fun id=>?_⟩
 ·rw[Id]
  split
  ·rename_i e;subst e;exact hd.symm
  ·rfl
 ·simp[AS.newOk,AS.ment,D.ment]
theorem Fad{s s':AS}(h:∀j,s'.heap j=s.heap j)(d:D):YO s d=YO s' d:=by
 cases d with
 |ptr id p=>simp only[YO,h id]
 |_=>rfl
def TaC(s:AS)(u:List (Nat×Option Ka)):Prop:=u=[]∨∃id b tl,u=(id,some b)::tl∧(s.heap id).map Ka.kind=some b.kind
theorem X9{s:AS}{dst:Option Tmp}{τ:Ty}{id i:Nat}{e:Ty}{xs:List (T e)}{k:Nat}{ef:Ef}(hs:(s.heap id).map Ka.kind=some (none,some (e,ja xs)))
 (h:KA s dst τ id i e xs k (fun d u=>some (d,u))=some ef):TaC s ef.2:=by
 unfold KA at h
 split at h
 ·cases hb:qw i k with
  |false=>rw[hb]at h;simp at h
  |true=>
   rw[hb]at h
   simp only[zg,qd]at h
   obtain⟨x,hx,h⟩:=h
   simp only[Na,jc]at h
   obtain⟨_,rfl⟩:=h
   exact .inr ⟨id,_,_,rfl,hs⟩
 ·simp at h
theorem Qap{α:Type}{c:Bool}{a b:Option α}{x:α}(h:(bif c then a else b)=some x):a=some x∨b=some x:=by cases c<;>simp_all
theorem OaH{G:Sf}{s:AS}{o:Oper}{ef:Ef}(hk:HZ o.op=true)(h:Hc G s o (fun d u=>some (d,u))=some ef):TaC s ef.2:=by
 cases ho:o.op with
 |load t x=>
  simp only[Hc,ho]at h
  split at h
  ·split at h
   ·split at h
    ·split at h
     ·simp only[jc]at h;rw[←h];exact .inl rfl
     ·simp at h
    ·simp at h
   ·simp at h
  ·split at h
   ·simp only[jc]at h;rw[←h];exact .inl rfl
   ·simp at h
  ·rename_i τ id i path _ _
   cases hml:PP G o.dst with
   |true=>
    rw[hml]at h
    simp only[zg]at h
    split at h
    ·rename_i hb hz;exact X9 (by rw[hb];rfl) h
    ·rename_i hb hz;exact X9 (by rw[hb];rfl) h
    ·simp at h
   |false=>
    rw[hml]at h
    simp only[zh]at h
    split at h
    ·rename_i e dp xs hb
     simp only[qd]at h
     obtain⟨x,hx,h⟩:=h
     split at h
     ·split at h
      ·rcases Qap h with h|h
       ·simp only[jc]at h;rw[←h];exact .inl rfl
       ·split at h
        ·simp only[Na,jc]at h
         obtain⟨_,rfl⟩:=h
         exact .inr ⟨id,_,_,rfl,by rw[hb];rfl⟩
        ·simp at h
      ·simp at h
     ·simp at h
    ·simp at h
  ·simp at h
 |store t x v=>
  simp only[Hc,ho]at h
  split at h
  ·rename_i τ id path dv _ _ _
   split at h
   ·rename_i ρ d hb
    split at h
    ·split at h
     ·simp only[Na,jc]at h
      obtain⟨_,rfl⟩:=h
      exact .inr ⟨id,_,_,rfl,by rw[hb];rfl⟩
     ·simp at h
    ·simp at h
   ·simp at h
  ·rename_i τ id i path dv _ _ _
   split at h
   ·rename_i e dp xs hb
    split at h
    ·split at h
     ·cases hc:(dp||e.flat)with
      |true=>
       rw[hc]at h
       simp only[zg]at h
       split at h
       ·simp only[Na,qd]at h
        obtain⟨_,x,hx,h⟩:=h
        split at h
        ·simp only[jc]at h;rw[←h]
         exact .inr ⟨id,_,_,rfl,by rw[hb];simp[Ka.kind]⟩
        ·simp at h
       ·simp at h
      |false=>
       rw[hc]at h
       simp only[zh]at h
       split at h
       ·simp only[qd]at h
        obtain⟨x,hx,h⟩:=h
        split at h
        ·simp only[jc]at h;rw[←h]
         exact .inr ⟨id,_,_,rfl,by rw[hb];simp[Ka.kind]⟩
        ·simp at h
       ·simp at h
     ·simp at h
    ·simp at h
   ·rename_i e xs i0 x path0 τ0 d0 hb
    split at h
    ·split at h
     ·split at h
      ·simp only[Na]at h
       obtain⟨_,_,h⟩:=h
       split at h
       ·simp only[jc]at h;rw[←h]
        exact .inr ⟨id,_,_,rfl,by rw[hb];simp[Ka.kind]⟩
       ·simp at h
      ·simp at h
     ·simp at h
    ·simp at h
   ·simp at h
  ·simp at h
 |_=>rw[ho]at hk;simp[HZ]at hk
theorem F7{G:Sf}{s:AS}{o:Oper}{ef:Ef}{H:List Nat}(h:UZ G s o ef)(hb:V4 H o.op ef.2=true):XV H s ef:=by
 intro id hid hm
 unfold V4 at hb
 split at hb
 ·simp at hid
 ·cases hk:HZ o.op with
  |false=>
   rw[hk]at hb
   simp only[zh,yl]at hb
   exact absurd hm (KG hb id hid)
  |true=>
   rw[hk]at hb
   simp only[zg,yl]at hb
   have hkp:=OaH hk (h _ fun d u=>some (d,u))
   rcases hkp with h0|⟨id0,b,tl,h0,h1⟩
   ·rw[h0]at hm;simp at hm
   ·rw[h0]at hm hb⊢
    rcases jp.1 hm with e|hm
    ·subst e
     simp only[Id,if_true,Option.join_some,qa]
     exact h1.symm
    ·exact absurd hm (KG hb id hid)
theorem K5{H:List Nat}{x:Nat}:∀{l:List Nat},x∈l→x∈MX H l∨x∈H
 |y::l,h=>by
  simp only[MX]
  rcases jp.1 h with e|h
  ·subst e
   cases hm:VF H x with
   |true=>exact .inr (OU.1 hm)
   |false=>exact .inl (by simp)
  ·refine(K5 h).imp (fun h=>?_) id
   cases VF H y with
   |true=>exact h
   |false=>exact jr _ h
theorem S9{s:AS}{c:Bool}:∀{l:List Operand} {x:Operand} {d:D} {id:Nat},x∈l→s.ev x=some d→(d.ment id=true∨(c=true∧id∈YO s d))→id∈RQ s c l
 |[],_,_,_,h,_,_=>by simp at h
 |y::l,x,d,id,h,hd,hm=>by
  rcases jp.1 h with e|h
  ·subst e
   simp only[RQ,hd]
   refine qu _ (jl.2 ?_)
   refine hm.imp KP.1 ?_
   rintro⟨rfl,h⟩
   exact h
  ·have ih:=S9 h hd hm
   simp only[RQ]
   split
   ·exact qv _ ih
   ·exact ih
section
variable{P:Program} {n0:Nat} {A:Fx} {O0:Nat→Prop} {w0:World} {G:Sf} {ops:Array Oper} {s0:AS} {E:Nat→Ef} {F:Nat→FP} {anc:Nat→List Nat} {H:List Nat} {Q:Exit→Act→World→Prop}
variable{Out:Type} {k:AS→Option Out} {out:Out}
theorem PM.congr{E':Nat→Ef}{F':Nat→FP}{anc':Nat→List Nat}{m:Nat}{o:Oper}(h:PM G H ops s0 E F anc m o)(hE:∀j,j≤m→E j=E' j∧F j=F' j∧anc j=anc' j):PM G H ops s0 E' F' anc' m o:=by
 have hst:We ops E (fun _=>true) s0 m=We ops E' (fun _=>true) s0 m:=ME m fun j hj=>⟨(hE j (by omega)).1,rfl⟩
 obtain⟨e1,e2,e3⟩:=hE m (jo _)
 refine⟨by rw[←hst,←e1];exact h.step,by rw[←hst,←e1,←e2];exact h.fp,h.dst,h.back,?_,?_,by rw[←hst,←e1];exact h.hard⟩
 ·intro x hx
  rw[←e3]at hx
  obtain⟨e,he,hb,hxe⟩:=h.up x hx
  refine⟨e,he,hb,hxe.imp id fun hxe=>?_⟩
  rw[←(hE e.on (Nat.le_of_lt (h.back e he hb))).2.2]
  exact hxe
 ·intro j hj
  rw[←e3,←e2,←(hE j (by omega)).2.1]
  exact h.ind j hj
theorem I4:∀{r l:List Nat} {x:Nat},x∈H4 r l→x∈r∨x∈l
 |[],_,_,h=>.inr h
 |y::r,l,x,h=>by
  simp only[H4]at h
  rcases I4 h with h|h
  ·exact .inl (jr _ h)
  ·cases hm:VF l y with
   |true=>rw[hm]at h;exact .inr h
   |false=>
    rw[hm]at h
    rcases jp.1 h with h|h
    ·exact .inl (by rw[h];simp)
    ·exact .inr h
theorem AW{prev:List (Nat×(List Nat×FP))}:∀{es:List Edge} {l:List Nat} {x:Nat},x∈CZ prev es l→x∈l∨∃e,e∈es∧Region.binds .any e=true∧(x=e.on∨∃p,Xb prev e.on=some p∧x∈p.1)
 |[],l,x,h=>.inl h
 |e::es,l,x,h=>by
  simp only[CZ]at h
  cases hb:Region.binds .any e with
  |false=>
   rw[hb]at h
   rcases AW h with h|⟨e',he',hb',hx⟩
   ·exact .inl h
   ·exact .inr ⟨e',jr _ he',hb',hx⟩
  |true=>
   rw[hb]at h
   rcases AW h with h|⟨e',he',hb',hx⟩
   ·rcases I4 h with h|h
    ·refine .inr ⟨e,by simp,hb,?_⟩
     rcases jp.1 h with h|h
     ·exact .inl h
     ·split at h
      ·rename_i a f hp;exact .inr ⟨_,hp,h⟩
      ·simp at h
    ·exact .inl h
   ·exact .inr ⟨e',jr _ he',hb',hx⟩
theorem Ram:∀(l:List Oper) (i:Nat) (prev:List (Nat×(List Nat×FP))) (s:AS) (E:Nat→Ef) (F:Nat→FP) (anc:Nat→List Nat),ops.toList.drop i=l→JI G H ops l i prev s k=some out→
 Nl (We ops E (fun _=>true) s0 i) s→(∀j,j<i→Xb prev j=some (anc j,F j))→(∀m o,m<i→ops[m]?=some o→PM G H ops s0 E F anc m o)→
 ∃E F anc,(∀m o,ops[m]?=some o→PM G H ops s0 E F anc m o)∧∃sf,k sf=some out∧Eqv (We ops E (fun _=>true) s0 ops.size) sf
 |[],i,prev,s,E,F,anc,hl,he,hs,hprev,hPM=>by
  have hi:ops.size≤i:=by
   have:=congrArg ja hl
   simp at this
   omega
  have hst:We ops E (fun _=>true) s0 i=We ops E (fun _=>true) s0 ops.size:=by
   clear hs he hl hprev hPM
   induction i with
   |zero=>
    have:ops.size=0:=by omega
    rw[this]
   |succ i ih=>
    by_cases h:ops.size=i+1
    ·rw[h]
    ·rw[←ih (by omega)]
     have:ops[i]?=none:=Array.getElem?_eq_none (by omega)
     simp only[We,this]
  refine⟨E,F,anc,fun m o ho=>hPM m o ?_ ho,s,he,by rw[←hst];exact hs.toEqv⟩
  have:=(Array.getElem?_eq_some_iff.1 ho).1
  omega
 |o::l,i,prev,s,E,F,anc,hl,he,hs,hprev,hPM=>by
  have hi:i<ops.size:=by
   have:=congrArg ja hl
   simp at this
   omega
  have hoi:ops[i]?=some o:=by
   have h1:=congrArg (·[0]?) hl
   simpa using h1
  have hl':ops.toList.drop (i+1)=l:=by
   have h1:=congrArg (List.drop 1) hl
   simpa[qq,Nat.add_comm]using h1
  have next:∀(an:List Nat) (f:FP) (e:Ef) (sx:AS),an=CZ prev o.after.toList []→(∀e,e∈o.after.toList→Region.binds .any e=true→e.on<i)→RM an f prev=true→Nl s sx→
   TT G ops (We ops E (fun _=>true) s0 i) o e→Fax H ops (We ops E (fun _=>true) s0 i) o e f→XV H (We ops E (fun _=>true) s0 i) e→Xi sx o.dst e.1 e.2 (fun s'=>JI G H ops l (i+1) ((i,(an,f))::prev) s' k)=some out→
   ∃E F anc,(∀m o,ops[m]?=some o→PM G H ops s0 E F anc m o)∧∃sf,k sf=some out∧Eqv (We ops E (fun _=>true) s0 ops.size) sf:=by
   intro an f e sx han hback hok hsx hstep hfp hhard hfin
   have hdst:∀t,o.dst=some t→t<sx.n:=by
    intro t ht
    unfold Xi at hfin
    rw[ht]at hfin
    simp only at hfin
    cases hb:yb t sx.n with
    |true=>rwa [ye]at hb
    |false=>rw[hb]at hfin;simp at hfin
   rw[S1 hdst]at hfin
   have hn:sx.n=s0.n:=by rw[hsx.n,hs.n,E6]
   have hEi:∀j,j<i→E j=(fun j=>if j=i then e else E j) j∧F j=(fun j=>if j=i then f else F j) j∧anc j=(fun j=>if j=i then an else anc j) j:=by
    intro j hj
    have:j≠i:=by omega
    simp[this]
   have hst:We ops E (fun _=>true) s0 i=We ops (fun j=>if j=i then e else E j) (fun _=>true) s0 i:=ME i fun j hj=>⟨(hEi j hj).1,rfl⟩
   refine Ram l (i+1) _ _ (fun j=>if j=i then e else E j) (fun j=>if j=i then f else F j) (fun j=>if j=i then an else anc j) hl' hfin ?_ ?_ ?_
   ·have:We ops (fun j=>if j=i then e else E j) (fun _=>true) s0 (i+1)=putE (We ops E (fun _=>true) s0 i) o.dst e:=by
     rw[hst]
     simp only[We,hoi,zg,if_true]
    rw[this]
    exact(hs.trans hsx).putE _ _
   ·intro j hj
    rw[Id]
    by_cases hji:i=j
    ·subst hji;simp
    ·have hne:j≠i:=fun e=>hji e.symm
     rw[if_neg hji,hprev j (by omega)]
     simp[hne]
   ·intro m om hm hom
    by_cases hmi:m=i
    ·subst hmi
     rw[hoi]at hom
     simp only[jc]at hom
     subst hom
     refine⟨?_,?_,fun t ht=>by rw[←hn];exact hdst t ht,hback,?_,?_,by rw[←hst];simpa using hhard⟩
     ·rw[←hst];simpa using hstep
     ·rw[←hst];simpa using hfp
     ·intro x hx
      simp only[if_true]at hx
      rw[han]at hx
      rcases AW hx with hx|⟨e',he',hb',hx⟩
      ·simp at hx
      ·have hlt:=hback e' he' hb'
       refine⟨e',he',hb',hx.imp id ?_⟩
       rintro⟨p,hp,hxp⟩
       rw[hprev _ hlt]at hp
       simp only[jc]at hp
       subst hp
       have:e'.on≠m:=by omega
       simpa[this]using hxp
     ·intro j hj
      have hok':=hok
      unfold RM at hok'
      rw[yx]at hok'
      have hmem:=ED (hprev j hj)
      have h1:=hok' _ hmem
      simp only[qx]at h1
      have hjm:j≠m:=by omega
      simp only[if_true,hjm,if_false]
      exact h1.imp OU.1 id
    ·exact(hPM m om (by omega) hom).congr fun j hj=>hEi j (by omega)
  have hfpOk:∀(g:List Nat) (e:Ef),(∀j want t,o.guard=some (j,want)→(ops[j]?).bind (·.dst)=some t→t∈g)→Fax H ops (We ops E (fun _=>true) s0 i) o e (E7 H s o g e.1 e.2):=by
   intro g e hg
   refine⟨rfl,rfl,rfl,fun t ht=>qv _ ht,fun j want t hgu ht=>qu _ (hg j want t hgu ht),fun hmv x hx d hd id hm=>?_⟩
   have hmem:id∈RQ s (MK o.op) (Yd o.op):=by
    refine S9 hx ?_ (hm.imp (fun h=>h) fun h=>⟨h.1,(Fad (fun j=>hs.hp j) d)▸h.2⟩)
    rw[←hd]
    exact B7 hx fun t _=>hs.tm t
   show id∈(bif DI o.op then[]else bif Li o.op then _ else _)∨_
   rw[hmv]
   cases hsp:Li o.op with
   |false=>exact .inl hmem
   |true=>exact(K5 hmem).imp (fun h=>h) fun h=>⟨rfl,h⟩
  simp only[JI]at he
  cases hbk:Kap i o.after.toList with
  |false=>rw[hbk]at he;simp at he
  |true=>
   rw[hbk]at he
   simp only[zg]at he
   have hback:∀e,e∈o.after.toList→Region.binds .any e=true→e.on<i:=by
    intro e hem hbe
    unfold Kap at hbk
    rw[yx]at hbk
    have:=hbk e hem
    rw[hbe]at this
    simp only[jg,yu]at this
    rwa [ye]at this
   have hEff:∀(sx:AS) (K:D→List (Nat×Option Ka)→Option Out),Nl s sx→Hc G sx o K=some out→∃e:Ef,K e.1 e.2=some out∧UZ G (We ops E (fun _=>true) s0 i) o e:=by
    intro sx K hsx hK
    obtain⟨d,u,h1,h2⟩:=Jax hK
    refine⟨(d,u),h1,?_⟩
    have:UZ G sx o (d,u):=h2
    exact this.congr ((hs.trans hsx).symm.agr o)
   cases hg:o.guard with
   |none=>
    rw[hg]at he
    simp only at he
    obtain⟨e,h1,h2⟩:=hEff s _ (Nl.refl s) he
    simp only[Na,jd]at h1
    exact next _ _ e s rfl hback h1.1.1 (Nl.refl s) (by unfold TT;rw[hg];exact h2) (hfpOk [] e (by intro j want t hgu;rw[hg]at hgu;simp at hgu)) (F7 h2 h1.1.2) h1.2
   |some g=>
    obtain⟨j,want⟩:=g
    rw[hg]at he
    simp only at he
    split at he
    ·rename_i t ht
     have hgt:∀j' want' t',o.guard=some (j',want')→(ops[j']?).bind (·.dst)=some t'→t'∈[t]:=by
      intro j' want' t' hgu ht'
      rw[hg]at hgu
      simp only[jc,jh]at hgu
      obtain⟨rfl,rfl⟩:=hgu
      rw[ht]at ht'
      simp only[jc]at ht'
      rw[ht'];simp
     split at he
     ·rename_i β hd
      have hdst:Xb (We ops E (fun _=>true) s0 i).tm t=some (.t .b β):=by rw[←hs.tm];exact hd
      have goal1:∀e:Ef,(if β=want then UZ G (We ops E (fun _=>true) s0 i) o e else e=(.und,[]))→TT G ops (We ops E (fun _=>true) s0 i) o e:=by
       intro e h
       unfold TT
       rw[hg]
       exact⟨t,ht,.inl ⟨β,hdst,h⟩⟩
      cases hβ:(show Bool from β)with
      |true=>
       have hβ':β=true:=hβ
       subst hβ'
       simp only[zg]at he
       cases want with
       |true=>
        simp only[zg]at he
        obtain⟨e,h1,h2⟩:=hEff _ _ (Nl.refine hd) he
        simp only[Na,jd]at h1
        exact next _ _ e _ rfl hback h1.1.1 (Nl.refine hd) (goal1 e (by rw[if_pos rfl];exact h2)) (hfpOk [t] e hgt) (F7 h2 h1.1.2) h1.2
       |false=>
        simp only[zh,Na]at he
        exact next _ _ (.und,[]) _ rfl hback he.1 (Nl.refine hd) (goal1 _ (by rw[if_neg (by simp)])) (hfpOk [t] (.und,[]) hgt) (by intro id _ hm;simp at hm) he.2
      |false=>
       have hβ':β=false:=hβ
       subst hβ'
       simp only[zh]at he
       cases want with
       |true=>
        simp only[zg,Na]at he
        exact next _ _ (.und,[]) _ rfl hback he.1 (Nl.refine hd) (goal1 _ (by rw[if_neg (by simp)])) (hfpOk [t] (.und,[]) hgt) (by intro id _ hm;simp at hm) he.2
       |false=>
        simp only[zh]at he
        obtain⟨e,h1,h2⟩:=hEff _ _ (Nl.refine hd) he
        simp only[Na,jd]at h1
        exact next _ _ e _ rfl hback h1.1.1 (Nl.refine hd) (goal1 e (by rw[if_pos rfl];exact h2)) (hfpOk [t] e hgt) (F7 h2 h1.1.2) h1.2
     ·rename_i hd
      simp only[Na]at he
      refine next _ _ (.und,[]) s rfl hback he.1 (Nl.refl s) ?_ (hfpOk [t] (.und,[]) hgt) (by intro id _ hm;simp at hm) he.2
      unfold TT
      rw[hg]
      exact⟨t,ht,.inr ⟨by rw[←hs.tm];exact hd,rfl⟩⟩
     ·simp at he
    ·simp at he
theorem Ral{n j:Nat}:JA (Array.replicate n false) j=false:=by
 unfold JA
 rw[Array.getD_eq_getD_getElem?,Array.getElem?_replicate]
 split<;>rfl
theorem Nav(hG:Kn P A.I G)(hfz:WR G A O0)(hm:P.follows .mixedOrders=true){id:Nat}{H:List Nat}{draw:Bool}{s:AS}{σ:Nat→Value}{φ:Nat→List Nat}{a:Act}{w:World}(h:Db n0 A O0 w0 s σ φ a w)
 (he:(bif draw then JI G H ops ops.toList 0 [] s k else ZJ G id ops ops.toList 0 s k)=some out) (hQ:∀a w,Nf n0 A O0 w0 k out a w→Q .normal a w):(Code.region id ops draw).wp P Q a w:=by
 cases draw with
 |false=>
  simp only[zh]at he
  refine wp_region ?_
  have:=Yah (P:=P) (Q:=Q) hG hfz (fun s σ φ a w h1 h2=>hQ a w ⟨s,σ,φ,h1,h2⟩) ops.toList 0 s σ φ a w (by simp) he h
  simpa using this
 |true=>
  simp only[zg]at he
  obtain⟨E,F,anc,hPM,sf,h1,h2⟩:=Ram (s0:=s) ops.toList 0 [] s (fun _=>(.und,[])) (fun _=>⟨[],[],none,[],[]⟩) (fun _=>[]) (by simp) he (Nl.refl s) (by intro j hj;omega) (by intro m o hm;omega)
  refine wp_region_any hm ?_
  refine Yay hG hfz hPM (fun σ φ a w hc=>hQ a w ⟨sf,σ,φ,h1,hc.eqv h2⟩) ops.size (Array.replicate ops.size false) σ φ a _ (by simp) ?_ ?_ ?_
  ·have:=List.countP_le_length (p:=fun j=>!(Array.replicate ops.size false).getD j true) (l:=y3 ops.size)
   simpa using this
  ·intro j o ho hL
   rw[Ral]at hL
   simp at hL
  ·have:We ops E (JA (Array.replicate ops.size false)) s ops.size=s:=by
    rw[H3 (i:=0) ops.size (Nat.zero_le _) fun j _ _=>Ral]
    rfl
   rw[this]
   exact h.drew
end
theorem Lat{s:AS}:∀{td:TD} {d:D} {x:T td.ty} {m:Km},Pe s td d=some (x,m)→(Rz td x).isAgg=d.isAgg:=by
 intro td
 cases td with
 |data τ=>
  intro d x m h
  simp only[Pe]at h
  split at h
  ·rename_i y hy
   simp only[jc,jh]at h
   obtain⟨rfl,_⟩:=h
   have hs:=(Qi (w:=default) (σ:=fun _=>undef) (O:=fun _=>False) (hp:=fun _=>none) hy).1
   rw[hs.isAgg]
   cases τ<;>rfl
  ·simp at h
 |own id e dp=>
  intro d x m h
  cases d<;>simp[Pe]at h<;>rfl
 |ptr id p=>
  intro d x m h
  cases d<;>simp[Pe]at h<;>rfl
 |hol id e p τ td=>
  intro d x m h
  cases d<;>simp[Pe]at h<;>rfl
 |arr id e=>
  intro d x m h
  cases d<;>first|rfl|(simp[Pe]at h;done)
 |mov id e=>
  intro d x m h
  cases d<;>simp[Pe]at h<;>rfl
 |mpo id k v=>
  intro d x m h
  cases d<;>simp[Pe]at h<;>rfl
 |mqo id kk e=>
  intro d x m h
  cases d<;>simp[Pe]at h<;>rfl
 |pr a b=>
  intro d x m h
  simp only[Pe]at h
  cases d with
  |t τ v=>cases τ<;>simp[D.fst]at h<;>rfl
  |pr u v=>rfl
  |_=>simp[D.fst]at h
 |un=>
  intro d x m h
  simp only[Pe]at h
  split at h
  ·rename_i y hy
   have hs:=(Qi (w:=default) (σ:=fun _=>undef) (O:=fun _=>False) (hp:=fun _=>none) hy).1
   rw[hs.isAgg]
   rfl
  ·simp at h
def NV(m m':Km):Prop:=∀p,p∈m→p∈m'
section
variable{w:World} {s:AS} {σ σ':Nat→Value} {O O':Nat→Prop} {hp':Nat→Option Ka} {m:Km}
structure TOk(s:AS)(σ σ':Nat→Value)(hp':Nat→Option Ka)(m:Km):Prop where
 isS:∀j i,(j,some i)∈m→σ' j=σ i
 isN:∀j,(j,none)∈m→σ' j=.slice none 0 0
 isB:∀j i ρ d,(j,some i)∈m→hp' j=some (.box ρ d)→∃d',s.heap i=some (.box ρ d')
 isR:∀j i Ga r,(j,some i)∈m→hp' j=some Ga→Ga.rowN=some r→∃blk',s.heap i=some blk'∧blk'.rowN=some r
theorem FZ(hT:TOk s σ σ' hp' m)(hO:∀b,b<w.heap.size→¬O b→¬O' b):∀{td:TD} {d:D} {x:T td.ty} {m0:Km} {cs:List Value},Pe s td d=some (x,m0)→NV m0 m→Kb w O s.heap σ d cs→
 Kb w O' hp' σ' (Rz td x) cs:=by
 intro td
 induction td with
 |data τ=>
  intro d x m0 cs h hm hr
  simp only[Pe]at h
  split at h
  ·rename_i y hy
   simp only[jc,jh]at h
   obtain⟨rfl,_⟩:=h
   exact Wa.stable (fun _ _ _=>rfl) hO ((Qi hy).2 _ hr)
  ·simp at h
 |own id' e dp=>
  intro d x m0 cs h hm hr
  cases d with
  |own id=>
   simp only[Pe]at h
   split at h
   ·rename_i e' dp' xs hb
    split at h
    ·rename_i q hq
     subst q
     simp only[Na]at h
     obtain⟨_,h⟩:=h
     simp only[jc,jh]at h
     obtain⟨rfl,rfl⟩:=h
     obtain⟨v,hcs,h1,hv⟩:=hr
     refine⟨v,hcs,h1,fun _ _ _ _=>?_⟩
     rw[hT.isS id' id (hm _ (by simp))]
     exact hv _ _ hb rfl
    ·simp at h
   ·simp at h
  |nil=>
   simp only[Pe,jc,jh]at h
   obtain⟨rfl,rfl⟩:=h
   simp only[Kb]at hr
   exact⟨_,hr,rfl,fun _ _ _ _=>(hT.isN id' (hm _ (by simp))).symm⟩
  |_=>simp[Pe]at h
 |mpo id' k v=>
  intro d x m0 cs h hm hr
  cases d with
  |mpo id=>
   simp only[Pe]at h
   split at h
   ·rename_i k' v' xs hb
    split at h
    ·rename_i q1 q2 hq1 hq2
     subst q1
     subst q2
     simp only[jc,jh]at h
     obtain⟨rfl,rfl⟩:=h
     obtain⟨u,hcs,h1,hv⟩:=hr
     refine⟨u,hcs,h1,fun _ _ _=>?_⟩
     rw[hT.isS id' id (hm _ (by simp))]
     exact hv _ hb rfl
    ·simp at h
   ·simp at h
  |_=>simp[Pe]at h
 |mqo id' kk e=>
  intro d x m0 cs h hm hr
  cases d with
  |mpo id=>
   simp only[Pe]at h
   split at h
   ·rename_i kk' e' xs hb
    split at h
    ·rename_i q hq
     simp only[jc,jh]at h
     obtain⟨rfl,rfl⟩:=h
     obtain⟨u,hcs,h1,hv⟩:=hr
     refine⟨u,hcs,h1,fun _ _ _=>?_⟩
     rw[hT.isS id' id (hm _ (by simp))]
     exact hv _ hb rfl
    ·simp at h
   ·simp at h
  |_=>simp[Pe]at h
 |hol id' e p τ td _=>
  intro d x m0 cs h hm hr
  cases d with
  |own id=>
   simp only[Pe]at h
   split at h
   ·rename_i e' xs i x1 p' τ' d' hb
    split at h
    ·simp only[Na]at h
     obtain⟨_,h⟩:=h
     split at h
     ·rename_i y m1 h1
      simp only[Na]at h
      obtain⟨_,h⟩:=h
      simp only[jc,jh]at h
      obtain⟨rfl,rfl⟩:=h
      obtain⟨v,hcs,h1,hv⟩:=hr
      refine⟨v,hcs,h1,fun _ _ _ _=>?_⟩
      rw[hT.isS id' id (hm _ (by simp))]
      exact hv _ _ hb rfl
     ·simp at h
    ·simp at h
   ·simp at h
  |_=>simp[Pe]at h
 |arr id' e=>
  intro d x m0 cs h hm hr
  cases d with
  |eptr id i q=>
   cases i with
   |succ i=>simp[Pe]at h
   |zero=>
    cases q with
    |cons _ _=>simp[Pe]at h
    |nil=>
     simp only[Pe]at h
     split at h
     ·rename_i e' xs hb
      split at h
      ·rename_i q hq
       subst q
       simp only[jc,jh]at h
       obtain⟨rfl,rfl⟩:=h
       obtain⟨v,hcs,h1,hv⟩:=hr
       refine⟨v,hcs,h1,fun blk' e2 n2 hb' hr'=>?_⟩
       obtain⟨blk0,hb0,hr0⟩:=hT.isR id' id blk' _ (hm _ (by simp)) hb' hr'
       rw[hT.isS id' id (hm _ (by simp))]
       exact hv _ _ _ hb0 hr0
      ·simp at h
     ·simp at h
  |_=>simp[Pe]at h
 |mov id' e=>
  intro d x m0 cs h hm hr
  cases d with
  |own id=>
   simp only[Pe]at h
   split at h
   ·rename_i e' xs hb
    split at h
    ·rename_i q hq
     subst q
     simp only[jc,jh]at h
     obtain⟨rfl,rfl⟩:=h
     obtain⟨v,hcs,h1,hv⟩:=hr
     refine⟨v,hcs,h1,fun _ _ _ _=>?_⟩
     rw[hT.isS id' id (hm _ (by simp))]
     exact hv _ _ hb rfl
    ·simp at h
   ·rename_i e' xs k hb
    split at h
    ·rename_i q hq
     subst q
     simp only[jc,jh]at h
     obtain⟨rfl,rfl⟩:=h
     obtain⟨v,hcs,h1,hv⟩:=hr
     refine⟨v,hcs,h1,fun _ _ _ _=>?_⟩
     rw[hT.isS id' id (hm _ (by simp))]
     exact hv _ _ hb rfl
    ·simp at h
   ·simp at h
  |_=>simp[Pe]at h
 |ptr id' p=>
  intro d x m0 cs h hm hr
  cases d with
  |ptr id q=>
   simp only[Pe,Na]at h
   obtain⟨hpq,h⟩:=h
   simp only[jc,jh]at h
   obtain⟨_,rfl⟩:=h
   have hpq':p=q:=by simpa using hpq
   subst hpq'
   obtain⟨v,hcs,h1,hv⟩:=hr
   refine⟨v,hcs,h1,fun ρ d hb=>?_⟩
   obtain⟨d',hd'⟩:=hT.isB id' id ρ d (hm _ (by simp)) hb
   rw[hT.isS id' id (hm _ (by simp))]
   exact hv ρ d' hd'
  |_=>simp[Pe]at h
 |pr a b iha ihb=>
  intro d x m0 cs h hm hr
  simp only[Pe]at h
  split at h
  ·rename_i d1 d2 h1 h2
   split at h
   ·rename_i u l v l' h3 h4
    simp only[jc,jh]at h
    obtain⟨rfl,rfl⟩:=h
    have key:∃c1 c2,cs=c1++c2∧Kb w O s.heap σ d1 c1∧Kb w O s.heap σ d2 c2:=by
     cases d with
     |t τ v=>
      cases τ with
      |p t1 t2=>
       simp only[D.fst,D.snd,jc]at h1 h2
       subst h1;subst h2
       exact hr
      |_=>simp[D.fst]at h1
     |pr d1' d2'=>
      simp only[D.fst,D.snd,jc]at h1 h2
      subst h1;subst h2
      exact hr
     |_=>simp[D.fst]at h1
    obtain⟨c1,c2,hc,r1,r2⟩:=key
    exact⟨c1,c2,hc,iha h3 (fun p hp=>hm p (qu _ hp)) r1,ihb h4 (fun p hp=>hm p (qv _ hp)) r2⟩
   ·simp at h
  ·simp at h
 |un=>
  intro d x m0 cs h hm hr
  simp only[Pe]at h
  split at h
  ·rename_i y hy
   exact(Qi hy).2 _ hr
  ·simp at h
theorem Sax(hT:TOk s σ σ' hp' m)(hO:∀b,b<w.heap.size→¬O b→¬O' b){td:TD}{d:D}{x:T td.ty}{m0:Km}{v:Value}(h:Pe s td d=some (x,m0))(hm:NV m0 m)(hr:Td w O s.heap σ d v):
 Td w O' hp' σ' (Rz td x) v:=by
 have hne:Kf w O s.heap σ d v:=by
  cases d with
  |und=>cases td<;>simp[Pe,Hm,D.fst]at h
  |anyv=>cases td<;>simp[Pe,Hm,D.fst]at h
  |tup ds=>cases td<;>simp[Pe,Hm,D.fst]at h
  |_=>exact hr
 refine ZD ?_
 unfold Kf at hne⊢
 rw[Lat h]
 split
 ·rename_i ha
  rw[if_pos ha]at hne
  obtain⟨cs,h1,h2⟩:=hne
  exact⟨cs,h1,FZ hT hO h hm h2⟩
 ·rename_i ha
  rw[if_neg ha]at hne
  exact FZ hT hO h hm hne
def Nab(s:AS)(m:Km)(j:Nat)(Ga:Ka):Prop:=
 ((j,none)∈m∧∃e dp,Ga=.row e dp ([]:List (T e)))∨
 ∃i,(j,some i)∈m∧((∃e dp dp' xs,Ga=.row e dp xs∧s.heap i=some (.row e dp' xs)∧(dp'=dp∨e.flat=true))∨
  (∃ρ d td x m0,Ga=.box ρ (Rz td x)∧s.heap i=some (.box ρ d)∧Pe s td d=some (x,m0)∧NV m0 m∧Ob ρ (Rz td x))∨
  (∃e xs k x p τ d td y m0,Ga=.hol e xs k x p τ (Rz td y)∧s.heap i=some (.hol e xs k x p τ d)∧Pe s td d=some (y,m0)∧NV m0 m∧Ob τ (Rz td y))∨
  (∃e xs k,Ga=.mov e xs k∧(s.heap i=some (.mov e xs k)∨(s.heap i=some (.row e true xs)∧k=0)))∨
  (∃k v xs,Ga=.mp k v xs∧s.heap i=some (.mp k v xs))∨
  ∃kk e xs,Ga=.mq kk e xs∧s.heap i=some (.mq kk e xs))
theorem N0:∀{td:TD} {d:D} {x:T td.ty} {m0:Km},Pe s td d=some (x,m0)→NV m0 m→∀p,p∈LC td x→∃Ga,p.2=some Ga∧Nab s m p.1 Ga:=by
 intro td
 induction td with
 |own id' e dp=>
  intro d x m0 h hm p hp
  simp only[LC,qb]at hp
  subst hp
  cases d with
  |own id=>
   simp only[Pe]at h
   split at h
   ·rename_i e' dp' xs hb
    split at h
    ·rename_i q hq
     subst q
     simp only[Na]at h
     obtain⟨hc,h⟩:=h
     simp only[jc,jh]at h
     obtain⟨rfl,rfl⟩:=h
     refine⟨_,rfl,.inr ⟨id,hm _ (by simp),.inl ⟨_,dp,dp',_,rfl,hb,?_⟩⟩⟩
     simpa using hc
    ·simp at h
   ·simp at h
  |nil=>
   simp only[Pe,jc,jh]at h
   obtain⟨rfl,rfl⟩:=h
   exact⟨_,rfl,.inl ⟨hm _ (by simp),e,dp,rfl⟩⟩
  |_=>simp[Pe]at h
 |hol id' e pth τ td ih=>
  intro d x m0 h hm p hp
  cases d with
  |own id=>
   simp only[Pe]at h
   split at h
   ·rename_i e' xs i x1 p' τ' d' hb
    split at h
    ·rename_i q1 q2 hq1 hq2
     subst q1
     obtain rfl:=Se hq2
     simp only[Na]at h
     obtain⟨hpp,h⟩:=h
     have hpp:pth=p':=by simpa using hpp
     subst hpp
     split at h
     ·rename_i y m1 h1
      simp only[Na]at h
      obtain⟨hsh,h⟩:=h
      simp only[jc,jh]at h
      obtain⟨rfl,rfl⟩:=h
      simp only[LC]at hp
      rcases jp.1 hp with rfl|hp
      ·exact⟨_,rfl,.inr ⟨id,hm _ (by simp),.inr (.inr (.inl ⟨_,_,i,_,_,_,d',td,y,m1,by simp only[jn],hb,h1,fun p hp=>hm p (jr _ hp),Uq hsh⟩))⟩⟩
      ·exact ih h1 (fun p hp=>hm p (jr _ hp)) p hp
     ·simp at h
    ·simp at h
   ·simp at h
  |_=>simp[Pe]at h
 |pr a b iha ihb=>
  intro d x m0 h hm p hp
  simp only[Pe]at h
  split at h
  ·split at h
   ·rename_i u l v l' h3 h4
    simp only[jc,jh]at h
    obtain⟨rfl,rfl⟩:=h
    simp only[LC]at hp
    rcases jl.1 hp with hp|hp
    ·exact iha h3 (fun p hp=>hm p (qu _ hp)) p hp
    ·exact ihb h4 (fun p hp=>hm p (qv _ hp)) p hp
   ·simp at h
  ·simp at h
 |arr id' e=>
  intro d x m0 h hm p hp
  simp only[LC,qb]at hp
  subst hp
  cases d with
  |eptr id i q=>
   cases i with
   |succ i=>simp[Pe]at h
   |zero=>
    cases q with
    |cons _ _=>simp[Pe]at h
    |nil=>
     simp only[Pe]at h
     split at h
     ·rename_i e' xs hb
      split at h
      ·rename_i q hq
       subst q
       simp only[jc,jh]at h
       obtain⟨rfl,rfl⟩:=h
       exact⟨_,rfl,.inr ⟨id,hm _ (by simp),.inl ⟨_,true,true,_,rfl,hb,.inl rfl⟩⟩⟩
      ·simp at h
     ·simp at h
  |_=>simp[Pe]at h
 |mpo id' k v=>
  intro d x m0 h hm p hp
  simp only[LC,qb]at hp
  subst hp
  cases d with
  |mpo id=>
   simp only[Pe]at h
   split at h
   ·rename_i k' v' xs hb
    split at h
    ·rename_i q1 q2 hq1 hq2
     subst q1
     subst q2
     simp only[jc,jh]at h
     obtain⟨rfl,rfl⟩:=h
     exact⟨_,rfl,.inr ⟨id,hm _ (by simp),.inr (.inr (.inr (.inr (.inl ⟨_,_,_,rfl,hb⟩))))⟩⟩
    ·simp at h
   ·simp at h
  |_=>simp[Pe]at h
 |mqo id' kk e=>
  intro d x m0 h hm p hp
  simp only[LC,qb]at hp
  subst hp
  cases d with
  |mpo id=>
   simp only[Pe]at h
   split at h
   ·rename_i kk' e' xs hb
    split at h
    ·rename_i q hq
     have q2:=q
     simp only[Ty.mp.injEq,Ty.i.injEq,Ty.sl.injEq]at q2
     obtain⟨rfl,rfl⟩:=q2
     simp only[jc,jh]at h
     obtain⟨rfl,rfl⟩:=h
     exact⟨_,rfl,.inr ⟨id,hm _ (by simp),.inr (.inr (.inr (.inr (.inr ⟨_,_,_,rfl,hb⟩))))⟩⟩
    ·simp at h
   ·simp at h
  |_=>simp[Pe]at h
 |mov id' e=>
  intro d x m0 h hm p hp
  simp only[LC,qb]at hp
  subst hp
  cases d with
  |own id=>
   simp only[Pe]at h
   split at h
   ·rename_i e' xs hb
    split at h
    ·rename_i q hq
     subst q
     simp only[jc,jh]at h
     obtain⟨rfl,rfl⟩:=h
     exact⟨_,rfl,.inr ⟨id,hm _ (by simp),.inr (.inr (.inr (.inl ⟨_,_,0,rfl,.inr ⟨hb,rfl⟩⟩)))⟩⟩
    ·simp at h
   ·rename_i e' xs k hb
    split at h
    ·rename_i q hq
     subst q
     simp only[jc,jh]at h
     obtain⟨rfl,rfl⟩:=h
     exact⟨_,rfl,.inr ⟨id,hm _ (by simp),.inr (.inr (.inr (.inl ⟨_,_,k,by simp only[jn],.inl hb⟩)))⟩⟩
    ·simp at h
   ·simp at h
  |_=>simp[Pe]at h
 |_=>intro d x m0 h hm p hp;simp[LC]at hp
theorem Nai:∀{l:List (Tmp×TD)} {x:T (CG.tyT l)} {m0:Km},Xap s l=some (x,m0)→NV m0 m→
 (∀t d',Xb (E5 l x) t=some d'→∃td d y m1,Xb s.tm t=some d∧Pe s td d=some (y,m1)∧NV m1 m∧d'=Rz td y)∧(∀p,p∈U5 l x→∃Ga,p.2=some Ga∧Nab s m p.1 Ga)
 |[],x,m0,h,hm=>⟨by simp[E5,Xb],by simp[U5]⟩
 |(t0,td)::r,x,m0,h,hm=>by
  simp only[Xap]at h
  split at h
  ·rename_i d hd
   split at h
   ·rename_i y m1 z m2 h1 h2
    simp only[jc,jh]at h
    obtain⟨rfl,rfl⟩:=h
    have hm1:NV m1 m:=fun p hp=>hm p (qu _ hp)
    obtain⟨i1,i2⟩:=Nai h2 (fun p hp=>hm p (qv _ hp))
    refine⟨fun t d' ht=>?_,fun p hp=>?_⟩
    ·simp only[E5]at ht
     rw[Id]at ht
     split at ht
     ·rename_i e
      subst e
      simp only[jc]at ht
      exact⟨td,d,y,m1,hd,h1,hm1,ht.symm⟩
     ·exact i1 t d' ht
    ·simp only[U5]at hp
     rcases jl.1 hp with hp|hp
     ·exact N0 h1 hm1 p hp
     ·exact i2 p hp
   ·simp at h
  ·simp at h
theorem Mai:∀{l:List (Nat×Ty×TD)} {x:T (CG.tyB l)} {m0 m':Km},Uad s l m0=some (x,m')→NV m' m→
 NV m0 m∧∀p,p∈D5 l x→∃Ga,p.2=some Ga∧Nab s m p.1 Ga
 |[],x,m0,m',h,hm=>by
  simp only[Uad,jc,jh]at h
  obtain⟨_,rfl⟩:=h
  exact⟨hm,by simp[D5]⟩
 |(id',ρ,td)::r,x,m0,m',h,hm=>by
  simp only[Uad]at h
  split at h
  ·rename_i id hid
   split at h
   ·rename_i ρ' d hb
    split at h
    ·rename_i q hq
     obtain rfl:=q.down
     split at h
     ·rename_i y m1 h1
      simp only[Na]at h
      obtain⟨hsh,h⟩:=h
      split at h
      ·rename_i z m2 h2
       simp only[jc,jh]at h
       obtain⟨rfl,rfl⟩:=h
       obtain⟨i1,i2⟩:=Mai h2 hm
       have hm0:NV m0 m:=fun p hp=>i1 p (qu _ hp)
       have hm1:NV m1 m:=fun p hp=>i1 p (qv _ hp)
       refine⟨hm0,fun p hp=>?_⟩
       simp only[D5]at hp
       rcases jp.1 hp with rfl|hp
       ·exact⟨_,rfl,.inr ⟨id,hm0 _ (ED hid),.inr (.inl ⟨_,d,td,y,m1,rfl,hb,h1,hm1,Uq hsh⟩)⟩⟩
       ·rcases jl.1 hp with hp|hp
        ·exact N0 h1 hm1 p hp
        ·exact i2 p hp
      ·simp at h
     ·simp at h
    ·simp at h
   ·simp at h
  ·simp at h
end
theorem YU:∀{m:Km},EO m=true→∀j i,(j,some i)∈m→(j<500000∧i<500000)∨j=i
 |[],_,_,_,h=>by simp at h
 |(j0,some i0)::r,hp,j,i,h=>by
  simp only[EO,jd,qx]at hp
  rcases jp.1 h with e|h
  ·simp only[jh,jc]at e
   obtain⟨rfl,rfl⟩:=e
   rcases hp.1 with h1|h1
   ·rw[ye,ye]at h1;exact .inl h1
   ·exact .inr (ju h1)
  ·exact YU hp.2 j i h
 |(j0,none)::r,hp,j,i,h=>by
  simp only[EO,jd]at hp
  rcases jp.1 h with e|h
  ·simp at e
  ·exact YU hp.2 j i h
theorem XU:∀{m:Km},EO m=true→∀j,(j,none)∈m→j<500000
 |[],_,_,h=>by simp at h
 |(j0,some i0)::r,hp,j,h=>by
  simp only[EO,jd]at hp
  rcases jp.1 h with e|h
  ·simp at e
  ·exact XU hp.2 j h
 |(j0,none)::r,hp,j,h=>by
  simp only[EO,jd]at hp
  rcases jp.1 h with e|h
  ·simp only[jh,and_true]at e
   subst e
   have:=hp.1
   rwa [ye]at this
  ·exact XU hp.2 j h
theorem Cam{m:Km}(h:(m.all fun x=>m.all fun y=>TM x y)=true){x y:Nat×Option Nat}(hx:x∈m)(hy:y∈m):TM x y=true:=
 yx.1 (yx.1 h x hx) y hy
theorem Zay{m:Km}(h:(m.all fun x=>m.all fun y=>TM x y)=true){j:Nat}{a c:Option Nat}(hx:(j,a)∈m)(hy:(j,c)∈m):a=c:=by
 have:=Cam h hx hy
 unfold TM at this
 cases a with
 |none=>cases c with
  |none=>rfl
  |some c=>simp at this
 |some a=>cases c with
  |none=>simp at this
  |some c=>simpa[Nat.beq_eq]using this
theorem Aaz{m:Km}(h:(m.all fun x=>m.all fun y=>TM x y)=true){j j' i:Nat}(hx:(j,some i)∈m)(hy:(j',some i)∈m):j=j':=by
 have:=Cam h hx hy
 unfold TM at this
 simpa using this
theorem C9{α:Type}{j:Nat}{a:α}:∀{m:List (Nat×α)},(j,a)∈m→∃c,Xb m j=some c∧(j,c)∈m
 |[],h=>by simp at h
 |(j0,a0)::r,h=>by
  rw[Id]
  by_cases hj:j0=j
  ·subst hj;exact⟨a0,by simp,by simp⟩
  ·rw[if_neg hj]
   rcases jp.1 h with e|h
   ·simp only[jh]at e
    exact absurd e.1.symm hj
   ·obtain⟨c,h1,h2⟩:=C9 h
    exact⟨c,h1,jr _ h2⟩
theorem FD{m:Km}(h:(m.all fun x=>m.all fun y=>TM x y)=true){j:Nat}{a:Option Nat}(hx:(j,a)∈m):Xb m j=some a:=by
 obtain⟨c,h1,h2⟩:=C9 hx
 rw[h1,Zay h hx h2]
section
variable{n0:Nat} {A:Fx} {O0:Nat→Prop} {w0 w:World} {s:AS} {σ:Nat→Value} {φ:Nat→List Nat} {a:Act}
theorem GZ(h:Db n0 A O0 w0 s σ φ a w){p:CG}{x:p.X}(he:ext p s=some x):∃σ' φ',Db n0 A O0 w0 (OP p x s.n) σ' φ' a w:=by
 unfold ext at he
 split at he
 ·rename_i x1 m1 h1
  split at he
  ·rename_i x2 m h2
   simp only[Na]at he
   obtain⟨hmo,he⟩:=he
   simp only[jc]at he
   subst he
   simp only[OaD,jd]at hmo
   obtain⟨hn1,hpo⟩:=hmo
   obtain⟨hm1,hB⟩:=Mai h2 (fun p hp=>hp)
   obtain⟨hT1,hT2⟩:=Nai h1 hm1
   let σ':Nat→Value:=fun j=>match Xb m j with
    |some (some i)=>σ i
    |some none=>.slice none 0 0
    |none=>σ j
   let φ':Nat→List Nat:=fun j=>match Xb m j with
    |some (some i)=>φ i
    |_=>[]
   have hσs:∀j i,(j,some i)∈m→σ' j=σ i∧φ' j=φ i:=fun j i hj=>by
    have:=FD hn1 hj
    simp only[σ',φ',this,and_self]
   have hσn:∀j,(j,none)∈m→σ' j=.slice none 0 0∧φ' j=[]:=fun j hj=>by
    have:=FD hn1 hj
    simp only[σ',φ',this,and_self]
   have hent:∀j Ga,(OP p (x1,x2) s.n).heap j=some Ga→Nab s m j Ga:=by
    intro j Ga hj
    have hmem:=AS.heap_mem hj
    simp only[OP]at hmem
    rcases jl.1 hmem with hmem|hmem
    ·obtain⟨blk',e,hE⟩:=hT2 _ hmem
     simp only[jc]at e
     subst e
     exact hE
    ·obtain⟨blk',e,hE⟩:=hB _ hmem
     simp only[jc]at e
     subst e
     exact hE
   have hlive:∀j Ga,(OP p (x1,x2) s.n).heap j=some Ga→φ' j=[]∨∃i blk0,(j,some i)∈m∧s.heap i=some blk0∧φ' j=φ i:=by
    intro j Ga hj
    rcases hent j Ga hj with⟨hn,_⟩|⟨i,hi,⟨e,dp,dp',xs,_,hb,_⟩|⟨ρ,d,td,y,m0,_,hb,_⟩|⟨e,xs,k,x,p,τ,d,td,y,m0,_,hb,_⟩|⟨e,xs,k,_,hb|⟨hb,_⟩⟩|⟨_,_,_,_,hb⟩|⟨_,_,_,_,hb⟩⟩
    ·exact .inl (hσn j hn).2
    ·exact .inr ⟨i,_,hi,hb,(hσs j i hi).2⟩
    ·exact .inr ⟨i,_,hi,hb,(hσs j i hi).2⟩
    ·exact .inr ⟨i,_,hi,hb,(hσs j i hi).2⟩
    ·exact .inr ⟨i,_,hi,hb,(hσs j i hi).2⟩
    ·exact .inr ⟨i,_,hi,hb,(hσs j i hi).2⟩
    ·exact .inr ⟨i,_,hi,hb,(hσs j i hi).2⟩
    ·exact .inr ⟨i,_,hi,hb,(hσs j i hi).2⟩
   have hOO:∀b,b<w.heap.size→¬OO O0 s φ b→¬OO O0 (OP p (x1,x2) s.n) φ' b:=by
    rintro b _ hno (ho|⟨j,Ga,hj,hm⟩)
    ·exact hno (.inl ho)
    ·rcases hlive j Ga hj with hφ|⟨i,blk0,_,hb,hφ⟩
     ·rw[hφ]at hm;simp at hm
     ·rw[hφ]at hm;exact hno (.inr ⟨i,blk0,hb,hm⟩)
   have hTOk:TOk s σ σ' (OP p (x1,x2) s.n).heap m:=by
    refine⟨fun j i hj=>(hσs j i hj).1,fun j hj=>(hσn j hj).1,fun j i ρ d hj hb=>?_,fun j i Ga r hj hb hr=>?_⟩
    rcases hent j _ hb with⟨hn,e,dp,hh⟩|⟨i',hi',⟨e,dp,dp',xs,hh,_⟩|⟨ρ',d',td,y,m0,hh,hb',_⟩|⟨e,xs,k,x,p,τ,d',td,y,m0,hh,_⟩|⟨e,xs,k,hh,_⟩|⟨_,_,_,hh,_⟩|⟨_,_,_,hh,_⟩⟩
    ·simp at hh
    ·simp at hh
    ·simp only[Ka.box.injEq]at hh
     have e1:=FD hn1 hj
     have e2:=FD hn1 hi'
     rw[e1]at e2
     simp only[jc]at e2
     subst e2
     exact⟨d',by rw[hb',hh.1]⟩
    ·simp at hh
    ·simp at hh
    ·simp at hh
    ·simp at hh
    ·have e1:=FD hn1 hj
     rcases hent j _ hb with⟨hn,_⟩|⟨i',hi',hx⟩
     ·have e2:=FD hn1 hn
      rw[e1]at e2
      simp at e2
     ·have e2:=FD hn1 hi'
      rw[e1]at e2
      simp only[jc]at e2
      subst e2
      rcases hx with⟨e,dp,dp',xs,rfl,hb',_⟩|⟨ρ',d',td,y,m0,rfl,_⟩|⟨e,xs,k,x,p,τ,d',td,y,m0,rfl,hb',_⟩|⟨e,xs,k,rfl,hb'|⟨hb',_⟩⟩|⟨_,_,_,rfl,_⟩|⟨_,_,_,rfl,_⟩
      ·exact⟨_,hb',hr⟩
      ·simp[Ka.rowN]at hr
      ·exact⟨_,hb',hr⟩
      ·exact⟨_,hb',hr⟩
      ·exact⟨_,hb',hr⟩
      ·simp[Ka.rowN]at hr
      ·simp[Ka.rowN]at hr
   refine⟨σ',φ',h.sz,h.df,?_,?_,?_,?_,?_,h.o0,h.fr,?_,h.iv0,h.ivw,?_⟩
   ·intro t d' hd
    obtain⟨td,d,y,m0,g1,g2,g3,g4⟩:=hT1 t d' hd
    obtain⟨v,hv,hr⟩:=h.tm t d g1
    rw[g4]
    exact⟨v,hv,Sax hTOk hOO g2 g3 hr⟩
   ·intro j Ga hj
    rcases hent j Ga hj with⟨hn,e,dp,rfl⟩|⟨i,hi,⟨e,dp,dp',xs,rfl,hb,hd⟩|⟨ρ,d,td,y,m0,rfl,hb,hex,hsub,hsh⟩|⟨e,xs,k,x,p,τ,d,td,y,m0,rfl,hb,hex,hsub,hsh⟩|⟨e,xs,k,rfl,hb⟩|⟨kk,vv,xs,rfl,hb⟩|⟨kk,e,xs,rfl,hb⟩⟩
    ·rw[Ym,(hσn j hn).1,(hσn j hn).2]
     exact⟨by simp,.inl ⟨rfl,rfl,rfl⟩⟩
    ·rw[Ym,(hσs j i hi).1,(hσs j i hi).2]
     have hrow:=Ym.1 (h.hp i _ hb)
     have hst:∀dq,Yi w (OO O0 s φ) dq e xs (σ i) (φ i)→Yi w (OO O0 (OP p (x1,x2) s.n) φ') dq e xs (σ i) (φ i):=by
      rintro dq ⟨hm,g|⟨bl,off,cap,cur,et,Fs,g1,hh,g2,g3,g4,hF,hel⟩⟩
      ·exact⟨hm,.inl g⟩
      ·exact⟨hm,.inr ⟨bl,off,cap,cur,et,Fs,g1,hh,g2,g3,g4,hF,hel.stable (fun _ _ _=>rfl) hOO (fun _ _=>rfl)⟩⟩
     rcases hd with rfl|hf
     ·exact hst _ hrow
     ·have hup:=hrow.up
      rw[hf,Bool.or_true]at hup
      cases dp with
      |true=>exact hst _ hup
      |false=>
       cases dp' with
       |false=>exact hst _ hrow
       |true=>
        have hown:=LZ (h.hp i _ hb) (.inl rfl)
        exact hst _ (Ym.1 (C8 (O:=OO O0 s φ) (hp:=s.heap) hown hf))
    ·rw[(hσs j i hi).2]
     obtain⟨_,b,cur,et,g1,hh,hF,hr,hsz⟩:=h.hp i _ hb
     exact⟨hsh,b,cur,et,by rw[(hσs j i hi).1];exact g1,hh,hF,FZ hTOk hOO hex hsub hr,hsz⟩
    ·rw[(hσs j i hi).2]
     obtain⟨_,g1,g2,g3,bl,off,cap,cur,et,g4,g5,g6,g7,hr,hw⟩:=h.hp i _ hb
     refine⟨hsh,g1,g2,g3,bl,off,cap,cur,et,by rw[(hσs j i hi).1];exact g4,g5,g6,g7,FZ hTOk hOO hex hsub hr,fun w' c' h1 h2 h3 y Fy x' h4 h5=>?_⟩
     rw[(hσs j i hi).1]
     exact hw w' c' h1 h2 h3 y Fy x' h4 h5
    ·rw[(hσs j i hi).2]
     have hm0:Gd w (OO O0 s φ) s.heap σ i (.mov e xs k) (φ i):=by
      rcases hb with hb|⟨hb,rfl⟩
      ·exact h.hp i _ hb
      ·exact Fag (h.hp i _ hb)
     obtain⟨hlen,⟨g1,g2,g3⟩|⟨bl,off,cap,cur,et,Fs,g1,g⟩⟩:=hm0
     ·exact⟨hlen,.inl ⟨by rw[(hσs j i hi).1];exact g1,g2,g3⟩⟩
     ·exact⟨hlen,.inr ⟨bl,off,cap,cur,et,Fs,by rw[(hσs j i hi).1];exact g1,g⟩⟩
    ·rw[(hσs j i hi).2]
     obtain⟨r,es,clk,g1,g2,g3,g4,g5⟩:=h.hp i _ hb
     exact⟨r,es,clk,by rw[(hσs j i hi).1];exact g1,g2,g3,XZ (fun _ _ _=>rfl) hOO ⟨g4,g5⟩⟩
    ·rw[(hσs j i hi).2]
     obtain⟨r,es,clk,g1,g2⟩:=h.hp i _ hb
     exact⟨r,es,clk,by rw[(hσs j i hi).1];exact g1,g2⟩
   ·intro j Ga hj
    rcases hlive j Ga hj with hφ|⟨i,blk0,_,hb,hφ⟩
    ·rw[hφ];exact List.nodup_nil
    ·rw[hφ];exact h.nodup i blk0 hb
   ·intro j j' Ga blk' hne hj hj' b hb hb'
    rcases hlive j Ga hj with hφ|⟨i,blk0,hi,hbi,hφ⟩
    ·rw[hφ]at hb;simp at hb
    ·rcases hlive j' blk' hj' with hφ'|⟨i',blk0',hi',hbi',hφ'⟩
     ·rw[hφ']at hb';simp at hb'
     ·rw[hφ]at hb
      rw[hφ']at hb'
      by_cases hii:i=i'
      ·subst hii
       exact hne (Aaz hn1 hi hi')
      ·exact h.disj i i' blk0 blk0' hii hbi hbi' b hb hb'
   ·intro j Ga hj b hb
    rcases hlive j Ga hj with hφ|⟨i,blk0,_,hbi,hφ⟩
    ·rw[hφ]at hb;simp at hb
    ·rw[hφ]at hb;exact h.fresh i blk0 hbi b hb
   ·intro j v hv
    have hlow:=A.low j v hv
    show σ' j=v
    simp only[σ']
    split
    ·rename_i i hg
     rcases YU hpo j i (ED hg)with⟨hj,_⟩|rfl
     ·omega
     ·exact h.pin _ v hv
    ·rename_i hg
     have:=XU hpo j (ED hg)
     omega
    ·exact h.pin j v hv
   ·intro j kk e xs hj
    rcases hent j _ hj with⟨hn,e,dp,hh⟩|⟨i,hi,⟨e,dp,dp',xs,hh,_⟩|⟨ρ',d',td,y,m0,hh,hb',_⟩|⟨e,xs,k,x,p,τ,d',td,y,m0,hh,_⟩|⟨e,xs,k,hh,_⟩|⟨_,_,_,hh,_⟩|⟨kk2,e2,xs2,hh,hb⟩⟩
    ·simp at hh
    ·simp at hh
    ·simp at hh
    ·simp at hh
    ·simp at hh
    ·simp at hh
    ·simp only[Ka.mq.injEq]at hh
     obtain⟨rfl,rfl,hh⟩:=hh
     simp only[heq_eq_eq]at hh
     subst hh
     rw[(hσs j i hi).1]
     exact(h.shr i _ _ _ hb).stable (fun _ _ _=>rfl) hOO (fun _ _=>rfl)
  ·simp at he
 ·simp at he
end
def JaK:Ex→Exit
 |.normal=>.normal
 |.exit id=>.exit id
 |.ret=>.ret
def AN{X R:Type}(step:X→Option (X⊕R)):Nat→X→R→Prop
 |0,_,_=>False
 |n+1,x,r=>step x=some (.inr r)∨∃x',step x=some (.inl x')∧AN step n x' r
def Uf:Code→List Code
 |.seq a b=>Uf a++Uf b
 |.cond _ a b=>Uf a++Uf b
 |.block _ c=>Uf c
 |.loop c=>c::Uf c
 |_=>[]
def Ab(G:Sf)(L:List (Nat×Qa))(b:Code):Prop:=
 ∀r ls,Ln b=some r→Xb L r=some ls→∀x y,ls.F x=some y→∃m,AN (JR G L ls b) m x y
section
variable{P:Program} {n0:Nat} {A:Fx} {O0:Nat→Prop} {w0:World} {G:Sf} {L:List (Nat×Qa)}
theorem Sad(hG:Kn P A.I G)(hfz:WR G A O0)(hm:P.follows .mixedOrders=true):∀(c:Code),(∀b,b∈Uf c→Ab G L b)→∀{Out:Type} {k:Ex→AS→Option Out} {out:Out} {s:AS} {σ:Nat→Value} {φ:Nat→List Nat} {a:Act} {w:World} {Q:Exit→Act→World→Prop},
 ZB G L c s k=some out→Db n0 A O0 w0 s σ φ a w→(∀e s σ φ a w,k e s=some out→Db n0 A O0 w0 s σ φ a w→Q (JaK e) a w)→c.wp P Q a w:=by
 intro c
 induction c with
 |skip=>
  intro _ Out k out s σ φ a w Q he h hQ
  simp only[ZB]at he
  exact wp_skip (hQ .normal s σ φ a w he h)
 |region id ops draw=>
  intro _ Out k out s σ φ a w Q he h hQ
  simp only[ZB]at he
  split at he
  ·rename_i s1 h1
   obtain⟨φ1,hc⟩:=AK hfz h h1
   refine Nav (k:=fun s'=>match YR G.fz (OJ G.att) G.att (1000*id+999) s' with
    |some s'=>k .normal s'
    |none=>none) hG hfz hm hc he fun a w ⟨s',σ',φ',h2,h3⟩=>?_
   simp only at h2
   split at h2
   ·rename_i s2 h4
    obtain⟨φ2,hc2⟩:=AK hfz h3 h4
    exact hQ .normal _ σ' φ2 a w h2 hc2
   ·simp at h2
  ·simp at he
 |seq x y ihx ihy=>
  intro hL Out k out s σ φ a w Q he h hQ
  simp only[ZB]at he
  refine wp_seq (ihx (fun b hb=>hL b (by simp[Uf,hb])) he h fun e s' σ' φ' a' w' hk h'=>?_)
  cases e with
  |normal=>exact ihy (fun b hb=>hL b (by simp[Uf,hb])) hk h' hQ
  |exit j=>exact hQ (.exit j) s' σ' φ' a' w' hk h'
  |ret=>exact hQ .ret s' σ' φ' a' w' hk h'
 |cond x y z ihy ihz=>
  intro hL Out k out s σ φ a w Q he h hQ
  cases x with
  |tmp t=>
   simp only[ZB]at he
   split at he
   ·rename_i β hd
    have hs:=h.same hd
    obtain⟨v,hv,hr⟩:=h.tm t _ hd
    rw[Xk]at hr
    subst hr
    have hev:a.eval (.tmp t)=.bool β:=by
     simp only[Act.eval]
     rw[Array.getD_eq_getD_getElem?,hv]
     rfl
    refine wp_cond_split hev (fun hb=>?_) (fun hb=>?_)
    ·subst hb
     simp only[zg]at he
     exact ihy (fun b hb=>hL b (by simp[Uf,hb])) he hs hQ
    ·subst hb
     simp only[zh]at he
     exact ihz (fun b hb=>hL b (by simp[Uf,hb])) he hs hQ
   ·simp at he
  |const cv=>
   cases cv with
   |bool β=>
    simp only[ZB]at he
    refine wp_cond_split (show a.eval (.const (.bool β))=.bool β from rfl) (fun hb=>?_) (fun hb=>?_)
    ·subst hb
     simp only[zg]at he
     exact ihy (fun b hb=>hL b (by simp[Uf,hb])) he h hQ
    ·subst hb
     simp only[zh]at he
     exact ihz (fun b hb=>hL b (by simp[Uf,hb])) he h hQ
   |_=>simp[ZB]at he
  |_=>simp[ZB]at he
 |block id c ih=>
  intro hL Out k out s σ φ a w Q he h hQ
  simp only[ZB]at he
  refine wp_block (ih (fun b hb=>hL b (by simpa[Uf]using hb)) he h fun e s' σ' φ' a' w' hk h'=>?_)
  cases e with
  |normal=>exact hQ .normal s' σ' φ' a' w' hk h'
  |exit j=>
   simp only[JaK,Exit.inBlock]
   cases hb:qw j id with
   |true=>
    rw[if_pos (ju hb)]
    simp only[hb,zg]at hk
    exact hQ .normal s' σ' φ' a' w' hk h'
   |false=>
    rw[if_neg (fun e=>by rw[e,yj]at hb;simp at hb)]
    simp only[hb,zh]at hk
    exact hQ (.exit j) s' σ' φ' a' w' hk h'
  |ret=>exact hQ .ret s' σ' φ' a' w' hk h'
 |exit id=>
  intro _ Out k out s σ φ a w Q he h hQ
  simp only[ZB]at he
  exact wp_exit (hQ (.exit id) s σ φ a w he h)
 |ret=>
  intro _ Out k out s σ φ a w Q he h hQ
  simp only[ZB]at he
  exact wp_ret (hQ .ret s σ φ a w he h)
 |loop c ih=>
  intro hL Out k out s σ φ a w Q he h hQ
  simp only[ZB]at he
  split at he
  ·rename_i r hr
   split at he
   ·rename_i ls hls
    split at he
    ·rename_i x hx
     simp only[Na]at he
     obtain⟨hn,he⟩:=he
     have hn:=ju hn
     rw[qd]at he
     obtain⟨y,hy,he⟩:=he
     obtain⟨m,hit⟩:=hL c (by simp[Uf]) r ls hr hls x y hy
     obtain⟨σ1,φ1,h1⟩:=GZ h hx
     rw[hn]at h1 he
     refine wp_loop_rounds m ?_
     have key:∀(m:Nat) (x:ls.inT.X) (σ:Nat→Value) (φ:Nat→List Nat) (a:Act) (w:World),AN (JR G L ls c) m x y→Db n0 A O0 w0 (OP ls.inT x ls.n) σ φ a w→Code.rounds P c Q m a w:=by
      intro m
      induction m with
      |zero=>intro x σ φ a w hit _;exact hit.elim
      |succ m ihm=>
       intro x σ φ a w hit h
       rw[rounds_succ]
       have body:∀z,JR G L ls c x=some z→(z=.inr y∨∃x',z=.inl x'∧AN (JR G L ls c) m x' y)→c.wp P (Exit.then (Code.rounds P c Q m) Q) a w:=by
        intro z hz hzy
        unfold JR at hz
        refine ih (fun b hb=>hL b (by simp[Uf,hb])) hz h fun e s' σ' φ' a' w' hk h'=>?_
        simp only[Na]at hk
        obtain⟨hn',hk⟩:=hk
        have hn':=ju hn'
        cases e with
        |normal=>
         simp only at hk
         split at hk
         ·rename_i x' hx'
          simp only[jc]at hk
          obtain⟨σ2,φ2,h2⟩:=GZ h' hx'
          rw[hn']at h2
          rcases hzy with hzy|⟨x'',hzy,hit'⟩
          ·rw[hzy]at hk;simp at hk
          ·rw[hzy]at hk
           simp only[za]at hk
           subst hk
           exact ihm x' σ2 φ2 a' w' hit' h2
         ·simp at hk
        |exit j=>
         simp only[Na]at hk
         obtain⟨hj,hk⟩:=hk
         have hj:=ju hj
         split at hk
         ·rename_i y' hy'
          simp only[jc]at hk
          obtain⟨σ2,φ2,h2⟩:=GZ h' hy'
          rw[hn']at h2
          rcases hzy with hzy|⟨x'',hzy,_⟩
          ·rw[hzy]at hk
           simp only[Sum.inr.injEq]at hk
           subst hk
           simp only[qf]at he
           show Q (.exit j) a' w'
           rw[hj]
           exact hQ (.exit ls.exitId) _ σ2 φ2 a' w' he h2
          ·rw[hzy]at hk;simp at hk
         ·simp at hk
        |ret=>
         simp only at hk
         split at hk
         ·rename_i y' hy'
          simp only[jc]at hk
          obtain⟨σ2,φ2,h2⟩:=GZ h' hy'
          rw[hn']at h2
          rcases hzy with hzy|⟨x'',hzy,_⟩
          ·rw[hzy]at hk
           simp only[Sum.inr.injEq]at hk
           subst hk
           simp only[Sum.elim_inr]at he
           exact hQ .ret _ σ2 φ2 a' w' he h2
          ·rw[hzy]at hk;simp at hk
         ·simp at hk
       rcases hit with hit|⟨x',hit,hit'⟩
       ·exact body _ hit (.inl rfl)
       ·exact body _ hit (.inr ⟨x',rfl,hit'⟩)
     exact key m x σ1 φ1 a w hit h1
    ·simp at he
   ·simp at he
  ·simp at he
 |_=>intros;rename_i he _ _;simp[ZB]at he
end
theorem Fd.mono{w:World}{O O':Nat→Prop}(hO:∀b,O' b→O b):∀{rt:Ty} {r:T rt} {fr:List Bool} {vs:List Value} {F:List Nat},Fd w O rt r fr vs F→Fd w O' rt r fr vs F
 |.u,_,[],[],_,h=>h
 |.p x y,r,f::fr,v::vs,F,h=>by
  obtain⟨cs,F1,F2,hv,hF,h1,h2⟩:=h
  refine⟨cs,F1,F2,hv,hF,?_,Fd.mono hO h2⟩
  cases f with
  |true=>exact h1
  |false=>
   simp only[jq,if_false]at h1⊢
   exact⟨h1.1.weaken hO,h1.2⟩
 |.u,_,_::_,_,_,h=>by simp[Fd]at h
 |.u,_,[],_::_,_,h=>by simp[Fd]at h
 |.p _ _,_,[],_,_,h=>by simp[Fd]at h
 |.p _ _,_,_::_,[],_,h=>by simp[Fd]at h
 |.i _,_,fr,vs,_,h=>by simp[Fd]at h
 |.b,_,fr,vs,_,h=>by simp[Fd]at h
 |.o,_,fr,vs,_,h=>by simp[Fd]at h
 |.mp _ _,_,fr,vs,_,h=>by simp[Fd]at h
 |.s,_,fr,vs,_,h=>by simp[Fd]at h
 |.sl _,_,fr,vs,_,h=>by simp[Fd]at h
section
variable{P:Program} {n0:Nat} {A:Fx} {O0:Nat→Prop} {w0 w:World} {s:AS} {σ:Nat→Value} {φ:Nat→List Nat} {a:Act} {G:Sf} {L:List (Nat×Qa)}
def RU(w:World)(O:Nat→Prop)(hp:Nat→Option Ka)(σ:Nat→Value):D→List Value→Prop
 |.pr a b,v::vs=>Td w O hp σ a v∧RU w O hp σ b vs
 |.un,[]=>True
 |_,_=>False
def VX(tmps:Array Value):ResultVar→Sem Value
 |.tmp t=>pure (tmps.getD t undef)
 |.cell a t=>do loadVar t (←asAddr (tmps.getD a undef))
theorem RK(hG:EnvTy P G)(h:Db n0 A O0 w0 s σ φ a w):∀{rs:List ResultVar} {d:D},BH G s rs=some d→∃vs,(rs.mapM (VX a.tmps)).run P w=.ok vs w∧RU w (OO O0 s φ) s.heap σ d vs
 |[],d,he=>by
  simp only[BH,jc]at he
  subst he
  exact⟨[],by simp,trivial⟩
 |.tmp t::r,d,he=>by
  simp only[BH]at he
  split at he
  ·rename_i d1 d2 h1 h2
   simp only[jc]at he
   subst he
   obtain⟨vs,hvs,hr⟩:=RK hG h h2
   obtain⟨v,hv,hru⟩:=h.tm t d1 h1
   have hg:a.tmps.getD t undef=v:=by rw[Array.getD_eq_getD_getElem?,hv];rfl
   refine⟨v::vs,?_,hru,hr⟩
   rw[List.mapM_cons]
   simp only[VX,qo,Sem.run_pure,qn,hvs,hg]
  ·simp at he
 |.cell t ty::r,d,he=>by
  simp only[BH]at he
  split at he
  ·rename_i id d2 h1 h2
   split at he
   ·rename_i ρ d1 τ hb hty
    split at he
    ·rename_i q hq
     obtain rfl:=q.down
     simp only[jc]at he
     subst he
     obtain⟨vs,hvs,hr⟩:=RK hG h h2
     obtain⟨v,hv,hru⟩:=h.tm t _ h1
     have hg:a.tmps.getD t undef=v:=by rw[Array.getD_eq_getD_getElem?,hv];rfl
     rw[Wz]at hru
     obtain⟨b,hσ,hv'⟩:=hru.2 _ _ hb
     obtain⟨hs,b',cur,et,hσ',hh,hF,hrep,hsz⟩:=h.hp id _ hb
     rw[hσ]at hσ'
     simp at hσ'
     subst hσ'
     have hl:=Rx (P:=P) (hG.ty _ _ hty) (off:=0) hh (by omega)
     have hseg:Ae cur 0 ρ.size=cur.toList:=by rw[←hsz];exact LaI cur
     rw[hseg]at hl
     refine⟨Me ρ cur.toList::vs,?_,Uv hs hrep,hr⟩
     rw[List.mapM_cons]
     have hoff:Yb ρ []=0:=rfl
     rw[hoff]at hv'
     subst hv'
     simp only[VX,qo,Sem.run_pure,qn,hvs,hg,asAddr,hl]
    ·simp at he
   ·simp at he
  ·simp at he
theorem KZ(h:Db n0 A O0 w0 s σ φ a w):∀{rt:Ty} {fr:List Bool} {d:D} {r:T rt} {l:List Nat} {vs:List Value},Qh s rt fr d=some (r,l)→RU w (OO O0 s φ) s.heap σ d vs→
 Fd w (OO O0 s φ) rt r fr vs (Ha φ l)∧∀j,j∈l→∃b,s.heap j=some b
 |.u,[],.un,r,l,vs,he,hr=>by
  simp only[Qh,jc,jh]at he
  obtain⟨_,rfl⟩:=he
  cases vs with
  |nil=>exact⟨by simp[Fd,Ha],by simp⟩
  |cons v vs=>simp[RU]at hr
 |.p x y,f::fr,.pr d1 d2,r,l,vs,he,hr=>by
  cases vs with
  |nil=>simp[RU]at hr
  |cons v vs=>
   simp only[Qh]at he
   split at he
   ·rename_i u l1 z l2 h1 h2
    simp only[jc,jh]at he
    obtain⟨rfl,rfl⟩:=he
    obtain⟨g1,g2⟩:=KZ h h2 hr.2
    cases f with
    |true=>
     simp only[zg]at h1
     obtain⟨hrep,hv⟩:=Qf (Sl h1) hr.1
     obtain⟨ho,hl⟩:=Er h h1 hrep
     refine⟨⟨_,Ha φ l1,Ha φ l2,hv,Ye,?_,g1⟩,?_⟩
     ·simpa using ho
     ·intro j hj
      rcases jl.1 hj with hj|hj
      ·exact hl j hj
      ·exact g2 j hj
    |false=>
     simp only[zh]at h1
     split at h1
     ·rename_i u' hu
      simp only[jc,jh]at h1
      obtain⟨rfl,rfl⟩:=h1
      obtain⟨hs,hvw⟩:=Qi (w:=w) (O:=OO O0 s φ) (hp:=s.heap) (σ:=σ) hu
      obtain⟨hrep,hv⟩:=Qf hs hr.1
      refine⟨⟨_,[],Ha φ l2,hv,by simp[Ha],?_,g1⟩,by simpa using g2⟩
      simpa using hvw _ hrep
     ·simp at h1
   ·simp at he
 |.u,_::_,d,_,_,_,he,_=>by cases d<;>simp[Qh]at he
 |.u,[],.und,_,_,_,he,_=>by simp[Qh]at he
 |.u,[],.anyv,_,_,_,he,_=>by simp[Qh]at he
 |.u,[],.mpo _,_,_,_,he,_=>by simp[Qh]at he
 |.u,[],.t _ _,_,_,_,he,_=>by simp[Qh]at he
 |.u,[],.nil,_,_,_,he,_=>by simp[Qh]at he
 |.u,[],.own _,_,_,_,he,_=>by simp[Qh]at he
 |.u,[],.ptr _ _,_,_,_,he,_=>by simp[Qh]at he
 |.u,[],.eptr _ _ _,_,_,_,he,_=>by simp[Qh]at he
 |.u,[],.rp _ _,_,_,_,he,_=>by simp[Qh]at he
 |.u,[],.pr _ _,_,_,_,he,_=>by simp[Qh]at he
 |.u,[],.tup _,_,_,_,he,_=>by simp[Qh]at he
 |.p _ _,[],d,_,_,_,he,_=>by cases d<;>simp[Qh]at he
 |.p _ _,_::_,.und,_,_,_,he,_=>by simp[Qh]at he
 |.p _ _,_::_,.anyv,_,_,_,he,_=>by simp[Qh]at he
 |.p _ _,_::_,.mpo _,_,_,_,he,_=>by simp[Qh]at he
 |.p _ _,_::_,.t _ _,_,_,_,he,_=>by simp[Qh]at he
 |.p _ _,_::_,.nil,_,_,_,he,_=>by simp[Qh]at he
 |.p _ _,_::_,.own _,_,_,_,he,_=>by simp[Qh]at he
 |.p _ _,_::_,.ptr _ _,_,_,_,he,_=>by simp[Qh]at he
 |.p _ _,_::_,.eptr _ _ _,_,_,_,he,_=>by simp[Qh]at he
 |.p _ _,_::_,.rp _ _,_,_,_,he,_=>by simp[Qh]at he
 |.p _ _,_::_,.un,_,_,_,he,_=>by simp[Qh]at he
 |.p _ _,_::_,.tup _,_,_,_,he,_=>by simp[Qh]at he
 |.i _,fr,d,_,_,_,he,_=>by cases fr<;>cases d<;>simp[Qh]at he
 |.b,fr,d,_,_,_,he,_=>by cases fr<;>cases d<;>simp[Qh]at he
 |.o,fr,d,_,_,_,he,_=>by cases fr<;>cases d<;>simp[Qh]at he
 |.mp _ _,fr,d,_,_,_,he,_=>by cases fr<;>cases d<;>simp[Qh]at he
 |.s,fr,d,_,_,_,he,_=>by cases fr<;>cases d<;>simp[Qh]at he
 |.sl _,fr,d,_,_,_,he,_=>by cases fr<;>cases d<;>simp[Qh]at he
theorem Xa1(h:Db n0 A O0 w0 s σ φ a w){id:Nat}{kk:IntKind}{e:Ty}{xs:List (Int×List (T e))}(hb:s.heap id=some (.mq kk e xs)):
 ∃F,Ic w (.mp (.i kk) (.sl e)) xs [σ id] F∧F.Nodup∧(∀b,b∈F→n0≤b∨A.A b)∧F.head?=(φ id).head?∧∀b,b∈F.tail→n0≤b∧¬OO O0 s φ b:=by
 obtain⟨r,es,clk,g1,g2,g3,g4⟩:=h.hp id _ hb
 obtain⟨r',es',clk',Gs,s1,s2,s3,s4,s5,s6,s7⟩:=h.shr id _ _ _ hb
 rw[g1]at s1
 simp only[Value.map.injEq,jc]at s1
 subst s1
 refine⟨r::List.flatten Gs,.inr ⟨r,es',clk',Gs,by rw[g1],s2,s3,rfl,s4,fun i hi=>?_⟩,?_,?_,by rw[g3];rfl,fun b hb'=>s6 b hb'⟩
 ·obtain⟨en,q1,q2,q3⟩:=s7 i hi
  exact⟨en,[.int kk (List.get xs ⟨i,hi⟩).1],[en.val],q1,q2,rfl,⟨rfl,rfl⟩,q3⟩
 ·refine ym.2 ⟨fun hm=>(s6 r hm).2 (.inr ⟨id,_,hb,by rw[g3];simp⟩),s5⟩
 ·intro b hm
  rcases jp.1 hm with rfl|hm
  ·exact h.fresh id _ hb _ (by rw[g3];simp)
  ·exact .inl (s6 b hm).1
theorem JaI(h:Db n0 A O0 w0 s σ φ a w){rt:Ty}{fr:List Bool}{d:D}{r:T rt}{vs:List Value}(he:Dar s rt fr d=some r)(hr:RU w (OO O0 s φ) s.heap σ d vs):
 ∃F,(∀O',Fd w O' rt r fr vs F)∧F.Nodup∧(∀b,b∈F→n0≤b∨A.A b):=by
 unfold Dar at he
 split at he
 ·rename_i k v id
  split at he
  ·rename_i kk e xs hb
   split at he
   ·rename_i q hq
    have q2:=q
    simp only[Ty.mp.injEq]at q2
    obtain⟨rfl,rfl⟩:=q2
    simp only[jc]at he
    subst he
    obtain⟨F,h1,h2,h3,_⟩:=Xa1 h hb
    cases vs with
    |nil=>simp[RU]at hr
    |cons u vs=>
     obtain⟨hr1,hr2⟩:=hr
     cases vs with
     |cons _ _=>simp[RU]at hr2
     |nil=>
      have hu:u=σ id:=(YD.1 hr1).2 _ hb rfl
      subst hu
      exact⟨F,fun _=>⟨[σ id],F,[],rfl,by simp,h1,rfl⟩,h2,h3⟩
   ·simp at he
  ·simp at he
 ·simp at he
theorem YL{fn:Func}{vs:List Value}(h:(fn.results.toList.mapM (VX a.tmps)).run P w=.ok vs w):(results fn a.tmps).run P w=.ok (IN vs) w:=by
 unfold results
 rw[Array.mapM_eq_mapM_toList]
 simp only[map_eq_pure_bind,bind_assoc,pure_bind,qo,Sem.run_pure]
 show(Sem.run P (List.mapM (VX a.tmps) fn.results.toList) w).andThen (fun vs w'=>Result.ok (if h:vs.toArray.size=1 then vs.toArray[0]else Value.tuple vs.toArray) w')=_
 rw[h]
 simp only[qn]
 congr 1
 cases vs with
 |nil=>rfl
 |cons v vs=>cases vs<;>rfl
end
def Ty.npar:Ty→Nat
 |.p _ y=>y.npar+1
 |_=>0
theorem NY{w:World}{O:Nat→Prop}:∀{pt:Ty} {x:T pt} {args:List Value},Bi w O pt x args→args.length=pt.npar
 |.u,_,[],_=>rfl
 |.p x y,v,a::r,h=>by simp[Ty.npar,NY h.2]
 |.u,_,_::_,h=>by simp[Bi]at h
 |.p _ _,_,[],h=>by simp[Bi]at h
 |.i _,_,l,h=>by simp[Bi]at h
 |.b,_,l,h=>by simp[Bi]at h
 |.o,_,l,h=>by simp[Bi]at h
 |.mp _ _,_,l,h=>by simp[Bi]at h
 |.s,_,l,h=>by simp[Bi]at h
 |.sl _,_,l,h=>by simp[Bi]at h
theorem S2{w:World}{O:Nat→Prop}{hp:Nat→Option Ka}{σ:Nat→Value}:∀{pt:Ty} {x:T pt} {args:List Value} {n t:Nat} {d:D},Bi w O pt x args→Xb (VL pt x n) t=some d→
 ∃j v,t=n+j∧args[j]?=some v∧Td w O hp σ d v
 |.p x y,v,a::r,n,t,d,h,hd=>by
  simp only[VL]at hd
  rw[Id]at hd
  split at hd
  ·rename_i e
   simp only[jc]at hd
   subst hd
   obtain⟨⟨cs,ha,hv⟩,_⟩:=h
   refine⟨0,a,by omega,rfl,?_⟩
   rw[ha]
   exact Uv (τ:=x) (by simp[Ob]) hv
  ·obtain⟨j,v',h1,h2,h3⟩:=S2 (hp:=hp) (σ:=σ) h.2 hd
   exact⟨j+1,v',by omega,by simpa using h2,h3⟩
 |.p _ _,_,[],_,_,_,h,_=>by simp[Bi]at h
 |.u,_,_,_,_,_,_,hd=>by simp[VL,Xb]at hd
 |.i _,_,_,_,_,_,h,_=>by simp[Bi]at h
 |.b,_,_,_,_,_,h,_=>by simp[Bi]at h
 |.o,_,_,_,_,_,h,_=>by simp[Bi]at h
 |.mp _ _,_,_,_,_,_,h,_=>by simp[Bi]at h
 |.s,_,_,_,_,_,h,_=>by simp[Bi]at h
 |.sl _,_,_,_,_,_,h,_=>by simp[Bi]at h
section
variable{P:Program} {G:Sf} {L:List (Nat×Qa)}
variable{I:Bh}
def Qay(I:Bh):Fx:=⟨fun _=>False,fun _=>none,fun _ _ h=>by simp at h,I,fun _ h=>h.elim⟩
theorem Taz(hG:Kn P I G)(hm:P.follows .mixedOrders=true){f:FuncId}{fn:Func}{c:Code}(hf:P.funcs[f]?=some fn)(hb:fn.body=some c)(hname:(fn.name== "runtime.NumGoroutine")=false)
 (hL:∀b,b∈Uf c→Ab G L b) {pt rt:Ty} {fr:List Bool} {F:T pt→Option (T rt)} (hn:pt.npar≤fn.ntmps) (hF:∀x r,F x=some r→evF G L fn pt rt fr x=some r):Zh P I f (.pu pt rt fr F):=by
 refine⟨⟨fn,hf,hname,by rw[hb];rfl⟩,?_⟩
 intro O w x r args hx hargs hO hI hB
 have he:=hF x r hx
 unfold evF at he
 rw[hb]at he
 simp only at he
 refine calls_of_wp hf hb ?_
 have hlen:=NY hargs
 have hc:Db w.heap.size (Qay I) O w ⟨fn.ntmps,VL pt x 0,[]⟩ (fun _=>undef) (fun _=>[]) {tmps:=args.toArray++Array.replicate (fn.ntmps-args.toArray.size) undef,defers:=[]} w:=by
  have hh:∀id,AS.heap ⟨fn.ntmps,VL pt x 0,[]⟩ id=none:=fun id=>rfl
  refine⟨?_,rfl,?_,?_,?_,?_,?_,hO,⟨rfl,rfl,rfl,jo _,fun _ _ _=>rfl⟩,?_,hB,hI,fun id kk e xs hb=>by rw[hh]at hb;simp at hb⟩
  ·simp;omega
  ·intro t d hd
   have hOO:OO O ⟨fn.ntmps,VL pt x 0,[]⟩ (fun _=>[])=O:=by
    funext b
    simp[OO,hh]
   rw[hOO]
   obtain⟨j,v,h1,h2,h3⟩:=S2 hargs hd
   refine⟨v,?_,h3⟩
   have hj:j<args.length:=(q8.1 h2).1
   have:t=j:=by omega
   subst this
   rw[Array.getElem?_append_left (by simpa using hj)]
   simpa using h2
  ·intro id Ga hb;rw[hh]at hb;simp at hb
  ·intro id Ga hb;rw[hh]at hb;simp at hb
  ·intro id id' Ga blk' _ hb;rw[hh]at hb;simp at hb
  ·intro id Ga hb;rw[hh]at hb;simp at hb
  ·intro id v hv;simp[Qay]at hv
 refine Sad (A:=Qay I) hG (fun _=>.inl fun _ h=>h) hm c hL he hc ?_
 intro e s σ φ a w' hk h
 have Xi:(match BH G s fn.results.toList with
  |some d=>match Dar s rt fr d with
   |some r=>some r
   |none=>match Qh s rt fr d with
    |some (r,l)=>bif Lg l then some r else none
    |none=>none
  |none=>none)=some r→a.defers=[]∧∃v,(results fn a.tmps).run P w'=.ok v w'∧XA (fun v w'=>∃vs Fr,v=IN vs∧AD w w' (fun _=>False)∧Fd w' (fun b=>O b∨b∈Fr) rt r fr vs Fr∧Fr.Nodup∧∀b∈Fr,w.heap.size≤b) (.returned v) w':=by
  intro hk
  split at hk
  ·rename_i d hd
   split at hk
   ·rename_i r' hq
    simp only[jc]at hk
    subst hk
    obtain⟨vs,hvs,hru⟩:=RK hG.toEnvTy h hd
    obtain⟨F,hR,hnd,hfr⟩:=JaI h hq hru
    exact⟨h.df,_,YL hvs,vs,F,rfl,⟨h.fr.size,fun b hb _=>h.fr.block b hb (fun h=>h),h.fr.os,h.fr.tape,h.fr.output⟩,hR _,hnd,fun b hb=>(hfr b hb).resolve_right (fun h=>h)⟩
   split at hk
   ·rename_i r' l hr
    simp only[Na]at hk
    obtain⟨hnd,hk⟩:=hk
    simp only[jc]at hk
    subst hk
    have hnd:=Mi hnd
    obtain⟨vs,hvs,hru⟩:=RK hG.toEnvTy h hd
    obtain⟨hR,hlive⟩:=KZ h hr hru
    refine⟨h.df,_,YL hvs,vs,Ha φ l,rfl,⟨h.fr.size,fun b hb _=>h.fr.block b hb (fun h=>h),h.fr.os,h.fr.tape,h.fr.output⟩,hR.mono ?_,Rg h hnd hlive,?_⟩
    ·rintro b (hb|hb)
     ·exact .inl hb
     ·obtain⟨j,hj,hm'⟩:=Pb.1 hb
      obtain⟨Ga,hbj⟩:=hlive j hj
      exact .inr ⟨j,Ga,hbj,hm'⟩
    ·intro b hb
     obtain⟨j,hj,hm'⟩:=Pb.1 hb
     obtain⟨Ga,hbj⟩:=hlive j hj
     exact(h.fresh j Ga hbj b hm').resolve_right (fun h=>h)
   ·simp at hk
  ·simp at hk
 cases e with
 |normal=>exact Xi hk
 |ret=>exact Xi hk
 |exit j=>simp at hk
end
theorem XO{φ:Nat→List Nat}:∀{L:List Nat},(Ha φ L).Nodup→∀{i j b:Nat},i∈L→j∈L→i≠j→b∈φ i→b∉φ j
 |[],_,_,_,_,h,_,_,_=>by simp at h
 |x::L,hn,i,j,b,hi,hj,hne,hb=>by
  intro hb'
  have hx:Ha φ (x::L)=φ x++Ha φ L:=by simp[Ha]
  rw[hx,yn]at hn
  rcases jp.1 hi with e1|q1
  ·rcases jp.1 hj with e2|q2
   ·exact hne (e1.trans e2.symm)
   ·exact hn.2.2 b (e1▸hb) b (Pb.2 ⟨j,q2,hb'⟩) rfl
  ·rcases jp.1 hj with e2|q2
   ·exact hn.2.2 b (e2▸hb') b (Pb.2 ⟨i,q1,hb⟩) rfl
   ·exact XO hn.2.1 q1 q2 hne hb hb'
section
variable{P:Program} {G:Sf} {L:List (Nat×Qa)} {I:Bh}
end
def DO:(pt:Ty)→T pt→Nat→Nat→List (Nat×D)×List (Nat×Option Ka)×Nat
 |.p x y,v,t,n=>match Ff x v.1 n with
  |(d,l,m)=>match DO y v.2 (t+1) m with
   |(tm,l',m')=>((t,d)::tm,l++l',m')
 |_,_,_,n=>([],[],n)
def Jac(G:Sf)(L:List (Nat×Qa))(fn:Func)(pt rt:Ty)(fr:List Bool)(x:T pt):Option (T rt):=
 match fn.body with
 |some c=>match DO pt x 0 400000 with
  |(tm,rows,_)=>ZB G L c ⟨fn.ntmps,tm,rows⟩ fun e s=>match e with
   |.exit _=>none
   |_=>match BH G s fn.results.toList with
    |some d=>match Qh s rt fr d with
     |some (r,l)=>bif Lg l then some r else none
     |none=>none
    |none=>none
 |none=>none
def Iac(G:Sf)(L:List (Nat×Qa))(fn:Func)(vw cv:Bool)(τ pt rt:Ty)(fr:List Bool)(x0:T τ)(x:T pt):Option (T τ×T rt):=
 match fn.body with
 |some c=>match(bif vw then(D.t τ x0,[],400000)else Ff τ x0 400000)with
  |(d0,rows,m)=>match(bif cv then DO pt x 1 m else(VL pt x 1,[],m))with
   |(tm,rows2,m2)=>bif jx m2 500000 then ZB G L c ⟨fn.ntmps,(0,.ptr 500000 [])::tm,(500000,some (.box τ d0))::(rows++rows2)⟩ fun e s=>match e with
    |.exit _=>none
    |_=>match s.heap 500000,BH G s fn.results.toList with
     |some (.box τ' d1),some d=>match Ty.dec τ' τ,(bif vw then(match Hm d1 τ with
      |some y=>some (y,[])
      |none=>none)else Cc s d1 τ),Qh s rt fr d with
      |some _,some (x',l0),some (r,l)=>bif Lg (500000::(l0++l))then some (x',r)else none
      |_,_,_=>none
     |_,_=>none
    else none
 |none=>none
theorem PX{w:World}:∀{pt:Ty} {x:T pt} {args:List Value} {F:List Nat},Mg w pt x args F→args.length=pt.npar
 |.u,_,[],_,_=>rfl
 |.p x y,v,a::r,F,h=>by
  obtain⟨cs,F1,F2,_,_,_,h⟩:=h
  simp[Ty.npar,PX h]
 |.u,_,_::_,_,h=>by simp[Mg]at h
 |.p _ _,_,[],_,h=>by simp[Mg]at h
 |.i _,_,l,_,h=>by simp[Mg]at h
 |.b,_,l,_,h=>by simp[Mg]at h
 |.o,_,l,_,h=>by simp[Mg]at h
 |.mp _ _,_,l,_,h=>by simp[Mg]at h
 |.s,_,l,_,h=>by simp[Mg]at h
 |.sl _,_,l,_,h=>by simp[Mg]at h
theorem Mg.lt{w:World}:∀{pt:Ty} {x:T pt} {args:List Value} {F:List Nat},Mg w pt x args F→∀b,b∈F→b<w.heap.size
 |.u,_,[],F,h,b,hb=>by simp only[Mg]at h;subst h;simp at hb
 |.p x y,v,a::r,F,h,b,hb=>by
  obtain⟨cs,F1,F2,_,rfl,ho,h⟩:=h
  rcases jl.1 hb with hb|hb
  ·exact ho.lt b hb
  ·exact Mg.lt h b hb
 |.u,_,_::_,_,h,_,_=>by simp[Mg]at h
 |.p _ _,_,[],_,h,_,_=>by simp[Mg]at h
 |.i _,_,l,_,h,_,_=>by simp[Mg]at h
 |.b,_,l,_,h,_,_=>by simp[Mg]at h
 |.o,_,l,_,h,_,_=>by simp[Mg]at h
 |.mp _ _,_,l,_,h,_,_=>by simp[Mg]at h
 |.s,_,l,_,h,_,_=>by simp[Mg]at h
 |.sl _,_,l,_,h,_,_=>by simp[Mg]at h
theorem T2{w:World}:∀{pt:Ty} {x:T pt} {args:List Value} {F:List Nat} {t n m:Nat} {tm:List (Nat×D)} {l:List (Nat×Option Ka)},DO pt x t n=(tm,l,m)→Mg w pt x args F→
 n≤m∧(∀p,p∈l→n≤p.1∧p.1<m)∧∃(ψ:Nat→List Nat) (ν:Nat→Value),Ha ψ (l.map (·.1))=F∧(∀p,p∈l→FB w p.2 (ν p.1) (ψ p.1))∧
  ∀(hp':Nat→Option Ka) (σ':Nat→Value) (O':Nat→Prop),(∀p,p∈l→σ' p.1=ν p.1)→∀t' d,Xb tm t'=some d→∃j v,t'=t+j∧args[j]?=some v∧Td w O' hp' σ' d v
 |.u,x,[],F,t,n,m,tm,l,he,h=>by
  simp only[DO,jh]at he
  obtain⟨rfl,rfl,rfl⟩:=he
  simp only[Mg]at h
  exact⟨jo _,by simp,fun _=>[],fun _=>undef,by simp[Ha,h],by simp,fun _ _ _ _ t' d hd=>by simp[Xb]at hd⟩
 |.p t1 t2,x,a::r,F,t,n,m,tm,l,he,h=>by
  obtain⟨cs,F1,F2,ha,hF,ho,hr⟩:=h
  simp only[DO]at he
  rcases ho1:Ff t1 x.1 n with⟨d1,l1,m1⟩
  rcases ho2:DO t2 x.2 (t+1) m1 with⟨tm2,l2,m2⟩
  rw[ho1]at he
  simp only at he
  rw[ho2]at he
  simp only[jh]at he
  obtain⟨rfl,rfl,rfl⟩:=he
  obtain⟨a1,a2,a3,ψ1,ν1,a4,a5,a6⟩:=VD ho1 ho
  obtain⟨b1,b2,ψ2,ν2,b4,b5,b6⟩:=T2 ho2 hr
  refine⟨by omega,?_,fun id=>if id<m1 then ψ1 id else ψ2 id,fun id=>if id<m1 then ν1 id else ν2 id,?_,?_,?_⟩
  ·intro p hp
   rcases jl.1 hp with hp|hp
   ·have:=a2 p hp;omega
   ·have:=b2 p hp;omega
  ·rw[yw,Ye,hF,←a4,←b4]
   congr 1
   ·exact Wn fun id hid=>by
     obtain⟨p,hp,rfl⟩:=qk.1 hid
     rw[if_pos (a2 p hp).2]
   ·exact Wn fun id hid=>by
     obtain⟨p,hp,rfl⟩:=qk.1 hid
     rw[if_neg (by have:=b2 p hp;omega)]
  ·intro p hp
   rcases jl.1 hp with hp|hp
   ·simp only[if_pos (a2 p hp).2];exact a5 p hp
   ·have:¬p.1<m1:=by have:=b2 p hp;omega
    simp only[if_neg this];exact b5 p hp
  ·intro hp' σ' O' hσ t' d hd
   rw[Id]at hd
   split at hd
   ·rename_i e
    simp only[jc]at hd
    subst hd
    refine⟨0,a,by omega,rfl,?_⟩
    rw[ha]
    refine Uv a3 (a6 w hp' σ' O' fun p hp=>?_)
    have h1:=hσ p (qu _ hp)
    simp only[if_pos (a2 p hp).2]at h1
    exact h1
   ·obtain⟨j,v,h1,h2,h3⟩:=b6 hp' σ' O' (fun p hp=>by
     have h1:=hσ p (qv _ hp)
     have h2:¬p.1<m1:=by have:=b2 p hp;omega
     simp only[if_neg h2]at h1
     exact h1) t' d hd
    exact⟨j+1,v,by omega,by simpa using h2,h3⟩
 |.u,_,_::_,_,_,_,_,_,_,_,h=>by simp[Mg]at h
 |.p _ _,_,[],_,_,_,_,_,_,_,h=>by simp[Mg]at h
 |.i _,_,l,_,_,_,_,_,_,_,h=>by simp[Mg]at h
 |.b,_,l,_,_,_,_,_,_,_,h=>by simp[Mg]at h
 |.o,_,l,_,_,_,_,_,_,_,h=>by simp[Mg]at h
 |.mp _ _,_,l,_,_,_,_,_,_,_,h=>by simp[Mg]at h
 |.s,_,l,_,_,_,_,_,_,_,h=>by simp[Mg]at h
 |.sl _,_,l,_,_,_,_,_,_,_,h=>by simp[Mg]at h
section
variable{P:Program} {G:Sf} {L:List (Nat×Qa)} {I:Bh}
theorem Saz(hG:Kn P I G)(hfz:G.fz=false∨cmB G.att=true)(hm:P.follows .mixedOrders=true){f:FuncId}{fn:Func}{c:Code}(hf:P.funcs[f]?=some fn)(hb:fn.body=some c)(hname:(fn.name== "runtime.NumGoroutine")=false)
 (hL:∀b,b∈Uf c→Ab G L b) {pt rt:Ty} {fr:List Bool} {F:T pt→Option (T rt)} (hn:pt.npar≤fn.ntmps) (hF:∀x r,F x=some r→Jac G L fn pt rt fr x=some r):
 Zh P I f (.co pt rt fr F):=by
 refine⟨⟨fn,hf,hname,by rw[hb];rfl⟩,?_⟩
 intro O w x r F0 args hx hargs hF0 hO hOF hI hB hFB
 have he:=hF x r hx
 unfold Jac at he
 rw[hb]at he
 simp only at he
 rcases hop:DO pt x 0 400000 with⟨tm,rows,m⟩
 rw[hop]at he
 simp only at he
 obtain⟨_,hids,ψ,ν,hbl,hrows,hrep⟩:=T2 hop hargs
 refine calls_of_wp hf hb ?_
 have hlen:=PX hargs
 have hmem:∀id Ga,AS.heap ⟨fn.ntmps,tm,rows⟩ id=some Ga→id∈rows.map (·.1)∧FB w (some Ga) (ν id) (ψ id):=by
  intro id Ga hb
  have hm:=AS.heap_mem hb
  exact⟨yv (f:=(·.1)) hm,hrows _ hm⟩
 have hF0':(Ha ψ (rows.map (·.1))).Nodup:=by rw[hbl];exact hF0
 let A:Fx:=⟨(·∈F0),fun _=>none,fun _ _ h=>by simp at h,I,hFB⟩
 obtain⟨O1,hO1,hO1F,hO1R⟩:∃O1:Nat→Prop,(∀b,O1 b→b<w.heap.size)∧(∀b,b∈F0→¬O1 b)∧∀(w':World) (r:T rt) (vs:List Value) (Fr:List Nat),Fd w' (fun b=>O1 b∨b∈Fr) rt r fr vs Fr→Fd w' (fun b=>O b∨b∈Fr) rt r fr vs Fr:=by
  rcases hOF with hall|hOF
  ·exact⟨noO,fun b hb=>hb.elim,fun _ _ hb=>hb.elim,fun w' r vs Fr hR=>hR.all hall⟩
  ·exact⟨O,hO,hOF,fun _ _ _ _ hR=>hR⟩
 have hc:Db w.heap.size A O1 w ⟨fn.ntmps,tm,rows⟩ ν ψ {tmps:=args.toArray++Array.replicate (fn.ntmps-args.toArray.size) undef,defers:=[]} w:=by
  refine⟨?_,rfl,?_,?_,?_,?_,?_,?_,⟨rfl,rfl,rfl,jo _,fun _ _ _=>rfl⟩,?_,hB,hI,fun id kk e xs hb=>((hmem id _ hb).2.nq).elim⟩
  ·simp;omega
  ·intro t d hd
   obtain⟨j,v,h1,h2,h3⟩:=hrep (AS.heap ⟨fn.ntmps,tm,rows⟩) ν (OO O1 ⟨fn.ntmps,tm,rows⟩ ψ) (fun _ _=>rfl) t d hd
   refine⟨v,?_,h3⟩
   have hj:j<args.length:=(q8.1 h2).1
   have:t=j:=by omega
   subst this
   rw[Array.getElem?_append_left (by simpa using hj)]
   simpa using h2
  ·intro id Ga hb
   exact(hmem id Ga hb).2.rep
  ·intro id Ga hb
   have hi:=(hmem id Ga hb).1
   have:(ψ id).Sublist (Ha ψ (rows.map (·.1))):=by
    unfold Ha
    exact List.sublist_flatten_of_mem (yv hi)
   exact this.nodup hF0'
  ·intro id id' Ga blk' hne hb hb' b hm
   exact XO hF0' (hmem id Ga hb).1 (hmem id' blk' hb').1 hne hm
  ·intro id Ga hb b hm
   refine .inr ?_
   show b∈F0
   rw[←hbl]
   exact Pb.2 ⟨id,(hmem id Ga hb).1,hm⟩
  ·exact hO1
  ·intro id v hv;simp[A]at hv
 refine Sad (A:=A) hG (fun h=>.inr (.inl ⟨hfz.resolve_left (by rw[h];simp),fun b hb=>hO1F b hb⟩)) hm c hL he hc ?_
 intro e s σ φ a w' hk h
 have Xi:(match BH G s fn.results.toList with
  |some d=>match Qh s rt fr d with
   |some (r,l)=>bif Lg l then some r else none
   |none=>none
  |none=>none)=some r→a.defers=[]∧∃v,(results fn a.tmps).run P w'=.ok v w'∧XA (fun v w'=>∃vs Fr,v=IN vs∧AD w w' (·∈F0)∧
  Fd w' (fun b=>O b∨b∈Fr) rt r fr vs Fr∧Fr.Nodup∧∀b∈Fr,w.heap.size≤b∨b∈F0) (.returned v) w':=by
  intro hk
  split at hk
  ·rename_i d hd
   split at hk
   ·rename_i r' l hr
    simp only[Na]at hk
    obtain⟨hnd,hk⟩:=hk
    simp only[jc]at hk
    subst hk
    have hnd:=Mi hnd
    obtain⟨vs,hvs,hru⟩:=RK hG.toEnvTy h hd
    obtain⟨hR,hlive⟩:=KZ h hr hru
    refine⟨h.df,_,YL hvs,vs,Ha φ l,rfl,⟨h.fr.size,fun b hb hno=>h.fr.block b hb hno,h.fr.os,h.fr.tape,h.fr.output⟩,hO1R _ _ _ _ (hR.mono ?_),Rg h hnd hlive,?_⟩
    ·rintro b (hb|hb)
     ·exact .inl hb
     ·obtain⟨j,hj,hm'⟩:=Pb.1 hb
      obtain⟨Ga,hbj⟩:=hlive j hj
      exact .inr ⟨j,Ga,hbj,hm'⟩
    ·intro b hb
     obtain⟨j,hj,hm'⟩:=Pb.1 hb
     obtain⟨Ga,hbj⟩:=hlive j hj
     exact h.fresh j Ga hbj b hm'
   ·simp at hk
  ·simp at hk
 cases e with
 |normal=>exact Xi hk
 |ret=>exact Xi hk
 |exit j=>simp at hk
theorem Raz{vw cv:Bool}(hG:Kn P I G)(hfz:G.fz=false∨((vw&&!cv)=true∧OJ G.att=true))(hm:P.follows .mixedOrders=true){f:FuncId}{fn:Func}{c:Code}(hf:P.funcs[f]?=some fn)(hb:fn.body=some c)(hname:(fn.name== "runtime.NumGoroutine")=false)
 (hL:∀b,b∈Uf c→Ab G L b) {τ pt rt:Ty} {fr:List Bool} {F:T τ→T pt→Option (T τ×T rt)} (hn:pt.npar+1≤fn.ntmps) (hF:∀x0 x r,F x0 x=some r→Iac G L fn vw cv τ pt rt fr x0 x=some r):
 Zh P I f (.bx vw cv τ pt rt fr F):=by
 refine⟨⟨fn,hf,hname,by rw[hb];rfl⟩,?_⟩
 intro O w x0 x r b cur et F0 F2 args hx hh hsz hcont hargs hnd hO hI hB hFB
 have he:=hF x0 x r hx
 unfold Iac at he
 rw[hb]at he
 simp only at he
 rcases hop:(bif vw then(D.t τ x0,[],400000)else Ff τ x0 400000)with⟨d0,rows,m⟩
 rw[hop]at he
 simp only at he
 rcases hop2:(bif cv then DO pt x 1 m else(VL pt x 1,[],m))with⟨tm,rows2,m2⟩
 rw[hop2]at he
 simp only[Na]at he
 obtain⟨hm2,he⟩:=he
 have hm2:=q6 hm2
 have hlt:b<w.heap.size:=(Array.getElem?_eq_some_iff.1 hh).1
 have k1:400000≤m∧(∀p,p∈rows→400000≤p.1∧p.1<m)∧Ob τ d0∧(∀c,c∈F0→c<w.heap.size)∧∃(ψ:Nat→List Nat) (ν:Nat→Value),Ha ψ (rows.map (·.1))=F0∧(∀p,p∈rows→FB w p.2 (ν p.1) (ψ p.1))∧
  ∀(hp':Nat→Option Ka) (σ':Nat→Value),(∀p,p∈rows→σ' p.1=ν p.1)→Kb w (fun c=>O c∨c∈b::(F0++F2)) hp' σ' d0 cur.toList:=by
  cases vw with
  |true=>
   simp only[zg,jh]at hop
   obtain⟨rfl,rfl,rfl⟩:=hop
   simp only[if_true]at hcont
   obtain⟨hv,rfl⟩:=hcont
   refine⟨jo _,by simp,by simp[Ob],by simp,fun _=>[],fun _=>undef,by simp[Ha],by simp,fun hp' σ' _=>Wa.weaken (fun c hc=>?_) hv⟩
   rcases hc with hc|hc
   ·exact .inl hc
   ·rcases jp.1 hc with rfl|hc
    ·exact .inr (.inl rfl)
    ·exact .inr (.inr (by simpa using hc))
  |false=>
   simp only[zh]at hop
   simp only[jq,if_false]at hcont
   obtain⟨a1,a2,a3,ψ1,ν1,a4,a5,a6⟩:=VD hop hcont
   exact⟨a1,a2,a3,fun c hc=>hcont.lt c hc,ψ1,ν1,a4,a5,fun hp' σ' h=>a6 w hp' σ' _ h⟩
 obtain⟨hnm,hids,hsh,hF0lt,ψ1,ν1,hbl1,hrows1,hrep1⟩:=k1
 have k2:m≤m2∧(∀p,p∈rows2→m≤p.1∧p.1<m2)∧args.length=pt.npar∧(∀c,c∈F2→c<w.heap.size)∧∃(ψ:Nat→List Nat) (ν:Nat→Value),Ha ψ (rows2.map (·.1))=F2∧(∀p,p∈rows2→FB w p.2 (ν p.1) (ψ p.1))∧
  ∀(hp':Nat→Option Ka) (σ':Nat→Value),(∀p,p∈rows2→σ' p.1=ν p.1)→∀t' d,Xb tm t'=some d→∃j v,t'=1+j∧args[j]?=some v∧Td w (fun c=>O c∨c∈b::(F0++F2)) hp' σ' d v:=by
  cases cv with
  |true=>
   simp only[zg]at hop2
   simp only[if_true]at hargs
   obtain⟨a1,a2,ψ2,ν2,a4,a5,a6⟩:=T2 hop2 hargs
   exact⟨a1,a2,PX hargs,hargs.lt,ψ2,ν2,a4,a5,fun hp' σ' h=>a6 hp' σ' _ h⟩
  |false=>
   simp only[zh,jh]at hop2
   obtain⟨rfl,rfl,rfl⟩:=hop2
   simp only[jq,if_false]at hargs
   obtain⟨hv,rfl⟩:=hargs
   refine⟨jo _,by simp,NY hv,by simp,fun _=>[],fun _=>undef,by simp[Ha],by simp,fun hp' σ' _ t' d hd=>?_⟩
   have:(fun c=>O c∨c∈b::(F0++[]))=(fun c=>O c∨c=b∨c∈F0):=by
    funext c;simp
   rw[this]
   exact S2 hv hd
 obtain⟨hmm,hids2,hlen,hF2lt,ψ2,ν2,hbl2,hrows2,hrep2⟩:=k2
 refine calls_of_wp hf hb ?_
 let ψ:Nat→List Nat:=fun id=>if id=500000 then[b]else if id<m then ψ1 id else ψ2 id
 let ν:Nat→Value:=fun id=>if id=500000 then .pointer (some ⟨b,0,none⟩)else if id<m then ν1 id else ν2 id
 have hψ0:ψ 500000=[b]:=if_pos rfl
 have hν0:ν 500000=.pointer (some ⟨b,0,none⟩):=if_pos rfl
 have hψ1:∀p,p∈rows→ψ p.1=ψ1 p.1∧ν p.1=ν1 p.1:=fun p hp=>by
  have h1:=hids p hp
  have h2:¬p.1=500000:=by omega
  simp only[ψ,ν,if_neg h2,if_pos h1.2,and_self]
 have hψ2:∀p,p∈rows2→ψ p.1=ψ2 p.1∧ν p.1=ν2 p.1:=fun p hp=>by
  have h1:=hids2 p hp
  have h2:¬p.1=500000:=by omega
  have h3:¬p.1<m:=by omega
  simp only[ψ,ν,if_neg h2,if_neg h3,and_self]
 let s0:AS:=⟨fn.ntmps,(0,.ptr 500000 [])::tm,(500000,some (.box τ d0))::(rows++rows2)⟩
 have hbx:s0.heap 500000=some (.box τ d0):=by simp[s0,AS.heap,Id]
 have hmem:∀id Ga,s0.heap id=some Ga→(id=500000∧Ga=.box τ d0)∨(id≠500000∧id∈(rows++rows2).map (·.1)∧FB w (some Ga) (ν id) (ψ id)):=by
  intro id Ga hb
  by_cases hid:id=500000
  ·subst hid
   rw[hbx]at hb
   simp only[jc]at hb
   exact .inl ⟨rfl,hb.symm⟩
  ·have hm:=AS.heap_mem hb
   simp only[s0,jp,jh,hid,false_and,false_or]at hm
   refine .inr ⟨hid,yv (f:=(·.1)) hm,?_⟩
   rcases jl.1 hm with hm|hm
   ·rw[(hψ1 _ hm).1,(hψ1 _ hm).2]
    exact hrows1 _ hm
   ·rw[(hψ2 _ hm).1,(hψ2 _ hm).2]
    exact hrows2 _ hm
 have hblr:Ha ψ ((rows++rows2).map (·.1))=F0++F2:=by
  rw[yw,Ye,←hbl1,←hbl2]
  congr 1
  ·exact Wn fun id hid=>by
    obtain⟨p,hp,rfl⟩:=qk.1 hid
    exact(hψ1 p hp).1
  ·exact Wn fun id hid=>by
    obtain⟨p,hp,rfl⟩:=qk.1 hid
    exact(hψ2 p hp).1
 have hbl:Ha ψ (500000::(rows++rows2).map (·.1))=b::(F0++F2):=by
  have:Ha ψ (500000::(rows++rows2).map (·.1))=ψ 500000++Ha ψ ((rows++rows2).map (·.1)):=by simp only[Ha,yk,yp]
  rw[this,hψ0,hblr];rfl
 have hndB:(Ha ψ (500000::(rows++rows2).map (·.1))).Nodup:=by rw[hbl];exact hnd
 have hidin:∀id Ga,s0.heap id=some Ga→id∈500000::(rows++rows2).map (·.1):=by
  intro id Ga hb
  rcases hmem id Ga hb with⟨rfl,_⟩|⟨_,h,_⟩
  ·exact List.mem_cons_self
  ·exact jr _ h
 let A:Fx:=⟨(·∈b::(F0++F2)),fun id=>if id=500000 then some (.pointer (some ⟨b,0,none⟩))else none,fun id v h=>by
  split at h
  ·omega
  ·simp at h,I,hFB⟩
 have hOO:OO (fun c=>O c∨c∈b::(F0++F2)) s0 ψ=(fun c=>O c∨c∈b::(F0++F2)):=by
  funext c
  refine propext ⟨fun h=>?_,.inl⟩
  rcases h with h|⟨id,Ga,hb,hm⟩
  ·exact h
  ·refine .inr ?_
   rw[←hbl]
   exact Pb.2 ⟨id,hidin id Ga hb,hm⟩
 have hc:Db w.heap.size A (fun c=>O c∨c∈b::(F0++F2)) w s0 ν ψ {tmps:=(.pointer (some ⟨b,0,none⟩)::args).toArray++Array.replicate (fn.ntmps-(Value.pointer (some ⟨b,0,none⟩)::args).toArray.size) undef,defers:=[]} w:=by
  refine⟨?_,rfl,?_,?_,?_,?_,?_,?_,⟨rfl,rfl,rfl,jo _,fun _ _ _=>rfl⟩,?_,hB,hI,fun id kk e xs hb=>(hmem id _ hb).elim (fun h=>by simp at h) fun h=>h.2.2.nq.elim⟩
  ·simp[s0];omega
  ·intro t d hd
   rw[hOO]
   simp only[s0]at hd
   rw[Id]at hd
   split at hd
   ·rename_i e
    subst e
    simp only[jc]at hd
    subst hd
    refine⟨.pointer (some ⟨b,0,none⟩),by rw[Array.getElem?_append_left (by simp)];simp,?_⟩
    rw[Wz]
    exact⟨rfl,fun ρ d _=>⟨b,hν0,by simp[Yb]⟩⟩
   ·obtain⟨j,v,h1,h2,h3⟩:=hrep2 s0.heap ν (fun p hp=>(hψ2 p hp).2) t d hd
    refine⟨v,?_,h3⟩
    have hj:j<args.length:=(q8.1 h2).1
    have:t=j+1:=by omega
    subst this
    rw[Array.getElem?_append_left (by simpa using hj)]
    simpa using h2
  ·intro id Ga hb
   rw[hOO]
   rcases hmem id Ga hb with⟨rfl,rfl⟩|⟨_,_,h2⟩
   ·exact⟨hsh,b,cur,et,hν0,hh,hψ0,hrep1 _ _ fun p hp=>(hψ1 p hp).2,hsz⟩
   ·exact h2.rep
  ·intro id Ga hb
   have hi:=hidin id Ga hb
   have:(ψ id).Sublist (Ha ψ (500000::(rows++rows2).map (·.1))):=by
    unfold Ha
    exact List.sublist_flatten_of_mem (yv hi)
   exact this.nodup hndB
  ·intro id id' Ga blk' hne hb hb' c hm
   exact XO hndB (hidin id Ga hb) (hidin id' blk' hb') hne hm
  ·intro id Ga hb c hm
   refine .inr ?_
   show c∈b::(F0++F2)
   rw[←hbl]
   exact Pb.2 ⟨id,hidin id Ga hb,hm⟩
  ·rintro c (hc|hc)
   ·exact hO c hc
   ·rcases jp.1 hc with rfl|hc
    ·exact hlt
    ·rcases jl.1 hc with hc|hc
     ·exact hF0lt c hc
     ·exact hF2lt c hc
  ·intro id v hv
   simp only[A]at hv
   split at hv
   ·rename_i e
    subst e
    simp only[jc]at hv
    exact hν0.trans hv
   ·simp at hv
 have hFz:WR G A (fun c=>O c∨c∈b::(F0++F2)):=by
  intro hz
  rcases hfz with h0|⟨h1,h2⟩
  ·rw[h0]at hz;simp at hz
  ·simp only[jd,yl]at h1
   obtain⟨h1,h3⟩:=h1
   subst h1
   subst h3
   simp only[if_true]at hcont
   simp only[jq,if_false]at hargs
   obtain⟨_,hF0⟩:=hcont
   obtain⟨_,hF2⟩:=hargs
   refine .inr (.inr ⟨h2,fun x hx=>?_⟩)
   have hx':x∈b::(F0++F2):=hx
   rw[hF0,hF2]at hx'
   simp only[yy,qb]at hx'
   rw[hx']
   show(if(500000:Nat)=500000 then some (Value.pointer (some ⟨b,0,none⟩))else none)=_
   exact if_pos rfl
 refine Sad (A:=A) hG hFz hm c hL he hc ?_
 intro e s σ φ a w' hk h
 have Xi:(match s.heap 500000,BH G s fn.results.toList with
  |some (.box τ' d1),some d=>match Ty.dec τ' τ,(bif vw then(match Hm d1 τ with
   |some y=>some (y,[])
   |none=>none)else Cc s d1 τ),Qh s rt fr d with
   |some _,some (x',l0),some (r,l)=>bif Lg (500000::(l0++l))then some (x',r)else none
   |_,_,_=>none
  |_,_=>none)=some r→a.defers=[]∧∃v,(results fn a.tmps).run P w'=.ok v w'∧XA (fun v w'=>∃vs cur' et' F1 Fr,v=IN vs∧AD w w' (·∈b::(F0++F2))∧w'.heap[b]?=some (.cells cur' et' (0,0))∧cur'.size=τ.size∧
  (if vw then Wa w' (fun c=>O c∨c∈b::(F0++F2)∨c∈Fr) τ r.1 cur'.toList∧F1=[]else Ic w' τ r.1 cur'.toList F1)∧
  Fd w' (fun c=>O c∨c∈b::(F0++F2)∨c∈F1∨c∈Fr) rt r.2 fr vs Fr∧(b::(F1++Fr)).Nodup∧∀c∈F1++Fr,w.heap.size≤c∨c∈F0++F2) (.returned v) w':=by
  intro hk
  split at hk
  ·rename_i τ' d1 d hbx' hd
   split at hk
   ·rename_i q x' l0 r' l hq hx' hr
    obtain rfl:=Se hq
    simp only[Na]at hk
    obtain⟨hnd',hk⟩:=hk
    simp only[jc]at hk
    subst hk
    have hnd':=Mi hnd'
    obtain⟨hsh',b',cur',et',hσ',hh',hF',hr0,hsz'⟩:=h.hp 500000 _ hbx'
    have hpin:σ 500000=.pointer (some ⟨b,0,none⟩):=h.pin 500000 _ (show(if(500000:Nat)=500000 then some (Value.pointer (some ⟨b,0,none⟩))else none)=_ from if_pos rfl)
    rw[hpin]at hσ'
    simp only[Value.pointer.injEq,jc,Addr.mk.injEq,and_true]at hσ'
    subst hσ'
    have hkl:(∀j,j∈l0→∃Ga,s.heap j=some Ga)∧(if vw then Wa w' (OO (fun c=>O c∨c∈b::(F0++F2)) s φ) τ' x' cur'.toList∧l0=[]else Ic w' τ' x' cur'.toList (Ha φ l0)):=by
     cases vw with
     |true=>
      simp only[zg]at hx'
      split at hx'
      ·rename_i y hy
       simp only[jc,jh]at hx'
       obtain⟨rfl,rfl⟩:=hx'
       exact⟨by simp,by simp only[if_true];exact⟨(Qi hy).2 _ hr0,trivial⟩⟩
      ·simp at hx'
     |false=>
      simp only[zh]at hx'
      obtain⟨g1,g2⟩:=Er h hx' hr0
      exact⟨g2,by simpa using g1⟩
    obtain⟨hlive0,hx1⟩:=hkl
    obtain⟨vs,hvs,hru⟩:=RK hG.toEnvTy h hd
    obtain⟨hR,hlive⟩:=KZ h hr hru
    have hall:∀j,j∈500000::(l0++l)→∃Ga,s.heap j=some Ga:=by
     intro j hj
     rcases jp.1 hj with rfl|hj
     ·exact⟨_,hbx'⟩
     ·rcases jl.1 hj with hj|hj
      ·exact hlive0 j hj
      ·exact hlive j hj
    have hbk:Ha φ (500000::(l0++l))=b::(Ha φ l0++Ha φ l):=by
     have:Ha φ (500000::(l0++l))=φ 500000++Ha φ (l0++l):=by simp only[Ha,yk,yp]
     rw[this,hF',Ye];rfl
    have hbn:=Rg h hnd' hall
    rw[hbk]at hbn
    have hinOO:∀c,c∈Ha φ l0++Ha φ l→OO (fun c=>O c∨c∈b::(F0++F2)) s φ c:=by
     intro c hc
     rw[←Ye]at hc
     obtain⟨j,hj,hm'⟩:=Pb.1 hc
     obtain⟨Ga,hbj⟩:=hall j (jr _ hj)
     exact .inr ⟨j,Ga,hbj,hm'⟩
    refine⟨h.df,_,YL hvs,vs,cur',et',Ha φ l0,Ha φ l,rfl,⟨h.fr.size,fun c hc hno=>h.fr.block c hc hno,h.fr.os,h.fr.tape,h.fr.output⟩,hh',hsz',?_,hR.mono ?_,hbn,?_⟩
    ·cases vw with
     |true=>
      simp only[if_true]at hx1⊢
      refine⟨hx1.1.weaken ?_,by rw[hx1.2];simp[Ha]⟩
      rintro c (hc|hc|hc)
      ·exact .inl (.inl hc)
      ·exact .inl (.inr hc)
      ·exact hinOO c (qv _ hc)
     |false=>simpa using hx1
    ·rintro c (hc|hc|hc|hc)
     ·exact .inl (.inl hc)
     ·exact .inl (.inr hc)
     ·exact hinOO c (qu _ hc)
     ·exact hinOO c (qv _ hc)
    ·intro c hcm
     have hcb:c≠b:=by
      rintro rfl
      exact(ym.1 hbn).1 hcm
     rw[←Ye]at hcm
     obtain⟨j,hj,hm'⟩:=Pb.1 hcm
     obtain⟨Ga,hbj⟩:=hall j (jr _ hj)
     rcases h.fresh j Ga hbj c hm' with h1|h1
     ·exact .inl h1
     ·have h1:c∈b::(F0++F2):=h1
      rcases jp.1 h1 with h1|h1
      ·exact absurd h1 hcb
      ·exact .inr h1
   ·simp at hk
  ·simp at hk
 cases e with
 |normal=>exact Xi hk
 |ret=>exact Xi hk
 |exit j=>simp at hk
end
open Go Go.WideShapes
def YV:(τ:Ty)→T τ→Prop
 |.i k,n=>k.has n
 |.b,_=>True
 |.o,_=>True
 |.mp _ _,_=>True
 |.s,x=>ja x≤Ll
 |.sl e,xs=>ja xs≤Ll∧∀i (h:i<ja xs),YV e (List.get xs ⟨i,h⟩)
 |.u,_=>True
 |.p x y,v=>YV x v.1∧YV y v.2
def Ty.pos:Ty→Bool
 |.sl e=>e.pos&&yb 0 e.size
 |.p x y=>x.pos&&y.pos
 |.o=>false
 |.mp _ _=>false
 |_=>true
section
variable{H:Type} {enc:TypeId×Value→H} {P:Program} {w:World} {base:Nat} {spare:Nat→Bool} {held:Bool}
theorem Ev{τ:Ty}{t:TypeId}(h:Ie P τ t=true):P.cellsOf t=τ.size:=by
 obtain⟨i,h1,h2,_⟩:=Tok.size h
 simp[Program.cellsOf,h1,h2]
theorem QaH{k:IntKind}{n:Int}(h:(Lit.int k n).wf=true):k.has n:=by
 simpa[Lit.wf,IntKind.has]using h
theorem YaJ{a:Addr}{n:Nat}(h:n≠0):a.add n=⟨a.block,a.off+n,none⟩:=by
 simp[Addr.add,h]
theorem GW{a:Addr}{n:Nat}{cs:List Value}(h:w.cells? base a n=some cs)(hn:0<n):
 ∃cur et fr,a=⟨a.block,a.off,none⟩∧w.heap[a.block]?=some (.cells cur et fr)∧a.off+n≤cur.size∧cs=Ae cur a.off n:=by
 unfold World.cells? at h
 split at h
 ·have hlen:cs.length=n:=by simpa using mapM_some_length h
  have hget:∀i,i<n→w.cell? (a.add i)=cs[i]?:=fun i hi=>mapM_some_get h i i (by simp[hi])
  have h0:=hget 0 hn
  have ha:a.add 0=a:=by simp[Addr.add]
  rw[ha]at h0
  have hc0:cs[0]?=some (cs[0]'(by omega)):=je (by omega)
  rw[hc0]at h0
  unfold World.cell? at h0
  split at h0
  ·rename_i cur et fr hb
   have hsp:a.spot=none:=by
    cases hs:a.spot with
    |none=>rfl
    |some x=>simp[hs]at h0
   have hcell:∀i,i<n→cur[a.off+i]?=cs[i]?:=by
    intro i hi
    have:=hget i hi
    by_cases hi0:i=0
    ·subst hi0
     rw[ha]at this
     unfold World.cell? at this
     rw[hb]at this
     simpa[hsp]using this
    ·rw[YaJ hi0]at this
     unfold World.cell? at this
     simp only at this
     rw[hb]at this
     simpa using this
   refine⟨cur,et,fr,by cases a;simp_all,hb,?_,?_⟩
   ·have h1:=hcell (n-1) (by omega)
    rw[je (by omega)]at h1
    have:=(Array.getElem?_eq_some_iff.1 h1).1
    omega
   ·apply qp
    intro i
    by_cases hi:i<n
    ·rw[Ag _ _ _ _ hi,hcell i hi]
    ·rw[qt (by omega),qt]
     simp[Ae];omega
  ·simp at h0
 ·simp at h
theorem IaE{fs:List Field}{o:Nat}(h:Yg P .u fs o=true):fs=[]:=by
 cases fs<;>simp_all [Yg]
theorem Zad{x y:Ty}{fs:List Field}{o:Nat}(h:Yg P (.p x y) fs o=true):∃f r,fs=f::r∧f.offset=o∧Ie P x f.type=true∧Yg P y r (o+x.size)=true:=by
 cases fs with
 |nil=>simp[Yg]at h
 |cons f r=>
  simp only[Yg,jd]at h
  exact⟨f,r,rfl,ju h.1.1.1,h.1.2,h.2⟩
theorem Rac{x y:Ty}{t:TypeId}(h:Ie P (.p x y) t=true):∃fs,P.underlying t=some (.struct fs)∧Yg P (.p x y) fs.toList 0=true:=by
 simp only[Ie,jd]at h
 obtain⟨_,h⟩:=h
 split at h
 ·rename_i fs hfs
  refine⟨fs,hfs,?_⟩
  split at h
  ·rename_i f r hr
   rw[hr]
   simpa[Yg]using h
  ·simp at h
 ·simp at h
theorem Sac{t:TypeId}(h:Ie P .u t=true):∃fs,P.underlying t=some (.struct fs)∧fs.size=0:=by
 simp only[Ie,jd]at h
 obtain⟨_,h⟩:=h
 split at h
 ·rename_i fs hfs
  exact⟨fs,hfs,ju h⟩
 ·simp at h
mutual
theorem MY(hO:∀b,¬(fun _:Nat=>False) b):∀(τ:Ty) (t:TypeId) (n:Nat) (cs:List Value) (x:DataW H×List MemPlace),Ie P τ t=true→τ.pos=true→
 DataW.trod enc P w base spare held n t cs=some x→∃y:T τ,Wa w (fun _=>False) τ y cs∧YV τ y
 |.i k,t,n,cs,x,ht,_,h=>by
  obtain⟨m,h1,_,h2⟩:=DataW.trod_int (Tok.i ht) h
  exact⟨m,h1,QaH h2⟩
 |.b,t,n,cs,x,ht,_,h=>by
  obtain⟨m,h1,_⟩:=DataW.trod_bool (Tok.b ht) h
  exact⟨m,h1,trivial⟩
 |.o,t,n,cs,x,ht,hp,h=>by simp[Ty.pos]at hp
 |.mp _ _,t,n,cs,x,ht,hp,h=>by simp[Ty.pos]at hp
 |.s,t,n,cs,x,ht,_,h=>by
  obtain⟨m,h1,_,h2⟩:=DataW.trod_string (Tok.s ht) h
  refine⟨m.data.toList,?_,?_⟩
  ·show cs=[.string ⟨qr m.data.toList⟩]
   rw[h1]
  ·show m.data.toList.length≤Ll
   have:m.size=m.data.toList.length:=Array.length_toList.symm
   unfold maxLen at h2
   unfold Ll
   omega
 |.sl e,t,n,cs,x,ht,hp,h=>by
  obtain⟨et,hu,he⟩:=Tok.sl ht
  simp only[Ty.pos,jd]at hp
  have hpos:0<e.size:=by simpa using hp.2
  rcases DataW.trod_slice hu h with⟨h1,_⟩|⟨a,len,cap,elems,rest,m,_,h1,_,_,h2,h3,h4,h5,_,_⟩
  ·exact⟨([]:List (T e)),⟨none,0,h1,jo _,Nat.zero_le _,.inl rfl⟩,⟨Nat.zero_le _,fun i hi=>absurd hi (Nat.not_lt_zero i)⟩⟩
  ·rw[Ev he]at h5
   have hone:∀i,i<len→∃y:T e,∃cs',w.cells? base (a.add (i*e.size)) e.size=some cs'∧Wa w (fun _=>False) e y cs'∧YV e y:=by
    intro i hi
    have:=h5 i hi
    rw[je (by omega),qd]at this
    obtain⟨cs',hc,hy⟩:=this
    obtain⟨y,hv,hr⟩:=MY hO e et m cs' _ he hp.1 hy
    exact⟨y,cs',hc,hv,hr⟩
   let ys:List (T e):=List.ofFn fun i:Fin len=>Classical.choose (hone i.1 i.2)
   have hlen:ys.length=len:=by simp[ys]
   have hy:∀i (h:i<ys.length),∃cs',w.cells? base (a.add (i*e.size)) e.size=some cs'∧Wa w (fun _=>False) e (ys.get ⟨i,h⟩) cs'∧YV e (ys.get ⟨i,h⟩):=by
    intro i hi
    have:=Classical.choose_spec (hone i (by omega))
    simpa[ys]using this
   have hmax:len≤Ll:=by unfold maxLen at h3;unfold Ll;omega
   refine⟨ys,⟨some a,cap,by rw[h1,hlen],by rw[hlen];exact h2,by rw[hlen];exact hmax,?_⟩,by rw[hlen];exact hmax,fun i hi=>(hy i hi).choose_spec.2.2⟩
   by_cases hl0:len=0
   ·left
    exact q7 (by omega)
   ·right
    obtain⟨cs0,hc0,_⟩:=hy 0 (by omega)
    have ha0:a.add (0*e.size)=a:=by simp[Addr.add]
    rw[ha0]at hc0
    obtain⟨cur,et',fr,ha,hb,_,_⟩:=GW hc0 hpos
    have hadd:∀i,(a.add (i*e.size)).block=a.block∧(a.add (i*e.size)).off=a.off+i*e.size:=by
     intro i
     unfold Addr.add
     split
     ·rename_i hz;simp[hz]
     ·exact⟨rfl,rfl⟩
    refine⟨a.block,a.off,cur,et',fr,by rw[←ha],fun h=>h,hb,?_,?_⟩
    ·obtain⟨cs1,hc1,_⟩:=hy (len-1) (by omega)
     obtain⟨cur1,et1,fr1,_,hb1,hs1,_⟩:=GW hc1 hpos
     rw[(hadd _).1,hb]at hb1
     simp only[jc,Obj.cells.injEq]at hb1
     rw[(hadd _).2,←hb1.1]at hs1
     have:len*e.size=(len-1)*e.size+e.size:=by
      rw[←yq];congr 1;omega
     show a.off+ys.length*e.size≤cur.size
     rw[hlen]
     omega
    ·intro i hi
     obtain⟨cs1,hc1,hv,_⟩:=hy i hi
     obtain⟨cur1,et1,fr1,_,hb1,_,hs1⟩:=GW hc1 hpos
     rw[(hadd _).1,hb]at hb1
     simp only[jc,Obj.cells.injEq]at hb1
     rw[(hadd _).2,←hb1.1]at hs1
     rw[←hs1]
     exact hv
 |.u,t,n,cs,x,ht,_,h=>by
  obtain⟨fs,hu,hz⟩:=Sac ht
  obtain⟨xs,m,_,_,hl,_⟩:=DataW.trod_struct hu h
  rw[Ev ht]at hl
  exact⟨(),q7 hl,trivial⟩
 |.p a c2,t,n,cs,x,ht,hp,h=>by
  obtain⟨fs,hu,hf⟩:=Rac ht
  obtain⟨xs,m,_,_,hl,_,hget⟩:=DataW.trod_struct hu h
  rw[Ev ht]at hl
  have:=YZ hO (.p a c2) fs.toList 0 m cs hf hp (by simpa using hl) (by
   intro i f hi
   have:=hget i f (by simpa using hi)
   have hlt:i<xs.length:=by
    have:i<fs.toList.length:=(q8.1 hi).1
    simp at this;omega
   exact⟨_,this.trans (je hlt)⟩)
  simpa using this
termination_by τ=>(sizeOf τ,1)
theorem YZ(hO:∀b,¬(fun _:Nat=>False) b):∀(τ:Ty) (fs:List Field) (o m:Nat) (cs:List Value),Yg P τ fs o=true→τ.pos=true→cs.length=o+τ.size→
 (∀(i:Nat) (f:Field),fs[i]?=some f→∃x,DataW.trod enc P w base spare held m f.type ((cs.drop f.offset).take (P.cellsOf f.type))=some x)→
 ∃y:T τ,Wa w (fun _=>False) τ y (cs.drop o)∧YV τ y
 |.p a c2,fs,o,m,cs,hf,hp,hl,hx=>by
  obtain⟨f,r,rfl,ho,ht,hr⟩:=Zad hf
  simp only[Ty.pos,jd]at hp
  simp only[Ty.size]at hl
  obtain⟨z,hz⟩:=hx 0 f rfl
  rw[Ev ht,ho]at hz
  obtain⟨y1,hv1,hr1⟩:=MY hO a f.type m _ z ht hp.1 hz
  obtain⟨y2,hv2,hr2⟩:=YZ hO c2 r (o+a.size) m cs hr hp.2 (by omega) (fun i f' hi=>hx (i+1) f' (by simpa using hi))
  refine⟨(y1,y2),⟨(cs.drop o).take a.size,cs.drop (o+a.size),?_,hv1,hv2⟩,hr1,hr2⟩
  rw[←qq,List.take_append_drop]
 |.u,fs,o,m,cs,_,_,hl,_=>⟨(),by simp only[Wa,Ty.size]at hl⊢;exact List.drop_of_length_le (by omega),trivial⟩
 |.i _,fs,o,m,cs,hf,_,_,_=>by simp[Yg]at hf
 |.b,fs,o,m,cs,hf,_,_,_=>by simp[Yg]at hf
 |.o,fs,o,m,cs,hf,_,_,_=>by simp[Yg]at hf
 |.mp _ _,fs,o,m,cs,hf,_,_,_=>by simp[Yg]at hf
 |.s,fs,o,m,cs,hf,_,_,_=>by simp[Yg]at hf
 |.sl _,fs,o,m,cs,hf,_,_,_=>by simp[Yg]at hf
termination_by τ=>(sizeOf τ,0)
end
end
open Go Go.WideShapes Go.ChangeShapes
def Pn(P:Program):Ty→List TypeId→Bool
 |.p x y,t::ts=>Ie P x t&&x.pos&&Pn P y ts
 |.u,[]=>true
 |_,_=>false
section
variable{H:Type} {enc:TypeId×Value→H} {P:Program} {w:World} {base:Nat} {spare:Nat→Bool} {held:Bool}
theorem Mas{τ:Ty}{t:TypeId}{v:Value}{r:Reach}{b0:Nat}(ht:Ie P τ t=true)(h:Value.okWide P w r b0 t v):v=Me τ v.cells.toList:=by
 have key:∀{τ:Ty},τ.isAgg=false→v.cells= #[v]→v=Me τ v.cells.toList:=by
  intro τ h1 h2
  rw[h2];simp[Me,h1]
 cases τ with
 |i k=>
  obtain⟨n,rfl⟩:=okWide_int (Tok.i ht) h
  exact key rfl rfl
 |b=>
  obtain⟨n,rfl⟩:=okWide_bool (Tok.b ht) h
  exact key rfl rfl
 |o=>
  refine key rfl ?_
  obtain⟨et,hu⟩:=Tok.o ht
  unfold Value.okWide at h
  rw[hu]at h
  cases v with
  |agg cs=>simp[Cell.okWide,Cell.ok,hu]at h
  |_=>rfl
 |mp _ _=>
  refine key rfl ?_
  obtain⟨kt,et,hu,_⟩:=Tok.mp ht
  unfold Value.okWide at h
  rw[hu]at h
  cases v with
  |agg cs=>simp[Cell.okWide,Cell.ok,hu]at h
  |_=>rfl
 |s=>
  refine key rfl ?_
  have hu:=Tok.s ht
  unfold Value.okWide at h
  rw[hu]at h
  cases v with
  |agg cs=>simp[Cell.okWide,Cell.ok,hu]at h
  |_=>rfl
 |sl e=>
  refine key rfl ?_
  obtain⟨et,hu,_⟩:=Tok.sl ht
  unfold Value.okWide at h
  rw[hu]at h
  cases v with
  |agg cs=>simp[Cell.okWide,Cell.ok,hu]at h
  |_=>rfl
 |u=>
  obtain⟨fs,hu,_⟩:=Sac ht
  obtain⟨cs,rfl,_⟩:=okWide_struct hu h
  simp[Me,Ty.isAgg,Value.cells]
 |p x y=>
  obtain⟨fs,hu,_⟩:=Rac ht
  obtain⟨cs,rfl,_⟩:=okWide_struct hu h
  simp[Me,Ty.isAgg,Value.cells]
theorem LY:∀{pt:Ty} {ts:List TypeId} {vs:List Value} {ds:List (DataW H)} {ps:List MemPlace},Pn P pt ts=true→DataW.TrodAll enc P w 0 spare held ts vs ds ps→
 (∀(j:Nat) t v,ts[j]?=some t→vs[j]?=some v→Value.okWide P w .any base t v)→∃x:T pt,Bi w (fun _=>False) pt x vs∧YV pt x
 |.p x y,t::ts,v::vs,d::ds,ps,hp,h,hv=>by
  simp only[Pn,jd]at hp
  obtain⟨p,q,⟨n,h1⟩,h2,_⟩:=h
  obtain⟨a,ha,hra⟩:=MY (fun _ h=>h) x t n _ _ hp.1.1 hp.1.2 h1
  obtain⟨b,hb,hrb⟩:=LY hp.2 h2 fun j t' v' h1 h2=>hv (j+1) t' v' (by simpa using h1) (by simpa using h2)
  exact⟨(a,b),⟨⟨_,Mas hp.1.1 (hv 0 t v rfl rfl),ha⟩,hb⟩,hra,hrb⟩
 |.u,[],[],[],_,_,_,_=>⟨(),trivial,trivial⟩
 |.p _ _,[],_,_,_,hp,_,_=>by simp[Pn]at hp
 |.u,_::_,_,_,_,hp,_,_=>by simp[Pn]at hp
 |.i _,_,_,_,_,hp,_,_=>by simp[Pn]at hp
 |.b,_,_,_,_,hp,_,_=>by simp[Pn]at hp
 |.o,_,_,_,_,hp,_,_=>by simp[Pn]at hp
 |.mp _ _,_,_,_,_,hp,_,_=>by simp[Pn]at hp
 |.s,_,_,_,_,hp,_,_=>by simp[Pn]at hp
 |.sl _,_,_,_,_,hp,_,_=>by simp[Pn]at hp
 |.p _ _,_::_,[],_,_,_,h,_=>by simp[DataW.TrodAll]at h
 |.p _ _,_::_,_::_,[],_,_,h,_=>by simp[DataW.TrodAll]at h
 |.u,[],_::_,_,_,_,h,_=>by simp[DataW.TrodAll]at h
 |.u,[],[],_::_,_,_,h,_=>by simp[DataW.TrodAll]at h
def QY(P:Program)(t:TypeId):Prop:=∃τ:Ty,Ie P τ t=true∧τ.pos=true
theorem Aae:∀{τ:Ty} {fs:List Field} {o:Nat},Yg P τ fs o=true→τ.pos=true→
 (∀f∈fs,QY P f.type)∧τ.size=(fs.map fun f=>P.cellsOf f.type).sum∧∀(j:Nat) f,fs[j]?=some f→f.offset=o+((fs.take j).map fun f=>P.cellsOf f.type).sum
 |.u,fs,o,h,_=>by
  rw[IaE h]
  simp[Ty.size]
 |.p x y,fs,o,h,hp=>by
  obtain⟨f,r,rfl,ho,ht,hr⟩:=Zad h
  simp only[Ty.pos,jd]at hp
  obtain⟨h1,h2,h3⟩:=Aae hr hp.2
  refine⟨?_,?_,?_⟩
  ·intro g hg
   rcases jp.1 hg with rfl|hg
   ·exact⟨x,ht,hp.1⟩
   ·exact h1 g hg
  ·simp[Ty.size,Ev ht,h2]
  ·intro j g hj
   cases j with
   |zero=>simp at hj;subst hj;simp[ho]
   |succ j=>
    have:=h3 j g (by simpa using hj)
    simp[this,Ev ht,jt]
 |.i _,fs,o,h,_=>by simp[Yg]at h
 |.b,fs,o,h,_=>by simp[Yg]at h
 |.o,fs,o,h,_=>by simp[Yg]at h
 |.mp _ _,fs,o,h,_=>by simp[Yg]at h
 |.s,fs,o,h,_=>by simp[Yg]at h
 |.sl _,fs,o,h,_=>by simp[Yg]at h
theorem UM{t:TypeId}{u:TypeDesc}(h:QY P t)(hu:P.underlying t=some u):(∃k,u=.int k)∨u=.bool∨u=.string∨(∃e,u=.slice e∧QY P e∧0<P.cellsOf e)∨∃fs,u=.struct fs:=by
 obtain⟨τ,ht,hp⟩:=h
 cases τ with
 |i k=>rw[Tok.i ht]at hu;exact .inl ⟨k,(zb hu).symm⟩
 |b=>rw[Tok.b ht]at hu;exact .inr (.inl (zb hu).symm)
 |o=>simp[Ty.pos]at hp
 |mp _ _=>simp[Ty.pos]at hp
 |s=>rw[Tok.s ht]at hu;exact .inr (.inr (.inl (zb hu).symm))
 |sl e=>
  obtain⟨et,h1,h2⟩:=Tok.sl ht
  rw[h1]at hu
  simp only[Ty.pos,jd]at hp
  exact .inr (.inr (.inr (.inl ⟨et,(zb hu).symm,⟨e,h2,hp.1⟩,by rw[Ev h2];simpa using hp.2⟩)))
 |u=>obtain⟨fs,h1,_⟩:=Sac ht;rw[h1]at hu;exact .inr (.inr (.inr (.inr ⟨fs,(zb hu).symm⟩)))
 |p x y=>obtain⟨fs,h1,_⟩:=Rac ht;rw[h1]at hu;exact .inr (.inr (.inr (.inr ⟨fs,(zb hu).symm⟩)))
theorem Haq:Kids P (QY P):=by
 refine⟨?_,?_,?_,?_,?_⟩
 ·intro t e ht hu
  rcases UM ht hu with⟨k,h⟩|h|h|⟨e',h,_⟩|⟨fs,h⟩<;>simp at h
 ·intro t e ht hu
  rcases UM ht hu with⟨k,h⟩|h|h|⟨e',h,h2,_⟩|⟨fs,h⟩<;>simp at h
  rw[h];exact h2
 ·intro t e n ht hu
  rcases UM ht hu with⟨k,h⟩|h|h|⟨e',h,_⟩|⟨fs,h⟩<;>simp at h
 ·intro t fs ht hu
  obtain⟨τ,ht,hp⟩:=ht
  cases τ with
  |i k=>rw[Tok.i ht]at hu;simp at hu
  |b=>rw[Tok.b ht]at hu;simp at hu
  |o=>simp[Ty.pos]at hp
  |mp _ _=>simp[Ty.pos]at hp
  |s=>rw[Tok.s ht]at hu;simp at hu
  |sl e=>obtain⟨et,h1,_⟩:=Tok.sl ht;rw[h1]at hu;simp at hu
  |u=>
   obtain⟨fs',h1,h2⟩:=Sac ht
   rw[h1]at hu
   simp only[jc,TypeDesc.struct.injEq]at hu
   subst hu
   have:fs'.toList=[]:=by simpa using h2
   rw[Ev ht,this]
   simp[Ty.size]
  |p x y=>
   obtain⟨fs',h1,h2⟩:=Rac ht
   rw[h1]at hu
   simp only[jc,TypeDesc.struct.injEq]at hu
   subst hu
   obtain⟨a,b,c⟩:=Aae h2 hp
   exact⟨a,by rw[Ev ht,b],fun j f hj=>by simpa using c j f hj⟩
 ·intro t k e ht hu
  rcases UM ht hu with⟨k,h⟩|h|h|⟨e',h,_⟩|⟨fs,h⟩<;>simp at h
theorem M0:∀{pt:Ty} {ts:List TypeId},Pn P pt ts=true→∀t∈ts,QY P t
 |.p x y,t::ts,h,t',ht=>by
  simp only[Pn,jd]at h
  rcases jp.1 ht with rfl|ht
  ·exact⟨x,h.1.1,h.1.2⟩
  ·exact M0 h.2 t' ht
 |.u,[],_,_,ht=>by simp at ht
 |.p _ _,[],_,_,ht=>by simp at ht
 |.u,_::_,h,_,_=>by simp[Pn]at h
 |.i _,_,h,_,_=>by simp[Pn]at h
 |.b,_,h,_,_=>by simp[Pn]at h
 |.o,_,h,_,_=>by simp[Pn]at h
 |.mp _ _,_,h,_,_=>by simp[Pn]at h
 |.s,_,h,_,_=>by simp[Pn]at h
 |.sl _,_,h,_,_=>by simp[Pn]at h
theorem VV{w':World}{sp':Nat→Bool}:∀{ts:List TypeId} {vs:List Value} {ds:List (DataW H)} {ps:List MemPlace},(∀t∈ts,QY P t)→
 DataW.TrodAll enc P w 0 (fun _=>true) true ts vs ds ps→(∀p∈ps,w.sameAt w' p)→(∀p∈ps,sp' p.block=true)→DataW.TrodAll enc P w' 0 sp' true ts vs ds ps
 |[],[],[],_,_,h,_,_=>h
 |t::ts,v::vs,d::ds,ps,hp,h,h1,h2=>by
  obtain⟨p,q,⟨n,ha⟩,hb,rfl⟩:=h
  refine⟨p,q,⟨n,DataW.trod_stays Haq ?_ (fun h=>by simp at h) (hp t (by simp)) ha (fun z hz=>h1 z (qu _ hz)) (fun z hz=>h2 z (qu _ hz))⟩,
   VV (fun t ht=>hp t (by simp[ht])) hb (fun z hz=>h1 z (qv _ hz)) (fun z hz=>h2 z (qv _ hz)),rfl⟩
  intro t e ht hu
  rcases UM ht hu with⟨k,h⟩|h|h|⟨e',h,_,h2⟩|⟨fs,h⟩<;>simp at h
  rw[h];exact h2
 |[],_::_,_,_,_,h,_,_=>by simp[DataW.TrodAll]at h
 |[],[],_::_,_,_,h,_,_=>by simp[DataW.TrodAll]at h
 |_::_,[],_,_,_,h,_,_=>by simp[DataW.TrodAll]at h
 |_::_,_::_,[],_,_,h,_,_=>by simp[DataW.TrodAll]at h
theorem T0:∀{ts:List TypeId} {vs:List Value} {ds:List (DataW H)} {ps:List MemPlace},DataW.TrodAll enc P w base spare held ts vs ds ps→ds.length=ts.length
 |[],[],[],_,_=>rfl
 |_::_,_::_,_::_,_,h=>by
  obtain⟨_,_,_,h,_⟩:=h
  simp[T0 h]
 |[],_::_,_,_,h=>by simp[DataW.TrodAll]at h
 |[],[],_::_,_,h=>by simp[DataW.TrodAll]at h
 |_::_,[],_,_,h=>by simp[DataW.TrodAll]at h
 |_::_,_::_,[],_,h=>by simp[DataW.TrodAll]at h
theorem AD.but{w w':World}(h:AD w w' fun _=>False)(may:MemPlace→Prop):w.keptBut w' may:=by
 refine⟨h.os,h.output,fun i hi=>?_⟩
 rw[h.block i hi (fun h=>h)]
 cases w.heap[i]? with
 |none=>rfl
 |some o=>
  cases o with
  |cells c t fr=>exact⟨rfl,rfl,rfl,fun _ _=>rfl⟩
  |map es clock=>exact .inr ⟨rfl,rfl⟩
  |_=>rfl
end
noncomputable def Eb{X R:Type}(step:X→Option (X⊕R))(x:X):Option R:=
 open Classical in if h:∃m y,AN step m x y then some h.choose_spec.choose else none
theorem AN.det{X R:Type}{step:X→Option (X⊕R)}:∀{m n:Nat} {x:X} {y z:R},AN step m x y→AN step n x z→y=z
 |0,_,_,_,_,h,_=>h.elim
 |_+1,0,_,_,_,_,h=>h.elim
 |m+1,n+1,x,y,z,h,h'=>by
  rcases h with h|⟨x1,h,h1⟩<;>rcases h' with h'|⟨x2,h',h2⟩
  ·rw[h]at h';simpa using h'
  ·rw[h]at h';simp at h'
  ·rw[h]at h';simp at h'
  ·rw[h]at h'
   simp only[jc,za]at h'
   subst h'
   exact AN.det h1 h2
theorem BR{X R:Type}{step:X→Option (X⊕R)}{x:X}{y:R}:Eb step x=some y↔∃m,AN step m x y:=by
 unfold Eb
 constructor
 ·intro h
  split at h
  ·rename_i hh
   simp only[jc]at h
   exact⟨_,h▸hh.choose_spec.choose_spec⟩
  ·simp at h
 ·rintro⟨m,h⟩
  have hh:∃m y,AN step m x y:=⟨m,y,h⟩
  rw[dif_pos hh]
  exact congrArg some (AN.det hh.choose_spec.choose_spec h)
theorem VI{X R:Type}{step:X→Option (X⊕R)}(x:X):Eb step x=(step x).bind (Sum.elim (Eb step) some):=by
 apply Option.ext
 intro y
 rw[BR]
 constructor
 ·rintro⟨m,h⟩
  cases m with
  |zero=>exact h.elim
  |succ m=>
   rcases h with h|⟨x',h,h'⟩
   ·simp[h]
   ·simp[h,BR.2 ⟨m,h'⟩]
 ·intro h
  rw[qd]at h
  obtain⟨z,hz,h⟩:=h
  cases z with
  |inl x'=>
   obtain⟨m,hm⟩:=BR.1 h
   exact⟨m+1,.inr ⟨x',hz,hm⟩⟩
  |inr z=>
   simp only[Sum.elim_inr,jc]at h
   subst h
   exact⟨1,.inl hz⟩
def lp(fn:Func)(i:Nat):Code:=(Uf (fn.body.getD .skip)).getD i .skip
theorem U9{G:Sf}{L:List (Nat×Qa)}{fn:Func}{i r:Nat}{ls:Qa}{R:ls.inT.X→Option (ls.inT.X⊕(ls.outT.X⊕ls.retT.X))}
 (h1:Ln (lp fn i)=some r) (h2:(Xb L r)=some ls) (h3:ls.F=Eb R) (h4:∀x,JR G L ls (lp fn i) x=R x):Ab G L (lp fn i):=by
 intro r' ls' hr hl x y hy
 rw[h1]at hr
 simp only[jc]at hr
 subst hr
 rw[h2]at hl
 simp only[jc]at hl
 subst hl
 rw[h3]at hy
 obtain⟨m,hm⟩:=BR.1 hy
 have:JR G L ls (lp fn i)=R:=funext h4
 rw[this]
 exact⟨m,hm⟩
theorem HX{G:Sf}{L:List (Nat×Qa)}{fn:Func}{k:Nat}(hk:qw (Uf (fn.body.getD .skip)).length k=true)(h:∀i,i<k→Ab G L (lp fn i)):
 ∀b,b∈Uf (fn.body.getD .skip)→Ab G L b:=by
 intro b hb
 obtain⟨i,hi,rfl⟩:=List.mem_iff_getElem.1 hb
 have:=h i (by rw[←ju hk];exact hi)
 unfold lp at this
 rwa [qe,je hi]at this
theorem Ma{p:Nat→Prop}:∀i,i<0→p i:=fun i h=>absurd h (Nat.not_lt_zero i)
theorem Ja{p:Nat→Prop}{k:Nat}(h:p k)(hr:∀i,i<k→p i):∀i,i<k+1→p i:=by
 intro i hi
 rcases Nat.lt_or_eq_of_le (Nat.lt_succ_iff.1 hi)with hi|rfl
 ·exact hr i hi
 ·exact h
section
variable{P:Program}
theorem Rax{l:List (Nat×Ty)}{fs:List (Nat×Pa)}{m:List (Nat×Nat)}{z:Bool}{ar:List (Nat×Ty×Nat)}{mv ml:List Nat}
 (h:((l.all fun x=>Ie P x.2 x.1)&&(ar.all fun x=>B1 P x.1 x.2.1 x.2.2))=true):EnvTy P ⟨l,fs,m,z,ar,mv,ml⟩:=by
 simp only[jd]at h
 exact⟨fun t τ ht=>yx.1 h.1 (t,τ) (ED ht),fun t e n ht=>yx.1 h.2 (t,e,n) (ED ht)⟩
theorem M9{I:Bh}{l:List (Nat×Ty)}{m:List (Nat×Nat)}{z:Bool}{ar:List (Nat×Ty×Nat)}{mv ml:List Nat}
 (h:((l.all fun x=>Ie P x.2 x.1)&&(ar.all fun x=>B1 P x.1 x.2.1 x.2.2))=true):Kn P I ⟨l,[],m,z,ar,mv,ml⟩:=
 {toEnvTy:=Rax h,fn:=fun f sem h=>by simp[Xb]at h}
theorem Kn.cons{I:Bh}{l:List (Nat×Ty)}{fs:List (Nat×Pa)}{m:List (Nat×Nat)}{z:Bool}{ar:List (Nat×Ty×Nat)}{mv ml:List Nat}{f:Nat}{sem:Pa}(hs:Zh P I f sem)
 (h:Kn P I ⟨l,fs,m,z,ar,mv,ml⟩):Kn P I ⟨l,(f,sem)::fs,m,z,ar,mv,ml⟩:=
 {toEnvTy:=⟨h.ty,h.ar⟩,fn:=fun g s hg=>by
    simp only[Id]at hg
    split at hg
    ·rename_i e
     simp only[jc]at hg
     subst e;subst hg
     exact hs
    ·exact h.fn g s hg}
theorem CW{fn:Func}(h:fn.body.isSome=true):fn.body=some (fn.body.getD .skip):=by
 cases hb:fn.body with
 |none=>rw[hb]at h;simp at h
 |some c=>rfl
variable{I:Bh} {G:Sf} {L:List (Nat×Qa)}
theorem ZX(hG:Kn P I G)(hm:P.follows .mixedOrders=true){f:FuncId}{fn:Func}{k:Nat}{pt rt:Ty}{fr:List Bool}{F:T pt→Option (T rt)}(hf:P.funcs[f]?=some fn)
 (hb:(fn.body.isSome&&!(fn.name== "runtime.NumGoroutine")&&jx pt.npar fn.ntmps&&qw (Uf (fn.body.getD .skip)).length k)=true)
 (hL:∀i,i<k→Ab G L (lp fn i)) (hF:∀x,evF G L fn pt rt fr x=F x):Zh P I f (.pu pt rt fr F):=by
 simp only[jd,yl]at hb
 exact Taz hG hm hf (CW hb.1.1.1) hb.1.1.2 (HX hb.2 hL) (q6 hb.1.2) fun x r h=>(hF x).trans h
theorem Vav(hG:Kn P I G)(hfz:(!G.fz||cmB G.att)=true)(hm:P.follows .mixedOrders=true){f:FuncId}{fn:Func}{k:Nat}{pt rt:Ty}{fr:List Bool}{F:T pt→Option (T rt)}(hf:P.funcs[f]?=some fn)
 (hb:(fn.body.isSome&&!(fn.name== "runtime.NumGoroutine")&&jx pt.npar fn.ntmps&&qw (Uf (fn.body.getD .skip)).length k)=true)
 (hL:∀i,i<k→Ab G L (lp fn i)) (hF:∀x,Jac G L fn pt rt fr x=F x):Zh P I f (.co pt rt fr F):=by
 simp only[jd,yl]at hb
 exact Saz hG (by simpa using hfz) hm hf (CW hb.1.1.1) hb.1.1.2 (HX hb.2 hL) (q6 hb.1.2) fun x r h=>(hF x).trans h
theorem Tav(hG:Kn P I G){vw cv:Bool}(hfz:(!G.fz||((vw&&!cv)&&OJ G.att))=true)(hm:P.follows .mixedOrders=true){f:FuncId}{fn:Func}{k:Nat}{τ pt rt:Ty}{fr:List Bool}{F:T τ→T pt→Option (T τ×T rt)}(hf:P.funcs[f]?=some fn)
 (hb:(fn.body.isSome&&!(fn.name== "runtime.NumGoroutine")&&jx (pt.npar+1) fn.ntmps&&qw (Uf (fn.body.getD .skip)).length k)=true)
 (hL:∀i,i<k→Ab G L (lp fn i)) (hF:∀x0 x,Iac G L fn vw cv τ pt rt fr x0 x=F x0 x):Zh P I f (.bx vw cv τ pt rt fr F):=by
 simp only[jd,yl]at hb
 have hz:G.fz=false∨((vw&&!cv)=true∧OJ G.att=true):=by
  simp only[qx,yl,jd]at hfz⊢
  exact hfz
 exact Raz hG hz hm hf (CW hb.1.1.1) hb.1.1.2 (HX hb.2 hL) (q6 hb.1.2) fun x0 x r h=>(hF x0 x).trans h
end
abbrev Dh:Ty:=.p (.i .i64) (.p (.sl (.i .i64)) .u)
abbrev Ze:Ty:=.p (.i .i64) (.p .o .u)
def hd(h:T .o):Value:=.slice h.1 h.2.1 h.2.2
section
variable{P:Program} {w w':World}
theorem Dav{x:T Dh}{cs:List Value}{F:List Nat}(h:Ic w Dh x cs F):∃h:T .o,cs=[.int .i64 x.1,hd h]∧Ic w (.sl (.i .i64)) x.2.1 [hd h] F:=by
 obtain⟨c1,c2,F1,F2,rfl,rfl,⟨rfl,rfl⟩,c3,c4,F3,F4,rfl,rfl,h3,rfl,rfl⟩:=h
 have h3':=h3
 obtain⟨_,⟨e1,_,_⟩|⟨bl,off,cap,cur,et,Fs,e1,_⟩⟩:=h3
 ·subst e1
  exact⟨(none,0,0),rfl,by simpa[hd]using h3'⟩
 ·subst e1
  exact⟨(some ⟨bl,off,none⟩,ja x.2.1,cap),rfl,by simpa[hd]using h3'⟩
theorem KaK{x:T Dh}{h:T .o}{F:List Nat}(ho:Ic w (.sl (.i .i64)) x.2.1 [hd h] F):Ic w Dh x [.int .i64 x.1,hd h] F:=
 ⟨[.int .i64 x.1],[hd h],[],F,rfl,rfl,⟨rfl,rfl⟩,[hd h],[],F,[],by simp,by simp,ho,rfl,rfl⟩
theorem Sam(x:T Ze)(O:Nat→Prop):Wa w O Ze x [.int .i64 x.1,hd x.2.1]:=
 ⟨[.int .i64 x.1],[hd x.2.1],rfl,rfl,[hd x.2.1],[],by simp,rfl,rfl⟩
theorem G7{x:T Ze}{O:Nat→Prop}{cs:List Value}(h:Wa w O Ze x cs):cs=[.int .i64 x.1,hd x.2.1]:=by
 obtain⟨c1,c2,rfl,rfl,c3,c4,rfl,rfl,rfl⟩:=h
 rfl
abbrev T3:=T Dh×T Ze×List Nat
def Zao(w:World)(p:T3):Prop:=p.2.1.1=p.1.1∧Ic w (.sl (.i .i64)) p.1.2.1 [hd p.2.1.2.1] p.2.2
theorem Maz{l:List (T Dh)}{cs:List Value}{F:List Nat}(h:Ic w (.sl Dh) l cs F):
 ∃Q:List T3,Q.map (·.1)=l∧Wa w (fun _=>False) (.sl Ze) (Q.map (·.2.1)) cs∧(∀p∈Q,Zao w p)∧(Q.map (·.2.2)).flatten.Sublist F:=by
 obtain⟨hm,⟨rfl,rfl,rfl⟩|⟨bl,off,cap,cur,et,Fs,rfl,hh,h1,h2,h3,rfl,hl,hv⟩⟩:=h
 ·exact⟨[],rfl,⟨none,0,rfl,jo _,hm,.inl rfl⟩,by simp,by simp⟩
 ·have key:∀i:Fin (ja l),∃h:T .o,Ae cur (off+i.val*Dh.size) Dh.size=[.int .i64 (List.get l i).1,hd h]∧Ic w (.sl (.i .i64)) (List.get l i).2.1 [hd h] (Fs.getD i.val []):=
   fun i=>Dav (hv i.val i.isLt)
  have⟨g,hg⟩:=Classical.axiomOfChoice key
  let Q:List T3:=List.ofFn fun i:Fin (ja l)=>(List.get l i,((List.get l i).1,g i,()),Fs.getD i.val [])
  have hQ:∀i (hi:i<ja l),Q[i]'(by simp[Q];exact hi)=(List.get l ⟨i,hi⟩,((List.get l ⟨i,hi⟩).1,g ⟨i,hi⟩,()),Fs.getD i []):=fun i hi=>by simp[Q]
  have hQl:Q.length=ja l:=by simp[Q]
  refine⟨Q,?_,?_,?_,?_⟩
  ·apply List.ext_getElem
   ·simp[hQl]
   ·intro i h1 h2
    rw[List.getElem_map,hQ i h2];rfl
  ·have hlen:ja (Q.map (·.2.1))=ja l:=by simp[hQl]
   refine⟨_,cap,by rw[hlen],by rw[hlen];exact h1,by rw[hlen];exact hm,.inr ⟨bl,off,cur,et,_,rfl,fun h=>h,hh,?_,fun i hi=>?_⟩⟩
   ·rw[hlen]
    have:=jm Dh.size h1
    exact j9 (Nat.add_le_add_left this _) h3
   ·have hi':i<ja l:=by rw[←hlen];exact hi
    have e:List.get (Q.map (·.2.1)) ⟨i,hi⟩=((List.get l ⟨i,hi'⟩).1,g ⟨i,hi'⟩,()):=by
     show(Q.map (·.2.1))[i]=_
     rw[List.getElem_map,hQ i hi']
    rw[e]
    have:=(hg ⟨i,hi'⟩).1
    show Wa w _ Ze _ (Ae cur (off+i*Dh.size) Dh.size)
    rw[this]
    exact Sam (((List.get l ⟨i,hi'⟩).1,g ⟨i,hi'⟩,()):T Ze) _
  ·intro p hp
   obtain⟨i,hi,rfl⟩:=qj hp
   have hi':i<ja l:=by rw[←hQl];exact hi
   rw[hQ i hi']
   exact⟨rfl,(hg ⟨i,hi'⟩).2⟩
  ·have e:Q.map (·.2.2)=Fs:=by
    apply List.ext_getElem
    ·simp[hQl,hl]
    ·intro i h1 h2
     have hi':i<ja l:=by rw[←hl];exact h2
     rw[List.getElem_map,hQ i hi']
     simp[qs,je h2]
   rw[e]
   exact List.sublist_cons_self _ _
theorem Uaz{Q:List T3}{cs:List Value}{F:List Nat}(h:Ic w (.sl Ze) (Q.map (·.2.1)) cs F)(hQ:∀p∈Q,Zao w p):
 ∃F',Ic w (.sl Dh) (Q.map (·.1)) cs F'∧(∀b,b∈F'→b∈F∨b∈(Q.map (·.2.2)).flatten)∧((∀b,b∈F→b∉(Q.map (·.2.2)).flatten)→F.Nodup→(Q.map (·.2.2)).flatten.Nodup→F'.Nodup):=by
 obtain⟨hm,⟨rfl,hn,rfl⟩|⟨bl,off,cap,cur,et,Fs,rfl,hh,h1,h2,h3,rfl,hl,hv⟩⟩:=h
 ·have:Q=[]:=List.map_eq_nil_iff.1 hn
  subst this
  exact⟨[],⟨hm,.inl ⟨rfl,rfl,rfl⟩⟩,by simp,by simp⟩
 ·have hlen:ja (Q.map (·.2.1))=Q.length:=by simp
  have hlen1:ja (Q.map (·.1))=Q.length:=by simp
  rw[hlen]at hm h1 hl
  refine⟨bl::(Q.map (·.2.2)).flatten,⟨by rw[hlen1];exact hm,.inr ⟨bl,off,cap,cur,et,Q.map (·.2.2),by rw[hlen1];simp,hh,by rw[hlen1];exact h1,h2,h3,rfl,by simp,fun i hi=>?_⟩⟩,?_,?_⟩
  ·have hi':i<Q.length:=by rw[←hlen1];exact hi
   have hv':=hv i (by rw[hlen];exact hi')
   have e0:List.get (Q.map (·.2.1)) ⟨i,by rw[hlen];exact hi'⟩=Q[i].2.1:=by
    show(Q.map (·.2.1))[i]'_=_
    rw[List.getElem_map]
   have e1:List.get (Q.map (·.1)) ⟨i,hi⟩=Q[i].1:=by
    show(Q.map (·.1))[i]'_=_
    rw[List.getElem_map]
   rw[e0]at hv'
   rw[e1]
   have hF0:∀b,b∈Fs.getD i []→False:=by
    intro b hb
    obtain⟨c1,c2,F1,F2,_,hF,⟨_,rfl⟩,c3,c4,F3,F4,_,rfl,⟨_,rfl⟩,_,rfl⟩:=hv'
    rw[hF]at hb;simp at hb
   have hcs:=G7 (Ic.view (O:=fun _=>False) hv' (fun b hb h=>h))
   have hok:=hQ Q[i] (qi hi')
   have e2:(Q.map (·.2.2)).getD i []=Q[i].2.2:=by
    simp[qs,je hi']
   rw[e2]
   show Ic w Dh _ (Ae cur (off+i*Ze.size) Ze.size) _
   rw[hcs,hok.1]
   exact KaK hok.2
  ·intro b hb
   rcases jp.1 hb with rfl|hb
   ·exact .inl (by simp)
   ·exact .inr hb
  ·intro hdj _ hnd
   exact ym.2 ⟨hdj bl (by simp),hnd⟩
end
def Wy(same:T Dh→T Dh→Bool):T Dh→List (T Dh)→List (T Dh)
 |_,[]=>[]
 |a,x::r=>cond (same a x) (Wy same x r) (x::Wy same x r)
def DP(same:T Dh→T Dh→Bool):T Dh→List T3→List T3
 |_,[]=>[]
 |a,x::r=>cond (same a x.1) (DP same x.1 r) (x::DP same x.1 r)
def EU(c:T Ze→T Ze→Option Bool):T Ze→List (T Ze)→Option (List (T Ze))
 |_,[]=>some []
 |a,x::r=>jz (c a x) fun b=>jz (EU c x r) fun q=>some (cond b q (x::q))
theorem E1(same:T Dh→T Dh→Bool):∀(Q:List T3) (a:T Dh),(DP same a Q).map (·.1)=Wy same a (Q.map (·.1))
 |[],_=>rfl
 |x::r,a=>by
  simp only[DP,Wy,yk]
  cases same a x.1 with
  |true=>simp only[zg];exact E1 same r x.1
  |false=>simp only[zh,yk];rw[E1 same r x.1]
theorem H1(same:T Dh→T Dh→Bool):∀(Q:List T3) (a:T Dh),(DP same a Q).Sublist Q
 |[],_=>.slnil
 |x::r,a=>by
  simp only[DP]
  cases same a x.1 with
  |true=>exact(H1 same r x.1).cons x
  |false=>exact(H1 same r x.1).cons_cons x
theorem Dai{same:T Dh→T Dh→Bool}{c:T Ze→T Ze→Option Bool}{R:T Dh→T Ze→Prop}(hc:∀a ao b bo,R a ao→R b bo→c ao bo=some (same a b)):
 ∀(Q:List T3) (a:T Dh) (ao:T Ze),R a ao→(∀p∈Q,R p.1 p.2.1)→EU c ao (Q.map (·.2.1))=some ((DP same a Q).map (·.2.1))
 |[],_,_,_,_=>rfl
 |x::r,a,ao,h,hq=>by
  have hx:=hq x (by simp)
  simp only[yk,EU,DP,hc _ _ _ _ h hx,jb]
  rw[Dai hc r x.1 x.2.1 hx (fun p hp=>hq p (by simp[hp]))]
  simp only[jb]
  cases same a x.1<;>rfl
theorem Sah{α:Type}{a b:List (List α)}(h:a.Sublist b):a.flatten.Sublist b.flatten:=by
 induction h with
 |slnil=>simp
 |cons x _ ih=>rw[yp];exact ih.trans (List.sublist_append_right _ _)
 |cons_cons x _ ih=>rw[yp,yp];exact(List.Sublist.refl x).append ih
def DQ(x:T Dh):Bool:=jx (ja x.2.1) Sa
noncomputable def Nap(same:T Dh→T Dh→Bool)(a:T Dh)(l:List (T Dh)):Option (List (T Dh)×Unit):=
 bif jx (ja l) Sa&&(DQ a&&l.all DQ)then some (Wy same a l,())else none
theorem OaE{w:World}{O O':Nat→Prop}{xs ys:List Int}{v:Value}(h1:Wa w O (.sl (.i .i64)) xs [v])(h2:Wa w O' (.sl (.i .i64)) ys [v]):xs=ys:=by
 obtain⟨a,cap,e1,_,_,h1⟩:=h1
 obtain⟨a',cap',e2,_,_,h2⟩:=h2
 rw[e1]at e2
 simp only[yi,Value.slice.injEq,and_true]at e2
 obtain⟨rfl,hlen,rfl⟩:=e2
 have hlen':xs.length=ys.length:=hlen
 rcases h1 with h1|⟨bl,off,cur,et,fr,ha,_,hh,hs,hv⟩
 ·have h1':xs=[]:=h1
  subst h1'
  exact(q7 (by simpa using hlen'.symm)).symm
 ·rcases h2 with h2|⟨bl',off',cur',et',fr',ha',_,hh',hs',hv'⟩
  ·have h2':ys=[]:=h2
   subst h2'
   exact q7 (by simpa using hlen')
  ·rw[ha]at ha'
   simp only[jc,Addr.mk.injEq,and_true]at ha'
   obtain⟨rfl,rfl⟩:=ha'
   rw[hh]at hh'
   simp only[jc]at hh'
   injection hh' with e3 _ _
   subst e3
   apply List.ext_getElem hlen'
   intro i h1 h2
   have p1:=hv i h1
   have p2:=hv' i h2
   have p1':Ae cur (off+i*1) 1=[Value.int .i64 xs[i]]:=p1
   have p2':Ae cur (off+i*1) 1=[Value.int .i64 ys[i]]:=p2
   rw[p1']at p2'
   simpa using p2'
open Classical in
noncomputable def IW(w:World)(h:T .o):Option (List Int):=
 if hx:∃xs:List Int,Wa w (fun _=>False) (.sl (.i .i64)) xs [hd h]∧ja xs≤Sa then some hx.choose else none
theorem E9{w:World}{h:T .o}{xs:List Int}(hc:IW w h=some xs):Wa w (fun _=>False) (.sl (.i .i64)) xs [hd h]∧ja xs≤Sa:=by
 unfold IW at hc
 split at hc
 ·rename_i hx
  simp only[jc]at hc
  rw[←hc];exact hx.choose_spec
 ·simp at hc
theorem Fai{w:World}{h:T .o}{xs:List Int}(hv:Wa w (fun _=>False) (.sl (.i .i64)) xs [hd h])(hl:ja xs≤Sa):IW w h=some xs:=by
 unfold IW
 have hx:∃xs:List Int,Wa w (fun _=>False) (.sl (.i .i64)) xs [hd h]∧ja xs≤Sa:=⟨xs,hv,hl⟩
 rw[dif_pos hx]
 rw[OaE hx.choose_spec.1 hv]
noncomputable def Jad(w:World)(same:T Dh→T Dh→Bool)(a b:T Ze):Option Bool:=
 jz (IW w a.2.1) fun u=>jz (IW w b.2.1) fun v=>some (same (a.1,u,()) (b.1,v,()))
@[reducible]noncomputable def I8(c:T Ze→T Ze→Option Bool):Pa:=.pu (.p Ze (.p Ze .u)) (.p .b .u) [true] (fun x=>jz (c x.1 x.2.1) fun b=>some (b,()))
theorem Sar{w w2:World}(h:∀b,b<w.heap.size→w2.heap[b]?=w.heap[b]?){τ:Ty}{x:T τ}{cs:List Value}{O:Nat→Prop}(hv:Wa w O τ x cs):Wa w2 O τ x cs:=
 Wa.stable (fun b _ hb=>h b hb) (fun _ _ h=>h) hv
theorem Uav{P:Program}{I0:Bh}{f f2:FuncId}{SR:T (.p Dh (.p Dh .u))→Option (T (.p .b .u))}{same:T Dh→T Dh→Bool}
 (hSR:∀a b:T Dh,ja a.2.1≤Sa→ja b.2.1≤Sa→SR (a,b,())=some (same a b,()))
 (h2:Zh P I0 f2 (.pu (.p Dh (.p Dh .u)) (.p .b .u) [true] SR))
 (h:∀(I:Bh) (c:T Ze→T Ze→Option Bool),Zh P I f2 (I8 c)→∃FO,Zh P I f (.pu (.p Ze (.p (.sl Ze) .u)) (.p (.sl Ze) .u) [true] FO)∧
  ∀(a:T Ze) (l r:List (T Ze)),ja l≤Sa→EU c a l=some r→FO (a,l,())=some (r,())):
 Zh P I0 f (.co (.p Dh (.p (.sl Dh) .u)) (.p (.sl Dh) .u) [true] (fun x=>Nap same x.1 x.2.1)):=by
 have hE:ZH P f:=by
  have hS0:Zh P I0 f2 (I8 fun _ _=>none):=⟨h2.1,fun O w x r args hF=>by simp at hF⟩
  obtain⟨FO,hs,_⟩:=h I0 _ hS0
  exact hs.1
 refine⟨hE,?_⟩
 intro O w x r F0 args hF hA hnd hO _ hI hbase hF0
 obtain⟨a,l,u⟩:=x
 match args,hA with
 |[a1,a2],hA=>
 obtain⟨cs1,F1,F2',rfl,rfl,ho1,cs2,F2,F3,rfl,rfl,ho2,hF3⟩:=hA
 have hF3':F3=[]:=hF3
 subst hF3'
 rw[yy]at*
 simp only[Nap]at hF
 cases hsm:(jx (ja l) Sa&&(DQ a&&l.all DQ))with
 |false=>rw[hsm]at hF;simp at hF
 |true=>
 rw[hsm]at hF
 simp only[zg,jc]at hF
 subst hF
 simp only[jd,yx,DQ]at hsm
 have hl1:ja l≤Sa:=q6 hsm.1
 have hl2:ja a.2.1≤Sa:=q6 hsm.2.1
 have hl3:∀x∈l,ja x.2.1≤Sa:=fun x hx=>q6 (hsm.2.2 x hx)
 obtain⟨ah,rfl,hoa⟩:=Dav ho1
 obtain⟨Q,rfl,hvQ,hokQ,hsub⟩:=Maz ho2
 let I:Bh:=⟨w.heap.size,fun w2=>w.heap.size≤w2.heap.size∧∀b,b<w.heap.size→w2.heap[b]?=w.heap[b]?,fun w1 w2 hb h1=>by
  refine⟨?_,fun b hlt=>(hb b hlt).trans (h1.2 b hlt)⟩
  rcases Nat.eq_zero_or_pos w.heap.size with h0|h0
  ·omega
  ·have e:=(hb (w.heap.size-1) (by omega)).trans (h1.2 (w.heap.size-1) (by omega))
   rw[Array.getElem?_eq_getElem (show w.heap.size-1<w.heap.size by omega)]at e
   have:=(Array.getElem?_eq_some_iff.1 e).1
   omega⟩
 have hS:Zh P I f2 (I8 (Jad w same)):=by
  refine⟨h2.1,?_⟩
  intro O2 w2 x2 r2 args2 hF2 hA2 hO2 hI2 hb2
  obtain⟨p,q,u2⟩:=x2
  match args2,hA2 with
  |[b1,b2],hA2=>
  obtain⟨⟨c1,rfl,hv1⟩,⟨c2,rfl,hv2⟩,_⟩:=hA2
  simp only[Jad]at hF2
  cases hu:IW w p.2.1 with
  |none=>rw[hu]at hF2;simp at hF2
  |some xu=>
   cases hv:IW w q.2.1 with
   |none=>rw[hu,hv]at hF2;simp at hF2
   |some xv=>
    rw[hu,hv]at hF2
    simp only[jb,jc]at hF2
    subst hF2
    obtain⟨hxu,lxu⟩:=E9 hu
    obtain⟨hxv,lxv⟩:=E9 hv
    have e1:=G7 hv1
    have e2:=G7 hv2
    subst e1;subst e2
    have mk:∀(p:T Ze) (xs:List Int),Wa w (fun _=>False) (.sl (.i .i64)) xs [hd p.2.1]→Wa w2 (fun _=>False) Dh (p.1,xs,()) [.int .i64 p.1,hd p.2.1]:=fun p xs hx=>
     ⟨[.int .i64 p.1],[hd p.2.1],rfl,rfl,[hd p.2.1],[],by simp,Sar hI2.2 hx,rfl⟩
    have hc:=h2.2 (fun _=>False) w2 ((p.1,xu,()),(q.1,xv,()),()) (same (p.1,xu,()) (q.1,xv,()),()) [Me Ze [.int .i64 p.1,hd p.2.1],Me Ze [.int .i64 q.1,hd q.2.1]]
     (hSR _ _ lxu lxv) ⟨⟨_,rfl,mk p xu hxu⟩,⟨_,rfl,mk q xv hxv⟩,trivial⟩ (fun b h=>h.elim) (I0.st _ _ (fun b hb=>hI2.2 b (qg hb hbase)) hI) (j9 hbase hI2.1)
    refine hc.mono ?_
    intro e w3 hR
    cases e with
    |returned v=>
     obtain⟨vs,Fr,hvs,hK,hR,hn,hfr⟩:=hR
     exact⟨vs,Fr,hvs,hK,hR.all rfl,hn,hfr⟩
    |panicked _=>exact hR
    |outgrown=>exact hR
 obtain⟨FO,hs,hFO⟩:=h I (Jad w same) hS
 have hrel:∀a ao b bo,(fun(x:T Dh) (y:T Ze)=>y.1=x.1∧Wa w (fun _=>False) (.sl (.i .i64)) x.2.1 [hd y.2.1]∧ja x.2.1≤Sa) a ao→
  (fun(x:T Dh) (y:T Ze)=>y.1=x.1∧Wa w (fun _=>False) (.sl (.i .i64)) x.2.1 [hd y.2.1]∧ja x.2.1≤Sa) b bo→Jad w same ao bo=some (same a b):=by
  rintro a ao b bo ⟨e1,v1,l1⟩ ⟨e2,v2,l2⟩
  simp only[Jad,Fai v1 l1,Fai v2 l2,jb,e1,e2]
 have hch:=Dai (R:=fun(x:T Dh) (y:T Ze)=>y.1=x.1∧Wa w (fun _=>False) (.sl (.i .i64)) x.2.1 [hd y.2.1]∧ja x.2.1≤Sa) hrel Q a (a.1,ah,())
  ⟨rfl,Ic.view hoa fun b _ h=>h,hl2⟩ (fun p hp=>⟨(hokQ p hp).1,Ic.view (hokQ p hp).2 fun b _ h=>h,hl3 p.1 (yv hp)⟩)
 have hFO':=hFO (a.1,ah,()) (Q.map (·.2.1)) _ (by simpa using hl1) hch
 have hc:=hs.2 (fun _=>False) w ((a.1,ah,()),Q.map (·.2.1),()) ((DP same a Q).map (·.2.1),()) [Me Ze [.int .i64 a.1,hd ah],Me (.sl Ze) cs2] hFO'
  ⟨⟨_,rfl,Sam ((a.1,ah,()):T Ze) _⟩,⟨_,rfl,hvQ⟩,trivial⟩ (fun b h=>h.elim) ⟨jo _,fun _ _=>rfl⟩ (jo _)
 refine hc.mono ?_
 intro e w3 hR
 cases e with
 |panicked _=>exact hR
 |outgrown=>exact hR
 |returned v=>
  obtain⟨vs,Fr,hvs,hK,hR,hn,hfr⟩:=hR
  match vs,hR with
  |[v1],hR=>
  obtain⟨cs,G1,G2,rfl,rfl,hown,hG2⟩:=hR
  have hG2':G2=[]:=hG2
  subst hG2'
  rw[yy]at*
  simp only[if_true]at hown
  have hlt:∀b,b∈F2→b<w.heap.size:=fun b hb=>ho2.lt b hb
  have hsubQ:=H1 same Q a
  have hok3:∀p∈DP same a Q,Zao w3 p:=fun p hp=>by
   have h0:=hokQ p (hsubQ.mem hp)
   exact⟨h0.1,Ic.stable h0.2 fun b hb=>hK.block b (h0.2.lt b hb) (fun h=>h)⟩
  obtain⟨F',ho',hm',hnd'⟩:=Uaz hown hok3
  have hsub2:((DP same a Q).map (·.2.2)).flatten.Sublist F2:=by
   refine List.Sublist.trans ?_ hsub
   exact Sah (hsubQ.map _)
  have hndF2:F2.Nodup:=(yn.1 hnd).2.1
  have hnF':F'.Nodup:=hnd' (fun b hb hb2=>by
   have h3:=hfr b hb
   have h4:=hlt b (hsub2.mem hb2)
   omega) hn (hsub2.nodup hndF2)
  refine⟨[Me (.sl Ze) cs],F',hvs,⟨hK.size,fun b hb _=>hK.block b hb (fun h=>h),hK.os,hK.tape,hK.output⟩,⟨cs,F',[],rfl,by simp,?_,rfl⟩,hnF',?_⟩
  ·simp only[if_true]
   rw[←E1]
   exact ho'
  ·intro b hb
   rcases hm' b hb with hb|hb
   ·exact .inl (hfr b hb)
   ·exact .inr (qv _ (hsub2.mem hb))
noncomputable def srt(xs:List Int):Option (List Int×Unit):=bif jx (ja xs) Sa then some (List.mergeSort xs (fun x y=>decide (x≤y)),())else none
def Iag(n:Nat):Bool:=jx n 1048576
noncomputable def B6(x y:List UInt8):Option (List (List UInt8)×Unit):=
 bif Iag (ja x)&&jx 1 (ja y)then some (Lib.split x y,())else none
noncomputable def Mac(x:List (List UInt8))(y:List UInt8):Option (List UInt8×Unit):=
 bif jx (ja x) 1073741824&&jx (ja (Lib.join x y)) 1073741824 then some (Lib.join x y,())else none
noncomputable def IZ(n:Int):Option (List UInt8×Unit):=bif decide (-9223372036854775808≤n)&&decide (n≤9223372036854775807)then some (Lib.itoa n,())else none
noncomputable def Rap(x y:List UInt8):Option (List UInt8×(List UInt8×(Bool×Unit))):=
 bif jx (ja x) 4294967280 then some ((Lib.cut x y).1,(Lib.cut x y).2.1,(Lib.cut x y).2.2,())else none
noncomputable def Mae(x y:List UInt8):Option (Int×Unit):=bif jx (ja x) 4294967280 then some (Lib.index x y,())else none
noncomputable def Fj(s:List UInt8):Int×(Bool×Unit):=
 bif yb (ja s) 1||yb 10 (ja s)then((0:Int),false,())else match Lib.atoi s with
  |none=>((0:Int),false,())
  |some n=>bif decide (n< -999999999)||decide (n>999999999)||(Lib.itoa n !=s)then((0:Int),false,())else(n,true,())
noncomputable def Xaq(s:List UInt8):Option (Int×(Bool×Unit)):=some (Fj s)
theorem Jam{cur:Array Value}{k:Nat}{v:Value}(h:Ae cur k 1=[v]):cur[k]?=some v:=by
 have:=congrArg (·[0]?) h
 simp only[Ag cur k 1 0 (by omega)]at this
 simpa using this
theorem Zal{cur:Array Value}{k:Nat}{v:Value}(h:cur[k]?=some v):Ae cur k 1=[v]:=by
 apply qp
 intro j
 by_cases hj:j=0
 ·subst hj;rw[Ag cur k 1 0 (by omega)];simpa using h
 ·have hk:k<cur.size:=(Array.getElem?_eq_some_iff.1 h).1
  have hl:(Ae cur k 1).length=1:=De (by omega)
  rw[qt (by omega),qt (by simp;omega)]
theorem Har{P:Program}{ρ:Go.Shelf.Ren}{f:FuncId}{I:Bh}(L:Go.Proofs.Lays.n191 P ρ)(hf:ρ.f 191=f):Zh P I f (.io (.sl (.i .i64)) .u .u [] (fun x0 _=>srt x0)):=by
 subst hf
 refine⟨⟨_,L.f191,rfl,rfl⟩,?_⟩
 intro O w x0 x r cs0 F0 args hF ho hnd hA hO _ _ _
 match args,hA with
 |[],_=>
 simp only[srt]at hF
 cases hl:jx (ja x0) Sa with
 |false=>rw[hl]at hF;simp at hF
 |true=>
 rw[hl]at hF
 simp only[zg,jc]at hF
 subst hF
 have hlim:Sa=1073741824:=rfl
 have hx:ja x0≤Sa:=q6 hl
 have ho0:=ho
 obtain⟨hm,⟨rfl,hn,rfl⟩|⟨bl,off,cap,cur,et,Fs,rfl,hh,h1,h2,h3,rfl,hlen,hv⟩⟩:=ho
 ·have hn':x0=[]:=hn
  subst hn'
  refine(Go.Proofs.Any.sort_Ints_none L none 0 w).mono ?_
  rintro e w' ⟨rfl,rfl⟩
  refine⟨[],[],[],rfl,⟨jo _,fun _ _ _=>rfl,rfl,rfl,rfl⟩,?_,by simp,rfl,List.nodup_nil,by simp⟩
  show Ic w' (.sl (.i .i64)) (List.mergeSort ([]:List Int) _) _ _
  simpa using ho0
 ·have hcell:∀i (hi:i<x0.length),cur[off+i]?=some (.int .i64 x0[i]):=by
   intro i hi
   have:=(hv i hi).1
   have e:Ae cur (off+i*1) 1=[Value.int .i64 x0[i]]:=this
   rw[Nat.mul_one]at e
   exact Jam e
  have hFs:∀b,b∈Fs.flatten→False:=by
   intro b hb
   obtain⟨l,hl,hb⟩:=List.mem_flatten.1 hb
   obtain⟨i,hi,rfl⟩:=qj hl
   have:=(hv i (by rw[←hlen];exact hi)).2
   rw[qe,je hi]at this
   simp only[qz]at this
   rw[this]at hb;simp at hb
  have hH:Go.Sort.Holds (Value.int .i64) w bl off x0.toArray:=by
   intro j hj
   have hj':j<x0.length:=by simpa using hj
   refine⟨?_,?_⟩
   ·unfold World.cell?
    simp only[hh]
    rw[hcell j hj']
    simp[getElem!_pos,hj']
   ·unfold World.frozen?
    simp[hh]
  have hbl:bl<w.heap.size:=(Array.getElem?_eq_some_iff.1 hh).1
  refine(Go.Proofs.Any.sort_Ints L bl off cap x0 w hH hbl (by omega)).mono ?_
  rintro e w' ⟨rfl,n,os,rfl⟩
  generalize hzs:(x0.mergeSort fun x y=>decide (x≤y))=zs
  have hzl:zs.length=x0.length:=by rw[←hzs];exact List.length_mergeSort _
  have hheap:∀b,b<w.heap.size→(Go.Sort.grow (Go.Sort.putRow (Value.int .i64) (Go.Sort.ahead w n) bl off zs.toArray) os).heap[b]?=if bl=b then(w.heap[b]?).map (Go.Sort.onCells (Go.Sort.putCells (Value.int .i64) off zs.toArray))else w.heap[b]?:=by
   intro b hb
   simp only[Go.Sort.grow,Go.Sort.putRow,Go.Sort.mapBlock,Go.Sort.ahead]
   rw[Array.getElem?_append_left (by simpa using hb),Array.getElem?_modify]
  refine⟨[],bl::Fs.flatten,[],rfl,⟨?_,?_,rfl,rfl,rfl⟩,?_,fun b hb=>.inr hb,rfl,by simpa using hnd,by simp⟩
  ·simp only[Go.Sort.grow,Array.size_append,Go.Sort.size_putRow,Go.Sort.ahead]
   omega
  ·intro b hb hno
   have hne:bl≠b:=fun e=>hno (by rw[e];simp)
   rw[hheap b hb,if_neg hne]
  ·have hcs:([.slice (some ⟨bl,off,none⟩) (ja x0) cap]:List Value)=[.slice (some ⟨bl,off,none⟩) (ja (zs:List Int)) cap]:=by rw[hzl]
   show Ic _ (.sl (.i .i64)) (zs:List Int) _ _
   rw[hcs]
   refine⟨by show zs.length≤Ll;rw[hzl];exact hm,.inr ⟨bl,off,cap,_,et,Fs,rfl,(hheap bl hbl).trans (by rw[if_pos rfl,hh];rfl),by show zs.length≤cap;rw[hzl];exact h1,h2,by simpa[Go.Sort.putCells]using h3,rfl,by show Fs.length=zs.length;rw[hzl];exact hlen,fun i hi=>?_⟩⟩
   have hi':i<zs.length:=hi
   have hi2:i<x0.length:=by omega
   refine⟨?_,?_⟩
   ·show Ae _ (off+i*1) 1=[Value.int .i64 zs[i]]
    rw[Nat.mul_one]
    apply Zal
    simp only[Go.Sort.putCells,Array.getElem?_mapIdx,hcell i hi2,qa]
    rw[if_pos ⟨by omega,by simp;omega⟩,show off+i-off=i by omega]
    simp[getElem!_pos,hi']
   ·exact(hv i hi2).2
theorem YT(w:World)(o:Obj):(w.alloc o).heap=w.heap.push o:=rfl
theorem Rah{P:Program}{ρ:Go.Shelf.Ren}{f:FuncId}{I:Bh}(L:Go.Proofs.LaysM.n146 P ρ)(hf:ρ.f 146=f)
 (hI:∀w,I.p w→∃m,w.cell? ⟨ρ.g 1,0,none⟩=some (.int .i64 m)):Zh P I f (.pu (.p .s (.p .s .u)) (.p (.sl .s) .u) [true] (fun x=>B6 x.1 x.2.1)):=by
 subst hf
 refine⟨⟨_,L.f146,rfl,rfl⟩,?_⟩
 intro O w x r args hF hA hO hi hb
 match args,hA with
 |[a,b],hA=>
  obtain⟨⟨ca,rfl,hca⟩,⟨cb,rfl,hcb⟩,_⟩:=hA
  have hca':ca=[.string ⟨qr x.1⟩]:=hca
  have hcb':cb=[.string ⟨qr x.2.1⟩]:=hcb
  subst hca';subst hcb'
  simp only[B6,Iag]at hF
  cases h1:jx (ja x.1) 1048576 with
  |false=>rw[h1]at hF;simp at hF
  |true=>
  cases h2:jx 1 (ja x.2.1)with
  |false=>rw[h1,h2]at hF;simp at hF
  |true=>
  rw[h1,h2]at hF
  simp only[Bool.and_true,zg,jc]at hF
  subst hF
  have h1':=q6 h1
  have h2':=q6 h2
  obtain⟨m,hm⟩:=hI w hi
  have hs1:(⟨qr x.1⟩:ByteArray).size=ja x.1:=by show(qr x.1).size=_;simp
  have hs2:(⟨qr x.2.1⟩:ByteArray).size=ja x.2.1:=by show(qr x.2.1).size=_;simp
  have hd:(Lib.splitB ⟨qr x.2.1⟩ 0 (Lib.countB ⟨qr x.1⟩ ⟨qr x.2.1⟩) ⟨qr x.1⟩).map (fun z=>z.data.toList)=Lib.split x.1 x.2.1:=by
   rw[Lib.splitB_data];rfl
  have hlen:=Lib.splitB_all ⟨qr x.2.1⟩ (by omega) 0 _ ⟨qr x.1⟩ rfl
  have hle:=Lib.countB_le ⟨qr x.2.1⟩ (by omega) _ ⟨qr x.1⟩ (jo _)
  obtain⟨zs,hz⟩:∃zs,Lib.splitB ⟨qr x.2.1⟩ 0 (Lib.countB ⟨qr x.1⟩ ⟨qr x.2.1⟩) ⟨qr x.1⟩=zs:=⟨_,rfl⟩
  rw[hz]at hlen hd
  obtain⟨n,hcn⟩:∃n,Lib.countB ⟨qr x.1⟩ ⟨qr x.2.1⟩=n:=⟨_,rfl⟩
  rw[hcn]at hlen hle
  have hn:(Lib.split x.1 x.2.1).length=n+1:=by rw[←hd,yr,hlen]
  refine(Go.Proofs.Any.strings_Split {L with} L.i9 ⟨qr x.1⟩ ⟨qr x.2.1⟩ m w (by omega) hm (by omega)).mono ?_
  rintro e w' ⟨rfl,rfl⟩
  rw[hz]
  refine⟨[.slice (some ⟨w.heap.size,0,none⟩) (n+1) (n+1)],[w.heap.size],by rw[hcn];rfl,⟨?_,?_,rfl,rfl,rfl⟩,?_,by simp,by simp⟩
  ·rw[YT];simp
  ·intro b hb _
   rw[YT]
   simp[Array.getElem?_push_lt hb,Array.getElem?_eq_getElem hb]
  ·refine⟨[.slice (some ⟨w.heap.size,0,none⟩) (n+1) (n+1)],[w.heap.size],[],rfl,rfl,?_,rfl⟩
   show Ic _ (.sl .s) (Lib.split x.1 x.2.1) _ _
   refine⟨by rw[hn];unfold Ll;omega,.inr ⟨w.heap.size,0,n+1,(zs.map Value.string).toArray,ρ.t 9,yd (n+1) [],?_,?_,by omega,by unfold Ll;omega,?_,?_,?_,?_⟩⟩
   ·rw[hn]
   ·rw[YT];simp
   ·simp[Ty.size,hlen]
   ·simp
   ·simp[hn]
   ·intro i hi
    have hi':i<n+1:=by omega
    have hiz:i<zs.length:=by omega
    refine⟨?_,by simp[qe,List.getElem?_replicate,hi']⟩
    show Ae _ (0+i*1) 1=_
    apply Zal
    have:(Lib.split x.1 x.2.1)[i]'hi=(zs[i]).data.toList:=by simp[←hd]
    show _=some (Value.string ⟨qr ((Lib.split x.1 x.2.1)[i]'hi)⟩)
    rw[this]
    simp[hiz]
theorem Faq{P:Program}{ρ:Go.Shelf.Ren}{f:FuncId}{I:Bh}(L:Go.Proofs.Lays.n156 P ρ)(hf:ρ.f 156=f)(X:Go.Proofs.Builder.Extra P ρ):Zh P I f (.pu (.p (.sl .s) (.p .s .u)) (.p .s .u) [true] (fun x=>Mac x.1 x.2.1)):=by
 subst hf
 refine⟨⟨_,L.f156,rfl,rfl⟩,?_⟩
 intro O w x r args hF hA hO hi hb
 match args,hA with
 |[a,b],hA=>
  obtain⟨⟨ca,rfl,hca⟩,⟨cb,rfl,hcb⟩,_⟩:=hA
  have hcb':cb=[.string ⟨qr x.2.1⟩]:=hcb
  subst hcb'
  obtain⟨ad,cap,rfl,hcap,hmx,hrow⟩:=hca
  simp only[Mac]at hF
  cases h0:jx (ja x.1) 1073741824 with
  |false=>rw[h0]at hF;simp at hF
  |true=>
  cases h1:jx (ja (Lib.join x.1 x.2.1)) 1073741824 with
  |false=>rw[h0,h1]at hF;simp at hF
  |true=>
  rw[h0,h1]at hF
  simp only[Bool.and_true,zg,jc]at hF
  subst hF
  have h1':=q6 h1
  have h0':=q6 h0
  have hfin:∀(e:Ending) (w':World),e=.returned (.string ⟨(Lib.join x.1 x.2.1).toArray⟩)∧Go.RowKit.Below w.heap.size w w'→XA (fun v w'=>∃vs Fr,v=IN vs∧AD w w' (fun _=>False)∧Fd w' (fun b=>O b∨b∈Fr) (.p .s .u) ((Lib.join x.1 x.2.1,()):List UInt8×Unit) [true] vs Fr∧Fr.Nodup∧∀b∈Fr,w.heap.size≤b) e w':=by
   rintro e w' ⟨rfl,hB⟩
   exact⟨[.string ⟨(Lib.join x.1 x.2.1).toArray⟩],[],rfl,⟨hB.size,fun b hb _=>hB.block b hb,hB.os,hB.tape,hB.output⟩,⟨_,[],[],rfl,rfl,⟨rfl,rfl⟩,rfl⟩,by simp,by simp⟩
  have hmp:zd (fun z:ByteArray=>z.data.toList) (zd (fun l:List UInt8=>(⟨l.toArray⟩:ByteArray)) x.1)=x.1:=by simp[List.map_map,Function.comp_def]
  rcases hrow with hx0|⟨bl,off,cur,et,fr,rfl,hno,hh,hsz,hv⟩
  ·have h0':x.1=[]:=hx0
   have e0:Lib.join x.1 x.2.1=[]:=by rw[h0'];rfl
   have el:ja x.1=0:=by rw[h0'];rfl
   show Calls P (ρ.f 156) #[.slice ad (ja x.1) cap,.string ⟨qr x.2.1⟩] w _
   rw[el]
   refine(Go.Proofs.Any.strings_Join_none L X ad cap ⟨qr x.2.1⟩ w).mono ?_
   rintro e w' ⟨rfl,rfl⟩
   exact hfin _ _ ⟨by rw[e0],Go.RowKit.Below.refl _ _⟩
  ·have hbl:bl<w.heap.size:=(Array.getElem?_eq_some_iff.1 hh).1
   have c:=Go.Proofs.Any.strings_Join L X bl off cap (zd (fun l:List UInt8=>(⟨l.toArray⟩:ByteArray)) x.1) ⟨qr x.2.1⟩ w ?_ hbl (by rw[yr];show ja x.1≤_;omega) (by rw[yr];exact hcap) (by rw[hmp];show(Lib.join x.1 (qr x.2.1).toList).length≤_;rw[List.toList_toArray];omega)
   ·rw[hmp,yr]at c
    refine c.mono ?_
    rintro e w' ⟨rfl,hB⟩
    refine hfin _ _ ⟨?_,hB⟩
    show Ending.returned (Value.string ⟨(Lib.join x.1 (qr x.2.1).toList).toArray⟩)=_
    rw[List.toList_toArray]
   ·intro j z hj
    obtain⟨hj',rfl⟩:=q8.1 hj
    rw[yr]at hj'
    have e:Ae cur (off+j*1) 1=[Value.string ⟨qr (x.1[j]'hj')⟩]:=hv j hj'
    rw[Nat.mul_one]at e
    unfold World.cell?
    simp only[hh]
    rw[Jam e]
    simp
theorem Eaq{P:Program}{ρ:Go.Shelf.Ren}{f:FuncId}{I:Bh}(L:Go.Proofs.LaysM.n171 P ρ)(hf:ρ.f 171=f)(hI:∀w,I.p w→Lib.TabIs P w "internal/strconv.uint64pow10" .u64 Lib.pow10Tab):Zh P I f (.pu (.p (.i .i64) .u) (.p .s .u) [true] (fun x=>IZ x.1)):=by
 subst hf
 refine⟨⟨_,L.f171,rfl,rfl⟩,?_⟩
 intro O w x r args hF hA hO hi hb
 match args,hA with
 |[a],hA=>
  obtain⟨⟨ca,rfl,hca⟩,_⟩:=hA
  have hca':ca=[.int .i64 x.1]:=hca
  subst hca'
  simp only[IZ]at hF
  by_cases h1:-9223372036854775808≤(x.1:Int)
  case neg=>rw[decide_eq_false h1]at hF;simp at hF
  by_cases h2:(x.1:Int)≤9223372036854775807
  case neg=>rw[decide_eq_false h2]at hF;simp at hF
  rw[decide_eq_true h1,decide_eq_true h2]at hF
  simp only[Bool.and_true,zg,jc]at hF
  subst hF
  refine(Go.Proofs.Any.strconv_Itoa L x.1 h1 h2 w (hI w hi)).mono ?_
  rintro e w' ⟨rfl,k,os,rfl⟩
  refine⟨[.string ⟨(Lib.itoa x.1).toArray⟩],[],rfl,⟨?_,?_,rfl,rfl,rfl⟩,⟨_,[],[],rfl,rfl,⟨rfl,rfl⟩,rfl⟩,by simp,by simp⟩
  ·simp only[Go.Sort.grow,Array.size_append,World.drewN]
   omega
  ·intro b hb _
   simp only[Go.Sort.grow,World.drewN]
   rw[Array.getElem?_append_left hb]
open Go Go.WideShapes Go.ChangeShapes
theorem PA{P:Program}{W:World}{x:String×DataW Unit}{rest:List (String×DataW Unit)}{ps:List MemPlace}(h:DataW.LaidVars P W (x::rest) ps):∃q,DataW.LaidVars P W rest q:=by
 obtain⟨g,t,cs,fuel,p,q,_,_,_,_,h,_⟩:=h
 exact⟨q,h⟩
theorem Mab{P:Program}{W:World}{name:String}{k:IntKind}{zs:List Int}{rest:List (String×DataW Unit)}{ps:List MemPlace}{g:Nat}{t e:TypeId}{n:Nat}
 (hg:P.globalNamed name=some g) (hty:(P.globals[g]?).map (·.type)=some t) (ht:P.underlying t=some (.array n e)) (he:P.underlying e=some (.int k)) (hce:P.cellsOf e=1) (hct:P.cellsOf t=n)
 (h:DataW.LaidVars P W ((name,Lib.tabData k zs)::rest) ps):Lib.TabIs P W name k zs:=by
 obtain⟨g',t',cs,fuel,p,q,hg',ht',hvar,hd,_,_⟩:=h
 obtain rfl:=zb (hg.symm.trans hg')
 obtain rfl:=zb (hty.symm.trans ht')
 unfold Lib.TabIs
 rw[hvar,←Lib.cells_of_tab ht he hce hct hd]
def NaK(g:Nat):Bh:=⟨g+1,fun w=>∃m,w.cell? ⟨g,0,none⟩=some (.int .i64 m),fun w w' hb h=>by
 obtain⟨m,hm⟩:=h
 refine⟨m,?_⟩
 unfold World.cell? at hm⊢
 rw[hb g (Nat.lt_succ_self g)]
 exact hm⟩
theorem Mat{g:Nat}{w:World}(h:(NaK g).p w):(NaK g).base≤w.heap.size:=by
 obtain⟨m,hm⟩:=h
 unfold World.cell? at hm
 have:g<w.heap.size:=by
  apply Classical.byContradiction
  intro hn
  simp only[Array.getElem?_eq_none (show w.heap.size≤g by omega)]at hm
  simp at hm
 exact this
def Daq(P:Program)(g a:Nat)(name:String)(k:IntKind)(zs:List Int)(ha:P.globalNamed name=some a):Bh:=⟨max g a+1,fun w=>(∃m,w.cell? ⟨g,0,none⟩=some (.int .i64 m))∧Lib.TabIs P w name k zs,fun w w' hb h=>by
 obtain⟨⟨m,hm⟩,ht⟩:=h
 refine⟨⟨m,?_⟩,?_⟩
 ·unfold World.cell? at hm⊢
  rw[hb g (by omega)]
  exact hm
 ·unfold Lib.TabIs World.var? at ht⊢
  rw[ha]at ht⊢
  simp only[jb]at ht⊢
  rw[hb a (by omega)]
  exact ht⟩
theorem Pat{P:Program}{g a:Nat}{name:String}{k:IntKind}{zs:List Int}{ha:P.globalNamed name=some a}{w:World}(h:(Daq P g a name k zs ha).p w):(Daq P g a name k zs ha).base≤w.heap.size:=by
 obtain⟨h1,ht⟩:=h
 have h1':g+1≤w.heap.size:=Mat (g:=g) h1
 have:a<w.heap.size:=by
  apply Classical.byContradiction
  intro hn
  unfold Lib.TabIs World.var? at ht
  rw[ha]at ht
  simp only[jb,Array.getElem?_eq_none (show w.heap.size≤a by omega)]at ht
  simp at ht
 show max g a+1≤_
 omega
theorem HN{P:Program}{l:List (String×DataW Unit)}{w:World}(h:(l.filter fun x=>x.2.handleName?.isSome)=[]):laidMetH P l w=laidMet P l w:=by
 unfold laidMetH
 rw[h]
section
variable{H:Type} {enc:TypeId×Value→H}
theorem PZ{a:Assume}{C:Checked}{os:Os}{f:FuncId}{fn:Func}{s:ChangeSpec}{conds:List PathCond}{apart fresh handsOn again:Bool}{X:World→Array Value→Prop}
 (hX:∀(w w':World) (args:Array Value),w.heap=w'.heap→X w args→X w' args)
 (own:ownKnob C.prog.godebug=none) (started:os.Started) (noInit:C.prog.inits.idxOf? f=none) (hfn:C.prog.funcs[f]?=some fn)
 (witness:∃(w:World) (tape:Tape) (i:Input),w.os=os∧(w.forCall tape i).Shaped C.prog∧i.vars=[]∧Input.okWide C.prog (w.forCall tape i) .any w.heap.size f i∧
  ((s.pre enc C.prog fn conds apart (w.forCall tape i).memory i.args∧X (w.forCall tape i).memory i.args)∧sizedMet enc C.prog fn (OpenSpec.ofChange s) apart (w.forCall tape i).memory i.args)∧a.holds C.prog (lone (Frame.enter C.prog f i.args .normal) [] (w.forCall tape i)))
 (contract:∀(W:World) (base:Nat) (args:Array Value) (ds gs:List (DataW H)) (before:List MemPlace),
  (∀(j:Nat) t v,fn.params[j]?=some t→args[j]?=some v→Value.okWide C.prog W .any base t v)→
  DataW.Whole enc C.prog fn.params.toList s.vars apart W args.toList ds gs before→
  conds.all (PathCond.test C.prog ⟨fn.params.toList,ds,s.plain.varTypes C.prog,gs⟩)=true→
  (DataW.weightsEach C.prog (fn.params.toList++s.plain.varTypes C.prog) (ds++gs)).all (·≤reachBytes)=true→W.ShapedOpen C.prog→X W args→
  a.holds C.prog (lone (Frame.enter C.prog f args .normal) [] W)→
  Calls C.prog f args W fun e W'=>∃v,e=.returned v∧s.post enc C.prog fn apart fresh handsOn again W args v W'):
 ReturnsInHanded a C os f .any (fun w args=>(s.pre enc C.prog fn conds apart w args∧X w args)∧sizedMet enc C.prog fn (OpenSpec.ofChange s) apart w args) (s.post enc C.prog fn apart fresh handsOn again):=by
 refine returnsInHanded_of_calls own started noInit witness ?_
 intro w tape i _ hsh _ hok hpre hholds
 obtain⟨_,_,_,fn',hfn',_,_,_,_,hval⟩:=hok
 have e:fn'=fn:=zb (hfn'.symm.trans hfn)
 subst e
 obtain⟨⟨⟨ds,gs,before,hw,hc⟩,hx⟩,hz⟩:=hpre
 have hw':=DataW.Whole.of_heap (w':=w.forCall tape i) (by rfl) hw
 refine(contract (w.forCall tape i) w.heap.size i.args ds gs before hval hw' hc (hz.weights hw) hsh (hX _ _ _ (by rfl) hx) hholds).mono fun e W' ⟨v,he,hp⟩=>?_
 subst he
 exact ChangeSpec.post_blind hp
theorem Caf{C:Checked}{os:Os}{f:FuncId}{fn:Func}{s:ChangeSpec}{apart fresh handsOn again:Bool}{pt:Ty}{fl:Bool}{F:T pt→Option (Bool×Unit)}{tb:TypeId}{I:Bh}{laid:List (String×DataW Unit)}
 (own:ownKnob C.prog.godebug=none) (started:os.Started) (noInit:C.prog.inits.idxOf? f=none) (hfn:C.prog.funcs[f]?=some fn)
 (witness:∃(w:World) (tape:Tape) (i:Input),w.os=os∧(w.forCall tape i).Shaped C.prog∧i.vars=[]∧Input.okWide C.prog (w.forCall tape i) .any w.heap.size f i∧
  ((s.pre enc C.prog fn [] apart (w.forCall tape i).memory i.args∧laidMetH C.prog laid (w.forCall tape i).memory)∧sizedMet enc C.prog fn (OpenSpec.ofChange s) apart (w.forCall tape i).memory i.args)∧({}:Assume).holds C.prog (lone (Frame.enter C.prog f i.args .normal) [] (w.forCall tape i)))
 (hvars:s.vars=[]) (hs:∀ds:List (DataW H),ds.length=fn.params.toList.length→s.fn H ds={results:=[.lit (.bool true)],args:=ds})
 (hp:Pn C.prog pt fn.params.toList=true) (hr:fn.resultTypes= #[tb]) (htb:C.prog.underlying tb=some .bool)
 (hsound:Zh C.prog I f (.pu pt (.p .b .u) [fl] F)) (hF:∀x,YV pt x→F x=some (true,()))
 (hI:∀W:World,W.ShapedOpen C.prog→laidMetH C.prog laid W→I.p W∧I.base≤W.heap.size) (hnh:(laid.filter fun x=>x.2.handleName?.isSome)=[]):
 ReturnsInHanded {} C os f .any (fun w args=>(s.pre enc C.prog fn [] apart w args∧laidMetH C.prog laid w)∧sizedMet enc C.prog fn (OpenSpec.ofChange s) apart w args) (s.post enc C.prog fn apart fresh handsOn again):=by
 refine PZ (X:=fun w _=>laidMetH C.prog laid w) (fun _ _ _ hh h=>by
  rw[HN hnh]at h⊢
  exact h.of_heap hh) own started noInit hfn witness ?_
 intro W b0 args ds gs before hval hW _ _ hsh hX _
 have hW0:=hW
 obtain⟨p,q,hA,hV,hps,hfz,hnd⟩:=hW
 rw[hvars]at hV
 have hgs:gs=[]∧q=[]:=by
  cases gs with
  |nil=>exact⟨rfl,hV⟩
  |cons _ _=>exact hV.elim
 obtain⟨rfl,rfl⟩:=hgs
 simp only[yy]at hps
 subst hps
 obtain⟨x,hx,hrx⟩:=LY (base:=b0) hp hA fun j t v h1 h2=>hval j t v (by simpa using h1) (by simpa using h2)
 have hcall:=hsound.2 (fun _=>False) W x (true,()) args.toList (hF x hrx) hx (fun _ h=>h.elim) (hI W hsh hX).1 (hI W hsh hX).2
 refine hcall.mono fun e W' hret=>?_
 cases e with
 |returned v=>
  obtain⟨vs,Fr,hv,hk,hR,_,_⟩:=hret
  have hvt:v=.bool true:=by
   cases vs with
   |nil=>simp[Fd]at hR
   |cons a r=>
    obtain⟨cs,F1,F2,ha,_,hown,hrest⟩:=hR
    cases r with
    |cons _ _=>simp[Fd]at hrest
    |nil=>
     have hcs:cs=[.bool true]:=by
      cases fl with
      |true=>exact hown.1
      |false=>exact hown.1
     rw[hv,IN,ha,hcs]
     rfl
  subst hvt
  refine⟨_,rfl,?_⟩
  have hsp:=hs ds (T0 hA)
  have hlt:∀z∈before,z.block<W.heap.size:=hW0.lt
  have hsame:∀z∈before,W.sameAt W' z:=by
   intro z hz
   have hb:=hk.block z.block (hlt z hz) (fun h=>h)
   cases z with
   |cell b off=>
    show W'.cell? _=W.cell? _
    simp only[World.cell?]
    rw[show W'.heap[b]?=W.heap[b]? from hb]
   |map b=>exact hb
  have hargs:∀sp:Nat→Bool,(∀z∈before,sp z.block=true)→DataW.TrodAll enc C.prog W' 0 sp true fn.params.toList args.toList ds before:=
   fun sp h=>VV (M0 hp) hA hsame h
  have hres:∀(b:Nat) (sp:Nat→Bool) (hd:Bool),DataW.TrodAll enc C.prog W' b sp hd fn.resultTypes.toList ((Value.bool true).resultList fn.resultTypes.size) [.lit (.bool true)] []:=by
   intro b sp hd
   rw[hr]
   exact trodAll_mk1 (Go.RowKit.shut_bool htb true)
  have hold:∀z∈before,(fun b=>decide (b<W.heap.size)) z.block=true:=fun z hz=>by simpa using hlt z hz
  refine⟨ds,[],before,[],before,[],hW0,?_,?_,?_,hk.but _,fun _=>⟨?_,ds.cons (.lit (.bool true)),[],before,⟨before,[],?_,?_,by simp,?_,?_⟩,fun z hz _=>hz⟩⟩
  ·rw[yy,hsp];exact hres _ _ _
  ·rw[yy,hsp];exact hargs _ hold
  ·rw[yy,hsp,hvars];rfl
  ·intro j t r hj hv
   rw[hr]at hj hv
   match j,hj,hv with
   |0,hj,hv=>
    simp only[List.getElem?_toArray,List.getElem?_cons_zero,jc]at hj
    simp[Value.resultList]at hv
    subst hj;subst hv
    exact Go.RowKit.okWide_bool_mk htb true
  ·exact trodAll_append (hargs _ (fun _ _=>rfl)) (hres _ _ _)
  ·rw[hvars];rfl
  ·intro b off hz
   have:=hfz b off hz
   unfold World.frozen? at this⊢
   rw[show W'.heap[b]?=W.heap[b]? from hk.block b (hlt _ hz) (fun h=>h)]
   exact this
  ·exact hnd
 |_=>exact hret.elim
end
theorem Zas(w:World)(n:Nat):AD w (w.drewN n) (fun _=>False):=⟨jo _,fun _ _ _=>rfl,rfl,rfl,rfl⟩
theorem HM(l:List UInt8):(⟨qr l⟩:ByteArray).data.toList=l:=by simp
theorem Was{P:Program}{ρ:Go.Shelf.Ren}{f:FuncId}{I:Bh}(L:Go.Proofs.Lays.n145 P ρ)(hf:ρ.f 145=f)
 (hI:∀w,I.p w→∃m,w.cell? ⟨ρ.g 1,0,none⟩=some (.int .i64 m)):Zh P I f (.pu (.p .s (.p .s .u)) (.p .s (.p .s (.p .b .u))) [true,true,true] (fun x=>Rap x.1 x.2.1)):=by
 subst hf
 refine⟨⟨_,L.f145,rfl,rfl⟩,?_⟩
 intro O w x r args hF hA hO hi hb
 match args,hA with
 |[a,b],hA=>
  obtain⟨⟨ca,rfl,hca⟩,⟨cb,rfl,hcb⟩,_⟩:=hA
  have hca':ca=[.string ⟨qr x.1⟩]:=hca
  have hcb':cb=[.string ⟨qr x.2.1⟩]:=hcb
  subst hca';subst hcb'
  simp only[Rap]at hF
  cases h1:jx (ja x.1) 4294967280 with
  |false=>rw[h1]at hF;simp at hF
  |true=>
  rw[h1]at hF
  simp only[zg,jc]at hF
  subst hF
  have h1':=q6 h1
  obtain⟨m,hm⟩:=hI w hi
  have hs1:(⟨qr x.1⟩:ByteArray).size=ja x.1:=by show(qr x.1).size=_;simp
  refine(Go.Proofs.Any.strings_Cut L ⟨qr x.1⟩ ⟨qr x.2.1⟩ m w (by omega) hm).mono ?_
  rintro e w' ⟨rfl,n,rfl⟩
  rw[HM,HM]
  refine⟨[.string ⟨(Lib.cut x.1 x.2.1).1.toArray⟩,.string ⟨(Lib.cut x.1 x.2.1).2.1.toArray⟩,.bool (Lib.cut x.1 x.2.1).2.2],[],rfl,Zas w n,?_,by simp,by simp⟩
  exact⟨_,[],[],rfl,rfl,⟨rfl,rfl⟩,_,[],[],rfl,rfl,⟨rfl,rfl⟩,_,[],[],rfl,rfl,⟨rfl,rfl⟩,rfl⟩
theorem Hah{P:Program}{ρ:Go.Shelf.Ren}{f:FuncId}{I:Bh}(L:Go.Proofs.Lays.n143 P ρ)(hf:ρ.f 143=f)
 (hI:∀w,I.p w→∃m,w.cell? ⟨ρ.g 1,0,none⟩=some (.int .i64 m)):Zh P I f (.pu (.p .s (.p .s .u)) (.p (.i .i64) .u) [true] (fun x=>Mae x.1 x.2.1)):=by
 subst hf
 refine⟨⟨_,L.f143,rfl,rfl⟩,?_⟩
 intro O w x r args hF hA hO hi hb
 match args,hA with
 |[a,b],hA=>
  obtain⟨⟨ca,rfl,hca⟩,⟨cb,rfl,hcb⟩,_⟩:=hA
  have hca':ca=[.string ⟨qr x.1⟩]:=hca
  have hcb':cb=[.string ⟨qr x.2.1⟩]:=hcb
  subst hca';subst hcb'
  simp only[Mae]at hF
  cases h1:jx (ja x.1) 4294967280 with
  |false=>rw[h1]at hF;simp at hF
  |true=>
  rw[h1]at hF
  simp only[zg,jc]at hF
  subst hF
  have h1':=q6 h1
  obtain⟨m,hm⟩:=hI w hi
  have hs1:(⟨qr x.1⟩:ByteArray).size=ja x.1:=by show(qr x.1).size=_;simp
  refine(Go.Proofs.Any.strings_Index L ⟨qr x.1⟩ ⟨qr x.2.1⟩ m w (by omega) hm).mono ?_
  rintro e w' ⟨rfl,rfl⟩
  rw[HM,HM]
  refine⟨[.int .i64 (Lib.index x.1 x.2.1)],[],rfl,⟨jo _,fun _ _ _=>rfl,rfl,rfl,rfl⟩,?_,by simp,by simp⟩
  exact⟨_,[],[],rfl,rfl,⟨rfl,rfl⟩,rfl⟩
theorem Zaq{P:Program}{f:FuncId}{I:Bh}(hE:ZH P f)
 (h:∀(s:List UInt8) (w:World),I.p w→I.base≤w.heap.size→Calls P f #[.string ⟨qr s⟩] w fun e w'=>e=.returned (.tuple #[.int .i64 (Fj s).1,.bool (Fj s).2.1])∧Go.RowKit.Below w.heap.size w w'):
 Zh P I f (.pu (.p .s .u) (.p (.i .i64) (.p .b .u)) [true,true] (fun x=>Xaq x.1)):=by
 refine⟨hE,?_⟩
 intro O w x r args hF hA hO hi hb
 match args,hA with
 |[a],hA=>
  obtain⟨⟨ca,rfl,hca⟩,_⟩:=hA
  have hca':ca=[.string ⟨qr x.1⟩]:=hca
  subst hca'
  simp only[Xaq,jc]at hF
  subst hF
  refine(h x.1 w hi hb).mono ?_
  rintro e w' ⟨rfl,hB⟩
  refine⟨[.int .i64 (Fj x.1).1,.bool (Fj x.1).2.1],[],rfl,⟨hB.size,fun b hb _=>hB.block b hb,hB.os,hB.tape,hB.output⟩,?_,by simp,by simp⟩
  exact⟨_,[],[],rfl,rfl,⟨rfl,rfl⟩,_,[],[],rfl,rfl,⟨rfl,rfl⟩,rfl⟩
theorem HaK{P:Program}{W:World}{name:String}{d:DataW Unit}{rest:List (String×DataW Unit)}{ps:List MemPlace}{g:Nat}
 (hg:P.globalNamed name=some g) (hk:(((P.globals[g]?).map (·.type)).bind P.underlying).any (fun d=>match d with|.interface _=>true|_=>false)=true)
 (h:DataW.LaidVars P W ((name,d)::rest) ps):∃ev,W.cell? ⟨g,0,none⟩=some ev∧(ev=.nilIface∨∃te pe,ev=.iface te pe):=by
 obtain⟨g',t,cs,fuel,p,q,hg',ht',hvar,hd,_,_⟩:=h
 obtain rfl:=zb (hg.symm.trans hg')
 rw[ht']at hk
 obtain⟨ms,ht⟩:∃ms,P.underlying t=some (.interface ms):=by
  simp only[jb]at hk
  revert hk
  cases P.underlying t with
  |none=>intro hk;exact absurd hk (by simp)
  |some x=>cases x with
   |interface ms=>intro _;exact⟨ms,rfl⟩
   |_=>intro hk;exact absurd hk (by simp)
 have hc:W.cell? ⟨g,0,none⟩=cs[0]?:=by
  unfold World.var? at hvar
  rw[hg]at hvar
  simp only[jb]at hvar
  unfold World.cell?
  cases hb:W.heap[g]? with
  |none=>rw[hb]at hvar;cases hvar
  |some o=>
   rw[hb]at hvar
   cases o<;>simp at hvar
   rw[hvar];rfl
 rw[hc]
 cases fuel with
 |zero=>simp[DataW.trod]at hd
 |succ n=>
  obtain⟨l⟩:=cs
  unfold DataW.trod at hd
  rw[ht]at hd
  match l,hd with
  |[],hd=>simp at hd
  |[v],hd=>
   cases v with
   |nilIface=>exact⟨_,by simp,.inl rfl⟩
   |iface te pe=>exact⟨_,by simp,.inr ⟨te,pe,rfl⟩⟩
   |_=>simp at hd
  |_::_::_,hd=>simp at hd
def Bay(P:Program)(g a:Nat)(name:String)(k:IntKind)(zs:List Int)(ha:P.globalNamed name=some a)(e:Nat):Bh:=⟨max (max g a) e+1,fun w=>(Daq P g a name k zs ha).p w∧∃ev,w.cell? ⟨e,0,none⟩=some ev∧(ev=.nilIface∨∃te pe,ev=.iface te pe),fun w w' hb h=>by
 obtain⟨h1,ev,h2,h3⟩:=h
 refine⟨(Daq P g a name k zs ha).st w w' (fun b hb'=>hb b (qg hb' (show max g a+1≤max (max g a) e+1 by omega))) h1,ev,?_,h3⟩
 unfold World.cell? at h2⊢
 rw[hb e (by omega)]
 exact h2⟩
theorem Oat{P:Program}{g a e:Nat}{name:String}{k:IntKind}{zs:List Int}{ha:P.globalNamed name=some a}{w:World}(h:(Bay P g a name k zs ha e).p w):(Bay P g a name k zs ha e).base≤w.heap.size:=by
 obtain⟨h1,ev,h2,h3⟩:=h
 have h1':max g a+1≤w.heap.size:=Pat h1
 have:e<w.heap.size:=by
  apply Classical.byContradiction
  intro hn
  unfold World.cell? at h2
  simp only[Array.getElem?_eq_none (show w.heap.size≤e by omega)]at h2
  simp at h2
 show max (max g a) e+1≤_
 omega
theorem Gaq{w w':World}(h:AD w w' (fun _=>False)):Go.RowKit.Below w.heap.size w w':=⟨h.os,h.tape,h.output,h.size,fun b hb=>h.block b hb (fun x=>x)⟩
theorem Dab{P:Program}{I:Bh}{f:FuncId}{F:T (.p (.i .i64) .u)→Option (T (.p .s .u))}(h:Zh P I f (.pu (.p (.i .i64) .u) (.p .s .u) [true] F))
 {n:Int} {r:List UInt8} (hF:F (n,())=some (r,())) (w:World) (hi:I.p w) (hb:I.base≤w.heap.size):
 Calls P f #[.int .i64 n] w fun e w'=>e=.returned (.string ⟨qr r⟩)∧Go.RowKit.Below w.heap.size w w':=by
 refine(h.2 (fun _=>False) w (n,()) (r,()) [.int .i64 n] hF ⟨⟨[.int .i64 n],rfl,rfl⟩,trivial⟩ (fun _ hb=>hb.elim) hi hb).mono ?_
 intro e w' hR
 cases e with
 |returned v=>
  obtain⟨vs,Fr,rfl,hK,hR,_,_⟩:=hR
  refine⟨?_,Gaq hK⟩
  match vs,hR with
  |[a],hR=>
   obtain⟨cs,F1,F2,rfl,_,ho,_⟩:=hR
   have ho':cs=[.string ⟨qr r⟩]:=ho.1
   subst ho'
   rfl
 |_=>exact hR.elim
theorem FaM{n:Int}(h1:-999999999≤n)(h2:n≤999999999):IZ n=some (Lib.itoa n,()):=by
 unfold IZ
 rw[show decide (-9223372036854775808≤n)=true from decide_eq_true (by omega),show decide (n≤9223372036854775807)=true from decide_eq_true (by omega)]
 rfl
def Va{α S R:Type}(g:Nat→S→α→S⊕R):Nat→S→List α→S⊕R
 |_,s,[]=>.inl s
 |k,s,x::xs=>match g k s x with
  |.inl s'=>Va g (k+1) s' xs
  |.inr r=>.inr r
section
variable{X R:Type} {step:X→Option (X⊕R)}
theorem Zb{x:X}{z:Option (X⊕R)}(h:step x=z):Eb step x=z.bind (Sum.elim (Eb step) some):=by
 rw[VI,h]
theorem H0{α S R':Type}(xs:List α)(g:Nat→S→α→S⊕R')(I:Nat→S→X)(out:S→R)(ex:R'→R)(Bh:Nat→S→Prop)
 (h:∀k (hk:k<xs.length) s,Bh k s→step (I k s)=some (match g k s xs[k]with|.inl s'=>.inl (I (k+1) s')|.inr r=>.inr (ex r))∧∀s',g k s xs[k]=.inl s'→Bh (k+1) s')
 (he:∀s,Bh xs.length s→step (I xs.length s)=some (.inr (out s))) (s0:S) (h0:Bh 0 s0):
 Eb step (I 0 s0)=some (match Va g 0 s0 xs with|.inl s=>out s|.inr r=>ex r):=by
 have key:∀(ys:List α) (k:Nat) (s:S),xs.drop k=ys→k≤xs.length→Bh k s→Eb step (I k s)=some (match Va g k s ys with|.inl s=>out s|.inr r=>ex r):=by
  intro ys
  induction ys with
  |nil=>
   intro k s hd hle hi
   have:k=xs.length:=by
    have:=congrArg ja hd
    simp at this
    omega
   subst this
   rw[Zb (he s hi)]
   rfl
  |cons y ys ih=>
   intro k s hd hle hi
   have hk:k<xs.length:=by
    have:=congrArg ja hd
    simp at this
    omega
   have hy:xs[k]=y:=by
    have:=congrArg (·[0]?) hd
    simp[List.getElem?_drop,je hk]at this
    exact this
   obtain⟨h1,h2⟩:=h k hk s hi
   rw[Zb h1]
   rw[hy]at h2⊢
   simp only[Va]
   cases hg:g k s y with
   |inl s'=>
    simp only[jb,qf]
    refine ih (k+1) s' ?_ hk (h2 s' hg)
    rw[←qq,hd]
    rfl
   |inr r=>rfl
 exact key xs 0 s0 rfl (Nat.zero_le _) h0
theorem CR(I:Nat→X)(n:Nat)(out:R)(h:∀k,k<n→step (I k)=some (.inl (I (k+1))))(he:step (I n)=some (.inr out)):Eb step (I 0)=some out:=by
 have key:∀m k,m+k=n→Eb step (I k)=some out:=by
  intro m
  induction m with
  |zero=>
   intro k hk
   have:k=n:=by omega
   subst this
   rw[Zb he];rfl
  |succ m ih=>
   intro k hk
   rw[Zb (h k (by omega))]
   exact ih (k+1) (by omega)
 exact key n 0 (by omega)
end
theorem Af{n:Int}(h1:-9223372036854775808≤n)(h2:n≤9223372036854775807):j4 .i64 n=n:=IntWalk.i64_in n ⟨h1,h2⟩
theorem Ee{k:Nat}(h:k<9223372036854775807):j4 .i64 ((k:Int)+1)=((k+1:Nat):Int):=by
 rw[Af (by omega) (by omega)];omega
theorem HaZ{n:Int}(h1:0≤n)(h2:n≤255):j4 .u8 n=n:=IntWalk.u8_in n ⟨h1,h2⟩
section
variable{α:Type}
theorem NaE(xs:List α)(k:Nat):Wb xs (k:Int)=xs[k]?:=by simp[Wb]
theorem Ub{xs:List α}{k:Nat}(h:k<xs.length):Wb xs (k:Int)=some xs[k]:=by rw[NaE,je h]
theorem Aay(x:α)(xs:List α):Wb (x::xs) 0=some x:=rfl
theorem Mf(n k:Nat):Ac n (k:Int)=decide (k<n):=by
 simp[Ac]
theorem Aa{p:Prop}[Decidable p](h:p):decide p=true:=decide_eq_true h
theorem Ba{p:Prop}[Decidable p](h:¬p):decide p=false:=decide_eq_false h
end
theorem Zf:Sa=1073741824:=rfl
def Hb:(τ:Ty)→T τ→Nat
 |.i _,_=>0
 |.b,_=>0
 |.o,_=>0
 |.mp _ _,_=>0
 |.s,x=>ja x
 |.sl e,xs=>ja xs+(zd (Hb e) xs).sum
 |.u,_=>0
 |.p a c,v=>Hb a v.1+Hb c v.2
def Ty.hasS:Ty→Bool
 |.s=>true
 |.sl e=>e.hasS
 |.p x y=>x.hasS||y.hasS
 |_=>false
def Da:Nat:=1048576
theorem FF{α:Type}{f:α→Nat}{xs:List α}{k:Nat}(hk:k<xs.length):f xs[k]≤(xs.map f).sum:=by
 induction xs generalizing k with
 |nil=>simp at hk
 |cons x xs ih=>
  cases k with
  |zero=>simp
  |succ k=>
   have:=ih (k:=k) (by simpa using hk)
   simp only[List.getElem_cons_succ,yk,List.sum_cons]
   omega
theorem J3:∀{τ:Ty} (_:(τ.flat&&!τ.hasS)=true) {x:T τ},Hb τ x=0
 |.i _,_,_=>rfl
 |.b,_,_=>rfl
 |.o,_,_=>rfl
 |.mp _ _,_,_=>rfl
 |.s,h,_=>by simp[Ty.hasS]at h
 |.sl _,h,_=>by simp[Ty.flat]at h
 |.u,_,_=>rfl
 |.p a c,h,x=>by
  simp only[Ty.flat,Ty.hasS,jd,yl,yt]at h
  simp only[Hb]
  rw[J3 (τ:=a) (by simp[h.1.1,h.2.1]),J3 (τ:=c) (by simp[h.1.2,h.2.2])]
theorem Ms{e:Ty}(h:(e.flat&&!e.hasS)=true)(xs:List (T e)):Hb (.sl e) xs=ja xs:=by
 simp only[Hb]
 have:zd (Hb e) xs=yd xs.length 0:=by
  apply List.ext_getElem
  ·simp
  ·intro i h1 h2
   simp[J3 h]
 rw[this]
 simp
theorem Qk{α:Type}(b:Bool)(x y:α):cond b (some x) (some y)=some (cond b x y):=by cases b<;>rfl
theorem Rk{α:Type}(b:Bool)(x y:α):cond b (x,()) (y,())=(cond b x y,()):=by cases b<;>rfl
theorem Ud(b x y:Bool):(cond b x y=true)↔((b=true∧x=true)∨(¬b=true∧y=true)):=by cases b<;>simp
theorem Aai{a b:Bool}(h:a=true↔b=true):a=b:=qm.2 h
theorem Dd{a b:Bool}(h:a=true↔b=true):some (a,())=some (b,()):=by rw[Aai h]
theorem UO(a b:Int):((a==b)=true)↔a=b:=by simp
theorem AU(a b:Int):((a !=b)=true)↔¬a=b:=by simp
def Tf{α:Type}(p:Nat→α→Bool):Nat→List α→Bool
 |_,[]=>true
 |k,x::xs=>p k x&&Tf p (k+1) xs
theorem Gh{X R:Type}{step:X→Option (X⊕R)}{α:Type}(xs:List α)(p:Nat→α→Bool)(I:Int→X)(yes no:R)
 (h:∀k (hk:k<xs.length),step (I (k:Int))=some (cond (p k xs[k]) (.inl (I (j4 .i64 ((k:Int)+1)))) (.inr no)))
 (he:step (I (xs.length:Int))=some (.inr yes)) (hn:xs.length<9223372036854775807):
 Eb step (I 0)=some (cond (Tf p 0 xs) yes no):=by
 have key:∀(ys:List α) (k:Nat),xs.drop k=ys→k≤xs.length→Eb step (I (k:Int))=some (cond (Tf p k ys) yes no):=by
  intro ys
  induction ys with
  |nil=>
   intro k hd hle
   have:k=xs.length:=by
    have:=congrArg ja hd
    simp at this
    omega
   subst this
   rw[Zb he]
   rfl
  |cons y ys ih=>
   intro k hd hle
   have hk:k<xs.length:=by
    have:=congrArg ja hd
    simp at this
    omega
   have hy:xs[k]=y:=by
    have:=congrArg (·[0]?) hd
    simp[List.getElem?_drop,je hk]at this
    exact this
   have hd':xs.drop (k+1)=ys:=by rw[←qq,hd];rfl
   rw[Zb (h k hk),hy]
   simp only[Tf]
   cases hc:p k y with
   |true=>
    simp only[zg,jk,jb,qf]
    rw[←ih (k+1) hd' hk,Ee (by omega)]
   |false=>rfl
 have:=key xs 0 rfl (Nat.zero_le _)
 simpa using this
theorem Rt{α:Type}{p:Nat→α→Bool}:∀{xs:List α} {k:Nat},Tf p k xs=true↔∀j (hj:j<xs.length),p (k+j) xs[j]=true
 |[],_=>by simp[Tf]
 |x::xs,k=>by
  simp only[Tf,jd,Rt (xs:=xs)]
  constructor
  ·rintro⟨h1,h2⟩ j hj
   cases j with
   |zero=>exact h1
   |succ j=>simpa[jt,Nat.add_comm 1 j]using h2 j (by simpa using hj)
  ·intro h
   refine⟨h 0 (by simp),fun j hj=>?_⟩
   have:=h (j+1) (by simpa using hj)
   rw[jt,Nat.add_comm 1 j]
   exact this
theorem L9{α β γ:Type}(b:Bool)(x:α)(y:β)(f:α→γ)(g:β→γ):Sum.elim f g (cond b (.inl x) (.inr y))=cond b (f x) (g y):=by cases b<;>rfl
def Oc{α S:Type}(g:Nat→S→α→S):Nat→S→List α→S
 |_,s,[]=>s
 |k,s,x::xs=>Oc g (k+1) (g k s x) xs
theorem MW{α:Type}{xs ys:List α}{y:α}{k:Nat}(hd:xs.drop k=y::ys):∃hk:k<xs.length,xs[k]=y∧xs.drop (k+1)=ys:=by
 have hk:k<xs.length:=by
  have:=congrArg ja hd
  simp at this
  omega
 refine⟨hk,?_,by rw[←qq,hd];rfl⟩
 have:=congrArg (·[0]?) hd
 simp[List.getElem?_drop,je hk]at this
 exact this
theorem M1{α:Type}{xs:List α}{k:Nat}(hd:xs.drop k=[])(hk:k≤xs.length):k=xs.length:=by
 have:=congrArg ja hd
 simp at this
 omega
theorem Zd{X R:Type}{step:X→Option (X⊕R)}{α S:Type}(xs:List α)(g:Nat→S→α→S)(I:S→Int→X)(out:S→R)(Bh:Nat→S→Prop)
 (h:∀k (hk:k<xs.length) s,Bh k s→step (I s (k:Int))=some (.inl (I (g k s xs[k]) (j4 .i64 ((k:Int)+1))))∧Bh (k+1) (g k s xs[k]))
 (he:∀s,Bh xs.length s→step (I s (xs.length:Int))=some (.inr (out s))) (hn:xs.length<9223372036854775807) (s0:S) (h0:Bh 0 s0):
 Eb step (I s0 0)=some (out (Oc g 0 s0 xs))∧Bh xs.length (Oc g 0 s0 xs):=by
 have key:∀(ys:List α) (k:Nat) (s:S),xs.drop k=ys→k≤xs.length→Bh k s→Eb step (I s (k:Int))=some (out (Oc g k s ys))∧Bh xs.length (Oc g k s ys):=by
  intro ys
  induction ys with
  |nil=>
   intro k s hd hle hi
   have:=M1 hd hle
   subst this
   rw[Zb (he s hi)]
   exact⟨rfl,hi⟩
  |cons y ys ih=>
   intro k s hd hle hi
   obtain⟨hk,hy,hd'⟩:=MW hd
   obtain⟨h1,h2⟩:=h k hk s hi
   rw[Zb h1,hy,Ee (by omega)]
   rw[hy]at h2
   exact ih (k+1) _ hd' hk h2
 have:=key xs 0 s0 rfl (Nat.zero_le _) h0
 simpa using this
theorem Kg{X R:Type}{step:X→Option (X⊕R)}{α S R':Type}(xs:List α)(g:Nat→S→α→S⊕R')(I:S→Int→X)(out:S→R)(ex:R'→R)(Bh:Nat→S→Prop)
 (h:∀k (hk:k<xs.length) s,Bh k s→step (I s (k:Int))=some (match g k s xs[k]with|.inl s'=>.inl (I s' (j4 .i64 ((k:Int)+1)))|.inr r=>.inr (ex r))∧∀s',g k s xs[k]=.inl s'→Bh (k+1) s')
 (he:∀s,Bh xs.length s→step (I s (xs.length:Int))=some (.inr (out s))) (hn:xs.length<9223372036854775807) (s0:S) (h0:Bh 0 s0):
 Eb step (I s0 0)=some (match Va g 0 s0 xs with|.inl s=>out s|.inr r=>ex r):=by
 have:=H0 (step:=step) xs g (fun k s=>I s (k:Int)) out ex Bh (fun k hk s hi=>by
  obtain⟨h1,h2⟩:=h k hk s hi
  refine⟨?_,h2⟩
  rw[h1,Ee (by omega)]) he s0 h0
 simpa using this
def TaT:Nat:=1099511627776
theorem z3:((3:Int)==0)=false:=rfl
theorem Sg{n lo hi:Nat}(h1:lo≤hi)(h2:hi≤n):Bd n (lo:Int) (hi:Int)=true:=by
 simp[Bd];omega
section
variable{α β:Type}
end
end KF
