/- An evaluator of Go functions on plain data, its soundness, and plain laws on what the functions compute, part 6 (conditions: as each lemma tells). -/
import Derived.Test.YteooipbgmfmhfaaGreatDoorE
set_option linter.unusedSimpArgs false
set_option linter.unusedVariables false
namespace KF
open Go
open List renaming length → ja, getElem?_eq_getElem → je, append → jf, mem_append → jl, mem_cons → jp, mem_cons_of_mem → jr, length_cons → jw, set → j5, length_nil → j6, mem_singleton → qb, length_append → qc, getD_eq_getElem?_getD → qe, getElem_mem → qi, getElem_of_mem → qj, mem_map → qk, length_drop → ql, ext_getElem? → qp, drop_drop → qq, toArray → qr, getD → qs, getElem?_eq_none → qt, mem_append_left → qu, mem_append_right → qv, any_eq_true → qy, append_assoc → q0, eq_nil_of_length_eq_zero → q7, getElem?_eq_some_iff → q8, length_eq_one_iff → q9, replicate → yd, nil_append → yg, cons_append → yh, map_cons → yk, nodup_cons → ym, nodup_append → yn, size_toArray → yo, flatten_cons → yp, length_map → yr, mem_map_of_mem → yv, map_append → yw, all_eq_true → yx, append_nil → yy, range → y3, map → zd, append_eq → ze, not_mem_nil → zf
open Option renaming bind_some → jb, bind → jz, map_some → qa, bind_eq_some_iff → qd, getD_some → qz, map_eq_some_iff → yz
open Option.some renaming injEq → jc, inj → zb
open Bool renaming and_eq_true → jd, not_true → jg, true_and → jk, false_eq_true → jq, not_false → j7, not_eq_true → j8, false_and → qh, eq_iff_iff → qm, or_eq_true → qx, not_eq_true' → yl, or_eq_false_iff → yt, false_or → yu
open Prod.mk renaming injEq → jh
open Nat renaming ble_eq_true_of_le → ji, mul_le_mul_right → jm, le_refl → jo, zero_add → js, add_assoc → jt, eq_of_beq_eq_true → ju, ble → jx, le_trans → j9, lt_of_lt_of_le → qg, beq → qw, le_of_ble_eq_true → q6, add_zero → ya, blt → yb, blt_eq → ye, add_mul → yf, beq_refl → yj, succ_mul → yq
open Int renaming toNat_natCast → jn, eq_ofNat_of_zero_le → jv, toNat → jy, tmod → yc
open Go.IntKind renaming wrap → j4
open Sum renaming elim_inl → qf
open Result renaming andThen_ok → qn
open Sem renaming run_bind → qo
open List.cons renaming injEq → yi
open Sum.inl renaming injEq → za
theorem Fp(x y:List UInt8)(r:List (List UInt8))(sep:List UInt8):Lib.join (x::y::r) sep=x++(sep++Lib.join (y::r) sep):=by
 rw[Lib.join_cons,Lib.join_cons];simp[Lib.joinTail]
theorem JJ{b:UInt8}:∀(l:List (List UInt8)),l≠[]→(∀x∈l,Nm b x)→Mb (b.toNat:Int) [] (Lib.join l [b])=l
 |[],h,_=>absurd rfl h
 |[x],_,h=>by
  rw[Lib.join_one]
  have:=RR x [] [] (h x (by simp))
  simp only[yy,yg]at this
  rw[this];rfl
 |x::y::r,_,h=>by
  have ih:=JJ (y::r) (by simp) fun z hz=>h z (jr _ hz)
  rw[Fp,RR x _ [] (h x (by simp)),yg,yh,yg,Mb,show(((UInt8.toNat b:Nat):Int)==(b.toNat:Int))=true by simp,zg,ih]
theorem Sv{b:UInt8}:∀(s cur:List UInt8),Lib.join (Mb (b.toNat:Int) cur s) [b]=cur++s
 |[],cur=>by rw[Mb,Lib.join_one];simp
 |c::s,cur=>by
  rw[Mb]
  cases hc:((UInt8.toNat c:Nat):Int)==(b.toNat:Int)with
  |false=>rw[zh,Sv s (cur++[c])];simp
  |true=>
   have hcb:c=b:=UInt8.toNat_inj.1 (by have:=eq_of_beq hc;omega)
   subst hcb
   rw[zg]
   have ih:=Sv (b:=c) s []
   cases hs:Mb (c.toNat:Int) [] s with
   |nil=>exact absurd hs (My _ _ _)
   |cons y r=>rw[Fp,←hs,ih];simp
def EG:List UInt8:=[32,124,32]
theorem I7:∀(x rest:List UInt8),Nm 124 x→Lib.index (x++(EG++rest)) EG=(x.length:Int)
 |[],rest,_=>by
  show Lib.index (32::124::32::rest) [32,124,32]=_
  rw[Lib.index,if_pos (by simp[List.isPrefixOf])];rfl
 |c::x,rest,h=>by
  have ih:=I7 x rest fun y hy=>h y (jr _ hy)
  rw[yh,Lib.index]
  have hp:EG.isPrefixOf (c::(x++(EG++rest)))=false:=by
   cases x with
   |nil=>simp[EG,List.isPrefixOf]
   |cons d x=>
    have:d≠124:=h d (by simp)
    simp[EG,List.isPrefixOf,Ne.symm this]
  rw[hp,ih]
  simp only[jq,if_false]
  rw[if_neg (by simp)]
  simp
theorem Fae:∀(x:List UInt8),Nm 124 x→Lib.index x EG=-1
 |[],_=>rfl
 |c::x,h=>by
  have ih:=Fae x fun y hy=>h y (jr _ hy)
  rw[Lib.index]
  have hp:EG.isPrefixOf (c::x)=false:=by
   cases x with
   |nil=>simp[EG,List.isPrefixOf]
   |cons d x=>
    have:d≠124:=h d (by simp)
    simp[EG,List.isPrefixOf,Ne.symm this]
  rw[hp,ih];rfl
theorem C6:∀(r:List (List UInt8)) (x:List UInt8) (k:Nat),r.length≤k→(∀y∈x::r,Nm 124 y)→Lib.splitK EG 0 k (Lib.join (x::r) EG)=x::r
 |[],x,k,_,h=>by
  rw[Lib.join_one]
  cases k with
  |zero=>rfl
  |succ k=>rw[Lib.splitK,Fae x (h x (by simp))];rfl
 |y::r,x,k,hk,h=>by
  cases k with
  |zero=>simp at hk
  |succ k=>
   have ih:=C6 r y k (by simpa using hk) fun z hz=>h z (jr _ hz)
   rw[Fp,Lib.splitK,I7 x _ (h x (by simp))]
   rw[if_neg (by simp),jn,ya,List.take_left' rfl,←qq,List.drop_left' rfl,List.drop_left' rfl,ih]
theorem F9:∀(r:List (List UInt8)) (x:List UInt8) (f:Nat),r.length+1≤f→(∀y∈x::r,Nm 124 y)→Lib.countFrom EG f (Lib.join (x::r) EG)=r.length
 |[],x,f,hf,h=>by
  cases f with
  |zero=>simp at hf
  |succ f=>rw[Lib.join_one,Lib.countFrom,Fae x (h x (by simp))];rfl
 |y::r,x,f,hf,h=>by
  cases f with
  |zero=>simp at hf
  |succ f=>
   have ih:=F9 r y f (by simpa using hf) fun z hz=>h z (jr _ hz)
   rw[Fp,Lib.countFrom,I7 x _ (h x (by simp)),if_neg (by simp),jn,←qq,List.drop_left' rfl,List.drop_left' rfl,ih]
   simp;omega
theorem Qai:∀(r:List (List UInt8)) (x:List UInt8),r.length≤(Lib.join (x::r) EG).length
 |[],x=>by simp
 |y::r,x=>by
  have ih:=Qai r y
  rw[Fp]
  simp only[qc,jw,EG,j6]at ih⊢
  omega
theorem Wav(x:List UInt8)(r:List (List UInt8))(h:∀y∈x::r,Nm 124 y):Lib.split (Lib.join (x::r) EG) EG=x::r:=by
 unfold Lib.split Lib.count
 rw[F9 r x _ (by have:=Qai r x;omega) h]
 exact C6 r x _ (jo _) h
theorem RW{α S R:Type}(g:S→α→S⊕R):∀(l m:List α) (k:Nat) (s:S),Va (fun _ s x=>g s x) k s (l++m)=(match Va (fun _ s x=>g s x) k s l with|.inl s'=>Va (fun _ s x=>g s x) (k+l.length) s' m|.inr r=>.inr r)
 |[],m,k,s=>rfl
 |x::l,m,k,s=>by
  simp only[yh,Va]
  cases g s x with
  |inl s'=>
   simp only
   rw[RW g l m (k+1) s',jw,show k+1+l.length=k+(l.length+1) by omega]
  |inr r=>rfl
theorem Daa(n:Nat)(hn:n<4):∀(r:List Ia) (k:Nat) (l:List Ia),l.length+r.length≤32→(∀a∈r,Nb a=true)→Va (fun _ l w=>JN n l w) k l (r.map Re)=.inl (l++r)
 |[],k,l,_,_=>by simp[Va]
 |a::r,k,l,hl,ha=>by
  simp only[yk,Va,jw]at hl⊢
  have:JN n l (Re a)=.inl (l++[a]):=by
   unfold JN
   rw[(VU (ha a (by simp))).2,Ba (by omega),Ba (by omega)]
   rfl
  rw[this]
  simp only
  rw[Daa n hn r (k+1) (l++[a]) (by simp;omega) fun b hb=>ha b (jr _ hb)]
  simp
theorem KaI{r:List Ia}:Nm 124 (Xz r):=UaH (NX _ _ (by decide)) fun x hx=>by
 obtain⟨a,_,rfl⟩:=qk.1 hx
 exact PO (.inr (.inr rfl)) a
theorem Xav{r:List Ia}(h:r≠[]):Mb 32 [] (Xz r)=r.map Re:=
 JJ (b:=32) (r.map Re) (by simpa using h) fun x hx=>by
  obtain⟨a,_,rfl⟩:=qk.1 hx
  exact PO (.inr (.inl rfl)) a
structure Yao(r:List Ia):Prop where
 ne:r≠[]
 le:r.length≤32
 act:∀a∈r,Nb a=true
theorem G5:∀(rs:List (List Ia)) (k:Nat) (m:Ea),m.2.1.length+rs.length≤4→(∀r∈rs,Yao r)→
 Va (fun _ m p=>Lw m p) k m (rs.map Xz)=.inl (match rs.getLast? with|some r=>((r.length:Nat):Int)|none=>m.1,m.2.1++rs,())
 |[],k,m,_,_=>by simp[Va]
 |r::rs,k,m,hl,hr=>by
  simp only[yk,Va,jw]at hl⊢
  have h:=hr r (by simp)
  have:Lw m (Xz r)=.inl (((r.length:Nat):Int),m.2.1++[r],()):=by
   unfold Lw
   rw[Xav h.ne,Daa _ (by omega) r 0 [] (by simpa using h.le) h.act]
   rfl
  rw[this]
  simp only
  rw[G5 rs (k+1) _ (by simp;omega) fun x hx=>hr x (jr _ hx)]
  cases rs with
  |nil=>simp
  |cons y rs=>
   simp only[q0,List.singleton_append,List.getLast?_cons_cons]
   cases hq:(y::rs).getLast? with
   |none=>simp at hq
   |some q=>rfl
theorem GS{m:Ea}(h:Tb m=true):(∀r∈m.2.1,Yao r)∧(∀r∈m.2.1,((r.length:Nat):Int)=m.1)∧m.2.1≠[]∧m.2.1.length≤4:=by
 have hm:=Pd h
 have h1:=hm.k1;have h2:=hm.k2
 refine⟨fun r hr=>?_,fun r hr=>?_,?_,hm.l2⟩
 ·obtain⟨i,hi,rfl⟩:=qj hr
  have h3:=hm.row i hi
  refine⟨fun e=>?_,by omega,fun a ha=>?_⟩
  ·have:m.2.1[i].length=0:=by rw[e];rfl
   omega
  ·obtain⟨k,hk,rfl⟩:=qj ha
   exact UD (hm.act i hi k hk)
 ·obtain⟨i,hi,rfl⟩:=qj hr
  exact hm.row i hi
 ·intro e
  have:=hm.l1
  rw[e]at this
  simp at this
theorem T7{m:Ea}(h:Tb m=true):Jq m=Lib.join (m.2.1.map Xz) EG:=by unfold Jq;rw[h];rfl
theorem Kav{m:Ea}(h:Tb m=true):Fl (Jq m)=(m,true,()):=by
 obtain⟨h1,h2,h3,h4⟩:=GS h
 have hs:Lib.split (Jq m) [32,124,32]=m.2.1.map Xz:=by
  rw[T7 h]
  cases hl:m.2.1.map Xz with
  |nil=>simp at hl;exact absurd hl h3
  |cons x r=>
   refine Wav x r fun y hy=>?_
   rw[←hl]at hy
   obtain⟨q,_,rfl⟩:=qk.1 hy
   exact KaI
 have hf:=G5 m.2.1 0 Gg (by simpa[Gg]using h4) h1
 unfold Fl
 rw[hs,hf]
 have e:((match m.2.1.getLast? with|some r=>((r.length:Nat):Int)|none=>Gg.1,Gg.2.1++m.2.1,()):Ea)=m:=by
  cases hq:m.2.1.getLast? with
  |none=>rw[List.getLast?_eq_none_iff]at hq;exact absurd hq h3
  |some r=>
   have:=h2 r (List.mem_of_getLast? hq)
   simp only[Gg,yg,this]
 simp only[e,h]
 simp
noncomputable def Fv(rs:List (List Ia)):List (List UInt8):=(rs.map fun r=>r.map Re++[[124]]).flatten
noncomputable def Qm:List (List Ia)→List (List UInt8)
 |[]=>[]
 |[r]=>r.map Re
 |r::q::rs=>r.map Re++[124]::Qm (q::rs)
theorem O3:∀(rs:List (List Ia)),rs≠[]→Fv rs=Qm rs++[[124]]
 |[],h=>absurd rfl h
 |[r],_=>by simp[Fv,Qm]
 |r::q::rs,_=>by
  have ih:=O3 (q::rs) (by simp)
  have e:Fv (r::q::rs)=r.map Re++[[124]]++Fv (q::rs):=by simp[Fv]
  rw[e,ih,Qm]
  simp
theorem F5:∀(l m:List (List UInt8)),l≠[]→m≠[]→Lib.join (l++m) [32]=Lib.join l [32]++(32::Lib.join m [32])
 |[],m,h,_=>absurd rfl h
 |[x],m,_,hm=>by
  cases m with
  |nil=>exact absurd rfl hm
  |cons y m=>rw[List.singleton_append,Fp,Lib.join_one];rfl
 |x::y::l,m,_,hm=>by
  have ih:=F5 (y::l) m (by simp) hm
  rw[yh,yh,Fp,Fp,←yh,ih]
  simp
theorem Maa:∀(rs:List (List Ia)),rs≠[]→(∀r∈rs,r≠[])→Qm rs≠[]
 |[],h,_=>absurd rfl h
 |[r],_,h=>by simpa[Qm]using h r (by simp)
 |r::q::rs,_,_=>by simp[Qm]
theorem DX:∀(rs:List (List Ia)),rs≠[]→(∀r∈rs,r≠[])→Lib.join (rs.map Xz) EG=Lib.join (Qm rs) [32]
 |[],h,_=>absurd rfl h
 |[r],_,_=>by simp only[yk,List.map_nil,Lib.join_one,Qm];rfl
 |r::q::rs,_,h=>by
  have hr:=h r (by simp)
  have ih:=DX (q::rs) (by simp) fun x hx=>h x (jr _ hx)
  have hB:=Maa (q::rs) (by simp) fun x hx=>h x (jr _ hx)
  rw[yk]at ih
  rw[yk,yk,Fp,ih,Qm,F5 _ _ (by simpa using hr) (by simp)]
  cases hw:Qm (q::rs)with
  |nil=>exact absurd hw hB
  |cons y l=>rw[Fp];simp[EG,Xz]
theorem Naa:∀(rs:List (List Ia)),∀x∈Qm rs,Nm 32 x
 |[],x,hx=>by simp[Qm]at hx
 |[r],x,hx=>by
  obtain⟨a,_,rfl⟩:=qk.1 (show x∈r.map Re from hx)
  exact PO (.inr (.inl rfl)) a
 |r::q::rs,x,hx=>by
  rcases jl.1 (show x∈r.map Re++[124]::Qm (q::rs)from hx)with hx|hx
  ·obtain⟨a,_,rfl⟩:=qk.1 hx
   exact PO (.inr (.inl rfl)) a
  ·rcases jp.1 hx with rfl|hx
   ·exact NX _ _ (by decide)
   ·exact Naa (q::rs) x hx
theorem UaL{a:Ia}(h:Nb a=true)(s:Ea×List Ia):QA s (Re a)=.inl (s.1,s.2++[a]):=by
 unfold QA
 have hne:(Re a==([124]:List UInt8))=false:=by
  rw[beq_eq_false_iff_ne]
  intro e
  have:=PO (b:=124) (.inr (.inr rfl)) a
  rw[e]at this
  exact this 124 (by simp) rfl
 rw[hne,(VU h).1]
 rfl
theorem Dam:∀(r:List Ia) (k:Nat) (s:Ea×List Ia),(∀a∈r,Nb a=true)→Va (fun _ s w=>QA s w) k s (r.map Re)=.inl (s.1,s.2++r)
 |[],k,s,_=>by simp[Va]
 |a::r,k,s,h=>by
  simp only[yk,Va]
  rw[UaL (h a (by simp))]
  simp only
  rw[Dam r (k+1) _ fun b hb=>h b (jr _ hb)]
  simp
theorem Eam:∀(rs:List (List Ia)) (k:Nat) (m:Ea),(∀r∈rs,Yao r)→
 Va (fun _ s w=>QA s w) k (m,[]) (Fv rs)=.inl ((match rs.getLast? with|some r=>((r.length:Nat):Int)|none=>m.1,m.2.1++rs,()),[])
 |[],k,m,_=>by simp[Fv,Va]
 |r::rs,k,m,h=>by
  have hr:=h r (by simp)
  have e:Fv (r::rs)=r.map Re++([124]::Fv rs):=by simp[Fv]
  rw[e,RW (fun s w=>QA s w) (r.map Re),Dam r k (m,[]) hr.act]
  simp only[yg,Va]
  have hb:QA (m,r) [124]=.inl ((((r.length:Nat):Int),m.2.1++[r],()),[]):=rfl
  rw[hb]
  simp only
  rw[Eam rs _ _ fun x hx=>h x (jr _ hx)]
  cases rs with
  |nil=>simp
  |cons y rs=>
   simp only[q0,List.singleton_append,List.getLast?_cons_cons]
   cases hq:(y::rs).getLast? with
   |none=>simp at hq
   |some q=>rfl
theorem Baa{m:Ea}(h:Tb m=true):Vz (Jq m)=(m,true,()):=by
 obtain⟨h1,h2,h3,h4⟩:=GS h
 have hne:∀r∈m.2.1,r≠[]:=fun r hr=>(h1 r hr).ne
 have hs:Mb 32 [] (Jq m)=Qm m.2.1:=by
  rw[T7 h,DX m.2.1 h3 hne]
  exact JJ (b:=32) _ (Maa _ h3 hne) (Naa _)
 have hf:=Eam m.2.1 0 Gg h1
 unfold Vz
 rw[hs,show jf (Qm m.2.1) [[124]]=Qm m.2.1++[[124]]from rfl,←O3 _ h3,hf]
 have e:((match m.2.1.getLast? with|some r=>((r.length:Nat):Int)|none=>Gg.1,Gg.2.1++m.2.1,()):Ea)=m:=by
  cases hq:m.2.1.getLast? with
  |none=>rw[List.getLast?_eq_none_iff]at hq;exact absurd hq h3
  |some r=>
   have:=h2 r (List.mem_of_getLast? hq)
   simp only[Gg,yg,this]
 simp only[e,h]
 simp
theorem Fav:∀(W:List (List UInt8)) (k:Nat) (s s':Ea×List Ia),Va (fun _ s w=>QA s w) k s W=.inl s'→
 Fv s'.1.2.1++s'.2.map Re=Fv s.1.2.1++s.2.map Re++W
 |[],k,s,s',h=>by simp only[Va,za]at h;subst h;simp
 |w::W,k,s,s',h=>by
  simp only[Va]at h
  revert h
  cases hg:QA s w with
  |inr u=>intro h;simp at h
  |inl s1=>
   intro h
   have ih:=Fav W (k+1) s1 s' h
   rw[ih]
   unfold QA at hg
   revert hg
   cases hw:w==([124]:List UInt8)with
   |true=>
    intro hg
    simp only[zg,za]at hg
    subst hg
    rw[eq_of_beq hw]
    simp[Fv]
   |false=>
    cases hp:(Ro w).2.1 with
    |false=>intro hg;simp at hg
    |true=>
     intro hg
     simp only[zg,zh,za]at hg
     subst hg
     have hq:(Qj w).2.1=true:=by rw[←FR];exact hp
     have:=(Taf hq).2
     rw[←FR]at this
     simp[this]
theorem Haz{s:List UInt8}(h:(Vz s).2.1=true):Tb (Vz s).1=true∧Jq (Vz s).1=s:=by
 unfold Vz at h⊢
 revert h
 cases hf:Va (fun _ s w=>QA s w) 0 (Gg,[]) (jf (Mb 32 [] s) [[124]])with
 |inr u=>intro h;simp at h
 |inl r=>
  simp only
  cases hm:Tb r.1 with
  |false=>intro h;simp at h
  |true=>
   intro _
   simp only[zg]
   refine⟨hm,?_⟩
   obtain⟨h1,h2,h3,h4⟩:=GS hm
   have hne:∀r'∈r.1.2.1,r'≠[]:=fun r' hr=>(h1 r' hr).ne
   have hi:=Fav _ _ _ _ hf
   have hr2:r.2=[]:=by
    have e:jf (Mb 32 [] s) [[124]]=Mb 32 [] s++[[124]]:=rfl
    rw[e,RW (fun s w=>QA s w) (Mb 32 [] s)]at hf
    revert hf
    cases Va (fun _ s w=>QA s w) 0 (Gg,[]) (Mb 32 [] s)with
    |inr u=>intro h;simp at h
    |inl q=>
     intro h
     simp only[Va]at h
     have hb:QA q [124]=.inl ((((q.2.length:Nat):Int),q.1.2.1++[q.2],()),[]):=rfl
     rw[hb]at h
     simp only[za]at h
     rw[←h]
   rw[hr2,O3 _ h3]at hi
   simp only[List.map_nil,yy]at hi
   have hi2:Qm r.1.2.1++[[124]]=Mb 32 [] s++[[124]]:=by
    rw[hi];simp[Fv,Gg]
   have hi3:=List.append_cancel_right hi2
   rw[T7 hm,DX _ h3 hne,hi3]
   have:=Sv (b:=32) s []
   simpa using this
theorem Lav{s:List UInt8}(h:(Fl s).2.1=true):Tb (Fl s).1=true∧Jq (Fl s).1=s:=by
 refine⟨F8 h,?_⟩
 unfold Fl at h⊢
 revert h
 cases Va (fun _ m p=>Lw m p) 0 Gg (Lib.split s [32,124,32])with
 |inr u=>intro h;simp at h
 |inl m=>
  simp only
  cases hm:Tb m with
  |false=>intro h;simp at h
  |true=>
   cases ht:Jq m !=s with
   |true=>intro h;simp at h
   |false=>intro _;simpa using ht
theorem Gaz(s:List UInt8)(h:(Vz s).2.1=false):Vz s=(Gg,false,()):=by
 unfold Vz at h⊢
 revert h
 cases Va (fun _ s w=>QA s w) 0 (Gg,[]) (jf (Mb 32 [] s) [[124]])with
 |inr u=>intro _;rfl
 |inl r=>
  simp only
  cases Tb r.1 with
  |false=>intro _;rfl
  |true=>intro h;simp at h
theorem Faz(s:List UInt8)(h:(Fl s).2.1=false):Fl s=(Gg,false,()):=by
 unfold Fl at h⊢
 revert h
 cases Va (fun _ m p=>Lw m p) 0 Gg (Lib.split s [32,124,32])with
 |inr u=>intro _;rfl
 |inl m=>
  simp only
  cases !Tb m||Jq m !=s with
  |true=>intro _;rfl
  |false=>intro h;simp at h
theorem Mav(s:List UInt8):Vz s=Fl s:=by
 cases h1:(Vz s).2.1 with
 |true=>
  obtain⟨a,b⟩:=Haz h1
  have e1:=Baa a
  have e2:=Kav a
  rw[b]at e1 e2
  rw[e1]
  exact(e2.trans (by rw[e1])).symm
 |false=>
  cases h2:(Fl s).2.1 with
  |true=>
   obtain⟨a,b⟩:=Lav h2
   have e1:=Baa a
   rw[b]at e1
   rw[e1]at h1
   simp at h1
  |false=>rw[Gaz s h1,Faz s h2]
def NJ:Ta:=((0:Int),(0:Int),(0:Int),())
noncomputable def GH(k:Int)(w:List UInt8):Ta×(Bool×Unit):=((k,(Ro (w.drop 2)).1.2.1,(Ro (w.drop 2)).1.2.2.1,()),(Ro (w.drop 2)).2.1&&((Ro (w.drop 2)).1.1==2),())
noncomputable def GR(w:List UInt8):Ta×(Bool×Unit):=
 cond (decide (((ja w:Nat):Int)<3)) (NJ,false,()) (cond (((UInt8.toNat (w.getD 1 0):Nat):Int) !=61) (NJ,false,())
  (cond (((UInt8.toNat (w.getD 0 0):Nat):Int)==116) (GH 0 w) (cond (((UInt8.toNat (w.getD 0 0):Nat):Int)==100) (GH 1 w) (cond (((UInt8.toNat (w.getD 0 0):Nat):Int)==117) (GH 2 w) (NJ,false,())))))
theorem A6{w:List UInt8}(hw:w.length≤100000000):IJ w=some (GR w):=by
 unfold IJ GR
 by_cases h3:((ja w:Nat):Int)<3
 ·rw[Aa h3];rfl
 rw[Ba h3]
 simp only[zh]
 obtain⟨c0,c1,c2,r,rfl⟩:∃c0 c1 c2 r,w=c0::c1::c2::r:=by
  rcases w with _|⟨c0,_|⟨c1,_|⟨c2,r⟩⟩⟩
  ·exact absurd (show((0:Nat):Int)<3 by omega) h3
  ·exact absurd (show((1:Nat):Int)<3 by omega) h3
  ·exact absurd (show((2:Nat):Int)<3 by omega) h3
  ·exact⟨_,_,_,_,rfl⟩
 rw[show Wb (c0::c1::c2::r) 1=some c1 from rfl,show(c0::c1::c2::r).getD 1 0=c1 from rfl,show(c0::c1::c2::r).getD 0 0=c0 from rfl]
 simp only[jb]
 cases(((UInt8.toNat c1:Nat):Int) !=61)with
 |true=>rfl
 |false=>
 simp only[zh]
 have hd:((c0::c1::c2::r).drop 2).length≤100000000:=by rw[ql];omega
 have hcut:Ya (c0::c1::c2::r) (jy 2) (jy ((ja (c0::c1::c2::r):Nat):Int))=(c0::c1::c2::r).drop 2:=by
  rw[show jy 2=2 from rfl,jn]
  unfold Ya
  rw[List.take_length]
 have hok:Bd (ja (c0::c1::c2::r)) 2 ((ja (c0::c1::c2::r):Nat):Int)=true:=Sg (lo:=2) (by simp) (jo _)
 have hit:∀(k:Int) (x:UInt8),Wb ([116,100,117]:List UInt8) k=some x→k<3→Yf (c0::c1::c2::r) () k NJ=
  cond (((UInt8.toNat c0:Nat):Int)==((UInt8.toNat x:Nat):Int)) (some (.inr (.inr (((),(GH k (c0::c1::c2::r)).2.1,()),((GH k (c0::c1::c2::r)).1,())))))
   (some (.inl ((c0::c1::c2::r,(),(Go.IntKind.wrap .i64 (k+(1:Int))),()),(NJ,())))):=by
  intro k x hx hk
  simp only[Yf]
  rw[Aa hk,show Wb (c0::c1::c2::r) 0=some c0 from rfl,hx]
  simp only[zg,jb]
  cases((UInt8.toNat c0:Nat):Int)==((UInt8.toNat x:Nat):Int)with
  |false=>rfl
  |true=>
   simp only[zg]
   rw[hok,hcut,TJ hd]
   simp only[zg,jb]
   unfold GH
   cases(Ro ((c0::c1::c2::r).drop 2)).2.1<;>rfl
 have hend:Yf (c0::c1::c2::r) () 3 NJ=some (.inr (.inl (((),()),(NJ,())))):=by
  simp only[Yf]
  rw[Ba (by omega)];rfl
 unfold TB
 cases e0:((UInt8.toNat c0:Nat):Int)==116 with
 |true=>
  have h0:=hit 0 116 rfl (by omega)
  rw[show((UInt8.toNat 116:Nat):Int)=116 from rfl,e0]at h0
  have hl:=Zb (step:=fun x:(List UInt8×Unit×Int×Unit)×Ta×Unit=>Yf x.1.1 x.1.2.1 x.1.2.2.1 x.2.1) (x:=((c0::c1::c2::r,(),(0:Int),()),(NJ,()))) h0
  erw[hl]
  rfl
 |false=>
  have h0:=hit 0 116 rfl (by omega)
  rw[show((UInt8.toNat 116:Nat):Int)=116 from rfl,e0]at h0
  have hl0:=Zb (step:=fun x:(List UInt8×Unit×Int×Unit)×Ta×Unit=>Yf x.1.1 x.1.2.1 x.1.2.2.1 x.2.1) (x:=((c0::c1::c2::r,(),(0:Int),()),(NJ,()))) h0
  erw[hl0]
  simp only[zh,jb,qf]
  rw[show j4 .i64 (0+1)=1 by decide]
  cases e1:((UInt8.toNat c0:Nat):Int)==100 with
  |true=>
   have h1:=hit 1 100 rfl (by omega)
   rw[show((UInt8.toNat 100:Nat):Int)=100 from rfl,e1]at h1
   have hl:=Zb (step:=fun x:(List UInt8×Unit×Int×Unit)×Ta×Unit=>Yf x.1.1 x.1.2.1 x.1.2.2.1 x.2.1) (x:=((c0::c1::c2::r,(),(1:Int),()),(NJ,()))) h1
   erw[hl]
   rfl
  |false=>
   have h1:=hit 1 100 rfl (by omega)
   rw[show((UInt8.toNat 100:Nat):Int)=100 from rfl,e1]at h1
   have hl1:=Zb (step:=fun x:(List UInt8×Unit×Int×Unit)×Ta×Unit=>Yf x.1.1 x.1.2.1 x.1.2.2.1 x.2.1) (x:=((c0::c1::c2::r,(),(1:Int),()),(NJ,()))) h1
   erw[hl1]
   simp only[zh,jb,qf]
   rw[show j4 .i64 (1+1)=2 by decide]
   cases e2:((UInt8.toNat c0:Nat):Int)==117 with
   |true=>
    have h2:=hit 2 117 rfl (by omega)
    rw[show((UInt8.toNat 117:Nat):Int)=117 from rfl,e2]at h2
    have hl:=Zb (step:=fun x:(List UInt8×Unit×Int×Unit)×Ta×Unit=>Yf x.1.1 x.1.2.1 x.1.2.2.1 x.2.1) (x:=((c0::c1::c2::r,(),(2:Int),()),(NJ,()))) h2
    erw[hl]
    rfl
   |false=>
    have h2:=hit 2 117 rfl (by omega)
    rw[show((UInt8.toNat 117:Nat):Int)=117 from rfl,e2]at h2
    have hl2:=Zb (step:=fun x:(List UInt8×Unit×Int×Unit)×Ta×Unit=>Yf x.1.1 x.1.2.1 x.1.2.2.1 x.2.1) (x:=((c0::c1::c2::r,(),(2:Int),()),(NJ,()))) h2
    erw[hl2]
    simp only[zh,jb,qf]
    rw[show j4 .i64 (2+1)=3 by decide]
    have hl3:=Zb (step:=fun x:(List UInt8×Unit×Int×Unit)×Ta×Unit=>Yf x.1.1 x.1.2.1 x.1.2.2.1 x.2.1) (x:=((c0::c1::c2::r,(),(3:Int),()),(NJ,()))) hend
    erw[hl3]
    rfl
noncomputable def XP(o:List Ta)(w:List UInt8):List Ta⊕Unit:=cond (GR w).2.1 (.inl (jf o [(GR w).1])) (.inr ())
noncomputable def YE(s:List UInt8):List Ta×(Bool×Unit):=
 cond (s==([]:List UInt8)) (([]:List Ta),true,()) (cond (decide (8<(Mb 32 [] s).length)) (([]:List Ta),false,()) (match Va (fun _ o w=>XP o w) 0 [] (Mb 32 [] s)with
  |.inl l=>cond (Dc l) (l,true,()) (([]:List Ta),false,())
  |.inr _=>(([]:List Ta),false,())))
theorem Ham:∀(W:List (List UInt8)) (k:Nat) (o o':List Ta),Va (fun _ o w=>XP o w) k o W=.inl o'→o'.length=o.length+W.length
 |[],k,o,o',h=>by simp only[Va,za]at h;subst h;rfl
 |w::W,k,o,o',h=>by
  simp only[Va]at h
  revert h
  unfold XP
  cases(GR w).2.1 with
  |false=>intro h;simp at h
  |true=>
   intro h
   have:=Ham W (k+1) _ o' h
   simp only[ze,qc,jw,j6]at this⊢
   omega
theorem FY{s:List UInt8}(hs:s.length≤1048571):SC s=some (YE s):=by
 have h20:Da=1048576:=rfl
 unfold SC YE
 cases s==([]:List UInt8)with
 |true=>rfl
 |false=>
  rw[Jp 32 (by omega)]
  simp only[zh,jb]
  have hn:=Wq 32 s []
  have hp:=Tn 32 s []
  generalize Mb 32 [] s=W at hn hp
  by_cases h8:8<W.length
  ·have hst:Bk ((([]:List Ta),W,(0:Int),()),())=some (.inl ((([]:List Ta),W,()),())):=by
    unfold Bk
    refine(Zb (z:=some (Sum.inr (.inl ((([]:List Ta),W,()),())))) ?_).trans rfl
    simp only[Om]
    rw[Aa (by omega),Ba (by omega)];rfl
   rw[hst,Aa h8]
   simp only[jb,qf]
   rw[Aa (by omega)];rfl
  ·rw[Ba h8]
   simp only[zh]
   have h:=Kg (step:=fun x:(List Ta×List (List UInt8)×Int×Unit)×Unit=>Om x.1.1 x.1.2.1 x.1.2.2.1) W (fun _ o w=>XP o w)
    (fun o i=>((o,W,i,()),())) (fun o=>.inl ((o,W,()),())) (fun _=>.inr ((([]:List Ta),false,()),())) (fun k o=>o.length=k) (by
     intro k hk o ho
     have hw:=hp W[k] (qi hk)
     refine⟨?_,fun o' h'=>?_⟩
     ·simp only[Om]
      rw[Aa (by omega),Aa (by omega),Mf,Aa hk]
      simp only[zg,jn]
      rw[je hk]
      simp only[jb]
      generalize W[k]=w at hw
      rw[A6 (by simp at hw;omega)]
      simp only[jb]
      unfold XP
      cases(GR w).2.1 with
      |false=>rfl
      |true=>
       simp only[jg,zh,zg]
       rw[Jb (by simp only[jw,j6];omega)]
       rfl
     ·unfold XP at h'
      revert h'
      cases(GR W[k]).2.1 with
      |false=>intro h;simp at h
      |true=>
       intro h
       simp only[zg,za]at h
       subst h
       simp[ho]) (by
     intro o ho
     simp only[Om]
     rw[Ba (by omega)];rfl) (by omega) [] rfl
   have hl:∀o,Va (fun _ o w=>XP o w) 0 [] W=.inl o→o.length≤Da:=fun o ho=>by
    have:=Ham W 0 [] o ho
    simp at this;omega
   unfold Bk
   erw[h]
   revert hl
   cases Va (fun _ o w=>XP o w) 0 [] W with
   |inr u=>intro _;rfl
   |inl o=>
    intro hl
    simp only[jb,qf]
    rw[Ba (by omega),CJ o (hl o rfl)]
    simp only[zh,jb]
    cases Dc o<;>rfl
structure DL(x:Ta):Prop where
 k:0≤x.1∧x.1≤2
 a:Nb (2,x.2.1,x.2.2.1,0,())=true
theorem DR{l:List Ta}(h:Dc l=true):∀x∈l,DL x:=by
 intro x hx
 refine⟨K0 h x hx,?_⟩
 simp only[Dc,jd]at h
 have h2:=h.2
 cases hm:IX l with
 |inr _=>rw[hm]at h2;simp at h2
 |inl L=>exact JX l 0 [] L hm x hx
def QH(k:Int):UInt8:=cond (k==0) 116 (cond (k==1) 100 117)
theorem SO{x:Ta}(h:DL x):Ht x=QH x.1::61::Re (2,x.2.1,x.2.2.1,0,()):=by
 have hk:=h.k
 unfold Ht
 have:x.1=0∨x.1=1∨x.1=2:=by omega
 rcases this with e|e|e<;>rw[e]<;>rfl
theorem HaI{x:Ta}(h:DL x):GR (Ht x)=(x,true,()):=by
 have hk:=h.k
 have hne:=Xah h.a
 have hl:1≤(Re (2,x.2.1,x.2.2.1,0,())).length:=by
  rw[WJ h.a]
  exact List.length_pos_iff.2 hne
 have key:∀k,GH k (Ht x)=((k,x.2.1,x.2.2.1,()),true,()):=fun k=>by
  unfold GH
  rw[SO h,show(QH x.1::61::Re (2,x.2.1,x.2.2.1,0,())).drop 2=Re (2,x.2.1,x.2.2.1,0,())from rfl,(VU h.a).1]
  rfl
 unfold GR
 rw[key,key,key,SO h,Ba (by simp only[jw];omega),show((QH x.1::61::Re (2,x.2.1,x.2.2.1,0,())).getD 1 0)=61 from rfl,show((QH x.1::61::Re (2,x.2.1,x.2.2.1,0,())).getD 0 0)=QH x.1 from rfl]
 obtain⟨k,c,m,⟨⟩⟩:=x
 simp only at hk⊢
 have:k=0∨k=1∨k=2:=by omega
 rcases this with rfl|rfl|rfl<;>rfl
theorem WaL{w:List UInt8}(h:(GR w).2.1=true):DL (GR w).1∧Ht (GR w).1=w:=by
 unfold GR at h⊢
 by_cases h3:((ja w:Nat):Int)<3
 ·rw[Aa h3]at h;simp at h
 rw[Ba h3]at h⊢
 simp only[zh]at h⊢
 obtain⟨c0,c1,c2,r,rfl⟩:∃c0 c1 c2 r,w=c0::c1::c2::r:=by
  rcases w with _|⟨c0,_|⟨c1,_|⟨c2,r⟩⟩⟩
  ·exact absurd (show((0:Nat):Int)<3 by omega) h3
  ·exact absurd (show((1:Nat):Int)<3 by omega) h3
  ·exact absurd (show((2:Nat):Int)<3 by omega) h3
  ·exact⟨_,_,_,_,rfl⟩
 rw[show(c0::c1::c2::r).getD 1 0=c1 from rfl,show(c0::c1::c2::r).getD 0 0=c0 from rfl]at h⊢
 cases h1:(((UInt8.toNat c1:Nat):Int) !=61)with
 |true=>rw[h1]at h;simp at h
 |false=>
 rw[h1]at h
 simp only[zh]at h⊢
 have hc1:c1=61:=UInt8.toNat_inj.1 (by
  have:((UInt8.toNat c1:Nat):Int)=61:=by simpa using h1
  show c1.toNat=61;omega)
 subst hc1
 have key:∀k,0≤k∧k≤2→QH k=c0→(GH k (c0::61::c2::r)).2.1=true→DL (GH k (c0::61::c2::r)).1∧Ht (GH k (c0::61::c2::r)).1=c0::61::c2::r:=by
  intro k hk hl hs
  unfold GH at hs⊢
  rw[show(c0::61::c2::r).drop 2=c2::r from rfl]at hs⊢
  simp only[jd,beq_iff_eq]at hs
  have hq:(Qj (c2::r)).2.1=true:=by rw[←FR];exact hs.1
  have ho:=Taf hq
  rw[←FR]at ho
  generalize Ro (c2::r)=p at hs ho
  obtain⟨⟨k1,c,m,n,⟨⟩⟩,ok,⟨⟩⟩:=p
  simp only at hs ho⊢
  obtain⟨_,rfl⟩:=hs
  have hn:n=0:=by
   have:=(Qb _).1 ho.1
   unfold Wc at this
   simp only at this
   omega
  subst hn
  have hS:DL (k,c,m,()):=⟨hk,ho.1⟩
  refine⟨hS,?_⟩
  rw[SO hS]
  simp only
  rw[hl,ho.2]
 have hl:∀(n:Nat) (x:UInt8),(((UInt8.toNat c0:Nat):Int)==(n:Int))=true→x.toNat=n→x=c0:=fun n x he hx=>UInt8.toNat_inj.1 (by have:=eq_of_beq he;omega)
 cases e0:((UInt8.toNat c0:Nat):Int)==116 with
 |true=>
  rw[e0]at h
  exact key 0 (by omega) (hl 116 116 e0 rfl) h
 |false=>
 rw[e0]at h
 simp only[zh]at h⊢
 cases e1:((UInt8.toNat c0:Nat):Int)==100 with
 |true=>
  rw[e1]at h
  exact key 1 (by omega) (hl 100 100 e1 rfl) h
 |false=>
 rw[e1]at h
 simp only[zh]at h⊢
 cases e2:((UInt8.toNat c0:Nat):Int)==117 with
 |true=>
  rw[e2]at h
  exact key 2 (by omega) (hl 117 117 e2 rfl) h
 |false=>rw[e2]at h;simp at h
theorem Zax(k:Int)(r:List UInt8):Lib.index (QH k::61::r) [61]=1:=by
 have h61:Lib.index (61::r) [61]=0:=by rw[Lib.index,if_pos (by simp[List.isPrefixOf])]
 have hl:QH k=116∨QH k=100∨QH k=117:=by
  unfold QH
  cases k==0<;>cases k==1<;>simp
 rcases hl with e|e|e<;>(rw[e,Lib.index,if_neg (by simp[List.isPrefixOf]),h61];rfl)
theorem FaI{x:Ta}(h:DL x)(s:List Ta):VP s (Ht x)=.inl (s++[x]):=by
 have hk:=h.k
 have hc:Lib.cut (Ht x) [61]=([QH x.1],Re (2,x.2.1,x.2.2.1,0,()),true):=by
  unfold Lib.cut
  rw[SO h,Zax,if_pos (by omega)]
  rfl
 have hi:Lib.index [116,100,117] [QH x.1]=x.1:=by
  have:x.1=0∨x.1=1∨x.1=2:=by omega
  rcases this with e|e|e<;>rw[e]<;>decide
 unfold VP
 rw[hc]
 simp only
 rw[(VU h.a).2,hi]
 simp only
 rw[Ba (by omega)]
 obtain⟨k,c,m,⟨⟩⟩:=x
 rfl
theorem Waf:∀(l:List Ta) (k:Nat) (s:List Ta),(∀x∈l,DL x)→Va (fun _ o w=>VP o w) k s (l.map Ht)=.inl (s++l)
 |[],k,s,_=>by simp[Va]
 |x::l,k,s,h=>by
  simp only[yk,Va]
  rw[FaI (h x (by simp))]
  simp only
  rw[Waf l (k+1) _ fun y hy=>h y (jr _ hy)]
  simp
theorem Xaf:∀(l:List Ta) (k:Nat) (s:List Ta),(∀x∈l,DL x)→Va (fun _ o w=>XP o w) k s (l.map Ht)=.inl (s++l)
 |[],k,s,_=>by simp[Va]
 |x::l,k,s,h=>by
  simp only[yk,Va]
  have:XP s (Ht x)=.inl (s++[x]):=by
   unfold XP
   rw[HaI (h x (by simp))]
   rfl
  rw[this]
  simp only
  rw[Xaf l (k+1) _ fun y hy=>h y (jr _ hy)]
  simp
theorem Gam:∀(W:List (List UInt8)) (k:Nat) (o o':List Ta),Va (fun _ o w=>XP o w) k o W=.inl o'→o'.map Ht=o.map Ht++W
 |[],k,o,o',h=>by simp only[Va,za]at h;subst h;simp
 |w::W,k,o,o',h=>by
  simp only[Va]at h
  revert h
  unfold XP
  cases hp:(GR w).2.1 with
  |false=>intro h;simp at h
  |true=>
   intro h
   have:=Gam W (k+1) _ o' h
   rw[this]
   simp[(WaL hp).2]
theorem S7{l:List Ta}(h:Dc l=true):Iq l=Lib.join (l.map Ht) [32]:=by unfold Iq;rw[h];rfl
theorem NaI{x:Ta}(h:DL x):Nm 32 (Ht x):=by
 rw[SO h]
 refine Rp (x:=[QH x.1]) ?_ (Rp (x:=[61]) (NX _ _ (by decide)) (PO (.inr (.inl rfl)) _))
 intro c hc
 rw[qb.1 hc]
 unfold QH
 cases x.1==0<;>cases x.1==1<;>decide
theorem IV{l:List Ta}(h:Dc l=true)(hne:l≠[]):Mb 32 [] (Iq l)=l.map Ht:=by
 rw[S7 h]
 exact JJ (b:=32) _ (by simpa using hne) fun x hx=>by
  obtain⟨y,hy,rfl⟩:=qk.1 hx
  exact NaI (DR h y hy)
theorem Tal{l:List Ta}(h:Dc l=true)(hne:l≠[]):Iq l≠[]:=by
 intro e
 have:=IV h hne
 rw[e]at this
 cases l with
 |nil=>exact hne rfl
 |cons x r=>
  have hx:=DR h x (by simp)
  rw[yk,SO hx]at this
  simp[Mb]at this
theorem Hav{l:List Ta}(h:Dc l=true):Dl (Iq l)=(l,true,()):=by
 cases hl:l with
 |nil=>decide+kernel
 |cons x r=>
  rw[←hl]
  have hne:l≠[]:=by rw[hl];simp
  unfold Dl
  rw[show(Iq l==([]:List UInt8))=false by simpa using Tal h hne,IV h hne,Waf l 0 [] (DR h)]
  simp[h]
theorem Aaa{l:List Ta}(h:Dc l=true):YE (Iq l)=(l,true,()):=by
 cases hl:l with
 |nil=>decide+kernel
 |cons x r=>
  rw[←hl]
  have hne:l≠[]:=by rw[hl];simp
  have h8:=JT h
  unfold YE
  rw[show(Iq l==([]:List UInt8))=false by simpa using Tal h hne,IV h hne,Ba (by simp;omega),Xaf l 0 [] (DR h)]
  simp[h]
theorem Haf:Dc []=true∧Iq []=[]:=by
 have h:Dc []=true:=rfl
 exact⟨h,by rw[S7 h];rfl⟩
theorem Eaz{s:List UInt8}(h:(YE s).2.1=true):Dc (YE s).1=true∧Iq (YE s).1=s:=by
 unfold YE at h⊢
 revert h
 cases hs:s==([]:List UInt8)with
 |true=>
  intro _
  rw[eq_of_beq hs]
  exact Haf
 |false=>
  simp only[zh]
  cases decide (8<(Mb 32 [] s).length)with
  |true=>intro h;simp at h
  |false=>
   simp only[zh]
   cases hf:Va (fun _ o w=>XP o w) 0 [] (Mb 32 [] s)with
   |inr u=>intro h;simp at h
   |inl l=>
    simp only
    cases hm:Dc l with
    |false=>intro h;simp at h
    |true=>
     intro _
     have hi:=Gam _ _ _ _ hf
     refine⟨hm,?_⟩
     show Iq l=s
     rw[S7 hm,hi]
     simpa using Sv (b:=32) s []
theorem Iav{s:List UInt8}(h:(Dl s).2.1=true):Dc (Dl s).1=true∧Iq (Dl s).1=s:=by
 refine⟨E8 h,?_⟩
 unfold Dl at h⊢
 revert h
 cases hs:s==([]:List UInt8)with
 |true=>
  intro _
  rw[eq_of_beq hs]
  exact Haf.2
 |false=>
  simp only[zh]
  cases Va (fun _ o w=>VP o w) 0 [] (Mb 32 [] s)with
  |inr u=>intro h;simp at h
  |inl l=>
   simp only
   cases hm:Dc l with
   |false=>intro h;simp at h
   |true=>
    cases ht:Iq l !=s with
    |true=>intro h;simp at h
    |false=>intro _;simpa using ht
theorem Daz(s:List UInt8)(h:(YE s).2.1=false):YE s=(([]:List Ta),false,()):=by
 unfold YE at h⊢
 revert h
 cases s==([]:List UInt8)with
 |true=>intro h;simp at h
 |false=>
  simp only[zh]
  cases decide (8<(Mb 32 [] s).length)with
  |true=>intro _;rfl
  |false=>
   simp only[zh]
   cases Va (fun _ o w=>XP o w) 0 [] (Mb 32 [] s)with
   |inr u=>intro _;rfl
   |inl l=>
    simp only
    cases Dc l with
    |false=>intro _;rfl
    |true=>intro h;simp at h
theorem Caz(s:List UInt8)(h:(Dl s).2.1=false):Dl s=(([]:List Ta),false,()):=by
 unfold Dl at h⊢
 revert h
 cases s==([]:List UInt8)with
 |true=>intro h;simp at h
 |false=>
  simp only[zh]
  cases Va (fun _ o w=>VP o w) 0 [] (Mb 32 [] s)with
  |inr u=>intro _;rfl
  |inl l=>
   simp only
   cases !Dc l||Iq l !=s with
   |true=>intro _;rfl
   |false=>intro h;simp at h
theorem Jav(s:List UInt8):YE s=Dl s:=by
 cases h1:(YE s).2.1 with
 |true=>
  obtain⟨a,b⟩:=Eaz h1
  have e1:=Aaa a
  have e2:=Hav a
  rw[b]at e1 e2
  rw[e1]
  exact(e2.trans (by rw[e1])).symm
 |false=>
  cases h2:(Dl s).2.1 with
  |true=>
   obtain⟨a,b⟩:=Iav h2
   have e1:=Aaa a
   rw[b]at e1
   rw[e1]at h1
   simp at h1
  |false=>rw[Daz s h1,Caz s h2]
theorem MaE:∀b:Fin 256,Wb Od (j4 .i64 (Int.tdiv (j4 .i64 (b.val:Int)) 16))=some (PN (UInt8.ofNat b.val))∧Wb Od (yc (j4 .i64 (b.val:Int)) 16)=some (QN (UInt8.ofNat b.val)):=by
 decide+kernel
theorem Xax(c:UInt8):Wb Od (j4 .i64 (Int.tdiv (j4 .i64 (c.toNat:Int)) 16))=some (PN c)∧Wb Od (yc (j4 .i64 (c.toNat:Int)) 16)=some (QN c):=by
 have h:=MaE ⟨c.toNat,c.toNat_lt⟩
 rw[UInt8.ofNat_toNat]at h
 exact h
theorem Mah(l:List UInt8):Tx (Nc l)=some (V1 l,()):=by
 have hn:=YA l
 unfold V1
 by_cases h2:((ja l:Nat):Int)>2000
 ·rw[Aa h2]
  unfold Tx So
  have hst:Oi (Nc l) [] 0=some (.inr (.inl ((([]:List Int),()),()))):=by
   unfold Oi
   rw[Aa (show(0:Int)<((ja (Nc l):Nat):Int) by omega),Ba (show¬((ja (Nc l):Nat):Int)≤2000 by omega)];rfl
  have hl:=Zb (step:=fun x:(List Int×List Int×Int×Unit)×Unit=>Oi x.1.1 x.1.2.1 x.1.2.2.1) (x:=((Nc l,([]:List Int),(0:Int),()),())) hst
  erw[hl]
  rfl
 ·rw[Ba h2]
  have h:=(Zd (step:=fun x:(List Int×List Int×Int×Unit)×Unit=>Oi x.1.1 x.1.2.1 x.1.2.2.1) l (fun _ o (c:UInt8)=>jf o [((PN c).toNat:Int),((QN c).toNat:Int)])
   (fun o i=>((Nc l,o,i,()),())) (fun o=>.inl ((o,()),())) (fun k o=>o.length=2*k) (by
    intro k hk o ho
    refine⟨?_,by simp[ho];omega⟩
    have hx:=Xax l[k]
    have e:(Nc l)[k]'(by omega)=(l[k].toNat:Int):=by simp[Nc]
    simp only[Oi]
    rw[Aa (show(k:Int)<((ja (Nc l):Nat):Int) by omega),Aa (show((ja (Nc l):Nat):Int)≤2000 by omega),Ub (show k<(Nc l).length by omega)]
    simp only[zg,jb,show((16:Int)==0)=false from rfl,zh]
    rw[e,hx.1]
    simp only[jb]
    rw[hx.2]
    simp only[jb]
    rw[Jb (by simp;omega)]
    rfl) (by
    intro o ho
    simp only[Oi]
    rw[Ba (by omega)];rfl) (by omega) [] rfl).1
  have hf:∀(ys:List UInt8) (j:Nat) (o:List Int),Oc (fun _ o (c:UInt8)=>jf o [((PN c).toNat:Int),((QN c).toNat:Int)]) j o ys=o++Nc (QV ys):=by
   intro ys
   induction ys with
   |nil=>intro j o;simp[Oc,QV,Nc]
   |cons y ys ih=>
    intro j o
    rw[Oc,ih]
    have e:QV (y::ys)=[PN y,QN y]++QV ys:=rfl
    rw[e,ZR]
    simp[Nc]
  rw[hf]at h
  unfold Tx So
  erw[h]
  simp only[jb,qf,yg]
  rw[MS];rfl
theorem Jag{s:Oa}(h:Uh s)(w:List UInt8):FJ s w=some (LO s w,()):=by
 have h20:Da=1048576:=rfl
 obtain⟨hE,hm,hq,hf,hn,hs⟩:=GO h
 unfold FJ LO
 cases w==NE with
 |true=>simp only[zg];rw[EV (by omega)];rfl
 |false=>
 cases w==VA with
 |true=>
  simp only[zg,zh]
  rw[UK hf _ (by omega) hE.hd]
  simp only[jb]
  rw[Ij (NU _ _)];rfl
 |false=>
 cases w==WA with
 |true=>
  simp only[zg,zh]
  rw[Ks _ (by omega) hE.hd]
  simp only[jb]
  rw[BJ _ (by have:=Ly (Qac hE.hd);omega)];rfl
 |false=>
 cases w==UA with
 |true=>
  simp only[zg,zh]
  rw[Ij (by omega)];rfl
 |false=>
 cases w==TA with
 |true=>
  simp only[zg,zh]
  rw[TZ _ (by omega)]
  simp only[jb]
  have hr:∀r∈(s.2.1.map fun x=>x.2.1),r.2.1.length≤Da:=fun r hr=>by
   obtain⟨x,hx,rfl⟩:=qk.1 hr
   exact(AQ h.s).2 x hx
  have ht:=Tag (a:=((0:Int),([]:List Int),())) (by simp) hr
  rw[yr]at ht
  have hn:=h.n
  rw[Gab (by simp) hr (by simp;omega)]
  simp only[jb]
  rw[Jb (by omega),Mah];rfl
 |false=>rfl
theorem DY(m:Ea)(M:List (List Ta))(hz:Hb Rb (Kl m M)≤Da):Dn m M=some (NO m M):=by
 have h1:=Cs (Kl m M) hz
 have h2:=Gn (Kl m M) hz
 unfold NO Dn
 unfold Kl at h1 h2⊢
 rw[h1,h2]
 simp only[jb]
 cases Pf (m,M,(0:Int),([]:List La),(0:Int),false,())<;>rfl
theorem GaM:Hb Rb Uar≤Da:=by decide
theorem KN(s:Oa)(m:Ea)(M:List (List Ta))(t:Ta)(hz:Hb Rb (Kl m M)≤Da):Pg s m M t=some (SX s m M t):=by
 unfold Pg SX Bag HD
 rw[DY m M hz]
 unfold NO
 cases hE:Pf (Kl m M)with
 |false=>
  simp only[zh,jb]
  rw[PB Uar t GaM]
  rfl
 |true=>
  simp only[zg,jb]
  rw[PB _ _ hz]
  simp only[jb,jg,zh]
  cases(Nx (Kl m M) t).2.1<;>rfl
theorem GY{s:Oa}(h:Uh s){r:Cb×(List Qc×(Bool×Unit))}(hr:r.2.2.1=true→CL r.2.1∧r.2.1.length≤2000):Ck s r.1 r.2.1 r.2.2.1=some (AC s r):=by
 have h20:Da=1048576:=rfl
 unfold Ck AC
 cases hb:r.2.2.1 with
 |false=>rfl
 |true=>
  obtain⟨h2,h3⟩:=hr hb
  have hn:=h.n
  simp only[jg,zh]
  rw[Af (by omega) (by omega)]
  by_cases hc:200<s.2.1.length+r.2.1.length
  ·rw[Aa hc,Aa (by omega)];rfl
  ·rw[Ba hc,Ba (by omega)]
   simp only[zh]
   obtain⟨i1,i2⟩:=AQ h2
   rw[Jb (by omega),AY _ i1 i2 (by omega)]
   rfl
theorem Kag{s:Oa}(hE:Hb Rb s.1.1≤Da)(hq:s.1.2.2.1.length≤Da)(hz:Hb (.sl Wg) s.2.1≤Da):GJ s=some (s,()):=by
 have h20:Da=1048576:=rfl
 have h1:Hb (.sl Wg) s.2.1=ja s.2.1+(zd (Hb Wg) s.2.1).sum:=rfl
 obtain⟨⟨e,tm,q,rest⟩,l,⟨⟩⟩:=s
 simp only at hE hq hz h1
 have hl:=Rh (step:=fun x:(Unit×Unit×Unit×Int×Unit)×Oa×Oa×Oa×Unit=>FA x.1.1 x.1.2.1 x.1.2.2.1 x.1.2.2.2.1 x.2.1 x.2.2.1 x.2.2.2.1) l (fun x=>x)
  (fun o k=>(((),(),(),k,()),(((e,tm,q,rest),l,()),(Mp,([]:List Qc),()),((e,tm,q,rest),o,()),()))) (fun o=>.inl (((),(),()),((Mp,([]:List Qc),()),((e,tm,q,rest),o,()),()))) (by omega) (fun k hk o ho=>by
   simp only[FA]
   rw[Aa (by omega),Ub hk]
   simp only[zg,jb]
   rw[VK _ (BQ hz hk)]
   simp only[jb]
   rw[Jb (by simp only[jw,j6];omega)]
   rfl) (fun o=>by
   simp only[FA]
   rw[Ba (by omega)]
   rfl)
 unfold GJ SB
 simp only
 rw[Gn _ hE]
 simp only[jb]
 rw[Jb (by simp;omega)]
 simp only[zg]
 erw[hl]
 rw[List.map_id']
 rfl
noncomputable def Pac(s:Oa)(w:List UInt8)(n:List Int):Oa×(List UInt8×Unit):=
 cond ((w==Uc||w==[117,112])&&(((ja n:Nat):Int)==2)) (AC s (Tv s w n))
  (cond (w==Gc&&(((ja n:Nat):Int)==1)) (AC s (Tv s w n))
  (cond (w==Ad&&(((ja n:Nat):Int)==3)) (SX s s.1.1.1 s.1.1.2.1 (n.getD 0 0,n.getD 1 0,n.getD 2 0,()))
  (cond (w==[119,97,121]&&(((ja n:Nat):Int)==2)) (A9 s n) (s,Ua,()))))
theorem LaD:(Uc==Gc)=false∧(Uc==Ad)=false∧(Uc==([119,97,121]:List UInt8))=false∧(Uc==([117,112]:List UInt8))=false∧
 (([117,112]:List UInt8)==Gc)=false∧(([117,112]:List UInt8)==Ad)=false∧(([117,112]:List UInt8)==([119,97,121]:List UInt8))=false∧(([117,112]:List UInt8)==Uc)=false∧
 (Gc==Ad)=false∧(Gc==([119,97,121]:List UInt8))=false∧(Gc==Uc)=false∧(Gc==([117,112]:List UInt8))=false∧
 (Ad==([119,97,121]:List UInt8))=false∧(Ad==Uc)=false∧(Ad==([117,112]:List UInt8))=false∧(Ad==Gc)=false∧
 (([119,97,121]:List UInt8)==Uc)=false∧(([119,97,121]:List UInt8)==([117,112]:List UInt8))=false∧(([119,97,121]:List UInt8)==Gc)=false∧(([119,97,121]:List UInt8)==Ad)=false:=by decide
theorem QM(n:List Int)(k:Nat):((((ja n:Nat):Int)==(k:Int))=true∧n.length=k)∨((((ja n:Nat):Int)==(k:Int))=false∧n.length≠k):=by
 by_cases h:n.length=k
 ·exact .inl ⟨by simp[h],h⟩
 ·exact .inr ⟨by rw[beq_eq_false_iff_ne];omega,h⟩
theorem P0{s:Oa}(h:Uh s)(w:List UInt8)(hw:(w==Gc)=false){n:List Int}(hn:n.length=2):
 (cond (Ac (ja n) (1:Int)) (jz n[(jy (1:Int))]? fun x1=>(cond (Ac (ja n) (0:Int)) (jz n[(jy (0:Int))]? fun x2=>
  (jz (Gr s.1 (x1,x2,(w==Uc),())) fun r3=>(jz (Ck s r3.1 r3.2.1 r3.2.2.1) fun r4=>(some (r4.1,r4.2.1,()))))) none)) none:Option (Oa×(List UInt8×Unit)))=some (AC s (Tv s w n)):=by
 have h20:Da=1048576:=rfl
 have hz:=L4 h.d
 match n,hn with
 |[a,b],_=>
 rw[show Ac (ja [a,b]) 0=true from rfl,show Ac (ja [a,b]) 1=true from rfl,show([a,b]:List Int)[jy 0]?=some a from rfl,show([a,b]:List Int)[jy 1]?=some b from rfl]
 simp only[zg,jb]
 unfold Tv
 rw[hw,show([a,b]:List Int).getD 0 0=a from rfl,show([a,b]:List Int).getD 1 0=b from rfl]
 rw[show Gr s.1 (b,a,w==Uc,())=some (Uz s.1 [(b,a,w==Uc,())] b) by
  unfold Gr
  rw[WM _ _ _ (by omega) (by simp)];rfl]
 simp only[jb,zh]
 rw[GY h fun hb=>(PK hb).2]
 rfl
theorem Qag{s:Oa}(h:Uh s){n:List Int}(hn:n.length=1):
 (cond (Ac (ja n) (0:Int)) (jz n[(jy (0:Int))]? fun x5=>
  (jz (En s.1 x5) fun r6=>(jz (Ck s r6.1 r6.2.1 r6.2.2.1) fun r7=>(some (r7.1,r7.2.1,()))))) none:Option (Oa×(List UInt8×Unit)))=some (AC s (Tv s Gc n)):=by
 have h20:Da=1048576:=rfl
 have hz:=L4 h.d
 match n,hn with
 |[a],_=>
 rw[show Ac (ja [a]) 0=true from rfl,show([a]:List Int)[jy 0]?=some a from rfl]
 simp only[zg,jb]
 unfold Tv
 rw[show(Gc==Gc)=true by decide,show([a]:List Int).getD 0 0=a from rfl]
 rw[show En s.1 a=some (Uz s.1 [] a) by
  unfold En
  rw[WM _ _ _ (by omega) (by simp)];rfl]
 simp only[jb,zg]
 rw[GY h fun hb=>(PK hb).2]
 rfl
theorem Pax{s:Oa}(h:Uh s):Hb Rb (Kl s.1.1.1 s.1.1.2.1)≤Da:=by
 have hF:=GO h
 exact WS hF.mz (by have:=hF.e.m4;omega) hF.e.mac
theorem Oah{s:Oa}(h:Uh s){n:List Int}(hn:n.length=3):
 (cond (Ac (ja n) (0:Int)) (jz n[(jy (0:Int))]? fun x8=>(cond (Ac (ja n) (1:Int)) (jz n[(jy (1:Int))]? fun x9=>(cond (Ac (ja n) (2:Int)) (jz n[(jy (2:Int))]? fun x10=>
  (jz (Pg s s.1.1.1 s.1.1.2.1 (x8,x9,x10,())) fun r11=>(some (r11.1,r11.2.1,())))) none)) none)) none:Option (Oa×(List UInt8×Unit)))=some (SX s s.1.1.1 s.1.1.2.1 (n.getD 0 0,n.getD 1 0,n.getD 2 0,())):=by
 match n,hn with
 |[a,b,c],_=>
 have:=KN s s.1.1.1 s.1.1.2.1 (a,b,c,()) (Pax h)
 show(jz (Pg s s.1.1.1 s.1.1.2.1 (a,b,c,())) fun r11=>(some (r11.1,r11.2.1,())))=_
 rw[this]
 rfl
theorem Pah{s:Oa}(h:Uh s){n:List Int}(hn:n.length=2):
 (cond (Ac (ja n) (0:Int)) (jz n[(jy (0:Int))]? fun x12=>(cond (Ac (ja n) (1:Int)) (jz n[(jy (1:Int))]? fun x13=>
  (jz (Vf s.1.1.1 x12 x13) fun r14=>(cond (!r14.2.1) (some (s,([110,111]:List UInt8),()))
   (jz (Xc (((),(),r14.1,([]:List (List UInt8)),(0:Int),()),(s,(Mp,([]:List Qc),()),()))) (Sum.elim (fun y21=>(jz (Nd y21.1.2.2.1 ([32]:List UInt8)) fun r23=>
    (cond (jx (ja Vb+ja r23.1) Sa) (some (((((y21.2.1.1.1.1.1,y21.2.1.1.1.1.2.1,()),y21.2.1.1.1.2),y21.2.1.1.2),y21.2.1.2.1,()),(jf Vb r23.1),())) none))) (fun z22=>none)))))) none)) none:Option (Oa×(List UInt8×Unit)))=some (A9 s n):=by
 have h20:Da=1048576:=rfl
 have hm:=(GO h).mz
 match n,hn with
 |[a,b],_=>
 obtain⟨e1,_,e3,e4⟩:=Uag s.1.1.1 a b (by omega)
 unfold A9
 rw[show Ac (ja [a,b]) 0=true from rfl,show Ac (ja [a,b]) 1=true from rfl,show([a,b]:List Int)[jy 0]?=some a from rfl,show([a,b]:List Int)[jy 1]?=some b from rfl,
  show([a,b]:List Int).getD 0 0=a from rfl,show([a,b]:List Int).getD 1 0=b from rfl]
 simp only[zg,jb]
 rw[e1]
 simp only[jb]
 generalize HQ s.1.1.1 a b=v at e3 e4
 cases v.2.1 with
 |false=>rfl
 |true=>
  simp only[jg,zh]
  obtain⟨v,vb⟩:=v
  simp only at e3 e4⊢
  have hl:=Rh (step:=fun x:(Unit×Unit×List Int×List (List UInt8)×Int×Unit)×Oa×Oa×Unit=>Sq x.1.1 x.1.2.1 x.1.2.2.1 x.1.2.2.2.1 x.1.2.2.2.2.1 x.2.1 x.2.2.1) v Lib.itoa
   (fun o k=>(((),(),v,o,k,()),(s,(Mp,([]:List Qc),()),()))) (fun o=>.inl (((),(),o,()),(s,(Mp,([]:List Qc),()),()))) (by omega) (fun k hk2 o ho=>by
    have hx:=e4 v[k] (qi hk2)
    simp only[Sq]
    rw[Aa (by omega),Mf,Aa hk2]
    simp only[zg,jn]
    rw[je hk2]
    simp only[jb]
    rw[Ij (by omega)]
    simp only[jb]
    rw[Jb (by simp only[jw,j6];omega)]
    rfl) (fun o=>by
    simp only[Sq]
    rw[Ba (by omega)]
    rfl)
  unfold Xc
  erw[hl]
  simp only[jb,qf]
  have hjl:=N3 e3 e4
  rw[Pk (by simp;omega) (by omega)]
  simp only[jb]
  rw[Jb (by simp only[Vb,jw,j6];omega)]
  rfl
theorem X5{s:Oa}(h:Uh s)(w:List UInt8)(n:List Int):VC s w n=some (Pac s w n):=by
 obtain⟨d1,d2,d3,d4,d5,d6,d7,d8,d9,d10,d11,d12,d13,d14,d15,d16,d17,d18,d19,d20⟩:=LaD
 unfold VC Pac
 cases c1:w==Uc with
 |true=>
  have e:=eq_of_beq c1
  subst e
  simp only[zg,Bool.true_or,jk,d1,d2,d3,d4,qh,zh]
  rcases QM n 2 with⟨l1,l2⟩|⟨l1,l2⟩
  ·rw[show(((ja n:Nat):Int)==2)=true from l1]
   have:=P0 h Uc d1 l2
   rw[show(Uc==Uc)=true by decide]at this
   exact this
  ·rw[show(((ja n:Nat):Int)==2)=false from l1];rfl
 |false=>
 cases c2:w==([117,112]:List UInt8)with
 |true=>
  have e:=eq_of_beq c2
  subst e
  simp only[zg,zh,Bool.or_true,jk,d5,d6,d7,qh]
  rcases QM n 2 with⟨l1,l2⟩|⟨l1,l2⟩
  ·rw[show(((ja n:Nat):Int)==2)=true from l1]
   have:=P0 h [117,112] d5 l2
   rw[d8]at this
   exact this
  ·rw[show(((ja n:Nat):Int)==2)=false from l1];rfl
 |false=>
 cases c3:w==Gc with
 |true=>
  have e:=eq_of_beq c3
  subst e
  simp only[zg,zh,Bool.or_false,jk,d9,d10,qh]
  rcases QM n 1 with⟨l1,l2⟩|⟨l1,l2⟩
  ·rw[show(((ja n:Nat):Int)==1)=true from l1]
   exact Qag h l2
  ·rw[show(((ja n:Nat):Int)==1)=false from l1];rfl
 |false=>
 cases c4:w==Ad with
 |true=>
  have e:=eq_of_beq c4
  subst e
  simp only[zg,zh,Bool.or_false,jk,d13,qh]
  rcases QM n 3 with⟨l1,l2⟩|⟨l1,l2⟩
  ·rw[show(((ja n:Nat):Int)==3)=true from l1]
   exact Oah h l2
  ·rw[show(((ja n:Nat):Int)==3)=false from l1];rfl
 |false=>
 cases c5:w==([119,97,121]:List UInt8)with
 |true=>
  simp only[zg,zh,Bool.or_false,jk,qh]
  rcases QM n 2 with⟨l1,l2⟩|⟨l1,l2⟩
  ·rw[show(((ja n:Nat):Int)==2)=true from l1]
   exact Pah h l2
  ·rw[show(((ja n:Nat):Int)==2)=false from l1];rfl
 |false=>rfl
theorem GaI(t p:List UInt8)(h:Zr t p=true):t=p++t.drop p.length:=by
 unfold Zr at h
 simp only[jd]at h
 have:=eq_of_beq h.2
 exact(List.take_append_drop p.length t).symm.trans (by rw[this])
theorem YaD(p r:List UInt8):Zr (p++r) p=true:=by
 unfold Zr
 rw[Aa (by simp)]
 simp
theorem Caa{k:List UInt8}(hk:Nm 32 k){t w:List UInt8}{W':List (List UInt8)}(hsp:Mb 32 [] t=w::W'):
 (Zr t (k++[32])=true→w=k∧W'≠[]∧t.drop (k++[32]).length=Lib.join W' [32])∧(w=k→W'≠[]→Zr t (k++[32])=true):=by
 refine⟨fun h=>?_,fun h1 h2=>?_⟩
 ·have e:=GaI t _ h
  have hs:Mb 32 [] t=k::Mb 32 [] (t.drop (k++[32]).length):=by
   conv=>lhs;rw[e]
   have e1:=RR (b:=32) k (32::t.drop (k++[32]).length) [] hk
   rw[show((UInt8.toNat 32:Nat):Int)=32 from rfl]at e1
   rw[q0,List.singleton_append,e1,yg,Mb]
   rfl
  rw[hsp]at hs
  simp only[yi]at hs
  obtain⟨rfl,rfl⟩:=hs
  refine⟨rfl,My _ _ _,?_⟩
  have:=Sv (b:=32) (t.drop (w++[32]).length) []
  rw[yg]at this
  exact this.symm
 ·subst h1
  have e:=Sv (b:=32) t []
  rw[yg]at e
  have e2:t=Lib.join (w::W') [32]:=by rw[←hsp];exact e.symm
  cases hW:W' with
  |nil=>exact absurd hW h2
  |cons y r=>
   rw[hW,Fp,←q0]at e2
   rw[e2]
   exact YaD _ _
theorem Sat{t w:List UInt8}{W':List (List UInt8)}(hsp:Mb 32 [] t=w::W'):(Lib.join W' [32]).length≤t.length∧(W'=[]→w=t):=by
 have e:=Sv (b:=32) t []
 rw[yg]at e
 have e2:t=Lib.join (w::W') [32]:=by rw[←hsp];exact e.symm
 cases hW:W' with
 |nil=>
  rw[hW,Lib.join_one]at e2
  exact⟨by simp[Lib.join_nil],fun _=>e2.symm⟩
 |cons y r=>
  rw[hW,Fp]at e2
  refine⟨?_,fun h=>by simp at h⟩
  rw[e2]
  simp only[qc];omega
theorem SU{W:List (List UInt8)}{n:Int}(h:((ja W:Nat):Int)≠n+1):Ue W n=(([]:List Int),false,()):=by
 unfold Ue
 rw[show(((ja W:Nat):Int) !=n+1)=true by simpa using h]
 rfl
theorem Kaw(s:Oa)(w:List UInt8):MJ s [w]=(s,LO s w,()):=by
 unfold MJ NZ IS
 rw[SU (W:=[w]) (n:=2) (by simp),SU (W:=[w]) (n:=1) (by simp),SU (W:=[w]) (n:=3) (by simp),show([w]:List (List UInt8)).getD 0 []=w from rfl]
 simp only[Bool.and_false,zh]
 rw[show((ja [w]:Nat):Int)==1 from rfl]
 simp only[zg]
 cases c1:w==Gc with
 |true=>rw[eq_of_beq c1];rfl
 |false=>
  cases c2:w==Ad with
  |true=>rw[eq_of_beq c2];rfl
  |false=>cases w==([119,97,121]:List UInt8)<;>rfl
theorem OX(w:List UInt8)(W':List (List UInt8))(k:Nat):Ue (w::W') (k:Int)=cond (((ja W':Nat):Int)==(k:Int)) (match Va (fun _ o w=>SD o w) 0 [] W' with
 |.inl o=>(o,true,())
 |.inr _=>(([]:List Int),false,())) (([]:List Int),false,()):=by
 unfold Ue
 rw[show(w::W').drop 1=W' from rfl]
 by_cases h:W'.length=k
 ·rw[show(((ja (w::W'):Nat):Int) !=(k:Int)+1)=false by simp[h],show(((ja W':Nat):Int)==(k:Int))=true by simp[h]]
  rfl
 ·rw[show(((ja (w::W'):Nat):Int) !=(k:Int)+1)=true by rw[bne_iff_ne];simp only[jw];omega,show(((ja W':Nat):Int)==(k:Int))=false by rw[beq_eq_false_iff_ne];omega]
  rfl
noncomputable def Maq(s:Oa)(w:List UInt8)(W':List (List UInt8)):Oa×(List UInt8×Unit):=
 match Va (fun _ o w=>SD o w) 0 [] W' with
 |.inl n=>Pac s w n
 |.inr _=>(s,Ua,())
theorem Tar(s:Oa)(w:List UInt8){W':List (List UInt8)}(hne:W'≠[]):MJ s (w::W')=Maq s w W':=by
 obtain⟨d1,d2,d3,d4,d5,d6,d7,d8,d9,d10,d11,d12,d13,d14,d15,d16,d17,d18,d19,d20⟩:=LaD
 have hone:IS s (w::W') w=(s,Ua,()):=by
  unfold IS
  have h0:0<W'.length:=List.length_pos_iff.2 hne
  rw[show(((ja (w::W'):Nat):Int)==1)=false by rw[beq_eq_false_iff_ne];simp only[jw];omega]
  rfl
 have n1:=OX w W' 1
 have n2:=OX w W' 2
 have n3:=OX w W' 3
 rw[show((1:Nat):Int)=1 from rfl]at n1
 rw[show((2:Nat):Int)=2 from rfl]at n2
 rw[show((3:Nat):Int)=3 from rfl]at n3
 unfold MJ NZ Maq
 rw[show(w::W').getD 0 []=w from rfl,hone,n1,n2,n3]
 cases hf:Va (fun _ o w=>SD o w) 0 [] W' with
 |inr u=>
  simp only
  have hc:∀b:Bool,(cond b (([]:List Int),false,()) (([]:List Int),false,()):List Int×(Bool×Unit))=(([]:List Int),false,()):=fun b=>by cases b<;>rfl
  rw[hc,hc,hc]
  simp only[Bool.and_false,zh]
  cases w==Gc with
  |true=>rfl
  |false=>
   cases w==Ad with
   |true=>rfl
   |false=>cases w==([119,97,121]:List UInt8)<;>rfl
 |inl n=>
  have hl:=B8 _ _ _ _ hf
  simp only[j6,js]at hl
  simp only
  rw[←hl]
  unfold Pac
  cases c1:w==Uc with
  |true=>
   rw[eq_of_beq c1]
   simp only[d1,d2,d3,Bool.true_or,jk,qh,zh]
   cases((ja n:Nat):Int)==2<;>rfl
  |false=>
  cases c2:w==([117,112]:List UInt8)with
  |true=>
   rw[eq_of_beq c2]
   simp only[d5,d6,d7,yu,jk,qh,zh]
   cases((ja n:Nat):Int)==2<;>rfl
  |false=>
  cases c3:w==Gc with
  |true=>
   rw[eq_of_beq c3]
   simp only[d9,d10,yu,jk,qh,zh,zg]
   cases((ja n:Nat):Int)==1<;>rfl
  |false=>
  cases c4:w==Ad with
  |true=>
   rw[eq_of_beq c4]
   simp only[d13,yu,jk,qh,zh,zg]
   cases((ja n:Nat):Int)==3<;>rfl
  |false=>
  cases c5:w==([119,97,121]:List UInt8)with
  |true=>
   simp only[yu,jk,qh,zh,zg]
   cases((ja n:Nat):Int)==2<;>rfl
  |false=>rfl
theorem Oag(s:Oa)(w:List UInt8)(W':List (List UInt8))(hW:∀x∈W',x.length≤100000000)(hn:W'.length≤100000000):
 Us (((),(),w::W',([]:List Int),(1:Int),()),((Mp,([]:List Qc),()),s,()))=some (match Va (fun _ o w=>SD o w) 0 [] W' with
  |.inl n=>.inl (((),(),w::W',n,()),((Mp,([]:List Qc),()),s,()))
  |.inr _=>.inr (((),Ua,()),(s,()))):=by
 have h:=H0 (step:=fun x:(Unit×Unit×List (List UInt8)×List Int×Int×Unit)×Oa×Oa×Unit=>AA x.1.1 x.1.2.1 x.1.2.2.1 x.1.2.2.2.1 x.1.2.2.2.2.1 x.2.1 x.2.2.1) W' (fun _ o w=>SD o w)
  (fun k o=>(((),(),w::W',o,((k+1:Nat):Int),()),((Mp,([]:List Qc),()),s,()))) (fun n=>.inl (((),(),w::W',n,()),((Mp,([]:List Qc),()),s,()))) (fun _=>.inr (((),Ua,()),(s,()))) (fun k o=>o.length=k) (by
   intro k hk o ho
   have hx:=hW W'[k] (qi hk)
   refine⟨?_,fun o' h'=>?_⟩
   ·simp only[AA]
    rw[Aa (by simp only[jw];omega),Mf,Aa (by simp only[jw];omega)]
    simp only[zg,jn]
    rw[show(w::W')[k+1]?=some W'[k] by rw[List.getElem?_cons_succ,je hk]]
    simp only[jb]
    rw[VH hx,Waq]
    simp only[jb]
    unfold SD
    cases(Fj W'[k]).2.1 with
    |false=>rfl
    |true=>
     simp only[jg,zh,zg]
     rw[Jb (by simp only[jw,j6];omega),Ee (by omega)]
     rfl
   ·unfold SD at h'
    revert h'
    cases(Fj W'[k]).2.1 with
    |false=>intro h;simp at h
    |true=>
     intro h
     simp only[zg,za]at h
     subst h
     simp[ho]) (by
   intro o ho
   simp only[AA]
   rw[Ba (by simp only[jw];omega)];rfl) [] rfl
 unfold Us
 rw[show((0+1:Nat):Int)=1 from rfl]at h
 rw[h]
 cases Va (fun _ o w=>SD o w) 0 [] W'<;>rfl
theorem K8{s:Oa}(h:Uh s){t:List UInt8}(ht:t.length≤1048576):ZL s t=some (ON s t):=by
 have h20:Da=1048576:=rfl
 have hz:=SaD h
 have hF:=GO h
 have hez:=N4 hF.e
 have hl:=Wq 32 t []
 have hp:=Tn 32 t []
 obtain⟨w,W',hsp⟩:=List.exists_cons_of_ne_nil (My 32 t [])
 obtain⟨hj,hj1⟩:=Sat hsp
 have hk1:=Caa (k:=LJ) (NX _ _ (by decide)) hsp
 have hk2:=Caa (k:=Lp) (NX _ _ (by decide)) hsp
 rw[show LJ++[32]=Kk from rfl]at hk1
 rw[show Lp++[32]=Mk from rfl]at hk2
 rw[show Kk.length=5 from rfl]at hk1
 rw[show Mk.length=6 from rfl]at hk2
 unfold ZL ON
 rw[(MV s (by omega)).1,(Lam s).2 h]
 simp only[jb,jg,zh]
 rw[Kag (by omega) (by have:=hF.q;omega) (by have:=hF.sz;omega)]
 simp only[jb]
 rw[Jp 32 (by omega)]
 rw[hsp]at hl hp⊢
 simp only[jb]
 have hok:Bd (ja (w::W')) 1 ((ja (w::W'):Nat):Int)=true:=Sg (lo:=1) (by simp) (jo _)
 have hcut:Ya (w::W') (jy 1) (jy ((ja (w::W'):Nat):Int))=W':=by
  rw[show jy 1=1 from rfl,jn]
  unfold Ya
  rw[List.take_length];rfl
 rw[hok,hcut]
 simp only[zg]
 simp only[jw]at hl
 rw[Pk (by omega) (by omega)]
 simp only[jb]
 cases he:t==([]:List UInt8)with
 |true=>rfl
 |false=>
 have hne:t≠[]:=by simpa using he
 simp only[zh]
 obtain⟨c,l,hcl⟩:=List.exists_cons_of_ne_nil hne
 rw[show Wb t 0=some c by rw[hcl];rfl,show t.getD 0 0=c by rw[hcl];rfl]
 simp only[jb]
 cases((UInt8.toNat c:Nat):Int)==35 with
 |true=>rfl
 |false=>
 simp only[zh]
 by_cases hW:W'=[]
 ·have hwt:=hj1 hW
  subst hW
  have p1:Zr t Kk=false:=by
   rw[←j8];intro hb
   exact(hk1.1 hb).2.1 rfl
  have p2:Zr t Mk=false:=by
   rw[←j8];intro hb
   exact(hk2.1 hb).2.1 rfl
  rw[p1,p2,show((ja [w]:Nat):Int)==1 from rfl]
  simp only[zg,zh]
  rw[Jag h,Kaw,hwt]
  rfl
 ·have h0:0<W'.length:=List.length_pos_iff.2 hW
  rw[show(((ja (w::W'):Nat):Int)==1)=false by rw[beq_eq_false_iff_ne];simp only[jw];omega]
  simp only[zh]
  rw[show Ac (ja (w::W')) 0=true by simp[Ac],show(w::W')[jy 0]?=some w from rfl]
  simp only[zg,jb]
  cases c1:w==LJ with
  |true=>
   have p1:=hk1.2 (eq_of_beq c1) hW
   have hd:=(hk1.1 p1).2.2
   have hd5:(t.drop 5).length≤1048571:=by rw[ql];omega
   rw[p1,←hd]
   simp only[zg]
   unfold Nac
   rw[UJ hd5,Mav]
   simp only[jb]
   cases hb:(Fl (t.drop 5)).2.1 with
   |false=>rfl
   |true=>
    simp only[jg,zh]
    rw[KN _ _ _ _ (WS (by have:=Oaq (F8 hb);omega) (by have:=hF.e.m4;omega) hF.e.mac)]
    rfl
  |false=>
  have p1:Zr t Kk=false:=by
   rw[←j8];intro hb
   rw[(hk1.1 hb).1]at c1
   simp at c1
  rw[p1]
  simp only[zh]
  cases c2:w==Lp with
  |true=>
   have p2:=hk2.2 (eq_of_beq c2) hW
   have hd:=(hk2.1 p2).2.2
   have hd6:(t.drop 6).length≤1048571:=by rw[ql];omega
   rw[p2,←hd]
   simp only[zg]
   unfold Kaq
   rw[FY hd6,Jav]
   simp only[jb]
   cases hb:(Dl (t.drop 6)).2.1 with
   |false=>rfl
   |true=>
    simp only[jg,zh]
    have hm4:=hF.e.m4
    rw[Jb (by simp only[jw,j6];omega)]
    simp only[zg]
    rw[KN _ _ _ _ (WS (by have:=hF.mz;omega) (by rw[ze,qc];simp only[jw,j6];omega) fun x hx=>by
     rcases jl.1 (show x∈s.1.1.2.1++[(Dl (t.drop 6)).1]from hx)with hx|hx
     ·exact hF.e.mac x hx
     ·rw[qb.1 hx];exact E8 hb)]
    rfl
  |false=>
  have p2:Zr t Mk=false:=by
   rw[←j8];intro hb
   rw[(hk2.1 hb).1]at c2
   simp at c2
  rw[p2]
  simp only[zh]
  have hin:=Oag s w W' (fun x hx=>by have:=hp x (jr _ hx);simp at this;omega) (by omega)
  erw[hin]
  rw[Tar s w hW]
  unfold Maq
  cases Va (fun _ o w=>SD o w) 0 [] W' with
  |inr u=>rfl
  |inl n=>
   simp only[jb,qf]
   rw[show Ac (ja (w::W')) 0=true by simp[Ac],show(w::W')[jy 0]?=some w from rfl]
   simp only[zg,jb]
   have:=X5 h w n
   erw[this]
   rfl
theorem EY:Ul=some (XX,()):=by
 obtain⟨w,e1,e2,_⟩:=R3
 rw[KM]at e2
 simp only[jc,jh,and_true]at e2
 rw[e1,e2]
theorem Pag(W:List (List UInt8))(hn:W.length≤60)(hW:∀x∈W,x.length≤1048576):
 Gj ((W,(),([]:List UInt8),(0:Int),()),(XX,()))=some (.inl ((W,(lnI W).2,()),())):=by
 have hl:=Zd (step:=fun x:(List (List UInt8)×Unit×List UInt8×Int×Unit)×Oa×Unit=>Uw x.1.1 x.1.2.1 x.1.2.2.1 x.1.2.2.2.1 x.2.1) W (fun _ p t=>lnG p t)
  (fun p i=>((W,(),p.2,i,()),(p.1,()))) (fun p=>.inl ((W,p.2,()),())) LnB (by
   intro k hk p hp
   refine⟨?_,Qal hp _⟩
   have hx:=hW W[k] (qi hk)
   obtain⟨h1,h2⟩:=Qad hp.s W[k]
   have hpn:=hp.n
   have hk60:73001*k≤73001*60:=Nat.mul_le_mul_left _ (by omega)
   simp only[Uw]
   rw[Aa (by omega),Mf,Aa hk]
   simp only[zg,jn]
   rw[je hk]
   simp only[jb]
   rw[K8 hp.s hx]
   simp only[jb]
   unfold lnG
   cases(ON p.1 W[k]).2.1 !=([]:List UInt8)with
   |false=>rfl
   |true=>
    simp only[zg]
    rw[Jb (by omega),Jb (by simp only[ze,qc,jw,j6];omega)]
    simp only[zg]
    rw[show jf (jf p.2 (ON p.1 W[k]).2.1) [10]=jf p.2 (jf (ON p.1 W[k]).2.1 [10])from q0 _ _ _]) (by
   intro p hp
   simp only[Uw]
   rw[Ba (by omega)];rfl) (by omega) (XX,[]) ⟨Kam,by simp⟩
 unfold Gj lnI
 exact hl.1
theorem C3{t:List UInt8}(ht:t.length≤1048576):SA t=some (HT t):=by
 unfold SA HT Sap
 rw[Jp 10 (by omega)]
 simp only[jb]
 have hl:=Wq 10 t []
 have hp:=Tn 10 t []
 have hne:=My 10 t []
 generalize Mb 10 [] t=W at hl hp hne
 have h0:0<W.length:=List.length_pos_iff.2 hne
 have hi:j4 .i64 (((ja W:Nat):Int)-1)=((W.length-1:Nat):Int):=by rw[Af (by omega) (by omega)];omega
 rw[hi,Mf,Aa (by omega)]
 simp only[zg,jn]
 rw[je (by omega)]
 simp only[jb]
 rw[qe,je (show W.length-1<W.length by omega)]
 simp only[qz]
 have main:∀V:List (List UInt8),(∀x∈V,x∈W)→
  (cond (decide (((ja V:Nat):Int)>(60:Int))) (some (([]:List UInt8),(-1:Int),())) (jz Ul fun r12=>
   (jz (Gj ((V,(),([]:List UInt8),(0:Int),()),(r12.1,()))) (Sum.elim (fun y19=>(some (y19.1.2.1,((ja y19.1.1:Nat):Int),()))) (fun z20=>none)))):Option (List UInt8×(Int×Unit)))
  =some (Daf V):=by
  intro V hV
  unfold Daf
  by_cases h60:60<V.length
  ·rw[Aa h60,Aa (by omega)];rfl
  ·rw[Ba h60,Ba (by omega)]
   simp only[zh]
   rw[EY]
   simp only[jb]
   rw[Pag V (by omega) fun x hx=>by have:=hp x (hV x hx);simp at this;omega]
   rfl
 by_cases hb:(W[W.length-1]'(by omega)==([]:List UInt8))=true
 ·rw[hb]
  simp only[zg]
  have hok:Bd (ja W) 0 ((W.length-1:Nat):Int)=true:=Sg (lo:=0) (by omega) (by omega)
  have hcut:Ya W (jy 0) (W.length-1)=W.take (W.length-1):=by simp[Ya]
  rw[hok,←hcut]
  simp only[zg]
  exact main _ fun x hx=>by rw[hcut]at hx;exact List.mem_of_mem_take hx
 ·rw[j8]at hb
  rw[hb]
  simp only[zh]
  exact main W fun x hx=>hx
theorem Paa(t:List UInt8)(_:YV .s t)(ht:Hb .s t≤Da):∃w v,SA t=some (w,v,())∧OA t=some (w,v,()):=
 ⟨(HT t).1,(HT t).2.1,C3 (show t.length≤1048576 from ht),B2 (show t.length≤1048576 from ht)⟩
theorem Baf(a0:(List UInt8))(hr0:YV .s a0):Hq a0=some (true,()):=by
 have h20:Da=1048576:=rfl
 have h40:TaT=1099511627776:=rfl
 unfold Hq
 by_cases l0:((ja a0:Nat):Int)>1048576
 ·rw[Aa l0];rfl
 rw[Ba l0]
 simp only[zh]
 have hz0:Hb .s a0≤Da:=by show ja a0≤Da;omega
 obtain⟨w0,w1,e1,e2⟩:=Paa a0 hr0 hz0
 simp only[e1,e2,jb,bne_self_eq_false',bne_self_eq_false,jg,zh]
end KF
