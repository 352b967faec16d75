/- An evaluator of Go functions on plain data, its soundness, and plain laws on what the functions compute, part 5 (conditions: as each lemma tells). -/
import Derived.Test.YteooipbgmfmhfaaGreatDoorD
set_option linter.unusedSimpArgs false
set_option linter.unusedVariables false
namespace KF
open Go
open List renaming length → ja, getElem?_eq_getElem → je, append → jf, mem_append → jl, mem_cons → jp, mem_cons_of_mem → jr, length_cons → jw, set → j5, length_nil → j6, mem_singleton → qb, length_append → qc, getD_eq_getElem?_getD → qe, getElem_mem → qi, getElem_of_mem → qj, mem_map → qk, length_drop → ql, ext_getElem? → qp, drop_drop → qq, toArray → qr, getD → qs, getElem?_eq_none → qt, mem_append_left → qu, mem_append_right → qv, any_eq_true → qy, append_assoc → q0, eq_nil_of_length_eq_zero → q7, getElem?_eq_some_iff → q8, length_eq_one_iff → q9, replicate → yd, nil_append → yg, cons_append → yh, map_cons → yk, nodup_cons → ym, nodup_append → yn, size_toArray → yo, flatten_cons → yp, length_map → yr, mem_map_of_mem → yv, map_append → yw, all_eq_true → yx, append_nil → yy, range → y3, map → zd, append_eq → ze, not_mem_nil → zf
open Option renaming bind_some → jb, bind → jz, map_some → qa, bind_eq_some_iff → qd, getD_some → qz, map_eq_some_iff → yz
open Option.some renaming injEq → jc, inj → zb
open Bool renaming and_eq_true → jd, not_true → jg, true_and → jk, false_eq_true → jq, not_false → j7, not_eq_true → j8, false_and → qh, eq_iff_iff → qm, or_eq_true → qx, not_eq_true' → yl, or_eq_false_iff → yt, false_or → yu
open Prod.mk renaming injEq → jh
open Nat renaming ble_eq_true_of_le → ji, mul_le_mul_right → jm, le_refl → jo, zero_add → js, add_assoc → jt, eq_of_beq_eq_true → ju, ble → jx, le_trans → j9, lt_of_lt_of_le → qg, beq → qw, le_of_ble_eq_true → q6, add_zero → ya, blt → yb, blt_eq → ye, add_mul → yf, beq_refl → yj, succ_mul → yq
open Int renaming toNat_natCast → jn, eq_ofNat_of_zero_le → jv, toNat → jy, tmod → yc
open Go.IntKind renaming wrap → j4
open Sum renaming elim_inl → qf
open Result renaming andThen_ok → qn
open Sem renaming run_bind → qo
open List.cons renaming injEq → yi
open Sum.inl renaming injEq → za
abbrev zR:Ca:=((0:Int),([]:List Int),())
theorem QW{α:Type}(p:α→Bool):∀(l:List α) (k:Nat) (b:Bool),Oc (fun _ b x=>cond b true (p x)) k b l=(b||l.any p)
 |[],_,b=>by simp[Oc]
 |x::l,k,b=>by
  simp only[Oc,List.any_cons]
  rw[QW p l (k+1)]
  cases b<;>cases p x<;>rfl
theorem Nag(D:List La)(b:Ca)(K:List Int)(c:Int)(has:Bool)(hb:b.2.1.length≤Da):
 Xo ((D,(),(),K,c,has,(0:Int),()),(zR,b,()))=some (.inl ((D,(),(),K,c,has||b.2.1.any (fun y=>y==c),()),(zR,b,()))):=by
 have h20:Da=1048576:=rfl
 have hl:=(Zd (step:=fun x=>Av x.1.1 x.1.2.1 x.1.2.2.1 x.1.2.2.2.1 x.1.2.2.2.2.1 x.1.2.2.2.2.2.1 x.1.2.2.2.2.2.2.1 x.2.1 x.2.2.1) b.2.1 (fun _ s y=>cond s true (y==c)) (fun s i=>((D,(),(),K,c,s,i,()),(zR,b,())))
  (fun s=>.inl ((D,(),(),K,c,s,()),(zR,b,()))) (fun _ _=>True) (by
   intro k hk s _
   refine⟨?_,trivial⟩
   simp only[Av]
   rw[Aa (show(k:Int)<((ja b.2.1:Nat):Int) by omega),show Ac (ja b.2.1) (k:Int)=true by rw[Mf];exact Aa hk,jn,je hk]
   simp only[zg,jb]
   cases s<;>rfl)
  (by
   intro s _
   simp only[Av]
   rw[Ba (by omega)];rfl) (by omega) has trivial).1
 unfold Xo
 erw[hl]
 rw[QW (fun y:Int=>y==c)]
theorem Mag(D:List La)(b:Ca)(K:List Int)(c:Int)(has:Bool)(hD:D.length≤Da):
 Yo ((D,(),(),K,c,has,(0:Int),()),(zR,b,()))=some (.inl ((D,(),(),K,c,has||D.any (fun h=>h.2.1.2.1==c),()),(zR,b,()))):=by
 have h20:Da=1048576:=rfl
 have hl:=(Zd (step:=fun x=>Bv x.1.1 x.1.2.1 x.1.2.2.1 x.1.2.2.2.1 x.1.2.2.2.2.1 x.1.2.2.2.2.2.1 x.1.2.2.2.2.2.2.1 x.2.1 x.2.2.1) D (fun _ s (h:La)=>cond s true (h.2.1.2.1==c)) (fun s i=>((D,(),(),K,c,s,i,()),(zR,b,())))
  (fun s=>.inl ((D,(),(),K,c,s,()),(zR,b,()))) (fun _ _=>True) (by
   intro k hk s _
   refine⟨?_,trivial⟩
   simp only[Bv]
   rw[Aa (show(k:Int)<((ja D:Nat):Int) by omega),Ub hk]
   simp only[zg,jb]
   cases s<;>rfl)
  (by
   intro s _
   simp only[Bv]
   rw[Ba (by omega)];rfl) (by omega) has trivial).1
 unfold Yo
 erw[hl]
 rw[QW (fun h:La=>h.2.1.2.1==c)]
theorem WH(l D:List La)(hn:l.length≤Da)(hv:Oe l=true)(hD:D.length≤1000):Ti l D=some (IH (Kc l) (D.map Rd),()):=by
 have h20:Da=1048576:=rfl
 have h1:=(Zd (step:=fun x=>Vw x.1.1 x.1.2.1 x.1.2.2.1 x.1.2.2.2.1 x.2.1 x.2.2.1) D (fun _ s (h:La)=>Xd .i64 s h.2.1.2.2.1) (fun s i=>((D,(),(),i,()),(zR,((s,(Kc l).2.1,()):Ca),())))
  (fun s=>.inl ((D,(),(),()),(zR,((s,(Kc l).2.1,()):Ca),()))) (fun _ _=>True) (by
   intro k hk s _
   refine⟨?_,trivial⟩
   simp only[Vw]
   rw[Aa (show(k:Int)<((ja D:Nat):Int) by omega),Ub hk];rfl)
  (by
   intro s _
   simp only[Vw]
   rw[Ba (by omega)];rfl) (by omega) (Kc l).1 trivial).1
 have hm:∀(D:List La) (k:Nat) (s:Int),Oc (fun _ s (h:La)=>Xd .i64 s h.2.1.2.2.1) k s D=Oc (fun _ s (p:Lc)=>Xd .i64 s p.2.1) k s (D.map Rd):=by
  intro D
  induction D with
  |nil=>intro k s;rfl
  |cons x D ih=>intro k s;simp only[Oc,yk];exact ih _ _
 generalize hms:Oc (fun _ s (h:La)=>Xd .i64 s h.2.1.2.2.1) 0 (Kc l).1 D=ms at h1
 have hms':Paq (Kc l).1 (D.map Rd)=ms:=by rw[←hms,hm];rfl
 let pr:Int→Bool:=fun c=>(Kc l).2.1.any (fun y=>y==c)||D.any (fun h=>h.2.1.2.1==c)
 have h2:=CR (step:=fun x=>Ww x.1.1 x.1.2.1 x.1.2.2.1 x.1.2.2.2.1 x.1.2.2.2.2.1 x.2.1 x.2.2.1) (fun k=>((D,(),(),Nj pr k,((k+1:Nat):Int),()),(zR,((ms,(Kc l).2.1,()):Ca),()))) 56
  (.inl (((),(),Nj pr 56,()),(zR,((ms,(Kc l).2.1,()):Ca),()))) (by
   intro k hk
   simp only[Ww]
   have hlen:=EX pr k
   rw[Aa (show((k+1:Nat):Int)≤56 by omega),Nag D _ _ _ _ (by have:=ZI l;show(Kc l).2.1.length≤_;omega)]
   simp only[zg,jb,qf]
   rw[Mag D _ _ _ _ (by omega)]
   simp only[jb,qf]
   rw[show jx (ja (Nj pr k)+ja ([((k+1:Nat):Int)]:List Int)) Sa=true from ji (by simp only[jw,j6,Zf];omega),Ee (by omega)]
   simp only[Nj,pr,yu,zg]
   cases((Kc l).2.1.any (fun y=>y==((k+1:Nat):Int))||D.any (fun h=>h.2.1.2.1==((k+1:Nat):Int)))<;>rfl) (by
   simp only[Ww]
   rw[Ba (by decide)];rfl)
 unfold Ti HA IA
 rw[Ks l hn hv]
 simp only[jb]
 erw[h1]
 simp only[jb,qf]
 erw[h2]
 simp only[jb,qf]
 unfold IH
 rw[hms']
 congr 4
 apply congrArg (fun p=>Nj p 56)
 funext c
 simp only[pr,List.any_map]
 rfl
noncomputable def rM(L:List La)(x:Ta):Int:=Jd (Ki x.2.1 x.2.2.1) 0 L
noncomputable def IR(b:Ca)(L:List La)(x:Ta):List Ca:=
 cond (x.1==0) [IH b ((jf L [Wh x]).map Rd),IH b (L.map Rd)] [IH b ((WI x L (rM L x)).map Rd)]
noncomputable def mG(b:Ca)(s:List Ca×List La)(x:Ta):List Ca×List La:=(jf s.1 (IR b s.2 x),WI x s.2 (rM s.2 x))
noncomputable def SP(b:Ca)(l:List Ta):List Ca:=(Oc (fun _ s x=>mG b s x) 0 ([],[]) l).1
theorem B0{α:Type}(p:α→Bool):∀(xs:List α) (k:Nat) (y:α),Jd p k xs=-1→p y=true→Jd p k (xs++[y])=((k+xs.length:Nat):Int)
 |[],k,y,_,hy=>by simp only[yg,Jd,hy,zg];simp
 |x::xs,k,y,h,hy=>by
  simp only[Jd]at h
  simp only[yh,Jd]
  cases hx:p x with
  |true=>rw[hx]at h;simp only[zg]at h;omega
  |false=>
   rw[hx]at h
   simp only[zh]at h⊢
   rw[B0 p xs (k+1) y h hy,jw]
   omega
structure K6(l:List Ta)(k:Nat)(s:List Ca×List La):Prop where
 ok:∃L',Va (fun _ L x=>Co L x) k s.2 (l.drop k)=.inl L'
 len:s.2.length≤k
 out:s.1.length≤2*k
 cod:∀h∈s.2,0≤h.2.1.2.1∧h.2.1.2.1≤56
theorem Oae{l:List Ta}{k:Nat}(hk:k<l.length){b:Ca}{s:List Ca×List La}(hi:K6 l k s):Zo l[k] (rM s.2 l[k])=true∧K6 l (k+1) (mG b s l[k]):=by
 obtain⟨L',hL⟩:=hi.ok
 rw[List.drop_eq_getElem_cons hk]at hL
 simp only[Va]at hL
 unfold rM
 cases hc:Zo l[k] (Jd (Ki l[k].2.1 l[k].2.2.1) 0 s.2)with
 |false=>
  have:Co s.2 l[k]=.inr ():=by unfold Co;rw[hc];rfl
  rw[this]at hL;simp at hL
 |true=>
  have hm:Co s.2 l[k]=.inl (WI l[k] s.2 (rM s.2 l[k])):=by unfold Co rM;rw[hc];rfl
  rw[hm]at hL
  refine⟨rfl,⟨L',hL⟩,?_,?_,?_⟩
  ·have:=R7 hm
   have:=hi.len
   show(WI l[k] s.2 (rM s.2 l[k])).length≤k+1
   omega
  ·have:=hi.out
   show(jf s.1 (IR b s.2 l[k])).length≤_
   unfold IR
   cases l[k].1==0<;>simp<;>omega
  ·have hcode:0≤l[k].2.1∧l[k].2.1≤56:=by
    simp only[Zo,jd]at hc
    exact IL hc.1
   intro h hh
   have hh':h∈WI l[k] s.2 (rM s.2 l[k]):=hh
   unfold WI at hh'
   cases h1:l[k].1==1 with
   |true=>
    rw[h1]at hh'
    rcases jl.1 (show h∈s.2++[Wh l[k]]from hh')with hh'|hh'
    ·exact hi.cod h hh'
    ·simp only[jp,zf,or_false]at hh'
     rw[hh'];exact hcode
   |false=>
    rw[h1]at hh'
    cases h2:l[k].1==2 with
    |true=>
     rw[h2]at hh'
     have hsub:h∈s.2:=by
      have hw:h∈Th s.2 (rM s.2 l[k]).toNat:=hh'
      unfold Th Ya at hw
      rcases jl.1 (show h∈_++_ from hw)with hw|hw
      ·exact List.mem_of_mem_take (List.mem_of_mem_drop hw)
      ·exact List.mem_of_mem_take (List.mem_of_mem_drop hw)
     exact hi.cod h hsub
    |false=>rw[h2]at hh';exact hi.cod h hh'
theorem Naf{x:Ta}{r:Int}(h:Zo x r=true):(x.1=0∧r<0)∨(x.1=1∧r<0)∨(x.1=2∧r≥0):=by
 simp only[Zo,jd,qx,beq_iff_eq,yl,decide_eq_false_iff_not,decide_eq_true_eq]at h
 omega
theorem Ga{n m:Nat}(h:n≤1000)(hm:m≤10):jx (n+m) Sa=true:=ji (by rw[Zf];omega)
theorem Xag(L:List La)(h:La):Th (jf L [h]) L.length=L:=by
 simp[Th,Ya]
theorem FV(a:List La)(l:List Ta)(hn:a.length≤Da)(ha:Oe a=true)(hm:Dc l=true):Xl a l=some (SP (Kc a) l,()):=by
 have h20:Da=1048576:=rfl
 have hm':=hm
 simp only[Dc,jd,decide_eq_true_eq,IX]at hm'
 have h0:K6 l 0 ([],[]):=⟨by
  rw[List.drop_zero]
  cases hf:Va (fun _ L x=>Co L x) 0 [] l with
  |inl L=>exact⟨L,rfl⟩
  |inr u=>rw[hf]at hm';simp at hm',jo _,jo _,by simp⟩
 have hl:=(Zd (step:=fun x=>Vo x.1.1 x.1.2.1 x.1.2.2.1 x.1.2.2.2.1 x.1.2.2.2.2.1) l (fun _ s x=>mG (Kc a) s x) (fun s i=>((a,l,s.1,s.2,i,()),())) (fun s=>.inl ((s.1,()),())) (K6 l) (by
  intro k hk s hi
  obtain⟨hok,hi'⟩:=Oae (b:=Kc a) hk hi
  refine⟨?_,hi'⟩
  have hlen:=hi.len
  have hout:=hi.out
  have hl8:=hm'.1
  simp only[Vo]
  rw[Aa (show(k:Int)<((ja l:Nat):Int) by omega),Ub hk]
  simp only[zg,jb,Pt]
  generalize hx:l[k]=x at*
  have e1:jx (ja s.2+ja ([((0:Int),((2:Int),x.2.1,x.2.2.1,(0:Int),()),())]:List La)) Sa=true:=Ga (by omega) (by simp)
  have hR1:Ti a (jf s.2 [Wh x])=some (IH (Kc a) ((jf s.2 [Wh x]).map Rd),()):=WH a _ hn ha (by simp;omega)
  have hR0:Ti a s.2=some (IH (Kc a) (s.2.map Rd),()):=WH a _ hn ha (by omega)
  unfold mG IR WI
  rcases Naf hok with⟨h0,hr⟩|⟨h1,hr⟩|⟨h2,hr⟩
  ·rw[h0,e1]
   simp only[show((0:Int) !=2)=true from rfl,show((0:Int) !=1)=true from rfl,show((0:Int)==0)=true from rfl,show((0:Int)==1)=false from rfl,show((0:Int)==2)=false from rfl,zg,zh]
   show jz (Ti a (jf s.2 [Wh x])) _=_
   rw[hR1]
   simp only[jb]
   rw[show∀r:Ca,jx (ja s.1+ja ([r]:List Ca)) Sa=true from fun r=>Ga (by omega) (by simp)]
   simp only[zg]
   have hF:Vq (jf s.2 [Wh x]) x=some (((s.2.length:Nat):Int),()):=by
    rw[WK _ _ (by simp;omega)]
    have hm1:Jd (Ki x.2.1 x.2.2.1) 0 s.2=-1:=by
     rcases Ky (Ki x.2.1 x.2.2.1) s.2 0 with h|⟨j,_,h⟩
     ·exact h
     ·unfold rM at hr;omega
    have:=B0 (Ki x.2.1 x.2.2.1) s.2 0 (Wh x) hm1 (by simp[Ki,Wh])
    rw[js]at this
    show some (Jd _ 0 (s.2++[Wh x]),())=_
    rw[this]
   have hW:Qg (jf s.2 [Wh x]) ((s.2.length:Nat):Int)=some (s.2,()):=by
    rw[BG _ (by simp) (by simp;omega),Xag]
   show jz (Vq (jf s.2 [Wh x]) x) _=_
   rw[hF]
   simp only[jb]
   show jz (Qg (jf s.2 [Wh x]) ((s.2.length:Nat):Int)) _=_
   rw[hW]
   simp only[jb]
   rw[hR0]
   simp only[jb]
   rw[show∀r r':Ca,jx (ja (jf s.1 [r])+ja ([r']:List Ca)) Sa=true from fun r r'=>Ga (by simp;omega) (by simp)]
   simp
  ·rw[h1,e1]
   simp only[show((1:Int) !=2)=true from rfl,show((1:Int) !=1)=false from rfl,show((1:Int)==0)=false from rfl,show((1:Int)==1)=true from rfl,zg,zh]
   show jz (Ti a (jf s.2 [Wh x])) _=_
   rw[hR1]
   simp only[jb]
   rw[show∀r:Ca,jx (ja s.1+ja ([r]:List Ca)) Sa=true from fun r=>Ga (by omega) (by simp)]
   rfl
  ·rw[h2]
   simp only[show((2:Int) !=2)=false from rfl,show((2:Int) !=1)=true from rfl,show((2:Int)==0)=false from rfl,show((2:Int)==1)=false from rfl,show((2:Int)==2)=true from rfl,zg,zh]
   rcases Ky (Ki x.2.1 x.2.2.1) s.2 0 with h|⟨j,hj,h⟩
   ·unfold rM at hr;omega
   ·rw[js]at h
    rw[WK _ _ (by omega),h]
    simp only[jb]
    rw[BG _ hj (by omega)]
    simp only[jb]
    rw[WH a _ hn ha (by rw[U0 hj];omega)]
    simp only[jb]
    rw[show∀r:Ca,jx (ja s.1+ja ([r]:List Ca)) Sa=true from fun r=>Ga (by omega) (by simp)]
    unfold rM
    rw[h,jn]
    rfl)
  (by
   intro s _
   simp only[Vo]
   rw[Ba (by omega)];rfl) (by omega) ([],[]) h0).1
 unfold Xl Es
 rw[AF _ hn,ha,CJ _ (by omega),hm]
 simp only[jb,jg,zh]
 erw[hl]
 rfl
theorem Jaz(a:List La):∀c∈(Kc a).2.1,0≤c∧c≤56:=by
 intro c hc
 have:=(LI a 56 c).1 hc
 omega
theorem LU(a:List La)(l:List Ta)(hn:a.length≤Da)(ha:Oe a=true)(hm:Dc l=true):Wl a l=some (SP (Kc a) l,()):=by
 have h20:Da=1048576:=rfl
 have hm':=hm
 simp only[Dc,jd,decide_eq_true_eq,IX]at hm'
 have h0:K6 l 0 ([],[]):=⟨by
  rw[List.drop_zero]
  cases hf:Va (fun _ L x=>Co L x) 0 [] l with
  |inl L=>exact⟨L,rfl⟩
  |inr u=>rw[hf]at hm';simp at hm',jo _,jo _,by simp⟩
 have hl:=(Zd (step:=fun x=>Oo x.1.1 x.1.2.1 x.1.2.2.1 x.1.2.2.2.1 x.1.2.2.2.2.1 x.1.2.2.2.2.2.1 x.2.1) l (fun _ s x=>mG (Kc a) s x) (fun s i=>(((),s.1,s.2.map Rd,l,((ja l:Nat):Int),i,()),(Kc a,()))) (fun s=>.inl ((s.1,()),())) (K6 l) (by
  intro k hk s hi
  obtain⟨hok,hi'⟩:=Oae (b:=Kc a) hk hi
  refine⟨?_,hi'⟩
  have hlen:=hi.len
  have hout:=hi.out
  have hl8:=hm'.1
  have hcode:0≤l[k].2.1∧l[k].2.1≤56:=by
   simp only[Zo,jd]at hok
   exact IL hok.1
  simp only[Oo]
  rw[Aa (show(k:Int)<((ja l:Nat):Int) by omega),Ub hk]
  simp only[zg,jb]
  generalize hx:l[k]=x at*
  have hW:∀L:List La,L.length≤1000→(∀h∈L,0≤h.2.1.2.1∧h.2.1.2.1≤56)→Fg (Kc a) (L.map Rd)=some (IH (Kc a) (L.map Rd),()):=fun L h1 h2=>
   SZ _ _ (ZI a) (by simpa using h1) (Jaz a) (fun p hp=>by
    obtain⟨h,hh,rfl⟩:=qk.1 hp
    exact h2 h hh)
  have hcs:∀h∈jf s.2 [Wh x],0≤h.2.1.2.1∧h.2.1.2.1≤56:=by
   intro h hh
   rcases jl.1 (show h∈s.2++[Wh x]from hh)with hh|hh
   ·exact hi.cod h hh
   ·simp only[jp,zf,or_false]at hh
    rw[hh];exact hcode
  have happ:jf (s.2.map Rd) ([(x.2.1,x.2.2.1,())]:List Lc)=(jf s.2 [Wh x]).map Rd:=by
   show _++_=zd Rd (_++_)
   rw[yw];rfl
  have happ2:jf (jf ([]:List Lc) (s.2.map Rd)) ([(x.2.1,x.2.2.1,())]:List Lc)=(jf s.2 [Wh x]).map Rd:=happ
  have hR1:=hW (jf s.2 [Wh x]) (by simp;omega) hcs
  have hR0:=hW s.2 (by omega) hi.cod
  have b1:jx (ja (s.2.map Rd)+ja ([(x.2.1,x.2.2.1,())]:List Lc)) Sa=true:=Ga (by simp;omega) (by simp)
  have b0:jx (ja ([]:List Lc)+ja (s.2.map Rd)) Sa=true:=ji (by simp[Zf];omega)
  unfold mG IR WI
  rcases Naf hok with⟨h0,hr⟩|⟨h1,hr⟩|⟨h2,hr⟩
  ·rw[h0,b0]
   simp only[show((0:Int)==0)=true from rfl,show((0:Int)==1)=false from rfl,show((0:Int)==2)=false from rfl,zg,zh]
   show cond (jx (ja (s.2.map Rd)+ja ([(x.2.1,x.2.2.1,())]:List Lc)) Sa) _ _=_
   rw[b1,happ2]
   simp only[zg]
   show jz (Fg (Kc a) _) _=_
   rw[hR1]
   simp only[jb]
   rw[show∀r:Ca,jx (ja s.1+ja ([r]:List Ca)) Sa=true from fun r=>Ga (by omega) (by simp)]
   simp only[zg]
   show jz (Fg (Kc a) _) _=_
   rw[hR0]
   simp only[jb]
   rw[show∀r r':Ca,jx (ja (jf s.1 [r])+ja ([r']:List Ca)) Sa=true from fun r r'=>Ga (by simp;omega) (by simp)]
   simp
  ·rw[h1,b1,happ]
   simp only[show((1:Int)==0)=false from rfl,show((1:Int)==1)=true from rfl,zg,zh]
   show jz (Fg (Kc a) _) _=_
   rw[hR1]
   simp only[jb]
   rw[show∀r:Ca,jx (ja s.1+ja ([r]:List Ca)) Sa=true from fun r=>Ga (by omega) (by simp)]
   rfl
  ·rw[h2]
   simp only[show((2:Int)==0)=false from rfl,show((2:Int)==1)=false from rfl,show((2:Int)==2)=true from rfl,zg,zh]
   rcases Ky (Ki x.2.1 x.2.2.1) s.2 0 with h|⟨j,hj,h⟩
   ·unfold rM at hr;omega
   ·rw[js]at h
    rw[ET (s.2.map Rd) _ (by simp;omega),Q5,h]
    simp only[jb]
    have hj':j<(s.2.map Rd).length:=by simpa using hj
    have hc:=KW hj'
    have e1:jx (ja (Ya (s.2.map Rd) (jy 0) (jy (j:Int)))+ja (Ya (s.2.map Rd) (jy ((j+1:Nat):Int)) (jy ((ja (s.2.map Rd):Nat):Int)))) Sa=true:=
     ji (by simp[Ya];rw[Zf];omega)
    have e2:jf (Ya (s.2.map Rd) (jy 0) (jy (j:Int))) (Ya (s.2.map Rd) (jy ((j+1:Nat):Int)) (jy ((ja (s.2.map Rd):Nat):Int)))=(Th s.2 j).map Rd:=by
     rw[←V0]
     simp[Th]
    have hsub:∀h∈Th s.2 j,0≤h.2.1.2.1∧h.2.1.2.1≤56:=by
     intro h hw
     unfold Th Ya at hw
     rcases jl.1 (show h∈_++_ from hw)with hw|hw
     ·exact hi.cod h (List.mem_of_mem_take (List.mem_of_mem_drop hw))
     ·exact hi.cod h (List.mem_of_mem_take (List.mem_of_mem_drop hw))
    rw[Ee (k:=j) (by omega),hc.1,hc.2,e1,e2]
    simp only[zg]
    show jz (Fg (Kc a) _) _=_
    rw[hW (Th s.2 j) (by rw[U0 hj];omega) hsub]
    simp only[jb]
    rw[show∀r:Ca,jx (ja s.1+ja ([r]:List Ca)) Sa=true from fun r=>Ga (by omega) (by simp)]
    unfold rM
    rw[h,jn]
    rfl)
  (by
   intro s _
   simp only[Oo]
   rw[Ba (by omega)];rfl) (by omega) ([],[]) h0).1
 unfold Wl Tr
 rw[QE _ hn,ha,EC _ (by omega),hm,Wr _ hn ha]
 simp only[jb,jg,zh]
 erw[hl]
 rfl
theorem Laa(b:Ca)(D:List Lc):(IH b D).2.1.length≤56:=by
 show(Nj (fun c=>b.2.1.any (fun y=>y==c)||D.any (fun p=>p.1==c)) 56).length≤56
 exact EX _ 56
theorem Gaf(b:Ca):∀(l:List Ta) (k:Nat) (s:List Ca×List La),(∀x∈s.1,x.2.1.length≤56)→
 (Oc (fun _ s x=>mG b s x) k s l).1.length≤s.1.length+2*l.length∧∀x∈(Oc (fun _ s x=>mG b s x) k s l).1,x.2.1.length≤56
 |[],_,s,h=>by simp only[Oc];exact⟨by omega,h⟩
 |x::l,k,s,h=>by
  have h1:(mG b s x).1.length≤s.1.length+2∧∀y∈(mG b s x).1,y.2.1.length≤56:=by
   unfold mG IR
   cases x.1==0 with
   |true=>
    refine⟨by simp,fun y hy=>?_⟩
    rcases jl.1 (show y∈s.1++_ from hy)with hy|hy
    ·exact h y hy
    ·simp only[zg,jp,zf,or_false]at hy
     rcases hy with rfl|rfl<;>exact Laa _ _
   |false=>
    refine⟨by simp,fun y hy=>?_⟩
    rcases jl.1 (show y∈s.1++_ from hy)with hy|hy
    ·exact h y hy
    ·simp only[zh,jp,zf,or_false]at hy
     rw[hy];exact Laa _ _
  have:=Gaf b l (k+1) (mG b s x) h1.2
  simp only[Oc,jw]
  exact⟨by omega,this.2⟩
def Ej(f:Int)(l:List La):Int:=Oc (fun _ s (h:La)=>cond (h.2.1.1==3) (Xd .i64 s (Ke .i64 1 h.2.1.2.2.2.1)) s) 0 (Xd .i64 1 f) l
theorem LK{f:Int}(hf:0≤f∧f≤15)(l:List La)(hn:l.length≤Da)(hv:Oe l=true):It f l=some (Ej f l,()):=by
 have h20:Da=1048576:=rfl
 have hh:=Lu hv
 have hl:=(Zd (step:=fun x=>Gw x.1.1 x.1.2.1 x.1.2.2.1 x.1.2.2.2.1) l
  (fun _ s (h:La)=>cond (h.2.1.1==3) (Xd .i64 s (Ke .i64 1 h.2.1.2.2.2.1)) s) (fun s i=>((s,l,((ja l:Nat):Int),i,()),()))
  (fun s=>.inl ((s,()),())) (fun _ _=>True) (by
   intro k hk s _
   refine⟨?_,trivial⟩
   simp only[Gw]
   rw[Aa (show(k:Int)<(ja l:Int) by omega),Ub hk]
   simp only[zg,jb]
   rw[Aa (XJ (hh _ (qi hk)).act)]
   cases l[k].2.1.1==3<;>rfl)
  (by
   intro s _
   simp only[Gw]
   rw[Ba (by omega)];rfl) (by omega) (Xd .i64 1 f) trivial).1
 unfold It Pl
 rw[Aa (show f≥0 by omega),Aa hf.2,QE _ hn,hv]
 simp only[zg,jb,jg,zh]
 erw[hl]
 rfl
theorem UK{f:Int}(hf:0≤f∧f≤15)(l:List La)(hn:l.length≤Da)(hv:Oe l=true):Nt f l=some (Ej f l,()):=by
 have h20:Da=1048576:=rfl
 have hh:=Lu hv
 have hl:=(Zd (step:=fun x=>Sw x.1.1 x.1.2.1 x.1.2.2.1) l
  (fun _ s (h:La)=>cond (h.2.1.1==3) (Xd .i64 s (Ke .i64 1 h.2.1.2.2.2.1)) s) (fun s i=>((l,s,i,()),()))
  (fun s=>.inl ((s,()),())) (fun _ _=>True) (by
   intro k hk s _
   refine⟨?_,trivial⟩
   simp only[Sw]
   rw[Aa (show(k:Int)<((ja l:Nat):Int) by omega),Ub hk,AF _ hn,hv]
   simp only[zg,jb]
   rw[Aa (XJ (hh _ (qi hk)).act)]
   cases l[k].2.1.1==3<;>rfl)
  (by
   intro s _
   simp only[Sw]
   rw[Ba (by omega)];rfl) (by omega) (Xd .i64 1 f) trivial).1
 unfold Nt Qq
 rw[Vc,Aa hf]
 simp only[zg,jb]
 erw[hl]
 rfl
theorem M7(a:Ia):QL a=some (KK a,()):=by
 unfold QL KK
 rw[TF]
 cases Df a<;>cases a.1==6<;>rfl
theorem O5{a:Nat}(ha:a<2^63)(x:La):Px (a:Int) x=true↔Xw x∧a.testBit x.1.toNat=false:=by
 constructor
 ·intro h
  obtain⟨h1,h2⟩:=Zau h
  refine⟨h1,?_⟩
  have hx:x.1=((x.1.toNat:Nat):Int):=(Int.toNat_of_nonneg h1.lo).symm
  have:=VO (a:=a) (k:=x.1.toNat) ha (by have:=h1.hi;omega)
  rw[←hx]at this
  rw[←this]
  simp[h2]
 ·rintro⟨h1,h2⟩
  have hx:x.1=((x.1.toNat:Nat):Int):=(Int.toNat_of_nonneg h1.lo).symm
  have:=VO (a:=a) (k:=x.1.toNat) ha (by have:=h1.hi;omega)
  rw[←hx,h2]at this
  simp only[Px,jd,decide_eq_true_eq,yl,beq_eq_false_iff_ne]
  exact⟨⟨h1.lo,h1.hi⟩,by rw[beq_eq_false_iff_ne]at this;exact this,h1.act,h1.n1,h1.n6,h1.n7⟩
theorem C0:∀(l:List La) (k a:Nat),a<2^63→(Lx (Va (fun _ s x=>Zy s x) k (a:Int) l)=true↔
 (∀x∈l,Xw x∧a.testBit x.1.toNat=false)∧l.Pairwise (fun x y=>x.1≠y.1))
 |[],k,a,ha=>by simp[Va,Lx]
 |y::l,k,a,ha=>by
  simp only[Va]
  cases hc:Px (a:Int) y with
  |false=>
   rw[show Zy (a:Int) y=.inr () by unfold Zy;rw[hc];rfl]
   simp only[Lx,jq,false_iff]
   rintro⟨h,_⟩
   have:=(O5 ha y).2 (h y (List.mem_cons_self ..))
   rw[hc]at this;cases this
  |true=>
   rw[show Zy (a:Int) y=.inl (Xd .i64 (a:Int) (Ke .i64 1 y.1)) by unfold Zy;rw[hc];rfl]
   simp only[]
   obtain⟨hy,hb⟩:=(O5 ha y).1 hc
   have h1:=hy.lo;have h2:=hy.hi
   have hyx:y.1=((y.1.toNat:Nat):Int):=(Int.toNat_of_nonneg h1).symm
   have e:Xd .i64 (a:Int) (Ke .i64 1 y.1)=((a|||2^y.1.toNat:Nat):Int):=by
    conv=>lhs;rw[hyx]
    rw[CB (by omega),Q7 ha (YI (by omega))]
   rw[e,C0 l (k+1) _ (Nat.or_lt_two_pow ha (YI (by omega)))]
   have tb:∀n,(a|||2^y.1.toNat).testBit n=false↔a.testBit n=false∧y.1.toNat≠n:=by
    intro n
    rw[Nat.testBit_or,Nat.testBit_two_pow,yt,decide_eq_false_iff_not]
   simp only[jp,List.pairwise_cons,forall_eq_or_imp]
   constructor
   ·rintro⟨h,hp⟩
    refine⟨⟨⟨hy,hb⟩,fun x hx=>⟨(h x hx).1,((tb _).1 (h x hx).2).1⟩⟩,fun x hx hxy=>?_,hp⟩
    exact((tb _).1 (h x hx).2).2 (by rw[hxy])
   ·rintro⟨⟨_,h⟩,hq,hp⟩
    refine⟨fun x hx=>⟨(h x hx).1,(tb _).2 ⟨(h x hx).2,fun hn=>hq x hx ?_⟩⟩,hp⟩
    have:=(h x hx).1.lo
    omega
theorem JP(l:List La):Oe l=true↔(∀x∈l,Xw x)∧l.Pairwise (fun x y=>x.1≠y.1):=by
 have:=C0 l 0 0 (by decide)
 unfold Oe Lac
 erw[this]
 simp
theorem Iat{l:List La}(h:Oe l=true){x:La}(hx:Xw x)(hn:∀y∈l,y.1≠x.1):Oe (jf l [x])=true:=by
 rw[JP]at h⊢
 obtain⟨h1,h2⟩:=h
 refine⟨fun y hy=>?_,?_⟩
 ·rcases jl.1 (show y∈l++[x]from hy)with hy|hy
  ·exact h1 y hy
  ·rw[qb.1 hy];exact hx
 ·show(l++[x]).Pairwise _
  rw[List.pairwise_append]
  exact⟨h2,List.pairwise_singleton _ _,fun y hy z hz=>by rw[qb.1 hz];exact hn y hy⟩
theorem U1{l r:List La}(h:Oe l=true)(hs:r.Sublist l):Oe r=true:=by
 rw[JP]at h⊢
 exact⟨fun y hy=>h.1 y (hs.subset hy),h.2.sublist hs⟩
theorem L2:∀(n:Nat) (l:List Nat),l.Nodup→(∀x∈l,x<n)→l.length≤n
 |0,l,_,h=>by
  cases l with
  |nil=>exact jo _
  |cons x l=>exact absurd (h x (List.mem_cons_self ..)) (Nat.not_lt_zero _)
 |n+1,l,hn,h=>by
  have:=L2 n (l.erase n) (hn.erase n) (fun x hx=>by
   have h1:=(hn.mem_erase_iff).1 hx
   have:=h x h1.2
   have:=h1.1
   omega)
  have h2:=List.length_erase (a:=n) (l:=l)
  split at h2<;>omega
theorem Xq{l:List La}(h:Oe l=true):l.length≤32:=by
 rw[JP]at h
 have hn:(l.map fun x=>x.1.toNat).Nodup:=by
  rw[List.Nodup,List.pairwise_map]
  refine(List.Pairwise.and_mem.1 h.2).imp ?_
  rintro x y ⟨hx,hy,hxy⟩ he
  have h1:=(h.1 x hx).lo;have h2:=(h.1 y hy).lo
  omega
 have hs:∀y∈(l.map fun x=>x.1.toNat),y<32:=by
  intro y hy
  obtain⟨x,hx,rfl⟩:=qk.1 hy
  have:=(h.1 x hx).hi;have:=(h.1 x hx).lo
  omega
 have:=L2 32 _ hn hs
 simpa using this
structure Jn(e:Gb):Prop where
 km:Tb e.1=true
 m4:e.2.1.length≤4
 hd:Oe e.2.2.2.1=true
 mac:∀x∈e.2.1,Dc x=true
 hin:∀x∈e.2.2.2.1,Sk e.1.1 e.1.2.1.length x=true
 st:Un e.1.2.1.length e.2.2.1 e.2.2.2.2.1
theorem A1{α:Type}{p:α→Bool}{l:List α}:Tf (fun _ x=>p x) 0 l=true↔∀x∈l,p x=true:=by
 rw[Rt]
 constructor
 ·intro h x hx
  obtain⟨i,hi,rfl⟩:=qj hx
  exact h i hi
 ·intro h j hj
  exact h _ (qi hj)
theorem AB(e:Gb):Pf e=true↔Jn e:=by
 unfold Pf
 simp only[jd,decide_eq_true_eq,beq_iff_eq,A1]
 constructor
 ·rintro⟨h1,h2,h3,h4,h5,h6,h7,h8⟩
  exact⟨h1,h2,h3,h4,h5,⟨h6.1,h6.2,h7,h8.1,h8.2⟩⟩
 ·rintro⟨h1,h2,h3,h4,h5,h6⟩
  exact⟨h1,h2,h3,h4,h5,⟨h6.f0,h6.f1⟩,h6.f2,h6.o0,h6.o1⟩
theorem GU{e:Gb}(h:Jn e):Hb Rb e≤Da-5:=by
 have h20:Da=1048576:=rfl
 have h1:=(JG h.km).z
 have hh:=Xq h.hd
 have h2:Hb (.sl (.sl Qd)) e.2.1≤(8+1)*e.2.1.length:=KO (e:=.sl Qd) (c:=8) fun x hx=>by
  have:=h.mac x hx
  simp only[Dc,jd,decide_eq_true_eq]at this
  have e2:Hb (.sl Qd) x=x.length:=Ms (e:=Qd) rfl x
  omega
 have:=h.m4
 have hm:=Pd h.km
 have h3:Hb Bb e.1≤200:=by
  have h1:Hb Bb e.1=0+(Hb (.sl (.sl Bc)) e.1.2.1+0):=rfl
  have h2:Hb (.sl (.sl Bc)) e.1.2.1≤(32+1)*ja e.1.2.1:=KO (e:=.sl Bc) (c:=32) fun x hx=>by
   obtain⟨i,hi,rfl⟩:=qj hx
   rw[KY]
   have:=hm.row i hi
   have:=hm.k2
   omega
  have:=hm.l2
  omega
 rw[Ol,Qt]
 omega
noncomputable def Q2(e:Gb)(k:Nat)(b:Bool):Ia:=
 cond b (KK (Hi e.1.2.1 (Eg e.1 (Ej e.2.2.1 e.2.2.2.1) k) k)) (NG (Hi e.1.2.1 (Eg e.1 (Ej e.2.2.1 e.2.2.2.1) k) k))
noncomputable def Qo(e:Gb)(k:Nat)(b:Bool):Int×Int×Bool×Ia:=Yz e.2.2.1 e.2.2.2.2.1 e.2.2.2.2.2.1 (Q2 e k b)
noncomputable def pH(e:Gb)(k:Nat)(b:Bool):List La:=jf e.2.2.2.1 [((k:Int),(Qo e k b).2.2.2,())]
noncomputable def pE(e:Gb)(k:Nat)(b:Bool):Gb:=(e.1,e.2.1,(Qo e k b).1,pH e k b,(Qo e k b).2.1,(Qo e k b).2.2.1,())
noncomputable def pM(e:Gb)(k:Nat)(b:Bool):List Ca:=
 cond ((Qo e k b).2.2.2.1==9) (cond (decide ((Qo e k b).2.2.2.2.2.2.1<((ja e.2.1:Nat):Int))) (SP (Kc (pH e k b)) (e.2.1.getD (Qo e k b).2.2.2.2.2.2.1.toNat [])) []) []
noncomputable def pR(e:Gb)(k:Nat)(b:Bool):List Ca:=Wy Lm (Kc e.2.2.2.1) (jf (pM e k b) [Kc (pH e k b)])
theorem Wax{nl i:Nat}{a:Ia}(h:Wk nl i a=true)(h1:a.1≠1):VR nl (KK a):=by
 have ha:=UD h
 have hP:=ha
 rw[Qb]at hP
 unfold Wc at hP
 unfold KK Df
 rw[ha]
 by_cases h67:a.1=6∨a.1=7
 ·have e:(true&&((a.1==6)||(a.1==7)))=true:=by rcases h67 with h|h<;>rw[h]<;>rfl
  rw[e]
  have hn:=KT h (by omega)
  rcases h67 with h6|h7
  ·rw[h6]
   refine⟨?_,by show(2:Int)≠1;decide,by show(2:Int)≠6;decide,by show(2:Int)≠7;decide,fun _=>?_⟩
   ·rw[Qb]
    exact .inr (.inl ⟨rfl,rfl,.inl rfl,.inr (by show 1≤a.2.2.1∧a.2.2.1≤15;omega),.inr (by show a.2.2.1≠0;omega)⟩)
   ·show(0:Int)<(nl:Int)
    omega
  ·rw[h7]
   refine⟨?_,by show(3:Int)≠1;decide,by show(3:Int)≠6;decide,by show(3:Int)≠7;decide,fun _=>hn⟩
   rw[Qb]
   exact .inr (.inr (.inl ⟨.inl rfl,rfl,rfl,by show 1≤a.2.2.2.1;omega,by show a.2.2.2.1≤3;omega⟩))
 ·have e:(true&&((a.1==6)||(a.1==7)))=false:=by
   rw[jk,yt,beq_eq_false_iff_ne,beq_eq_false_iff_ne];omega
  rw[e]
  exact⟨ha,h1,fun h=>h67 (.inl h),fun h=>h67 (.inr h),fun hk=>KT h hk⟩
structure Var(e:Gb)(k:Nat)(b:Bool):Prop where
 act:VR e.1.2.1.length (Q2 e k b)
 ah:VR e.1.2.1.length (Qo e k b).2.2.2
 hd:Oe (pH e k b)=true
 ok:Jn (pE e k b)
 ml:(pM e k b).length≤16
 mx:∀x∈pM e k b,x.2.1.length≤56
theorem JZ{e:Gb}(h:Jn e){k:Nat}(hk:(k:Int)<e.1.1)(hn:∀y∈e.2.2.2.1,y.1≠(k:Int))(b:Bool):Var e k b:=by
 have hm:=Pd h.km
 have h1:=T9 hm (Ej e.2.2.1 e.2.2.2.1) hk
 have h2:VR e.1.2.1.length (Q2 e k b):=by
  cases b
  ·exact Qam h1.1 h1.2
  ·exact Wax h1.1 h1.2
 have h3:=Sav (c:=e.2.2.2.2.2.1) hm.l2 h.st h2
 have h4:Oe (pH e k b)=true:=Iat h.hd (x:=((k:Int),(Qo e k b).2.2.2,())) ⟨by show(0:Int)≤(k:Int);omega,by have:=hm.k2;show(k:Int)≤31;omega,h3.2.act,h3.2.n1,h3.2.n6,h3.2.n7⟩ hn
 refine⟨h2,h3.2,h4,⟨h.km,h.m4,h4,h.mac,fun x hx=>?_,h3.1⟩,?_,?_⟩
 ·rcases jl.1 (show x∈e.2.2.2.1++[((k:Int),(Qo e k b).2.2.2,())]from hx)with hx|hx
  ·exact h.hin x hx
  ·simp only[jp,zf,or_false]at hx
   subst hx
   simp only[Sk,jd,yl,Bool.and_eq_false_iff,decide_eq_false_iff_not]
   refine⟨by show¬(k:Int)≥e.1.1;omega,?_⟩
   by_cases h9:(Qo e k b).2.2.2.1=9
   ·exact .inl (by show((Qo e k b).2.2.2.1 !=9)=false;simp[h9])
   ·exact .inr (Int.not_le.2 (h3.2.n h9))
 all_goals
  unfold pM
  cases(Qo e k b).2.2.2.1==9 with
  |false=>simp
  |true=>
   simp only[zg]
   by_cases hl:(Qo e k b).2.2.2.2.2.2.1<((ja e.2.1:Nat):Int)
   ·rw[Aa hl]
    have h0:=XJ h3.2.act
    have hmem:(e.2.1.getD (Qo e k b).2.2.2.2.2.2.1.toNat [])∈e.2.1:=by
     have hlt:(Qo e k b).2.2.2.2.2.2.1.toNat<e.2.1.length:=by
      have:(0:Int)≤(Qo e k b).2.2.2.2.2.2.1:=h0
      omega
     rw[qe,je hlt,qz]
     exact qi hlt
    have hmc:=h.mac _ hmem
    simp only[Dc,jd,decide_eq_true_eq]at hmc
    have:=Gaf (Kc (pH e k b)) (e.2.1.getD (Qo e k b).2.2.2.2.2.2.1.toNat []) 0 ([],[]) (by simp)
    simp only[zg]
    unfold SP
    first
     |exact this.2
     |(have h5:=this.1;simp only[j6]at h5;omega)
   ·rw[Ba hl];simp
theorem T5{β:Type}(MR:List La→List Ta→Option ((List Ca)×Unit))(RO:List La→Option (Ca×Unit))(CH:Ca→List Ca→Option ((List Ca)×Unit))(K:List Ca→Option β)
 (hMR:∀a l,a.length≤Da→Oe a=true→Dc l=true→MR a l=some (SP (Kc a) l,()))
 (hRO:∀l,l.length≤Da→Oe l=true→RO l=some (Kc l,()))
 (hCH:∀(a:Ca) (l:List Ca),l.length≤Da→a.2.1.length≤Da→(∀x∈l,x.2.1.length≤Da)→CH a l=some (Wy Lm a l,()))
 {e:Gb} (h:Jn e) {k:Nat} {b:Bool} (F:Var e k b):
 (cond (jx (ja e.2.2.2.1+ja ([((k:Int),(Qo e k b).2.2.2,())]:List La)) Sa)
  (cond ((Qo e k b).2.2.2.1==(9:Int))
   (cond (decide ((Qo e k b).2.2.2.2.2.2.1<((ja e.2.1:Nat):Int)))
    (jz (Wb e.2.1 (Qo e k b).2.2.2.2.2.2.1) fun x8=>jz (MR (pH e k b) x8) fun r9=>jz (RO (pH e k b)) fun r10=>
     cond (jx (ja r9.1+ja ([r10.1]:List Ca)) Sa) (jz (RO e.2.2.2.1) fun r11=>jz (CH r11.1 (jf r9.1 ([r10.1]:List Ca))) fun r12=>K r12.1) none)
    (jz (RO (pH e k b)) fun r13=>cond (jx (ja ([]:List Ca)+ja ([r13.1]:List Ca)) Sa)
     (jz (RO e.2.2.2.1) fun r14=>jz (CH r14.1 (jf ([]:List Ca) ([r13.1]:List Ca))) fun r15=>K r15.1) none))
   (jz (RO (pH e k b)) fun r16=>cond (jx (ja ([]:List Ca)+ja ([r16.1]:List Ca)) Sa)
    (jz (RO e.2.2.2.1) fun r17=>jz (CH r17.1 (jf ([]:List Ca) ([r16.1]:List Ca))) fun r18=>K r18.1) none))
  none)=K (pR e k b):=by
 have h20:Da=1048576:=rfl
 have hlim:=Zf
 have hl1:=Xq h.hd
 have hl2:=Xq F.hd
 have R1:=hRO (pH e k b) (by omega) F.hd
 have R0:=hRO e.2.2.2.1 (by omega) h.hd
 have hr:∀r:Ca,jx (ja ([]:List Ca)+ja ([r]:List Ca)) Sa=true:=fun r=>ji (by simp only[jw,j6];omega)
 rw[show jx (ja e.2.2.2.1+ja ([((k:Int),(Qo e k b).2.2.2,())]:List La)) Sa=true from ji (by simp only[jw,j6];omega)]
 have plain:pM e k b=[]→(jz (RO (pH e k b)) fun r13=>cond (jx (ja ([]:List Ca)+ja ([r13.1]:List Ca)) Sa)
  (jz (RO e.2.2.2.1) fun r14=>jz (CH r14.1 (jf ([]:List Ca) ([r13.1]:List Ca))) fun r15=>K r15.1) none)=K (pR e k b):=by
  intro hm
  rw[R1,R0]
  simp only[jb]
  rw[hr,hCH _ _ (by simp;omega) (HR _) (fun x hx=>by rw[qb.1 (show x∈[Kc (pH e k b)]from hx)];exact HR _)]
  simp only[zg,jb]
  unfold pR
  rw[hm]
 simp only[zg]
 cases h9:(Qo e k b).2.2.2.1==(9:Int)with
 |false=>exact plain (by unfold pM;rw[h9];rfl)
 |true=>
  simp only[zg]
  by_cases hl:(Qo e k b).2.2.2.2.2.2.1<((ja e.2.1:Nat):Int)
  ·rw[Aa hl]
   simp only[zg]
   have h0:(0:Int)≤(Qo e k b).2.2.2.2.2.2.1:=XJ F.ah.act
   have hlt:(Qo e k b).2.2.2.2.2.2.1.toNat<e.2.1.length:=by omega
   have hi:Wb e.2.1 (Qo e k b).2.2.2.2.2.2.1=some e.2.1[(Qo e k b).2.2.2.2.2.2.1.toNat]:=by
    have:=Ub (xs:=e.2.1) hlt
    rw[Int.toNat_of_nonneg h0]at this
    exact this
   have hM:pM e k b=SP (Kc (pH e k b)) e.2.1[(Qo e k b).2.2.2.2.2.2.1.toNat]:=by
    unfold pM
    rw[h9,Aa hl,qe,je hlt,qz]
    rfl
   have ml:=F.ml
   have mx:=F.mx
   rw[hi]
   simp only[jb]
   rw[hMR _ _ (by omega) F.hd (h.mac _ (qi hlt)),R1,R0,←hM]
   simp only[jb]
   rw[show jx (ja (pM e k b)+ja ([Kc (pH e k b)]:List Ca)) Sa=true from ji (by simp only[jw,j6];omega)]
   simp only[zg]
   rw[hCH _ _ (by show(pM e k b++[Kc (pH e k b)]).length≤_;simp;omega) (HR _) (fun x hx=>by
    rcases jl.1 (show x∈pM e k b++[Kc (pH e k b)]from hx)with hx|hx
    ·have:=mx x hx;omega
    ·rw[qb.1 hx];exact HR _)]
   rfl
  ·rw[Ba hl]
   exact plain (by unfold pM;rw[h9,Ba hl];rfl)
theorem P7{e:Gb}(h:Jn e){k:Nat}(hk:(k:Int)<e.1.1)(hn:∀y∈e.2.2.2.1,y.1≠(k:Int))(b:Bool):
 Dj e (k:Int) b=some (pE e k b,pR e k b,()):=by
 have h20:Da=1048576:=rfl
 have hm:=Pd h.km
 have F:=JZ h hk hn b
 have hz:=GU h
 have hle:=Xq h.hd
 have hl:=RD hm (Ej e.2.2.1 e.2.2.2.1) k
 have hrow:=hm.row _ hl
 have tail:=T5 Wl Wd Gf (fun r=>some (pE e k b,r,())) LU Wr SQ h F
 unfold Dj
 rw[Eu _ (by omega),LK (Yap hm.l2 h.st) _ (by omega) h.hd]
 simp only[jb]
 rw[SI hm _ hk]
 simp only[jb]
 show jz (Wb e.1.2.1 ((Eg e.1 (Ej e.2.2.1 e.2.2.2.1) k:Nat):Int)) _=_
 rw[H7 hl (by omega)]
 cases b with
 |true=>
  simp only[zg]
  rw[M7]
  simp only[jb]
  show jz (Rv (e.1,e.2.1,e.2.2.1,e.2.2.2.1,e.2.2.2.2.1,e.2.2.2.2.2.1,()) (Q2 e k true)) _=_
  rw[FT _ _ _ _ _ _ _ F.act.act]
  simp only[jb]
  exact tail
 |false=>
  simp only[zh]
  rw[Saa]
  simp only[jb]
  show jz (Rv (e.1,e.2.1,e.2.2.1,e.2.2.2.1,e.2.2.2.2.1,e.2.2.2.2.2.1,()) (Q2 e k false)) _=_
  rw[FT _ _ _ _ _ _ _ F.act.act]
  simp only[jb]
  exact tail
theorem P4{l:List La}{k:Int}:Jd (fun h:La=>h.1==k) 0 l=-1↔∀y∈l,y.1≠k:=by
 have key:∀(l:List La) (n:Nat),Jd (fun h:La=>h.1==k) n l=-1↔∀y∈l,y.1≠k:=by
  intro l
  induction l with
  |nil=>intro n;simp[Jd]
  |cons x l ih=>
   intro n
   simp only[Jd]
   cases hx:x.1==k with
   |true=>
    simp only[zg,jp,forall_eq_or_imp]
    have hx:=eq_of_beq hx
    constructor
    ·intro h;omega
    ·intro h;exact absurd hx h.1
   |false=>
    simp only[zh,jp,forall_eq_or_imp]
    rw[ih]
    exact⟨fun h=>⟨beq_eq_false_iff_ne.1 hx,h⟩,fun h=>h.2⟩
 exact key l 0
theorem Q8{e:Gb}(h:Jn e){k:Nat}(hk:(k:Int)<e.1.1)(hn:∀y∈e.2.2.2.1,y.1≠(k:Int))(b:Bool):
 Rn e (k:Int) b=some (pE e k b,pR e k b,true,()):=by
 have h20:Da=1048576:=rfl
 have hm:=Pd h.km
 have hk2:=hm.k2
 have F:=JZ h hk hn b
 have hz:=GU h
 have hle:=Xq h.hd
 have hv:=(AB e).2 h
 have tail:=T5 Xl Ce Lh (fun r=>some (pE e k b,r,true,())) FV Ks LR h F
 unfold Rn
 rw[Cs _ (by omega),hv,QT _ _ (by omega),P4.2 hn,Gn _ (by omega),UK (Yap hm.l2 h.st) _ (by omega) h.hd]
 simp only[jb,jg,zh,Vc]
 rw[Af (by omega) (by omega),Aa (show 0≤(k:Int)∧(k:Int)≤e.1.1-1 by omega),Ba (show¬((-1:Int)≥0) by decide)]
 simp only[jg,zh]
 rw[UH (by have:=(JG h.km).z;omega) h.km _ hk]
 simp only[jb]
 cases b with
 |true=>
  simp only[zg]
  rw[L8]
  simp only[jb]
  show jz (Kp (e.1,e.2.1,e.2.2.1,e.2.2.2.1,e.2.2.2.2.1,e.2.2.2.2.2.1,()) (Q2 e k true)) _=_
  rw[RT _ _ _ _ _ _ _ F.act.act]
  simp only[jb]
  exact tail
 |false=>
  simp only[zh]
  rw[Eab]
  simp only[jb]
  show jz (Kp (e.1,e.2.1,e.2.2.1,e.2.2.2.1,e.2.2.2.2.1,e.2.2.2.2.2.1,()) (Q2 e k false)) _=_
  rw[RT _ _ _ _ _ _ _ F.act.act]
  simp only[jb]
  exact tail
def wo(l:List La)(i:Nat):List La:=jf (l.take i) (l.drop (i+1))
theorem I6(l:List La)(i:Nat):(wo l i).Sublist l:=by
 have h:(l.drop (i+1)).Sublist (l.drop i):=List.drop_sublist_drop_left l (Nat.le_succ i)
 have h2:=List.Sublist.append (List.Sublist.refl (l.take i)) h
 rw[List.take_append_drop]at h2
 exact h2
def rE(e:Gb)(i:Nat):Gb:=(e.1,e.2.1,e.2.2.1,wo e.2.2.2.1 i,e.2.2.2.2)
def rR(e:Gb)(i:Nat):List Ca:=Wy Lm (Kc e.2.2.2.1) [Kc (wo e.2.2.2.1 i)]
theorem QaD{e:Gb}(h:Jn e)(i:Nat):Jn (rE e i):=
 ⟨h.km,h.m4,U1 h.hd (I6 _ i),h.mac,fun x hx=>h.hin x ((I6 _ i).subset hx),h.st⟩
theorem Vas{α:Type}(l:List α)(i:Nat):Ya l (jy (0:Int)) (jy (i:Int))=l.take i:=by
 simp[Ya]
theorem Uas{α:Type}(l:List α)(i:Nat):Ya l (jy ((i+1:Nat):Int)) (jy ((ja l:Nat):Int))=l.drop (i+1):=by
 simp[Ya]
theorem D2{e:Gb}(h:Jn e){k:Int}{i:Nat}(hi:i<e.2.2.2.1.length)(hf:Jd (fun h:La=>h.1==k) 0 e.2.2.2.1=(i:Int)):
 QD e k=some (rE e i,rR e i,()):=by
 have h20:Da=1048576:=rfl
 have hlim:=Zf
 have hz:=GU h
 have hle:=Xq h.hd
 have hw:=U1 h.hd (I6 e.2.2.2.1 i)
 have hwl:=Xq hw
 unfold QD
 rw[Eu _ (by omega),L7 _ _ (by omega),hf]
 simp only[jb]
 rw[Ee (by omega)]
 rw[Vas,Uas]
 rw[show Bd (ja e.2.2.2.1) (0:Int) ((i:Nat):Int)=true from Sg (lo:=0) (by omega) (by omega),Sg (by omega) (by omega)]
 rw[show jx (ja (e.2.2.2.1.take i)+ja (e.2.2.2.1.drop (i+1))) Sa=true from ji (by simp;omega)]
 simp only[zg]
 rw[Wr _ (by omega) h.hd]
 simp only[jb]
 show jz (Wd (wo e.2.2.2.1 i)) _=_
 rw[Wr _ (by omega) hw]
 simp only[jb]
 rw[SQ _ _ (by simp;omega) (HR _) (fun x hx=>by rw[qb.1 hx];exact HR _)]
 rfl
theorem D3{e:Gb}(h:Jn e){k:Int}{i:Nat}(hi:i<e.2.2.2.1.length)(hf:Jd (fun h:La=>h.1==k) 0 e.2.2.2.1=(i:Int)):
 FE e k=some (rE e i,rR e i,true,()):=by
 have h20:Da=1048576:=rfl
 have hlim:=Zf
 have hz:=GU h
 have hle:=Xq h.hd
 have hw:=U1 h.hd (I6 e.2.2.2.1 i)
 have hwl:=Xq hw
 have hv:=(AB e).2 h
 have hW:Qg e.2.2.2.1 (i:Int)=some (wo e.2.2.2.1 i,()):=by
  unfold Qg
  rw[Ee (by omega),Vas,Uas]
  rw[show Bd (ja e.2.2.2.1) (0:Int) ((i:Nat):Int)=true from Sg (lo:=0) (by omega) (by omega),Sg (by omega) (by omega)]
  rw[show jx (ja ([]:List La)+ja (e.2.2.2.1.take i)) Sa=true from ji (by simp;omega)]
  rw[show jx (ja (jf ([]:List La) (e.2.2.2.1.take i))+ja (e.2.2.2.1.drop (i+1))) Sa=true from ji (by simp;omega)]
  rfl
 unfold FE
 rw[QT _ _ (by omega),Cs _ (by omega),hv,Gn _ (by omega),hf]
 simp only[jb,jg,zh]
 rw[Ba (show¬((i:Int)<0) by omega),hW]
 simp only[zh,jb]
 rw[Ks _ (by omega) h.hd]
 simp only[jb]
 rw[Ks _ (by omega) hw]
 simp only[jb]
 rw[LR _ _ (by simp;omega) (HR _) (fun x hx=>by rw[qb.1 hx];exact HR _)]
 rfl
def OV(md key e:Int)(s:Int)(x:Xa):Int⊕(Int×Int):=
 cond (Hj x) (cond (decide (x.1≥e)) (.inr (2,e)) (cond (x.2.1==key) (cond x.2.2.1 (.inl s) (.inr (1,x.1)))
  (cond x.2.2.1 (cond (md==1) (.inr (2,x.1)) (.inl (Xd .i64 s (Ke .i64 1 x.2.1))))
   (cond (md==2) (cond (Jm s x.2.1==1) (.inr (2,x.1)) (.inl s)) (.inl s))))) (.inr (0,0))
def chR(md key e:Int)(l:List Xa):Int⊕(Int×Int):=Va (fun _ s x=>OV md key e s x) 0 0 l
def Ih(t:AI)(key at_:Int)(l:List Xa)(til:Int):Lc:=
 cond (Mj t&&decide (0≤at_∧at_≤1000000)) (match chR t.2.2.1 key (j4 .i64 (at_+t.1)) l with
  |.inl _=>cond (decide (til≥j4 .i64 (at_+t.1))) (2,j4 .i64 (at_+t.1),()) (0,0,())
  |.inr r=>(r.1,r.2,())) (0,0,())
theorem Z1(t:AI)(key at_:Int)(l:List Xa)(til:Int)(hn:l.length≤Da):MA t key at_ l til=some (Ih t key at_ l til):=by
 have h20:Da=1048576:=rfl
 have hl:=Kg (step:=fun x=>Dw x.1.1 x.1.2.1 x.1.2.2.1 x.1.2.2.2.1 x.1.2.2.2.2.1 x.1.2.2.2.2.2.1 x.1.2.2.2.2.2.2.1 x.1.2.2.2.2.2.2.2.1 x.2.1) l
  (fun _ s x=>OV t.2.2.1 key (j4 .i64 (at_+t.1)) s x) (fun s i=>((key,at_,til,(),s,l,((ja l:Nat):Int),i,()),(t,())))
  (fun s=>.inl ((at_,til,(),()),(t,()))) (fun r=>.inr ((r.1,r.2,()),())) (fun _ _=>True) (by
   intro k hk s _
   refine⟨?_,fun _ _=>trivial⟩
   simp only[Dw]
   rw[Aa (show(k:Int)<((ja l:Nat):Int) by omega),Ub hk]
   simp only[zg,jb]
   rw[UQ]
   unfold OV
   cases he:Hj l[k]with
   |false=>rfl
   |true=>
    have hk':=Zn he
    rw[Aa hk'.2.2.1,RL s hk'.2.2.1]
    simp only[zg,jb,jg,zh]
    cases decide (l[k].1≥j4 .i64 (at_+t.1))<;>cases l[k].2.1==key<;>cases l[k].2.2.1<;>cases t.2.2.1==1<;>cases t.2.2.1==2<;>cases Jm s l[k].2.1==1<;>rfl) (by
   intro s _
   simp only[Dw]
   rw[Ba (by omega)];rfl) (by omega) 0 trivial
 unfold MA Az Ih
 rw[RN]
 simp only[jb]
 cases Mj t with
 |false=>rfl
 |true=>
  by_cases h1:at_<0
  ·rw[Aa h1,Ba (show¬(0≤at_∧at_≤1000000) by omega)];rfl
  ·by_cases h2:at_>1000000
   ·rw[Ba h1,Aa h2,Ba (show¬(0≤at_∧at_≤1000000) by omega)];rfl
   ·rw[Ba h1,Ba h2,Aa (show(0≤at_∧at_≤1000000) by omega)]
    simp only[jg,zh]
    erw[hl]
    unfold chR
    cases Va (fun _ s x=>OV t.2.2.1 key (j4 .i64 (at_+t.1)) s x) 0 0 l with
    |inl s=>
     simp only[jb,qf]
     cases decide (til≥j4 .i64 (at_+t.1))<;>rfl
    |inr r=>rfl
theorem Z2(t:AI)(key at_:Int)(l:List Xa)(til:Int)(hn:l.length≤Da):EH t key at_ l til=some (Ih t key at_ l til):=by
 have h20:Da=1048576:=rfl
 have hl:=Kg (step:=fun x=>Mw x.1.1 x.1.2.1 x.1.2.2.1 x.1.2.2.2.1 x.1.2.2.2.2.1 x.1.2.2.2.2.2.1 x.1.2.2.2.2.2.2.1 x.2.1) l
  (fun _ s x=>OV t.2.2.1 key (j4 .i64 (at_+t.1)) s x) (fun s i=>((key,l,til,(),j4 .i64 (at_+t.1),s,i,()),(t,())))
  (fun s=>.inl ((til,j4 .i64 (at_+t.1),()),())) (fun r=>.inr ((r.1,r.2,()),())) (fun _ _=>True) (by
   intro k hk s _
   refine⟨?_,fun _ _=>trivial⟩
   simp only[Mw]
   rw[Aa (show(k:Int)<((ja l:Nat):Int) by omega),Ub hk]
   simp only[zg,jb]
   rw[NR]
   unfold OV
   cases he:Hj l[k]with
   |false=>rfl
   |true=>
    have hk':=Zn he
    rw[Aa hk'.2.2.1]
    simp only[zg,jb,jg,zh]
    unfold Jm
    cases decide (l[k].1≥j4 .i64 (at_+t.1))<;>cases l[k].2.1==key<;>cases l[k].2.2.1<;>cases t.2.2.1==1<;>cases t.2.2.1==2<;>cases Fh .i64 (Mx .i64 s l[k].2.1) 1==1<;>rfl) (by
   intro s _
   simp only[Mw]
   rw[Ba (by omega)];rfl) (by omega) 0 trivial
 unfold EH Zz Ih
 rw[UN,Vc]
 simp only[jb]
 cases Mj t with
 |false=>rfl
 |true=>
  cases decide (0≤at_∧at_≤1000000)with
  |false=>rfl
  |true=>
   simp only[jg,zh]
   erw[hl]
   unfold chR
   cases Va (fun _ s x=>OV t.2.2.1 key (j4 .i64 (at_+t.1)) s x) 0 0 l with
   |inl s=>
    simp only[jb,qf]
    cases decide (til≥j4 .i64 (at_+t.1))<;>rfl
   |inr r=>rfl
def ID(l:List La)(j:Nat):Bool:=l.any (fun h=>h.1==(j:Int))
structure CD(l:List La)(m:Nat):Prop where
 lt:m<2^63
 bit:∀j,m.testBit j=ID l j
theorem Ual:∀(l:List La) (k:Nat) (s:Nat),s<2^63→(∀x∈l,Xw x)→
 ∃m:Nat,Oc (fun _ s (x:La)=>Xd .i64 s (Ke .i64 1 x.1)) k (s:Int) l=(m:Int)∧m<2^63∧∀j,m.testBit j=(s.testBit j||ID l j)
 |[],_,s,hs,_=>⟨s,rfl,hs,fun j=>by simp[ID]⟩
 |x::l,k,s,hs,h=>by
  have hx:=h x (by simp)
  obtain⟨n,hn⟩:=jv hx.lo
  have:=hx.hi
  simp only[Oc]
  rw[hn,CB (by omega),Q7 hs (YI (by omega))]
  obtain⟨m,h1,h2,h3⟩:=Ual l (k+1) _ (Nat.or_lt_two_pow hs (YI (show n≤62 by omega))) (fun y hy=>h y (by simp[hy]))
  refine⟨m,h1,h2,fun j=>?_⟩
  rw[h3,Nat.testBit_or,Nat.testBit_two_pow]
  simp only[ID,List.any_cons,hn]
  rw[show(((n:Nat):Int)==((j:Nat):Int))=decide (n=j) by rw[qm];simp[Int.ofNat_inj]]
  rw[Bool.or_assoc]
theorem U7{l:List La}(h:Oe l=true):∃m:Nat,Sz l=(m:Int)∧CD l m:=by
 obtain⟨m,h1,h2,h3⟩:=Ual l 0 0 (by decide) (Lu h)
 exact⟨m,h1,h2,fun j=>by rw[h3];simp⟩
theorem I5{l:List La}{m k:Nat}(h:CD l m)(hk:k≤62)(hb:ID l k=false)(a:Ia):CD (jf l [((k:Int),a,())]) (m^^^2^k):=by
 refine⟨Nat.xor_lt_two_pow h.lt (YI hk),fun j=>?_⟩
 rw[Nat.testBit_xor,Nat.testBit_two_pow,h.bit]
 show _=ID (l++[((k:Int),a,())]) j
 simp only[ID,List.any_append,List.any_cons,List.any_nil,Bool.or_false]
 rw[show(((k:Nat):Int)==((j:Nat):Int))=decide (k=j) by rw[qm];simp[Int.ofNat_inj]]
 by_cases hj:k=j
 ·subst hj
  simp only[ID]at hb
  rw[hb,Aa rfl];rfl
 ·rw[Ba hj];simp
theorem EaM{l:List La}(hp:l.Pairwise (fun x y=>x.1≠y.1)){i:Nat}(hi:i<l.length)(j:Int):(wo l i).any (fun h=>h.1==j)=(l.any (fun h=>h.1==j)&&!(l[i].1==j)):=by
 rw[qm]
 simp only[qy,jd,yl,beq_iff_eq,beq_eq_false_iff_ne,wo]
 rw[List.pairwise_iff_getElem]at hp
 constructor
 ·rintro⟨x,hx,hj⟩
  rcases jl.1 (show x∈l.take i++l.drop (i+1)from hx)with hx|hx
  ·obtain⟨n,hn,rfl⟩:=qj hx
   rw[List.getElem_take]at hj
   have hn2:n<i∧n<l.length:=by rw[List.length_take]at hn;omega
   exact⟨⟨_,qi hn2.2,hj⟩,fun h=>hp n i hn2.2 hi hn2.1 (hj.trans h.symm)⟩
  ·obtain⟨n,hn,rfl⟩:=qj hx
   rw[List.getElem_drop]at hj
   have hn2:i+1+n<l.length:=by rw[ql]at hn;omega
   exact⟨⟨_,qi hn2,hj⟩,fun h=>hp i (i+1+n) hi hn2 (by omega) (h.trans hj.symm)⟩
 ·rintro⟨⟨x,hx,hj⟩,hne⟩
  obtain⟨n,hn,rfl⟩:=qj hx
  refine⟨l[n],jl.2 ?_,hj⟩
  rcases Nat.lt_trichotomy n i with h|h|h
  ·exact .inl (List.mem_take_iff_getElem.2 ⟨n,by omega,rfl⟩)
  ·subst h;exact absurd hj hne
  ·exact .inr (List.mem_drop_iff_getElem.2 ⟨n-(i+1),by omega,by congr 1;omega⟩)
theorem KX{l:List La}(hp:l.Pairwise (fun x y=>x.1≠y.1)){m k i:Nat}(h:CD l m)(hk:k≤62)(hi:i<l.length)(hb:l[i].1=(k:Int)):CD (wo l i) (m^^^2^k):=by
 refine⟨Nat.xor_lt_two_pow h.lt (YI hk),fun j=>?_⟩
 rw[Nat.testBit_xor,Nat.testBit_two_pow,h.bit]
 simp only[ID]
 rw[EaM hp hi,hb]
 rw[show(((k:Nat):Int)==((j:Nat):Int))=decide (k=j) by rw[qm];simp[Int.ofNat_inj]]
 by_cases hj:k=j
 ·subst hj
  rw[Aa rfl]
  have:l.any (fun h=>h.1==(k:Int))=true:=qy.2 ⟨l[i],qi hi,by rw[hb];simp⟩
  rw[this];rfl
 ·rw[Ba hj];simp
theorem FS{α S R:Type}(g:S→α→S⊕R):∀(l:List α) (k j:Nat) (s:S),Va (fun _ s x=>g s x) k s l=Va (fun _ s x=>g s x) j s l
 |[],_,_,_=>rfl
 |x::l,k,j,s=>by
  simp only[Va]
  cases g s x with
  |inl s'=>exact FS g l (k+1) (j+1) s'
  |inr r=>rfl
structure BN(d:Cb):Prop where
 eng:Jn d.1
 len:d.2.2.1.length≤64
 key:∀x∈d.2.2.1,x.2.1<d.1.1.1
 fol:∃(m:Nat) (t:Int),CD d.1.2.2.2.1 m∧Lx (Va (fun _ s x=>GD s x) 0 (t,(m:Int)) d.2.2.1)=true
def R9(e:Gb)(k:Int):Nat:=(Jd (fun h:La=>h.1==k) 0 e.2.2.2.1).toNat
noncomputable def Ak(d:Cb)(x:Xa)(r:List Xa):Option (Cb×List Ca):=
 cond (!x.2.2.1)
  (some ((rE d.1 (R9 d.1 x.2.1),d.2.1,r,d.2.2.2.1,max d.2.2.2.2.1 x.1,d.2.2.2.2.2.1,cond (d.2.2.2.2.2.1==j4 .i64 (x.2.1+1)) x.1 d.2.2.2.2.2.2.1,()),rR d.1 (R9 d.1 x.2.1)))
  (cond (Df (Hi d.1.1.2.1 (Eg d.1.1 (Ej d.1.2.2.1 d.1.2.2.2.1) x.2.1.toNat) x.2.1.toNat))
   (
    let ch:Int×Int:=cond ((d.2.2.2.2.2.1==j4 .i64 (x.2.1+1))&&!decide (j4 .i64 (x.1-d.2.2.2.2.2.2.1)≥d.2.1.2.1)) (1,x.1) ((Ih d.2.1 x.2.1 x.1 r d.2.2.2.1).1,(Ih d.2.1 x.2.1 x.1 r d.2.2.2.1).2.1)
    cond (ch.1==0) none
     (some ((pE d.1 x.2.1.toNat (ch.1==2),d.2.1,r,d.2.2.2.1,max (max d.2.2.2.2.1 x.1) ch.2,cond (ch.1==2) 0 (j4 .i64 (x.2.1+1)),cond (ch.1==2) d.2.2.2.2.2.2.1 x.1,()),pR d.1 x.2.1.toNat (ch.1==2))))
   (some ((pE d.1 x.2.1.toNat false,d.2.1,r,d.2.2.2.1,max d.2.2.2.2.1 x.1,d.2.2.2.2.2.1,d.2.2.2.2.2.2.1,()),pR d.1 x.2.1.toNat false)))
structure UaD(d:Cb)(x:Xa)(r:List Xa):Prop where
 ev:Hj x=true
 key:x.2.1<d.1.1.1
 up:x.2.2.1=false→∃hi:R9 d.1 x.2.1<d.1.2.2.2.1.length,Jd (fun h:La=>h.1==x.2.1) 0 d.1.2.2.2.1=((R9 d.1 x.2.1:Nat):Int)∧(d.1.2.2.2.1[R9 d.1 x.2.1]'hi).1=x.2.1
 down:x.2.2.1=true→∀y∈d.1.2.2.2.1,y.1≠x.2.1
theorem O9{α:Type}(p:α→Bool):∀(xs:List α) (k j:Nat),j<xs.length→Jd p k xs=((k+j:Nat):Int)→∃h:j<xs.length,p xs[j]=true
 |[],_,_,hj,_=>absurd hj (by simp)
 |x::xs,k,j,hj,h=>by
  simp only[Jd]at h
  cases hx:p x with
  |true=>
   rw[hx]at h
   simp only[zg]at h
   have:j=0:=by omega
   subst this
   exact⟨hj,hx⟩
  |false=>
   rw[hx]at h
   simp only[zh]at h
   cases j with
   |zero=>
    rcases Ky p xs (k+1)with h1|⟨i,_,h1⟩<;>(rw[h1]at h;omega)
   |succ j=>
    have hj':j<xs.length:=by simp at hj;omega
    obtain⟨_,h2⟩:=O9 p xs (k+1) j hj' (by rw[h];omega)
    exact⟨hj,h2⟩
theorem HK{d:Cb}{x:Xa}{r:List Xa}(h:BN d)(hq:d.2.2.1=x::r):UaD d x r:=by
 obtain⟨m,t,hm,hf⟩:=h.fol
 rw[hq]at hf
 simp only[Va,GD]at hf
 cases ho:St (t,(m:Int)) x with
 |false=>rw[ho]at hf;exact absurd hf (by simp[Lx])
 |true=>
  simp only[St,jd]at ho
  obtain⟨h1,h2,h3⟩:=ho
  have hk:=Zn h1
  obtain⟨n,hn⟩:=jv hk.2.2.1
  have hn':x.2.1=(n:Int):=hn
  rw[hn',VO hm.lt (by omega),hm.bit]at h3
  refine⟨h1,h.key x (by rw[hq];simp),fun hu=>?_,fun hd=>?_⟩
  ·rw[hu]at h3
   have h4:ID d.1.2.2.2.1 n=true:=by
    cases hh:ID d.1.2.2.2.1 n with
    |true=>rfl
    |false=>rw[hh]at h3;exact absurd h3 (by decide)
   rcases Ky (fun h:La=>h.1==x.2.1) d.1.2.2.2.1 0 with h5|⟨j,hj,h5⟩
   ·rw[P4]at h5
    simp only[ID,qy,beq_iff_eq]at h4
    obtain⟨y,hy,hyk⟩:=h4
    exact absurd (hyk.trans hn'.symm) (h5 y hy)
   ·have e:R9 d.1 x.2.1=j:=by unfold R9;rw[h5];omega
    obtain⟨h6,h7⟩:=O9 _ _ _ _ hj h5
    have h7':=eq_of_beq h7
    refine⟨by omega,by rw[h5,e];omega,?_⟩
    simp only[e]
    exact h7'
  ·rw[hd]at h3
   intro y hy he
   have:ID d.1.2.2.2.1 n=true:=qy.2 ⟨y,hy,by rw[he,hn'];simp⟩
   rw[this]at h3
   exact absurd h3 (by decide)
theorem D8{d d':Cb}{x:Xa}{r:List Xa}{l:List Ca}(h:BN d)(hq:d.2.2.1=x::r)(hs:Ak d x r=some (d',l)):
 BN d'∧d'.2.2.1=r∧l.length≤17∧(∀y∈l,y.2.1.length≤56):=by
 have hF:=HK h hq
 have hk:=Zn hF.ev
 obtain⟨n,hn⟩:=jv hk.2.2.1
 have hn':x.2.1=(n:Int):=hn
 obtain⟨m,t,hm,hf⟩:=h.fol
 have hfol:Lx (Va (fun _ s x=>GD s x) 0 (x.1,((m^^^2^n:Nat):Int)) r)=true:=by
  rw[hq]at hf
  simp only[Va,GD]at hf
  cases ho:St (t,(m:Int)) x with
  |false=>rw[ho]at hf;exact absurd hf (by simp[Lx])
  |true=>
   rw[ho]at hf
   simp only[zg,hn',CB (show n≤62 by omega)]at hf
   rw[H2 hm.lt (YI (by omega))]at hf
   rw[FS GD r 0 1]
   exact hf
 have hlen:r.length≤64:=by have:=h.len;rw[hq]at this;simp at this;omega
 have hkey:∀y∈r,y.2.1<d.1.1.1:=fun y hy=>h.key y (by rw[hq];simp[hy])
 have hp:=((JP d.1.2.2.2.1).1 h.eng.hd).2
 have press:∀b:Bool,x.2.2.1=true→Jn (pE d.1 n b)∧CD (pE d.1 n b).2.2.2.1 (m^^^2^n)∧(pR d.1 n b).length≤17∧(∀y∈pR d.1 n b,y.2.1.length≤56):=by
  intro b hd
  have hn2:=hF.down hd
  rw[hn']at hn2
  have F:=JZ h.eng (k:=n) (by have:=hF.key;omega) hn2 b
  refine⟨F.ok,I5 hm (by omega) ?_ _,?_,fun y hy=>?_⟩
  ·cases hh:ID d.1.2.2.2.1 n with
   |false=>rfl
   |true=>
    simp only[ID,qy,beq_iff_eq]at hh
    obtain⟨y,hy,hyk⟩:=hh
    exact absurd hyk (hn2 y hy)
  ·have:=CP (jf (pM d.1 n b) [Kc (pH d.1 n b)]) (Kc d.1.2.2.2.1)
   have h9:=F.ml
   unfold pR
   have:(jf (pM d.1 n b) [Kc (pH d.1 n b)]).length=(pM d.1 n b).length+1:=by simp
   omega
  ·have:=DK _ _ _ hy
   rcases jl.1 (show y∈pM d.1 n b++[Kc (pH d.1 n b)]from this)with h1|h1
   ·exact F.mx y h1
   ·rw[qb.1 h1];exact ZI _
 unfold Ak at hs
 cases hd:x.2.2.1 with
 |false=>
  rw[hd]at hs
  simp only[j7,zg,jc,jh]at hs
  obtain⟨rfl,rfl⟩:=hs
  obtain⟨hi,hi1,hi2⟩:=hF.up hd
  refine⟨⟨QaD h.eng _,hlen,hkey,_,_,KX hp hm (by omega) hi (by rw[hi2,hn']),hfol⟩,rfl,?_,fun y hy=>?_⟩
  ·have:=CP [Kc (wo d.1.2.2.2.1 (R9 d.1 x.2.1))] (Kc d.1.2.2.2.1)
   unfold rR
   simp only[jw,j6]at this
   omega
  ·have:=DK _ _ _ hy
   rw[qb.1 this];exact ZI _
 |true=>
  rw[hd]at hs
  simp only[jg,zh,hn',jn]at hs
  cases ht:Df (Hi d.1.1.2.1 (Eg d.1.1 (Ej d.1.2.2.1 d.1.2.2.2.1) n) n)with
  |false=>
   rw[ht]at hs
   simp only[zh,jc,jh]at hs
   obtain⟨rfl,rfl⟩:=hs
   have P:=press false hd
   exact⟨⟨P.1,hlen,hkey,_,_,P.2.1,hfol⟩,rfl,P.2.2⟩
  |true=>
   rw[ht]at hs
   simp only[zg]at hs
   revert hs
   generalize(cond ((d.2.2.2.2.2.1==j4 .i64 ((n:Int)+1))&&!decide (j4 .i64 (x.1-d.2.2.2.2.2.2.1)≥d.2.1.2.1)) ((1:Int),x.1) ((Ih d.2.1 (n:Int) x.1 r d.2.2.2.1).1,(Ih d.2.1 (n:Int) x.1 r d.2.2.2.1).2.1))=ch
   intro hs
   cases h0:ch.1==0 with
   |true=>rw[h0]at hs;simp at hs
   |false=>
    rw[h0]at hs
    simp only[zh,jc,jh]at hs
    obtain⟨rfl,rfl⟩:=hs
    have P:=press (ch.1==2) hd
    exact⟨⟨P.1,hlen,hkey,_,_,P.2.1,hfol⟩,rfl,P.2.2⟩
theorem Y1{m:Ea}(hz:Hb Bb m≤Da)(hv:Tb m=true)(on:Int){k:Nat}(hk:(k:Int)<m.1):
 TG m on (k:Int)=some (Hi m.2.1 (Eg m on k) k,()):=by
 have hm:=Pd hv
 have hl:=RD hm on k
 have hrow:=hm.row _ hl
 unfold TG LP
 rw[Ji _ hz,hv,Ba (show¬(k:Int)<0 by omega),Ba (show¬(k:Int)≥m.1 by omega),SI hm _ hk]
 simp only[jb,jg,zh]
 rw[Ba (by omega)]
 simp only[zh]
 show(jz (Wb m.2.1 ((Eg m on k:Nat):Int)) _)=_
 rw[H7 hl (by omega)]
theorem K4(t:AI)(key at_:Int)(l:List Xa)(til:Int):(Ih t key at_ l til).1=0∨(Ih t key at_ l til).1=1∨(Ih t key at_ l til).1=2:=by
 have key2:∀(md k' e:Int) (l:List Xa) (k:Nat) (s:Int) (r:Int×Int),Va (fun _ s x=>OV md k' e s x) k s l=.inr r→r.1=0∨r.1=1∨r.1=2:=by
  intro md k' e l
  induction l with
  |nil=>intro k s r h;simp[Va]at h
  |cons x l ih=>
   intro k s r h
   simp only[Va]at h
   revert h
   cases hg:OV md k' e s x with
   |inl s'=>intro h;exact ih _ _ _ h
   |inr r'=>
    intro h
    simp only[Sum.inr.injEq]at h
    subst h
    unfold OV at hg
    revert hg
    cases Hj x<;>cases decide (x.1≥e)<;>cases x.2.1==k'<;>cases x.2.2.1<;>cases md==1<;>cases md==2<;>cases Jm s x.2.1==1<;>(intro hg;cases hg)<;>simp
 unfold Ih
 cases Mj t&&decide (0≤at_∧at_≤1000000)with
 |false=>exact .inl rfl
 |true=>
  simp only[zg]
  cases h:chR t.2.2.1 key (j4 .i64 (at_+t.1)) l with
  |inl s=>cases decide (til≥j4 .i64 (at_+t.1))<;>simp
  |inr r=>exact key2 _ _ _ _ _ _ _ h
theorem I1{α:Type}(x:α)(r:List α)(hr:r.length≤64):Bd (ja (x::r)) (1:Int) ((ja (x::r):Nat):Int)=true∧Ya (x::r) (jy (1:Int)) (jy ((ja (x::r):Nat):Int))=r:=by
 refine⟨Sg (lo:=1) (by simp) (by simp),?_⟩
 show List.drop 1 (List.take _ (x::r))=r
 rw[jn,List.take_length];rfl
def DaI(d:Cb):Option (Cb×List Ca)→Cb×((List Ca)×(Bool×Unit))
 |none=>(d,([],false,()))
 |some (d',l)=>(d',(l,true,()))
theorem A5{d:Cb}{x:Xa}{r:List Xa}(h:BN d)(hq:d.2.2.1=x::r):Bj d=some (DaI d (Ak d x r)):=by
 have h20:Da=1048576:=rfl
 have hF:=HK h hq
 have hk:=Zn hF.ev
 have hlen:r.length≤64:=by have:=h.len;rw[hq]at this;simp at this;omega
 have hz:=GU h.eng
 have hzm:=(JG h.eng.km).z
 have hle:=Xq h.eng.hd
 obtain⟨n,hn⟩:=jv hk.2.2.1
 have hn':x.2.1=(n:Int):=hn
 obtain⟨e,t,q,now,clk,tp,ta,u⟩:=d
 obtain⟨xt,xk,xd,xu⟩:=x
 cases u
 simp only at hq hn' hF hz hzm hle hk
 subst hq
 subst hn'
 have hc:=I1 ((xt,(n:Int),xd,xu):Xa) r hlen
 have hb:jx (ja ([]:List Xa)+ja r) Sa=true:=ji (by simp;rw[Zf];omega)
 have i0:Ac (ja (((xt,(n:Int),xd,xu):Xa)::r)) (0:Int)=true:=by rw[show(0:Int)=((0:Nat):Int)from rfl,Mf];exact Aa (by simp)
 have g0:(((xt,(n:Int),xd,xu):Xa)::r)[(jy (0:Int))]?=some (xt,(n:Int),xd,xu):=rfl
 unfold Bj
 simp only[i0,g0,hc.1,hc.2,hb,zg,jb]
 unfold Ak
 cases xd with
 |false=>
  obtain⟨hi,hi1,hi2⟩:=hF.up rfl
  rw[D2 h.eng hi hi1]
  simp only[j7,zg,jb]
  cases tp==j4 .i64 ((n:Int)+1)<;>rfl
 |true=>
  have hd:=hF.down rfl
  have hkey:=hF.key
  have hp:=fun b=>P7 h.eng (k:=n) hkey hd b
  simp only at hp hkey hd
  have hly:=LK (Yap (Pd h.eng.km).l2 h.eng.st) _ (show e.2.2.2.1.length≤Da by omega) h.eng.hd
  simp only at hly
  rw[hly]
  have hch:=Z1 t (n:Int) xt r now (by omega)
  have hac:=Y1 (m:=e.1) (by omega) h.eng.km (Ej e.2.2.1 e.2.2.2.1) hkey
  simp only[jb,jg,zh,jn,hac,TF,hch,hp]
  cases Df (Hi e.1.2.1 (Eg e.1 (Ej e.2.2.1 e.2.2.2.1) n) n)with
  |false=>rfl
  |true=>
   simp only[zg]
   have hv:=K4 t (n:Int) xt r now
   have hne:(tp !=j4 .i64 ((n:Int)+1))=!(tp==j4 .i64 ((n:Int)+1)):=rfl
   rw[hne]
   cases tp==j4 .i64 ((n:Int)+1)with
   |false=>
    simp only[j7,zg,qh,zh]
    rcases hv with hv|hv|hv<;>(rw[hv];rfl)
   |true=>
    simp only[jg,zh,jk]
    cases decide (j4 .i64 (xt-ta)≥t.2.1)with
    |true=>
     simp only[jg,zg,zh]
     rcases hv with hv|hv|hv<;>(rw[hv];rfl)
    |false=>rfl
theorem JY{d:Cb}{x:Xa}{r:List Xa}(h:BN d)(hq:d.2.2.1=x::r)(hd:x.2.2.1=true):
 Ay d x (max d.2.2.2.2.1 x.1)=some (match Ak d x r with
  |none=>(d,([],max d.2.2.2.2.1 x.1,false,()))
  |some (d',l)=>((d'.1,d.2.1,d.2.2.1,d.2.2.2.1,d.2.2.2.2.1,d'.2.2.2.2.2.1,d'.2.2.2.2.2.2.1,()),(l,d'.2.2.2.2.1,true,()))):=by
 have h20:Da=1048576:=rfl
 have hF:=HK h hq
 have hk:=Zn hF.ev
 have hlen:r.length≤64:=by have:=h.len;rw[hq]at this;simp at this;omega
 have hz:=GU h.eng
 have hzm:=(JG h.eng.km).z
 have hle:=Xq h.eng.hd
 obtain⟨n,hn⟩:=jv hk.2.2.1
 have hn':x.2.1=(n:Int):=hn
 obtain⟨e,t,q,now,clk,tp,ta,u⟩:=d
 obtain⟨xt,xk,xd,xu⟩:=x
 cases u
 simp only at hq hn' hF hz hzm hle hk hd
 subst hq
 subst hn'
 subst hd
 have hc:=I1 ((xt,(n:Int),true,xu):Xa) r hlen
 have hdn:=hF.down rfl
 have hkey:=hF.key
 have hp:=fun b=>Q8 h.eng (k:=n) hkey hdn b
 simp only at hp hkey hdn
 have hly:=UK (Yap (Pd h.eng.km).l2 h.eng.st) _ (show e.2.2.2.1.length≤Da by omega) h.eng.hd
 simp only at hly
 unfold Ay
 simp only[hc.1,hc.2]
 unfold Ak
 rw[hly]
 have hch:=Z2 t (n:Int) xt r now (by omega)
 have hac:=UH (m:=e.1) (by omega) h.eng.km (Ej e.2.2.1 e.2.2.2.1) hkey
 simp only[jb,jg,zh,jn,hac,Rw,hch,hp]
 cases Df (Hi e.1.2.1 (Eg e.1 (Ej e.2.2.1 e.2.2.2.1) n) n)with
 |false=>rfl
 |true=>
  simp only[zg]
  have hv:=K4 t (n:Int) xt r now
  have hlt:decide (j4 .i64 (xt-ta)<t.2.1)=!decide (j4 .i64 (xt-ta)≥t.2.1):=by
   rw[qm];simp only[decide_eq_true_eq,yl,decide_eq_false_iff_not];omega
  rw[hlt]
  cases tp==j4 .i64 ((n:Int)+1)with
  |false=>
   simp only[qh,zh]
   rcases hv with hv|hv|hv<;>(rw[hv];rfl)
  |true=>
   simp only[zg,jk]
   cases decide (j4 .i64 (xt-ta)≥t.2.1)with
   |true=>
    simp only[jg,zg,zh]
    rcases hv with hv|hv|hv<;>(rw[hv];rfl)
   |false=>rfl
theorem J0{X R:Type}{step:X→Option (X⊕R)}{α S:Type}(xs:List α)(g:S→α→S)(I:S→Nat→X)(out:S→R)(Bh:Nat→S→Prop)
 (h:∀k (hk:k<xs.length) s,Bh k s→step (I s k)=some (.inl (I (g s xs[k]) (k+1)))∧Bh (k+1) (g s xs[k]))
 (he:∀s,Bh xs.length s→step (I s xs.length)=some (.inr (out s))) (s0:S) (h0:Bh 0 s0):
 Eb step (I s0 0)=some (out (xs.foldl g s0))∧Bh xs.length (xs.foldl g s0):=by
 have key:∀(ys:List α) (k:Nat) (s:S),xs.drop k=ys→k≤xs.length→Bh k s→Eb step (I s k)=some (out (ys.foldl g s))∧Bh xs.length (ys.foldl g s):=by
  intro ys
  induction ys with
  |nil=>
   intro k s hd hle hi
   have:=M1 hd hle
   subst this
   rw[Zb (he s hi)]
   exact⟨rfl,hi⟩
  |cons y ys ih=>
   intro k s hd hle hi
   obtain⟨hk,hy,hd'⟩:=MW hd
   obtain⟨h1,h2⟩:=h k hk s hi
   rw[Zb h1,hy]
   rw[hy]at h2
   exact ih (k+1) _ hd' hk h2
 exact key xs 0 s0 rfl (Nat.zero_le _) h0
def Kq(s:List Qc)(w:Int)(l:List Ca):List Qc:=jf s (l.map fun r=>((w,r,()):Qc))
theorem TW(w:Int):∀(l:List Ca) (s:List Qc),l.foldl (fun s r=>jf s [((w,r,()):Qc)]) s=Kq s w l
 |[],s=>by simp[Kq]
 |x::l,s=>by
  rw[List.foldl_cons,TW w l]
  simp[Kq]
theorem WX(s:List Qc)(w:Int)(l:List Ca):(Kq s w l).length=s.length+l.length:=by simp[Kq]
theorem Iae(s:List Qc)(w:Int)(l:List Ca)(hl:l.length≤1000)(hs:s.length≤1000000):OM s w l=some (Kq s w l,()):=by
 have h:=(J0 (step:=fun x=>XG x.1.1 x.1.2.1 x.1.2.2.1 x.1.2.2.2.1 x.1.2.2.2.2.1) l (fun s r=>jf s [((w,r,()):Qc)])
  (fun o k=>((o,w,(l,(k:Int)),((ja l:Nat):Int),(k:Int),()),())) (fun o=>.inl ((o,()),())) (fun k o=>o.length=s.length+k) (by
   intro k hk o ho
   refine⟨?_,by simp[ho];omega⟩
   simp only[XG]
   rw[Aa (by omega),Mf,Aa hk,jn,je hk]
   simp only[zg,jb,yj]
   rw[show jx (ja o+ja ([(w,l[k],())]:List Qc)) Sa=true from ji (by simp only[jw,j6];rw[Zf];omega)]
   rw[Ee (by omega)]
   rfl) (by
   intro o ho
   simp only[XG]
   rw[Ba (by omega)];rfl) s rfl).1
 unfold OM MH
 erw[h]
 rw[TW]
 rfl
theorem FQ(s:List Qc)(w:Int)(l:List Ca)(d:Cb)(hl:l.length≤1000)(hs:s.length≤1000000):
 Xj (((),s,w,(l,(0:Int)),(0:Int),()),(d,()))=some (.inl (((),Kq s w l,w,()),(d,()))):=by
 have h:=(J0 (step:=fun x=>EA x.1.1 x.1.2.1 x.1.2.2.1 x.1.2.2.2.1 x.1.2.2.2.2.1 x.2.1) l (fun s r=>jf s [((w,r,()):Qc)])
  (fun o k=>(((),o,w,(l,(k:Int)),(k:Int),()),(d,()))) (fun o=>.inl (((),o,w,()),(d,()))) (fun k o=>o.length=s.length+k) (by
   intro k hk o ho
   refine⟨?_,by simp[ho];omega⟩
   simp only[EA]
   rw[Aa (by omega),Mf,Aa hk,jn,je hk]
   simp only[zg,jb,yj]
   rw[show jx (ja o+ja ([(w,l[k],())]:List Qc)) Sa=true from ji (by simp only[jw,j6];rw[Zf];omega)]
   rw[Ee (by omega)]
   rfl) (by
   intro o ho
   simp only[EA]
   rw[Ba (by omega)];rfl) s rfl).1
 unfold Xj
 erw[h]
 rw[TW]
noncomputable def Ve:Nat→Cb→List Qc→Cb×List Qc
 |0,d,s=>(d,s)
 |n+1,d,s=>match d.2.2.1 with
  |[]=>(d,s)
  |x::r=>match Ak d x r with
   |none=>(d,s)
   |some (d',l)=>Ve n d' (Kq s d'.2.2.2.2.1 l)
theorem Vaf{d d':Cb}{x:Xa}{r:List Xa}{l:List Ca}(hs:Ak d x r=some (d',l)):
 d'=(d'.1,d.2.1,r,d.2.2.2.1,d'.2.2.2.2.1,d'.2.2.2.2.2.1,d'.2.2.2.2.2.2.1,()):=by
 unfold Ak at hs
 revert hs
 generalize(cond ((d.2.2.2.2.2.1==j4 .i64 (x.2.1+1))&&!decide (j4 .i64 (x.1-d.2.2.2.2.2.2.1)≥d.2.1.2.1)) ((1:Int),x.1) ((Ih d.2.1 x.2.1 x.1 r d.2.2.2.1).1,(Ih d.2.1 x.2.1 x.1 r d.2.2.2.1).2.1))=ch
 generalize Df _=b1
 cases x.2.2.1<;>cases b1<;>cases h0:ch.1==0<;>
  simp only[jg,j7,zg,zh,jc,jh,reduceCtorEq,false_implies,h0,and_imp]<;>(intro h1 _;subst h1;rfl)
theorem D0(z:Cb):∀(n:Nat) (d:Cb) (s:List Qc),BN d→d.2.2.1.length≤n→s.length+17*n≤100000→
 Zg (((),(),s,()),(z,d,()))=some (.inl (((),(),(Ve n d s).2,()),(z,(Ve n d s).1,())))
 |n,d,s,h,hl,hs=>by
  unfold Zg
  cases hq:d.2.2.1 with
  |nil=>
   have e1:Ve n d s=(d,s):=by
    cases n with
    |zero=>rfl
    |succ n=>simp only[Ve,hq]
   have hstep:Ci () () s z d=some (.inr (.inl (((),(),s,()),(z,d,())))):=by
    unfold Ci
    rw[hq,Ba (by simp)];rfl
   erw[Zb hstep]
   rw[e1];rfl
  |cons x r=>
   have hlen:d.2.2.1.length=r.length+1:=by rw[hq];rfl
   cases n with
   |zero=>omega
   |succ n=>
    have e1:Ve (n+1) d s=match Ak d x r with
     |none=>(d,s)
     |some (d',l)=>Ve n d' (Kq s d'.2.2.2.2.1 l):=by simp only[Ve,hq]
    rw[e1]
    have hp:=A5 h hq
    cases hst:Ak d x r with
    |none=>
     have hstep:Ci () () s z d=some (.inr (.inl (((),(),s,()),(z,d,())))):=by
      unfold Ci
      rw[Aa (by rw[hlen];omega)]
      show(jz (Bj d) _)=_
      rw[hp,hst];rfl
     erw[Zb hstep];rfl
    |some p=>
     obtain⟨d',l⟩:=p
     have hn:=D8 h hq hst
     have hstep:Ci () () s z d=some (.inl (((),(),Kq s d'.2.2.2.2.1 l,()),(z,d',()))):=by
      unfold Ci
      rw[Aa (by rw[hlen];omega)]
      show(jz (Bj d) _)=_
      rw[hp,hst]
      show jz (OM s d'.2.2.2.2.1 l) _=_
      rw[Iae _ _ _ (by have:=hn.2.2.1;omega) (by omega)]
      rfl
     erw[Zb hstep]
     have ih:=D0 z n d' (Kq s d'.2.2.2.2.1 l) hn.1 (by rw[hn.2.1];omega) (by rw[WX];have:=hn.2.2.1;omega)
     unfold Zg at ih
     exact ih
theorem S0:∀(n:Nat) (d:Cb) (s:List Qc),BN d→d.2.2.1.length≤n→s.length+17*n≤100000→
 Al (((),s,()),(d,()))=some (.inl (((),(Ve n d s).2,()),((Ve n d s).1,())))∨Al (((),s,()),(d,()))=some (.inr (((),(Ve n d s).2,()),((Ve n d s).1,())))
 |n,d,s,h,hl,hs=>by
  unfold Al
  cases hq:d.2.2.1 with
  |nil=>
   have e1:Ve n d s=(d,s):=by
    cases n with
    |zero=>rfl
    |succ n=>simp only[Ve,hq]
   have hstep:Sj () s d=some (.inr (.inl (((),s,()),(d,())))):=by
    unfold Sj
    rw[hq,Ba (by simp)];rfl
   refine .inl ?_
   erw[Zb hstep]
   rw[e1];rfl
  |cons x r=>
   have hlen:d.2.2.1.length=r.length+1:=by rw[hq];rfl
   cases n with
   |zero=>omega
   |succ n=>
    have e1:Ve (n+1) d s=match Ak d x r with
     |none=>(d,s)
     |some (d',l)=>Ve n d' (Kq s d'.2.2.2.2.1 l):=by simp only[Ve,hq]
    rw[e1]
    have h64:=h.len
    have hc:=I1 x r (by omega)
    have hb:jx (ja ([]:List Xa)+ja r) Sa=true:=ji (by simp;rw[Zf];omega)
    have i0:Ac (ja (x::r)) (0:Int)=true:=by rw[show(0:Int)=((0:Nat):Int)from rfl,Mf];exact Aa (by simp)
    have g0:(x::r)[(jy (0:Int))]?=some x:=rfl
    have pre:Sj () s d=Sj () s d:=rfl
    conv at pre=>rhs;unfold Sj
    rw[Aa (show((ja d.2.2.1:Nat):Int)>0 by rw[hlen];omega),hq,i0,g0]at pre
    simp only[zg,jb]at pre
    have Xi:∀(s':List Qc) (w:Int) (e':Cb),e'.2.2.1=x::r→(jz (some (Sum.inl (((),s',w,()),(e',()))):Option (((Unit×List Qc×Int×Unit)×Cb×Unit)⊕Unit)) (Sum.elim (fun y43=>(cond (Bd (ja y43.2.1.2.2.1) (1:Int) ((ja y43.2.1.2.2.1:Nat):Int))
     (cond (jx (ja ([]:List Xa)+ja (Ya y43.2.1.2.2.1 (jy (1:Int)) (jy ((ja y43.2.1.2.2.1:Nat):Int)))) Sa)
     (some (.inl (((),y43.1.2.1,()),((((y43.2.1.1.1.1,y43.2.1.1.1.2.1,()),y43.2.1.1.2),y43.2.1.2.1,(jf ([]:List Xa) (Ya y43.2.1.2.2.1 (jy (1:Int)) (jy ((ja y43.2.1.2.2.1:Nat):Int)))),y43.2.1.2.2.2.1,y43.1.2.2.1,y43.2.1.2.2.2.2.2),()))):Option (((Unit×List Qc×Unit)×Cb×Unit)⊕(((Unit×List Qc×Unit)×Cb×Unit)⊕((Unit×List Qc×Unit)×Cb×Unit))))
     none)
     none)) (fun z44=>none)))=some (.inl (((),s',()),((e'.1,e'.2.1,r,e'.2.2.2.1,w,e'.2.2.2.2.2),()))):=by
     intro s' w e' he
     simp only[jb,qf,he,hc.1,hc.2,hb,zg]
     rfl
    cases hst:Ak d x r with
    |none=>
     have hd:x.2.2.1=true:=by
      cases hd:x.2.2.1 with
      |true=>rfl
      |false=>
       unfold Ak at hst
       rw[hd]at hst
       simp at hst
     have hstep:Sj () s d=some (.inr (.inr (((),s,()),(d,())))):=by
      rw[pre,hd]
      show(jz (Ay d x (max d.2.2.2.2.1 x.1)) _)=_
      rw[JY h hq hd,hst];rfl
     refine .inr ?_
     erw[Zb hstep];rfl
    |some p=>
     obtain⟨d',l⟩:=p
     have hn:=D8 h hq hst
     have hsh:=Vaf hst
     have hl':=hn.2.2.1
     have hstep:Sj () s d=some (.inl (((),Kq s d'.2.2.2.2.1 l,()),(d',()))):=by
      rw[pre]
      cases hd:x.2.2.1 with
      |true=>
       simp only[zg]
       show(jz (Ay d x (max d.2.2.2.2.1 x.1)) _)=_
       rw[JY h hq hd,hst]
       simp only[jb,jg,zh]
       rw[FQ _ _ _ _ (by omega) (by omega)]
       refine(Xi (Kq s d'.2.2.2.2.1 l) d'.2.2.2.2.1 (d'.1,d.2.1,d.2.2.1,d.2.2.2.1,d.2.2.2.2.1,d'.2.2.2.2.2.1,d'.2.2.2.2.2.2.1,()) hq).trans ?_
       rw[hsh]
      |false=>
       simp only[zh]
       obtain⟨hi,hi1,hi2⟩:=(HK h hq).up hd
       show(jz (FE d.1 x.2.1) _)=_
       rw[D3 h.eng hi hi1]
       unfold Ak at hst
       rw[hd]at hst
       simp only[j7,zg,jc,jh]at hst
       obtain⟨rfl,rfl⟩:=hst
       simp only[jb]
       cases d.2.2.2.2.2.1==j4 .i64 (x.2.1+1)with
       |true=>
        simp only[zg]
        rw[FQ _ _ _ _ (by omega) (by omega)]
        exact Xi _ _ _ rfl
       |false=>
        simp only[zh]
        rw[FQ _ _ _ _ (by omega) (by omega)]
        exact Xi _ _ _ hq
     have ih:=S0 n d' (Kq s d'.2.2.2.2.1 l) hn.1 (by rw[hn.2.1];omega) (by rw[WX];omega)
     unfold Al at ih
     erw[Zb hstep]
     exact ih
theorem M8(d:Cb)(h:BN d):DB d=some ((Ve d.2.2.1.length d []).1,((Ve d.2.2.1.length d []).2,())):=by
 have h64:=h.len
 unfold DB
 rcases S0 d.2.2.1.length d [] h (jo _) (by simp;omega)with h1|h1<;>(rw[h1];rfl)
def Mp:Cb:=((((0:Int),([]:List (List Ia)),()),([]:List (List Ta)),(0:Int),([]:List La),(0:Int),false,()),((0:Int),(0:Int),(0:Int),()),([]:List Xa),(0:Int),(0:Int),(0:Int),(0:Int),())
def NaD(l:List Xa):Int:=(l.headD (0,0,false,())).1
def Yr(l:List Xa)(t:Int):Bool:=((l.length:Int)==0)||!decide (NaD l<t)
noncomputable def Qx(d:Cb)(l:List Xa)(til:Int):Bool:=
 Yc d&&(decide (d.2.2.2.1≤til∧til≤1000000)&&(Yr l d.2.2.2.1&&(Ug l til&&Le (jf d.2.2.1 l) (Sz d.1.2.2.2.1) d.1.1.1)))
def Yn(d:Cb)(l:List Xa)(til:Int):Cb:=(d.1,d.2.1,jf d.2.2.1 l,til,d.2.2.2.2)
noncomputable def Uz(d:Cb)(l:List Xa)(til:Int):Cb×((List Qc)×(Bool×Unit)):=
 cond (Qx d l til) ((Ve (Yn d l til).2.2.1.length (Yn d l til) []).1,(Ve (Yn d l til).2.2.1.length (Yn d l til) []).2,true,()) (Mp,[],false,())
theorem T1{q:List Xa}{d k:Int}(h:Le q d k=true):q.length≤64:=by
 simp only[Le,jd,CI]at h
 by_cases h1:q.length≤64
 ·exact h1
 ·rw[Ba h1]at h;simp at h
theorem Y6{d:Cb}{l:List Xa}{til:Int}(hd:Yc d=true)(hf:Le (jf d.2.2.1 l) (Sz d.1.2.2.2.1) d.1.1.1=true):BN (Yn d l til):=by
 have he:Jn d.1:=by
  rw[←AB]
  simp only[Yc,jd]at hd
  exact hd.1
 obtain⟨m,hm,hm2⟩:=U7 he.hd
 refine⟨he,T1 hf,?_,m,0,hm2,?_⟩
 ·have h1:=hf
  simp only[Le,jd,QP]at h1
  have h2:=h1.1
  intro x hx
  have h3:=(A1 (p:=fun x:Xa=>!decide (x.2.1≥d.1.1.1))).1 h2 x hx
  simp only[yl,decide_eq_false_iff_not]at h3
  show x.2.1<d.1.1.1
  omega
 ·have:=Wad hf
  rw[hm]at this
  exact this
theorem Eae{l:List Xa}(h:0<l.length):∃x,Wb l (0:Int)=some x∧x.1=NaD l:=by
 cases l with
 |nil=>simp at h
 |cons x l=>exact⟨x,rfl,rfl⟩
theorem LM(d:Cb)(l:List Xa)(til:Int)(hz:Hb Cd d≤Da)(hl:l.length≤1000000):Yt d l til=some (Uz d l til):=by
 have h20:Da=1048576:=rfl
 have hz':=hz
 rw[GP,YH]at hz'
 have hz2:=hz'
 rw[Ol,Qt]at hz2
 have hlapp:(jf d.2.2.1 l).length=d.2.2.1.length+l.length:=by simp
 have hlim:jx (ja d.2.2.1+ja l) Sa=true:=ji (by rw[Zf];omega)
 unfold Yt Uz
 rw[QF _ hz,SN _ _ (by omega),RJ _ hz]
 cases hd:Yc d with
 |false=>rw[show Qx d l til=false by unfold Qx;rw[hd];rfl];rfl
 |true=>
  have hh:∀x∈d.1.2.2.2.1,Xw x:=by
   have:Pf d.1=true:=by simp only[Yc,jd]at hd;exact hd.1
   exact Lu (KL this)
  have h64:d.2.2.1.length≤64:=by
   simp only[Yc,jd]at hd
   exact T1 hd.2.2.2.2.1
  rw[MP _ (by omega) hh]
  simp only[jb,jg,zh,hlim,zg]
  rw[TN _ _ _ (by rw[hlapp];omega)]
  simp only[jb]
  have key:∀(K:Option (Cb×((List Qc)×(Bool×Unit)))),(Le (jf d.2.2.1 l) (Sz d.1.2.2.2.1) d.1.1.1=true→K=some ((Ve (Yn d l til).2.2.1.length (Yn d l til) []).1,(Ve (Yn d l til).2.2.1.length (Yn d l til) []).2,true,()))→
   (cond (decide (til<d.2.2.2.1)) (some (Mp,[],false,())) (cond (decide (til>1000000)) (some (Mp,[],false,())) (cond (!Yr l d.2.2.2.1) (some (Mp,[],false,())) (cond (!Ug l til) (some (Mp,[],false,())) (cond (!Le (jf d.2.2.1 l) (Sz d.1.2.2.2.1) d.1.1.1) (some (Mp,[],false,())) K)))))=
   some (cond (Qx d l til) ((Ve (Yn d l til).2.2.1.length (Yn d l til) []).1,(Ve (Yn d l til).2.2.1.length (Yn d l til) []).2,true,()) (Mp,[],false,())):=by
   intro K hK
   unfold Qx
   rw[hd]
   by_cases h1:til<d.2.2.2.1
   ·rw[Aa h1,Ba (show¬(d.2.2.2.1≤til∧til≤1000000) by omega)];rfl
   ·by_cases h2:til>1000000
    ·rw[Ba h1,Aa h2,Ba (show¬(d.2.2.2.1≤til∧til≤1000000) by omega)];rfl
    ·rw[Ba h1,Ba h2,Aa (show(d.2.2.2.1≤til∧til≤1000000) by omega)]
     cases Yr l d.2.2.2.1 with
     |false=>rfl
     |true=>
      cases Ug l til with
      |false=>rfl
      |true=>
       cases hq:Le (jf d.2.2.1 l) (Sz d.1.2.2.2.1) d.1.1.1 with
       |false=>rfl
       |true=>exact hK hq
  have hrun:Le (jf d.2.2.1 l) (Sz d.1.2.2.2.1) d.1.1.1=true→∀z:Cb,Zg (((),(),([]:List Qc),()),(z,(d.1,d.2.1,jf d.2.2.1 l,til,d.2.2.2.2),()))=some (.inl (((),(),(Ve (Yn d l til).2.2.1.length (Yn d l til) []).2,()),(z,(Ve (Yn d l til).2.2.1.length (Yn d l til) []).1,()))):=by
   intro hq z
   have h1:=Y6 (til:=til) hd hq
   have:=h1.len
   exact D0 z _ (Yn d l til) [] h1 (jo _) (by simp;omega)
  by_cases h0:l.length=0
  ·have hna:Yr l d.2.2.2.1=true:=by unfold Yr;rw[h0];rfl
   rw[Ba (show¬((ja l:Nat):Int)>0 by omega)]
   simp only[zh]
   simp only[hna,jg,zh]at key
   exact key _ (fun hq=>by rw[hrun hq];rfl)
  ·obtain⟨x,hx,hx1⟩:=Eae (l:=l) (by omega)
   have hna:Yr l d.2.2.2.1=!decide (x.1<d.2.2.2.1):=by
    unfold Yr
    rw[show((l.length:Int)==0)=false by simp;intro h;rw[h]at h0;simp at h0,hx1];rfl
   rw[Aa (show((ja l:Nat):Int)>0 by omega),hx]
   simp only[zg,jb]
   simp only[hna,Bool.not_not]at key
   exact key _ (fun hq=>by rw[hrun hq];rfl)
theorem WM(d:Cb)(l:List Xa)(til:Int)(hz:Hb Cd d≤Da)(hl:l.length≤1000000):Tu d l til=some (Uz d l til):=by
 have h20:Da=1048576:=rfl
 have hz':=hz
 rw[GP,YH]at hz'
 have hz2:=hz'
 rw[Ol,Qt]at hz2
 have hlapp:(jf d.2.2.1 l).length=d.2.2.1.length+l.length:=by simp
 have hn:jf ([]:List Xa) d.2.2.1=d.2.2.1:=rfl
 have hlim:jx (ja d.2.2.1+ja l) Sa=true:=ji (by rw[Zf];omega)
 have hlim2:jx (ja ([]:List Xa)+ja d.2.2.1) Sa=true:=ji (by rw[Zf];simp;omega)
 unfold Tu Uz
 rw[hn,hlim,hlim2,XF _ hz,Vc,Gn _ (by omega)]
 simp only[zg]
 cases hd:Yc d with
 |false=>rw[show Qx d l til=false by unfold Qx;rw[hd];rfl];rfl
 |true=>
  have hh:∀x∈d.1.2.2.2.1,Xw x:=by
   have:Pf d.1=true:=by simp only[Yc,jd]at hd;exact hd.1
   exact Lu (KL this)
  have h64:d.2.2.1.length≤64:=by
   simp only[Yc,jd]at hd
   exact T1 hd.2.2.2.2.1
  rw[OR _ (by omega) hh]
  simp only[jb,jg,zh]
  rw[XM _ _ _ (by rw[hlapp];omega)]
  simp only[jb]
  unfold Qx
  rw[hd]
  cases decide (d.2.2.2.1≤til∧til≤1000000)with
  |false=>rfl
  |true=>
   cases hq:Le (jf d.2.2.1 l) (Sz d.1.2.2.2.1) d.1.1.1 with
   |false=>simp only[Bool.and_false];rfl
   |true=>
    have hrun:DB (d.1,d.2.1,jf d.2.2.1 l,til,d.2.2.2.2)=_:=M8 (Yn d l til) (Y6 hd hq)
    simp only[jg,zh,jk,Bool.and_true]
    rw[hrun]
    by_cases h0:l.length=0
    ·rw[Ba (show¬((ja l:Nat):Int)>0 by omega)]
     rw[show Yr l d.2.2.2.1=true by unfold Yr;rw[h0];rfl,show Ug l til=true by unfold Ug;rw[h0];rfl]
     rfl
    ·obtain⟨x,hx,hx1⟩:=Eae (l:=l) (by omega)
     obtain⟨y,hy,hy1⟩:=X1 (l:=l) (by omega) (by omega)
     rw[Aa (show((ja l:Nat):Int)>0 by omega),hx,hy]
     simp only[zg,jb]
     have e0:((l.length:Int)==0)=false:=by simp;intro h;rw[h]at h0;simp at h0
     rw[show Yr l d.2.2.2.1=!decide (x.1<d.2.2.2.1) by unfold Yr;rw[e0,hx1];rfl]
     rw[show Ug l til=!decide (y.1>til) by
      unfold Ug;rw[e0,hy1]
      rw[yu,qm];simp only[decide_eq_true_eq,yl,decide_eq_false_iff_not];omega]
     cases decide (x.1<d.2.2.2.1)<;>cases decide (y.1>til)<;>rfl















theorem YaL(n:Nat):Un n 0 0:=⟨by omega,by have:=Nat.two_pow_pos n;omega,by decide,by omega,by omega⟩
theorem Z6{m:Ea}(hm:Tb m=true):Jn (OF m 0 0 false []):=
 (AB _).1 (Uap hm (YaL _) false UaT (by simp))
theorem Oaa{m:Ea}(hm:Tb m=true):Tk m []=some (OF m 0 0 false [],true,()):=by
 have h20:Da=1048576:=rfl
 have hz:=(JG hm).z
 have he:=Z6 hm
 have hz2:=GU he
 unfold Tk
 rw[Gu _ (by omega),Bo [] (by show(0:Nat)≤_;omega)]
 simp only[jb]
 have:Dp (m,([]:List (List Ta)),(0:Int),([]:List La),(0:Int),false,())=some (true,()):=by
  rw[←(AB _).2 he]
  exact Gz (OF m 0 0 false []) (by omega)
 rw[this]
 rfl
def FK(e:Gb)(t:Ta):Cb:=(e,t,([]:List Xa),(0:Int),(0:Int),(0:Int),(0:Int),())
theorem Uax(d k:Int):Le [] d k=true:=rfl
theorem Yas{e:Gb}(he:Jn e){t:Ta}(ht:Mj t=true){q:List Xa}{now clock tp ta:Int}(hn:0≤now∧now≤1000000)(hc:0≤clock∧clock≤now)
 (hq:Le q (Sz e.2.2.2.1) e.1.1=true) (hb:Ug q now=true) (htp:0≤tp∧tp≤e.1.1) (hta:0≤ta∧ta≤now):Yc (e,t,q,now,clock,tp,ta,())=true:=by
 unfold Yc
 simp only[jd,decide_eq_true_eq]
 exact⟨(AB e).2 he,ht,hn,hc,hq,hb,htp,hta⟩
def H8{X R:Type}(step:X→Option (X⊕R)):Nat→X→Option R
 |0,_=>none
 |n+1,x=>match step x with
  |some (.inl y)=>H8 step n y
  |some (.inr r)=>some r
  |none=>none
theorem MZ{X R:Type}{step:X→Option (X⊕R)}:∀(n:Nat) {x:X} {r:R},H8 step n x=some r→Eb step x=some r
 |0,_,_,h=>by simp[H8]at h
 |n+1,x,r,h=>by
  unfold H8 at h
  cases hs:step x with
  |none=>rw[hs]at h;simp at h
  |some z=>
   rw[hs]at h
   rw[Zb hs]
   cases z with
   |inl y=>exact MZ n h
   |inr r'=>exact h
def WB:List (List UInt8):=[[97],[98],[99],[100],[101],[102],[103],[104],[105],[106],[107],[108],[109],[110],[111],[112],[113],[114],[115],[116],[117],[118],[119],[120],[121],[122],[49],[50],[51],[52],[53],[54],[55],[56],[57],[48],[101,110,116,101,114],[101,115,99],[98,97,99,107],[116,97,98],[115,112,97,99,101],[109,105,110,117,115],[101,113,117,97,108],[108,101,102,116],[114,105,103,104,116],[117,112],[100,111,119,110],[102,49],[102,50],[102,51],[102,52],[102,53],[102,54],[102,55],[102,56],[102,57]]
def Oar:List (List UInt8):=[[],[97],[98],[99],[100],[101],[102],[103],[104],[105],[106],[107],[108],[109],[110],[111],[112],[113],[114],[115],[116],[117],[118],[119],[120],[121],[122],[49],[50],[51],[52],[53],[54],[55],[56],[57],[48],[10],[],[],[9],[32],[45],[61],[],[],[],[],[],[],[],[],[],[],[],[],[]]
def Par:List (List UInt8):=[[],[65],[66],[67],[68],[69],[70],[71],[72],[73],[74],[75],[76],[77],[78],[79],[80],[81],[82],[83],[84],[85],[86],[87],[88],[89],[90],[33],[64],[35],[36],[37],[94],[38],[42],[40],[41],[10],[],[],[9],[32],[95],[43],[],[],[],[],[],[],[],[],[],[],[],[],[]]
theorem Kar:HJ=some (WB,()):=by
 unfold HJ Og Gi
 erw[MZ 400 (r:=.inl ((WB,()),())) (by kernel_rfl)]
 rfl
theorem Z4:strings_Split HH [32]=some (WB,()):=by kernel_rfl
def Dg(c:Int):List UInt8:=cond (decide (1≤c∧c≤56)) (WB.getD (c-1).toNat []) []
theorem MQ:WB.length=56:=by decide+kernel
theorem W7{c:Int}(h:1≤c∧c≤56):WB[(c-1).toNat]?=some (Dg c)∧Ac WB.length (c-1)=true:=by
 have hl:(c-1).toNat<WB.length:=by rw[MQ];omega
 constructor
 ·unfold Dg
  rw[Aa h,zg,qe,je hl];rfl
 ·have:c-1=(((c-1).toNat:Nat):Int):=by omega
  rw[this,Mf];exact Aa hl
theorem Bz(c:Int):Tc c=some (Dg c,()):=by
 unfold Tc
 by_cases h1:c<1
 ·rw[Aa h1];unfold Dg;rw[Ba (show¬(1≤c∧c≤56) by omega)];rfl
 rw[Ba h1]
 by_cases h2:c>56
 ·rw[Aa h2];unfold Dg;rw[Ba (show¬(1≤c∧c≤56) by omega)];rfl
 rw[Ba h2,Z4]
 obtain⟨e1,e2⟩:=W7 (c:=c) (by omega)
 simp only[zh,jb]
 rw[Af (by omega) (by omega),e1,e2]
 rfl
theorem An(c:Int):Ng c=some (Dg c,()):=by
 unfold Ng
 rw[Vc]
 by_cases h:1≤c∧c≤56
 ·rw[Aa h,Kar]
  obtain⟨e1,e2⟩:=W7 h
  simp only[jg,zh,jb]
  rw[Af (by omega) (by omega),e1,e2]
  rfl
 ·rw[Ba h];unfold Dg;rw[Ba h];rfl
def Vy(c m:Int):List UInt8:=cond (m==0) (Oar.getD c.toNat []) (cond (m==2) (Par.getD c.toNat []) [])
theorem Iad{c:Int}(h:¬(1≤c∧c≤56))(m:Int):Vy c m=[]:=by
 have h0:Oar.getD c.toNat []=[]∧Par.getD c.toNat []=[]:=by
  by_cases hc:c<1
  ·rw[show c.toNat=0 by omega];exact⟨rfl,rfl⟩
  ·have l0:Oar.length=57:=by decide+kernel
   have l2:Par.length=57:=by decide+kernel
   rw[qe,qe,qt (by omega),qt (by omega)]
   exact⟨rfl,rfl⟩
 unfold Vy
 rw[h0.1,h0.2]
 cases m==0<;>cases m==2<;>rfl
theorem Baq:∀c:Fin 57,Mn (c.val:Int) 0=some (Vy c.val 0,()):=by
 intro c
 simp only[Mn,Vm,Bz,jb]
 revert c
 decide+kernel
theorem Caq:∀c:Fin 57,Mn (c.val:Int) 2=some (Vy c.val 2,()):=by
 intro c
 simp only[Mn,Vm,Bz,jb]
 revert c
 decide+kernel
theorem Iar:∀c:Fin 57,Qn (c.val:Int) 0=some (Vy c.val 0,()):=by
 intro c
 simp only[Qn,Vc,An,jb]
 revert c
 decide+kernel
theorem Jar:∀c:Fin 57,Qn (c.val:Int) 2=some (Vy c.val 2,()):=by
 intro c
 simp only[Qn,Vc,An,jb]
 revert c
 decide+kernel
theorem J7(c m:Int):Mn c m=some (Vy c m,()):=by
 by_cases hc:1≤c∧c≤56
 ·by_cases h0:m=0
  ·subst h0
   have:=Baq ⟨c.toNat,by omega⟩
   rwa [show((⟨c.toNat,by omega⟩:Fin 57).val:Int)=c by show((c.toNat:Nat):Int)=c;omega]at this
  ·by_cases h2:m=2
   ·subst h2
    have:=Caq ⟨c.toNat,by omega⟩
    rwa [show((⟨c.toNat,by omega⟩:Fin 57).val:Int)=c by show((c.toNat:Nat):Int)=c;omega]at this
   ·have e:Vy c m=[]:=by
     unfold Vy
     rw[show(m==0)=false by simpa using h0,show(m==2)=false by simpa using h2];rfl
    rw[e]
    unfold Mn
    rw[Vm,Aa hc,show(m !=0)=true by simpa using h0,show(m !=2)=true by simpa using h2]
    rfl
 ·rw[Iad hc]
  unfold Mn
  rw[Vm,Ba hc]
  rfl
theorem Nay:∀m:Fin 16,m.val≠0→m.val≠2→(Aj .i64 (m.val:Int) 2 !=0)=true:=by decide+kernel
theorem J8(c m:Int):Qn c m=some (Vy c m,()):=by
 by_cases hc:1≤c∧c≤56
 ·by_cases h0:m=0
  ·subst h0
   have:=Iar ⟨c.toNat,by omega⟩
   rwa [show((⟨c.toNat,by omega⟩:Fin 57).val:Int)=c by show((c.toNat:Nat):Int)=c;omega]at this
  ·by_cases h2:m=2
   ·subst h2
    have:=Jar ⟨c.toNat,by omega⟩
    rwa [show((⟨c.toNat,by omega⟩:Fin 57).val:Int)=c by show((c.toNat:Nat):Int)=c;omega]at this
   ·have e:Vy c m=[]:=by
     unfold Vy
     rw[show(m==0)=false by simpa using h0,show(m==2)=false by simpa using h2];rfl
    rw[e]
    unfold Qn
    rw[Vc,Aa hc,Vc]
    by_cases hm:0≤m∧m≤15
    ·have:=Nay ⟨m.toNat,by omega⟩ (by show m.toNat≠0;omega) (by show m.toNat≠2;omega)
     rw[show((⟨m.toNat,by omega⟩:Fin 16).val:Int)=m by show((m.toNat:Nat):Int)=m;omega]at this
     rw[Aa hm,this]
     rfl
    ·rw[Ba hm];rfl
 ·rw[Iad hc]
  unfold Qn
  rw[Vc,Ba hc]
  rfl
theorem MS(l:List UInt8):Ap (Nc l)=l:=by
 unfold Ap Nc
 rw[List.map_map]
 conv=>rhs;rw[←List.map_id l]
 apply List.map_congr_left
 intro x _
 simp
theorem ZR(a b:List UInt8):Nc (a++b)=Nc a++Nc b:=by simp[Nc]
theorem YA(a:List UInt8):(Nc a).length=a.length:=by simp[Nc]
theorem DZ(u:Nat)(h:¬u<10):Lib.decDigits u=Lib.decDigits (u/10)++[UInt8.ofNat (48+u%10)]:=by rw[Lib.decDigits,dif_neg h]
theorem LW(u:Nat)(h:u<10):Lib.decDigits u=[UInt8.ofNat (48+u)]:=by rw[Lib.decDigits,dif_pos h]
theorem Wal(u:Nat)(h:u<10^20):Lib.nDigits u≤20:=by
 apply Classical.byContradiction
 intro hn
 have h2:∀k u,10^k≤u∨Lib.nDigits u≤k∨k=0:=by
  intro k
  induction k with
  |zero=>intro u;right;right;rfl
  |succ k ih=>
   intro u
   by_cases hu:u<10
   ·right;left;rw[Lib.nDigits_small hu];omega
   ·rcases ih (u/10)with h|h|h
    ·left;rw[Nat.pow_succ];omega
    ·right;left;rw[Lib.nDigits_big hu];omega
    ·subst h;left;simpa using Nat.le_of_not_lt hu
 rcases h2 20 u with h3|h3|h3<;>omega
theorem U6{d:Int}(h:0≤d∧d≤9):Ap [j4 .u8 (j4 .i64 (48+d))]=[UInt8.ofNat (48+d.toNat)]:=by
 rw[Af (by omega) (by omega),HaZ (by omega) (by omega)]
 show[UInt8.ofNat (48+d).toNat]=_
 rw[show(48+d).toNat=48+d.toNat by omega]
theorem Nah(n:Int):∀(v:Nat) (x:Int) (acc:List UInt8),1≤v→(x=(v:Int)∨x=-(v:Int))→v≤9223372036854775808→acc.length+Lib.nDigits v≤100→
 Fi ((n,acc,x,()),())=some (.inl ((n,Lib.decDigits v++acc,()),())):=by
 intro v
 induction v using Nat.strongRecOn with
 |_ v ih=>
 intro x acc hv hx hb hl
 unfold Fi
 have hd:=Lib.nDigits_pos v
 obtain⟨d,hdd⟩:∃d,v%10=d:=⟨_,rfl⟩
 have hs:Ou n acc x=some (.inl ((n,UInt8.ofNat (48+d)::acc,Int.tdiv x 10,()),())):=by
  unfold Ou
  rw[show(x !=0)=true by rw[bne_iff_ne];omega]
  simp only[zg,show((10:Int)==0)=false from rfl,zh]
  rcases hx with rfl|rfl
  ·have e:yc (v:Int) 10=(d:Int):=by rw[Int.tmod_eq_emod_of_nonneg (by omega)];omega
   have e2:Int.tdiv (v:Int) 10=((v/10:Nat):Int):=by rw[Int.tdiv_eq_ediv_of_nonneg (by omega)];omega
   rw[e,e2,Ba (show¬(d:Int)<0 by omega),zh,U6 (d:=(d:Int)) (by omega),Af (n:=((v/10:Nat):Int)) (by omega) (by omega)]
   simp only[jw,j6]
   rw[Jb (by omega)]
   rfl
  ·have e:yc (-(v:Int)) 10=-(d:Int):=by rw[Int.neg_tmod,Int.tmod_eq_emod_of_nonneg (by omega)];omega
   have e2:Int.tdiv (-(v:Int)) 10=-((v/10:Nat):Int):=by rw[Int.neg_tdiv,Int.tdiv_eq_ediv_of_nonneg (by omega)];omega
   rw[e,e2]
   by_cases h0:d=0
   ·subst h0
    rw[show(-((0:Nat):Int))=0 by omega,Ba (show¬(0:Int)<0 by omega),zh,U6 (d:=0) (by omega),Af (n:=-((v/10:Nat):Int)) (by omega) (by omega)]
    simp only[jw,j6]
    rw[Jb (by omega)]
    rfl
   ·rw[Aa (show-(d:Int)<0 by omega),zg,Af (n:=0- -(d:Int)) (by omega) (by omega),show(0:Int)- -(d:Int)=(d:Int) by omega,U6 (d:=(d:Int)) (by omega),Af (n:=-((v/10:Nat):Int)) (by omega) (by omega)]
    simp only[jw,j6]
    rw[Jb (by omega)]
    rfl
 rw[Zb hs]
 show Fi ((n,UInt8.ofNat (48+d)::acc,Int.tdiv x 10,()),())=_
 have hx2:Int.tdiv x 10=((v/10:Nat):Int)∨Int.tdiv x 10=-((v/10:Nat):Int):=by
  rcases hx with rfl|rfl
  ·left;rw[Int.tdiv_eq_ediv_of_nonneg (by omega)];omega
  ·right;rw[Int.neg_tdiv,Int.tdiv_eq_ediv_of_nonneg (by omega)];omega
 by_cases hten:v<10
 ·have hz:Int.tdiv x 10=0:=by
   rw[show v/10=0 by omega]at hx2
   omega
  rw[hz,LW v hten]
  unfold Fi
  rw[Zb (z:=some (.inr (.inl ((n,UInt8.ofNat (48+d)::acc,()),())))) (by simp[Ou])]
  rw[show d=v by omega]
  rfl
 ·rw[ih (v/10) (by omega) _ _ (by omega) hx2 (by omega) (by
   have:=Lib.nDigits_big hten
   simp only[jw];omega),DZ v hten,hdd]
  simp
theorem Ij{n:Int}(h:-9223372036854775808≤n∧n≤9223372036854775807):Sd n=some (Lib.itoa n,()):=by
 unfold Sd
 by_cases h0:n=0
 ·subst h0
  have:Lib.itoa 0=[48]:=by
   unfold Lib.itoa
   rw[if_neg (by omega)]
   show Lib.decDigits 0=_
   rw[LW 0 (by omega)]
   rfl
  rw[this]
  rfl
 ·have hN:=Wal n.natAbs (by omega)
  have hl:=Lib.decDigits_length n.natAbs
  rw[show(n==0)=false by simpa using h0,Nah n n.natAbs n [] (by omega) (by omega) (by omega) (by simp;omega)]
  simp only[zh,jb,qf,yy]
  unfold Lib.itoa
  by_cases hneg:n<0
  ·rw[Aa hneg,if_pos hneg,Jb (by simp only[jw,j6];omega)]
   rfl
  ·rw[Ba hneg,if_neg hneg,show n.toNat=n.natAbs by omega]
   rfl
theorem Np{n:Int}(h:-9223372036854775808≤n∧n≤9223372036854775807):Kh n=some (Lib.itoa n,()):=by
 unfold Kh strconv_Itoa IZ
 rw[Aa h.1,Aa h.2]
 rfl
theorem OH{n:Int}(h:-9223372036854775808≤n∧n≤9223372036854775807):(Lib.itoa n).length≤21:=by
 have hN:=Wal n.natAbs (by omega)
 have hl:=Lib.decDigits_length n.natAbs
 unfold Lib.itoa
 by_cases hneg:n<0
 ·rw[if_pos hneg];simp only[jw];omega
 ·rw[if_neg hneg,show n.toNat=n.natAbs by omega];omega
theorem Sm{l:List (List UInt8)}{by_:List UInt8}(h1:l.length≤1073741824)(h2:(Lib.join l by_).length≤1073741824):Hh l by_=some (Lib.join l by_,()):=by
 unfold Hh strings_Join Mac
 rw[ji h1,ji h2]
 rfl
theorem Pk{l:List (List UInt8)}{by_:List UInt8}(h1:l.length≤1073741824)(h2:(Lib.join l by_).length≤1073741824):Nd l by_=some (Lib.join l by_,()):=by
 cases l with
 |nil=>
  unfold Nd Pq
  rw[Zb (z:=some (.inr (.inl (([],()),())))) (by simp[Up])]
  rfl
 |cons x r=>
  rw[Lib.join_cons]at h2⊢
  have hlen:∀k,(Lib.joinTail by_ (r.take k)).length≤(Lib.joinTail by_ r).length:=fun k=>Lib.joinTail_take_le by_ r k
  simp only[qc]at h2
  have hl:=CR (step:=fun y:(List (List UInt8)×List UInt8×List Int×Int×Unit)×Unit=>Up y.1.1 y.1.2.1 y.1.2.2.1 y.1.2.2.2.1)
   (fun k=>((x::r,by_,cond (k==0) [] (Nc (x++Lib.joinTail by_ (r.take (k-1)))),(k:Int),()),())) (x::r).length (.inl ((Nc (x++Lib.joinTail by_ r),()),())) (by
    intro k hk
    simp only[Up]
    rw[Aa (show(k:Int)<(((x::r).length:Nat):Int) by omega)]
    cases k with
    |zero=>
     rw[Ba (by omega)]
     simp only[zg,zh]
     rw[show((0:Nat):Int)=0 from rfl,Aay]
     simp only[jb]
     rw[Jb (by simp[YA];omega)]
     simp[Lib.joinTail,Af]
    |succ k=>
     have hk':k<r.length:=by simpa using hk
     rw[Aa (by omega),Ub hk]
     have e:(k+1==0)=false:=by simp
     have e2:(k+1+1==0)=false:=by simp
     simp only[e,e2,zg,zh,jb,Nat.add_sub_cancel]
     have hr:Lib.joinTail by_ (r.take (k+1))=Lib.joinTail by_ (r.take k)++(by_++r[k]):=by rw[Lib.joinTail_take_succ by_ r k r[k] (je hk'),q0]
     have h3:=hlen (k+1)
     rw[hr]at h3
     simp only[qc]at h3
     rw[Jb (by simp only[YA,qc];omega)]
     simp only[zg]
     rw[Jb (by simp only[ze,YA,qc,List.getElem_cons_succ];omega)]
     simp only[zg,List.getElem_cons_succ,ze]
     rw[hr,Ee (by omega)]
     simp[ZR]) (by
    simp only[Up]
    rw[Ba (by omega)]
    simp)
  unfold Nd Pq
  erw[hl]
  simp[MS]
theorem PH(l:List (List UInt8))(s:List UInt8)(c:Nat)(h:∀x∈l,x.length≤c):(Lib.join l s).length≤(c+s.length)*l.length:=by
 cases l with
 |nil=>simp[Lib.join_nil]
 |cons x r=>
  rw[Lib.join_cons,qc,Lib.joinTail_length]
  have h1:=h x (by simp)
  have h2:Lib.lens r≤c*r.length:=by
   clear h1
   induction r with
   |nil=>simp[Lib.lens]
   |cons y r ih=>
    have:=ih (fun z hz=>h z (by simp at hz⊢;rcases hz with hz|hz<;>simp[hz]))
    have h3:=h y (by simp)
    simp only[Lib.lens,yk,List.sum_cons,jw]at this⊢
    rw[Nat.mul_succ]
    omega
  simp only[jw]
  rw[Nat.mul_succ,yf]
  omega
def Tg(m:Int):List UInt8:=[[],[67],[83],[67,83],[65],[67,65],[83,65],[67,83,65],[71],[67,71],[83,71],[67,83,71],[65,71],[67,65,71],[83,65,71],[67,83,65,71]].getD m.toNat []
theorem Zaa:∀m:Fin 16,H8 (fun x:(Int×List UInt8×List (List UInt8)×Int×Int×Unit)×Unit=>IB x.1.1 x.1.2.1 x.1.2.2.1 x.1.2.2.2.1 x.1.2.2.2.2.1) 10 (((m.val:Int),[],[[67],[83],[65],[71]],4,0,()),())=some (.inl ((Tg m.val,()),())):=by
 intro m
 simp only[IB]
 revert m
 decide+kernel
theorem Kab:∀m:Fin 16,H8 (fun x:(Int×List UInt8×Int×Unit)×Unit=>Vs x.1.1 x.1.2.1 x.1.2.2.1) 10 (((m.val:Int),[],0,()),())=some (.inl ((Tg m.val,()),())):=by
 intro m
 simp only[Vs,Vc]
 revert m
 decide+kernel
theorem TP{m:Int}(h:¬(1≤m∧m≤15)):Tg m=[]:=by
 unfold Tg
 by_cases hm:m<1
 ·rw[show m.toNat=0 by omega];rfl
 ·rw[qe,qt (by simp;omega)];rfl
theorem Ut(m:Int):Kj m=some (Tg m,()):=by
 unfold Kj
 by_cases h1:m<1
 ·rw[Aa h1,TP (by omega)];rfl
 rw[Ba h1,zh]
 by_cases h2:m>15
 ·rw[Aa h2,TP (by omega)];rfl
 rw[Ba h2,zh]
 have:=MZ 10 (Zaa ⟨m.toNat,by omega⟩)
 rw[show(((⟨m.toNat,by omega⟩:Fin 16).val:Nat):Int)=m by show((m.toNat:Nat):Int)=m;omega]at this
 unfold Kv
 erw[this]
 rfl
theorem Pu(m:Int):Rj m=some (Tg m,()):=by
 unfold Rj Wv
 by_cases h:1≤m∧m≤15
 ·have:=MZ 10 (Kab ⟨m.toNat,by omega⟩)
  rw[show(((⟨m.toNat,by omega⟩:Fin 16).val:Nat):Int)=m by show((m.toNat:Nat):Int)=m;omega]at this
  erw[this]
  rfl
 ·rw[Zb (z:=some (.inr (.inl (([],()),())))) (by
   simp only[Vs]
   rw[Vc,Ba h]
   rfl),TP h]
  rfl
theorem OK(m:Int):(Tg m).length≤4:=by
 by_cases h:1≤m∧m≤15
 ·have:∀m:Fin 16,(Tg m.val).length≤4:=by decide+kernel
  have:=this ⟨m.toNat,by omega⟩
  rwa [show(((⟨m.toNat,by omega⟩:Fin 16).val:Nat):Int)=m by show((m.toNat:Nat):Int)=m;omega]at this
 ·rw[TP h];simp
theorem PQ(c:Int):(Dg c).length≤5:=by
 unfold Dg
 cases decide (1≤c∧c≤56)with
 |false=>simp
 |true=>
  have h:∀x∈WB,x.length≤5:=by decide+kernel
  rw[zg,qe]
  cases hc:WB[(c-1).toNat]? with
  |none=>simp
  |some y=>exact h y (List.mem_of_getElem? hc)
def UX(r:Ca):List UInt8:=cond (Rc r) (jf (jf (Tg r.1) [58]) (Lib.join (r.2.1.map Dg) [44])) []
theorem Ly{r:Ca}(h:Rc r=true):r.2.1.length≤56:=by
 unfold Rc at h
 simp only[jd]at h
 have h2:=Rt.1 h.2
 have key:∀j (hj:j<r.2.1.length),(j:Int)+1≤r.2.1[j]∧r.2.1[j]≤56:=by
  intro j
  induction j with
  |zero=>
   intro hj
   have:=h2 0 hj
   simp only[XD,jd,decide_eq_true_eq]at this
   omega
  |succ j ih=>
   intro hj
   have h3:=ih (by omega)
   have:=h2 (j+1) hj
   simp only[XD,jd,qx,yl,decide_eq_true_eq,decide_eq_false_iff_not]at this
   have e:r.2.1.getD (0+(j+1)-1) 0=r.2.1[j]:=by
    rw[show 0+(j+1)-1=j by omega,qe,je (by omega)];rfl
   rw[e]at this
   omega
 apply Classical.byContradiction
 intro hn
 have:=key 56 (by omega)
 omega
theorem VW{r:Ca}(h:Rc r=true):(Lib.join (r.2.1.map Dg) [44]).length≤336:=by
 have h1:=PH (r.2.1.map Dg) [44] 5 (fun x hx=>by
  obtain⟨c,_,rfl⟩:=qk.1 hx
  exact PQ c)
 have h2:=Ly h
 simp only[yr,jw,j6]at h1
 omega
theorem HU(r:Ca):(UX r).length≤341:=by
 unfold UX
 cases h:Rc r with
 |false=>simp
 |true=>
  have:=VW h
  have:=OK r.1
  simp only[zg,ze,qc,jw,j6]
  omega
theorem PI(r:Ca)(hn:r.2.1.length≤Da):Qp r=some (UX r,()):=by
 have h20:Da=1048576:=rfl
 unfold Qp UX
 rw[Iz r hn]
 cases hv:Rc r with
 |false=>rfl
 |true=>
  simp only[jb,jg,zh,zg]
  have hk:=Ly hv
  have hl:=Rh (step:=fun x:(Unit×List (List UInt8)×List Int×Int×Int×Unit)×Ca×Unit=>Lo x.1.1 x.1.2.1 x.1.2.2.1 x.1.2.2.2.1 x.1.2.2.2.2.1 x.2.1) r.2.1 Dg
   (fun o k=>(((),o,r.2.1,(r.2.1.length:Int),k,()),(r,()))) (fun o=>.inl (((),o,()),(r,()))) (by omega) (fun k hk o ho=>by
    simp only[Lo]
    rw[Aa (by omega),Ub hk]
    simp only[zg,jb]
    rw[Bz]
    simp only[jb]
    rw[Jb (by simp only[jw,j6];omega)]
    rfl) (fun o=>by
    simp only[Lo]
    rw[Ba (by omega)]
    rfl)
  unfold Qr
  erw[hl]
  simp only[jb,qf]
  rw[Ut]
  have h1:=OK r.1
  have h2:=VW hv
  simp only[jb]
  rw[Jb (by simp only[jw,j6];omega)]
  simp only[zg]
  rw[Sm (by simp;omega) (by omega)]
  simp only[jb]
  rw[Jb (by simp only[ze,qc,jw,j6];omega)]
  rfl
theorem BJ(r:Ca)(hn:r.2.1.length≤Da):Tp r=some (UX r,()):=by
 have h20:Da=1048576:=rfl
 unfold Tp UX
 rw[Bn r hn]
 cases hv:Rc r with
 |false=>rfl
 |true=>
  simp only[jb,jg,zh,zg]
  have hk:=Ly hv
  have hl:=Rh (step:=fun x:(Unit×List (List UInt8)×Int×Unit)×Ca×Unit=>Uo x.1.1 x.1.2.1 x.1.2.2.1 x.2.1) r.2.1 Dg
   (fun o k=>(((),o,k,()),(r,()))) (fun o=>.inl (((),o,()),(r,()))) (by omega) (fun k hk o ho=>by
    simp only[Uo]
    rw[Aa (by omega),Ub hk]
    simp only[zg,jb]
    rw[An]
    simp only[jb]
    rw[Jb (by simp only[jw,j6];omega)]
    rfl) (fun o=>by
    simp only[Uo]
    rw[Ba (by omega)]
    rfl)
  unfold As
  erw[hl]
  simp only[jb,qf]
  rw[Pu]
  have h1:=OK r.1
  have h2:=VW hv
  simp only[jb]
  rw[Jb (by simp only[jw,j6];omega)]
  simp only[zg]
  rw[Pk (by simp;omega) (by omega)]
  simp only[jb]
  rw[Jb (by simp only[ze,qc,jw,j6];omega)]
  rfl
def DV(x:Qc):List UInt8:=jf (jf (Lib.itoa x.1) [32]) (UX x.2.1)
def CQ(l:List Qc):List UInt8:=cond (((ja l:Nat):Int)==0) [45] (Lib.join (l.map DV) [59,32])
theorem Hat{x:Qc}(h:-9223372036854775808≤x.1∧x.1≤9223372036854775807):(DV x).length≤363:=by
 have h1:=OH h
 have h2:=HU x.2.1
 unfold DV
 simp only[ze,qc,jw,j6]
 omega
theorem JU{l:List Qc}(h:∀x∈l,-9223372036854775808≤x.1∧x.1≤9223372036854775807):(Lib.join (l.map DV) [59,32]).length≤365*l.length:=by
 have h1:=PH (l.map DV) [59,32] 363 (fun x hx=>by
  obtain⟨c,hc,rfl⟩:=qk.1 hx
  exact Hat (h c hc))
 simp only[yr,jw,j6]at h1
 exact h1
theorem XW(l:List Qc)(h:∀x∈l,-9223372036854775808≤x.1∧x.1≤9223372036854775807)(hk:∀x∈l,x.2.1.2.1.length≤Da)(hn:l.length≤Da):Mo l=some (CQ l,()):=by
 have h20:Da=1048576:=rfl
 unfold Mo CQ
 cases hc:((ja l:Nat):Int)==0 with
 |true=>rfl
 |false=>
  rw[zh,zh]
  have hl:=Rh (step:=fun x:(List (List UInt8)×List Qc×Int×Int×Unit)×Unit=>Qs x.1.1 x.1.2.1 x.1.2.2.1 x.1.2.2.2.1) l DV
   (fun o k=>((o,l,(l.length:Int),k,()),())) (fun o=>.inl ((o,()),())) (by omega) (fun k hk2 o ho=>by
    have hm:l[k]∈l:=qi hk2
    have h1:=OH (h _ hm)
    have h2:=HU l[k].2.1
    simp only[Qs]
    rw[Aa (by omega),Ub hk2]
    simp only[zg,jb]
    rw[Np (h _ hm)]
    simp only[jb]
    rw[Jb (by simp only[jw,j6];omega)]
    simp only[zg]
    rw[PI _ (hk _ hm)]
    simp only[jb]
    rw[Jb (by simp only[ze,qc,jw,j6];omega)]
    simp only[zg]
    rw[Jb (by simp only[jw,j6];omega)]
    rfl) (fun o=>by
    simp only[Qs]
    rw[Ba (by omega)]
    rfl)
  unfold Lv
  erw[hl]
  simp only[jb,qf]
  have:=JU h
  rw[Sm (by simp;omega) (by omega)]
  rfl
theorem AY(l:List Qc)(h:∀x∈l,-9223372036854775808≤x.1∧x.1≤9223372036854775807)(hk:∀x∈l,x.2.1.2.1.length≤Da)(hn:l.length≤Da):OC l=some (CQ l,()):=by
 have h20:Da=1048576:=rfl
 unfold OC CQ
 have hl:=Rh (step:=fun x:(List Qc×List (List UInt8)×Int×Unit)×Unit=>Ws x.1.1 x.1.2.1 x.1.2.2.1) l DV
  (fun o k=>((l,o,k,()),())) (fun o=>.inl ((o,()),())) (by omega) (fun k hk2 o ho=>by
   have hm:l[k]∈l:=qi hk2
   have h1:=OH (h _ hm)
   have h2:=HU l[k].2.1
   simp only[Ws]
   rw[Aa (by omega),Ub hk2]
   simp only[zg,jb]
   rw[Ij (h _ hm)]
   simp only[jb]
   rw[Jb (by simp only[jw,j6];omega)]
   simp only[zg]
   rw[BJ _ (hk _ hm)]
   simp only[jb]
   rw[Jb (by simp only[ze,qc,jw,j6];omega)]
   simp only[zg]
   rw[Jb (by simp only[jw,j6];omega)]
   rfl) (fun o=>by
   simp only[Ws]
   rw[Ba (by omega)]
   rfl)
 unfold Xv
 erw[hl]
 simp only[jb,qf,yr]
 cases hc:((ja l:Nat):Int)==0 with
 |true=>rfl
 |false=>
  have:=JU h
  rw[Pk (by simp;omega) (by omega)]
  rfl
theorem N8(l:List Int)(x:Int)(hn:l.length≤Sa):BM l x=some (l.any (fun y=>y==x),()):=by
 have hlim:=Zf
 have hl:=Gh (step:=fun y:(List Int×Int×Int×Unit)×Unit=>UC y.1.1 y.1.2.1 y.1.2.2.1) l (fun _ y=>!(y==x)) (fun i=>((l,x,i,()),()))
  (.inl ((),())) (.inr ((true,()),())) (by
   intro k hk
   simp only[UC]
   rw[Aa (by omega),Ub hk]
   simp only[zg,jb]
   cases l[k]==x<;>rfl) (by
   simp only[UC]
   rw[Ba (by omega)]
   rfl) (by omega)
 unfold BM HE
 erw[hl]
 have e:Tf (fun _ y=>!(y==x)) 0 l=!l.any (fun y=>y==x):=by
  apply Aai
  rw[Rt]
  simp only[yl,List.any_eq_false]
  constructor
  ·intro h y hy
   obtain⟨k,hk,rfl⟩:=qj hy
   have:=h k hk
   simpa using this
  ·intro h j hj
   have:=h l[j] (qi hj)
   simpa using this
 rw[e]
 cases l.any (fun y=>y==x)<;>rfl
def RH(a:Ca)(o:List Int)(x:Int):List Int:=cond (!a.2.1.any (fun y=>y==x)) (jf o [x]) o
def UP(a b:Ca):List Int:=cond (Rc a&&Rc b) (Oc (fun _ o x=>RH a o x) 0 [] b.2.1) []
theorem Laf(a:Ca):∀(l:List Int) (k:Nat) (o:List Int),(Oc (fun _ o x=>RH a o x) k o l).length≤o.length+l.length
 |[],_,o=>by simp[Oc]
 |x::r,k,o=>by
  simp only[Oc]
  have:=Laf a r (k+1) (RH a o x)
  have h2:(RH a o x).length≤o.length+1:=by unfold RH;cases !a.2.1.any (fun y=>y==x)<;>simp
  simp only[jw]
  omega
theorem K2(a b:Ca):(UP a b).length≤56:=by
 unfold UP
 cases ha:Rc a with
 |false=>simp
 |true=>
  cases hb:Rc b with
  |false=>simp
  |true=>
   have:=Laf a b.2.1 0 []
   have:=Ly hb
   simp only[Bool.and_self,zg]
   simp at*
   omega
theorem W4(a b:Ca)(ha:a.2.1.length≤Da)(hb:b.2.1.length≤Da):QI a b=some (UP a b,()):=by
 have h20:Da=1048576:=rfl
 have hlim:=Zf
 unfold QI UP
 rw[Iz a ha]
 cases Rc a with
 |false=>rfl
 |true=>
  simp only[jb,jg,zh,jk]
  rw[Iz b hb]
  cases Rc b with
  |false=>rfl
  |true=>
   simp only[jb,jg,zh,zg]
   have hl:=(Zd (step:=fun x:(Unit×List Int×List Int×Int×Int×Unit)×Ca×Unit=>Jz x.1.1 x.1.2.1 x.1.2.2.1 x.1.2.2.2.1 x.1.2.2.2.2.1 x.2.1) b.2.1 (fun _ o x=>RH a o x)
    (fun o k=>(((),o,b.2.1,(b.2.1.length:Int),k,()),(a,()))) (fun o=>.inl ((o,()),())) (fun k o=>o.length≤k) (fun k hk o ho=>by
     have hg:(RH a o b.2.1[k]).length≤k+1:=by
      have:(RH a o b.2.1[k]).length≤o.length+1:=by unfold RH;cases !a.2.1.any (fun y=>y==b.2.1[k])<;>simp
      omega
     refine⟨?_,hg⟩
     simp only[Jz]
     rw[Aa (by omega),Ub hk]
     simp only[zg,jb]
     rw[CT _ _ (by omega)]
     simp only[jb,RH]
     cases !a.2.1.any (fun y=>y==b.2.1[k])with
     |false=>rfl
     |true=>
      simp only[zg]
      rw[Jb (by simp only[jw,j6];omega)]
      rfl) (fun o ho=>by
     simp only[Jz]
     rw[Ba (by omega)]
     rfl) (by omega) [] (by simp)).1
   unfold KB
   erw[hl]
   rfl
theorem W5(a b:Ca)(ha:a.2.1.length≤Da)(hb:b.2.1.length≤Da):EJ a b=some (UP a b,()):=by
 have h20:Da=1048576:=rfl
 have hlim:=Zf
 unfold EJ UP QB
 cases hv:Rc a&&Rc b with
 |false=>
  rw[Zb (z:=some (.inr (.inl (([],()),())))) (by
   simp only[Hs]
   rw[Bn a ha,Bn b hb]
   cases decide ((0:Int)<((ja b.2.1:Nat):Int))with
   |false=>rfl
   |true=>
    cases h1:Rc a with
    |false=>rfl
    |true=>
     cases h2:Rc b with
     |false=>rfl
     |true=>rw[h1,h2]at hv;simp at hv)]
  rfl
 |true=>
  simp only[jd]at hv
  have hl:=(Zd (step:=fun x:(Unit×Unit×List Int×Int×Unit)×Ca×Ca×Unit=>Hs x.1.1 x.1.2.1 x.1.2.2.1 x.1.2.2.2.1 x.2.1 x.2.2.1) b.2.1 (fun _ o x=>RH a o x)
   (fun o k=>(((),(),o,k,()),(a,b,()))) (fun o=>.inl ((o,()),())) (fun k o=>o.length≤k) (fun k hk o ho=>by
    have hg:(RH a o b.2.1[k]).length≤k+1:=by
     have:(RH a o b.2.1[k]).length≤o.length+1:=by unfold RH;cases !a.2.1.any (fun y=>y==b.2.1[k])<;>simp
     omega
    refine⟨?_,hg⟩
    simp only[Hs]
    rw[Aa (by omega),Ub hk,Bn a ha,Bn b hb,hv.1,hv.2]
    simp only[zg,jb]
    rw[N8 _ _ (by omega)]
    simp only[jb,RH]
    cases !a.2.1.any (fun y=>y==b.2.1[k])with
    |false=>rfl
    |true=>
     simp only[zg]
     rw[Jb (by simp only[jw,j6];omega)]
     rfl) (fun o ho=>by
    simp only[Hs]
    rw[Ba (by omega)]
    rfl) (by omega) [] (by simp)).1
  erw[hl]
  rfl
theorem OW(c m:Int):(Vy c m).length≤1:=by
 have h0:∀x∈Oar,x.length≤1:=by decide+kernel
 have h2:∀x∈Par,x.length≤1:=by decide+kernel
 have hg:∀(l:List (List UInt8)) (i:Nat),(∀x∈l,x.length≤1)→(l.getD i []).length≤1:=by
  intro l i h
  rw[qe]
  cases hc:l[i]? with
  |none=>simp
  |some y=>exact h y (List.mem_of_getElem? hc)
 unfold Vy
 cases m==0 with
 |true=>exact hg _ _ h0
 |false=>
  cases m==2 with
  |true=>exact hg _ _ h2
  |false=>simp
def G6(m:Int)(o:List UInt8)(k:Int):List UInt8:=jf o (Vy k m)
def tyF(m:Int)(o:List UInt8)(l:List Int):List UInt8:=Oc (fun _ o k=>G6 m o k) 0 o l
theorem Cai(m:Int):∀(l:List Int) (k:Nat) (o:List UInt8),(Oc (fun _ o k=>G6 m o k) k o l).length≤o.length+l.length
 |[],_,o=>by simp[Oc]
 |x::r,k,o=>by
  simp only[Oc]
  have:=Cai m r (k+1) (G6 m o x)
  have h2:(G6 m o x).length≤o.length+1:=by
   have:=OW x m
   simp[G6];omega
  simp only[jw]
  omega
def Y8(s:Ca×List UInt8)(r:Ca):Ca×List UInt8:=(r,tyF r.1 s.2 (UP s.1 r))
def Z8(a:Ca)(l:List Ca):List UInt8:=(Oc (fun _ s r=>Y8 s r) 0 (a,[]) l).2
structure M6(k:Nat)(s:Ca×List UInt8):Prop where
 r:s.1.2.1.length≤Da
 t:s.2.length≤56*k
theorem L3{k:Nat}{s:Ca×List UInt8}(h:M6 k s){r:Ca}(hr:r.2.1.length≤Da):M6 (k+1) (Y8 s r):=by
 refine⟨hr,?_⟩
 have h1:=Cai r.1 (UP s.1 r) 0 s.2
 have h2:=K2 s.1 r
 have h3:=h.t
 show(tyF r.1 s.2 (UP s.1 r)).length≤_
 unfold tyF
 omega
theorem Tag{a:Ca}{l:List Ca}(ha:a.2.1.length≤Da)(hl:∀r∈l,r.2.1.length≤Da):(Z8 a l).length≤56*l.length:=by
 have:∀(l:List Ca) (k:Nat) (s:Ca×List UInt8),(∀r∈l,r.2.1.length≤Da)→M6 k s→M6 (k+l.length) (Oc (fun _ s r=>Y8 s r) k s l):=by
  intro l
  induction l with
  |nil=>intro k s _ h;exact h
  |cons x r ih=>
   intro k s hl h
   have:=ih (k+1) (Y8 s x) (fun y hy=>hl y (by simp[hy])) (L3 h (hl x (by simp)))
   rw[show k+(x::r).length=k+1+r.length by simp;omega]
   exact this
 have:=(this l 0 (a,[]) hl ⟨ha,by simp⟩).t
 unfold Z8
 simpa using this
theorem Taa(a r:Ca)(L:List Ca)(n i:Int)(l:List Int)(hl:l.length≤56)(o:List UInt8)(ho:o.length≤100000000):
 Dx (((),o,(),L,n,i,l,((ja l:Nat):Int),(0:Int),()),(a,r,()))=some (.inl (((),tyF r.1 o l,(),L,n,i,()),(a,r,()))):=by
 have h:=(Zd (step:=fun x:(Unit×List UInt8×Unit×List Ca×Int×Int×List Int×Int×Int×Unit)×Ca×Ca×Unit=>Du x.1.1 x.1.2.1 x.1.2.2.1 x.1.2.2.2.1 x.1.2.2.2.2.1 x.1.2.2.2.2.2.1 x.1.2.2.2.2.2.2.1 x.1.2.2.2.2.2.2.2.1 x.1.2.2.2.2.2.2.2.2.1 x.2.1 x.2.2.1) l (fun _ o k=>G6 r.1 o k)
  (fun o k=>(((),o,(),L,n,i,l,(l.length:Int),k,()),(a,r,()))) (fun o=>.inl (((),o,(),L,n,i,()),(a,r,()))) (fun k o'=>o'.length≤o.length+k) (fun k hk o' ho'=>by
   have hc:=OW l[k] r.1
   refine⟨?_,by simp only[G6,ze,qc];omega⟩
   simp only[Du]
   rw[Aa (by omega),Mf,Aa hk]
   simp only[zg,jn]
   rw[je hk]
   simp only[jb]
   rw[J7]
   simp only[jb]
   rw[Jb (by omega)]
   rfl) (fun o' ho'=>by
   simp only[Du]
   rw[Ba (by omega)]
   rfl) (by omega) o (by omega)).1
 exact h





def tri(i j:Nat):Nat:=if i≤j then j*(j+1)/2+i else i*(i+1)/2+j
def NN(e i j:Nat):Bool:=e.testBit (tri i j)
def VaT(e s t:Nat):Bool:=
 (s.testBit 0&&(t.testBit 0&&NN e 0 0||t.testBit 1&&NN e 0 1||(t.testBit 2&&NN e 0 2||t.testBit 3&&NN e 0 3))||s.testBit 1&&(t.testBit 0&&NN e 1 0||t.testBit 1&&NN e 1 1||(t.testBit 2&&NN e 1 2||t.testBit 3&&NN e 1 3)))||
 (s.testBit 2&&(t.testBit 0&&NN e 2 0||t.testBit 1&&NN e 2 1||(t.testBit 2&&NN e 2 2||t.testBit 3&&NN e 2 3))||s.testBit 3&&(t.testBit 0&&NN e 3 0||t.testBit 1&&NN e 3 1||(t.testBit 2&&NN e 3 2||t.testBit 3&&NN e 3 3)))
def EaZ(e a b s:Nat):Nat:=cond (VaT e (rowN 4 s a) (rowN 4 s b)) (s|||rowN 4 s b<<<(a*4)) s
def a3(e a:Nat):Nat→Nat→Nat:=fun b s=>EaZ e a b s
def a2(e R:Nat):Nat→Nat→Nat:=fun a s=>NH (a3 e a) R s
def a1(e R:Nat):Nat→Nat→Nat:=fun _ s=>NH (a2 e R) R s

theorem Uaa{a:Ca}{l:List Ca}(ha:a.2.1.length≤Da)(hl:∀r∈l,r.2.1.length≤Da)(hn:l.length≤Da):TE a l=some (Z8 a l,()):=by
 have h20:Da=1048576:=rfl
 have h:=(Zd (step:=fun x:(Unit×List UInt8×List Ca×Int×Int×Unit)×Ca×Unit=>Cu x.1.1 x.1.2.1 x.1.2.2.1 x.1.2.2.2.1 x.1.2.2.2.2.1 x.2.1) l (fun _ s r=>Y8 s r)
  (fun s k=>(((),s.2,l,(l.length:Int),k,()),(s.1,()))) (fun s=>.inl ((s.2,()),())) M6 (fun k hk s hs=>by
   have hm:l[k]∈l:=qi hk
   refine⟨?_,L3 hs (hl _ hm)⟩
   have ht:=hs.t
   simp only[Cu]
   rw[Aa (by omega),Ub hk]
   simp only[zg,jb]
   rw[W4 _ _ hs.r (hl _ hm)]
   simp only[jb]
   rw[Taa s.1 l[k] l (l.length:Int) (k:Int) (UP s.1 l[k]) (K2 _ _) s.2 (by omega)]
   rfl) (fun s hs=>by
   simp only[Cu]
   rw[Ba (by omega)]
   rfl) (by omega) (a,[]) ⟨ha,by simp⟩).1
 unfold TE Cx
 erw[h]
 rfl
theorem Fab(a:Ca)(L:List Ca)(i:Nat)(hi:i<L.length)(l:List Int)(hl:l.length≤56)(o:List UInt8)(ho:o.length≤100000000):
 Zx ((L,(),o,(i:Int),l,(0:Int),()),(a,()))=some (.inl ((L,(),tyF L[i].1 o l,(i:Int),()),(a,()))):=by
 have h:=(Zd (step:=fun x:(List Ca×Unit×List UInt8×Int×List Int×Int×Unit)×Ca×Unit=>Yu x.1.1 x.1.2.1 x.1.2.2.1 x.1.2.2.2.1 x.1.2.2.2.2.1 x.1.2.2.2.2.2.1 x.2.1) l (fun _ o k=>G6 L[i].1 o k)
  (fun o k=>((L,(),o,(i:Int),l,k,()),(a,()))) (fun o=>.inl ((L,(),o,(i:Int),()),(a,()))) (fun k o'=>o'.length≤o.length+k) (fun k hk o' ho'=>by
   have hc:=OW l[k] L[i].1
   refine⟨?_,by simp only[G6,ze,qc];omega⟩
   simp only[Yu]
   rw[Aa (by omega),Mf,Aa hk]
   simp only[zg,jn]
   rw[je hk]
   simp only[jb]
   rw[Ub hi]
   simp only[jb]
   rw[J8]
   simp only[jb]
   rw[Jb (by omega)]
   rfl) (fun o' ho'=>by
   simp only[Yu]
   rw[Ba (by omega)]
   rfl) (by omega) o (by omega)).1
 exact h
theorem Gab{a:Ca}{l:List Ca}(ha:a.2.1.length≤Da)(hl:∀r∈l,r.2.1.length≤Da)(hn:l.length≤Da):DF a l=some (Z8 a l,()):=by
 have h20:Da=1048576:=rfl
 have h:=(Zd (step:=fun x:(List Ca×Unit×List UInt8×Int×Unit)×Ca×Unit=>Xu x.1.1 x.1.2.1 x.1.2.2.1 x.1.2.2.2.1 x.2.1) l (fun _ s r=>Y8 s r)
  (fun s k=>((l,(),s.2,k,()),(s.1,()))) (fun s=>.inl ((s.2,()),())) M6 (fun k hk s hs=>by
   have hm:l[k]∈l:=qi hk
   refine⟨?_,L3 hs (hl _ hm)⟩
   have ht:=hs.t
   simp only[Xu]
   rw[Aa (by omega),Ub hk]
   simp only[zg,jb]
   rw[W5 _ _ hs.r (hl _ hm)]
   simp only[jb]
   rw[Fab s.1 l k hk (UP s.1 l[k]) (K2 _ _) s.2 (by omega)]
   simp only[jb,qf]
   rw[Ub hk]
   rfl) (fun s hs=>by
   simp only[Xu]
   rw[Ba (by omega)]
   rfl) (by omega) (a,[]) ⟨ha,by simp⟩).1
 unfold DF Yx
 erw[h]
 rfl
theorem Aat{m:Ea}:Pf (OF m 0 0 false [])=Tb m:=by
 cases hm:Tb m with
 |true=>exact(AB _).2 (Z6 hm)
 |false=>unfold Pf;simp[OF,hm]
def Uar:Gb:=(((0:Int),([]:List (List Ia)),()),([]:List (List Ta)),(0:Int),([]:List La),(0:Int),false,())
noncomputable def LG(m:Ea):Gb×(Bool×Unit):=cond (Tb m) (OF m 0 0 false [],true,()) (Uar,false,())
theorem ZW(m:Ea)(hz:Hb Bb m≤Da):Tk m []=some (LG m):=by
 have h20:Da=1048576:=rfl
 unfold LG
 cases hm:Tb m with
 |true=>exact Oaa hm
 |false=>
  unfold Tk
  rw[Gu _ hz,Bo [] (by show(0:Nat)≤_;omega)]
  simp only[jb]
  have:Dp (m,([]:List (List Ta)),(0:Int),([]:List La),(0:Int),false,())=some (false,()):=by
   have h:=Gz (OF m 0 0 false []) (by rw[EZ];simpa using hz)
   rw[Aat,hm]at h
   exact h
  rw[this]
  rfl
theorem CY(m:Ea)(hz:Hb Bb m≤Da):Dn m []=some (LG m):=by
 have h20:Da=1048576:=rfl
 have hs:Hb Rb (OF m 0 0 false [])≤Da:=by rw[EZ];simpa using hz
 unfold LG Dn
 have h1:Bm (m,([]:List (List Ta)),(0:Int),([]:List La),(0:Int),false,())=some (Tb m,()):=by
  have h:=Cs (OF m 0 0 false []) hs
  rw[Aat]at h
  exact h
 rw[h1]
 cases hm:Tb m with
 |true=>
  simp only[jb,jg,zh,zg]
  have:=Gn (OF m 0 0 false []) hs
  unfold OF at this
  rw[this]
  rfl
 |false=>rfl
noncomputable def Nx(e:Gb)(t:Ta):Cb×(Bool×Unit):=cond (Yc (FK e t)) (FK e t,true,()) (Mp,false,())
theorem W6(e:Gb)(t:Ta):Hb Cd (FK e t)=Hb Rb e:=by
 rw[GP]
 show Hb Rb e+Hb (.sl Pm) []=_
 rw[YH];rfl
theorem PJ(e:Gb)(t:Ta)(hz:Hb Rb e≤Da):GC e t=some (Nx e t):=by
 unfold GC Nx
 rw[Eu _ hz]
 simp only[jb]
 have:=QF (FK e t) (by rw[W6];exact hz)
 unfold FK at this
 rw[this]
 unfold FK
 cases Yc (e,t,([]:List Xa),(0:Int),(0:Int),(0:Int),(0:Int),())<;>rfl
theorem PB(e:Gb)(t:Ta)(hz:Hb Rb e≤Da):Ru e t=some (Nx e t):=by
 unfold Ru Nx
 have:=XF (FK e t) (by rw[W6];exact hz)
 unfold FK at this
 rw[this]
 simp only[jb]
 unfold FK
 cases Yc (e,t,([]:List Xa),(0:Int),(0:Int),(0:Int),(0:Int),())with
 |false=>rfl
 |true=>
  simp only[jg,zh,zg]
  rw[Gn _ hz]
  rfl
theorem Yau{m:Ea}(hz:Hb Bb m≤Da):Hb Rb (LG m).1≤Da:=by
 unfold LG
 cases Tb m with
 |true=>show Hb Rb (OF m 0 0 false [])≤_;rw[EZ];simpa using hz
 |false=>show(0:Nat)≤_;omega
theorem Xau{e:Gb}{t:Ta}(hz:Hb Rb e≤Da):Hb Cd (Nx e t).1≤Da:=by
 unfold Nx
 cases Yc (FK e t)with
 |true=>show Hb Cd (FK e t)≤_;rw[W6];exact hz
 |false=>show(0:Nat)≤_;omega
def Kl(m:Ea)(M:List (List Ta)):Gb:=(m,M,(0:Int),([]:List La),(0:Int),false,())
theorem GaE{m:Ea}{M:List (List Ta)}(hm:Tb m=true)(h4:M.length≤4)(hM:∀x∈M,Dc x=true):Jn (Kl m M):=
 ⟨hm,h4,(Z6 hm).hd,hM,fun x hx=>absurd hx (by simp[Kl]),YaL _⟩
structure OS(keys:Nat)(t0:Int)(m0:Nat)(l:List Xa)(t:Int)(m:Nat):Prop where
 f:Va (fun _ s x=>Ps (keys:Int) s x) 0 (t0,(m0:Int)) l=.inl (t,(m:Int))
 m0:m0<2^63
 m:m<2^63
theorem IaK(keys:Nat)(t:Int){m:Nat}(hm:m<2^63):OS keys t m [] t m:=⟨rfl,hm,hm⟩
theorem PW{keys:Int}{s s':Int×Int}{x:Xa}(h:Ps keys s x=.inl s'):St s x=true∧x.2.1<keys∧s'=(x.1,Ft .i64 s.2 (Ke .i64 1 x.2.1)):=by
 unfold Ps at h
 revert h
 cases h1:St s x with
 |false=>intro h;simp at h
 |true=>
  by_cases h2:x.2.1≥keys
  ·rw[Aa h2];intro h;simp at h
  ·rw[Ba h2]
   intro h
   simp only[j7,Bool.and_self,zg,za]at h
   exact⟨rfl,by omega,h.symm⟩
theorem D7{s:Int×Int}{x:Xa}(h:St s x=true):Hj x=true∧s.1≤x.1∧(x.2.2.1==(Jm s.2 x.2.1==1))=false:=by
 simp only[St,jd,yl,decide_eq_false_iff_not]at h
 exact⟨h.1,by have:=h.2.1;omega,h.2.2⟩
theorem XS{keys:Nat}{t0 t:Int}{m0 m:Nat}{x:Xa}{l:List Xa}(h:OS keys t0 m0 (x::l) t m):∃k:Nat,x.2.1=(k:Int)∧k<keys∧k≤31∧t0≤x.1∧0≤x.1∧x.1≤1000000∧
 (x.2.2.1==(m0.testBit k))=false∧OS keys x.1 (m0^^^2^k) l t m:=by
 have hf:=h.f
 simp only[Va]at hf
 cases hx:Ps (keys:Int) (t0,(m0:Int)) x with
 |inr u=>rw[hx]at hf;simp at hf
 |inl s'=>
  rw[hx]at hf
  obtain⟨h1,h2,rfl⟩:=PW hx
  obtain⟨h3,h4,h5⟩:=D7 h1
  have hk:=Zn h3
  obtain⟨k,hk'⟩:=jv hk.2.2.1
  have hk':x.2.1=(k:Int):=hk'
  simp only[hk']at hf h5
  rw[VO h.m0 (by omega)]at h5
  rw[CB (by omega),H2 h.m0 (YI (by omega)),FS (Ps (keys:Int)) l 1 0]at hf
  exact⟨k,hk',by omega,by omega,h4,hk.1,hk.2.1,h5,⟨hf,Nat.xor_lt_two_pow h.m0 (YI (by omega)),h.m⟩⟩
theorem Wap{keys:Nat}:∀{l:List Xa} {t0 t:Int} {m0 m:Nat},OS keys t0 m0 l t m→t0≤t
 |[],t0,t,m0,m,h=>by have:=h.f;simp only[Va,za,jh]at this;omega
 |x::l,t0,t,m0,m,h=>by
  obtain⟨k,_,_,_,h1,_,_,_,h2⟩:=XS h
  have:=Wap h2
  omega
theorem A7{keys:Nat}:∀{l:List Xa} {t0 t:Int} {m0 m:Nat},OS keys t0 m0 l t m→l≠[]→ZG l=t∧0≤t∧t≤1000000
 |[],_,_,_,_,_,h=>absurd rfl h
 |[x],t0,t,m0,m,h,_=>by
  obtain⟨k,_,_,_,h1,h3,h4,_,h2⟩:=XS h
  have:=h2.f
  simp only[Va,za,jh]at this
  refine⟨?_,by omega,by omega⟩
  show x.1=t
  exact this.1
 |x::y::l,t0,t,m0,m,h,_=>by
  obtain⟨k,_,_,_,h1,_,_,_,h2⟩:=XS h
  obtain⟨h3,h4⟩:=A7 h2 (by simp)
  refine⟨?_,h4⟩
  rw[←h3]
  simp[ZG]
theorem Kai{keys:Nat}{t0 t:Int}{m0 m:Nat}(h:OS keys t0 m0 [] t m):t=t0∧m=m0:=by
 have:=h.f
 simp only[Va,za,jh]at this
 exact⟨this.1.symm,by omega⟩
theorem Vap{keys:Nat}{l:List Xa}{t0 t0' t:Int}{m0 m:Nat}(h:OS keys t0 m0 l t m)(hle:t0'≤t0):∃t',t'≤t∧OS keys t0' m0 l t' m:=by
 cases l with
 |nil=>
  obtain⟨rfl,rfl⟩:=Kai h
  exact⟨t0',hle,IaK _ _ h.m0⟩
 |cons x l=>
  refine⟨t,Int.le_refl _,?_,h.m0,h.m⟩
  have hf:=h.f
  simp only[Va]at hf⊢
  cases hx:Ps (keys:Int) (t0,(m0:Int)) x with
  |inr u=>rw[hx]at hf;simp at hf
  |inl s'=>
   rw[hx]at hf
   obtain⟨h1,h2,rfl⟩:=PW hx
   obtain⟨h3,h4,h5⟩:=D7 h1
   have:Ps (keys:Int) (t0',(m0:Int)) x=.inl (x.1,Ft .i64 (m0:Int) (Ke .i64 1 x.2.1)):=by
    unfold Ps St
    simp only at h4 h5⊢
    rw[h3,Ba (show¬t0'>x.1 by omega),h5,Ba (show¬x.2.1≥(keys:Int) by omega)]
    rfl
   rw[this]
   exact hf
theorem HaE{keys:Nat}{l:List Xa}{t0 t:Int}{m0 m:Nat}(h:OS keys t0 m0 l t m)(h0:0≤t0)(hl:l.length≤64):Le l (m0:Int) (keys:Int)=true:=by
 obtain⟨t',_,h'⟩:=Vap h h0
 have h2:=ML (keys:Int) l 0 (0,(m0:Int))
 rw[h'.f]at h2
 have h3:=h2.symm
 simp only[Lx,jd]at h3
 unfold Le QP CI Bae
 rw[h3.1,Aa hl]
 have h4:=h3.2
 cases hx:Va (fun _ s x=>GD s x) 0 (0,(m0:Int)) l with
 |inl s=>rfl
 |inr u=>rw[hx]at h4;simp[Lx]at h4
theorem Cat{keys:Nat}{l:List Xa}{t0 t til:Int}{m0 m:Nat}(h:OS keys t0 m0 l t m)(ht:t≤til):Ug l til=true:=by
 unfold Ug
 by_cases hl:l=[]
 ·subst hl;rfl
 ·have:=(A7 h hl).1
  rw[Aa (show ZG l≤til by omega)]
  simp
structure X0(N keys:Nat)(d:Cb):Prop where
 pl:BN d
 ks:d.1.1.1=(keys:Int)
 mac:∀x∈d.1.2.1,x.length≤N
 tim:Mj d.2.1=true
 now:0≤d.2.2.2.1∧d.2.2.2.1≤1000000
 clk:0≤d.2.2.2.2.1∧d.2.2.2.2.1≤d.2.2.2.1
 tp:0≤d.2.2.2.2.2.1∧d.2.2.2.2.2.1≤(keys:Int)
 ta:0≤d.2.2.2.2.2.2.1∧d.2.2.2.2.2.2.1≤d.2.2.2.1
 q:∃(t0 t:Int) (m0 m:Nat),CD d.1.2.2.2.1 m0∧OS keys t0 m0 d.2.2.1 t m∧0≤t0∧t≤d.2.2.2.1
theorem Uau{l:List La}{m m':Nat}(h:CD l m)(h':CD l m'):m=m':=Nat.eq_of_testBit_eq fun j=>by rw[h.bit,h'.bit]
theorem FaK{N keys:Nat}{d:Cb}(h:X0 N keys d):Yc d=true:=by
 obtain⟨t0,t,m0,m,h1,h2,h3,h4⟩:=h.q
 obtain⟨m1,h5,h6⟩:=U7 h.pl.eng.hd
 obtain rfl:=Uau h1 h6
 have hE:=(AB _).2 h.pl.eng
 have hF:=HaE h2 h3 h.pl.len
 have hB:=Cat h2 h4
 have a1:=h.now;have a2:=h.clk;have a3:=h.tp;have a4:=h.ta;have a5:=h.ks
 unfold Yc
 rw[hE,h.tim,h5,a5,hF,hB,Aa a1,Aa a2,Aa a3,Aa a4]
 rfl
theorem P9{α S R:Type}(g:S→α→S⊕R):∀(l:List α) (k:Nat) (s:S) (r:R),Va (fun _ s x=>g s x) k s l=.inr r→∃x∈l,∃s',g s' x=.inr r
 |[],k,s,r,h=>by simp[Va]at h
 |x::l,k,s,r,h=>by
  simp only[Va]at h
  cases hx:g s x with
  |inr r'=>rw[hx]at h;simp only[Sum.inr.injEq]at h;subst h;exact⟨x,by simp,s,hx⟩
  |inl s'=>
   rw[hx]at h
   obtain⟨y,hy,s2,h2⟩:=P9 g l (k+1) s' r h
   exact⟨y,jr _ hy,s2,h2⟩
theorem Tas{t:AI}{key at_:Int}{l:List Xa}{til:Int}(hl:∀x∈l,x.1≤til)(h:(Ih t key at_ l til).1≠0):(Ih t key at_ l til).2.1≤til:=by
 revert h
 unfold Ih
 cases Mj t&&decide (0≤at_∧at_≤1000000)with
 |false=>intro h;exact absurd rfl h
 |true=>
  simp only[zg]
  generalize j4 .i64 (at_+t.1)=e
  cases hc:chR t.2.2.1 key e l with
  |inl s=>
   by_cases h1:til≥e
   ·rw[Aa h1];intro _;exact h1
   ·rw[Ba h1];intro h;exact absurd rfl h
  |inr r=>
   intro h
   show r.2≤til
   obtain⟨x,hx,s,hg⟩:=P9 (OV t.2.2.1 key e) l 0 0 r hc
   have hxl:=hl x hx
   have h':r.1≠0:=h
   unfold OV at hg
   revert hg
   cases Hj x with
   |false=>intro hg;simp only[zh,Sum.inr.injEq]at hg;subst hg;exact absurd rfl h'
   |true=>
    simp only[zg]
    by_cases he:x.1≥e
    ·rw[Aa he];intro hg;simp only[zg,Sum.inr.injEq]at hg;subst hg;show e≤til;omega
    ·rw[Ba he]
     simp only[zh]
     cases x.2.1==key<;>cases x.2.2.1<;>cases t.2.2.1==1<;>cases t.2.2.1==2<;>cases Jm s x.2.1==1<;>(intro hg;simp only[zg,zh,Sum.inr.injEq,reduceCtorEq]at hg;try(subst hg;exact hxl))
theorem Tad{keys:Nat}:∀{l:List Xa} {t0 t:Int} {m0 m:Nat},OS keys t0 m0 l t m→∀x∈l,x.1≤t
 |[],_,_,_,_,_,x,hx=>absurd hx (by simp)
 |y::l,t0,t,m0,m,h,x,hx=>by
  obtain⟨j,hj,h1,h2,h3,h4,h5,h6,h7⟩:=XS h
  rcases jp.1 hx with rfl|hx
  ·exact Wap h7
  ·exact Tad h7 x hx
theorem K9{N keys:Nat}{d d':Cb}{x:Xa}{r:List Xa}{l:List Ca}(h:X0 N keys d)(hq:d.2.2.1=x::r)(hs:Ak d x r=some (d',l)):
 X0 N keys d'∧d'.2.2.1=r∧d'.2.2.2.1=d.2.2.2.1∧d'.2.1=d.2.1∧d'.1.1=d.1.1:=by
 have hN:=D8 h.pl hq hs
 have hF:=HK h.pl hq
 obtain⟨t0,t,m0,m,hm,hE,h0,ht⟩:=h.q
 rw[hq]at hE
 obtain⟨k,hk,hkk,hk31,hx0,hx1,hx2,hdn,hR⟩:=XS hE
 have hxt:=Wap hR
 have hp:=((JP d.1.2.2.2.1).1 h.pl.eng.hd).2
 have hrl:∀y∈r,y.1≤d.2.2.2.1:=fun y hy=>by have:=Tad hR y hy;omega
 have b1:=h.clk;have b2:=h.tp;have b3:=h.ta;have b4:=h.now
 have hks:keys≤32:=by have:=(Pd h.pl.eng.km).k2;have:=h.ks;omega
 have hw:j4 .i64 (x.2.1+1)=(k:Int)+1:=by rw[hk,Af (by omega) (by omega)]
 have press:∀b:Bool,x.2.2.1=true→CD (pE d.1 k b).2.2.2.1 (m0^^^2^k):=by
  intro b hd
  have hn2:=hF.down hd
  refine I5 hm (by omega) ?_ _
  cases hh:ID d.1.2.2.2.1 k with
  |false=>rfl
  |true=>
   simp only[ID,qy,beq_iff_eq]at hh
   obtain⟨y,hy,hyk⟩:=hh
   exact absurd (hyk.trans hk.symm) (hn2 y hy)
 unfold Ak at hs
 cases hd:x.2.2.1 with
 |false=>
  rw[hd]at hs
  simp only[j7,zg,jc,jh]at hs
  obtain⟨rfl,rfl⟩:=hs
  obtain⟨hi,hi1,hi2⟩:=hF.up hd
  refine⟨⟨hN.1,h.ks,h.mac,h.tim,b4,?_,b2,?_,x.1,t,_,m,KX hp hm (by omega) hi (by rw[hi2,hk]),hR,hx1,ht⟩,rfl,rfl,rfl,rfl⟩
  ·show 0≤max d.2.2.2.2.1 x.1∧max d.2.2.2.2.1 x.1≤d.2.2.2.1
   omega
  ·show 0≤cond (d.2.2.2.2.2.1==j4 .i64 (x.2.1+1)) x.1 d.2.2.2.2.2.2.1∧cond (d.2.2.2.2.2.1==j4 .i64 (x.2.1+1)) x.1 d.2.2.2.2.2.2.1≤d.2.2.2.1
   cases d.2.2.2.2.2.1==j4 .i64 (x.2.1+1)
   ·exact b3
   ·show 0≤x.1∧x.1≤d.2.2.2.1;omega
 |true=>
  rw[hd,hw,hk]at hs
  simp only[jg,zh,jn]at hs
  cases htp:Df (Hi d.1.1.2.1 (Eg d.1.1 (Ej d.1.2.2.1 d.1.2.2.2.1) k) k)with
  |false=>
   rw[htp]at hs
   simp only[zh,jc,jh]at hs
   obtain⟨rfl,rfl⟩:=hs
   refine⟨⟨hN.1,h.ks,h.mac,h.tim,b4,?_,b2,b3,x.1,t,_,m,press false hd,hR,hx1,ht⟩,rfl,rfl,rfl,rfl⟩
   show 0≤max d.2.2.2.2.1 x.1∧max d.2.2.2.2.1 x.1≤d.2.2.2.1
   omega
  |true=>
   rw[htp]at hs
   simp only[zg]at hs
   have hch:∀ch:Int×Int,ch=(cond ((d.2.2.2.2.2.1==(k:Int)+1)&&!decide (j4 .i64 (x.1-d.2.2.2.2.2.2.1)≥d.2.1.2.1)) ((1:Int),x.1) ((Ih d.2.1 (k:Int) x.1 r d.2.2.2.1).1,(Ih d.2.1 (k:Int) x.1 r d.2.2.2.1).2.1))→ch.1≠0→ch.2≤d.2.2.2.1:=by
    rintro ch rfl
    cases(d.2.2.2.2.2.1==(k:Int)+1)&&!decide (j4 .i64 (x.1-d.2.2.2.2.2.2.1)≥d.2.1.2.1)with
    |true=>intro _;show x.1≤_;omega
    |false=>intro h0;exact Tas hrl h0
   revert hs
   generalize hche:(cond ((d.2.2.2.2.2.1==(k:Int)+1)&&!decide (j4 .i64 (x.1-d.2.2.2.2.2.2.1)≥d.2.1.2.1)) ((1:Int),x.1) ((Ih d.2.1 (k:Int) x.1 r d.2.2.2.1).1,(Ih d.2.1 (k:Int) x.1 r d.2.2.2.1).2.1))=ch
   have hcl:=hch ch hche.symm
   intro hs
   cases h0':ch.1==0 with
   |true=>rw[h0']at hs;simp at hs
   |false=>
    have hcl:=hcl (by simpa using h0')
    rw[h0']at hs
    simp only[zh,jc,jh]at hs
    obtain⟨rfl,rfl⟩:=hs
    refine⟨⟨hN.1,h.ks,h.mac,h.tim,b4,?_,?_,?_,x.1,t,_,m,press _ hd,hR,hx1,ht⟩,rfl,rfl,rfl,rfl⟩
    ·show 0≤max (max d.2.2.2.2.1 x.1) ch.2∧max (max d.2.2.2.2.1 x.1) ch.2≤d.2.2.2.1
     omega
    ·show 0≤cond (ch.1==2) 0 ((k:Int)+1)∧cond (ch.1==2) 0 ((k:Int)+1)≤(keys:Int)
     cases ch.1==2
     ·show 0≤(k:Int)+1∧(k:Int)+1≤_;omega
     ·show 0≤(0:Int)∧(0:Int)≤_;omega
    ·show 0≤cond (ch.1==2) d.2.2.2.2.2.2.1 x.1∧cond (ch.1==2) d.2.2.2.2.2.2.1 x.1≤d.2.2.2.1
     cases ch.1==2
     ·show 0≤x.1∧x.1≤_;omega
     ·exact b3
theorem Pad{N keys:Nat}:∀(n:Nat) (d:Cb) (s:List Qc),X0 N keys d→X0 N keys (Ve n d s).1∧(Ve n d s).1.2.2.1.length≤d.2.2.1.length∧(Ve n d s).1.2.2.2.1=d.2.2.2.1∧(Ve n d s).1.2.1=d.2.1
 |0,d,s,h=>⟨h,jo _,rfl,rfl⟩
 |n+1,d,s,h=>by
  cases hq:d.2.2.1 with
  |nil=>
   have e:Ve (n+1) d s=(d,s):=by simp only[Ve,hq]
   rw[e]
   exact⟨h,by rw[hq];exact jo _,rfl,rfl⟩
  |cons x r=>
   cases hst:Ak d x r with
   |none=>
    have e:Ve (n+1) d s=(d,s):=by simp only[Ve,hq,hst]
    rw[e]
    exact⟨h,by rw[hq];exact jo _,rfl,rfl⟩
   |some p=>
    obtain⟨d',l⟩:=p
    have e:Ve (n+1) d s=Ve n d' (Kq s d'.2.2.2.2.1 l):=by simp only[Ve,hq,hst]
    obtain⟨h1,h2,h3,h4,_⟩:=K9 h hq hst
    obtain⟨i1,i2,i3,i4⟩:=Pad n d' (Kq s d'.2.2.2.2.1 l) h1
    rw[e]
    exact⟨i1,by rw[h2]at i2;simp;omega,i3.trans h3,i4.trans h4⟩


theorem Qat{a b:Int}(ha:0≤a∧a≤15)(hb:0≤b∧b≤15):0≤Xd .i64 a b∧Xd .i64 a b≤15:=by
 obtain⟨m,rfl⟩:=jv ha.1
 obtain⟨n,rfl⟩:=jv hb.1
 rw[Q7 (by omega) (by omega)]
 have:m|||n<2^4:=Nat.or_lt_two_pow (by omega) (by omega)
 omega
theorem Rae(p:Int→Bool):∀n,(Nj p n).Pairwise (·<·)
 |0=>by simp[Nj]
 |n+1=>by
  have ih:=Rae p n
  simp only[Nj]
  cases p ((n+1:Nat):Int)with
  |false=>exact ih
  |true=>
   refine List.pairwise_append.2 ⟨ih,by simp,fun x hx y hy=>?_⟩
   simp only[qb]at hy
   have:=((ZQ p n x).1 hx).1.2
   omega
theorem PaH(p:Int→Bool):Tf (fun k x=>XD (Nj p 56) k x) 0 (Nj p 56)=true:=by
 rw[Rt]
 intro i hi
 have h1:=((ZQ p 56 (Nj p 56)[i]).1 (qi hi)).1
 simp only[XD,js,jd,qx,yl,decide_eq_true_eq,decide_eq_false_iff_not]
 refine⟨by omega,?_⟩
 by_cases h0:i=0
 ·exact .inl h0
 ·right
  have h2:=List.pairwise_iff_getElem.1 (Rae p 56) (i-1) i (by omega) hi (by omega)
  rw[qe,je (by omega)]
  simp only[qz]
  omega
theorem Oav{m:Int}{p:Int→Bool}(h:0≤m∧m≤15):Rc (m,Nj p 56,())=true:=by
 unfold Rc
 rw[Aa h]
 exact PaH p
theorem Ead{a:Ia}(h:Nb a=true)(hk:a.1=2∨a.1=8):0≤a.2.2.1∧a.2.2.1≤15:=by
 rw[Qb]at h
 unfold Wc at h
 omega
theorem Jaf:∀(l:List La) (k:Nat) (s:Int),0≤s∧s≤15→(∀x∈l,Xw x)→0≤Oc (fun _ s (h:La)=>cond (h.2.1.1==2||h.2.1.1==8) (Xd .i64 s h.2.1.2.2.1) s) k s l∧Oc (fun _ s (h:La)=>cond (h.2.1.1==2||h.2.1.1==8) (Xd .i64 s h.2.1.2.2.1) s) k s l≤15
 |[],_,s,hs,_=>hs
 |x::l,k,s,hs,hx=>by
  simp only[Oc]
  refine Jaf l (k+1) _ ?_ fun y hy=>hx y (jr _ hy)
  cases hc:(x.2.1.1==2||x.2.1.1==8)with
  |false=>exact hs
  |true=>
   simp only[qx,beq_iff_eq]at hc
   exact Qat hs (Ead (hx x (by simp)).act hc)
theorem Qac{l:List La}(h:Oe l=true):Rc (Kc l)=true:=by
 unfold Kc
 rw[EP]
 exact Oav (Jaf l 0 0 (by omega) (Lu h))
theorem Kaf:∀(D:List Lc) (k:Nat) (s:Int),0≤s∧s≤15→(∀x∈D,0≤x.2.1∧x.2.1≤15)→0≤Oc (fun _ s (p:Lc)=>Xd .i64 s p.2.1) k s D∧Oc (fun _ s (p:Lc)=>Xd .i64 s p.2.1) k s D≤15
 |[],_,s,hs,_=>hs
 |x::l,k,s,hs,hx=>by
  simp only[Oc]
  exact Kaf l (k+1) _ (Qat hs (hx x (by simp))) fun y hy=>hx y (jr _ hy)
theorem Kaz{b:Ca}(h:Rc b=true):0≤b.1∧b.1≤15:=by
 simp only[Rc,jd,decide_eq_true_eq]at h
 exact h.1
theorem Wag{b:Ca}(hb:Rc b=true){D:List Lc}(hD:∀x∈D,0≤x.2.1∧x.2.1≤15):Rc (IH b D)=true:=Oav (Kaf D 0 b.1 (Kaz hb) hD)
def S3(L:List La):Prop:=∀h∈L,0≤h.2.1.2.2.1∧h.2.1.2.2.1≤15
theorem R2{L:List La}(h:S3 L):∀x∈L.map Rd,0≤x.2.1∧x.2.1≤15:=by
 intro x hx
 obtain⟨y,hy,rfl⟩:=qk.1 hx
 exact h y hy
theorem Tah{α:Type}{l:List α}{r:Nat}{x:α}(h:x∈Th l r):x∈l:=by
 simp only[Th,Ya,ze,jl]at h
 rcases h with h|h
 ·exact List.mem_of_mem_take (List.mem_of_mem_drop h)
 ·exact List.mem_of_mem_take (List.mem_of_mem_drop h)
theorem Bam{x:Ta}{L:List La}(h:S3 L)(hx:0≤x.2.2.1∧x.2.2.1≤15)(r:Int):S3 (WI x L r):=by
 unfold WI
 cases x.1==1 with
 |true=>
  intro y hy
  rcases jl.1 (show y∈L++[Wh x]from hy)with hy|hy
  ·exact h y hy
  ·rw[qb.1 hy];exact hx
 |false=>
  cases x.1==2 with
  |true=>intro y hy;exact h y (Tah hy)
  |false=>exact h
theorem Sal{b:Ca}(hb:Rc b=true):∀(l:List Ta) (k:Nat) (s:List Ca×List La),(∀y∈s.1,Rc y=true)→S3 s.2→(∀x∈l,0≤x.2.2.1∧x.2.2.1≤15)→
 ∀y∈(Oc (fun _ s x=>mG b s x) k s l).1,Rc y=true
 |[],_,s,h,_,_=>h
 |x::l,k,s,h,hp,hl=>by
  simp only[Oc]
  have hx:=hl x (by simp)
  refine Sal hb l (k+1) (mG b s x) ?_ (Bam hp hx _) fun y hy=>hl y (jr _ hy)
  intro y hy
  rcases jl.1 (show y∈s.1++IR b s.2 x from hy)with hy|hy
  ·exact h y hy
  ·unfold IR at hy
   have h1:S3 (jf s.2 [Wh x]):=by
    intro z hz
    rcases jl.1 (show z∈s.2++[Wh x]from hz)with hz|hz
    ·exact hp z hz
    ·rw[qb.1 hz];exact hx
   cases h0:x.1==0 with
   |true=>
    rw[h0]at hy
    simp only[zg,jp,zf,or_false]at hy
    rcases hy with rfl|rfl
    ·exact Wag hb (R2 h1)
    ·exact Wag hb (R2 hp)
   |false=>
    rw[h0]at hy
    simp only[zh,qb]at hy
    subst hy
    exact Wag hb (R2 (Bam hp hx _))
theorem JX:∀(l:List Ta) (k:Nat) (L L':List La),Va (fun _ L x=>Co L x) k L l=.inl L'→∀x∈l,Nb (2,x.2.1,x.2.2.1,0,())=true
 |[],_,_,_,_,x,hx=>by simp at hx
 |y::l,k,L,L',h,x,hx=>by
  simp only[Va]at h
  cases hg:Co L y with
  |inr _=>rw[hg]at h;simp at h
  |inl L1=>
   rw[hg]at h
   simp only at h
   rcases jp.1 hx with rfl|hx
   ·unfold Co at hg
    cases hs:Zo x (Jd (Ki x.2.1 x.2.2.1) 0 L)with
    |false=>rw[hs]at hg;simp at hg
    |true=>
     simp only[Zo,jd]at hs
     exact hs.1
   ·exact JX l (k+1) L1 L' h x hx
theorem Laq{l:List Ta}(h:Dc l=true):∀x∈l,0≤x.2.2.1∧x.2.2.1≤15:=by
 intro x hx
 simp only[Dc,jd]at h
 have h2:=h.2
 cases hm:IX l with
 |inr _=>rw[hm]at h2;simp at h2
 |inl L=>exact Ead (JX l 0 [] L hm x hx) (.inl rfl)
theorem Lay{b:Ca}(hb:Rc b=true){l:List Ta}(h:Dc l=true):∀y∈SP b l,Rc y=true:=
 Sal hb l 0 ([],[]) (by simp) (fun y hy=>by simp at hy) (Laq h)
theorem JT{l:List Ta}(h:Dc l=true):l.length≤8:=by
 simp only[Dc,jd,decide_eq_true_eq]at h
 exact h.1
theorem Za1{e:Gb}(h:Jn e){n:Nat}(hk:(n:Int)<e.1.1)(hn:∀y∈e.2.2.2.1,y.1≠(n:Int))(b:Bool):(pR e n b).length≤17∧∀y∈pR e n b,Rc y=true:=by
 have F:=JZ h hk hn b
 have hR:=Qac F.hd
 unfold pR
 refine⟨?_,fun y hy=>?_⟩
 ·have h1:=CP (jf (pM e n b) [Kc (pH e n b)]) (Kc e.2.2.2.1)
  have h2:(jf (pM e n b) [Kc (pH e n b)]).length=(pM e n b).length+1:=by simp
  have:=F.ml
  omega
 ·have h1:=DK _ _ _ hy
  rcases jl.1 (show y∈pM e n b++[Kc (pH e n b)]from h1)with h2|h2
  ·unfold pM at h2
   revert h2
   cases(Qo e n b).2.2.2.1==9 with
   |false=>simp
   |true=>
    cases hd:decide ((Qo e n b).2.2.2.2.2.2.1<((ja e.2.1:Nat):Int))with
    |false=>simp
    |true=>
     simp only[zg]
     intro h2
     have hm:Dc (e.2.1.getD (Qo e n b).2.2.2.2.2.2.1.toNat [])=true:=by
      rw[qe]
      cases hg:e.2.1[(Qo e n b).2.2.2.2.2.2.1.toNat]? with
      |none=>rfl
      |some m=>exact h.mac m (List.mem_of_getElem? hg)
     exact Lay hR hm y h2
  ·rw[qb.1 h2];exact hR
theorem Aa2{e:Gb}(h:Jn e)(i:Nat):(rR e i).length≤17∧∀y∈rR e i,Rc y=true:=by
 have hE:=QaD h i
 have hR:=Qac hE.hd
 unfold rR
 refine⟨?_,fun y hy=>?_⟩
 ·have h1:=CP [Kc (wo e.2.2.2.1 i)] (Kc e.2.2.2.1)
  simp only[jw,j6]at h1
  omega
 ·have h1:=DK _ _ _ hy
  rw[qb.1 h1];exact hR
theorem ZaL{d d':Cb}{x:Xa}{r:List Xa}{l:List Ca}(h:BN d)(hq:d.2.2.1=x::r)(hs:Ak d x r=some (d',l)):l.length≤17∧∀y∈l,Rc y=true:=by
 have hF:=HK h hq
 have hk:=Zn hF.ev
 obtain⟨n,hn⟩:=jv hk.2.2.1
 have hn':x.2.1=(n:Int):=hn
 have press:∀b:Bool,x.2.2.1=true→(pR d.1 n b).length≤17∧∀y∈pR d.1 n b,Rc y=true:=by
  intro b hd
  have hn2:=hF.down hd
  rw[hn']at hn2
  exact Za1 h.eng (by have:=hF.key;omega) hn2 b
 unfold Ak at hs
 cases hd:x.2.2.1 with
 |false=>
  rw[hd]at hs
  simp only[j7,zg,jc,jh]at hs
  obtain⟨rfl,rfl⟩:=hs
  exact Aa2 h.eng _
 |true=>
  rw[hd]at hs
  simp only[jg,zh,hn',jn]at hs
  cases htp:Df (Hi d.1.1.2.1 (Eg d.1.1 (Ej d.1.2.2.1 d.1.2.2.2.1) n) n)with
  |false=>
   rw[htp]at hs
   simp only[zh,jc,jh]at hs
   obtain⟨rfl,rfl⟩:=hs
   exact press false hd
  |true=>
   rw[htp]at hs
   simp only[zg]at hs
   revert hs
   generalize(cond ((d.2.2.2.2.2.1==j4 .i64 ((n:Int)+1))&&!decide (j4 .i64 (x.1-d.2.2.2.2.2.2.1)≥d.2.1.2.1)) ((1:Int),x.1) ((Ih d.2.1 (n:Int) x.1 r d.2.2.2.1).1,(Ih d.2.1 (n:Int) x.1 r d.2.2.2.1).2.1))=ch
   intro hs
   cases h0':ch.1==0 with
   |true=>rw[h0']at hs;simp at hs
   |false=>
    rw[h0']at hs
    simp only[zh,jc,jh]at hs
    obtain⟨rfl,rfl⟩:=hs
    exact press _ hd
def CL(s:List Qc):Prop:=∀y∈s,Sx y=true
theorem Gaa{N keys:Nat}:∀(n:Nat) (d:Cb) (s:List Qc),X0 N keys d→CL s→CL (Ve n d s).2∧(Ve n d s).2.length≤s.length+17*n
 |0,d,s,h,hs=>⟨hs,by show s.length≤_;omega⟩
 |n+1,d,s,h,hs=>by
  cases hq:d.2.2.1 with
  |nil=>
   have e:Ve (n+1) d s=(d,s):=by simp only[Ve,hq]
   rw[e];exact⟨hs,by show s.length≤_;omega⟩
  |cons x r=>
   cases hst:Ak d x r with
   |none=>
    have e:Ve (n+1) d s=(d,s):=by simp only[Ve,hq,hst]
    rw[e];exact⟨hs,by show s.length≤_;omega⟩
   |some p=>
    obtain⟨d',l⟩:=p
    have e:Ve (n+1) d s=Ve n d' (Kq s d'.2.2.2.2.1 l):=by simp only[Ve,hq,hst]
    have hN:=K9 h hq hst
    have hR:=ZaL h.pl hq hst
    have b1:=hN.1.clk
    have b2:=hN.1.now
    have ih:=Gaa n d' (Kq s d'.2.2.2.2.1 l) hN.1 (fun y hy=>by
     rcases jl.1 (show y∈s++_ from hy)with hy|hy
     ·exact hs y hy
     ·obtain⟨r',hr',rfl⟩:=qk.1 hy
      show(decide (0≤d'.2.2.2.2.1∧d'.2.2.2.2.1≤1000000)&&Rc r')=true
      rw[Aa (by omega),hR.2 r' hr'];rfl)
    have e2:=WX s d'.2.2.2.2.1 l
    rw[e]
    exact⟨ih.1,by omega⟩
theorem Fat{keys:Nat}:∀(l:List Xa) (k:Nat) (t0:Int) (m0:Nat),m0<2^63→Lx (Va (fun _ s x=>Ps (keys:Int) s x) k (t0,(m0:Int)) l)=true→
 ∃(t:Int) (m:Nat),m<2^63∧Va (fun _ s x=>Ps (keys:Int) s x) k (t0,(m0:Int)) l=.inl (t,(m:Int))
 |[],k,t0,m0,hm,_=>⟨t0,m0,hm,rfl⟩
 |x::l,k,t0,m0,hm,h=>by
  simp only[Va]at h⊢
  cases hg:Ps (keys:Int) (t0,(m0:Int)) x with
  |inr _=>rw[hg]at h;simp[Lx]at h
  |inl s'=>
   rw[hg]at h
   simp only at h⊢
   obtain⟨h1,_,h3⟩:=PW hg
   have he:=(D7 h1).1
   have hk:=Zn he
   obtain⟨n,hn⟩:=jv hk.2.2.1
   have hn':x.2.1=(n:Int):=hn
   have h2n:2^n<2^63:=Nat.pow_lt_pow_right (by omega) (by omega)
   have hb:Ke .i64 1 x.2.1=((2^n:Nat):Int):=by
    rw[hn',show(1:Int)=((1:Nat):Int)from rfl,Cay (by rw[Nat.one_mul];exact h2n) (by omega),Nat.shiftLeft_eq,Nat.one_mul]
   have hx:Ft .i64 (m0:Int) (Ke .i64 1 x.2.1)=((m0^^^2^n:Nat):Int):=by rw[hb];exact H2 hm h2n
   subst h3
   simp only at h⊢
   rw[hx]at h⊢
   exact Fat l (k+1) x.1 _ (Nat.xor_lt_two_pow hm h2n) h
theorem K1{d:Cb}(h:Yc d=true):X0 8 d.1.1.1.toNat d:=by
 have h0:=h
 simp only[Yc,jd,decide_eq_true_eq]at h
 obtain⟨hE,ht,hn,hc,hF,hB,htp,hta⟩:=h
 have hE':=(AB _).1 hE
 have hk:=Pd hE'.km
 have hk1:=hk.k1
 have hks:((d.1.1.1.toNat:Nat):Int)=d.1.1.1:=by omega
 obtain⟨m,h5,h6⟩:=U7 hE'.hd
 have hpl:BN d:=by
  have:=Y6 (l:=[]) (til:=d.2.2.2.1) h0 (by rw[show jf d.2.2.1 []=d.2.2.1 from yy _];exact hF)
  have e:Yn d [] d.2.2.2.1=d:=by unfold Yn;rw[show jf d.2.2.1 []=d.2.2.1 from yy _]
  rw[e]at this
  exact this
 have hm63:m<2^63:=h6.lt
 have hL:Lx (Va (fun _ s x=>Ps ((d.1.1.1.toNat:Nat):Int) s x) 0 (0,(m:Int)) d.2.2.1)=true:=by
  rw[ML,hks]
  simp only[Le,jd]at hF
  have h7:(QP d.1.1.1 d.2.2.1)=true:=hF.1
  have h8:=Wad (q:=d.2.2.1) (d:=Sz d.1.2.2.2.1) (keys:=d.1.1.1) (by simp only[Le,jd];exact hF)
  rw[h5]at h8
  unfold QP at h7
  rw[h7,h8]
  rfl
 obtain⟨t,m2,hm2,hfe⟩:=Fat _ _ _ _ hm63 hL
 have hEv:OS d.1.1.1.toNat 0 m d.2.2.1 t m2:=⟨hfe,hm63,hm2⟩
 refine⟨hpl,hks.symm,fun x hx=>JT (hE'.mac x hx),ht,hn,hc,by rw[hks];exact htp,hta,0,t,m,m2,h6,hEv,Int.le_refl _,?_⟩
 cases hl:d.2.2.1 with
 |nil=>
  rw[hl]at hEv
  have:=(Kai hEv).1
  omega
 |cons x r=>
  have hne:d.2.2.1≠[]:=by rw[hl];simp
  have h9:=(A7 hEv hne).1
  unfold Ug at hB
  have h10:(((d.2.2.1.length:Nat):Int)==0)=false:=by rw[hl];simp;omega
  rw[h10]at hB
  simp only[yu,decide_eq_true_eq]at hB
  omega
def Mb(b:Int):List UInt8→List UInt8→List (List UInt8)
 |cur,[]=>[cur]
 |cur,c::l=>cond (((UInt8.toNat c:Nat):Int)==b) (cur::Mb b [] l) (Mb b (cur++[c]) l)
theorem Wq(b:Int):∀(l cur:List UInt8),(Mb b cur l).length≤l.length+1
 |[],_=>by simp[Mb]
 |c::l,cur=>by
  have h1:=Wq b l []
  have h2:=Wq b l (cur++[c])
  simp only[Mb]
  cases((UInt8.toNat c:Nat):Int)==b
  ·simp only[zh,jw];omega
  ·simp only[zg,jw];omega
theorem Tn(b:Int):∀(l cur:List UInt8),∀x∈Mb b cur l,x.length≤cur.length+l.length
 |[],cur=>by simp[Mb]
 |c::l,cur=>by
  have h1:=Tn b l []
  have h2:=Tn b l (cur++[c])
  simp only[Mb]
  cases((UInt8.toNat c:Nat):Int)==b
  ·simp only[zh]
   intro x hx
   have:=h2 x hx
   simp at this⊢;omega
  ·simp only[zg]
   intro x hx
   rcases jp.1 hx with rfl|hx
   ·omega
   ·have:=h1 x hx
    simp at this⊢;omega
theorem G9{l:List UInt8}{i j:Nat}(h:i≤j)(hj:j<l.length):Ya l i (j+1)=Ya l i j++[l[j]]:=by
 unfold Ya
 rw[List.take_add_one,List.drop_append,je hj]
 simp only[Option.toList_some,List.length_take]
 rw[show i-min j l.length=0 by omega];rfl
theorem NQ{l:List UInt8}{i:Nat}:Ya l i i=[]:=by simp[Ya]
theorem LN(s:List UInt8)(b:Int)(hs:s.length≤100000000):∀(n i fr:Nat) (o:List (List UInt8)),i+n=s.length→fr≤i→o.length≤i→
 Gi ((s,b,o,(fr:Int),(i:Int),()),())=some (.inl ((o++Mb b (Ya s fr i) (s.drop i),()),()))
 |0,i,fr,o,hn,hf,ho=>by
  have:i=s.length:=by omega
  subst this
  unfold Gi
  refine(Zb (z:=some (Sum.inl ((s,b,o++[Ya s fr s.length],((s.length+1:Nat):Int),((s.length+1:Nat):Int),()),()))) ?_).trans ?_
  ·simp only[Ho]
   rw[Aa (by omega),show(((s.length:Nat):Int)==((ja s:Nat):Int))=true by simp,Sg (by omega) (by omega),Jb (by simp;omega),Ee (by omega)]
   rfl
  ·refine(Zb (z:=some (Sum.inr (.inl ((o++[Ya s fr s.length],()),())))) ?_).trans ?_
   ·simp only[Ho]
    rw[Ba (by omega)];rfl
   ·simp[Mb]
 |n+1,i,fr,o,hn,hf,ho=>by
  have hi:i<s.length:=by omega
  have hd:s.drop i=s[i]::s.drop (i+1):=List.drop_eq_getElem_cons hi
  unfold Gi
  rw[hd,Mb]
  by_cases hc:(((UInt8.toNat s[i]:Nat):Int)==b)=true
  ·refine(Zb (z:=some (Sum.inl ((s,b,o++[Ya s fr i],((i+1:Nat):Int),((i+1:Nat):Int),()),()))) ?_).trans ?_
   ·simp only[Ho]
    rw[Aa (by omega),show((i:Int)==((ja s:Nat):Int))=false by simp;omega,Ub hi]
    simp only[zg,zh,jb]
    rw[hc,Sg (by omega) (by omega),Jb (by simp;omega),Ee (by omega)]
    rfl
   ·rw[hc,zg]
    have:=LN s b hs n (i+1) (i+1) (o++[Ya s fr i]) (by omega) (by omega) (by simp;omega)
    rw[NQ]at this
    refine this.trans ?_
    simp
  ·have hc':(((UInt8.toNat s[i]:Nat):Int)==b)=false:=by simpa using hc
   refine(Zb (z:=some (Sum.inl ((s,b,o,(fr:Int),((i+1:Nat):Int),()),()))) ?_).trans ?_
   ·simp only[Ho]
    rw[Aa (by omega),show((i:Int)==((ja s:Nat):Int))=false by simp;omega,Ub hi]
    simp only[zg,zh,jb]
    rw[hc',Ee (by omega)]
    rfl
   ·rw[hc',zh]
    have:=LN s b hs n (i+1) fr o (by omega) (by omega) (by omega)
    rw[G9 hf hi]at this
    exact this
theorem Jp{s:List UInt8}(b:Int)(hs:s.length≤100000000):Og s b=some (Mb b [] s,()):=by
 have:=LN s b hs s.length 0 0 [] (by omega) (by omega) (by simp)
 unfold Og
 rw[show(0:Int)=((0:Nat):Int)from rfl,this]
 simp[NQ]
theorem FN(s:List UInt8)(b:Int)(hs:s.length≤100000000):∀(n i fr:Nat) (o:List (List UInt8)),i+n=s.length→fr≤i→o.length≤i→
 ∃(o':List (List UInt8)) (fr':Nat),fr'≤s.length∧o'.length≤s.length∧o'++[Ya s fr' s.length]=o++Mb b (Ya s fr i) (s.drop i)∧
 Vk ((s,b,o,(fr:Int),(i:Int),()),())=some (.inl ((s,o',(fr':Int),()),()))
 |0,i,fr,o,hn,hf,ho=>by
  have:i=s.length:=by omega
  subst this
  refine⟨o,fr,hf,ho,by simp[Mb],?_⟩
  unfold Vk
  refine(Zb (z:=some (Sum.inr (.inl ((s,o,(fr:Int),()),())))) ?_).trans rfl
  simp only[Bu]
  rw[Ba (by omega)];rfl
 |n+1,i,fr,o,hn,hf,ho=>by
  have hi:i<s.length:=by omega
  have hd:s.drop i=s[i]::s.drop (i+1):=List.drop_eq_getElem_cons hi
  unfold Vk
  rw[hd,Mb]
  by_cases hc:(((UInt8.toNat s[i]:Nat):Int)==b)=true
  ·obtain⟨o',fr',h1,h2,h3,h4⟩:=FN s b hs n (i+1) (i+1) (o++[Ya s fr i]) (by omega) (by omega) (by simp;omega)
   refine⟨o',fr',h1,h2,?_,?_⟩
   ·rw[h3,hc,zg,NQ];simp
   ·refine(Zb (z:=some (Sum.inl ((s,b,o++[Ya s fr i],((i+1:Nat):Int),((i+1:Nat):Int),()),()))) ?_).trans h4
    simp only[Bu]
    rw[Aa (by omega),Ub hi]
    simp only[zg,zh,jb]
    rw[hc,Sg (by omega) (by omega),Jb (by simp;omega),Ee (by omega)]
    rfl
  ·have hc':(((UInt8.toNat s[i]:Nat):Int)==b)=false:=by simpa using hc
   obtain⟨o',fr',h1,h2,h3,h4⟩:=FN s b hs n (i+1) fr o (by omega) (by omega) (by omega)
   refine⟨o',fr',h1,h2,?_,?_⟩
   ·rw[h3,hc',zh,G9 hf hi]
   ·refine(Zb (z:=some (Sum.inl ((s,b,o,(fr:Int),((i+1:Nat):Int),()),()))) ?_).trans h4
    simp only[Bu]
    rw[Aa (by omega),Ub hi]
    simp only[zg,zh,jb]
    rw[hc',Ee (by omega)]
    rfl
theorem UG{s:List UInt8}(b:Int)(hs:s.length≤100000000):Tm s b=some (Mb b [] s,()):=by
 obtain⟨o,fr,h1,h2,h3,h4⟩:=FN s b hs s.length 0 0 [] (by omega) (by omega) (by simp)
 unfold Tm
 rw[show(0:Int)=((0:Nat):Int)from rfl,h4]
 simp only[jb,qf]
 rw[Sg h1 (by omega),Jb (by simp;omega)]
 simp only[zg,jn]
 rw[show jf o [Ya s fr s.length]=o++[Ya s fr s.length]from rfl,h3]
 simp[NQ]
def Yy(f:Int→List UInt8)(s:List UInt8):Nat→Nat→Option Nat
 |0,_=>none
 |n+1,c=>cond (f (c:Int)==s) (some c) (Yy f s n (c+1))
def MaD:Option Nat→Int
 |some k=>(k:Int)
 |none=>0
def AH(s:List UInt8):Int:=MaD (Yy Dg s 56 1)
def XL(s:List UInt8):Int:=MaD (Yy Tg s 15 1)
theorem IY(s:List UInt8):∀(n c:Nat),c+n=57→Eo ((s,(c:Int),()),())=some (match Yy Dg s n c with|some k=>.inr (((k:Int),()),())|none=>.inl ((),()))
 |0,c,h=>by
  unfold Eo
  refine(Zb (z:=some (Sum.inr (.inl ((),())))) ?_).trans rfl
  simp only[MC]
  rw[Ba (by omega)];rfl
 |n+1,c,h=>by
  have ih:=IY s n (c+1) (by omega)
  unfold Eo at ih⊢
  rw[Yy]
  cases hc:Dg (c:Int)==s with
  |true=>
   refine(Zb (z:=some (Sum.inr (.inr (((c:Int),()),())))) ?_).trans rfl
   simp only[MC]
   rw[Aa (by omega),An]
   simp only[zg,jb]
   rw[hc];rfl
  |false=>
   refine(Zb (z:=some (Sum.inl ((s,((c+1:Nat):Int),()),()))) ?_).trans ih
   simp only[MC]
   rw[Aa (by omega),An]
   simp only[zg,jb]
   rw[hc,Ee (by omega)];rfl
theorem TK(s:List UInt8):Vv s=some (AH s,()):=by
 have:=IY s 56 1 rfl
 unfold Vv AH
 rw[show(1:Int)=((1:Nat):Int)from rfl,this]
 cases Yy Dg s 56 1<;>rfl
theorem CX(s:List UInt8):∀(n c:Nat),c+n=57→1≤c→Ao ((s,WB,((ja WB:Nat):Int),((c-1:Nat):Int),()),())=some (match Yy Dg s n c with|some k=>.inr (((k:Int),()),())|none=>.inl ((),()))
 |0,c,h,h1=>by
  unfold Ao
  refine(Zb (z:=some (Sum.inr (.inl ((),())))) ?_).trans rfl
  simp only[BC]
  rw[MQ,Ba (by omega)];rfl
 |n+1,c,h,h1=>by
  have ih:=CX s n (c+1) (by omega) (by omega)
  obtain⟨a1,a2⟩:=W7 (c:=(c:Int)) (by omega)
  rw[show(c:Int)-1=((c-1:Nat):Int) by omega]at a1 a2
  unfold Ao at ih⊢
  rw[Yy]
  cases hc:Dg (c:Int)==s with
  |true=>
   refine(Zb (z:=some (Sum.inr (.inr (((c:Int),()),())))) ?_).trans rfl
   simp only[BC]
   rw[Aa (by rw[MQ];omega),a2,a1]
   simp only[zg,jb]
   rw[hc,Ee (by omega),show c-1+1=c by omega];rfl
  |false=>
   refine(Zb (z:=some (Sum.inl ((s,WB,((ja WB:Nat):Int),((c+1-1:Nat):Int),()),()))) ?_).trans ih
   simp only[BC]
   rw[Aa (by rw[MQ];omega),a2,a1]
   simp only[zg,jb]
   rw[hc,Ee (by omega),show c-1+1=c+1-1 by omega];rfl
theorem OE(s:List UInt8):Jv s=some (AH s,()):=by
 have:=CX s 56 1 rfl (by omega)
 unfold Jv AH
 rw[Z4]
 simp only[jb]
 rw[show(0:Int)=((1-1:Nat):Int)from rfl,this]
 cases Yy Dg s 56 1<;>rfl
theorem UV(s:List UInt8):∀(n c:Nat),c+n=16→Zk ((s,(c:Int),()),())=some (match Yy Tg s n c with|some k=>.inr (((k:Int),()),())|none=>.inl ((),()))
 |0,c,h=>by
  unfold Zk
  refine(Zb (z:=some (Sum.inr (.inl ((),())))) ?_).trans rfl
  simp only[Su]
  rw[Ba (by omega)];rfl
 |n+1,c,h=>by
  have ih:=UV s n (c+1) (by omega)
  unfold Zk at ih⊢
  rw[Yy]
  cases hc:Tg (c:Int)==s with
  |true=>
   refine(Zb (z:=some (Sum.inr (.inr (((c:Int),()),())))) ?_).trans rfl
   simp only[Su]
   rw[Aa (by omega),Pu]
   simp only[zg,jb]
   rw[hc];rfl
  |false=>
   refine(Zb (z:=some (Sum.inl ((s,((c+1:Nat):Int),()),()))) ?_).trans ih
   simp only[Su]
   rw[Aa (by omega),Pu]
   simp only[zg,jb]
   rw[hc,Ee (by omega)];rfl
theorem AG(s:List UInt8):Ir s=some (XL s,()):=by
 have:=UV s 15 1 rfl
 unfold Ir XL
 rw[show(1:Int)=((1:Nat):Int)from rfl,this]
 cases Yy Tg s 15 1<;>rfl
theorem SV(s:List UInt8):∀(n c:Nat),c+n=16→Uk ((s,(c:Int),()),())=some (match Yy Tg s n c with|some k=>.inr (((k:Int),()),())|none=>.inl ((),()))
 |0,c,h=>by
  unfold Uk
  refine(Zb (z:=some (Sum.inr (.inl ((),())))) ?_).trans rfl
  simp only[Xt]
  rw[Ba (by omega)];rfl
 |n+1,c,h=>by
  have ih:=SV s n (c+1) (by omega)
  unfold Uk at ih⊢
  rw[Yy]
  cases hc:Tg (c:Int)==s with
  |true=>
   refine(Zb (z:=some (Sum.inr (.inr (((c:Int),()),())))) ?_).trans rfl
   simp only[Xt]
   rw[Aa (by omega),Ut]
   simp only[zg,jb]
   rw[hc];rfl
  |false=>
   refine(Zb (z:=some (Sum.inl ((s,((c+1:Nat):Int),()),()))) ?_).trans ih
   simp only[Xt]
   rw[Aa (by omega),Ut]
   simp only[zg,jb]
   rw[hc,Ee (by omega)];rfl
theorem UF(s:List UInt8):Br s=some (XL s,()):=by
 have:=SV s 15 1 rfl
 unfold Br XL
 rw[show(1:Int)=((1:Nat):Int)from rfl,this]
 cases Yy Tg s 15 1<;>rfl
theorem p10{i:Nat}(h:i≤9):(10:Int)^i≤1000000000:=by
 have:i=0∨i=1∨i=2∨i=3∨i=4∨i=5∨i=6∨i=7∨i=8∨i=9:=by omega
 rcases this with rfl|rfl|rfl|rfl|rfl|rfl|rfl|rfl|rfl|rfl<;>decide
theorem Ya1{i:Nat}(h:i≤8):(10:Int)^i≤100000000:=by
 have:i=0∨i=1∨i=2∨i=3∨i=4∨i=5∨i=6∨i=7∨i=8:=by omega
 rcases this with rfl|rfl|rfl|rfl|rfl|rfl|rfl|rfl|rfl<;>decide
def Xy:List UInt8→Int→Option Int
 |[],v=>some v
 |c::l,v=>cond (decide (((UInt8.toNat c:Nat):Int)<48)||decide (((UInt8.toNat c:Nat):Int)>57)) none (Xy l (10*v+((UInt8.toNat c:Nat):Int)-48))
theorem X6:∀(l:List UInt8) (v w:Int) (k:Nat),0≤v→v<(10:Int)^k→Xy l v=some w→0≤w∧w<(10:Int)^(k+l.length)
 |[],v,w,k,h0,h1,h=>by simp only[Xy,jc]at h;subst h;exact⟨h0,h1⟩
 |c::l,v,w,k,h0,h1,h=>by
  simp only[Xy]at h
  revert h
  by_cases hc:((UInt8.toNat c:Nat):Int)<48∨((UInt8.toNat c:Nat):Int)>57
  ·have:(decide (((UInt8.toNat c:Nat):Int)<48)||decide (((UInt8.toNat c:Nat):Int)>57))=true:=by simpa using hc
   rw[this];intro h;simp at h
  ·have:(decide (((UInt8.toNat c:Nat):Int)<48)||decide (((UInt8.toNat c:Nat):Int)>57))=false:=by simpa using hc
   rw[this]
   intro h
   have hp:(10:Int)^(k+1)=10^k*10:=Int.pow_succ 10 k
   have:=X6 l (10*v+((UInt8.toNat c:Nat):Int)-48) w (k+1) (by omega) (by rw[hp];omega) h
   rw[jw,show k+(l.length+1)=k+1+l.length by omega]
   exact this
theorem Q0(s t:List UInt8)(ht:t.length≤9):∀(n i:Nat) (v:Int),i+n=t.length→0≤v→v<(10:Int)^i→
 Vg ((s,t,v,(i:Int),()),())=some (match Xy (t.drop i) v with|some w=>.inl ((s,t,w,()),())|none=>.inr (((0:Int),false,()),()))
 |0,i,v,hn,h0,h1=>by
  have:i=t.length:=by omega
  subst this
  unfold Vg
  refine(Zb (z:=some (Sum.inr (.inl ((s,t,v,()),())))) ?_).trans ?_
  ·simp only[Vp]
   rw[Ba (by omega)];rfl
  ·simp[Xy]
 |n+1,i,v,hn,h0,h1=>by
  have hi:i<t.length:=by omega
  have hd:t.drop i=t[i]::t.drop (i+1):=List.drop_eq_getElem_cons hi
  have hp:(10:Int)^i≤100000000:=Ya1 (by omega)
  have hp1:(10:Int)^(i+1)=10^i*10:=Int.pow_succ 10 i
  have hc:=UInt8.toNat_lt t[i]
  unfold Vg
  rw[hd,Xy]
  by_cases c1:((UInt8.toNat t[i]:Nat):Int)<48
  ·refine(Zb (z:=some (Sum.inr (.inr (((0:Int),false,()),())))) ?_).trans ?_
   ·simp only[Vp]
    rw[Aa (by omega),Ub hi]
    simp only[zg,jb]
    rw[Aa c1];rfl
   ·rw[Aa c1];rfl
  ·by_cases c2:((UInt8.toNat t[i]:Nat):Int)>57
   ·refine(Zb (z:=some (Sum.inr (.inr (((0:Int),false,()),())))) ?_).trans ?_
    ·simp only[Vp]
     rw[Aa (by omega),Ub hi]
     simp only[zg,jb]
     rw[Ba c1,Aa c2];rfl
    ·rw[Aa c2,Ba c1];rfl
   ·refine(Zb (z:=some (Sum.inl ((s,t,10*v+((UInt8.toNat t[i]:Nat):Int)-48,((i+1:Nat):Int),()),()))) ?_).trans ?_
    ·simp only[Vp]
     rw[Aa (by omega),Ub hi]
     simp only[zg,jb]
     rw[Ba c1,Ba c2,Ee (by omega),Af (n:=10*v) (by omega) (by omega),Af (n:=((UInt8.toNat t[i]:Nat):Int)) (by omega) (by omega),
      Af (n:=10*v+((UInt8.toNat t[i]:Nat):Int)) (by omega) (by omega),Af (by omega) (by omega)]
     rfl
    ·rw[Ba c1,Ba c2]
     exact Q0 s t ht n (i+1) _ (by omega) (by omega) (by omega)
def WD(t s:List UInt8):Int×(Bool×Unit):=
 cond (decide (((ja t:Nat):Int)<1)) ((0:Int),false,()) (cond (decide (((ja t:Nat):Int)>9)) ((0:Int),false,())
  (match Xy t 0 with
  |none=>((0:Int),false,())
  |some v=>cond (Lib.itoa (cond (decide (((ja t:Nat):Int)<((ja s:Nat):Int))) (-v) v) !=s) ((0:Int),false,()) (cond (decide (((ja t:Nat):Int)<((ja s:Nat):Int))) (-v) v,true,())))
def Sp:List UInt8→Int×(Bool×Unit)
 |[]=>((0:Int),false,())
 |c::l=>cond (((UInt8.toNat c:Nat):Int)==45) (WD l (c::l)) (WD (c::l) (c::l))
theorem zbd:-999999999≤(0:Int)∧(0:Int)≤999999999:=by decide
theorem CaI(t s:List UInt8):-999999999≤(WD t s).1∧(WD t s).1≤999999999:=by
 unfold WD
 by_cases h1:((ja t:Nat):Int)<1
 ·rw[Aa h1];exact zbd
 ·by_cases h2:((ja t:Nat):Int)>9
  ·rw[Ba h1,Aa h2];exact zbd
  ·rw[Ba h1,Ba h2]
   simp only[zh]
   cases hg:Xy t 0 with
   |none=>exact zbd
   |some v=>
    simp only
    have hb:=X6 t 0 v 0 (by omega) (by decide) hg
    have hp:=p10 (show 0+t.length≤9 by omega)
    cases Lib.itoa (cond (decide (((ja t:Nat):Int)<((ja s:Nat):Int))) (-v) v) !=s with
    |true=>exact zbd
    |false=>
     simp only[zh]
     cases decide (((ja t:Nat):Int)<((ja s:Nat):Int))
     ·simp only[zh];omega
     ·simp only[zg];omega
theorem Z5(s t:List UInt8)(h2:¬((ja t:Nat):Int)>9)(h1:¬((ja t:Nat):Int)<1):
 (jz (Vg ((s,t,(0:Int),(0:Int),()),())) (Sum.elim (fun y11=>(cond (decide (((ja y11.1.2.1:Nat):Int)<((ja y11.1.1:Nat):Int)))
 (jz (Sd (Go.IntKind.wrap .i64 ((0:Int)-y11.1.2.2.1))) fun r13=>
 (cond (r13.1 !=y11.1.1)
 (some ((0:Int),false,()))
 (some ((Go.IntKind.wrap .i64 ((0:Int)-y11.1.2.2.1)),true,()))))
 (jz (Sd y11.1.2.2.1) fun r14=>
 (cond (r14.1 !=y11.1.1)
 (some ((0:Int),false,()))
 (
  some (y11.1.2.2.1,true,())))))) (fun z12=>(some (z12.1.1,z12.1.2.1,())))))=some (WD t s):=by
  have:=Q0 s t (by omega) t.length 0 0 (by omega) (by omega) (by decide)
  rw[show((0:Nat):Int)=0 from rfl]at this
  rw[this,List.drop_zero]
  unfold WD
  rw[Ba h1,Ba h2]
  cases hg:Xy t 0 with
  |none=>rfl
  |some v=>
   have hb:=X6 t 0 v 0 (by omega) (by decide) hg
   have hp:=p10 (show 0+t.length≤9 by omega)
   simp only[jb,qf,zh]
   cases decide (((ja t:Nat):Int)<((ja s:Nat):Int))with
   |true=>
    simp only[zg]
    rw[Af (n:=0-v) (by omega) (by omega),Ij (by omega),show(0:Int)-v=-v by omega]
    simp only[jb]
    cases Lib.itoa (-v) !=s<;>rfl
   |false=>
    simp only[zh]
    rw[Ij (by omega)]
    simp only[jb]
    cases Lib.itoa v !=s<;>rfl
theorem VH{s:List UInt8}(hs:s.length≤100000000):Ot s=some (Sp s):=by
 unfold Ot
 cases s with
 |nil=>rfl
 |cons c l=>
  rw[Aa (by rw[jw];omega)]
  rw[show Wb (c::l) 0=some c from rfl]
  simp only[zg,jb,Sp]
  have hcut:Ya (c::l) (jy 1) (jy ((ja (c::l):Nat):Int))=l:=by
   rw[show jy 1=1 from rfl,jn]
   unfold Ya
   rw[List.take_length];rfl
  have hok:Bd (ja (c::l)) 1 ((ja (c::l):Nat):Int)=true:=Sg (lo:=1) (by rw[jw];omega) (jo _)
  cases((UInt8.toNat c:Nat):Int)==45 with
  |true=>
   simp only[zg]
   rw[hok,hcut]
   simp only[zg]
   by_cases h1:((ja l:Nat):Int)<1
   ·unfold WD;rw[Aa h1];rfl
   ·by_cases h2:((ja l:Nat):Int)>9
    ·unfold WD;rw[Aa h2,Ba h1];rfl
    ·rw[Ba h1,Ba h2]
     simp only[zh]
     exact Z5 (c::l) l h2 h1
  |false=>
   simp only[zh]
   by_cases h1:((ja (c::l):Nat):Int)<1
   ·unfold WD;rw[Aa h1];rfl
   ·by_cases h2:((ja (c::l):Nat):Int)>9
    ·unfold WD;rw[Aa h2,Ba h1];rfl
    ·rw[Ba h1,Ba h2]
     simp only[zh]
     exact Z5 (c::l) (c::l) h2 h1
def IF(a:Ia):List UInt8:=
 cond (a.1==0) Ek (cond (a.1==1) Dk (cond (a.1==3) ([109,111,58]++Lib.itoa a.2.2.2.1) (cond (a.1==4) ([116,103,58]++Lib.itoa a.2.2.2.1) (cond (a.1==5) ([116,111,58]++Lib.itoa a.2.2.2.1)
  (cond (a.1==6) (Tg a.2.2.1++[47]++Dg a.2.1) (cond (a.1==7) (Lib.itoa a.2.2.2.1++[47]++Dg a.2.1) (cond (a.1==8) (Hg++Tg a.2.2.1) (cond (a.1==9) (Vi++Lib.itoa a.2.2.2.1)
  (cond (a.1==10) Ui (cond (a.2.2.1==0) (Dg a.2.1) (Tg a.2.2.1++[45]++Dg a.2.1)))))))))))
noncomputable def Re(a:Ia):List UInt8:=cond (Nb a) (IF a) []
theorem SS{a:Ia}(h:Nb a=true):0≤a.2.2.2.1∧a.2.2.2.1≤3:=by
 rw[Qb]at h
 unfold Wc at h
 omega
theorem WaD{a:Ia}(h:Nb a=true):0≤a.1∧a.1≤10:=by
 rw[Qb]at h
 unfold Wc at h
 omega
theorem Qae{n:Int}(h:0≤n∧n≤3):(Lib.itoa n).length≤21:=OH (by omega)
theorem V6{b:Bool}{x y:List UInt8}{n:Nat}(hx:x.length≤n)(hy:y.length≤n):(cond b x y).length≤n:=by cases b<;>assumption
theorem Dad(a:Ia):(Re a).length≤50:=by
 unfold Re
 cases h:Nb a with
 |false=>simp
 |true=>
  have h1:=Qae (SS h)
  have h2:=OK a.2.2.1
  have h3:=PQ a.2.1
  simp only[zg,IF]
  generalize Dg a.2.1=N at h3⊢
  generalize Tg a.2.2.1=M at h2⊢
  generalize Lib.itoa a.2.2.2.1=I at h1⊢
  repeat' apply V6
  all_goals try simp only[Ek,Dk,Hg,Vi,Ui,qc,jw,j6]
  all_goals omega
theorem csp{b:Bool}{x y:List UInt8}{z:Option (List UInt8×Unit)}(h:z=some (y,())):cond b (some (x,())) z=some (cond b x y,()):=by cases b<;>simp[h]
theorem AJ(a:Ia):Xe a=some (Re a,()):=by
 unfold Xe Re
 rw[Bs]
 cases h:Nb a with
 |false=>rfl
 |true=>
  have h1:=Qae (SS h)
  have h2:=OK a.2.2.1
  have h3:=PQ a.2.1
  have h4:=SS h
  simp only[jb,jg,zh,zg,IF]
  rw[Ij (by omega),Pu,An]
  simp only[jb]
  rw[Jb (n:=ja ([109,111,58]:List UInt8)+ja (Lib.itoa a.2.2.2.1)) (by simp;omega),Jb (n:=ja ([116,103,58]:List UInt8)+ja (Lib.itoa a.2.2.2.1)) (by simp;omega),
   Jb (n:=ja ([116,111,58]:List UInt8)+ja (Lib.itoa a.2.2.2.1)) (by simp;omega),Jb (n:=ja (Tg a.2.2.1)+ja ([47]:List UInt8)) (by simp;omega),
   Jb (n:=ja (jf (Tg a.2.2.1) [47])+ja (Dg a.2.1)) (by simp;omega),Jb (n:=ja (Lib.itoa a.2.2.2.1)+ja ([47]:List UInt8)) (by simp;omega),
   Jb (n:=ja (jf (Lib.itoa a.2.2.2.1) [47])+ja (Dg a.2.1)) (by simp;omega),Jb (n:=ja Hg+ja (Tg a.2.2.1)) (by simp[Hg];omega),
   Jb (n:=ja Vi+ja (Lib.itoa a.2.2.2.1)) (by simp[Vi];omega),Jb (n:=ja (Tg a.2.2.1)+ja ([45]:List UInt8)) (by simp;omega),
   Jb (n:=ja (jf (Tg a.2.2.1) [45])+ja (Dg a.2.1)) (by simp;omega)]
  simp only[zg]
  iterate 11 refine csp ?_
  rfl
theorem Dz(a:Ia):Vl a=some (Re a,()):=by
 unfold Vl Re
 rw[Rm]
 cases h:Nb a with
 |false=>rfl
 |true=>
  have h1:=Qae (SS h)
  have h2:=OK a.2.2.1
  have h3:=PQ a.2.1
  have h4:=SS h
  have h5:=WaD h
  obtain⟨k,c,m,n,u⟩:=a
  simp only at h1 h2 h3 h4 h5
  simp only[jb,jg,zh,zg,IF]
  rw[Np (by omega),Ut,Bz]
  simp only[jb]
  rw[Jb (n:=ja (Tg m)+ja ([47]:List UInt8)) (by simp;omega),
   Jb (n:=ja (jf (Tg m) [47])+ja (Dg c)) (by simp;omega),Jb (n:=ja (Lib.itoa n)+ja ([47]:List UInt8)) (by simp;omega),
   Jb (n:=ja (jf (Lib.itoa n) [47])+ja (Dg c)) (by simp;omega),Jb (n:=ja Hg+ja (Tg m)) (by simp[Hg];omega),
   Jb (n:=ja (Tg m)+ja ([45]:List UInt8)) (by simp;omega),
   Jb (n:=ja (jf (Tg m) [45])+ja (Dg c)) (by simp;omega)]
  simp only[zg]
  have:k=0∨k=1∨k=2∨k=3∨k=4∨k=5∨k=6∨k=7∨k=8∨k=9∨k=10:=by omega
  have lw:∀w:List UInt8,w.length≤10→jx (ja w+ja (Lib.itoa n)) Sa=true:=fun w hw=>Jb (by omega)
  rcases this with rfl|rfl|rfl|rfl|rfl|rfl|rfl|rfl|rfl|rfl|rfl
  ·rfl
  ·rfl
  ·show(cond (m !=0) _ _)=some (cond (m==0) _ _,())
   unfold bne
   cases m==0<;>rfl
  ·simp only[Int.reduceBEq,zh,zg]
   rw[show On 3=some ([109,111,58],())from rfl]
   simp only[jb]
   rw[lw _ (by simp)];rfl
  ·simp only[Int.reduceBEq,zh,zg]
   rw[show On 4=some ([116,103,58],())from rfl]
   simp only[jb]
   rw[lw _ (by simp)];rfl
  ·simp only[Int.reduceBEq,zh,zg]
   rw[show On 5=some ([116,111,58],())from rfl]
   simp only[jb]
   rw[lw _ (by simp)];rfl
  ·rfl
  ·rfl
  ·rfl
  ·simp only[Int.reduceBEq,zh,zg]
   rw[show On 9=some (Vi,())from rfl]
   simp only[jb]
   rw[lw _ (by simp[Vi])];rfl
  ·rfl

def UR:Ia:=((0:Int),(0:Int),(0:Int),(0:Int),())
def Iaq(k:Int)(l r:List UInt8):Ia:=
 cond (l==[109,111]) ((3:Int),(0:Int),(0:Int),(Sp r).1,()) (cond (l==[116,103]) ((4:Int),(0:Int),(0:Int),(Sp r).1,()) (cond (l==[116,111]) ((5:Int),(0:Int),(0:Int),(Sp r).1,())
  (cond (l==Lp) ((9:Int),(0:Int),(0:Int),(Sp r).1,()) (k,(0:Int),XL r,(0:Int),()))))
theorem O8(k:Int)(l:List UInt8){r:List UInt8}(hr:r.length≤100000000):CM k l r=some (Iaq k l r,()):=by
 unfold CM Iaq
 rw[VH hr,AG]
 simp only[jb]
 cases l==[109,111]with
 |true=>rfl
 |false=>
  cases l==[116,103]with
  |true=>rfl
  |false=>
   cases l==[116,111]with
   |true=>rfl
   |false=>cases l==Lp<;>rfl
noncomputable def C7(s:List UInt8)(g:Ia):Ia×(Bool×Unit):=cond (s==([]:List UInt8)||Re g !=s) (UR,false,()) (g,true,())
theorem IM(s:List UInt8)(g:Ia):(cond (s==([]:List UInt8)) (some (((0:Int),(0:Int),(0:Int),(0:Int),()),false,())) (jz (Xe g) fun r=>
 (cond (r.1 !=s) (some (((0:Int),(0:Int),(0:Int),(0:Int),()),false,())) (some (g,true,())))):Option (Ia×(Bool×Unit)))=some (C7 s g):=by
 unfold C7
 cases s==([]:List UInt8)with
 |true=>rfl
 |false=>
  rw[AJ]
  simp only[zh,jb,yu]
  cases Re g !=s<;>rfl
def FI(l:List (List UInt8)):Bool:=((ja l:Nat):Int)==2
def JM(s:List UInt8):Ia:=
 cond (s==Ek) UR (cond (s==Dk) ((1:Int),(0:Int),(0:Int),(0:Int),()) (cond (s==Ui) ((10:Int),(0:Int),(0:Int),(0:Int),())
  (cond (FI (Mb 58 [] s)) (Iaq 8 ((Mb 58 [] s).getD 0 []) ((Mb 58 [] s).getD 1 []))
  (cond (FI (Mb 47 [] s)) (cond (Sp ((Mb 47 [] s).getD 0 [])).2.1 ((7:Int),AH ((Mb 47 [] s).getD 1 []),(0:Int),(Sp ((Mb 47 [] s).getD 0 [])).1,())
   ((6:Int),AH ((Mb 47 [] s).getD 1 []),XL ((Mb 47 [] s).getD 0 []),(0:Int),()))
  (cond (FI (Mb 45 [] s)) ((2:Int),AH ((Mb 45 [] s).getD 1 []),XL ((Mb 45 [] s).getD 0 []),(0:Int),()) ((2:Int),AH s,(0:Int),(0:Int),()))))))
noncomputable def Ro(s:List UInt8):Ia×(Bool×Unit):=C7 s (JM s)
theorem X8{l:List (List UInt8)}(h:FI l=true):Ac l.length 0=true∧Ac l.length 1=true∧l[jy 0]?=some (l.getD 0 [])∧l[jy 1]?=some (l.getD 1 []):=by
 unfold FI at h
 have h2:l.length=2:=by simp at h;omega
 match l,h2 with
 |[x,y],_=>exact⟨rfl,rfl,rfl,rfl⟩
theorem TJ{s:List UInt8}(hs:s.length≤100000000):Is s=some (Ro s):=by
 unfold Is Ro JM
 rw[TK,Jp 58 hs,Jp 47 hs,Jp 45 hs]
 simp only[jb]
 cases s==Ek with
 |true=>exact IM s _
 |false=>
 cases s==Dk with
 |true=>exact IM s _
 |false=>
 cases s==Ui with
 |true=>exact IM s _
 |false=>
 simp only[zh]
 rw[show(((ja (Mb 58 [] s):Nat):Int)==2)=FI (Mb 58 [] s)from rfl,show(((ja (Mb 47 [] s):Nat):Int)==2)=FI (Mb 47 [] s)from rfl,show(((ja (Mb 45 [] s):Nat):Int)==2)=FI (Mb 45 [] s)from rfl]
 have hp:∀(b:Int) (n:Nat),((Mb b [] s).getD n []).length≤100000000:=fun b n=>by
  rw[qe]
  cases h:(Mb b [] s)[n]? with
  |none=>simp
  |some x=>
   have:=Tn b s [] x (List.mem_of_getElem? h)
   simp only[qz]
   simp at this;omega
 cases h1:FI (Mb 58 [] s)with
 |true=>
  obtain⟨a1,a2,a3,a4⟩:=X8 h1
  rw[a1,a2,a3,a4]
  simp only[zg,jb]
  rw[O8 _ _ (hp 58 1)]
  simp only[jb]
  exact IM s _
 |false=>
 cases h2:FI (Mb 47 [] s)with
 |true=>
  obtain⟨a1,a2,a3,a4⟩:=X8 h2
  rw[a1,a2,a3,a4]
  simp only[zg,zh,jb]
  rw[VH (hp 47 0),TK,AG]
  simp only[jb]
  cases(Sp ((Mb 47 [] s).getD 0 [])).2.1
  ·exact IM s _
  ·exact IM s _
 |false=>
 cases h3:FI (Mb 45 [] s)with
 |true=>
  obtain⟨a1,a2,a3,a4⟩:=X8 h3
  rw[a1,a2,a3,a4]
  simp only[zg,zh,jb]
  rw[TK,AG]
  simp only[jb]
  exact IM s _
 |false=>exact IM s _
noncomputable def QA(s:Ea×List Ia)(w:List UInt8):(Ea×List Ia)⊕Unit:=
 cond (w==[124]) (.inl ((((ja s.2:Nat):Int),jf s.1.2.1 [s.2],()),[])) (cond (Ro w).2.1 (.inl (s.1,jf s.2 [(Ro w).1])) (.inr ()))
def Gg:Ea:=((0:Int),([]:List (List Ia)),())
noncomputable def Vz(s:List UInt8):Ea×(Bool×Unit):=
 match Va (fun _ s w=>QA s w) 0 (Gg,[]) (jf (Mb 32 [] s) [[124]])with
 |.inl r=>cond (Tb r.1) (r.1,true,()) (Gg,false,())
 |.inr _=>(Gg,false,())
structure PkI(k:Nat)(s:Ea×List Ia):Prop where
 z:Hb Bb s.1+s.2.length≤k
theorem Mar(m:Ea):Hb Bb m=Hb (.sl (.sl Bc)) m.2.1:=by
 show 0+(Hb (.sl (.sl Bc)) m.2.1+0)=_
 omega
theorem Nar(l:List (List Ia))(r:List Ia):Hb (.sl (.sl Bc)) (l++[r])=Hb (.sl (.sl Bc)) l+1+r.length:=by
 have hr:Hb (.sl Bc) r=r.length:=Ms (e:=Bc) rfl r
 show(l++[r]).length+(zd (Hb (.sl Bc)) (l++[r])).sum=(l.length+(zd (Hb (.sl Bc)) l).sum)+1+r.length
 rw[yw,List.sum_append,qc]
 simp only[yk,List.map_nil,List.sum_cons,List.sum_nil,jw,j6]
 omega
theorem Fam{k:Nat}{s s':Ea×List Ia}{w:List UInt8}(h:PkI k s)(hs:QA s w=.inl s'):PkI (k+1) s':=by
 have hz:=h.z
 unfold QA at hs
 revert hs
 cases w==[124]with
 |true=>
  intro hs
  simp only[zg,za]at hs
  subst hs
  refine⟨?_⟩
  have:=Nar s.1.2.1 s.2
  rw[Mar]at hz⊢
  show Hb (.sl (.sl Bc)) (s.1.2.1++[s.2])+0≤_
  omega
 |false=>
  cases(Ro w).2.1 with
  |false=>intro hs;simp at hs
  |true=>
   intro hs
   simp only[zg,zh,za]at hs
   subst hs
   refine⟨?_⟩
   show Hb Bb s.1+(s.2++[_]).length≤_
   rw[qc];simp;omega
theorem UJ{s:List UInt8}(hs:s.length≤1048571):Js s=some (Vz s):=by
 have h20:Da=1048576:=rfl
 have hl:=Wq 32 s []
 have hp:=Tn 32 s []
 unfold Js Vz
 rw[Jp 32 (by omega)]
 simp only[jb]
 rw[Jb (by simp;omega)]
 simp only[zg]
 have hw:∀x∈jf (Mb 32 [] s) [[124]],x.length≤100000000:=by
  intro x hx
  rcases jl.1 hx with h|h
  ·have:=hp x h;simp at this;omega
  ·simp at h;subst h;simp
 have hn:(jf (Mb 32 [] s) [[124]]).length≤1048573:=by
  rw[ze,qc];simp;omega
 generalize jf (Mb 32 [] s) [[124]]=W at hw hn
 have hi:∀s':Ea×List Ia,Va (fun _ s w=>QA s w) 0 (Gg,[]) W=.inl s'→Hb Bb s'.1≤Da:=by
  have key:∀(l:List (List UInt8)) (k:Nat) (s0 s':Ea×List Ia),PkI k s0→Va (fun _ s w=>QA s w) k s0 l=.inl s'→PkI (k+l.length) s':=by
   intro l
   induction l with
   |nil=>intro k s0 s' h hf;simp only[Va,za]at hf;subst hf;exact h
   |cons w l ih=>
    intro k s0 s' h hf
    simp only[Va]at hf
    revert hf
    cases hg:QA s0 w with
    |inr u=>intro hf;simp at hf
    |inl s1=>
     intro hf
     have:=ih (k+1) s1 s' (Fam h hg) hf
     rw[jw,show k+(l.length+1)=k+1+l.length by omega]
     exact this
  intro s' hf
  have:=(key W 0 (Gg,[]) s' ⟨by decide⟩ hf).z
  omega
 have h:=Kg (step:=fun x:(Unit×Unit×List Ia×List (List UInt8)×Int×Unit)×Ea×Ea×Unit=>Rq x.1.1 x.1.2.1 x.1.2.2.1 x.1.2.2.2.1 x.1.2.2.2.2.1 x.2.1 x.2.2.1) W (fun _ s w=>QA s w)
  (fun s i=>(((),(),s.2,W,i,()),(Gg,s.1,()))) (fun s=>.inl (((),(),()),(Gg,s.1,()))) (fun _=>.inr (((),false,()),(Gg,()))) (fun k s=>PkI k s) (by
   intro k hk s hs
   have hz:=hs.z
   refine⟨?_,fun s' h'=>Fam hs h'⟩
   have hx:=hw W[k] (qi hk)
   simp only[Rq]
   rw[Aa (by omega),Mf,Aa hk]
   simp only[zg,jn]
   rw[je hk]
   simp only[jb]
   unfold QA
   cases W[k]==([124]:List UInt8)with
   |true=>
    simp only[zg]
    have:s.1.2.1.length≤Hb Bb s.1:=by rw[Mar];exact Nat.le_add_right _ _
    rw[Jb (by simp;omega)]
    rfl
   |false=>
    simp only[zh]
    rw[TJ hx]
    simp only[jb]
    cases(Ro W[k]).2.1 with
    |false=>rfl
    |true=>
     simp only[jg,zh,zg]
     rw[Jb (by simp;omega)]
     rfl) (by
   intro s hs
   simp only[Rq]
   rw[Ba (by omega)];rfl) (by omega) (Gg,[]) ⟨by decide⟩
 unfold Gt
 erw[h]
 revert hi
 cases Va (fun _ s w=>QA s w) 0 (Gg,[]) W with
 |inr u=>intro hi;rfl
 |inl r=>
  intro hi
  simp only[jb,qf]
  have:=Ok r.1 (hi r rfl)
  erw[this]
  simp only[jb]
  cases Tb r.1<;>rfl
def Zr(s p:List UInt8):Bool:=decide (p.length≤s.length)&&(s.take p.length==p)
theorem MI(s p:List UInt8):Jj s p=some (cond (Zr s p) (s.drop p.length) s,Zr s p,()):=by
 unfold Jj Dy Ey Zr
 by_cases h:p.length≤s.length
 ·have e0:Ya s (jy 0) (jy ((ja p:Nat):Int))=s.take p.length:=by simp[Ya]
  have e1:Ya s (jy ((ja p:Nat):Int)) (jy ((ja s:Nat):Int))=s.drop p.length:=by
   rw[jn,jn]
   unfold Ya
   rw[List.take_length]
  rw[Aa (show((ja s:Nat):Int)≥((ja p:Nat):Int) by omega),show Bd (ja s) 0 ((ja p:Nat):Int)=true from Sg (lo:=0) (by omega) h,e0,e1,Aa h]
  simp only[zg,jb,jk]
  cases s.take p.length==p with
  |false=>rfl
  |true=>
   simp only[jg,zh]
   rw[Sg h (jo _)]
   rfl
 ·rw[Ba (show¬((ja s:Nat):Int)≥((ja p:Nat):Int) by omega),Ba h]
  rfl
def J6(k:Int):List UInt8:=cond (k==3) [109,111,58] (cond (k==4) [116,103,58] (cond (k==5) [116,111,58] (cond (k==9) Vi [])))
theorem Iaw(k:Int):On k=some (J6 k,()):=by
 unfold On J6
 cases k==3 with
 |true=>rfl
 |false=>
  cases k==4 with
  |true=>rfl
  |false=>
   cases k==5 with
   |true=>rfl
   |false=>cases k==9<;>rfl
noncomputable def U4(s:List UInt8)(k:Int):Unit⊕Ia:=cond (Zr s (J6 k)) (.inr (k,(0:Int),(0:Int),(Fj (s.drop (J6 k).length)).1,())) (.inl ())
noncomputable def LA(s:List UInt8):Ia:=
 cond (s==Ek) UR (cond (s==Dk) ((1:Int),(0:Int),(0:Int),(0:Int),()) (cond (s==Ui) ((10:Int),(0:Int),(0:Int),(0:Int),())
  (match Va (fun _ (_:Unit) k=>U4 s k) 0 () [(3:Int),4,5,9]with
  |.inr a=>a
  |.inl _=>cond (Zr s Hg) ((8:Int),(0:Int),XL (s.drop Hg.length),(0:Int),())
   (cond (Lib.cut s [47]).2.2 (cond (Fj (Lib.cut s [47]).1).2.1 ((7:Int),AH (Lib.cut s [47]).2.1,(0:Int),(Fj (Lib.cut s [47]).1).1,()) ((6:Int),AH (Lib.cut s [47]).2.1,XL (Lib.cut s [47]).1,(0:Int),()))
   (cond (Lib.cut s [45]).2.2 ((2:Int),AH (Lib.cut s [45]).2.1,XL (Lib.cut s [45]).1,(0:Int),()) ((2:Int),AH s,(0:Int),(0:Int),()))))))
theorem Kad{s:List UInt8}(p:List UInt8)(hs:s.length≤100000000):strings_Cut s p=some ((Lib.cut s p).1,(Lib.cut s p).2.1,(Lib.cut s p).2.2,()):=by
 unfold strings_Cut Rap
 rw[show jx (ja s) 4294967280=true from ji (by omega)]
 rfl
theorem Xaa{s:List UInt8}(hs:s.length≤100000000):Mz s=some (LA s,()):=by
 unfold Mz LA
 cases s==Ek with
 |true=>rfl
 |false=>
 cases s==Dk with
 |true=>rfl
 |false=>
 cases s==Ui with
 |true=>rfl
 |false=>
 simp only[zh]
 have hl:=Kg (step:=fun x:(List UInt8×Unit×List Int×Int×Int×Unit)×Ia×Unit=>Gq x.1.1 x.1.2.1 x.1.2.2.1 x.1.2.2.2.1 x.1.2.2.2.2.1 x.2.1) [(3:Int),4,5,9] (fun _ (_:Unit) k=>U4 s k)
  (fun _ i=>((s,(),[(3:Int),4,5,9],((ja ([(3:Int),4,5,9]:List Int):Nat):Int),i,()),(UR,()))) (fun _=>.inl ((s,(),()),(UR,()))) (fun a=>.inr (((),()),(a,()))) (fun _ _=>True) (by
   intro k hk u _
   refine⟨?_,fun _ _=>trivial⟩
   simp only[Gq]
   rw[Aa (by omega),Mf,Aa hk]
   simp only[zg,jn]
   rw[je hk]
   simp only[jb]
   generalize([(3:Int),4,5,9]:List Int)[k]=x
   rw[Iaw]
   simp only[jb]
   rw[MI]
   simp only[jb]
   unfold U4
   cases Zr s (J6 x)<;>rfl) (by
   intro u _
   simp only[Gq]
   rw[Ba (by omega)];rfl) (by simp) () trivial
 unfold Et
 erw[hl]
 cases Va (fun _ (_:Unit) k=>U4 s k) 0 () [(3:Int),4,5,9]with
 |inr a=>rfl
 |inl u=>
  simp only[jb,qf]
  rw[MI]
  simp only[jb]
  cases Zr s Hg with
  |true=>
   simp only[zg]
   rw[UF];rfl
  |false=>
   simp only[zh]
   rw[Kad _ hs]
   simp only[jb]
   cases(Lib.cut s [47]).2.2 with
   |true=>
    simp only[zg]
    rw[show Jt (Lib.cut s [47]).1=some (Fj (Lib.cut s [47]).1)from rfl]
    simp only[jb]
    cases(Fj (Lib.cut s [47]).1).2.1 with
    |true=>simp only[zg];rw[OE];rfl
    |false=>simp only[zh];rw[UF,OE];rfl
   |false=>
    simp only[zh]
    rw[Kad _ hs]
    simp only[jb]
    cases(Lib.cut s [45]).2.2 with
    |true=>simp only[zg];rw[UF,OE];rfl
    |false=>simp only[zh];rw[OE];rfl
noncomputable def Qj(s:List UInt8):Ia×(Bool×Unit):=cond (!Nb (LA s)||Re (LA s) !=s) (UR,false,()) (LA s,true,())
theorem QJ{s:List UInt8}(hs:s.length≤100000000):Ur s=some (Qj s):=by
 unfold Ur Qj
 rw[Xaa hs]
 simp only[jb]
 rw[Rm]
 simp only[jb]
 cases Nb (LA s)with
 |false=>rfl
 |true=>
  simp only[jg,zh,yu]
  rw[Dz]
  simp only[jb]
  cases Re (LA s) !=s<;>rfl
noncomputable def Xz(l:List Ia):List UInt8:=Lib.join (l.map Re) [32]
noncomputable def Jq(m:Ea):List UInt8:=cond (Tb m) (Lib.join (m.2.1.map Xz) [32,124,32]) []
theorem AV(l:List Ia):(Xz l).length≤51*l.length:=by
 have:=PH (l.map Re) [32] 50 (fun x hx=>by
  obtain⟨a,_,rfl⟩:=qk.1 hx
  exact Dad a)
 rw[yr]at this
 exact this
theorem OI{m:Ea}(hz:Hb Bb m≤Da):Pp m=some (Jq m,()):=by
 unfold Pp Jq
 rw[Ji m hz]
 cases hv:Tb m with
 |false=>rfl
 |true=>
  have hm:=Pd hv
  have hk2:=hm.k2
  have hl2:=hm.l2
  simp only[jb,jg,zh,zg]
  have hrow:∀k (hk:k<m.2.1.length),m.2.1[k].length≤32:=fun k hk=>by have:=hm.row k hk;omega
  have hl:=Zd (step:=fun x:(List (List UInt8)×List (List Ia)×Int×Int×Unit)×Unit=>Jo x.1.1 x.1.2.1 x.1.2.2.1 x.1.2.2.2.1) m.2.1 (fun _ (o:List (List UInt8)) l=>o++[Xz l])
   (fun o i=>((o,m.2.1,((ja m.2.1:Nat):Int),i,()),())) (fun o=>.inl ((o,()),())) (fun k o=>o.length=k) (by
    intro k hk o ho
    refine⟨?_,by simp[ho]⟩
    have hr:=hrow k hk
    simp only[Jo]
    rw[Aa (by omega),Ub hk]
    simp only[zg,jb]
    generalize m.2.1[k]=r at hr
    have hin:=(Zd (step:=fun x:(List (List UInt8)×List (List UInt8)×List (List Ia)×Int×Int×List Ia×Int×Int×Unit)×Unit=>Ko x.1.1 x.1.2.1 x.1.2.2.1 x.1.2.2.2.1 x.1.2.2.2.2.1 x.1.2.2.2.2.2.1 x.1.2.2.2.2.2.2.1 x.1.2.2.2.2.2.2.2.1) r (fun _ (p:List (List UInt8)) a=>p++[Re a])
     (fun p i=>((o,p,m.2.1,((ja m.2.1:Nat):Int),(k:Int),r,((ja r:Nat):Int),i,()),())) (fun p=>.inl ((o,p,m.2.1,((ja m.2.1:Nat):Int),(k:Int),()),())) (fun j p=>p.length=j) (by
      intro j hj p hp
      refine⟨?_,by simp[hp]⟩
      simp only[Ko]
      rw[Aa (by omega),Ub hj]
      simp only[zg,jb]
      rw[Dz]
      simp only[jb]
      rw[Jb (by simp;omega)]
      rfl) (by
      intro p hp
      simp only[Ko]
      rw[Ba (by omega)];rfl) (by omega) [] rfl).1
    have hf:∀(ys:List Ia) (j:Nat) (p:List (List UInt8)),Oc (fun _ (p:List (List UInt8)) a=>p++[Re a]) j p ys=p++ys.map Re:=by
     intro ys
     induction ys with
     |nil=>intro j p;simp[Oc]
     |cons y ys ih=>intro j p;rw[Oc,ih];simp
    rw[hf]at hin
    have hjl:=AV r
    unfold Xz at hjl
    unfold Pr
    erw[hin]
    simp only[jb,qf,yg]
    rw[Sm (by simp;omega) (by omega)]
    simp only[jb]
    rw[Jb (by simp;omega)]
    rfl) (by
    intro o ho
    simp only[Jo]
    rw[Ba (by omega)];rfl) (by omega) [] rfl
  have hf:∀(ys:List (List Ia)) (j:Nat) (p:List (List UInt8)),Oc (fun _ (p:List (List UInt8)) a=>p++[Xz a]) j p ys=p++ys.map Xz:=by
   intro ys
   induction ys with
   |nil=>intro j p;simp[Oc]
   |cons y ys ih=>intro j p;rw[Oc,ih];simp
  rw[hf]at hl
  unfold Nr
  erw[hl.1]
  simp only[jb,qf,yg]
  have hjl:=PH (m.2.1.map Xz) [32,124,32] 1632 (fun x hx=>by
   obtain⟨l,hl',rfl⟩:=qk.1 hx
   obtain⟨i,hi,rfl⟩:=qj hl'
   have:=AV m.2.1[i]
   have:=hrow i hi
   omega)
  rw[yr]at hjl
  rw[Sm (by simp;omega) (by
   have:(1632+([32,124,32]:List UInt8).length)*m.2.1.length≤1635*4:=Nat.mul_le_mul (by simp) hl2
   omega)]
  rfl
theorem D6(sep:List UInt8):∀(k:Nat) (s:List UInt8),(Lib.splitK sep 0 k s).length≤k+1∧∀x∈Lib.splitK sep 0 k s,x.length≤s.length
 |0,s=>by simp[Lib.splitK]
 |k+1,s=>by
  unfold Lib.splitK
  split
  ·simp
  ·have ih:=D6 sep k (s.drop ((Lib.index s sep).toNat+sep.length))
   refine⟨by simp;exact ih.1,fun x hx=>?_⟩
   rcases jp.1 hx with rfl|hx
   ·rw[List.length_take];omega
   ·have:=ih.2 x hx
    rw[ql]at this
    omega
theorem JW(sub:List UInt8):∀(f:Nat) (s:List UInt8),Lib.countFrom sub f s≤f
 |0,s=>by simp[Lib.countFrom]
 |f+1,s=>by
  unfold Lib.countFrom
  split
  ·omega
  ·have:=JW sub f (s.drop ((Lib.index s sub).toNat+sub.length));omega
theorem Jaq(s sep:List UInt8):(Lib.split s sep).length≤s.length+2∧∀x∈Lib.split s sep,x.length≤s.length:=by
 have h:=D6 sep (Lib.count s sep) s
 have:=JW sep (s.length+1) s
 unfold Lib.split
 exact⟨j9 h.1 (by unfold Lib.count;omega),h.2⟩
noncomputable def JN(n:Nat)(l:List Ia)(w:List UInt8):List Ia⊕Unit:=
 cond (!(Qj w).2.1) (.inr ()) (cond (decide (32≤l.length)) (.inr ()) (cond (decide (4≤n)) (.inr ()) (.inl (jf l [(Qj w).1]))))
noncomputable def Lw(m:Ea)(p:List UInt8):Ea⊕Unit:=
 match Va (fun _ l w=>JN m.2.1.length l w) 0 [] (Mb 32 [] p)with
 |.inl r=>.inl (((ja r:Nat):Int),jf m.2.1 [r],())
 |.inr _=>.inr ()
noncomputable def Fl(s:List UInt8):Ea×(Bool×Unit):=
 match Va (fun _ m p=>Lw m p) 0 Gg (Lib.split s [32,124,32])with
 |.inl m=>cond (!Tb m||Jq m !=s) (Gg,false,()) (m,true,())
 |.inr _=>(Gg,false,())
theorem My(b:Int):∀(l cur:List UInt8),Mb b cur l≠[]
 |[],cur=>by simp[Mb]
 |c::l,cur=>by
  simp only[Mb]
  cases((UInt8.toNat c:Nat):Int)==b with
  |true=>simp
  |false=>exact My b l _
theorem Eag(n:Nat):∀(W:List (List UInt8)) (k:Nat) (l r:List Ia),l.length≤32→Va (fun _ l w=>JN n l w) k l W=.inl r→r.length≤32∧(W≠[]→n<4)
 |[],k,l,r,hl,h=>by simp only[Va,za]at h;subst h;exact⟨hl,fun h=>absurd rfl h⟩
 |w::W,k,l,r,hl,h=>by
  simp only[Va]at h
  revert h
  cases hx:JN n l w with
  |inr u=>intro h;simp at h
  |inl l'=>
   intro h
   have hl':l'.length≤32∧n<4:=by
    unfold JN at hx
    revert hx
    cases(Qj w).2.1 with
    |false=>intro h;simp at h
    |true=>
     by_cases h1:32≤l.length
     ·rw[Aa h1];intro h;simp at h
     by_cases h2:4≤n
     ·rw[Ba h1,Aa h2];intro h;simp at h
     rw[Ba h1,Ba h2]
     intro h
     simp only[jg,zh,za]at h
     subst h
     refine⟨?_,by omega⟩
     rw[ze,qc];simp;omega
   have:=Eag n W (k+1) _ r hl'.1 h
   exact⟨this.1,fun _=>hl'.2⟩
structure L6(m:Ea):Prop where
 n:m.2.1.length≤4
 r:∀l∈m.2.1,l.length≤32
theorem Oal{m m':Ea}{p:List UInt8}(h:L6 m)(hl:Lw m p=.inl m'):L6 m':=by
 unfold Lw at hl
 revert hl
 cases hf:Va (fun _ l w=>JN m.2.1.length l w) 0 [] (Mb 32 [] p)with
 |inr u=>intro hl;simp at hl
 |inl r=>
  intro hl
  simp only[za]at hl
  subst hl
  obtain⟨h1,h2⟩:=Eag _ _ _ _ _ (by simp) hf
  have h2:=h2 (My _ _ _)
  refine⟨?_,?_⟩
  ·show(jf m.2.1 [r]).length≤4
   rw[ze,qc];simp;omega
  ·intro l hl
   rcases jl.1 (show l∈m.2.1++[r]from hl)with h'|h'
   ·exact h.r l h'
   ·simp at h';subst h';exact h1
theorem RaH{m:Ea}(h:L6 m):Hb Bb m≤136:=by
 rw[Mar]
 have key:∀(L:List (List Ia)),(∀l∈L,l.length≤32)→Hb (.sl (.sl Bc)) L≤33*L.length:=by
  intro L
  induction L with
  |nil=>intro _;show(0:Nat)+0≤_;omega
  |cons l L ih=>
   intro hL
   have h1:=ih (fun x hx=>hL x (jr _ hx))
   have h2:=hL l (List.mem_cons_self ..)
   have hr:Hb (.sl Bc) l=l.length:=Ms (e:=Bc) rfl l
   show(l::L).length+(zd (Hb (.sl Bc)) (l::L)).sum≤_
   have h1':L.length+(zd (Hb (.sl Bc)) L).sum≤33*L.length:=h1
   simp only[yk,List.sum_cons,jw]at*
   rw[hr]
   omega
 have:=key m.2.1 h.r
 have:=h.n
 omega
theorem LB{s:List UInt8}(hs:s.length≤1048571):Vr s=some (Fl s):=by
 have h20:Da=1048576:=rfl
 obtain⟨hn,hp⟩:=Jaq s [32,124,32]
 unfold Vr Fl
 rw[show strings_Split s ([32,124,32]:List UInt8)=some (Lib.split s [32,124,32],())from by
  unfold strings_Split B6 Iag
  rw[show jx (ja s) 1048576=true from ji (by omega)]
  rfl]
 simp only[jb]
 generalize Lib.split s [32,124,32]=T at hn hp
 have hl:=Kg (step:=fun x:(List UInt8×Unit×Unit×List (List UInt8)×Int×Int×Unit)×Ea×Ea×Unit=>Cq x.1.1 x.1.2.1 x.1.2.2.1 x.1.2.2.2.1 x.1.2.2.2.2.1 x.1.2.2.2.2.2.1 x.2.1 x.2.2.1) T (fun _ m p=>Lw m p)
  (fun m i=>((s,(),(),T,((ja T:Nat):Int),i,()),(Gg,(m.1,m.2.1,()),()))) (fun m=>.inl ((s,(),(),()),(Gg,(m.1,m.2.1,()),()))) (fun _=>.inr (((),false,()),(Gg,()))) (fun _ m=>L6 m) (by
   intro k hk m hm
   refine⟨?_,fun s' hs'=>Oal hm hs'⟩
   have hpk:=hp _ (qi hk)
   simp only[Cq]
   rw[Aa (by omega),Mf,Aa hk]
   simp only[zg,jn]
   rw[je hk]
   simp only[jb]
   generalize T[k]=p at hpk
   rw[UG 32 (by omega)]
   simp only[jb]
   unfold Lw
   have hwl:=Wq 32 p []
   have hwp:=Tn 32 p []
   generalize Mb 32 [] p=W at hwl hwp
   have hin:=Kg (step:=fun x:(List UInt8×Unit×Unit×List Ia×List (List UInt8)×Int×Int×List (List UInt8)×Int×Int×Unit)×Ea×Ea×Unit=>Dq x.1.1 x.1.2.1 x.1.2.2.1 x.1.2.2.2.1 x.1.2.2.2.2.1 x.1.2.2.2.2.2.1 x.1.2.2.2.2.2.2.1 x.1.2.2.2.2.2.2.2.1 x.1.2.2.2.2.2.2.2.2.1 x.1.2.2.2.2.2.2.2.2.2.1 x.2.1 x.2.2.1) W (fun _ l w=>JN m.2.1.length l w)
    (fun l i=>((s,(),(),l,T,((ja T:Nat):Int),(k:Int),W,((ja W:Nat):Int),i,()),(Gg,(m.1,m.2.1,()),()))) (fun l=>.inl ((s,(),(),l,T,((ja T:Nat):Int),(k:Int),()),(Gg,(m.1,m.2.1,()),()))) (fun _=>.inr (((),false,()),(Gg,()))) (fun j l=>l.length≤32) (by
     intro j hj l hl32
     have hwj:=hwp _ (qi hj)
     simp only[Dq]
     rw[Aa (by omega),Mf,Aa hj]
     simp only[zg,jn]
     rw[je hj]
     simp only[jb]
     generalize W[j]=w at hwj
     rw[QJ (by simp at hwj;omega)]
     simp only[jb]
     unfold JN
     cases(Qj w).2.1 with
     |false=>exact⟨rfl,fun s' h=>by simp at h⟩
     |true=>
      simp only[jg,zh]
      by_cases h1:32≤l.length
      ·rw[Aa (show((ja l:Nat):Int)≥32 by omega),Aa h1]
       exact⟨rfl,fun s' h=>by simp at h⟩
      rw[Ba (show¬((ja l:Nat):Int)≥32 by omega),Ba h1]
      by_cases h2:4≤m.2.1.length
      ·rw[Aa (show((ja m.2.1:Nat):Int)≥4 by omega),Aa h2]
       exact⟨rfl,fun s' h=>by simp at h⟩
      rw[Ba (show¬((ja m.2.1:Nat):Int)≥4 by omega),Ba h2]
      simp only[zh]
      rw[Jb (by simp;omega)]
      refine⟨rfl,fun s' h=>?_⟩
      simp only[za]at h
      subst h
      simp;omega) (by
     intro l hl32
     simp only[Dq]
     rw[Ba (by omega)];rfl) (by omega) [] (by simp)
   unfold Ct
   erw[hin]
   cases Va (fun _ l w=>JN m.2.1.length l w) 0 [] W with
   |inr u=>rfl
   |inl r=>
    simp only[jb,qf]
    have:=hm.n
    have e:([r]:List (List Ia)).length=1:=rfl
    rw[Jb (by omega)]
    rfl) (by
   intro m hm
   simp only[Cq]
   rw[Ba (by omega)];rfl) (by omega) Gg ⟨by simp[Gg],by simp[Gg]⟩
 have key:∀(L:List (List UInt8)) (k:Nat) (m m':Ea),L6 m→Va (fun _ m p=>Lw m p) k m L=.inl m'→L6 m':=by
  intro L
  induction L with
  |nil=>intro k m m' h hf;simp only[Va,za]at hf;subst hf;exact h
  |cons p L ih=>
   intro k m m' h hf
   simp only[Va]at hf
   revert hf
   cases hx:Lw m p with
   |inr u=>intro hf;simp at hf
   |inl m1=>intro hf;exact ih (k+1) m1 m' (Oal h hx) hf
 unfold Bt
 erw[hl]
 cases hf:Va (fun _ m p=>Lw m p) 0 Gg T with
 |inr u=>rfl
 |inl m=>
  have hm:=RaH (key T 0 Gg m ⟨by simp[Gg],by simp[Gg]⟩ hf)
  simp only[jb,qf]
  have hi:=Ji m (by omega)
  erw[hi]
  simp only[jb]
  cases Tb m with
  |false=>rfl
  |true=>
   simp only[jg,zh,yu]
   have hfk:=OI (m:=m) (by omega)
   erw[hfk]
   simp only[jb]
   cases Jq m !=s<;>rfl
instance Sa3(k c m n:Int):Decidable (Wc k c m n):=by unfold Wc;infer_instance
def XaJ(a:Ia):Bool:=decide (Wc a.1 a.2.1 a.2.2.1 a.2.2.2.1)
theorem G4:Nb=XaJ:=by
 funext a
 rw[qm,Qb]
 simp[XaJ]
def wm:Ea:=((6:Int),([[((2:Int),(1:Int),(0:Int),(0:Int),()),((2:Int),(2:Int),(0:Int),(0:Int),()),((3:Int),(0:Int),(0:Int),(1:Int),()),((6:Int),(3:Int),(2:Int),(0:Int),()),((7:Int),(4:Int),(0:Int),(2:Int),()),((8:Int),(0:Int),(2:Int),(0:Int),())],
 [((2:Int),(27:Int),(0:Int),(0:Int),()),((1:Int),(0:Int),(0:Int),(0:Int),()),((1:Int),(0:Int),(0:Int),(0:Int),()),((2:Int),(28:Int),(0:Int),(0:Int),()),((4:Int),(0:Int),(0:Int),(2:Int),()),((10:Int),(0:Int),(0:Int),(0:Int),())],
 [((2:Int),(48:Int),(0:Int),(0:Int),()),((5:Int),(0:Int),(0:Int),(0:Int),()),((1:Int),(0:Int),(0:Int),(0:Int),()),((1:Int),(0:Int),(0:Int),(0:Int),()),((2:Int),(44:Int),(0:Int),(0:Int),()),((4:Int),(0:Int),(0:Int),(2:Int),())]]:List (List Ia)),())
theorem OZ:Tb wm=true:=by
 unfold Tb Gp Wk
 rw[G4]
 kernel_rfl
theorem GaZ:Hb Bb wm≤136:=by
 have:Hb Bb wm=21:=by kernel_rfl
 omega
theorem Pa3:Vz Lk=(wm,true,()):=by
 have h:Va (fun _ s w=>QA s w) 0 (Gg,[]) (jf (Mb 32 [] Lk) [[124]])=.inl (wm,[]):=by
  unfold QA Ro C7 Re
  rw[G4]
  kernel_rfl
 unfold Vz
 rw[h]
 show cond (Tb wm) (wm,true,()) (Gg,false,())=_
 rw[OZ];rfl
theorem CaM:Fl Lk=(wm,true,()):=by
 have h:Va (fun _ m p=>Lw m p) 0 Gg (Lib.split Lk [32,124,32])=.inl wm:=by
  unfold Lw JN Qj Re
  rw[G4]
  kernel_rfl
 unfold Fl
 rw[h]
 show cond (!Tb wm||Jq wm !=Lk) (Gg,false,()) (wm,true,())=_
 have ht:Jq wm=Lk:=by
  unfold Jq
  rw[OZ]
  unfold Xz Re
  rw[G4]
  kernel_rfl
 rw[OZ,ht]
 simp
theorem R3:∃w,Ul=some (w,())∧Lj=some (w,())∧Hb Zc w≤4*Da:=by
 have h20:Da=1048576:=rfl
 have hz:Hb Bb wm≤Da:=by have:=GaZ;omega
 have hl:Lk.length≤1048571:=by decide
 have he:=Yau hz
 have hd:=Xau (t:=((200:Int),(0:Int),(0:Int),())) he
 have ht:(LG wm).2.1=true:=by unfold LG;rw[OZ];rfl
 refine⟨((Nx (LG wm).1 ((200:Int),(0:Int),(0:Int),())).1,([]:List Qc),()),?_,?_,?_⟩
 ·unfold Ul
  rw[UJ hl,Pa3]
  simp only[jb]
  rw[CY _ hz]
  simp only[jb]
  rw[PB _ _ he]
  rfl
 ·unfold Lj Hk
  rw[LB hl,CaM]
  simp only[jb]
  rw[ZW _ hz]
  simp only[jb]
  rw[ht,PJ _ _ he]
  rfl
 ·rw[Hag]
  show Hb Cd (Nx (LG wm).1 ((200:Int),(0:Int),(0:Int),())).1+0≤_
  omega
theorem N4{e:Gb}(h:Jn e):Hb Rb e≤300:=by
 have hh:=Xq h.hd
 have h2:Hb (.sl (.sl Qd)) e.2.1≤(8+1)*e.2.1.length:=KO (e:=.sl Qd) (c:=8) fun x hx=>by
  have:=JT (h.mac x hx)
  have e2:Hb (.sl Qd) x=x.length:=Ms (e:=Qd) rfl x
  omega
 have:=h.m4
 have hm:=Pd h.km
 have h3:Hb Bb e.1≤200:=by
  have h1:Hb Bb e.1=0+(Hb (.sl (.sl Bc)) e.1.2.1+0):=rfl
  have h2:Hb (.sl (.sl Bc)) e.1.2.1≤(32+1)*ja e.1.2.1:=KO (e:=.sl Bc) (c:=32) fun x hx=>by
   obtain⟨i,hi,rfl⟩:=qj hx
   rw[KY]
   have:=hm.row i hi
   have:=hm.k2
   omega
  have:=hm.l2
  omega
 have h6:Hb (.sl Gl) e.2.2.2.1=e.2.2.2.1.length:=Ms (e:=Gl) rfl _
 rw[Ol]
 omega
theorem X2{l:List Qc}(h:CL l)(hl:l.length≤2000):Hb (.sl Wg) l≤114000:=by
 have h2:Hb (.sl Wg) l≤(56+1)*l.length:=KO (e:=Wg) (c:=56) fun x hx=>by
  have h1:=h x hx
  simp only[Sx,jd]at h1
  have h3:=Ly h1.2
  have h4:Hb Wg x=Hb Lb x.2.1:=by
   show 0+(Hb Lb x.2.1+0)=_
   omega
  rw[h4,Sag]
  exact h3
 omega
structure Uh(s:Oa):Prop where
 d:Yc s.1=true
 n:s.2.1.length≤200
 s:CL s.2.1
theorem Lam(s:Oa):VE s=true↔Uh s:=by
 simp only[VE,jd,decide_eq_true_eq,A1]
 exact⟨fun⟨a,b,c⟩=>⟨a,b,c⟩,fun h=>⟨h.d,h.n,h.s⟩⟩
theorem L4{d:Cb}(h:Yc d=true):Hb Cd d≤400:=by
 have h1:=K1 h
 have h2:=N4 h1.pl.eng
 have h3:=h1.pl.len
 rw[GP,YH]
 omega
theorem SaD{s:Oa}(h:Uh s):Hb Zc s≤200000:=by
 have h1:=L4 h.d
 have h2:=X2 h.s (by have:=h.n;omega)
 rw[Hag]
 omega
theorem SJ{s:Oa}(hd:Hb Cd s.1≤Da)(hz:Hb (.sl Wg) s.2.1≤Da):Nk s=some (s,()):=by
 have h20:Da=1048576:=rfl
 have h1:Hb (.sl Wg) s.2.1=ja s.2.1+(zd (Hb Wg) s.2.1).sum:=rfl
 obtain⟨d,l,⟨⟩⟩:=s
 simp only at hd hz h1
 have hl:=Rh (step:=fun x=>Fq x.1.1 x.1.2.1 x.1.2.2.1 x.1.2.2.2.1 x.1.2.2.2.2.1 x.2.1 x.2.2.1) l (fun x=>x)
  (fun o k=>(((),(),l,((ja l:Nat):Int),k,()),((Mp,([]:List Qc),()),(d,o,()),()))) (fun o=>.inl (((),(),()),((Mp,([]:List Qc),()),(d,o,()),()))) (by omega) (fun k hk o ho=>by
   simp only[Fq]
   rw[Aa (by omega),Ub hk]
   simp only[zg,jb]
   rw[MM _ (BQ hz hk)]
   simp only[jb]
   rw[Jb (by simp only[jw,j6];omega)]
   rfl) (fun o=>by
   simp only[Fq]
   rw[Ba (by omega)]
   rfl)
 unfold Nk Dt
 rw[RJ _ hd]
 simp only[jb]
 erw[hl]
 rw[List.map_id']
 rfl
noncomputable def NO(m:Ea)(M:List (List Ta)):Gb×(Bool×Unit):=cond (Pf (Kl m M)) (Kl m M,true,()) (Uar,false,())
theorem AX(m:Ea)(M:List (List Ta))(hz:Hb Rb (Kl m M)≤Da):Tk m M=some (NO m M):=by
 have hz2:=hz
 rw[Ol]at hz2
 unfold NO Tk
 rw[Gu _ (show Hb Bb m≤Da from by have:(Kl m M).1=m:=rfl;rw[this]at hz2;omega),Bo M (by have:(Kl m M).2.1=M:=rfl;rw[this]at hz2;omega)]
 simp only[jb]
 have h:=Gz (Kl m M) hz
 unfold Kl at h
 rw[h]
 unfold Kl
 cases Pf (m,M,(0:Int),([]:List La),(0:Int),false,())<;>rfl
noncomputable def HD(m:Ea)(M:List (List Ta))(t:Ta):Oa×(Bool×Unit):=
 cond (Pf (Kl m M)) (((Nx (Kl m M) t).1,([]:List Qc),()),(Nx (Kl m M) t).2.1,()) ((Mp,([]:List Qc),()),false,())
theorem RV(m:Ea)(M:List (List Ta))(t:Ta)(hz:Hb Rb (Kl m M)≤Da):Hk m M t=some (HD m M t):=by
 unfold Hk HD
 rw[AX m M hz]
 unfold NO
 cases hE:Pf (Kl m M)with
 |false=>rfl
 |true=>
  simp only[zg,jb,jg,zh]
  rw[PJ _ _ hz]
  rfl
theorem Q9{m:Ea}{M:List (List Ta)}{t:Ta}(h:(HD m M t).2.1=true):Uh (HD m M t).1:=by
 unfold HD at h⊢
 cases hE:Pf (Kl m M)with
 |false=>rw[hE]at h;simp at h
 |true=>
  rw[hE]at h
  simp only[zg]at h⊢
  unfold Nx at h⊢
  cases hd:Yc (FK (Kl m M) t)with
  |false=>rw[hd]at h;simp at h
  |true=>
   refine⟨?_,?_,?_⟩
   ·exact hd
   ·show(0:Nat)≤200;omega
   ·intro y hy;simp at hy
def Bag(s:Oa)(n:Oa)(ok:Bool):Oa×(List UInt8×Unit):=cond (!ok) (s,[110,111],()) (n,[111,107],())
theorem B5(s n:Oa)(ok:Bool):Zj s n ok=some (Bag s n ok):=by
 unfold Zj Bag
 cases ok<;>rfl
noncomputable def SX(s:Oa)(m:Ea)(M:List (List Ta))(t:Ta):Oa×(List UInt8×Unit):=Bag s (HD m M t).1 (HD m M t).2.1
theorem Aag{s:Oa}(h:Uh s)(m:Ea)(M:List (List Ta))(t:Ta):Uh (SX s m M t).1∧(SX s m M t).2.1.length≤2:=by
 unfold SX Bag
 cases hf:(HD m M t).2.1 with
 |false=>exact⟨h,jo 2⟩
 |true=>exact⟨Q9 hf,jo 2⟩
def PN(b:UInt8):UInt8:=Od.getD (b.toNat/16) 0
def QN(b:UInt8):UInt8:=Od.getD (b.toNat%16) 0
def QV(l:List UInt8):List UInt8:=l.flatMap fun b=>[PN b,QN b]
theorem MaK:∀b:Fin 256,Wb Od (Mx .u8 (b.val:Int) 4)=some (PN (UInt8.ofNat b.val))∧Wb Od (Fh .u8 (b.val:Int) 15)=some (QN (UInt8.ofNat b.val))∧
 0≤Lib.indexByte Od (jy ((PN (UInt8.ofNat b.val)).toNat:Int)).toUInt8∧0≤Lib.indexByte Od (jy ((QN (UInt8.ofNat b.val)).toNat:Int)).toUInt8∧
 j4 .u8 (j4 .i64 (j4 .i64 (16*Lib.indexByte Od (jy ((PN (UInt8.ofNat b.val)).toNat:Int)).toUInt8)+Lib.indexByte Od (jy ((QN (UInt8.ofNat b.val)).toNat:Int)).toUInt8))=(b.val:Int):=by
 decide+kernel
theorem LaE(c:UInt8):Wb Od (Mx .u8 (c.toNat:Int) 4)=some (PN c)∧Wb Od (Fh .u8 (c.toNat:Int) 15)=some (QN c)∧
 0≤Lib.indexByte Od (jy ((PN c).toNat:Int)).toUInt8∧0≤Lib.indexByte Od (jy ((QN c).toNat:Int)).toUInt8∧
 j4 .u8 (j4 .i64 (j4 .i64 (16*Lib.indexByte Od (jy ((PN c).toNat:Int)).toUInt8)+Lib.indexByte Od (jy ((QN c).toNat:Int)).toUInt8))=(c.toNat:Int):=by
 have h:=MaK ⟨c.toNat,c.toNat_lt⟩
 rw[UInt8.ofNat_toNat]at h
 exact h
theorem Kat:∀l:List UInt8,(QV l).length=2*l.length
 |[]=>rfl
 |c::l=>by
  have:=Kat l
  show([PN c,QN c]++QV l).length=_
  simp only[qc,jw,j6]
  omega
theorem QZ{l:List UInt8}(hl:l.length≤2000):Yq (Nc l)=some (QV l,()):=by
 have hn:=YA l
 unfold Yq
 rw[Ba (show¬((ja (Nc l):Nat):Int)>2000 by omega)]
 have h:=(Zd (step:=fun x:(((List Int)×Xar)×Unit)=>Tt x.1.1 x.1.2.1 x.1.2.2.1 x.1.2.2.2.1) l (fun _ o (c:UInt8)=>jf o [((PN c).toNat:Int),((QN c).toNat:Int)])
  (fun o i=>((o,Nc l,((ja (Nc l):Nat):Int),i,()),())) (fun o=>.inl ((o,()),())) (fun k o=>o.length=2*k) (by
   intro k hk o ho
   refine⟨?_,by simp[ho];omega⟩
   have hx:=LaE l[k]
   have e:(Nc l)[k]'(by omega)=(l[k].toNat:Int):=by simp[Nc]
   simp only[Tt]
   rw[Aa (by omega),Ub (show k<(Nc l).length by omega)]
   simp only[zg,jb]
   rw[e,Aa (show(0:Int)≤4 by omega),hx.1]
   simp only[zg,jb]
   rw[hx.2.1]
   simp only[jb]
   rw[Jb (by simp;omega)]
   rfl) (by
   intro o ho
   simp only[Tt]
   rw[Ba (by omega)];rfl) (by omega) [] rfl).1
 have hf:∀(ys:List UInt8) (j:Nat) (o:List Int),Oc (fun _ o (c:UInt8)=>jf o [((PN c).toNat:Int),((QN c).toNat:Int)]) j o ys=o++Nc (QV ys):=by
  intro ys
  induction ys with
  |nil=>intro j o;simp[Oc,QV,Nc]
  |cons y ys ih=>
   intro j o
   rw[Oc,ih]
   have e:QV (y::ys)=[PN y,QN y]++QV ys:=rfl
   rw[e,ZR]
   simp[Nc]
 rw[hf]at h
 simp only[zh]
 unfold Zw
 erw[h]
 simp only[jb,qf,yg]
 rw[MS]
def V1(l:List UInt8):List UInt8:=cond (decide (((ja l:Nat):Int)>2000)) [] (QV l)
theorem Gah(l:List UInt8):Yq (Nc l)=some (V1 l,()):=by
 have hn:=YA l
 unfold V1
 by_cases h:((ja l:Nat):Int)>2000
 ·rw[Aa h]
  unfold Yq
  rw[Aa (by omega)];rfl
 ·rw[Ba h,QZ (by omega)];rfl
theorem Vax(l:List UInt8):(V1 l).length≤4000:=by
 unfold V1
 by_cases h:((ja l:Nat):Int)>2000
 ·rw[Aa h];simp
 ·rw[Ba h]
  have:=Kat l
  simp only[zh]
  omega
noncomputable def SD(o:List Int)(w:List UInt8):List Int⊕Unit:=cond (Fj w).2.1 (.inl (jf o [(Fj w).1])) (.inr ())
noncomputable def Ue(W:List (List UInt8))(n:Int):List Int×(Bool×Unit):=
 cond (((ja W:Nat):Int) !=n+1) (([]:List Int),false,()) (match Va (fun _ o w=>SD o w) 0 [] (W.drop 1)with
  |.inl o=>(o,true,())
  |.inr _=>(([]:List Int),false,()))
theorem B8:∀(W:List (List UInt8)) (k:Nat) (o o':List Int),Va (fun _ o w=>SD o w) k o W=.inl o'→o'.length=o.length+W.length
 |[],k,o,o',h=>by simp only[Va,za]at h;subst h;rfl
 |w::W,k,o,o',h=>by
  simp only[Va]at h
  revert h
  unfold SD
  cases(Fj w).2.1 with
  |false=>intro h;simp at h
  |true=>
   intro h
   have:=B8 W (k+1) _ o' h
   simp only[ze,qc,jw,j6]at this⊢
   omega
theorem M2{W:List (List UInt8)}{n:Nat}(h:(Ue W (n:Int)).2.1=true):(Ue W (n:Int)).1.length=n:=by
 unfold Ue at h⊢
 cases hc:(((ja W:Nat):Int) !=(n:Int)+1)with
 |true=>rw[hc]at h;simp at h
 |false=>
  rw[hc]at h
  simp only[zh]at h⊢
  have hl:(W.length:Int)=(n:Int)+1:=by simpa using hc
  revert h
  cases hf:Va (fun _ o w=>SD o w) 0 [] (W.drop 1)with
  |inr u=>intro h;simp at h
  |inl o=>
   intro _
   have:=B8 _ _ _ _ hf
   simp only[ql,j6]at this
   show o.length=n
   omega
theorem TI(W:List (List UInt8))(n:Nat)(hW:W.length≤100000000)(hn:n≤100):Jg W (n:Int)=some (Ue W (n:Int)):=by
 unfold Jg Ue
 rw[Af (by omega) (by omega)]
 cases hc:(((ja W:Nat):Int) !=(n:Int)+1)with
 |true=>rfl
 |false=>
  simp only[zh]
  have hl:(W.length:Int)=(n:Int)+1:=by simpa using hc
  have hok:Bd (ja W) 1 ((ja W:Nat):Int)=true:=Sg (lo:=1) (by omega) (jo _)
  have hcut:Ya W (jy 1) (jy ((ja W:Nat):Int))=W.drop 1:=by
   rw[show jy 1=1 from rfl,jn]
   unfold Ya
   rw[List.take_length]
  rw[hok,hcut]
  simp only[zg]
  have hd:(W.drop 1).length≤100000000:=by rw[ql];omega
  generalize W.drop 1=V at hd
  have h:=Kg (step:=fun x:(List Int×List (List UInt8)×Int×Int×Unit)×Unit=>Oz x.1.1 x.1.2.1 x.1.2.2.1 x.1.2.2.2.1) V (fun _ o w=>SD o w)
   (fun o i=>((o,V,((ja V:Nat):Int),i,()),())) (fun o=>.inl ((o,()),())) (fun _=>.inr ((([]:List Int),false,()),())) (fun k o=>o.length=k) (by
    intro k hk o ho
    have e1:Jt V[k]=some (Fj V[k]):=rfl
    refine⟨?_,fun o' h'=>?_⟩
    ·simp only[Oz]
     rw[Aa (by omega),Ub hk]
     simp only[zg,jb]
     rw[e1]
     simp only[jb]
     unfold SD
     cases(Fj V[k]).2.1 with
     |false=>rfl
     |true=>
      simp only[jg,zh,zg]
      rw[Jb (by simp only[jw,j6];omega)]
      rfl
    ·unfold SD at h'
     revert h'
     cases(Fj V[k]).2.1 with
     |false=>intro h;simp at h
     |true=>
      intro h
      simp only[zg,za]at h
      subst h
      simp[ho]) (by
    intro o ho
    simp only[Oz]
    rw[Ba (by omega)];rfl) (by omega) [] rfl
  unfold NB
  erw[h]
  cases Va (fun _ o w=>SD o w) 0 [] V<;>rfl
noncomputable def Ht(x:Ta):List UInt8:=jf (jf (Ya [116,100,117] x.1.toNat (x.1.toNat+1)) [61]) (Re (2,x.2.1,x.2.2.1,0,()))
noncomputable def Iq(l:List Ta):List UInt8:=cond (Dc l) (Lib.join (l.map Ht) [32]) []
theorem Rag(x:Ta):(Ht x).length≤60:=by
 have h1:=Dad (2,x.2.1,x.2.2.1,0,())
 have h2:(Ya ([116,100,117]:List UInt8) x.1.toNat (x.1.toNat+1)).length≤3:=by
  unfold Ya
  rw[ql,List.length_take]
  simp only[jw,j6]
  omega
 unfold Ht
 simp only[ze,qc,jw,j6]
 omega
theorem V9:∀(l:List Ta) (k:Nat) (L L':List La),Va (fun _ L x=>Co L x) k L l=.inl L'→∀x∈l,0≤x.1∧x.1≤2
 |[],_,_,_,_,x,hx=>by simp at hx
 |y::l,k,L,L',h,x,hx=>by
  simp only[Va]at h
  cases hg:Co L y with
  |inr _=>rw[hg]at h;simp at h
  |inl L1=>
   rw[hg]at h
   simp only at h
   rcases jp.1 hx with rfl|hx
   ·unfold Co at hg
    cases hs:Zo x (Jd (Ki x.2.1 x.2.2.1) 0 L)with
    |false=>rw[hs]at hg;simp at hg
    |true=>
     simp only[Zo,jd,qx,beq_iff_eq]at hs
     omega
   ·exact V9 l (k+1) L1 L' h x hx
theorem K0{l:List Ta}(h:Dc l=true):∀x∈l,0≤x.1∧x.1≤2:=by
 simp only[Dc,jd]at h
 have h2:=h.2
 cases hm:IX l with
 |inr _=>rw[hm]at h2;simp at h2
 |inl L=>exact V9 l 0 [] L hm
theorem WV(l:List Ta)(hn:l.length≤Da):Ez l=some (Iq l,()):=by
 have h20:Da=1048576:=rfl
 unfold Ez Iq
 rw[EC l hn]
 simp only[jb]
 cases hm:Dc l with
 |false=>rfl
 |true=>
  simp only[jg,zh,zg]
  have h8:=JT hm
  have hk:=K0 hm
  have hl:=Rh (step:=fun x:(List (List UInt8)×List Ta×Int×Int×Unit)×Unit=>Yp x.1.1 x.1.2.1 x.1.2.2.1 x.1.2.2.2.1) l Ht
   (fun o k=>((o,l,(l.length:Int),k,()),())) (fun o=>.inl ((o,()),())) (by omega) (fun k hk2 o ho=>by
    have hx:=hk l[k] (qi hk2)
    have hlen:=Rag l[k]
    unfold Ht at hlen
    simp only[Yp]
    rw[Aa (by omega),Ub hk2]
    simp only[zg,jb]
    obtain⟨n,hn⟩:=jv hx.1
    have hn':l[k].1=(n:Int):=hn
    have e1:j4 .i64 (l[k].1+1)=((n+1:Nat):Int):=by rw[hn'];exact Ee (by omega)
    have e2:Bd (ja ([116,100,117]:List UInt8)) l[k].1 ((n+1:Nat):Int)=true:=by
     rw[hn'];exact Sg (by omega) (by simp only[jw,j6];omega)
    rw[e1,e2,Dz]
    have e3:jy ((n+1:Nat):Int)=l[k].1.toNat+1:=by rw[hn'];simp
    rw[e3]
    simp only[zg,jb]
    simp only[ze,qc,jw,j6]at hlen
    rw[Jb (by simp only[jw,j6];omega)]
    simp only[zg]
    rw[Jb (by simp only[ze,qc,jw,j6];omega)]
    simp only[zg]
    rw[Jb (by simp only[jw,j6];omega)]
    rfl) (fun o=>by
    simp only[Yp]
    rw[Ba (by omega)]
    rfl)
  unfold At
  erw[hl]
  simp only[jb,qf]
  have hjl:=PH (l.map Ht) [32] 60 (fun x hx=>by
   obtain⟨y,_,rfl⟩:=qk.1 hx
   exact Rag y)
  rw[yr]at hjl
  simp only[jw,j6]at hjl
  rw[Sm (by simp;omega) (by omega)]
  rfl
noncomputable def VP(s:List Ta)(w:List UInt8):List Ta⊕Unit:=
 cond (!(Lib.cut w [61]).2.2) (.inr ()) (cond (!(Qj (Lib.cut w [61]).2.1).2.1) (.inr ()) (cond ((Qj (Lib.cut w [61]).2.1).1.1 !=2) (.inr ())
  (cond (((ja (Lib.cut w [61]).1:Nat):Int) !=1) (.inr ()) (cond (decide (Lib.index [116,100,117] (Lib.cut w [61]).1<0)) (.inr ())
   (.inl (jf s [(Lib.index [116,100,117] (Lib.cut w [61]).1,(Qj (Lib.cut w [61]).2.1).1.2.1,(Qj (Lib.cut w [61]).2.1).1.2.2.1,())]))))))
noncomputable def Dl(s:List UInt8):List Ta×(Bool×Unit):=
 cond (s==([]:List UInt8)) (([]:List Ta),true,()) (match Va (fun _ o w=>VP o w) 0 [] (Mb 32 [] s)with
  |.inl l=>cond (!Dc l||Iq l !=s) (([]:List Ta),false,()) (l,true,())
  |.inr _=>(([]:List Ta),false,()))
theorem Gav{s s':List Ta}{w:List UInt8}(h:VP s w=.inl s'):s'.length=s.length+1:=by
 unfold VP at h
 revert h
 cases(Lib.cut w [61]).2.2 with
 |false=>intro h;simp at h
 |true=>
  cases(Qj (Lib.cut w [61]).2.1).2.1 with
  |false=>intro h;simp at h
  |true=>
   cases(Qj (Lib.cut w [61]).2.1).1.1 !=2 with
   |true=>intro h;simp at h
   |false=>
    cases(((ja (Lib.cut w [61]).1:Nat):Int) !=1)with
    |true=>intro h;simp at h
    |false=>
     cases decide (Lib.index [116,100,117] (Lib.cut w [61]).1<0)with
     |true=>intro h;simp at h
     |false=>
      intro h
      simp only[jg,zh,za]at h
      subst h
      simp
theorem CaE(w p:List UInt8):(Lib.cut w p).2.1.length≤w.length:=by
 unfold Lib.cut
 split<;>simp
theorem Yaf:∀(W:List (List UInt8)) (k:Nat) (o o':List Ta),Va (fun _ o w=>VP o w) k o W=.inl o'→o'.length=o.length+W.length
 |[],k,o,o',h=>by simp only[Va,za]at h;subst h;rfl
 |w::W,k,o,o',h=>by
  simp only[Va]at h
  revert h
  cases hg:VP o w with
  |inr u=>intro h;simp at h
  |inl o1=>
   intro h
   have:=Yaf W (k+1) o1 o' h
   have:=Gav hg
   simp only[jw]
   omega
theorem BX{s:List UInt8}(hs:s.length≤1048571):HC s=some (Dl s):=by
 have h20:Da=1048576:=rfl
 unfold HC Dl
 cases s==([]:List UInt8)with
 |true=>rfl
 |false=>
  rw[UG 32 (by omega)]
  simp only[zh,jb]
  have hn:=Wq 32 s []
  have hp:=Tn 32 s []
  generalize Mb 32 [] s=W at hn hp
  have h:=Kg (step:=fun x:(List UInt8×List Ta×List (List UInt8)×Int×Int×Unit)×Unit=>Rs x.1.1 x.1.2.1 x.1.2.2.1 x.1.2.2.2.1 x.1.2.2.2.2.1) W (fun _ o w=>VP o w)
   (fun o i=>((s,o,W,((ja W:Nat):Int),i,()),())) (fun o=>.inl ((s,o,()),())) (fun _=>.inr ((([]:List Ta),false,()),())) (fun k o=>o.length=k) (by
    intro k hk o ho
    refine⟨?_,fun o' h'=>by rw[Gav h',ho]⟩
    have hw:=hp W[k] (qi hk)
    simp only[Rs]
    rw[Aa (by omega),Mf,Aa hk]
    simp only[zg,jn]
    rw[je hk]
    simp only[jb]
    generalize W[k]=w at hw
    have hw2:=CaE w [61]
    rw[Kad [61] (by simp at hw;omega)]
    simp only[jb]
    rw[QJ (by simp at hw;omega)]
    simp only[jb]
    have ei:strings_Index ([116,100,117]:List UInt8) (Lib.cut w [61]).1=some (Lib.index [116,100,117] (Lib.cut w [61]).1,()):=rfl
    rw[ei]
    simp only[jb]
    unfold VP
    cases(Lib.cut w [61]).2.2 with
    |false=>rfl
    |true=>
     cases(Qj (Lib.cut w [61]).2.1).2.1 with
     |false=>rfl
     |true=>
      cases(Qj (Lib.cut w [61]).2.1).1.1 !=2 with
      |true=>rfl
      |false=>
       cases(((ja (Lib.cut w [61]).1:Nat):Int) !=1)with
       |true=>rfl
       |false=>
        cases decide (Lib.index [116,100,117] (Lib.cut w [61]).1<0)with
        |true=>rfl
        |false=>
         simp only[jg,zh]
         rw[Jb (by simp only[jw,j6];omega)]
         rfl) (by
    intro o ho
    simp only[Rs]
    rw[Ba (by omega)];rfl) (by omega) [] rfl
  have hl:∀o,Va (fun _ o w=>VP o w) 0 [] W=.inl o→o.length≤Da:=fun o ho=>by
   have:=Yaf W 0 [] o ho
   simp at this;omega
  unfold Mv
  erw[h]
  revert hl
  cases Va (fun _ o w=>VP o w) 0 [] W with
  |inr u=>intro _;rfl
  |inl o=>
   intro hl
   have hol:=hl o rfl
   simp only[jb,qf]
   rw[EC o hol]
   simp only[jb]
   cases Dc o with
   |false=>rfl
   |true=>
    simp only[jg,zh,yu]
    rw[WV o hol]
    simp only[jb]
    cases Iq o !=s<;>rfl
theorem E8{s:List UInt8}(h:(Dl s).2.1=true):Dc (Dl s).1=true:=by
 unfold Dl at h⊢
 revert h
 cases s==([]:List UInt8)with
 |true=>intro _;rfl
 |false=>
  simp only[zh]
  cases Va (fun _ o w=>VP o w) 0 [] (Mb 32 [] s)with
  |inr u=>intro h;simp at h
  |inl l=>
   simp only
   cases hm:Dc l with
   |false=>intro h;simp at h
   |true=>
    cases Iq l !=s with
    |true=>intro h;simp at h
    |false=>intro _;exact hm
abbrev Zi:=List (Int×List Int)
theorem NK{α:Type}:∀{W:List (Int×α)} {x:Int} {w:α},Vd W x=some w→(x,w)∈W
 |[],x,w,h=>by simp[Vd]at h
 |(k,y)::r,x,w,h=>by
  simp only[Vd]at h
  cases hk:x==k with
  |true=>rw[hk]at h;simp at h hk;subst h;subst hk;simp
  |false=>rw[hk]at h;exact jr _ (NK h)
theorem W9{α:Type}:∀{W:List (Int×α)} {x:Int},Vd W x=none↔∀e∈W,e.1≠x
 |[],x=>by simp[Vd]
 |(k,y)::r,x=>by
  simp only[Vd]
  cases hk:x==k with
  |true=>simp at hk;subst hk;simp
  |false=>
   simp at hk
   simp only[zh,W9 (W:=r),List.forall_mem_cons]
   exact⟨fun h=>⟨fun e=>hk e.symm,h⟩,fun h=>h.2⟩
theorem Val{α:Type}:∀{W:List (Int×α)} {x:Int} {w:α},(W.map Prod.fst).Nodup→(x,w)∈W→Vd W x=some w
 |[],x,w,_,h=>by simp at h
 |(k,y)::r,x,w,hn,h=>by
  simp only[yk,ym]at hn
  simp only[Vd]
  rcases jp.1 h with h|h
  ·simp only[jh]at h
   rw[h.1,h.2];simp
  ·have:x≠k:=fun e=>hn.1 (qk.2 ⟨(x,w),h,e⟩)
   rw[show(x==k)=false by simpa using this]
   exact Val hn.2 h
section
variable(nx:Int→Nat→Int) (K:Nat) (fr:Int) (P:Int→Prop)
def XR(x:Int)(w:List Int)(k:Nat)(W:Zi):Zi:=cond (Vd W (nx x k)).isSome W (W++[(nx x k,w++[(k:Int)])])
def Yw(x:Int)(w:List Int)(n:Nat)(W:Zi):Zi:=NH (XR nx x w) n W
def TS:Nat→Nat→Zi→Zi
 |0,_,W=>W
 |n+1,i,W=>match W[i]? with
  |none=>W
  |some e=>TS n (i+1) (Yw nx e.1 e.2 K W)
def Kac(f:Int)(w:List Int):Int:=w.foldl (fun f k=>nx f k.toNat) f
structure BIn(W:Zi):Prop where
 fst:W[0]?=some (fr,[])
 nd:(W.map Prod.fst).Nodup
 ok:∀e∈W,P e.1
 way:∀e∈W,Kac nx fr e.2=e.1∧∀k∈e.2,0≤k∧k<(K:Int)
 srt:∀(i j:Nat) (hj:j<W.length) (hi:i≤j),(W[i]'(by omega)).2.length≤W[j].2.length
 ln:∀(j:Nat) (hj:j<W.length),W[j].2.length≤j
structure P3(i k:Nat)(W:Zi):Prop extends BIn nx K fr P W where
 lvl:∀(h:i<W.length) (j:Nat) (hj:j<W.length),W[j].2.length≤W[i].2.length+1
 cls:∀(j:Nat) (hj:j<W.length) (k':Nat),j<i∧k'<K∨j=i∧k'<k→∃(q:Nat) (hq:q<W.length),W[q].1=nx W[j].1 k'∧W[q].2.length≤W[j].2.length+1
end
section
variable{nx:Int→Nat→Int} {K:Nat} {fr:Int} {P:Int→Prop}
theorem Zap(f:Int)(w:List Int)(k:Nat):Kac nx f (w++[(k:Int)])=nx (Kac nx f w) k:=by simp[Kac]
theorem ZaJ(hP:∀x k,P x→k<K→P (nx x k)){i k:Nat}{W:Zi}(h:P3 nx K fr P i k W)(hi:i<W.length)(hk:k<K):P3 nx K fr P i (k+1) (XR nx W[i].1 W[i].2 k W)∧W<+:XR nx W[i].1 W[i].2 k W:=by
 unfold XR
 cases hg:Vd W (nx W[i].1 k)with
 |some w=>
  simp only[Option.isSome_some,zg]
  refine⟨{toBIn:=h.toBIn,lvl:=h.lvl,cls:=fun j hj k' hjk=>?_},List.prefix_refl _⟩
  by_cases hlast:j=i∧k'=k
  ·obtain⟨rfl,rfl⟩:=hlast
   obtain⟨q,hq,he⟩:=qj (NK hg)
   refine⟨q,hq,by rw[he],?_⟩
   exact h.lvl hj q hq
  ·exact h.cls j hj k' (by omega)
 |none=>
  simp only[Option.isSome_none,zh]
  have hlen:(W++[(nx W[i].1 k,W[i].2++[(k:Int)])]).length=W.length+1:=by simp
  have hget:∀(j:Nat) (hj:j<W.length),(W++[(nx W[i].1 k,W[i].2++[(k:Int)])])[j]'(by omega)=W[j]:=fun j hj=>List.getElem_append_left hj
  have hnew:(W++[(nx W[i].1 k,W[i].2++[(k:Int)])])[W.length]'(by omega)=(nx W[i].1 k,W[i].2++[(k:Int)]):=by simp
  have hcase:∀j:Nat,j<(W++[(nx W[i].1 k,W[i].2++[(k:Int)])]).length→j<W.length∨j=W.length:=fun j hj=>by omega
  have hw:=h.way W[i] (qi hi)
  refine⟨{fst:= ?_,nd:= ?_,ok:= ?_,way:= ?_,srt:= ?_,ln:= ?_,lvl:= ?_,cls:= ?_},List.prefix_append _ _⟩
  ·have h0:=h.fst
   rw[List.getElem?_append_left (by omega)]
   exact h0
  ·rw[yw,yn]
   refine⟨h.nd,by simp,?_⟩
   intro a ha b hb
   simp only[yk,List.map_nil,qb]at hb
   subst hb
   obtain⟨e,he,rfl⟩:=qk.1 ha
   exact W9.1 hg e he
  ·intro e he
   rcases jl.1 he with he|he
   ·exact h.ok e he
   ·simp only[qb]at he
    subst he
    exact hP _ _ (h.ok _ (qi hi)) hk
  ·intro e he
   rcases jl.1 he with he|he
   ·exact h.way e he
   ·simp only[qb]at he
    subst he
    refine⟨by rw[Zap,hw.1],fun q hq=>?_⟩
    rcases jl.1 hq with hq|hq
    ·exact hw.2 q hq
    ·simp only[qb]at hq
     subst hq
     omega
  ·intro a b hb hab
   rcases hcase b hb with hb'|rfl
   ·rw[hget a (by omega),hget b hb']
    exact h.srt a b hb' hab
   ·rcases hcase a (by omega)with ha|rfl
    ·rw[hget a ha,hnew]
     have:=h.lvl hi a ha
     simpa using this
    ·exact jo _
  ·intro j hj
   rcases hcase j hj with hj'|rfl
   ·rw[hget j hj'];exact h.ln j hj'
   ·rw[hnew]
    have:=h.ln i hi
    simp
    omega
  ·intro _ j hj
   rw[hget i hi]
   rcases hcase j hj with hj'|rfl
   ·rw[hget j hj'];exact h.lvl hi j hj'
   ·rw[hnew];simp
  ·intro j hj k' hjk
   have hj':j<W.length:=by omega
   rw[hget j hj']
   by_cases hlast:j=i∧k'=k
   ·obtain⟨rfl,rfl⟩:=hlast
    exact⟨W.length,by omega,by rw[hnew],by rw[hnew];simp⟩
   ·obtain⟨q,hq,h1,h2⟩:=h.cls j hj' k' (by omega)
    exact⟨q,by omega,by rw[hget q hq];exact h1,by rw[hget q hq];exact h2⟩
theorem ZS(hP:∀x k,P x→k<K→P (nx x k)){i:Nat}{W:Zi}(h:P3 nx K fr P i 0 W)(hi:i<W.length):∀n,n≤K→P3 nx K fr P i n (Yw nx W[i].1 W[i].2 n W)∧W<+:Yw nx W[i].1 W[i].2 n W
 |0,_=>⟨h,List.prefix_refl _⟩
 |n+1,hn=>by
  obtain⟨h1,h2⟩:=ZS hP h hi n (by omega)
  have hi':i<(Yw nx W[i].1 W[i].2 n W).length:=qg hi h2.length_le
  have he:(Yw nx W[i].1 W[i].2 n W)[i]=W[i]:=by
   obtain⟨t,ht⟩:=h2
   have:(W++t)[i]?=some W[i]:=by rw[List.getElem?_append_left hi,je hi]
   rw[ht,je hi']at this
   exact zb this
  obtain⟨g1,g2⟩:=ZaJ hP h1 hi' (by omega)
  rw[he]at g1 g2
  exact⟨g1,h2.trans g2⟩
theorem X7{i:Nat}{W:Zi}(h:P3 nx K fr P i K W)(hi:i<W.length):P3 nx K fr P (i+1) 0 W where
 toBIn:=h.toBIn
 lvl:=fun h1 j hj=>by
  have:=h.lvl hi j hj
  have:=h.srt i (i+1) h1 (by omega)
  omega
 cls:=fun j hj k' hjk=>h.cls j hj k' (by omega)
structure TaI(nx:Int→Nat→Int)(K:Nat)(fr:Int)(P:Int→Prop)(W:Zi):Prop extends BIn nx K fr P W where
 len:W.length≤16
 cls:∀e∈W,∀k,k<K→∃e'∈W,e'.1=nx e.1 k∧e'.2.length≤e.2.length+1
theorem BK(hB:∀x,P x→0≤x∧x<16){W:Zi}(h:BIn nx K fr P W):W.length≤16:=by
 have hn:(W.map fun e=>e.1.toNat).Nodup:=by
  have:=h.nd
  rw[List.Nodup,List.pairwise_map]at this⊢
  refine(List.Pairwise.and_mem.1 this).imp ?_
  rintro x y ⟨hx,hy,hxy⟩ he
  have h1:=hB _ (h.ok x hx);have h2:=hB _ (h.ok y hy)
  omega
 have:=L2 16 _ hn (by
  intro y hy
  obtain⟨x,hx,rfl⟩:=qk.1 hy
  have:=hB _ (h.ok x hx)
  omega)
 simpa using this
theorem Las(hB:∀x,P x→0≤x∧x<16)(hP:∀x k,P x→k<K→P (nx x k)):∀(n i:Nat) (W:Zi),P3 nx K fr P i 0 W→17≤n+i→TaI nx K fr P (TS nx K n i W)
 |0,i,W,h,hn=>by
  have hl:=BK hB h.toBIn
  refine{toBIn:=h.toBIn,len:=hl,cls:=fun e he k hk=>?_}
  obtain⟨j,hj,rfl⟩:=qj (l:=W) he
  obtain⟨q,hq,h1,h2⟩:=h.cls j hj k (.inl ⟨by omega,hk⟩)
  exact⟨_,qi hq,h1,h2⟩
 |n+1,i,W,h,hn=>by
  simp only[TS]
  by_cases hi:i<W.length
  ·rw[je hi]
   obtain⟨h1,h2⟩:=ZS hP h hi K (jo _)
   exact Las hB hP n (i+1) _ (X7 h1 (qg hi h2.length_le)) (by omega)
  ·rw[qt (by omega)]
   have hl:=BK hB h.toBIn
   refine{toBIn:=h.toBIn,len:=hl,cls:=fun e he k hk=>?_}
   obtain⟨j,hj,rfl⟩:=qj (l:=W) he
   obtain⟨q,hq,g1,g2⟩:=h.cls j hj k (.inl ⟨by omega,hk⟩)
   exact⟨_,qi hq,g1,g2⟩
theorem I3(h:P fr):P3 nx K fr P 0 0 [(fr,[])]where
 fst:=rfl
 nd:=by simp
 ok:=fun e he=>by simp at he;subst he;exact h
 way:=fun e he=>by simp at he;subst he;exact⟨rfl,by simp⟩
 srt:=fun i j hj hi=>by
  have:j=0:=by simpa using hj
  have:i=0:=by omega
  subst i;subst j;exact jo _
 ln:=fun j hj=>by
  have:j=0:=by simpa using hj
  subst j;simp
 lvl:=fun _ j hj=>by
  have:j=0:=by simpa using hj
  subst j;simp
 cls:=fun j hj k' h=>by omega
end
def Hn(m:Ea)(f:Int)(k:Nat):Int:=HI f (Hi m.2.1 (Eg m f k) k)
theorem Rav(f o:Int)(c:Bool)(a:Ia)(ha:Nb a=true):(Yz f o c (NG a)).1=HI f a:=by
 have h0:∀b:Ia,(Yz f o c b).1=HI f b:=fun b=>by
  unfold Yz HI
  by_cases h2:b.1=2
  ·simp only[h2,Int.reduceBEq,zg,zh]
   cases b.2.1==0<;>simp only[zg,zh]
  ·simp only[show(b.1==2)=false by simpa using h2,zh]
   generalize Ft .i64 f (Ke .i64 1 b.2.2.2.1)=X
   generalize Aj .i64 (Ke .i64 1 b.2.2.2.1) 1=Y
   cases b.1==4 with
   |true=>simp only[zg]
   |false=>
    simp only[zh]
    cases b.1==5 with
    |true=>simp only[zg]
    |false=>
     simp only[zh]
     cases b.1==8 with
     |true=>simp only[zg]
     |false=>
      simp only[zh]
      cases b.1==10<;>simp only[zg,zh]
 rw[h0]
 unfold NG
 cases ht:Df a with
 |false=>rfl
 |true=>
  unfold Df at ht
  simp only[jd,qx,beq_iff_eq]at ht
  rw[zg]
  unfold HI
  rcases ht.2 with h|h<;>simp only[h,Int.reduceBEq,zh]
theorem OaL{m:Ea}(hM:Wp m){f o:Int}(hs:Un m.2.1.length f o)(c:Bool){k:Nat}(hk:(k:Int)<m.1):(stK m f o c k).1=Hn m f k:=by
 have hm:=Pd hM.v
 have hl2:=hm.l2
 have hf1:=hs.f1
 have hp:2^m.2.1.length≤2^4:=Nat.pow_le_pow_right (by omega) hl2
 have hsame:Eg m (Xd .i64 1 f) k=Eg m f k:=HS _ fun j hj=>Q4 hs.f0 (by omega) hs.f2 j (by omega)
 have hl:=RD hm f k
 have hrow:=hm.row _ hl
 have hact:=hm.act _ hl k (by omega)
 rw[←VJ hl (by omega)]at hact
 unfold stK Hax Hn
 rw[hsame]
 exact Rav f o c _ (UD hact)
theorem WaT{m:Ea}(hM:Wp m){f:Int}{k:Nat}(hs:Un m.2.1.length f 0)(hk:(k:Int)<m.1):Un m.2.1.length (Hn m f k) 0:=by
 have h1:=(NaH (c:=false) hM hs hk).2.1
 rw[OaL hM hs false hk]at h1
 exact⟨h1.f0,h1.f1,h1.f2,by omega,by omega⟩
theorem KJ{m:Ea}(hM:Wp m){x:Int}(hs:Un m.2.1.length x 0):0≤x∧x<16:=by
 have hl2:=(Pd hM.v).l2
 have hf1:=hs.f1
 have hp:2^m.2.1.length≤2^4:=Nat.pow_le_pow_right (by omega) hl2
 exact⟨hs.f0,by omega⟩
def Oj(m:Ea):Nat:=m.1.toNat
def EM(m:Ea)(fr:Int):Zi:=TS (Hn m) (Oj m) 17 0 [(fr,[])]
abbrev BT(m:Ea)(fr:Int):=P3 (Hn m) (Oj m) fr (fun x=>Un m.2.1.length x 0)
theorem QU{m:Ea}(hM:Wp m):(Oj m:Int)=m.1∧Oj m≤32:=by
 have hm:=Pd hM.v
 have:=hm.k1
 have:=hm.k2
 unfold Oj
 omega
theorem hPm{m:Ea}(hM:Wp m):∀x k,Un m.2.1.length x 0→k<Oj m→Un m.2.1.length (Hn m x k) 0:=fun x k hx hk=>WaT hM hx (by have:=QU hM;omega)
theorem Vag{m:Ea}(hM:Wp m){fr:Int}(h:Un m.2.1.length fr 0):TaI (Hn m) (Oj m) fr (fun x=>Un m.2.1.length x 0) (EM m fr):=
 Las (fun x hx=>KJ hM hx) (hPm hM) 17 0 _ (I3 h) (by omega)
theorem BaK{m:Ea}{fr:Int}{W W':Zi}{i k:Nat}(h:BT m fr i k W')(hi:i<W.length)(hp:W<+:W'):Vd W' W[i].1=some W[i].2:=
 Val h.nd (hp.subset (qi hi))
theorem Zah{m:Ea}(hM:Wp m){fr:Int}{i k:Nat}{W:Zi}(h:BT m fr i k W){x:Int}{w:List Int}(hx:Vd W x=some w):w.length≤16:=by
 obtain⟨j,hj,he⟩:=qj (NK hx)
 have h1:=h.ln j hj
 rw[he]at h1
 have:=BK (fun x hx=>KJ hM hx) h.toBIn
 simp only at h1
 omega
def Hl(i:Nat)(W:Zi):List Int:=(W.map Prod.fst).drop i
theorem Baw{i:Nat}{W:Zi}(x:Int)(w:List Int)(h:i≤W.length):Hl i (W++[(x,w)])=Hl i W++[x]:=by
 unfold Hl
 rw[yw,List.drop_append_of_le_length (by simpa using h)]
 rfl
theorem K3(i:Nat)(W:Zi):(Hl i W).length=W.length-i:=by simp[Hl]
theorem X4{l:List Int}(h:l.length≤1000):Gk l=some (l,()):=by
 unfold Gk
 rw[Jb (by simp;omega)]
 rfl
theorem Jae{m:Ea}(hM:Wp m){fr:Int}{i:Nat}{W:Zi}(h:BT m fr i 0 W)(hi:i<W.length):
 Qz (((),W,Hl (i+1) W,W[i].1,m.1,(0:Int),()),(m,()))=some (.inl (((),Yw (Hn m) W[i].1 W[i].2 (Oj m) W,Hl (i+1) (Yw (Hn m) W[i].1 W[i].2 (Oj m) W),()),(m,()))):=by
 have hm:=Pd hM.v
 obtain⟨k1,k2⟩:=QU hM
 have hl:=G0 (step:=fun x:(Unit×Zi×List Int×Int×Int×Int×Unit)×Ea×Unit=>YG x.1.1 x.1.2.1 x.1.2.2.1 x.1.2.2.2.1 x.1.2.2.2.2.1 x.1.2.2.2.2.2.1 x.2.1) (Oj m) (by omega)
  (XR (Hn m) W[i].1 W[i].2) W (fun W' k=>(((),W',Hl (i+1) W',W[i].1,m.1,k,()),(m,()))) (fun W'=>.inl (((),W',Hl (i+1) W',()),(m,()))) (by
   intro k hk
   obtain⟨g1,g2⟩:=ZS (hPm hM) h hi k (by omega)
   have hgt:=BaK g1 hi g2
   have hln:=Zah hM g1 hgt
   have hlen:=BK (fun x hx=>KJ hM hx) g1.toBIn
   have hle:=g2.length_le
   have htl:=K3 (i+1) (Yw (Hn m) W[i].1 W[i].2 k W)
   have hit:NH (XR (Hn m) W[i].1 W[i].2) k W=Yw (Hn m) W[i].1 W[i].2 k W:=rfl
   rw[hit]
   generalize hW':Yw (Hn m) W[i].1 W[i].2 k W=W' at hgt hlen hle htl g1
   simp only[YG]
   rw[Aa (by omega),NM hm W[i].1 (by omega)]
   simp only[zg,jb]
   rw[show HI W[i].1 (Hi m.2.1 (Eg m W[i].1 k) k)=Hn m W[i].1 k from rfl]
   unfold XR
   cases hg:Vd W' (Hn m W[i].1 k)with
   |some w=>rfl
   |none=>
    simp only[Option.isSome_none,j7,zg,zh]
    rw[hgt]
    simp only[qz]
    rw[X4 (by omega)]
    simp only[jb]
    rw[Jb (by simp;omega),Jb (by rw[htl];simp;omega),Baw _ _ (by omega)]
    simp only[Option.isNone_none,zg]
    rfl) (by
   simp only[YG]
   rw[Ba (by omega)];rfl)
 unfold Qz
 exact hl
theorem Aaw{i:Nat}{W:Zi}(h:i<W.length):Hl i W=W[i].1::Hl (i+1) W:=by
 unfold Hl
 rw[List.drop_eq_getElem_cons (by simpa using h)]
 simp
theorem TV{m:Ea}(hM:Wp m){fr:Int}:∀(n i:Nat) (W:Zi),BT m fr i 0 W→17≤n+i→
 Xr (((),W,Hl i W,()),(m,()))=some (.inl ((TS (Hn m) (Oj m) n i W,()),()))
 |n,i,W,h,hn=>by
  have hlen:=BK (fun x hx=>KJ hM hx) h.toBIn
  by_cases hi:i<W.length
  ·obtain⟨n',rfl⟩:∃n',n=n'+1:=⟨n-1,by omega⟩
   obtain⟨h1,h2⟩:=ZS (hPm hM) h hi (Oj m) (jo _)
   have ih:=TV hM n' (i+1) _ (X7 h1 (qg hi h2.length_le)) (by omega)
   unfold Xr at ih⊢
   rw[TS,je hi]
   simp only
   refine(Zb (z:=some (Sum.inl (((),Yw (Hn m) W[i].1 W[i].2 (Oj m) W,Hl (i+1) (Yw (Hn m) W[i].1 W[i].2 (Oj m) W),()),(m,())))) ?_).trans ih
   have htl:=K3 i W
   have hcons:=Aaw hi
   have hl1:(Hl i W).length=(Hl (i+1) W).length+1:=by rw[hcons];simp
   simp only[GN]
   rw[Aa (by omega),show Ac (Hl i W).length 0=true by rw[show(0:Int)=((0:Nat):Int)from rfl,Mf];simp;omega]
   simp only[zg]
   rw[show(Hl i W)[jy 0]?=some W[i].1 by rw[hcons];rfl]
   simp only[jb]
   rw[show Bd (Hl i W).length 1 (((Hl i W).length:Nat):Int)=true from Sg (lo:=1) (by omega) (jo _)]
   simp only[zg,jb]
   rw[show Ya (Hl i W) (jy 1) (jy (((Hl i W).length:Nat):Int))=Hl (i+1) W by
    rw[jn,show jy 1=1 from rfl,hcons]
    unfold Ya
    rw[List.take_length];rfl]
   rw[Jae hM h hi]
   rfl
  ·have hb:TS (Hn m) (Oj m) n i W=W:=by
    cases n with
    |zero=>rfl
    |succ n=>rw[TS,qt (by omega)]
   rw[hb]
   unfold Xr
   refine(Zb (z:=some (Sum.inr (.inl ((W,()),())))) ?_).trans rfl
   have htl:=K3 i W
   simp only[GN]
   rw[Ba (by omega)];rfl
theorem Kae{m:Ea}(hM:Wp m){fr:Int}(h:Un m.2.1.length fr 0):YQ m fr=some (EM m fr,()):=by
 have:=TV hM 17 0 [(fr,[])] (I3 h) (by omega)
 unfold YQ
 rw[show Option.isNone (Vd ([]:List (Int×List Int)) fr)=true from rfl,zg]
 rw[show(jf ([]:List (Int×List Int)) [(fr,([]:List Int))])=[(fr,[])]from rfl]
 rw[show([fr]:List Int)=Hl 0 [(fr,[])]from rfl,this]
 rfl
theorem UI{m:Ea}(hv:Tb m=true){f:Int}(h:Un m.2.1.length f 0):Xh m f=some (true,())∧Fo m f=some (true,()):=by
 have hM:=JG hv
 have hz:=hM.z
 have hl:=Pd hv
 have hl2:=hl.l2
 have hp:1≤2^m.2.1.length∧2^m.2.1.length≤2^4:=⟨Nat.one_le_two_pow,Nat.pow_le_pow_right (by omega) hl2⟩
 have f0:=h.f0;have f1:=h.f1;have f2:=h.f2
 unfold Xh Fo
 rw[Ji m (by omega),Ok m (by omega),hv]
 simp only[jb,zg,Vc]
 rw[CB (by omega),Aa (show(0:Int)≤(m.2.1.length:Int) by omega),Aa (show f≥0 by omega),show((2:Int)==0)=false from rfl,show(f.tmod 2==0)=true by simpa using f2]
 simp only[zg,zh]
 rw[Af (by omega) (by omega),Aa (show f<((2^m.2.1.length:Nat):Int)from f1),Aa (show 0≤f∧f≤((2^m.2.1.length:Nat):Int)-1 by omega)]
 exact⟨rfl,rfl⟩
theorem Xad{m:Ea}(hz:Hb Bb m≤Da){f:Int}(h:Xh m f=some (true,())):Tb m=true∧Un m.2.1.length f 0:=by
 obtain⟨hv,f0,_,f2⟩:=Dah hz h rfl
 refine⟨hv,f0,?_,f2,by omega,by omega⟩
 have hl:=Pd hv
 have hl2:=hl.l2
 unfold Xh at h
 rw[Ji m hz,hv]at h
 simp only[jb,zg,show((2:Int)==0)=false from rfl,zh]at h
 rw[Aa (show f≥0 by omega),show(f.tmod 2==0)=true by simpa using f2,Aa (show(0:Int)≤(m.2.1.length:Int) by omega),CB (by omega)]at h
 simpa using h
theorem Iax{m:Ea}(hM:Wp m){f:Int}(h:Un m.2.1.length f 0){k:Nat}(hk:(k:Int)<m.1):NC m f (k:Int)=some (Hn m f k,())∧TQ m f (k:Int)=some (Hn m f k,()):=by
 have hv:=hM.v
 have hz:=hM.z
 have hm:=Pd hv
 have hk1:=hm.k1
 have hk2:=hm.k2
 have hl2:=hm.l2
 obtain⟨i1,i2⟩:=UI hv h
 obtain⟨g0,g1⟩:=KJ hM h
 have hsame:Eg m (Xd .i64 1 f) k=Eg m f k:=HS _ fun j hj=>Q4 g0 g1 h.f2 j (by omega)
 have hl:=RD hm f k
 have hrow:=hm.row _ hl
 have hact:=hm.act _ hl k (by omega)
 rw[←VJ hl (by omega)]at hact
 constructor
 ·unfold NC
  rw[i2]
  simp only[jb,jg,zh,Vc]
  rw[Af (n:=m.1-1) (by omega) (by omega),Aa (show(0:Int)≤(k:Int)∧(k:Int)≤m.1-1 by omega),UH (by omega) hv _ hk,hsame]
  simp only[jb,jg,zh]
  unfold Hn
  generalize Hi m.2.1 (Eg m f k) k=a at hact⊢
  unfold HI
  cases h4:(a.1==4)with
  |true=>rw[Aa (Hac hact (.inr (.inl (by simpa using h4)))).1];rfl
  |false=>
   cases h5:(a.1==5)with
   |true=>rw[Aa (Hac hact (.inr (.inr (.inl (by simpa using h5))))).1];rfl
   |false=>rfl
 ·unfold TQ
  rw[i1]
  simp only[jb,jg,zh]
  rw[Ba (show¬(k:Int)<0 by omega),Ba (show¬(k:Int)≥m.1 by omega),NM hm f hk]
  rfl
theorem LX{α:Type}:∀(W:List (Int×α)) (y:Int) (w:α) (x:Int),Vd W y=none→Vd (W++[(y,w)]) x=if x=y then some w else Vd W x
 |[],y,w,x,_=>by
  by_cases h:x=y
  ·subst h;simp[Vd]
  ·simp only[yg,Vd,if_neg h,show(x==y)=false by simpa using h,zh]
 |(k,z)::r,y,w,x,hn=>by
  simp only[Vd]at hn
  have hyk:(y==k)=false:=by
   cases hk:y==k with
   |true=>rw[hk]at hn;simp at hn
   |false=>rfl
  rw[hyk]at hn
  simp only[zh]at hn
  simp only[yh,Vd]
  cases hx:x==k with
  |true=>
   have:x=k:=by simpa using hx
   have hne:x≠y:=fun e=>by rw[←e,this]at hyk;simp at hyk
   simp[hne]
  |false=>simp only[zh];exact LX r y w x hn
def GB(W:Zi):List (List Int):=(y3 16).map fun x=>(Vd W ((x:Nat):Int)).getD []
def PF(W:Zi):List Bool:=(y3 16).map fun x=>(Vd W ((x:Nat):Int)).isSome
theorem KH(W:Zi):(GB W).length=16:=by simp[GB]
theorem IK(W:Zi):(PF W).length=16:=by simp[PF]
theorem JH(W:Zi){x:Nat}(h:x<16):(GB W)[x]?=some ((Vd W ((x:Nat):Int)).getD []):=by simp[GB,List.getElem?_map,List.getElem?_range h]
theorem IP(W:Zi){x:Nat}(h:x<16):(PF W)[x]?=some (Vd W ((x:Nat):Int)).isSome:=by simp[PF,List.getElem?_map,List.getElem?_range h]
theorem Jas{W:Zi}{y:Nat}(hy:y<16)(w:List Int)(hn:Vd W ((y:Nat):Int)=none):(GB W).set y w=GB (W++[((y:Int),w)]):=by
 apply qp
 intro x
 by_cases hx:x<16
 ·rw[JH _ hx,LX W (y:Int) w _ hn,List.getElem?_set]
  by_cases hxy:y=x
  ·subst hxy
   rw[if_pos rfl,if_pos rfl,if_pos (by rw[KH];omega)];rfl
  ·rw[if_neg hxy,JH _ hx,if_neg (by omega)]
 ·rw[qt (by rw[List.length_set,KH];omega),qt (by rw[KH];omega)]
theorem Eat{W:Zi}{y:Nat}(hy:y<16)(w:List Int)(hn:Vd W ((y:Nat):Int)=none):(PF W).set y true=PF (W++[((y:Int),w)]):=by
 apply qp
 intro x
 by_cases hx:x<16
 ·rw[IP _ hx,LX W (y:Int) w _ hn,List.getElem?_set]
  by_cases hxy:y=x
  ·subst hxy
   rw[if_pos rfl,if_pos rfl,if_pos (by rw[IK];omega)];rfl
  ·rw[if_neg hxy,IP _ hx,if_neg (by omega)]
 ·rw[qt (by rw[List.length_set,IK];omega),qt (by rw[IK];omega)]
theorem R8{m:Ea}(hM:Wp m){fr:Int}{i:Nat}{W:Zi}(h:BT m fr i 0 W)(hi:i<W.length):
 Sn (((),GB W,PF W,W.map Prod.fst,(i:Int),W[i].1,(0:Int),()),(m,()))=
  some (.inl (((),GB (Yw (Hn m) W[i].1 W[i].2 (Oj m) W),PF (Yw (Hn m) W[i].1 W[i].2 (Oj m) W),(Yw (Hn m) W[i].1 W[i].2 (Oj m) W).map Prod.fst,(i:Int),()),(m,()))):=by
 have hm:=Pd hM.v
 obtain⟨k1,k2⟩:=QU hM
 have hx:=h.ok _ (qi hi)
 obtain⟨x0,x1⟩:=KJ hM hx
 have hl:=G0 (step:=fun x:(Unit×List (List Int)×List Bool×List Int×Int×Int×Int×Unit)×Ea×Unit=>Zs x.1.1 x.1.2.1 x.1.2.2.1 x.1.2.2.2.1 x.1.2.2.2.2.1 x.1.2.2.2.2.2.1 x.1.2.2.2.2.2.2.1 x.2.1) (Oj m) (by omega)
  (XR (Hn m) W[i].1 W[i].2) W (fun W' k=>(((),GB W',PF W',W'.map Prod.fst,(i:Int),W[i].1,k,()),(m,()))) (fun W'=>.inl (((),GB W',PF W',W'.map Prod.fst,(i:Int),()),(m,()))) (by
   intro k hk
   obtain⟨g1,g2⟩:=ZS (hPm hM) h hi k (by omega)
   have hgt:=BaK g1 hi g2
   have hln:=Zah hM g1 hgt
   have hlen:=BK (fun x hx=>KJ hM hx) g1.toBIn
   have hny:=hPm hM _ k hx hk
   obtain⟨y0,y1⟩:=KJ hM hny
   have hit:NH (XR (Hn m) W[i].1 W[i].2) k W=Yw (Hn m) W[i].1 W[i].2 k W:=rfl
   rw[hit]
   generalize hW':Yw (Hn m) W[i].1 W[i].2 k W=W' at hgt hlen g1
   simp only[Zs]
   rw[Aa (by omega),(Iax hM hx (by omega)).1]
   simp only[zg,jb]
   obtain⟨y,hy⟩:=jv y0
   obtain⟨xn,hxn⟩:=jv x0
   rw[Aa (by omega)]
   unfold XR
   rw[hy,Mf,IK,Aa (by omega),jn,IP W' (by omega)]
   simp only[zg,jb]
   cases hg:Vd W' (y:Int)with
   |some w=>rfl
   |none=>
    simp only[Option.isSome_none,j7,zg,zh]
    rw[hxn]at hgt⊢
    rw[Mf,Mf,KH,Aa (show xn<16 by omega),Aa (show y<16 by omega),jn,JH W' (by omega),hgt]
    simp only[zg,jb,qz]
    have hset:j5 (GB W') xn W[i].2=GB W':=by
     apply qp
     intro z
     rw[List.getElem?_set]
     by_cases hz:xn=z
     ·subst hz
      rw[if_pos rfl,if_pos (by rw[KH];omega),JH W' (by omega),hgt];rfl
     ·rw[if_neg hz]
    rw[hset,JH W' (by omega)]
    simp only[jb]
    rw[Jb (by simp;omega),Jb (by simp;omega),Jb (by simp;omega)]
    simp only[zg]
    rw[show jf (jf ([]:List Int) W[i].2) [(k:Int)]=W[i].2++[(k:Int)]from rfl,Jas (by omega) _ hg,Eat (by omega) (W[i].2++[(k:Int)]) hg]
    simp only[yw,yk,List.map_nil,ze]) (by
   simp only[Zs]
   rw[Ba (by omega)];rfl)
 unfold Sn
 exact hl
theorem QR{m:Ea}(hM:Wp m){fr:Int}:∀(n i:Nat) (W:Zi),BT m fr i 0 W→17≤n+i→
 Bl (((),GB W,PF W,W.map Prod.fst,(i:Int),()),(m,()))=some (.inl ((GB (TS (Hn m) (Oj m) n i W),PF (TS (Hn m) (Oj m) n i W),()),()))
 |n,i,W,h,hn=>by
  have hlen:=BK (fun x hx=>KJ hM hx) h.toBIn
  by_cases hi:i<W.length
  ·obtain⟨n',rfl⟩:∃n',n=n'+1:=⟨n-1,by omega⟩
   obtain⟨h1,h2⟩:=ZS (hPm hM) h hi (Oj m) (jo _)
   have ih:=QR hM n' (i+1) _ (X7 h1 (qg hi h2.length_le)) (by omega)
   unfold Bl at ih⊢
   rw[TS,je hi]
   simp only
   refine(Zb (z:=some (Sum.inl (((),GB (Yw (Hn m) W[i].1 W[i].2 (Oj m) W),PF (Yw (Hn m) W[i].1 W[i].2 (Oj m) W),(Yw (Hn m) W[i].1 W[i].2 (Oj m) W).map Prod.fst,((i+1:Nat):Int),()),(m,())))) ?_).trans ih
   simp only[IE]
   rw[Aa (by simp;omega),Mf,Aa (by simpa using hi),jn]
   simp only[zg]
   rw[show(W.map Prod.fst)[i]?=some W[i].1 by rw[List.getElem?_map,je hi];rfl]
   simp only[jb]
   rw[R8 hM h hi]
   simp only[jb,qf]
   rw[Ee (by omega)]
  ·have hb:TS (Hn m) (Oj m) n i W=W:=by
    cases n with
    |zero=>rfl
    |succ n=>rw[TS,qt (by omega)]
   rw[hb]
   unfold Bl
   refine(Zb (z:=some (Sum.inr (.inl ((GB W,PF W,()),())))) ?_).trans rfl
   simp only[IE]
   rw[Ba (by simp;omega)];rfl
theorem S8{m:Ea}(hM:Wp m){fr:Int}(h:Un m.2.1.length fr 0):EF m fr=some (GB (EM m fr),PF (EM m fr),()):=by
 have hs:=QR hM 17 0 [(fr,[])] (I3 h) (by omega)
 obtain⟨x0,x1⟩:=KJ hM h
 obtain⟨x,rfl⟩:=jv x0
 have e1:GB [((x:Int),[])]=yd 16 ([]:List Int):=by
  apply qp
  intro z
  by_cases hz:z<16
  ·rw[JH _ hz,List.getElem?_replicate,if_pos hz]
   simp only[Vd]
   cases((z:Int)==(x:Int))<;>rfl
  ·rw[qt (by rw[KH];omega),qt (by simp;omega)]
 have e2:PF [((x:Int),[])]=j5 (yd 16 false) x true:=by
  apply qp
  intro z
  by_cases hz:z<16
  ·rw[IP _ hz,List.getElem?_set]
   simp only[Vd]
   by_cases hxz:x=z
   ·subst hxz
    rw[if_pos rfl,if_pos (by simp;omega)];simp
   ·rw[if_neg hxz,List.getElem?_replicate,if_pos hz,show((z:Int)==(x:Int))=false by simp;omega];rfl
  ·rw[qt (by rw[IK];omega),qt (by simp;omega)]
 rw[e1,e2]at hs
 unfold EF
 rw[show(((16:Int)==(16:Int))&&(decide ((0:Int)≤(16:Int))&&decide ((16:Int)≤((Sa:Nat):Int))))=true by rw[Zf];rfl]
 simp only[zg]
 rw[show jy 16=16 from rfl,Mf,Aa (by simp;omega),jn,List.getElem?_replicate,if_pos (by omega)]
 simp only[zg,jb]
 rw[show([((x:Nat):Int)]:List Int)=zd Prod.fst [(((x:Nat):Int),([]:List Int))]from rfl,show(0:Int)=((0:Nat):Int)from rfl,hs]
 rfl
theorem Vaa{m:Ea}(hM:Wp m){f t:Int}(h:Un m.2.1.length f 0)(ht:Un m.2.1.length t 0):Fk m f t=some ((Vd (EM m f) t).getD [],(Vd (EM m f) t).isSome,()):=by
 unfold Fk
 rw[(UI hM.v h).1,(UI hM.v ht).1]
 simp only[jb,jg,zh]
 rw[Kae hM h]
 rfl
theorem Hab{m:Ea}(hM:Wp m){f t:Int}(h:Un m.2.1.length f 0)(ht:Un m.2.1.length t 0):Vf m f t=some ((Vd (EM m f) t).getD [],(Vd (EM m f) t).isSome,()):=by
 unfold Vf
 rw[(UI hM.v h).2,(UI hM.v ht).2]
 simp only[jb,jg,zh]
 rw[S8 hM h]
 have h16:=KJ hM ht
 obtain⟨n,rfl⟩:∃n:Nat,t=(n:Int):=⟨t.toNat,by omega⟩
 have hn:n<16:=by omega
 simp only[jb]
 rw[Mf,IK,Aa hn,jn,IP _ hn,Mf,KH,Aa hn,JH _ hn]
 simp only[zg,jb]
 cases hg:Vd (EM m f) (n:Int)with
 |none=>rfl
 |some w=>
  simp only[Option.isSome_some,jg,zh,qz]
  obtain⟨j,hj,he⟩:=qj (NK hg)
  have hw:=Vag hM h
  have h1:=hw.ln j hj
  rw[he]at h1
  have h2:=hw.len
  simp only at h1
  rw[Jb (by simp;omega)]
  rfl
theorem Qau(q l:List Xa)(h:0<l.length):ZG (jf q l)=ZG l:=by
 unfold ZG
 rw[ze,qc,qe,qe,List.getElem?_append_right (by omega),show q.length+l.length-1-q.length=l.length-1 by omega]
theorem Baz{d:Cb}{l:List Xa}{til:Int}(h:Qx d l til=true):Yc (Yn d l til)=true:=by
 unfold Qx at h
 simp only[jd,decide_eq_true_eq]at h
 obtain⟨hd,ht,_,hb,hf⟩:=h
 unfold Yc at hd⊢
 simp only[jd,decide_eq_true_eq]at hd⊢
 obtain⟨h1,h2,h3,h4,h5,h6,h7,h8⟩:=hd
 have hn:Ug (jf d.2.2.1 l) til=true:=by
  unfold Ug at h6 hb⊢
  simp only[qx,beq_iff_eq,decide_eq_true_eq]at h6 hb⊢
  by_cases hl:0<l.length
  ·right
   rw[Qau _ _ hl]
   omega
  ·have:l=[]:=q7 (by omega)
   subst this
   rw[show jf d.2.2.1 []=d.2.2.1 from yy _]
   omega
 have hc2:d.2.2.2.2.1≤til:=by omega
 have ht2:d.2.2.2.2.2.2.1≤til:=by omega
 exact⟨h1,h2,⟨by show 0≤til;omega,by show til≤1000000;omega⟩,⟨h4.1,hc2⟩,hf,hn,h7,⟨h8.1,ht2⟩⟩
theorem PK{d:Cb}{l:List Xa}{til:Int}(h:(Uz d l til).2.2.1=true):Yc (Uz d l til).1=true∧CL (Uz d l til).2.1∧(Uz d l til).2.1.length≤2000:=by
 unfold Uz at h⊢
 cases hp:Qx d l til with
 |false=>rw[hp]at h;simp at h
 |true=>
  simp only[zg]
  have h0:=K1 (Baz hp)
  have hlen:=h0.pl.len
  have h1:=Pad (Yn d l til).2.2.1.length (Yn d l til) [] h0
  have h2:=Gaa (Yn d l til).2.2.1.length (Yn d l til) [] h0 (fun y hy=>by simp at hy)
  refine⟨FaK h1.1,h2.1,?_⟩
  have:=h2.2
  simp only[j6]at this
  omega
def AC(s:Oa)(r:Cb×(List Qc×(Bool×Unit))):Oa×(List UInt8×Unit):=
 cond (!r.2.2.1) (s,[110,111],()) (cond (decide (200<s.2.1.length+r.2.1.length)) (s,[110,111],()) ((r.1,jf s.2.1 r.2.1,()),CQ r.2.1,()))
noncomputable def Tv(s:Oa)(w:List UInt8)(l:List Int):Cb×(List Qc×(Bool×Unit)):=
 cond (w==Gc) (Uz s.1 [] (l.getD 0 0)) (Uz s.1 [(l.getD 1 0,l.getD 0 0,w==Uc,())] (l.getD 1 0))
theorem AQ{l:List Qc}(h:CL l):(∀x∈l,-9223372036854775808≤x.1∧x.1≤9223372036854775807)∧∀x∈l,x.2.1.2.1.length≤Da:=by
 have h20:Da=1048576:=rfl
 refine⟨fun x hx=>?_,fun x hx=>?_⟩
 ·have h1:=h x hx
  simp only[Sx,jd,decide_eq_true_eq]at h1
  omega
 ·have h1:=h x hx
  simp only[Sx,jd]at h1
  have:=Ly h1.2
  omega
theorem Qav{l:List Qc}(h:CL l)(hn:l.length≤200):(CQ l).length≤73000:=by
 have:=JU (AQ h).1
 unfold CQ
 cases((ja l:Nat):Int)==0
 ·simp only[zh];omega
 ·simp
theorem EaI{s:Oa}{w:List UInt8}{l:List Int}(h:(Tv s w l).2.2.1=true):Yc (Tv s w l).1=true∧CL (Tv s w l).2.1∧(Tv s w l).2.1.length≤2000:=by
 unfold Tv at h⊢
 revert h
 cases w==Gc
 ·exact PK
 ·exact PK
theorem Dat{s:Oa}(h:Uh s){w:List UInt8}{l:List Int}:Uh (AC s (Tv s w l)).1∧(AC s (Tv s w l)).2.1.length≤73000:=by
 unfold AC
 cases hr:(Tv s w l).2.2.1 with
 |false=>exact⟨h,by show(2:Nat)≤_;omega⟩
 |true=>
  obtain⟨h1,h2,h3⟩:=EaI hr
  simp only[jg,zh]
  by_cases hc:200<s.2.1.length+(Tv s w l).2.1.length
  ·rw[Aa hc];exact⟨h,by show(2:Nat)≤_;omega⟩
  ·rw[Ba hc]
   refine⟨⟨h1,?_,?_⟩,Qav h2 (by omega)⟩
   ·show(jf s.2.1 (Tv s w l).2.1).length≤200
    rw[ze,qc];omega
   ·intro y hy
    rcases jl.1 (show y∈s.2.1++(Tv s w l).2.1 from hy)with hy|hy
    ·exact h.s y hy
    ·exact h2 y hy
theorem HaM:Hb Cd Mp≤Da:=by decide
theorem Lai{s:Oa}(h:Uh s){r:Cb×(List Qc×(Bool×Unit))}(hr:r.2.2.1=true→CL r.2.1∧r.2.1.length≤2000):
 (cond (!r.2.2.1) (some (s,([110,111]:List UInt8),())) (cond (decide ((Go.IntKind.wrap .i64 (((ja s.2.1:Nat):Int)+((ja r.2.1:Nat):Int)))>(200:Int))) (some (s,([110,111]:List UInt8),()))
  (jz (Mo r.2.1) fun r3=>(jz (Nk (Mp,r.2.1,())) fun r4=>(cond (jx (ja s.2.1+ja r4.1.2.1) Sa) (some ((r.1,(jf s.2.1 r4.1.2.1),()),r3.1,())) none)))):Option (Oa×(List UInt8×Unit)))=some (AC s r):=by
 have h20:Da=1048576:=rfl
 unfold AC
 cases hb:r.2.2.1 with
 |false=>rfl
 |true=>
  obtain⟨h2,h3⟩:=hr hb
  have hn:=h.n
  simp only[jg,zh]
  rw[Af (by omega) (by omega)]
  by_cases hc:200<s.2.1.length+r.2.1.length
  ·rw[Aa hc,Aa (by omega)];rfl
  ·rw[Ba hc,Ba (by omega)]
   simp only[zh]
   obtain⟨i1,i2⟩:=AQ h2
   rw[XW _ i1 i2 (by omega)]
   simp only[jb]
   rw[SJ (s:=(Mp,r.2.1,())) HaM (by have:=X2 h2 h3;show Hb (.sl Wg) r.2.1≤_;omega)]
   simp only[jb]
   rw[Jb (by omega)]
   rfl
theorem RI{s:Oa}(h:Uh s){w:List UInt8}{l:List Int}(hl:l.length=cond (w==Gc) 1 2):Rl s w l=some (AC s (Tv s w l)):=by
 have h20:Da=1048576:=rfl
 have hz:=L4 h.d
 unfold Rl
 revert hl
 unfold Tv
 cases hw:w==Gc with
 |true=>
  intro hl
  simp only[zg]at hl⊢
  match l,hl with
  |[a],_=>
   rw[show Ac (ja [a]) 0=true from rfl,show([a]:List Int)[jy 0]?=some a from rfl,show([a]:List Int).getD 0 0=a from rfl]
   simp only[zg,jb]
   rw[show UE s.1 a=some (Uz s.1 [] a) by
    unfold UE
    rw[LM _ _ _ (by omega) (by simp)];rfl]
   simp only[jb]
   exact Lai h fun hb=>(PK hb).2
 |false=>
  intro hl
  simp only[zh]at hl⊢
  match l,hl with
  |[a,b],_=>
   rw[show Ac (ja [a,b]) 0=true from rfl,show Ac (ja [a,b]) 1=true from rfl,show([a,b]:List Int)[jy 0]?=some a from rfl,show([a,b]:List Int)[jy 1]?=some b from rfl,
    show([a,b]:List Int).getD 0 0=a from rfl,show([a,b]:List Int).getD 1 0=b from rfl]
   simp only[zg,jb]
   rw[show PE s.1 (b,a,w==Uc,())=some (Uz s.1 [(b,a,w==Uc,())] b) by
    unfold PE
    rw[LM _ _ _ (by omega) (by simp)];rfl]
   simp only[jb]
   exact Lai h fun hb=>(PK hb).2
noncomputable def LO(s:Oa)(w:List UInt8):List UInt8:=
 cond (w==NE) (Jq s.1.1.1) (cond (w==VA) (Lib.itoa (Ej s.1.1.2.2.1 s.1.1.2.2.2.1)) (cond (w==WA) (UX (Kc s.1.1.2.2.2.1)) (cond (w==UA) (Lib.itoa ((ja s.1.2.2.1:Nat):Int))
  (cond (w==TA) (V1 (Z8 ((0:Int),([]:List Int),()) (s.2.1.map fun x=>x.2.1))) Ua))))
structure Va1(s:Oa):Prop where
 e:Jn s.1.1
 mz:Hb Bb s.1.1.1≤400
 q:s.1.2.2.1.length≤64
 f:0≤s.1.1.2.2.1∧s.1.1.2.2.1≤15
 hn:s.1.1.2.2.2.1.length≤400
 sz:Hb (.sl Wg) s.2.1≤114000
theorem GO{s:Oa}(h:Uh s):Va1 s:=by
 have h1:=K1 h.d
 have hE:=h1.pl.eng
 have h2:=N4 hE
 rw[Ol]at h2
 have hl2:=(Pd hE.km).l2
 have hf:=hE.st.f1
 have hp:2^s.1.1.1.2.1.length≤2^4:=Nat.pow_le_pow_right (by omega) hl2
 exact⟨hE,by omega,h1.pl.len,⟨hE.st.f0,by omega⟩,by have:=Xq hE.hd;omega,X2 h.s (by have:=h.n;omega)⟩
theorem SaI(n:Int):-9223372036854775808≤j4 .i64 n∧j4 .i64 n≤9223372036854775807:=by
 rw[IntKind.wrap_i64];omega
theorem Pai(a b:Int):-9223372036854775808≤Xd .i64 a b∧Xd .i64 a b≤9223372036854775807:=by
 unfold Xd
 exact SaI _
theorem NU(f:Int)(l:List La):-9223372036854775808≤Ej f l∧Ej f l≤9223372036854775807:=by
 unfold Ej
 have key:∀(l:List La) (k:Nat) (s:Int),(-9223372036854775808≤s∧s≤9223372036854775807)→-9223372036854775808≤Oc (fun _ s (h:La)=>cond (h.2.1.1==3) (Xd .i64 s (Ke .i64 1 h.2.1.2.2.2.1)) s) k s l∧Oc (fun _ s (h:La)=>cond (h.2.1.1==3) (Xd .i64 s (Ke .i64 1 h.2.1.2.2.2.1)) s) k s l≤9223372036854775807:=by
  intro l
  induction l with
  |nil=>intro k s h;exact h
  |cons x l ih=>
   intro k s h
   simp only[Oc]
   refine ih (k+1) _ ?_
   cases x.2.1.1==3
   ·exact h
   ·exact Pai _ _
 exact key l 0 _ (Pai _ _)
theorem N7{s:Oa}(h:Uh s)(w:List UInt8):Si s w=some (LO s w,()):=by
 have h20:Da=1048576:=rfl
 obtain⟨hE,hm,hq,hf,hn,hs⟩:=GO h
 unfold Si LO
 cases w==NE with
 |true=>simp only[zg];rw[OI (by omega)];rfl
 |false=>
 cases w==VA with
 |true=>
  simp only[zg,zh]
  rw[LK hf _ (by omega) hE.hd]
  simp only[jb]
  rw[Np (NU _ _)];rfl
 |false=>
 cases w==WA with
 |true=>
  simp only[zg,zh]
  rw[Wr _ (by omega) hE.hd]
  simp only[jb]
  rw[PI _ (by have:=Ly (Qac hE.hd);omega)];rfl
 |false=>
 cases w==UA with
 |true=>
  simp only[zg,zh]
  rw[Np (by omega)];rfl
 |false=>
 cases w==TA with
 |true=>
  simp only[zg,zh]
  rw[RZ _ (by omega)]
  simp only[jb]
  have hr:∀r∈(s.2.1.map fun x=>x.2.1),r.2.1.length≤Da:=fun r hr=>by
   obtain⟨x,hx,rfl⟩:=qk.1 hr
   exact(AQ h.s).2 x hx
  have ht:=Tag (a:=((0:Int),([]:List Int),())) (by simp) hr
  rw[yr]at ht
  have hn:=h.n
  rw[Uaa (by simp) hr (by simp;omega)]
  simp only[jb]
  rw[Jb (by omega),Gah];rfl
 |false=>rfl
theorem Iaf{m:Ea}:(Jq m).length≤7000:=by
 unfold Jq
 cases hv:Tb m with
 |false=>simp
 |true=>
  have hm:=Pd hv
  have hjl:=PH (m.2.1.map Xz) [32,124,32] 1632 (fun x hx=>by
   obtain⟨l,hl',rfl⟩:=qk.1 hx
   obtain⟨i,hi,rfl⟩:=qj hl'
   have:=AV m.2.1[i]
   have:=hm.row i hi
   have:=hm.k2
   omega)
  rw[yr]at hjl
  have:(1632+([32,124,32]:List UInt8).length)*m.2.1.length≤1635*4:=Nat.mul_le_mul (by simp) hm.l2
  simp only[zg]
  omega
theorem Haw{s:Oa}(h:Uh s)(w:List UInt8):(LO s w).length≤7000:=by
 unfold LO
 have h1:=Iaf (m:=s.1.1.1)
 have h2:=OH (NU s.1.1.2.2.1 s.1.1.2.2.2.1)
 have h3:=HU (Kc s.1.1.2.2.2.1)
 have hq:=(GO h).q
 have h4:=OH (n:=((ja s.1.2.2.1:Nat):Int)) (by omega)
 have h5:=Vax (Z8 ((0:Int),([]:List Int),()) (s.2.1.map fun x=>x.2.1))
 exact V6 h1 (V6 (by omega) (V6 (by omega) (V6 (by omega) (V6 (by omega) (by decide)))))
theorem VZ(m:Ea)(f:Int)(hz:Hb Bb m≤Da):∃b,Fo m f=some (b,())∧Xh m f=some (b,()):=by
 unfold Fo Xh
 rw[Ok m hz,Ji m hz]
 simp only[jb,Vc]
 cases hk:Tb m with
 |false=>exact⟨false,rfl,rfl⟩
 |true=>
  simp only[zg]
  have hn:1≤m.2.1.length∧m.2.1.length≤4:=by
   simp only[Tb,jd,decide_eq_true_eq]at hk
   exact hk.1.2
  rw[CB (by omega),Aa (show(0:Int)≤(m.2.1.length:Int) by omega)]
  have hp:1≤2^m.2.1.length∧2^m.2.1.length≤16:=by
   obtain⟨h1,h2⟩:=hn
   generalize m.2.1.length=n at*
   have:n=1∨n=2∨n=3∨n=4:=by omega
   rcases this with rfl|rfl|rfl|rfl<;>decide
  rw[Af (by omega) (by omega)]
  simp only[zg,Qk,Rk,show((2:Int)==0)=false from rfl,zh]
  refine⟨_,rfl,?_⟩
  apply Dd
  simp only[Ud,decide_eq_true_eq,jq,and_false,or_false,UO]
  omega
noncomputable def HQ(m:Ea)(f t:Int):List Int×(Bool×Unit):=(Fk m f t).getD ([],false,())
theorem Uag(m:Ea)(f t:Int)(hz:Hb Bb m≤Da):Vf m f t=some (HQ m f t)∧Fk m f t=some (HQ m f t)∧(HQ m f t).1.length≤16∧∀k∈(HQ m f t).1,0≤k∧k≤32:=by
 have h20:Da=1048576:=rfl
 have key:∃v,Vf m f t=some v∧Fk m f t=some v∧v.1.length≤16∧∀k∈v.1,0≤k∧k≤32:=by
  obtain⟨b,e1,e2⟩:=VZ m f hz
  cases b with
  |false=>
   refine⟨([],false,()),?_,?_,by simp,by simp⟩
   ·unfold Vf;rw[e1];rfl
   ·unfold Fk;rw[e2];rfl
  |true=>
   obtain⟨b2,q1,q2⟩:=VZ m t hz
   cases b2 with
   |false=>
    refine⟨([],false,()),?_,?_,by simp,by simp⟩
    ·unfold Vf;rw[e1];simp only[jb,jg,zh];rw[q1];rfl
    ·unfold Fk;rw[e2];simp only[jb,jg,zh];rw[q2];rfl
   |true=>
    obtain⟨hv,hs⟩:=Xad hz e2
    obtain⟨_,ht⟩:=Xad hz q2
    refine⟨_,Hab (JG hv) hs ht,Vaa (JG hv) hs ht,?_⟩
    cases hg:Vd (EM m f) t with
    |none=>exact⟨by simp,by simp⟩
    |some w=>
     obtain⟨j,hj,he⟩:=qj (NK hg)
     have hw:=Vag (JG hv) hs
     have h1:=hw.ln j hj
     rw[he]at h1
     have h2:=hw.len
     simp only at h1
     have h3:=(hw.way _ (NK hg)).2
     have h4:=QU (JG hv)
     refine⟨by show w.length≤_;omega,fun k hk=>?_⟩
     have:=h3 k hk
     omega
 obtain⟨v,h1,h2,h3,h4⟩:=key
 have:HQ m f t=v:=by unfold HQ;rw[h2];rfl
 rw[this]
 exact⟨h1,h2,h3,h4⟩
noncomputable def A9(s:Oa)(l:List Int):Oa×(List UInt8×Unit):=
 cond (!(HQ s.1.1.1 (l.getD 0 0) (l.getD 1 0)).2.1) (s,[110,111],()) (s,jf Vb (Lib.join ((HQ s.1.1.1 (l.getD 0 0) (l.getD 1 0)).1.map Lib.itoa) [32]),())
noncomputable def IS(s:Oa)(W:List (List UInt8))(w:List UInt8):Oa×(List UInt8×Unit):=cond (((ja W:Nat):Int)==1) (s,LO s w,()) (s,Ua,())
noncomputable def NZ(s:Oa)(W:List (List UInt8))(w:List UInt8)(FI:List Int×(Bool×Unit)):Oa×(List UInt8×Unit):=
 cond (w==Gc) (cond (Ue W 1).2.1 (AC s (Tv s w (Ue W 1).1)) (s,Ua,()))
 (cond (w==Ad) (cond (Ue W 3).2.1 (SX s s.1.1.1 s.1.1.2.1 ((Ue W 3).1.getD 0 0,(Ue W 3).1.getD 1 0,(Ue W 3).1.getD 2 0,())) (s,Ua,()))
 (cond (w==[119,97,121]) (cond FI.2.1 (A9 s FI.1) (IS s W w)) (IS s W w)))
noncomputable def Qar(s:Oa)(W:List (List UInt8))(w:List UInt8)(FI:List Int×(Bool×Unit)):Option (Oa×(List UInt8×Unit)):=
 (cond (w==Gc)
 (jz (Jg W (1:Int)) fun r17=>
 (cond r17.2.1
 (jz (Rl s w r17.1) fun r18=>
 (some (r18.1,r18.2.1,())))
 (some (s,Ua,()))))
 (cond (w==Ad)
 (jz (Jg W (3:Int)) fun r19=>
 (cond r19.2.1
 (cond (Ac (ja r19.1) (0:Int))
 (jz r19.1[(jy (0:Int))]? fun x20=>
 (cond (Ac (ja r19.1) (1:Int))
 (jz r19.1[(jy (1:Int))]? fun x21=>
 (cond (Ac (ja r19.1) (2:Int))
 (jz r19.1[(jy (2:Int))]? fun x22=>
 (jz (Hk s.1.1.1 s.1.1.2.1 (x20,x21,x22,())) fun r23=>
 (jz (Zj s r23.1 r23.2.1) fun r24=>
 (some (r24.1,r24.2.1,())))))
 none))
 none))
 none)
 (some (s,Ua,()))))
 (cond (w==([119,97,121]:List UInt8))
 (cond FI.2.1
 (cond (Ac (ja FI.1) (0:Int))
 (jz FI.1[(jy (0:Int))]? fun x25=>
 (cond (Ac (ja FI.1) (1:Int))
 (jz FI.1[(jy (1:Int))]? fun x26=>
 (jz (Fk s.1.1.1 x25 x26) fun r27=>
 (cond (!r27.2.1)
 (some (s,([110,111]:List UInt8),()))
 (jz (Uj (((),(),([]:List (List UInt8)),r27.1,((ja r27.1:Nat):Int),(0:Int),()),(s,(((((0:Int),([]:List (List Ia)),()),([]:List (List Ta)),(0:Int),([]:List La),(0:Int),false,()),((0:Int),(0:Int),(0:Int),()),([]:List Xa),(0:Int),(0:Int),(0:Int),(0:Int),()),([]:List Qc),()),()))) (Sum.elim (fun y36=>(jz (Hh y36.1.2.2.1 ([32]:List UInt8)) fun r38=>
 (cond (jx (ja Vb+ja r38.1) Sa)
 (some (((((y36.2.1.1.1.1.1,y36.2.1.1.1.1.2.1,()),y36.2.1.1.1.2),y36.2.1.1.2),y36.2.1.2.1,()),(jf Vb r38.1),()))
 none))) (fun z37=>none))))))
 none))
 none)
 (cond (((ja W:Nat):Int)==(1:Int))
 (jz (Si s w) fun r39=>
 (some (s,r39.1,())))
 (some (s,Ua,()))))
 (cond (((ja W:Nat):Int)==(1:Int))
 (jz (Si s w) fun r40=>
 (some (s,r40.1,())))
 (some (s,Ua,()))))))
theorem N3{l:List Int}(h1:l.length≤16)(h2:∀k∈l,0≤k∧k≤32):(Lib.join (l.map Lib.itoa) [32]).length≤400:=by
 have hjl:=PH (l.map Lib.itoa) [32] 21 (fun x hx=>by
  obtain⟨k,hk,rfl⟩:=qk.1 hx
  have:=h2 k hk
  exact OH (by omega))
 rw[yr]at hjl
 simp only[jw,j6]at hjl
 omega
theorem Bar{s:Oa}(h:Uh s)(m:Ea)(M:List (List Ta))(t:Ta)(hz:Hb Rb (Kl m M)≤Da):
 (jz (Hk m M t) fun r=>jz (Zj s r.1 r.2.1) fun q=>some (q.1,q.2.1,()))=some (SX s m M t):=by
 rw[RV _ _ _ hz]
 simp only[jb]
 rw[B5]
 rfl
theorem MaL{W:List (List UInt8)}(h:(Ue W 1).2.1=true):(Ue W 1).1.length=1:=M2 (n:=1) h
theorem Maf{W:List (List UInt8)}(h:(Ue W 2).2.1=true):(Ue W 2).1.length=2:=M2 (n:=2) h
theorem NaL{W:List (List UInt8)}(h:(Ue W 3).2.1=true):(Ue W 3).1.length=3:=M2 (n:=3) h
theorem OaI{s:Oa}(h:Uh s){W:List (List UInt8)}(hW:W.length≤100000000)(w:List UInt8):Qar s W w (Ue W 2)=some (NZ s W w (Ue W 2)):=by
 have h20:Da=1048576:=rfl
 obtain⟨hE,hm,hq,hf,hn,hs⟩:=GO h
 have hez:=N4 hE
 have hone:(cond (((ja W:Nat):Int)==(1:Int)) (jz (Si s w) fun r39=>(some (s,r39.1,()))) (some (s,Ua,())))=some (IS s W w):=by
  unfold IS
  rw[N7 h]
  cases((ja W:Nat):Int)==(1:Int)<;>rfl
 unfold Qar NZ
 rw[show Jg W (1:Int)=some (Ue W 1)from TI W 1 hW (by omega),show Jg W (3:Int)=some (Ue W 3)from TI W 3 hW (by omega)]
 simp only[jb]
 cases hw:w==Gc with
 |true=>
  simp only[zg]
  cases hb:(Ue W 1).2.1 with
  |false=>rfl
  |true=>
   simp only[zg]
   rw[RI h (by rw[hw];exact MaL hb)]
   rfl
 |false=>
 simp only[zh]
 cases w==Ad with
 |true=>
  simp only[zg]
  cases hb:(Ue W 3).2.1 with
  |false=>rfl
  |true=>
   simp only[zg]
   have h3:=NaL hb
   generalize(Ue W 3).1=l at h3
   match l,h3 with
   |[a,b,c],_=>
    have hz:Hb Rb (Kl s.1.1.1 s.1.1.2.1)≤Da:=by
     rw[Ol]at hez⊢
     show Hb Bb s.1.1.1+(Hb (.sl (.sl Qd)) s.1.1.2.1+0)≤_
     omega
    exact Bar h s.1.1.1 s.1.1.2.1 (a,b,c,()) hz
 |false=>
 simp only[zh]
 cases w==([119,97,121]:List UInt8)with
 |false=>exact hone
 |true=>
  simp only[zg]
  cases hb:(Ue W 2).2.1 with
  |false=>exact hone
  |true=>
   simp only[zg]
   have h2:=Maf hb
   unfold A9
   generalize(Ue W 2).1=l at h2
   match l,h2 with
   |[a,b],_=>
    obtain⟨_,e2,e3,e4⟩:=Uag s.1.1.1 a b (by omega)
    rw[show Ac (ja [a,b]) 0=true from rfl,show Ac (ja [a,b]) 1=true from rfl,show([a,b]:List Int)[jy 0]?=some a from rfl,show([a,b]:List Int)[jy 1]?=some b from rfl,
     show([a,b]:List Int).getD 0 0=a from rfl,show([a,b]:List Int).getD 1 0=b from rfl]
    simp only[zg,jb]
    rw[e2]
    simp only[jb]
    generalize HQ s.1.1.1 a b=v at e3 e4
    cases v.2.1 with
    |false=>rfl
    |true=>
     simp only[jg,zh]
     obtain⟨v,vb⟩:=v
     simp only at e3 e4⊢
     have hl:=Rh (step:=fun x:(Unit×Unit×List (List UInt8)×List Int×Int×Int×Unit)×Oa×Oa×Unit=>Cz x.1.1 x.1.2.1 x.1.2.2.1 x.1.2.2.2.1 x.1.2.2.2.2.1 x.1.2.2.2.2.2.1 x.2.1 x.2.2.1) v Lib.itoa
      (fun o k=>(((),(),o,v,(v.length:Int),k,()),(s,(Mp,([]:List Qc),()),()))) (fun o=>.inl (((),(),o,()),(s,(Mp,([]:List Qc),()),()))) (by omega) (fun k hk2 o ho=>by
       have hx:=e4 v[k] (qi hk2)
       simp only[Cz]
       rw[Aa (by omega),Mf,Aa hk2]
       simp only[zg,jn]
       rw[je hk2]
       simp only[jb]
       rw[Np (by omega)]
       simp only[jb]
       rw[Jb (by simp only[jw,j6];omega)]
       rfl) (fun o=>by
       simp only[Cz]
       rw[Ba (by omega)]
       rfl)
     unfold Uj
     erw[hl]
     simp only[jb,qf]
     have hjl:=N3 e3 e4
     rw[Sm (by simp;omega) (by omega)]
     simp only[jb]
     rw[Jb (by simp only[Vb,jw,j6];omega)]
     rfl
noncomputable def Nac(s:Oa)(r:List UInt8):Oa×(List UInt8×Unit):=cond (!(Fl r).2.1) (s,[110,111],()) (SX s (Fl r).1 s.1.1.2.1 s.1.2.1)
noncomputable def Kaq(s:Oa)(r:List UInt8):Oa×(List UInt8×Unit):=cond (!(Dl r).2.1) (s,[110,111],()) (SX s s.1.1.1 (jf s.1.1.2.1 [(Dl r).1]) s.1.2.1)
noncomputable def MJ(s:Oa)(W:List (List UInt8)):Oa×(List UInt8×Unit):=
 cond ((W.getD 0 []==Uc||W.getD 0 []==[117,112])&&(Ue W 2).2.1) (AC s (Tv s (W.getD 0 []) (Ue W 2).1)) (NZ s W (W.getD 0 []) (Ue W 2))
noncomputable def ON(s:Oa)(t:List UInt8):Oa×(List UInt8×Unit):=
 cond (t==([]:List UInt8)) (s,[],()) (cond (((UInt8.toNat (t.getD 0 0):Nat):Int)==35) (s,[],())
  (cond (Zr t Kk) (Nac s (t.drop 5)) (cond (Zr t Mk) (Kaq s (t.drop 6)) (MJ s (Mb 32 [] t)))))
theorem F8{s:List UInt8}(h:(Fl s).2.1=true):Tb (Fl s).1=true:=by
 unfold Fl at h⊢
 revert h
 cases Va (fun _ m p=>Lw m p) 0 Gg (Lib.split s [32,124,32])with
 |inr u=>intro h;simp at h
 |inl m=>
  simp only
  cases hm:Tb m with
  |false=>intro h;simp at h
  |true=>
   cases Jq m !=s with
   |true=>intro h;simp at h
   |false=>intro _;exact hm
theorem Oaq{m:Ea}(h:Tb m=true):Hb Bb m≤200:=by
 have hm:=Pd h
 have h1:Hb Bb m=0+(Hb (.sl (.sl Bc)) m.2.1+0):=rfl
 have h2:Hb (.sl (.sl Bc)) m.2.1≤(32+1)*ja m.2.1:=KO (e:=.sl Bc) (c:=32) fun x hx=>by
  obtain⟨i,hi,rfl⟩:=qj hx
  rw[KY]
  have:=hm.row i hi
  have:=hm.k2
  omega
 have:=hm.l2
 omega
theorem Tau{M:List (List Ta)}(h4:M.length≤5)(h:∀x∈M,Dc x=true):Hb (.sl (.sl Qd)) M≤45:=by
 have h2:Hb (.sl (.sl Qd)) M≤(8+1)*M.length:=KO (e:=.sl Qd) (c:=8) fun x hx=>by
  have:=JT (h x hx)
  have e2:Hb (.sl Qd) x=x.length:=Ms (e:=Qd) rfl x
  omega
 omega
theorem WS{m:Ea}{M:List (List Ta)}(hm:Hb Bb m≤400)(h4:M.length≤5)(h:∀x∈M,Dc x=true):Hb Rb (Kl m M)≤Da:=by
 have h20:Da=1048576:=rfl
 have:=Tau h4 h
 rw[Ol]
 show Hb Bb m+(Hb (.sl (.sl Qd)) M+0)≤_
 omega
theorem Jaw{s:Oa}(h:Uh s)(W:List (List UInt8)):Uh (MJ s W).1∧(MJ s W).2.1.length≤73000:=by
 unfold MJ
 generalize W.getD 0 []=w
 have hone:Uh (IS s W w).1∧(IS s W w).2.1.length≤73000:=by
  unfold IS
  have:=Haw h w
  cases((ja W:Nat):Int)==1
  ·exact⟨h,by show Ua.length≤_;simp[Ua]⟩
  ·exact⟨h,by show(LO s w).length≤_;omega⟩
 cases(w==Uc||w==[117,112])&&(Ue W 2).2.1 with
 |true=>exact Dat h
 |false=>
  simp only[zh]
  unfold NZ
  cases w==Gc with
  |true=>
   cases(Ue W 1).2.1
   ·exact⟨h,by show Ua.length≤_;simp[Ua]⟩
   ·exact Dat h
  |false=>
  cases w==Ad with
  |true=>
   cases(Ue W 3).2.1
   ·exact⟨h,by show Ua.length≤_;simp[Ua]⟩
   ·have:=Aag h s.1.1.1 s.1.1.2.1 ((Ue W 3).1.getD 0 0,(Ue W 3).1.getD 1 0,(Ue W 3).1.getD 2 0,())
    exact⟨this.1,j9 this.2 (by omega)⟩
  |false=>
  cases w==([119,97,121]:List UInt8)with
  |false=>exact hone
  |true=>
  cases(Ue W 2).2.1 with
  |false=>exact hone
  |true=>
   simp only[zg,zh]
   unfold A9
   obtain⟨_,_,e3,e4⟩:=Uag s.1.1.1 ((Ue W 2).1.getD 0 0) ((Ue W 2).1.getD 1 0) (by have:=(GO h).mz;have:Da=1048576:=rfl;omega)
   have:=N3 e3 e4
   cases(HQ s.1.1.1 ((Ue W 2).1.getD 0 0) ((Ue W 2).1.getD 1 0)).2.1
   ·exact⟨h,by show(2:Nat)≤_;omega⟩
   ·refine⟨h,?_⟩
    show(jf Vb _).length≤_
    rw[ze,qc,show Vb.length=4 from rfl]
    omega
theorem Qad{s:Oa}(h:Uh s)(t:List UInt8):Uh (ON s t).1∧(ON s t).2.1.length≤73000:=by
 unfold ON
 cases t==([]:List UInt8)with
 |true=>exact⟨h,Nat.zero_le _⟩
 |false=>
 cases((UInt8.toNat (t.getD 0 0):Nat):Int)==35 with
 |true=>exact⟨h,Nat.zero_le _⟩
 |false=>
 cases Zr t Kk with
 |true=>
  simp only[zg,zh]
  unfold Nac
  cases(Fl (t.drop 5)).2.1
  ·exact⟨h,by show(2:Nat)≤_;omega⟩
  ·have:=Aag h (Fl (t.drop 5)).1 s.1.1.2.1 s.1.2.1
   exact⟨this.1,j9 this.2 (by omega)⟩
 |false=>
 cases Zr t Mk with
 |true=>
  simp only[zg,zh]
  unfold Kaq
  cases(Dl (t.drop 6)).2.1
  ·exact⟨h,by show(2:Nat)≤_;omega⟩
  ·have:=Aag h s.1.1.1 (jf s.1.1.2.1 [(Dl (t.drop 6)).1]) s.1.2.1
   exact⟨this.1,j9 this.2 (by omega)⟩
 |false=>exact Jaw h _
theorem K7{s:Oa}(h:Uh s){t:List UInt8}(ht:t.length≤1048576):NL s t=some (ON s t):=by
 have h20:Da=1048576:=rfl
 have hz:=SaD h
 have hF:=GO h
 have hsd:=L4 h.d
 unfold NL ON
 rw[(MV s (by omega)).2,(Lam s).2 h]
 simp only[jb,jg,zh]
 rw[SJ (by omega) (by have:=hF.sz;omega)]
 simp only[jb]
 cases he:t==([]:List UInt8)with
 |true=>rfl
 |false=>
 have hne:t≠[]:=by simpa using he
 obtain⟨c,l,rfl⟩:=List.exists_cons_of_ne_nil hne
 simp only[zh]
 rw[show Wb (c::l) 0=some c from rfl,show(c::l).getD 0 0=c from rfl]
 simp only[jb]
 cases((UInt8.toNat c:Nat):Int)==35 with
 |true=>rfl
 |false=>
 simp only[zh]
 rw[MI]
 simp only[jb]
 cases hp:Zr (c::l) Kk with
 |true=>
  simp only[zg]
  have hd:((c::l).drop 5).length≤1048571:=by rw[ql];omega
  unfold Nac
  rw[show Kk.length=5 from rfl]
  rw[LB hd]
  simp only[jb]
  cases hb:(Fl ((c::l).drop 5)).2.1 with
  |false=>rfl
  |true=>
   simp only[jg,zh]
   exact Bar h _ _ _ (WS (by have:=Oaq (F8 hb);omega) (by have:=hF.e.m4;omega) hF.e.mac)
 |false=>
 simp only[zh]
 rw[MI]
 simp only[jb]
 cases hp:Zr (c::l) Mk with
 |true=>
  simp only[zg]
  have hd:((c::l).drop 6).length≤1048571:=by rw[ql];omega
  unfold Kaq
  rw[show Mk.length=6 from rfl]
  rw[BX hd]
  simp only[jb]
  cases hb:(Dl ((c::l).drop 6)).2.1 with
  |false=>rfl
  |true=>
   simp only[jg,zh]
   have hm4:=hF.e.m4
   have:=Tau (by omega) hF.e.mac
   rw[Bo _ (by omega)]
   simp only[jb]
   rw[Jb (by simp only[jw,j6];omega)]
   simp only[zg]
   refine Bar h _ _ _ (WS (by have:=hF.mz;omega) (by rw[ze,qc];simp only[jw,j6];omega) fun x hx=>?_)
   rcases jl.1 (show x∈s.1.1.2.1++[(Dl ((c::l).drop 6)).1]from hx)with hx|hx
   ·exact hF.e.mac x hx
   ·rw[qb.1 hx];exact E8 hb
 |false=>
 simp only[zh]
 rw[UG 32 (by omega)]
 simp only[jb]
 have hl:=Wq 32 (c::l) []
 have hne2:=My 32 (c::l) []
 generalize Mb 32 [] (c::l)=W at hl hne2
 have hW:W.length≤100000000:=by omega
 obtain⟨w,W',rfl⟩:=List.exists_cons_of_ne_nil hne2
 rw[show Ac (ja (w::W')) 0=true from by simp[Ac],show(w::W')[jy 0]?=some w from rfl,show Jg (w::W') (2:Int)=some (Ue (w::W') 2)from TI _ 2 hW (by omega)]
 simp only[zg,jb]
 have htl:=OaI h hW w
 unfold Qar at htl
 unfold MJ
 rw[show(w::W').getD 0 []=w from rfl]
 cases hd:w==Uc with
 |true=>
  simp only[zg,Bool.true_or,jk]
  cases hb:(Ue (w::W') 2).2.1 with
  |true=>
   simp only[zg]
   rw[RI h (by
    have:(w==Gc)=false:=by rw[eq_of_beq hd];decide
    rw[this];exact Maf hb)]
   rfl
  |false=>rw[hb]at htl;exact htl
 |false=>
  simp only[zh,yu]
  cases hu:w==([117,112]:List UInt8)with
  |true=>
   simp only[zg,jk]
   cases hb:(Ue (w::W') 2).2.1 with
   |true=>
    simp only[zg]
    rw[RI h (by
     have:(w==Gc)=false:=by rw[eq_of_beq hu];decide
     rw[this];exact Maf hb)]
    rfl
   |false=>rw[hb]at htl;exact htl
  |false=>
   simp only[zh,qh]
   exact htl

theorem Lag{m:Ea}(hm:BD m){i:Nat}(hi:i<m.2.1.length)(o:List (List UInt8)):
 Tl (((),o,(i:Int),([]:List (List UInt8)),(0:Int),()),(m,()))=some (.inl (((),o,(i:Int),m.2.1[i].map Re,()),(m,()))):=by
 have hrow:=hm.row i hi
 have hk2:=hm.k2
 have hk1:=hm.k1
 have hkl:m.1=((m.2.1[i].length:Nat):Int):=by omega
 have hl:=Rh (step:=fun x:(Unit×List (List UInt8)×Int×List (List UInt8)×Int×Unit)×Ea×Unit=>To x.1.1 x.1.2.1 x.1.2.2.1 x.1.2.2.2.1 x.1.2.2.2.2.1 x.2.1) m.2.1[i] Re
  (fun w k=>(((),o,(i:Int),w,k,()),(m,()))) (fun w=>.inl (((),o,(i:Int),w,()),(m,()))) (by omega) (fun k hk w hw=>by
   simp only[To]
   rw[Aa (by omega),Ub hi]
   simp only[zg,jb]
   rw[Ub hk]
   simp only[jb]
   rw[AJ]
   simp only[jb]
   rw[Jb (by simp only[jw,j6];omega)]
   rfl) (fun w=>by
   simp only[To]
   rw[Ba (by omega)]
   rfl)
 unfold Tl
 exact hl
theorem EV{m:Ea}(hz:Hb Bb m≤Da):Nw m=some (Jq m,()):=by
 have h20:Da=1048576:=rfl
 unfold Nw Jq
 cases hv:Tb m with
 |false=>
  have hst:Pi (((),([]:List (List UInt8)),(0:Int),()),(m,()))=some (.inl ((([]:List (List UInt8)),()),())):=by
   unfold Pi
   refine(Zb (z:=some (Sum.inr (.inl ((([]:List (List UInt8)),()),())))) ?_).trans rfl
   simp only[Yk]
   rw[Ok m hz,hv]
   cases decide ((0:Int)<((ja m.2.1:Nat):Int))<;>rfl
  rw[hst]
  simp only[jb,qf]
  rw[Pk (by simp) (by simp[Lib.join])]
  rfl
 |true=>
  have hm:=Pd hv
  have hl2:=hm.l2
  have hl:=Rh (step:=fun x:(Unit×List (List UInt8)×Int×Unit)×Ea×Unit=>Yk x.1.1 x.1.2.1 x.1.2.2.1 x.2.1) m.2.1 Xz
   (fun w k=>(((),w,k,()),(m,()))) (fun w=>.inl ((w,()),())) (by omega) (fun k hk w hw=>by
    simp only[Yk]
    rw[Aa (by omega),Ok m hz,hv]
    simp only[zg,jb]
    rw[Lag hm hk]
    simp only[jb,qf]
    have hrow:=hm.row k hk
    have hk2:=hm.k2
    have hj:(Lib.join (m.2.1[k].map Re) [32]).length≤51*m.2.1[k].length:=AV m.2.1[k]
    rw[Pk (by simp;omega) (by omega)]
    simp only[jb]
    rw[Jb (by simp only[jw,j6];omega)]
    rfl) (fun w=>by
    simp only[Yk]
    rw[Ba (by omega)]
    rfl)
  unfold Pi
  erw[hl]
  simp only[jb,qf]
  have hlen:= @Iaf m
  unfold Jq at hlen
  rw[hv]at hlen
  simp only[zg]at hlen
  rw[Pk (by simp;omega) (by omega)]
  rfl
def Nm(b:UInt8)(l:List UInt8):Prop:=∀c∈l,c≠b
theorem Rp{b:UInt8}{x y:List UInt8}(hx:Nm b x)(hy:Nm b y):Nm b (x++y):=fun c hc=>(jl.1 hc).elim (hx c) (hy c)
theorem XI(b:UInt8):Nm b []:=fun c hc=>by simp at hc
theorem NX(b:UInt8)(l:List UInt8)(h:l.all (· !=b)=true):Nm b l:=fun c hc=>by
 have:=yx.1 h c hc
 simpa using this
theorem Lt{b:UInt8}{p:Bool}{x y:List UInt8}(hx:Nm b x)(hy:Nm b y):Nm b (cond p x y):=by cases p<;>assumption
theorem UaH{b:UInt8}{sep:List UInt8}(hs:Nm b sep):∀{l:List (List UInt8)},(∀x∈l,Nm b x)→Nm b (Lib.join l sep)
 |[],_=>XI b
 |x::r,h=>by
  rw[Lib.join_cons]
  refine Rp (h x (by simp)) ?_
  have key:∀r:List (List UInt8),(∀x∈r,Nm b x)→Nm b (Lib.joinTail sep r):=by
   intro r
   induction r with
   |nil=>intro _;exact XI b
   |cons y r ih=>
    intro h
    exact Rp (Rp hs (h y (by simp))) (ih fun x hx=>h x (jr _ hx))
  exact key r fun x hx=>h x (jr _ hx)
theorem Mad:∀(v:Nat),∀c∈Lib.decDigits v,48≤c.toNat∧c.toNat≤57:=by
 intro v
 induction v using Nat.strongRecOn with
 |_ v ih=>
 intro c hc
 by_cases h:v<10
 ·rw[LW v h]at hc
  rw[qb.1 hc]
  have:v=0∨v=1∨v=2∨v=3∨v=4∨v=5∨v=6∨v=7∨v=8∨v=9:=by omega
  rcases this with rfl|rfl|rfl|rfl|rfl|rfl|rfl|rfl|rfl|rfl<;>decide
 ·rw[DZ v h]at hc
  rcases jl.1 hc with hc|hc
  ·exact ih (v/10) (by omega) c hc
  ·rw[qb.1 hc]
   have hd:v%10<10:=Nat.mod_lt _ (by omega)
   generalize v%10=d at hd
   have:d=0∨d=1∨d=2∨d=3∨d=4∨d=5∨d=6∨d=7∨d=8∨d=9:=by omega
   rcases this with rfl|rfl|rfl|rfl|rfl|rfl|rfl|rfl|rfl|rfl<;>decide
theorem TaH{b:UInt8}(hb:b.toNat<45∨57<b.toNat)(n:Int):Nm b (Lib.itoa n):=by
 intro c hc
 unfold Lib.itoa at hc
 have key:45≤c.toNat∧c.toNat≤57:=by
  split at hc
  ·rcases jp.1 hc with h|h
   ·subst h;decide
   ·have:=Mad _ c h;omega
  ·have:=Mad _ c hc;omega
 rintro rfl
 omega
theorem Wau:∀c:Fin 57,(Dg (c.val:Int)).all (fun x=>x !=10&&(x !=32&&x !=124))=true:=by decide+kernel
theorem Oay:∀c:Fin 16,(Tg (c.val:Int)).all (fun x=>x !=10&&(x !=32&&x !=124))=true:=by decide+kernel
theorem Pay{c:Int}(h:¬(1≤c∧c≤56)):Dg c=[]:=by
 unfold Dg
 rw[Ba h];rfl
theorem Z7(c:Int):Nm 10 (Dg c)∧Nm 32 (Dg c)∧Nm 124 (Dg c):=by
 by_cases h:1≤c∧c≤56
 ·have:=Wau ⟨c.toNat,by omega⟩
  rw[show((⟨c.toNat,by omega⟩:Fin 57).val:Int)=c by simp;omega]at this
  rw[yx]at this
  refine⟨fun x hx=>?_,fun x hx=>?_,fun x hx=>?_⟩<;>(have:=this x hx;simp only[jd,bne_iff_ne]at this;first|exact this.1|exact this.2.1|exact this.2.2)
 ·rw[Pay h];exact⟨XI _,XI _,XI _⟩
theorem Y7(c:Int):Nm 10 (Tg c)∧Nm 32 (Tg c)∧Nm 124 (Tg c):=by
 by_cases h:1≤c∧c≤15
 ·have:=Oay ⟨c.toNat,by omega⟩
  rw[show((⟨c.toNat,by omega⟩:Fin 16).val:Int)=c by simp;omega]at this
  rw[yx]at this
  refine⟨fun x hx=>?_,fun x hx=>?_,fun x hx=>?_⟩<;>(have:=this x hx;simp only[jd,bne_iff_ne]at this;first|exact this.1|exact this.2.1|exact this.2.2)
 ·rw[TP h];exact⟨XI _,XI _,XI _⟩
theorem SaH{b:UInt8}(hb:b=10∨b=32∨b=124)(a:Ia):Nm b (IF a):=by
 have hi:∀n,Nm b (Lib.itoa n):=fun n=>TaH (by rcases hb with rfl|rfl|rfl<;>decide) n
 have hn:∀c,Nm b (Dg c):=fun c=>hb.elim (fun e=>e▸(Z7 c).1) fun h=>h.elim (fun e=>e▸(Z7 c).2.1) fun e=>e▸(Z7 c).2.2
 have hm:∀c,Nm b (Tg c):=fun c=>hb.elim (fun e=>e▸(Y7 c).1) fun h=>h.elim (fun e=>e▸(Y7 c).2.1) fun e=>e▸(Y7 c).2.2
 have hd:∀l:List UInt8,l.all (fun x=>x !=10&&(x !=32&&x !=124))=true→Nm b l:=fun l hl x hx=>by
  have:=yx.1 hl x hx
  simp only[jd,bne_iff_ne]at this
  exact hb.elim (fun e=>e▸this.1) fun h=>h.elim (fun e=>e▸this.2.1) fun e=>e▸this.2.2
 unfold IF
 refine Lt (hd _ (by decide)) (Lt (hd _ (by decide)) (Lt (Rp (hd _ (by decide)) (hi _)) (Lt (Rp (hd _ (by decide)) (hi _)) (Lt (Rp (hd _ (by decide)) (hi _)) (Lt (Rp (Rp (hm _) (hd _ (by decide))) (hn _))
  (Lt (Rp (Rp (hi _) (hd _ (by decide))) (hn _)) (Lt (Rp (hd _ (by decide)) (hm _)) (Lt (Rp (hd _ (by decide)) (hi _)) (Lt (hd _ (by decide)) (Lt (hn _) (Rp (Rp (hm _) (hd _ (by decide))) (hn _))))))))))))
theorem PO{b:UInt8}(hb:b=10∨b=32∨b=124)(a:Ia):Nm b (Re a):=Lt (SaH hb a) (XI b)
theorem RR{b:UInt8}:∀(x rest cur:List UInt8),Nm b x→Mb (b.toNat:Int) cur (x++rest)=Mb (b.toNat:Int) (cur++x) rest
 |[],rest,cur,_=>by simp
 |c::x,rest,cur,h=>by
  have hc:(((UInt8.toNat c:Nat):Int)==(b.toNat:Int))=false:=by
   have:=h c (by simp)
   rw[beq_eq_false_iff_ne]
   intro e
   exact this (UInt8.toNat_inj.1 (by omega))
  rw[yh,Mb,hc,zh,RR x rest (cur++[c]) fun y hy=>h y (jr _ hy)]
  simp
noncomputable def XX:Oa:=(HD wm [] ((200:Int),(0:Int),(0:Int),())).1
theorem DaM:Hb Rb (Kl wm [])≤Da:=WS (by have:=Oaq OZ;omega) (by simp) (by simp)
theorem Kam:Uh XX:=by
 refine Q9 ?_
 have hE:=GaE (M:=[]) OZ (by simp) (by simp)
 have hd:Yc (FK (Kl wm []) ((200:Int),(0:Int),(0:Int),()))=true:=Yas hE (by decide) (by omega) (by omega) (Uax _ _) rfl (by show(0:Int)≤0∧(0:Int)≤6;omega) (by omega)
 unfold HD
 rw[(AB _).2 hE]
 simp only[zg]
 unfold Nx
 rw[hd]
 rfl
theorem KM:Lj=some (XX,()):=by
 unfold Lj
 rw[LB (by decide),CaM]
 simp only[jb]
 rw[RV _ _ _ DaM]
 rfl
noncomputable def lnG(p:Oa×List UInt8)(t:List UInt8):Oa×List UInt8:=
 ((ON p.1 t).1,cond ((ON p.1 t).2.1 !=([]:List UInt8)) (jf p.2 (jf (ON p.1 t).2.1 [10])) p.2)
noncomputable def lnI(W:List (List UInt8)):Oa×List UInt8:=Oc (fun _ p t=>lnG p t) 0 (XX,[]) W
structure LnB(k:Nat)(p:Oa×List UInt8):Prop where
 s:Uh p.1
 n:p.2.length≤73001*k
theorem Qal{k:Nat}{p:Oa×List UInt8}(h:LnB k p)(t:List UInt8):LnB (k+1) (lnG p t):=by
 obtain⟨h1,h2⟩:=Qad h.s t
 have hn:=h.n
 refine⟨h1,?_⟩
 unfold lnG
 cases(ON p.1 t).2.1 !=([]:List UInt8)with
 |false=>show p.2.length≤_;omega
 |true=>
  show(jf p.2 (jf (ON p.1 t).2.1 [10])).length≤_
  simp only[ze,qc,jw,j6];omega
theorem Hae(W:List (List UInt8))(hn:W.length≤60)(hW:∀x∈W,x.length≤1048576):
 Cj ((W,(),([]:List UInt8),W,((ja W:Nat):Int),(0:Int),()),(XX,()))=some (.inl ((W,(lnI W).2,()),())):=by
 have hl:=Zd (step:=fun x:(List (List UInt8)×Unit×List UInt8×List (List UInt8)×Int×Int×Unit)×Oa×Unit=>Iw x.1.1 x.1.2.1 x.1.2.2.1 x.1.2.2.2.1 x.1.2.2.2.2.1 x.1.2.2.2.2.2.1 x.2.1) W (fun _ p t=>lnG p t)
  (fun p i=>((W,(),p.2,W,((ja W:Nat):Int),i,()),(p.1,()))) (fun p=>.inl ((W,p.2,()),())) LnB (by
   intro k hk p hp
   refine⟨?_,Qal hp _⟩
   have hx:=hW W[k] (qi hk)
   obtain⟨h1,h2⟩:=Qad hp.s W[k]
   have hpn:=hp.n
   have hk60:73001*k≤73001*60:=Nat.mul_le_mul_left _ (by omega)
   simp only[Iw]
   rw[Aa (by omega),Mf,Aa hk]
   simp only[zg,jn]
   rw[je hk]
   simp only[jb]
   have e:=K7 hp.s hx
   erw[e]
   simp only[jb]
   unfold lnG
   cases(ON p.1 W[k]).2.1 !=([]:List UInt8)with
   |false=>rfl
   |true=>
    simp only[zg]
    rw[Jb (by simp only[jw,j6];omega),Jb (by simp only[ze,qc,jw,j6];omega)]
    rfl) (by
   intro p hp
   simp only[Iw]
   rw[Ba (by omega)];rfl) (by omega) (XX,[]) ⟨Kam,by simp⟩
 unfold Cj lnI
 exact hl.1
noncomputable def Daf(V:List (List UInt8)):List UInt8×(Int×Unit):=cond (decide (60<V.length)) ([],-1,()) ((lnI V).2,((V.length:Nat):Int),())
def Sap(W:List (List UInt8)):List (List UInt8):=cond (W.getD (W.length-1) []==([]:List UInt8)) (W.take (W.length-1)) W
noncomputable def HT(t:List UInt8):List UInt8×(Int×Unit):=Daf (Sap (Mb 10 [] t))
theorem B2{t:List UInt8}(ht:t.length≤1048576):OA t=some (HT t):=by
 unfold OA HT Sap
 rw[UG 10 (by omega)]
 simp only[jb]
 have hl:=Wq 10 t []
 have hp:=Tn 10 t []
 have hne:=My 10 t []
 generalize Mb 10 [] t=W at hl hp hne
 have h0:0<W.length:=List.length_pos_iff.2 hne
 have hi:j4 .i64 (((ja W:Nat):Int)-1)=((W.length-1:Nat):Int):=by rw[Af (by omega) (by omega)];omega
 rw[hi,Mf,Aa (by omega)]
 simp only[zg,jn]
 rw[je (by omega)]
 simp only[jb]
 rw[qe,je (show W.length-1<W.length by omega)]
 simp only[qz]
 have main:∀V:List (List UInt8),(∀x∈V,x∈W)→
  (cond (decide (((ja V:Nat):Int)>(60:Int))) (some (([]:List UInt8),(-1:Int),())) (jz Lj fun r12=>
   (jz (Cj ((V,(),([]:List UInt8),V,((ja V:Nat):Int),(0:Int),()),(r12.1,()))) (Sum.elim (fun y19=>(some (y19.1.2.1,((ja y19.1.1:Nat):Int),()))) (fun z20=>none)))):Option (List UInt8×(Int×Unit)))
  =some (Daf V):=by
  intro V hV
  unfold Daf
  by_cases h60:60<V.length
  ·rw[Aa h60,Aa (by omega)];rfl
  ·rw[Ba h60,Ba (by omega)]
   simp only[zh]
   rw[KM]
   simp only[jb]
   rw[Hae V (by omega) fun x hx=>by have:=hp x (hV x hx);simp at this;omega]
   rfl
 by_cases hb:(W[W.length-1]'(by omega)==([]:List UInt8))=true
 ·rw[hb]
  simp only[zg]
  have hok:Bd (ja W) 0 ((W.length-1:Nat):Int)=true:=Sg (lo:=0) (by omega) (by omega)
  have hcut:Ya W (jy 0) (W.length-1)=W.take (W.length-1):=by simp[Ya]
  rw[hok,←hcut]
  simp only[zg]
  exact main _ fun x hx=>by rw[hcut]at hx;exact List.mem_of_mem_take hx
 ·rw[j8]at hb
  rw[hb]
  simp only[zh]
  exact main W fun x hx=>hx
theorem J9(c:UInt8):∀(l:List UInt8) (v:Int),Xy (l++[c]) v=(Xy l v).bind fun w=>Xy [c] w
 |[],v=>by simp[Xy]
 |x::l,v=>by
  simp only[yh,Xy]
  cases(decide (((UInt8.toNat x:Nat):Int)<48)||decide (((UInt8.toNat x:Nat):Int)>57))with
  |true=>rfl
  |false=>
   simp only[zh]
   rw[J9 c l]
   rfl
theorem I9(c:UInt8):∀(l:List UInt8) (v:Nat),Lib.decFrom v (l++[c])=(Lib.decFrom v l).bind fun w=>Lib.decFrom w [c]
 |[],v=>by simp[Lib.decFrom]
 |x::l,v=>by
  simp only[yh,Lib.decFrom]
  cases Lib.digitVal x with
  |none=>rfl
  |some d=>exact I9 c l _
theorem Iai{d:Nat}(h:d<10):(UInt8.ofNat (48+d)).toNat=48+d:=by
 have:d=0∨d=1∨d=2∨d=3∨d=4∨d=5∨d=6∨d=7∨d=8∨d=9:=by omega
 rcases this with rfl|rfl|rfl|rfl|rfl|rfl|rfl|rfl|rfl|rfl<;>rfl
theorem Oad{d:Nat}(h:d<10)(w:Int):Xy [UInt8.ofNat (48+d)] w=some (10*w+(d:Int)):=by
 simp only[Xy]
 rw[Iai h,Ba (show¬((48+d:Nat):Int)<48 by omega),Ba (show¬((48+d:Nat):Int)>57 by omega)]
 simp only[Bool.or_false,zh]
 congr 1;omega
theorem Nad{d:Nat}(h:d<10)(w:Nat):Lib.decFrom w [UInt8.ofNat (48+d)]=some (w*10+d):=by
 simp only[Lib.decFrom,Lib.digitVal]
 rw[Iai h,if_pos (by omega)]
 simp
theorem EaE:∀u:Nat,Xy (Lib.decDigits u) 0=some (u:Int):=by
 intro u
 induction u using Nat.strongRecOn with
 |_ u ih=>
 by_cases h:u<10
 ·rw[LW u h,Oad h];simp
 ·rw[DZ u h,J9,ih (u/10) (by omega)]
  simp only[jb]
  rw[Oad (Nat.mod_lt _ (by omega))]
  congr 1;omega
theorem DaE:∀u:Nat,Lib.decFrom 0 (Lib.decDigits u)=some u:=by
 intro u
 induction u using Nat.strongRecOn with
 |_ u ih=>
 by_cases h:u<10
 ·rw[LW u h,Nad h];simp
 ·rw[DZ u h,I9,ih (u/10) (by omega)]
  simp only[jb]
  rw[Nad (Nat.mod_lt _ (by omega))]
  congr 1;omega
theorem Vau:∀(k u:Nat),1≤k→u<10^k→Lib.nDigits u≤k
 |0,_,h,_=>by omega
 |k+1,u,_,hu=>by
  by_cases h:u<10
  ·rw[Lib.nDigits_small h];omega
  ·rw[Lib.nDigits_big h]
   rw[Nat.pow_succ]at hu
   have hk:1≤k:=by
    rcases Nat.eq_zero_or_pos k with rfl|h0
    ·simp at hu;omega
    ·exact h0
   have:=Vau k (u/10) hk (by omega)
   omega
theorem Hai{u:Nat}(h:u≤999999999):1≤(Lib.decDigits u).length∧(Lib.decDigits u).length≤9:=by
 rw[Lib.decDigits_length]
 exact⟨Lib.nDigits_pos u,Vau 9 u (by omega) (by omega)⟩
theorem Gai(u:Nat):∃c r,Lib.decDigits u=c::r∧48≤c.toNat∧c.toNat≤57:=by
 have h1:=Lib.nDigits_pos u
 have h2:=Lib.decDigits_length u
 cases hd:Lib.decDigits u with
 |nil=>rw[hd]at h2;simp at h2;omega
 |cons c r=>
  have:=Mad u c (by rw[hd];simp)
  exact⟨c,r,rfl,this.1,this.2⟩
def Waz:Int×(Bool×Unit):=((0:Int),false,())
def InB(n:Int):Prop:=-999999999≤n∧n≤999999999
theorem R5(t s:List UInt8):WD t s=Waz∨∃n,InB n∧Lib.itoa n=s∧WD t s=(n,true,()):=by
 have hb:=CaI t s
 unfold WD at hb⊢
 by_cases h1:((ja t:Nat):Int)<1
 ·rw[Aa h1];exact .inl rfl
 by_cases h2:((ja t:Nat):Int)>9
 ·rw[Ba h1,Aa h2];exact .inl rfl
 rw[Ba h1,Ba h2]at hb⊢
 simp only[zh]at hb⊢
 revert hb
 cases Xy t 0 with
 |none=>intro _;exact .inl rfl
 |some v=>
  simp only
  generalize cond (decide (((ja t:Nat):Int)<((ja s:Nat):Int))) (-v) v=n
  cases hn:Lib.itoa n !=s with
  |true=>intro _;exact .inl rfl
  |false=>
   intro hb
   exact .inr ⟨n,hb,by simpa using hn,rfl⟩
theorem Uaf(s:List UInt8):Sp s=Waz∨∃n,InB n∧Lib.itoa n=s∧Sp s=(n,true,()):=by
 cases s with
 |nil=>exact .inl rfl
 |cons c l=>
  simp only[Sp]
  cases((UInt8.toNat c:Nat):Int)==45
  ·simp only[zh];exact R5 _ _
  ·simp only[zg];exact R5 _ _
theorem Kah(s:List UInt8):Fj s=Waz∨∃n,InB n∧Lib.itoa n=s∧Fj s=(n,true,()):=by
 unfold Fj
 cases(yb (ja s) 1||yb 10 (ja s))with
 |true=>exact .inl rfl
 |false=>
  simp only[zh]
  cases Lib.atoi s with
  |none=>exact .inl rfl
  |some n=>
   simp only
   by_cases h1:n< -999999999
   ·rw[Aa h1];exact .inl rfl
   by_cases h2:n>999999999
   ·rw[Ba h1,Aa h2];exact .inl rfl
   rw[Ba h1,Ba h2]
   cases hn:Lib.itoa n !=s with
   |true=>exact .inl rfl
   |false=>exact .inr ⟨n,⟨by omega,by omega⟩,by simpa using hn,rfl⟩
theorem Jah{n:Int}(h:InB n):Sp (Lib.itoa n)=(n,true,()):=by
 unfold InB at h
 obtain⟨l1,l2⟩:=Hai (u:=n.natAbs) (by omega)
 have hg:=EaE n.natAbs
 by_cases h0:n<0
 ·have e:Lib.itoa n=45::Lib.decDigits n.natAbs:=by unfold Lib.itoa;rw[if_pos h0]
  rw[e]
  simp only[Sp]
  rw[show(((UInt8.toNat 45:Nat):Int)==45)=true from rfl,zg]
  unfold WD
  rw[Ba (by omega),Ba (by omega),hg]
  simp only[zh]
  rw[Aa (by rw[jw];omega)]
  simp only[zg]
  rw[show-((n.natAbs:Nat):Int)=n by omega,e]
  simp
 ·have e:Lib.itoa n=Lib.decDigits n.natAbs:=by unfold Lib.itoa;rw[if_neg h0,show n.toNat=n.natAbs by omega]
  obtain⟨c,r,hd,hc1,hc2⟩:=Gai n.natAbs
  have key:WD (Lib.itoa n) (Lib.itoa n)=(n,true,()):=by
   unfold WD
   rw[e,Ba (by omega),Ba (by omega),hg]
   simp only[zh]
   rw[Ba (by omega)]
   simp only[zh]
   rw[show((n.natAbs:Nat):Int)=n by omega,e]
   simp
  rw[e,hd]at key⊢
  simp only[Sp]
  rw[show(((UInt8.toNat c:Nat):Int)==45)=false by rw[beq_eq_false_iff_ne];omega,zh]
  exact key
theorem S5{n:Int}(h:InB n):Fj (Lib.itoa n)=(n,true,()):=by
 unfold InB at h
 obtain⟨l1,l2⟩:=Hai (u:=n.natAbs) (by omega)
 have hg:=DaE n.natAbs
 obtain⟨c,r,hd,hc1,hc2⟩:=Gai n.natAbs
 have hN:Lib.decNat (Lib.decDigits n.natAbs)=some n.natAbs:=by
  unfold Lib.decNat
  rw[if_neg (by rw[hd];simp)]
  exact hg
 have key:(1≤(Lib.itoa n).length∧(Lib.itoa n).length≤10)∧Lib.atoi (Lib.itoa n)=some n:=by
  by_cases h0:n<0
  ·have e:Lib.itoa n=45::Lib.decDigits n.natAbs:=by unfold Lib.itoa;rw[if_pos h0]
   rw[e]
   refine⟨by rw[jw];omega,?_⟩
   simp only[Lib.atoi]
   rw[if_pos (by rfl),hN]
   simp only[qa,jc]
   omega
  ·have e:Lib.itoa n=Lib.decDigits n.natAbs:=by unfold Lib.itoa;rw[if_neg h0,show n.toNat=n.natAbs by omega]
   rw[e]
   refine⟨by omega,?_⟩
   rw[hd]at hN⊢
   simp only[Lib.atoi]
   have n45:¬(c==45)=true:=by intro he;rw[eq_of_beq he]at hc1;exact absurd hc1 (by decide)
   have n43:¬(c==43)=true:=by intro he;rw[eq_of_beq he]at hc1;exact absurd hc1 (by decide)
   rw[if_neg n45,if_neg n43,hN]
   simp only[qa,jc]
   omega
 obtain⟨⟨k1,k2⟩,k3⟩:=key
 unfold Fj
 rw[show(yb (ja (Lib.itoa n)) 1||yb 10 (ja (Lib.itoa n)))=false by
  rw[yt]
  exact⟨by rw[←j8,ye];omega,by rw[←j8,ye];omega⟩,zh,k3]
 simp only
 rw[Ba (by omega),Ba (by omega)]
 simp
theorem Waq(s:List UInt8):Sp s=Fj s:=by
 rcases Uaf s with h1|⟨n,hn,hs,h1⟩
 ·rcases Kah s with h2|⟨m,hm,hs2,h2⟩
  ·rw[h1,h2]
  ·rw[←hs2,Jah hm,S5 hm]
 ·rw[h1,←hs,S5 hn]
noncomputable def ES(k c m n:Int):Bool:=(JM (IF (k,c,m,n,()))==(k,c,m,n,()))&&(LA (IF (k,c,m,n,()))==(k,c,m,n,()))
theorem Sas:((([0,1,10]:List Int).all fun k=>ES k 0 0 0)&&(([3,4]:List Int).all fun k=>([1,2,3]:List Int).all fun n=>ES k 0 0 n)&&(([5,9]:List Int).all fun k=>([0,1,2,3]:List Int).all fun n=>ES k 0 0 n)&&
 ((y3 15).all fun m=>ES 8 0 (m+1:Nat) 0)&&((y3 56).all fun c=>([1,2,3]:List Int).all fun n=>ES 7 (c+1:Nat) 0 n)&&((y3 15).all fun m=>ES 2 0 (m+1:Nat) 0))=true:=by
 decide+kernel
theorem AaE:((y3 56).all fun c=>(y3 16).all fun m=>ES 2 (c+1:Nat) (m:Int) 0)=true:=by decide+kernel
theorem BaE:((y3 56).all fun c=>(y3 15).all fun m=>ES 6 (c+1:Nat) (m+1:Nat) 0)=true:=by decide+kernel
theorem EaK{k c m n:Int}(h:ES k c m n=true):JM (IF (k,c,m,n,()))=(k,c,m,n,())∧LA (IF (k,c,m,n,()))=(k,c,m,n,()):=by
 unfold ES at h
 simp only[jd]at h
 exact⟨eq_of_beq h.1,eq_of_beq h.2⟩
theorem MO{l:List Int}{p:Int→Bool}(h:l.all p=true){x:Int}(hx:x∈l):p x=true:=yx.1 h x hx
theorem YJ{n:Nat}{p:Nat→Bool}(h:(y3 n).all p=true){x:Nat}(hx:x<n):p x=true:=yx.1 h x (List.mem_range.2 hx)
theorem QQ{a:Ia}(h:Nb a=true):JM (IF a)=a∧LA (IF a)=a:=by
 have hs:=Sas
 simp only[jd]at hs
 obtain⟨⟨⟨⟨⟨s1,s2⟩,s3⟩,s4⟩,s5⟩,s6⟩:=hs
 rw[Qb]at h
 obtain⟨k,c,m,n,⟨⟩⟩:=a
 refine EaK ?_
 simp only at h
 rcases h with⟨hk,rfl,rfl,rfl⟩|⟨rfl,rfl,hc,hm,hcm⟩|⟨hk,rfl,rfl,hn⟩|⟨hk,rfl,rfl,hn⟩|⟨rfl,h1,h2,h3,h4,rfl⟩|⟨rfl,h1,h2,rfl,h3,h4⟩|⟨rfl,rfl,h1,h2,rfl⟩
 ·exact MO s1 (by simp;omega)
 ·by_cases h0:c=0
  ·subst h0
   have:=YJ s6 (x:=m.toNat-1) (by omega)
   rw[show((m.toNat-1+1:Nat):Int)=m by omega]at this
   exact this
  ·have:=YJ (YJ AaE (x:=c.toNat-1) (by omega)) (x:=m.toNat) (by omega)
   rw[show((c.toNat-1+1:Nat):Int)=c by omega,show((m.toNat:Nat):Int)=m by omega]at this
   exact this
 ·exact MO (MO s2 (x:=k) (by simp;omega)) (by simp;omega)
 ·exact MO (MO s3 (x:=k) (by simp;omega)) (by simp;omega)
 ·have:=YJ (YJ BaE (x:=c.toNat-1) (by omega)) (x:=m.toNat-1) (by omega)
  rw[show((c.toNat-1+1:Nat):Int)=c by omega,show((m.toNat-1+1:Nat):Int)=m by omega]at this
  exact this
 ·have:=MO (YJ s5 (x:=c.toNat-1) (by omega)) (x:=n) (by simp;omega)
  rw[show((c.toNat-1+1:Nat):Int)=c by omega]at this
  exact this
 ·have:=YJ s4 (x:=m.toNat-1) (by omega)
  rw[show((m.toNat-1+1:Nat):Int)=m by omega]at this
  exact this
theorem Xah{a:Ia}(h:Nb a=true):IF a≠[]:=by
 intro e
 have h1:=(QQ h).1
 rw[e]at h1
 have h2:JM []=((2:Int),(0:Int),(0:Int),(0:Int),()):=by decide+kernel
 rw[h2]at h1
 rw[←h1,Qb]at h
 unfold Wc at h
 simp at h
theorem WJ{a:Ia}(h:Nb a=true):Re a=IF a:=by unfold Re;rw[h];rfl
theorem WU(s:List UInt8):(∃a,Nb a=true∧Re a=s∧Ro s=(a,true,())∧Qj s=(a,true,()))∨((∀a,Nb a=true→Re a≠s)∧Ro s=(UR,false,())∧Qj s=(UR,false,())):=by
 by_cases h:∃a,Nb a=true∧IF a=s
 ·obtain⟨a,ha,rfl⟩:=h
  obtain⟨g1,g2⟩:=QQ ha
  refine .inl ⟨a,ha,WJ ha,?_,?_⟩
  ·unfold Ro C7
   rw[g1,WJ ha,show(IF a==([]:List UInt8))=false by simpa using Xah ha]
   simp
  ·unfold Qj
   rw[g2,WJ ha,ha]
   simp
 ·have hno:∀a,Nb a=true→Re a≠s:=fun a ha e=>h ⟨a,ha,by rw[←WJ ha];exact e⟩
  refine .inr ⟨hno,?_,?_⟩
  ·unfold Ro C7
   cases hs:s==([]:List UInt8)with
   |true=>rfl
   |false=>
    have hne:s≠[]:=by simpa using hs
    have:(Re (JM s) !=s)=true:=by
     rw[bne_iff_ne]
     intro e
     cases hg:Nb (JM s)with
     |true=>exact hno _ hg e
     |false=>unfold Re at e;rw[hg]at e;exact hne e.symm
    rw[this];rfl
  ·unfold Qj
   cases hg:Nb (LA s)with
   |false=>rfl
   |true=>
    have:(Re (LA s) !=s)=true:=by rw[bne_iff_ne];exact hno _ hg
    rw[this];rfl
theorem FR(s:List UInt8):Ro s=Qj s:=by
 rcases WU s with⟨a,_,_,h1,h2⟩|⟨_,h1,h2⟩<;>rw[h1,h2]
theorem VU{a:Ia}(h:Nb a=true):Ro (Re a)=(a,true,())∧Qj (Re a)=(a,true,()):=by
 rcases WU (Re a)with⟨b,hb,he,h1,h2⟩|⟨hno,_,_⟩
 ·have e:b=a:=by
   rw[WJ hb,WJ h]at he
   have:=(QQ hb).1
   rw[he,(QQ h).1]at this
   exact this.symm
  rw[e]at h1 h2
  exact⟨h1,h2⟩
 ·exact absurd rfl (hno a h)
theorem Taf{s:List UInt8}(h:(Qj s).2.1=true):Nb (Qj s).1=true∧Re (Qj s).1=s:=by
 rcases WU s with⟨a,ha,he,_,h2⟩|⟨_,_,h2⟩
 ·rw[h2];exact⟨ha,he⟩
 ·rw[h2]at h;simp at h
end KF
