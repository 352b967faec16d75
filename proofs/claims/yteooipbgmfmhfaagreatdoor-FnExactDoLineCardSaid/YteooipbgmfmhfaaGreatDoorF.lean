/- An evaluator of Go functions on plain data, its soundness, and plain laws on what the functions compute, part 6 (conditions: as each lemma tells). -/
import Derived.Test.YteooipbgmfmhfaaGreatDoorE
set_option linter.unusedSimpArgs false
set_option linter.unusedVariables false
namespace KF
open Go
open List renaming length → ja, getElem?_eq_getElem → je, append → jf, mem_append → jl, mem_cons → jp, mem_cons_of_mem → jr, length_cons → jw, set → j5, length_nil → j6, length_set → j7, mem_singleton → qc, length_append → qd, getD_eq_getElem?_getD → qf, getElem_mem → qj, getElem_of_mem → qk, mem_map → ql, getElem?_set_self → qm, length_drop → qn, ext_getElem? → qr, drop_drop → qs, toArray → qt, getD → qu, getElem?_eq_none → qv, mem_append_left → qw, mem_append_right → qx, any_eq_true → q0, append_assoc → q7, eq_nil_of_length_eq_zero → q9, getElem?_eq_some_iff → ya, length_eq_one_iff → yb, replicate → yf, nil_append → yi, cons_append → yj, map_cons → ym, nodup_cons → yo, nodup_append → yp, size_toArray → yq, flatten_cons → yr, length_map → yu, mem_map_of_mem → yx, map_append → yy, all_eq_true → yz, append_nil → y3, range → zb, map → zg, append_eq → zh, not_mem_nil → zi
open Option renaming bind_some → jb, bind → jz, map_some → qb, bind_eq_some_iff → qe, getD_some → q6, map_eq_some_iff → za
open Option.some renaming injEq → jc, inj → zf
open Bool renaming and_eq_true → jd, not_true → jg, true_and → jk, false_eq_true → jq, not_false → j8, not_eq_true → j9, false_and → qi, eq_iff_iff → qo, or_eq_true → qz, not_eq_true' → yn, or_eq_false_iff → yv, false_or → yw
open Prod.mk renaming injEq → jh
open Nat renaming ble_eq_true_of_le → ji, mul_le_mul_right → jm, le_refl → jo, zero_add → js, add_assoc → jt, eq_of_beq_eq_true → ju, ble → jx, le_trans → qa, lt_of_lt_of_le → qh, beq → qy, le_of_ble_eq_true → q8, add_zero → yc, blt → yd, blt_eq → yg, add_mul → yh, beq_refl → yl, succ_mul → yt, zero_le → zd
open Int renaming toNat_natCast → jn, eq_ofNat_of_zero_le → jv, toNat → jy, tmod → ye
open Go.IntKind renaming wrap → j4
open Sum renaming elim_inl → qg
open Result renaming andThen_ok → qp
open Sem renaming run_bind → qq
open List.cons renaming injEq → yk
open Sum.inl renaming injEq → ze
theorem EaF(q l:List Ya)(h:0<l.length):LJ (jf q l)=LJ l:=by
 unfold LJ
 rw[zh,qd,qf,qf,List.getElem?_append_right (by omega),show q.length+l.length-1-q.length=l.length-1 by omega]
theorem CaK{d:Ab}{l:List Ya}{til:Int}(h:Jy d l til=true):Od (Vn d l til)=true:=by
 unfold Jy at h
 simp only[jd,decide_eq_true_eq]at h
 obtain⟨hd,ht,_,hb,hf⟩:=h
 unfold Od at hd⊢
 simp only[jd,decide_eq_true_eq]at hd⊢
 obtain⟨h1,h2,h3,h4,h5,h6,h7,h8⟩:=hd
 have hn:Lh (jf d.2.2.1 l) til=true:=by
  unfold Lh at h6 hb⊢
  simp only[qz,beq_iff_eq,decide_eq_true_eq]at h6 hb⊢
  by_cases hl:0<l.length
  ·right
   rw[EaF _ _ hl]
   omega
  ·have:l=[]:=q9 (by omega)
   subst this
   rw[show jf d.2.2.1 []=d.2.2.1 from y3 _]
   omega
 have hc2:d.2.2.2.2.1≤til:=by omega
 have ht2:d.2.2.2.2.2.2.1≤til:=by omega
 exact⟨h1,h2,⟨by show 0≤til;omega,by show til≤1000000;omega⟩,⟨h4.1,hc2⟩,hf,hn,h7,⟨h8.1,ht2⟩⟩
theorem ZP{d:Ab}{l:List Ya}{til:Int}(h:(PA d l til).2.2.1=true):Od (PA d l til).1=true∧LQ (PA d l til).2.1∧(PA d l til).2.1.length≤2000:=by
 unfold PA at h⊢
 cases hp:Jy d l til with
 |false=>rw[hp]at h;simp at h
 |true=>
  simp only[zj]
  have h0:=U7 (CaK hp)
  have hlen:=h0.pl.len
  have h1:=Kak (Vn d l til).2.2.1.length (Vn d l til) [] h0
  have h2:=Oag (Vn d l til).2.2.1.length (Vn d l til) [] h0 (fun y hy=>by simp at hy)
  refine⟨QaX h1.1,h2.1,?_⟩
  have:=h2.2
  simp only[j6]at this
  omega
def RC(s:Qa)(r:Ab×(List Lc×(Bool×Unit))):Qa×(List UInt8×Unit):=
 cond (!r.2.2.1) (s,[110,111],()) (cond (decide (200<s.2.1.length+r.2.1.length)) (s,[110,111],()) ((r.1,jf s.2.1 r.2.1,()),TV r.2.1,()))
noncomputable def Lw(s:Qa)(w:List UInt8)(l:List Int):Ab×(List Lc×(Bool×Unit)):=
 cond (w==Jc) (PA s.1 [] (l.getD 0 0)) (PA s.1 [(l.getD 1 0,l.getD 0 0,w==Ad,())] (l.getD 1 0))
theorem RV{l:List Lc}(h:LQ l):(∀x∈l,-9223372036854775808≤x.1∧x.1≤9223372036854775807)∧∀x∈l,x.2.1.2.1.length≤Da:=by
 have h20:Da=1048576:=rfl
 refine⟨fun x hx=>?_,fun x hx=>?_⟩
 ·have h1:=h x hx
  simp only[Ly,jd,decide_eq_true_eq]at h1
  omega
 ·have h1:=h x hx
  simp only[Ly,jd]at h1
  have:=Ez h1.2
  omega
theorem CaG{l:List Lc}(h:LQ l)(hn:l.length≤200):(TV l).length≤73000:=by
 have:=C0 (RV h).1
 unfold TV
 cases((ja l:Nat):Int)==0
 ·simp only[zk];omega
 ·simp
theorem ZaU{s:Qa}{w:List UInt8}{l:List Int}(h:(Lw s w l).2.2.1=true):Od (Lw s w l).1=true∧LQ (Lw s w l).2.1∧(Lw s w l).2.1.length≤2000:=by
 unfold Lw at h⊢
 revert h
 cases w==Jc
 ·exact ZP
 ·exact ZP
theorem HaD{s:Qa}(h:Oi s){w:List UInt8}{l:List Int}:Oi (RC s (Lw s w l)).1∧(RC s (Lw s w l)).2.1.length≤73000:=by
 unfold RC
 cases hr:(Lw s w l).2.2.1 with
 |false=>exact⟨h,by show(2:Nat)≤_;omega⟩
 |true=>
  obtain⟨h1,h2,h3⟩:=ZaU hr
  simp only[jg,zk]
  by_cases hc:200<s.2.1.length+(Lw s w l).2.1.length
  ·rw[Ba hc];exact⟨h,by show(2:Nat)≤_;omega⟩
  ·rw[Aa hc]
   refine⟨⟨h1,?_,?_⟩,CaG h2 (by omega)⟩
   ·show(jf s.2.1 (Lw s w l).2.1).length≤200
    rw[zh,qd];omega
   ·intro y hy
    rcases jl.1 (show y∈s.2.1++(Lw s w l).2.1 from hy)with hy|hy
    ·exact h.s y hy
    ·exact h2 y hy
theorem Ga0:Ja Ac Eo≤Da:=by decide
theorem Faq{s:Qa}(h:Oi s){r:Ab×(List Lc×(Bool×Unit))}(hr:r.2.2.1=true→LQ r.2.1∧r.2.1.length≤2000):
 (cond (!r.2.2.1) (some (s,([110,111]:List UInt8),())) (cond (decide ((Go.IntKind.wrap .i64 (((ja s.2.1:Nat):Int)+((ja r.2.1:Nat):Int)))>(200:Int))) (some (s,([110,111]:List UInt8),()))
  (jz (Mo r.2.1) fun r3=>(jz (Rk (Eo,r.2.1,())) fun r4=>(cond (jx (ja s.2.1+ja r4.1.2.1) Wa) (some ((r.1,(jf s.2.1 r4.1.2.1),()),r3.1,())) none)))):Option (Qa×(List UInt8×Unit)))=some (RC s r):=by
 have h20:Da=1048576:=rfl
 unfold RC
 cases hb:r.2.2.1 with
 |false=>rfl
 |true=>
  obtain⟨h2,h3⟩:=hr hb
  have hn:=h.n
  simp only[jg,zk]
  rw[Mf (by omega) (by omega)]
  by_cases hc:200<s.2.1.length+r.2.1.length
  ·rw[Ba hc,Ba (by omega)];rfl
  ·rw[Aa hc,Aa (by omega)]
   simp only[zk]
   obtain⟨i1,i2⟩:=RV h2
   rw[K3 _ i1 i2 (by omega)]
   simp only[jb]
   rw[HO (s:=(Eo,r.2.1,())) Ga0 (by have:=E9 h2 h3;show Ja (.sl Fd) r.2.1≤_;omega)]
   simp only[jb]
   rw[Ob (by omega)]
   rfl
theorem LM{s:Qa}(h:Oi s){w:List UInt8}{l:List Int}(hl:l.length=cond (w==Jc) 1 2):Sl s w l=some (RC s (Lw s w l)):=by
 have h20:Da=1048576:=rfl
 have hz:=Raa h.d
 unfold Sl
 revert hl
 unfold Lw
 cases hw:w==Jc with
 |true=>
  intro hl
  simp only[zj]at hl⊢
  match l,hl with
  |[a],_=>
   rw[show Rb (ja [a]) 0=true from rfl,show([a]:List Int)[jy 0]?=some a from rfl,show([a]:List Int).getD 0 0=a from rfl]
   simp only[zj,jb]
   rw[show MG s.1 a=some (PA s.1 [] a) by
    unfold MG
    rw[VR _ _ _ (by omega) (by simp)];rfl]
   simp only[jb]
   exact Faq h fun hb=>(ZP hb).2
 |false=>
  intro hl
  simp only[zk]at hl⊢
  match l,hl with
  |[a,b],_=>
   rw[show Rb (ja [a,b]) 0=true from rfl,show Rb (ja [a,b]) 1=true from rfl,show([a,b]:List Int)[jy 0]?=some a from rfl,show([a,b]:List Int)[jy 1]?=some b from rfl,
    show([a,b]:List Int).getD 0 0=a from rfl,show([a,b]:List Int).getD 1 0=b from rfl]
   simp only[zj,jb]
   rw[show GG s.1 (b,a,w==Ad,())=some (PA s.1 [(b,a,w==Ad,())] b) by
    unfold GG
    rw[VR _ _ _ (by omega) (by simp)];rfl]
   simp only[jb]
   exact Faq h fun hb=>(ZP hb).2
noncomputable def DU(s:Qa)(w:List UInt8):List UInt8:=
 cond (w==CG) (Kw s.1.1.1) (cond (w==PB) (Lib.itoa (Nj s.1.1.2.2.1 s.1.1.2.2.2.1)) (cond (w==QB) (J4 (Qc s.1.1.2.2.2.1)) (cond (w==OB) (Lib.itoa ((ja s.1.2.2.1:Nat):Int))
  (cond (w==NB) (C8 (Gaf ((0:Int),([]:List Int),()) (s.2.1.map fun x=>x.2.1))) Za))))
structure Sbl(s:Qa):Prop where
 e:Ms s.1.1
 mz:Ja Xa s.1.1.1≤400
 q:s.1.2.2.1.length≤64
 f:0≤s.1.1.2.2.1∧s.1.1.2.2.1≤15
 hn:s.1.1.2.2.2.1.length≤400
 sz:Ja (.sl Fd) s.2.1≤114000
theorem ZT{s:Qa}(h:Oi s):Sbl s:=by
 have h1:=U7 h.d
 have hE:=h1.pl.eng
 have h2:=Uaa hE
 rw[Pl]at h2
 have hl2:=(Be hE.km).l2
 have hf:=hE.st.f1
 have hp:2^s.1.1.1.2.1.length≤2^4:=Nat.pow_le_pow_right (by omega) hl2
 exact⟨hE,by omega,h1.pl.len,⟨hE.st.f0,by omega⟩,by have:=Wq hE.hd;omega,E9 h.s (by have:=h.n;omega)⟩
theorem OaV(n:Int):-9223372036854775808≤j4 .i64 n∧j4 .i64 n≤9223372036854775807:=by
 rw[IntKind.wrap_i64];omega
theorem Jaq(a b:Int):-9223372036854775808≤Fe .i64 a b∧Fe .i64 a b≤9223372036854775807:=by
 unfold Fe
 exact OaV _
theorem H0(f:Int)(l:List Pa):-9223372036854775808≤Nj f l∧Nj f l≤9223372036854775807:=by
 unfold Nj
 have key:∀(l:List Pa) (k:Nat) (s:Int),(-9223372036854775808≤s∧s≤9223372036854775807)→-9223372036854775808≤Vc (fun _ s (h:Pa)=>cond (h.2.1.1==3) (Fe .i64 s (Te .i64 1 h.2.1.2.2.2.1)) s) k s l∧Vc (fun _ s (h:Pa)=>cond (h.2.1.1==3) (Fe .i64 s (Te .i64 1 h.2.1.2.2.2.1)) s) k s l≤9223372036854775807:=by
  intro l
  induction l with
  |nil=>intro k s h;exact h
  |cons x l ih=>
   intro k s h
   simp only[Vc]
   refine ih (k+1) _ ?_
   cases x.2.1.1==3
   ·exact h
   ·exact Jaq _ _
 exact key l 0 _ (Jaq _ _)
theorem Rad{s:Qa}(h:Oi s)(w:List UInt8):Dj s w=some (DU s w,()):=by
 have h20:Da=1048576:=rfl
 obtain⟨hE,hm,hq,hf,hn,hs⟩:=ZT h
 unfold Dj DU
 cases w==CG with
 |true=>simp only[zj];rw[HM (by omega)];rfl
 |false=>
 cases w==PB with
 |true=>
  simp only[zj,zk]
  rw[NP hf _ (by omega) hE.hd]
  simp only[jb]
  rw[Mp (H0 _ _)];rfl
 |false=>
 cases w==QB with
 |true=>
  simp only[zj,zk]
  rw[Ur _ (by omega) hE.hd]
  simp only[jb]
  rw[JM _ (by have:=Ez (Jaj hE.hd);omega)];rfl
 |false=>
 cases w==OB with
 |true=>
  simp only[zj,zk]
  rw[Mp (by omega)];rfl
 |false=>
 cases w==NB with
 |true=>
  simp only[zj,zk]
  rw[B6 _ (by omega)]
  simp only[jb]
  have hr:∀r∈(s.2.1.map fun x=>x.2.1),r.2.1.length≤Da:=fun r hr=>by
   obtain⟨x,hx,rfl⟩:=ql.1 hr
   exact(RV h.s).2 x hx
  have ht:=Van (a:=((0:Int),([]:List Int),())) (by simp) hr
  rw[yu]at ht
  have hn:=h.n
  rw[Bah (by simp) hr (by simp;omega)]
  simp only[jb]
  rw[Ob (by omega),Oao];rfl
 |false=>rfl
theorem Bam{m:Ia}:(Kw m).length≤7000:=by
 unfold Kw
 cases hv:Uc m with
 |false=>simp
 |true=>
  have hm:=Be hv
  have hjl:=OK (m.2.1.map FC) [32,124,32] 1632 (fun x hx=>by
   obtain⟨l,hl',rfl⟩:=ql.1 hx
   obtain⟨i,hi,rfl⟩:=qk hl'
   have:=X0 m.2.1[i]
   have:=hm.row i hi
   have:=hm.k2
   omega)
  rw[yu]at hjl
  have:(1632+([32,124,32]:List UInt8).length)*m.2.1.length≤1635*4:=Nat.mul_le_mul (by simp) hm.l2
  simp only[zj]
  omega
theorem CaH{s:Qa}(h:Oi s)(w:List UInt8):(DU s w).length≤7000:=by
 unfold DU
 have h1:=Bam (m:=s.1.1.1)
 have h2:=NK (H0 s.1.1.2.2.1 s.1.1.2.2.2.1)
 have h3:=A0 (Qc s.1.1.2.2.2.1)
 have hq:=(ZT h).q
 have h4:=NK (n:=((ja s.1.2.2.1:Nat):Int)) (by omega)
 have h5:=WaI (Gaf ((0:Int),([]:List Int),()) (s.2.1.map fun x=>x.2.1))
 exact Cad h1 (Cad (by omega) (Cad (by omega) (Cad (by omega) (Cad (by omega) (by decide)))))
theorem K6(m:Ia)(f:Int)(hz:Ja Xa m≤Da):∃b,Bo m f=some (b,())∧Ei m f=some (b,()):=by
 unfold Bo Ei
 rw[Sk m hz,Vi m hz]
 simp only[jb,Bd]
 cases hk:Uc m with
 |false=>exact⟨false,rfl,rfl⟩
 |true=>
  simp only[zj]
  have hn:1≤m.2.1.length∧m.2.1.length≤4:=by
   simp only[Uc,jd,decide_eq_true_eq]at hk
   exact hk.1.2
  rw[UB (by omega),Ba (show(0:Int)≤(m.2.1.length:Int) by omega)]
  have hp:1≤2^m.2.1.length∧2^m.2.1.length≤16:=by
   obtain⟨h1,h2⟩:=hn
   generalize m.2.1.length=n at*
   have:n=1∨n=2∨n=3∨n=4:=by omega
   rcases this with rfl|rfl|rfl|rfl<;>decide
  rw[Mf (by omega) (by omega)]
  simp only[zj,Uk,Vk,show((2:Int)==0)=false from rfl,zk]
  refine⟨_,rfl,?_⟩
  apply Kd
  simp only[Ae,decide_eq_true_eq,jq,and_false,or_false,LU]
  omega
noncomputable def YV(m:Ia)(f t:Int):List Int×(Bool×Unit):=(Kk m f t).getD ([],false,())
theorem Wan(m:Ia)(f t:Int)(hz:Ja Xa m≤Da):Fg m f t=some (YV m f t)∧Kk m f t=some (YV m f t)∧(YV m f t).1.length≤16∧∀k∈(YV m f t).1,0≤k∧k≤32:=by
 have h20:Da=1048576:=rfl
 have key:∃v,Fg m f t=some v∧Kk m f t=some v∧v.1.length≤16∧∀k∈v.1,0≤k∧k≤32:=by
  obtain⟨b,e1,e2⟩:=K6 m f hz
  cases b with
  |false=>
   refine⟨([],false,()),?_,?_,by simp,by simp⟩
   ·unfold Fg;rw[e1];rfl
   ·unfold Kk;rw[e2];rfl
  |true=>
   obtain⟨b2,q1,q2⟩:=K6 m t hz
   cases b2 with
   |false=>
    refine⟨([],false,()),?_,?_,by simp,by simp⟩
    ·unfold Fg;rw[e1];simp only[jb,jg,zk];rw[q1];rfl
    ·unfold Kk;rw[e2];simp only[jb,jg,zk];rw[q2];rfl
   |true=>
    obtain⟨hv,hs⟩:=Uak hz e2
    obtain⟨_,ht⟩:=Uak hz q2
    refine⟨_,Tah (KN hv) hs ht,Cah (KN hv) hs ht,?_⟩
    cases hg:Ce (LR m f) t with
    |none=>exact⟨by simp,by simp⟩
    |some w=>
     obtain⟨j,hj,he⟩:=qk (VP hg)
     have hw:=Xan (KN hv) hs
     have h1:=hw.ln j hj
     rw[he]at h1
     have h2:=hw.len
     simp only at h1
     have h3:=(hw.way _ (VP hg)).2
     have h4:=L0 (KN hv)
     refine⟨by show w.length≤_;omega,fun k hk=>?_⟩
     have:=h3 k hk
     omega
 obtain⟨v,h1,h2,h3,h4⟩:=key
 have:YV m f t=v:=by unfold YV;rw[h2];rfl
 rw[this]
 exact⟨h1,h2,h3,h4⟩
noncomputable def Haf(s:Qa)(l:List Int):Qa×(List UInt8×Unit):=
 cond (!(YV s.1.1.1 (l.getD 0 0) (l.getD 1 0)).2.1) (s,[110,111],()) (s,jf Zb (Lib.join ((YV s.1.1.1 (l.getD 0 0) (l.getD 1 0)).1.map Lib.itoa) [32]),())
noncomputable def AY(s:Qa)(W:List (List UInt8))(w:List UInt8):Qa×(List UInt8×Unit):=cond (((ja W:Nat):Int)==1) (s,DU s w,()) (s,Za,())
noncomputable def Y5(s:Qa)(W:List (List UInt8))(w:List UInt8)(SL:List Int×(Bool×Unit)):Qa×(List UInt8×Unit):=
 cond (w==Jc) (cond (Cf W 1).2.1 (RC s (Lw s w (Cf W 1).1)) (s,Za,()))
 (cond (w==Ed) (cond (Cf W 3).2.1 (H4 s s.1.1.1 s.1.1.2.1 ((Cf W 3).1.getD 0 0,(Cf W 3).1.getD 1 0,(Cf W 3).1.getD 2 0,())) (s,Za,()))
 (cond (w==[119,97,121]) (cond SL.2.1 (Haf s SL.1) (AY s W w)) (AY s W w)))
noncomputable def PaB(s:Qa)(W:List (List UInt8))(w:List UInt8)(SL:List Int×(Bool×Unit)):Option (Qa×(List UInt8×Unit)):=
 (cond (w==Jc)
 (jz (Sg W (1:Int)) fun r17=>
 (cond r17.2.1
 (jz (Sl s w r17.1) fun r18=>
 (some (r18.1,r18.2.1,())))
 (some (s,Za,()))))
 (cond (w==Ed)
 (jz (Sg W (3:Int)) fun r19=>
 (cond r19.2.1
 (cond (Rb (ja r19.1) (0:Int))
 (jz r19.1[(jy (0:Int))]? fun x20=>
 (cond (Rb (ja r19.1) (1:Int))
 (jz r19.1[(jy (1:Int))]? fun x21=>
 (cond (Rb (ja r19.1) (2:Int))
 (jz r19.1[(jy (2:Int))]? fun x22=>
 (jz (Mn s.1.1.1 s.1.1.2.1 (x20,x21,x22,())) fun r23=>
 (jz (Ek s r23.1 r23.2.1) fun r24=>
 (some (r24.1,r24.2.1,())))))
 none))
 none))
 none)
 (some (s,Za,()))))
 (cond (w==([119,97,121]:List UInt8))
 (cond SL.2.1
 (cond (Rb (ja SL.1) (0:Int))
 (jz SL.1[(jy (0:Int))]? fun x25=>
 (cond (Rb (ja SL.1) (1:Int))
 (jz SL.1[(jy (1:Int))]? fun x26=>
 (jz (Kk s.1.1.1 x25 x26) fun r27=>
 (cond (!r27.2.1)
 (some (s,([110,111]:List UInt8),()))
 (jz (Zj (((),(),([]:List (List UInt8)),r27.1,((ja r27.1:Nat):Int),(0:Int),()),(s,(((((0:Int),([]:List (List Ma)),()),([]:List (List Ua)),(0:Int),([]:List Pa),(0:Int),false,()),((0:Int),(0:Int),(0:Int),()),([]:List Ya),(0:Int),(0:Int),(0:Int),(0:Int),()),([]:List Lc),()),()))) (Sum.elim (fun y36=>(jz (Mh y36.1.2.2.1 ([32]:List UInt8)) fun r38=>
 (cond (jx (ja Zb+ja r38.1) Wa)
 (some (((((y36.2.1.1.1.1.1,y36.2.1.1.1.1.2.1,()),y36.2.1.1.1.2),y36.2.1.1.2),y36.2.1.2.1,()),(jf Zb r38.1),()))
 none))) (fun z37=>none))))))
 none))
 none)
 (cond (((ja W:Nat):Int)==(1:Int))
 (jz (Dj s w) fun r39=>
 (some (s,r39.1,())))
 (some (s,Za,()))))
 (cond (((ja W:Nat):Int)==(1:Int))
 (jz (Dj s w) fun r40=>
 (some (s,r40.1,())))
 (some (s,Za,()))))))
theorem Q9{l:List Int}(h1:l.length≤16)(h2:∀k∈l,0≤k∧k≤32):(Lib.join (l.map Lib.itoa) [32]).length≤400:=by
 have hjl:=OK (l.map Lib.itoa) [32] 21 (fun x hx=>by
  obtain⟨k,hk,rfl⟩:=ql.1 hx
  have:=h2 k hk
  exact NK (by omega))
 rw[yu]at hjl
 simp only[jw,j6]at hjl
 omega
theorem VaA{s:Qa}(h:Oi s)(m:Ia)(M:List (List Ua))(t:Ua)(hz:Ja Mb (Wn m M)≤Da):
 (jz (Mn m M t) fun r=>jz (Ek s r.1 r.2.1) fun q=>some (q.1,q.2.1,()))=some (H4 s m M t):=by
 rw[Eah _ _ _ hz]
 simp only[jb]
 rw[Jab]
 rfl
theorem KaZ{W:List (List UInt8)}(h:(Cf W 1).2.1=true):(Cf W 1).1.length=1:=W8 (n:=1) h
theorem Iam{W:List (List UInt8)}(h:(Cf W 2).2.1=true):(Cf W 2).1.length=2:=W8 (n:=2) h
theorem LaZ{W:List (List UInt8)}(h:(Cf W 3).2.1=true):(Cf W 3).1.length=3:=W8 (n:=3) h
theorem KaV{s:Qa}(h:Oi s){W:List (List UInt8)}(hW:W.length≤100000000)(w:List UInt8):PaB s W w (Cf W 2)=some (Y5 s W w (Cf W 2)):=by
 have h20:Da=1048576:=rfl
 obtain⟨hE,hm,hq,hf,hn,hs⟩:=ZT h
 have hez:=Uaa hE
 have hone:(cond (((ja W:Nat):Int)==(1:Int)) (jz (Dj s w) fun r39=>(some (s,r39.1,()))) (some (s,Za,())))=some (AY s W w):=by
  unfold AY
  rw[Rad h]
  cases((ja W:Nat):Int)==(1:Int)<;>rfl
 unfold PaB Y5
 rw[show Sg W (1:Int)=some (Cf W 1)from NM W 1 hW (by omega),show Sg W (3:Int)=some (Cf W 3)from NM W 3 hW (by omega)]
 simp only[jb]
 cases hw:w==Jc with
 |true=>
  simp only[zj]
  cases hb:(Cf W 1).2.1 with
  |false=>rfl
  |true=>
   simp only[zj]
   rw[LM h (by rw[hw];exact KaZ hb)]
   rfl
 |false=>
 simp only[zk]
 cases w==Ed with
 |true=>
  simp only[zj]
  cases hb:(Cf W 3).2.1 with
  |false=>rfl
  |true=>
   simp only[zj]
   have h3:=LaZ hb
   generalize(Cf W 3).1=l at h3
   match l,h3 with
   |[a,b,c],_=>
    have hz:Ja Mb (Wn s.1.1.1 s.1.1.2.1)≤Da:=by
     rw[Pl]at hez⊢
     show Ja Xa s.1.1.1+(Ja (.sl (.sl Xb)) s.1.1.2.1+0)≤_
     omega
    exact VaA h s.1.1.1 s.1.1.2.1 (a,b,c,()) hz
 |false=>
 simp only[zk]
 cases w==([119,97,121]:List UInt8)with
 |false=>exact hone
 |true=>
  simp only[zj]
  cases hb:(Cf W 2).2.1 with
  |false=>exact hone
  |true=>
   simp only[zj]
   have h2:=Iam hb
   unfold Haf
   generalize(Cf W 2).1=l at h2
   match l,h2 with
   |[a,b],_=>
    obtain⟨_,e2,e3,e4⟩:=Wan s.1.1.1 a b (by omega)
    rw[show Rb (ja [a,b]) 0=true from rfl,show Rb (ja [a,b]) 1=true from rfl,show([a,b]:List Int)[jy 0]?=some a from rfl,show([a,b]:List Int)[jy 1]?=some b from rfl,
     show([a,b]:List Int).getD 0 0=a from rfl,show([a,b]:List Int).getD 1 0=b from rfl]
    simp only[zj,jb]
    rw[e2]
    simp only[jb]
    generalize YV s.1.1.1 a b=v at e3 e4
    cases v.2.1 with
    |false=>rfl
    |true=>
     simp only[jg,zk]
     obtain⟨v,vb⟩:=v
     simp only at e3 e4⊢
     have hl:=Yh (step:=fun x:(Unit×Unit×List (List UInt8)×List Int×Int×Int×Unit)×Qa×Qa×Unit=>Uz x.1.1 x.1.2.1 x.1.2.2.1 x.1.2.2.2.1 x.1.2.2.2.2.1 x.1.2.2.2.2.2.1 x.2.1 x.2.2.1) v Lib.itoa
      (fun o k=>(((),(),o,v,(v.length:Int),k,()),(s,(Eo,([]:List Lc),()),()))) (fun o=>.inl (((),(),o,()),(s,(Eo,([]:List Lc),()),()))) (by omega) (fun k hk2 o ho=>by
       have hx:=e4 v[k] (qj hk2)
       simp only[Uz]
       rw[Ba (by omega),Ve,Ba hk2]
       simp only[zj,jn]
       rw[je hk2]
       simp only[jb]
       rw[Mp (by omega)]
       simp only[jb]
       rw[Ob (by simp only[jw,j6];omega)]
       rfl) (fun o=>by
       simp only[Uz]
       rw[Aa (by omega)]
       rfl)
     unfold Zj
     erw[hl]
     simp only[jb,qg]
     have hjl:=Q9 e3 e4
     rw[Sm (by simp;omega) (by omega)]
     simp only[jb]
     rw[Ob (by simp only[Zb,jw,j6];omega)]
     rfl
noncomputable def Gaj(s:Qa)(r:List UInt8):Qa×(List UInt8×Unit):=cond (!(Lm r).2.1) (s,[110,111],()) (H4 s (Lm r).1 s.1.1.2.1 s.1.2.1)
noncomputable def FaA(s:Qa)(r:List UInt8):Qa×(List UInt8×Unit):=cond (!(Gl r).2.1) (s,[110,111],()) (H4 s s.1.1.1 (jf s.1.1.2.1 [(Gl r).1]) s.1.2.1)
noncomputable def BO(s:Qa)(W:List (List UInt8)):Qa×(List UInt8×Unit):=
 cond ((W.getD 0 []==Ad||W.getD 0 []==[117,112])&&(Cf W 2).2.1) (RC s (Lw s (W.getD 0 []) (Cf W 2).1)) (Y5 s W (W.getD 0 []) (Cf W 2))
noncomputable def doI(s:Qa)(t:List UInt8):Qa×(List UInt8×Unit):=
 cond (t==([]:List UInt8)) (s,[],()) (cond (((UInt8.toNat (t.getD 0 0):Nat):Int)==35) (s,[],())
  (cond (As t Pk) (Gaj s (t.drop 5)) (cond (As t Qk) (FaA s (t.drop 6)) (BO s (Wb 32 [] t)))))
theorem Lae{s:List UInt8}(h:(Lm s).2.1=true):Uc (Lm s).1=true:=by
 unfold Lm at h⊢
 revert h
 cases Cb (fun _ m p=>KD m p) 0 Bh (Lib.split s [32,124,32])with
 |inr u=>intro h;simp at h
 |inl m=>
  simp only
  cases hm:Uc m with
  |false=>intro h;simp at h
  |true=>
   cases Kw m !=s with
   |true=>intro h;simp at h
   |false=>intro _;exact hm
theorem MaP{m:Ia}(h:Uc m=true):Ja Xa m≤200:=by
 have hm:=Be h
 have h1:Ja Xa m=0+(Ja (.sl (.sl Db)) m.2.1+0):=rfl
 have h2:Ja (.sl (.sl Db)) m.2.1≤(32+1)*ja m.2.1:=CU (e:=.sl Db) (c:=32) fun x hx=>by
  obtain⟨i,hi,rfl⟩:=qk hx
  rw[W4]
  have:=hm.row i hi
  have:=hm.k2
  omega
 have:=hm.l2
 omega
theorem GaF{M:List (List Ua)}(h4:M.length≤5)(h:∀x∈M,Kc x=true):Ja (.sl (.sl Xb)) M≤45:=by
 have h2:Ja (.sl (.sl Xb)) M≤(8+1)*M.length:=CU (e:=.sl Xb) (c:=8) fun x hx=>by
  have:=ZY (h x hx)
  have e2:Ja (.sl Xb) x=x.length:=Lp (e:=Xb) rfl x
  omega
 omega
theorem Y2{m:Ia}{M:List (List Ua)}(hm:Ja Xa m≤400)(h4:M.length≤5)(h:∀x∈M,Kc x=true):Ja Mb (Wn m M)≤Da:=by
 have h20:Da=1048576:=rfl
 have:=GaF h4 h
 rw[Pl]
 show Ja Xa m+(Ja (.sl (.sl Xb)) M+0)≤_
 omega
theorem EaH{s:Qa}(h:Oi s)(W:List (List UInt8)):Oi (BO s W).1∧(BO s W).2.1.length≤73000:=by
 unfold BO
 generalize W.getD 0 []=w
 have hone:Oi (AY s W w).1∧(AY s W w).2.1.length≤73000:=by
  unfold AY
  have:=CaH h w
  cases((ja W:Nat):Int)==1
  ·exact⟨h,by show Za.length≤_;simp[Za]⟩
  ·exact⟨h,by show(DU s w).length≤_;omega⟩
 cases(w==Ad||w==[117,112])&&(Cf W 2).2.1 with
 |true=>exact HaD h
 |false=>
  simp only[zk]
  unfold Y5
  cases w==Jc with
  |true=>
   cases(Cf W 1).2.1
   ·exact⟨h,by show Za.length≤_;simp[Za]⟩
   ·exact HaD h
  |false=>
  cases w==Ed with
  |true=>
   cases(Cf W 3).2.1
   ·exact⟨h,by show Za.length≤_;simp[Za]⟩
   ·have:=Wam h s.1.1.1 s.1.1.2.1 ((Cf W 3).1.getD 0 0,(Cf W 3).1.getD 1 0,(Cf W 3).1.getD 2 0,())
    exact⟨this.1,qa this.2 (by omega)⟩
  |false=>
  cases w==([119,97,121]:List UInt8)with
  |false=>exact hone
  |true=>
  cases(Cf W 2).2.1 with
  |false=>exact hone
  |true=>
   simp only[zj,zk]
   unfold Haf
   obtain⟨_,_,e3,e4⟩:=Wan s.1.1.1 ((Cf W 2).1.getD 0 0) ((Cf W 2).1.getD 1 0) (by have:=(ZT h).mz;have:Da=1048576:=rfl;omega)
   have:=Q9 e3 e4
   cases(YV s.1.1.1 ((Cf W 2).1.getD 0 0) ((Cf W 2).1.getD 1 0)).2.1
   ·exact⟨h,by show(2:Nat)≤_;omega⟩
   ·refine⟨h,?_⟩
    show(jf Zb _).length≤_
    rw[zh,qd,show Zb.length=4 from rfl]
    omega
theorem RaX{s:Qa}(h:Oi s)(t:List UInt8):Oi (doI s t).1∧(doI s t).2.1.length≤73000:=by
 unfold doI
 cases t==([]:List UInt8)with
 |true=>exact⟨h,zd _⟩
 |false=>
 cases((UInt8.toNat (t.getD 0 0):Nat):Int)==35 with
 |true=>exact⟨h,zd _⟩
 |false=>
 cases As t Pk with
 |true=>
  simp only[zj,zk]
  unfold Gaj
  cases(Lm (t.drop 5)).2.1
  ·exact⟨h,by show(2:Nat)≤_;omega⟩
  ·have:=Wam h (Lm (t.drop 5)).1 s.1.1.2.1 s.1.2.1
   exact⟨this.1,qa this.2 (by omega)⟩
 |false=>
 cases As t Qk with
 |true=>
  simp only[zj,zk]
  unfold FaA
  cases(Gl (t.drop 6)).2.1
  ·exact⟨h,by show(2:Nat)≤_;omega⟩
  ·have:=Wam h s.1.1.1 (jf s.1.1.2.1 [(Gl (t.drop 6)).1]) s.1.2.1
   exact⟨this.1,qa this.2 (by omega)⟩
 |false=>exact EaH h _
theorem Oad{s:Qa}(h:Oi s){t:List UInt8}(ht:t.length≤1048576):Aw s t=some (doI s t):=by
 have h20:Da=1048576:=rfl
 have hz:=BaB h
 have hF:=ZT h
 have hsd:=Raa h.d
 unfold Aw doI
 rw[(MS s (by omega)).2,(Pae s).2 h]
 simp only[jb,jg,zk]
 rw[HO (by omega) (by have:=hF.sz;omega)]
 simp only[jb]
 cases he:t==([]:List UInt8)with
 |true=>rfl
 |false=>
 have hne:t≠[]:=by simpa using he
 obtain⟨c,l,rfl⟩:=List.exists_cons_of_ne_nil hne
 simp only[zk]
 rw[show Ib (c::l) 0=some c from rfl,show(c::l).getD 0 0=c from rfl]
 simp only[jb]
 cases((UInt8.toNat c:Nat):Int)==35 with
 |true=>rfl
 |false=>
 simp only[zk]
 rw[EM]
 simp only[jb]
 cases hp:As (c::l) Pk with
 |true=>
  simp only[zj]
  have hd:((c::l).drop 5).length≤1048571:=by rw[qn];omega
  unfold Gaj
  rw[show Pk.length=5 from rfl]
  rw[B2 hd]
  simp only[jb]
  cases hb:(Lm ((c::l).drop 5)).2.1 with
  |false=>rfl
  |true=>
   simp only[jg,zk]
   exact VaA h _ _ _ (Y2 (by have:=MaP (Lae hb);omega) (by have:=hF.e.m4;omega) hF.e.mac)
 |false=>
 simp only[zk]
 rw[EM]
 simp only[jb]
 cases hp:As (c::l) Qk with
 |true=>
  simp only[zj]
  have hd:((c::l).drop 6).length≤1048571:=by rw[qn];omega
  unfold FaA
  rw[show Qk.length=6 from rfl]
  rw[O3 hd]
  simp only[jb]
  cases hb:(Gl ((c::l).drop 6)).2.1 with
  |false=>rfl
  |true=>
   simp only[jg,zk]
   have hm4:=hF.e.m4
   have:=GaF (by omega) hF.e.mac
   rw[QE _ (by omega)]
   simp only[jb]
   rw[Ob (by simp only[jw,j6];omega)]
   simp only[zj]
   refine VaA h _ _ _ (Y2 (by have:=hF.mz;omega) (by rw[zh,qd];simp only[jw,j6];omega) fun x hx=>?_)
   rcases jl.1 (show x∈s.1.1.2.1++[(Gl ((c::l).drop 6)).1]from hx)with hx|hx
   ·exact hF.e.mac x hx
   ·rw[qc.1 hx];exact Kae hb
 |false=>
 simp only[zk]
 rw[XS 32 (by omega)]
 simp only[jb]
 have hl:=Gz 32 (c::l) []
 have hne2:=RL 32 (c::l) []
 generalize Wb 32 [] (c::l)=W at hl hne2
 have hW:W.length≤100000000:=by omega
 obtain⟨w,W',rfl⟩:=List.exists_cons_of_ne_nil hne2
 rw[show Rb (ja (w::W')) 0=true from by simp[Rb],show(w::W')[jy 0]?=some w from rfl,show Sg (w::W') (2:Int)=some (Cf (w::W') 2)from NM _ 2 hW (by omega)]
 simp only[zj,jb]
 have htl:=KaV h hW w
 unfold PaB at htl
 unfold BO
 rw[show(w::W').getD 0 []=w from rfl]
 cases hd:w==Ad with
 |true=>
  simp only[zj,Bool.true_or,jk]
  cases hb:(Cf (w::W') 2).2.1 with
  |true=>
   simp only[zj]
   rw[LM h (by
    have:(w==Jc)=false:=by rw[eq_of_beq hd];decide
    rw[this];exact Iam hb)]
   rfl
  |false=>rw[hb]at htl;exact htl
 |false=>
  simp only[zk,yw]
  cases hu:w==([117,112]:List UInt8)with
  |true=>
   simp only[zj,jk]
   cases hb:(Cf (w::W') 2).2.1 with
   |true=>
    simp only[zj]
    rw[LM h (by
     have:(w==Jc)=false:=by rw[eq_of_beq hu];decide
     rw[this];exact Iam hb)]
    rfl
   |false=>rw[hb]at htl;exact htl
  |false=>
   simp only[zk,qi]
   exact htl

theorem Gan{m:Ia}(hm:FE m){i:Nat}(hi:i<m.2.1.length)(o:List (List UInt8)):
 Vl (((),o,(i:Int),([]:List (List UInt8)),(0:Int),()),(m,()))=some (.inl (((),o,(i:Int),m.2.1[i].map Rf,()),(m,()))):=by
 have hrow:=hm.row i hi
 have hk2:=hm.k2
 have hk1:=hm.k1
 have hkl:m.1=((m.2.1[i].length:Nat):Int):=by omega
 have hl:=Yh (step:=fun x:(Unit×List (List UInt8)×Int×List (List UInt8)×Int×Unit)×Ia×Unit=>Vo x.1.1 x.1.2.1 x.1.2.2.1 x.1.2.2.2.1 x.1.2.2.2.2.1 x.2.1) m.2.1[i] Rf
  (fun w k=>(((),o,(i:Int),w,k,()),(m,()))) (fun w=>.inl (((),o,(i:Int),w,()),(m,()))) (by omega) (fun k hk w hw=>by
   simp only[Vo]
   rw[Ba (by omega),Nb hi]
   simp only[zj,jb]
   rw[Nb hk]
   simp only[jb]
   rw[ON]
   simp only[jb]
   rw[Ob (by simp only[jw,j6];omega)]
   rfl) (fun w=>by
   simp only[Vo]
   rw[Aa (by omega)]
   rfl)
 unfold Vl
 exact hl
theorem B1{m:Ia}(hz:Ja Xa m≤Da):Cx m=some (Kw m,()):=by
 have h20:Da=1048576:=rfl
 unfold Cx Kw
 cases hv:Uc m with
 |false=>
  have hst:Aj (((),([]:List (List UInt8)),(0:Int),()),(m,()))=some (.inl ((([]:List (List UInt8)),()),())):=by
   unfold Aj
   refine(Vb (z:=some (Sum.inr (.inl ((([]:List (List UInt8)),()),())))) ?_).trans rfl
   simp only[Al]
   rw[Sk m hz,hv]
   cases decide ((0:Int)<((ja m.2.1:Nat):Int))<;>rfl
  rw[hst]
  simp only[jb,qg]
  rw[Tk (by simp) (by simp[Lib.join])]
  rfl
 |true=>
  have hm:=Be hv
  have hl2:=hm.l2
  have hl:=Yh (step:=fun x:(Unit×List (List UInt8)×Int×Unit)×Ia×Unit=>Al x.1.1 x.1.2.1 x.1.2.2.1 x.2.1) m.2.1 FC
   (fun w k=>(((),w,k,()),(m,()))) (fun w=>.inl ((w,()),())) (by omega) (fun k hk w hw=>by
    simp only[Al]
    rw[Ba (by omega),Sk m hz,hv]
    simp only[zj,jb]
    rw[Gan hm hk]
    simp only[jb,qg]
    have hrow:=hm.row k hk
    have hk2:=hm.k2
    have hj:(Lib.join (m.2.1[k].map Rf) [32]).length≤51*m.2.1[k].length:=X0 m.2.1[k]
    rw[Tk (by simp;omega) (by omega)]
    simp only[jb]
    rw[Ob (by simp only[jw,j6];omega)]
    rfl) (fun w=>by
    simp only[Al]
    rw[Aa (by omega)]
    rfl)
  unfold Aj
  erw[hl]
  simp only[jb,qg]
  have hlen:= @Bam m
  unfold Kw at hlen
  rw[hv]at hlen
  simp only[zj]at hlen
  rw[Tk (by simp;omega) (by omega)]
  rfl
def Om(b:UInt8)(l:List UInt8):Prop:=∀c∈l,c≠b
theorem Qp{b:UInt8}{x y:List UInt8}(hx:Om b x)(hy:Om b y):Om b (x++y):=fun c hc=>(jl.1 hc).elim (hx c) (hy c)
theorem LN(b:UInt8):Om b []:=fun c hc=>by simp at hc
theorem B4(b:UInt8)(l:List UInt8)(h:l.all (· !=b)=true):Om b l:=fun c hc=>by
 have:=yz.1 h c hc
 simpa using this
theorem St{b:UInt8}{p:Bool}{x y:List UInt8}(hx:Om b x)(hy:Om b y):Om b (cond p x y):=by cases p<;>assumption
theorem PaU{b:UInt8}{sep:List UInt8}(hs:Om b sep):∀{l:List (List UInt8)},(∀x∈l,Om b x)→Om b (Lib.join l sep)
 |[],_=>LN b
 |x::r,h=>by
  rw[Lib.join_cons]
  refine Qp (h x (by simp)) ?_
  have key:∀r:List (List UInt8),(∀x∈r,Om b x)→Om b (Lib.joinTail sep r):=by
   intro r
   induction r with
   |nil=>intro _;exact LN b
   |cons y r ih=>
    intro h
    exact Qp (Qp hs (h y (by simp))) (ih fun x hx=>h x (jr _ hx))
  exact key r fun x hx=>h x (jr _ hx)
theorem Hak:∀(v:Nat),∀c∈Lib.decDigits v,48≤c.toNat∧c.toNat≤57:=by
 intro v
 induction v using Nat.strongRecOn with
 |_ v ih=>
 intro c hc
 by_cases h:v<10
 ·rw[V2 v h]at hc
  rw[qc.1 hc]
  have:v=0∨v=1∨v=2∨v=3∨v=4∨v=5∨v=6∨v=7∨v=8∨v=9:=by omega
  rcases this with rfl|rfl|rfl|rfl|rfl|rfl|rfl|rfl|rfl|rfl<;>decide
 ·rw[P5 v h]at hc
  rcases jl.1 hc with hc|hc
  ·exact ih (v/10) (by omega) c hc
  ·rw[qc.1 hc]
   have hd:v%10<10:=Nat.mod_lt _ (by omega)
   generalize v%10=d at hd
   have:d=0∨d=1∨d=2∨d=3∨d=4∨d=5∨d=6∨d=7∨d=8∨d=9:=by omega
   rcases this with rfl|rfl|rfl|rfl|rfl|rfl|rfl|rfl|rfl|rfl<;>decide
theorem OaU{b:UInt8}(hb:b.toNat<45∨57<b.toNat)(n:Int):Om b (Lib.itoa n):=by
 intro c hc
 unfold Lib.itoa at hc
 have key:45≤c.toNat∧c.toNat≤57:=by
  split at hc
  ·rcases jp.1 hc with h|h
   ·subst h;decide
   ·have:=Hak _ c h;omega
  ·have:=Hak _ c hc;omega
 rintro rfl
 omega
theorem KaF:∀c:Fin 57,(Lg (c.val:Int)).all (fun x=>x !=10&&(x !=32&&x !=124))=true:=by decide+kernel
theorem PaJ:∀c:Fin 16,(Zg (c.val:Int)).all (fun x=>x !=10&&(x !=32&&x !=124))=true:=by decide+kernel
theorem QaJ{c:Int}(h:¬(1≤c∧c≤56)):Lg c=[]:=by
 unfold Lg
 rw[Aa h];rfl
theorem Fae(c:Int):Om 10 (Lg c)∧Om 32 (Lg c)∧Om 124 (Lg c):=by
 by_cases h:1≤c∧c≤56
 ·have:=KaF ⟨c.toNat,by omega⟩
  rw[show((⟨c.toNat,by omega⟩:Fin 57).val:Int)=c by simp;omega]at this
  rw[yz]at this
  refine⟨fun x hx=>?_,fun x hx=>?_,fun x hx=>?_⟩<;>(have:=this x hx;simp only[jd,bne_iff_ne]at this;first|exact this.1|exact this.2.1|exact this.2.2)
 ·rw[QaJ h];exact⟨LN _,LN _,LN _⟩
theorem Eae(c:Int):Om 10 (Zg c)∧Om 32 (Zg c)∧Om 124 (Zg c):=by
 by_cases h:1≤c∧c≤15
 ·have:=PaJ ⟨c.toNat,by omega⟩
  rw[show((⟨c.toNat,by omega⟩:Fin 16).val:Int)=c by simp;omega]at this
  rw[yz]at this
  refine⟨fun x hx=>?_,fun x hx=>?_,fun x hx=>?_⟩<;>(have:=this x hx;simp only[jd,bne_iff_ne]at this;first|exact this.1|exact this.2.1|exact this.2.2)
 ·rw[KV h];exact⟨LN _,LN _,LN _⟩
theorem NaU{b:UInt8}(hb:b=10∨b=32∨b=124)(a:Ma):Om b (KH a):=by
 have hi:∀n,Om b (Lib.itoa n):=fun n=>OaU (by rcases hb with rfl|rfl|rfl<;>decide) n
 have hn:∀c,Om b (Lg c):=fun c=>hb.elim (fun e=>e▸(Fae c).1) fun h=>h.elim (fun e=>e▸(Fae c).2.1) fun e=>e▸(Fae c).2.2
 have hm:∀c,Om b (Zg c):=fun c=>hb.elim (fun e=>e▸(Eae c).1) fun h=>h.elim (fun e=>e▸(Eae c).2.1) fun e=>e▸(Eae c).2.2
 have hd:∀l:List UInt8,l.all (fun x=>x !=10&&(x !=32&&x !=124))=true→Om b l:=fun l hl x hx=>by
  have:=yz.1 hl x hx
  simp only[jd,bne_iff_ne]at this
  exact hb.elim (fun e=>e▸this.1) fun h=>h.elim (fun e=>e▸this.2.1) fun e=>e▸this.2.2
 unfold KH
 refine St (hd _ (by decide)) (St (hd _ (by decide)) (St (Qp (hd _ (by decide)) (hi _)) (St (Qp (hd _ (by decide)) (hi _)) (St (Qp (hd _ (by decide)) (hi _)) (St (Qp (Qp (hm _) (hd _ (by decide))) (hn _))
  (St (Qp (Qp (hi _) (hd _ (by decide))) (hn _)) (St (Qp (hd _ (by decide)) (hm _)) (St (Qp (hd _ (by decide)) (hi _)) (St (hd _ (by decide)) (St (hn _) (Qp (Qp (hm _) (hd _ (by decide))) (hn _))))))))))))
theorem GU{b:UInt8}(hb:b=10∨b=32∨b=124)(a:Ma):Om b (Rf a):=St (NaU hb a) (LN b)
theorem HX{b:UInt8}:∀(x rest cur:List UInt8),Om b x→Wb (b.toNat:Int) cur (x++rest)=Wb (b.toNat:Int) (cur++x) rest
 |[],rest,cur,_=>by simp
 |c::x,rest,cur,h=>by
  have hc:(((UInt8.toNat c:Nat):Int)==(b.toNat:Int))=false:=by
   have:=h c (by simp)
   rw[beq_eq_false_iff_ne]
   intro e
   exact this (UInt8.toNat_inj.1 (by omega))
  rw[yj,Wb,hc,zk,HX x rest (cur++[c]) fun y hy=>h y (jr _ hy)]
  simp

theorem Saf(c:UInt8):∀(l:List UInt8) (v:Int),Pz (l++[c]) v=(Pz l v).bind fun w=>Pz [c] w
 |[],v=>by simp[Pz]
 |x::l,v=>by
  simp only[yj,Pz]
  cases(decide (((UInt8.toNat x:Nat):Int)<48)||decide (((UInt8.toNat x:Nat):Int)>57))with
  |true=>rfl
  |false=>
   simp only[zk]
   rw[Saf c l]
   rfl
theorem Raf(c:UInt8):∀(l:List UInt8) (v:Nat),Lib.decFrom v (l++[c])=(Lib.decFrom v l).bind fun w=>Lib.decFrom w [c]
 |[],v=>by simp[Lib.decFrom]
 |x::l,v=>by
  simp only[yj,Lib.decFrom]
  cases Lib.digitVal x with
  |none=>rfl
  |some d=>exact Raf c l _
theorem Caq{d:Nat}(h:d<10):(UInt8.ofNat (48+d)).toNat=48+d:=by
 have:d=0∨d=1∨d=2∨d=3∨d=4∨d=5∨d=6∨d=7∨d=8∨d=9:=by omega
 rcases this with rfl|rfl|rfl|rfl|rfl|rfl|rfl|rfl|rfl|rfl<;>rfl
theorem Jak{d:Nat}(h:d<10)(w:Int):Pz [UInt8.ofNat (48+d)] w=some (10*w+(d:Int)):=by
 simp only[Pz]
 rw[Caq h,Aa (show¬((48+d:Nat):Int)<48 by omega),Aa (show¬((48+d:Nat):Int)>57 by omega)]
 simp only[Bool.or_false,zk]
 congr 1;omega
theorem Iak{d:Nat}(h:d<10)(w:Nat):Lib.decFrom w [UInt8.ofNat (48+d)]=some (w*10+d):=by
 simp only[Lib.decFrom,Lib.digitVal]
 rw[Caq h,if_pos (by omega)]
 simp
theorem CaQ:∀u:Nat,Pz (Lib.decDigits u) 0=some (u:Int):=by
 intro u
 induction u using Nat.strongRecOn with
 |_ u ih=>
 by_cases h:u<10
 ·rw[V2 u h,Jak h];simp
 ·rw[P5 u h,Saf,ih (u/10) (by omega)]
  simp only[jb]
  rw[Jak (Nat.mod_lt _ (by omega))]
  congr 1;omega
theorem BaQ:∀u:Nat,Lib.decFrom 0 (Lib.decDigits u)=some u:=by
 intro u
 induction u using Nat.strongRecOn with
 |_ u ih=>
 by_cases h:u<10
 ·rw[V2 u h,Iak h];simp
 ·rw[P5 u h,Raf,ih (u/10) (by omega)]
  simp only[jb]
  rw[Iak (Nat.mod_lt _ (by omega))]
  congr 1;omega
theorem JaF:∀(k u:Nat),1≤k→u<10^k→Lib.nDigits u≤k
 |0,_,h,_=>by omega
 |k+1,u,_,hu=>by
  by_cases h:u<10
  ·rw[Lib.nDigits_small h];omega
  ·rw[Lib.nDigits_big h]
   rw[Nat.pow_succ]at hu
   have hk:1≤k:=by
    rcases Nat.eq_zero_or_pos k with rfl|h0
    ·simp at hu;omega
    ·exact h0
   have:=JaF k (u/10) hk (by omega)
   omega
theorem Aaq{u:Nat}(h:u≤999999999):1≤(Lib.decDigits u).length∧(Lib.decDigits u).length≤9:=by
 rw[Lib.decDigits_length]
 exact⟨Lib.nDigits_pos u,JaF 9 u (by omega) (by omega)⟩
theorem Zap(u:Nat):∃c r,Lib.decDigits u=c::r∧48≤c.toNat∧c.toNat≤57:=by
 have h1:=Lib.nDigits_pos u
 have h2:=Lib.decDigits_length u
 cases hd:Lib.decDigits u with
 |nil=>rw[hd]at h2;simp at h2;omega
 |cons c r=>
  have:=Hak u c (by rw[hd];simp)
  exact⟨c,r,rfl,this.1,this.2⟩
def AaL:Int×(Bool×Unit):=((0:Int),false,())
def InB(n:Int):Prop:=-999999999≤n∧n≤999999999
theorem Zab(t s:List UInt8):HF t s=AaL∨∃n,InB n∧Lib.itoa n=s∧HF t s=(n,true,()):=by
 have hb:=XaU t s
 unfold HF at hb⊢
 by_cases h1:((ja t:Nat):Int)<1
 ·rw[Ba h1];exact .inl rfl
 by_cases h2:((ja t:Nat):Int)>9
 ·rw[Aa h1,Ba h2];exact .inl rfl
 rw[Aa h1,Aa h2]at hb⊢
 simp only[zk]at hb⊢
 revert hb
 cases Pz t 0 with
 |none=>intro _;exact .inl rfl
 |some v=>
  simp only
  generalize cond (decide (((ja t:Nat):Int)<((ja s:Nat):Int))) (-v) v=n
  cases hn:Lib.itoa n !=s with
  |true=>intro _;exact .inl rfl
  |false=>
   intro hb
   exact .inr ⟨n,hb,by simpa using hn,rfl⟩
theorem Qam(s:List UInt8):Rp s=AaL∨∃n,InB n∧Lib.itoa n=s∧Rp s=(n,true,()):=by
 cases s with
 |nil=>exact .inl rfl
 |cons c l=>
  simp only[Rp]
  cases((UInt8.toNat c:Nat):Int)==45
  ·simp only[zk];exact Zab _ _
  ·simp only[zj];exact Zab _ _
theorem Tao(s:List UInt8):Oj s=AaL∨∃n,InB n∧Lib.itoa n=s∧Oj s=(n,true,()):=by
 unfold Oj
 cases(yd (ja s) 1||yd 10 (ja s))with
 |true=>exact .inl rfl
 |false=>
  simp only[zk]
  cases Lib.atoi s with
  |none=>exact .inl rfl
  |some n=>
   simp only
   by_cases h1:n< -999999999
   ·rw[Ba h1];exact .inl rfl
   by_cases h2:n>999999999
   ·rw[Aa h1,Ba h2];exact .inl rfl
   rw[Aa h1,Aa h2]
   cases hn:Lib.itoa n !=s with
   |true=>exact .inl rfl
   |false=>exact .inr ⟨n,⟨by omega,by omega⟩,by simpa using hn,rfl⟩
theorem Sao{n:Int}(h:InB n):Rp (Lib.itoa n)=(n,true,()):=by
 unfold InB at h
 obtain⟨l1,l2⟩:=Aaq (u:=n.natAbs) (by omega)
 have hg:=CaQ n.natAbs
 by_cases h0:n<0
 ·have e:Lib.itoa n=45::Lib.decDigits n.natAbs:=by unfold Lib.itoa;rw[if_pos h0]
  rw[e]
  simp only[Rp]
  rw[show(((UInt8.toNat 45:Nat):Int)==45)=true from rfl,zj]
  unfold HF
  rw[Aa (by omega),Aa (by omega),hg]
  simp only[zk]
  rw[Ba (by rw[jw];omega)]
  simp only[zj]
  rw[show-((n.natAbs:Nat):Int)=n by omega,e]
  simp
 ·have e:Lib.itoa n=Lib.decDigits n.natAbs:=by unfold Lib.itoa;rw[if_neg h0,show n.toNat=n.natAbs by omega]
  obtain⟨c,r,hd,hc1,hc2⟩:=Zap n.natAbs
  have key:HF (Lib.itoa n) (Lib.itoa n)=(n,true,()):=by
   unfold HF
   rw[e,Aa (by omega),Aa (by omega),hg]
   simp only[zk]
   rw[Aa (by omega)]
   simp only[zk]
   rw[show((n.natAbs:Nat):Int)=n by omega,e]
   simp
  rw[e,hd]at key⊢
  simp only[Rp]
  rw[show(((UInt8.toNat c:Nat):Int)==45)=false by rw[beq_eq_false_iff_ne];omega,zk]
  exact key
theorem Aac{n:Int}(h:InB n):Oj (Lib.itoa n)=(n,true,()):=by
 unfold InB at h
 obtain⟨l1,l2⟩:=Aaq (u:=n.natAbs) (by omega)
 have hg:=BaQ n.natAbs
 obtain⟨c,r,hd,hc1,hc2⟩:=Zap n.natAbs
 have hN:Lib.decNat (Lib.decDigits n.natAbs)=some n.natAbs:=by
  unfold Lib.decNat
  rw[if_neg (by rw[hd];simp)]
  exact hg
 have key:(1≤(Lib.itoa n).length∧(Lib.itoa n).length≤10)∧Lib.atoi (Lib.itoa n)=some n:=by
  by_cases h0:n<0
  ·have e:Lib.itoa n=45::Lib.decDigits n.natAbs:=by unfold Lib.itoa;rw[if_pos h0]
   rw[e]
   refine⟨by rw[jw];omega,?_⟩
   simp only[Lib.atoi]
   rw[if_pos (by rfl),hN]
   simp only[qb,jc]
   omega
  ·have e:Lib.itoa n=Lib.decDigits n.natAbs:=by unfold Lib.itoa;rw[if_neg h0,show n.toNat=n.natAbs by omega]
   rw[e]
   refine⟨by omega,?_⟩
   rw[hd]at hN⊢
   simp only[Lib.atoi]
   have n45:¬(c==45)=true:=by intro he;rw[eq_of_beq he]at hc1;exact absurd hc1 (by decide)
   have n43:¬(c==43)=true:=by intro he;rw[eq_of_beq he]at hc1;exact absurd hc1 (by decide)
   rw[if_neg n45,if_neg n43,hN]
   simp only[qb,jc]
   omega
 obtain⟨⟨k1,k2⟩,k3⟩:=key
 unfold Oj
 rw[show(yd (ja (Lib.itoa n)) 1||yd 10 (ja (Lib.itoa n)))=false by
  rw[yv]
  exact⟨by rw[←j9,yg];omega,by rw[←j9,yg];omega⟩,zk,k3]
 simp only
 rw[Aa (by omega),Aa (by omega)]
 simp
theorem QaA(s:List UInt8):Rp s=Oj s:=by
 rcases Qam s with h1|⟨n,hn,hs,h1⟩
 ·rcases Tao s with h2|⟨m,hm,hs2,h2⟩
  ·rw[h1,h2]
  ·rw[←hs2,Sao hm,Aac hm]
 ·rw[h1,←hs,Aac hn]
noncomputable def UX(k c m n:Int):Bool:=(UR (KH (k,c,m,n,()))==(k,c,m,n,()))&&(HB (KH (k,c,m,n,()))==(k,c,m,n,()))
theorem UaC:((([0,1,10]:List Int).all fun k=>UX k 0 0 0)&&(([3,4]:List Int).all fun k=>([1,2,3]:List Int).all fun n=>UX k 0 0 n)&&(([5,9]:List Int).all fun k=>([0,1,2,3]:List Int).all fun n=>UX k 0 0 n)&&
 ((zb 15).all fun m=>UX 8 0 (m+1:Nat) 0)&&((zb 56).all fun c=>([1,2,3]:List Int).all fun n=>UX 7 (c+1:Nat) 0 n)&&((zb 15).all fun m=>UX 2 0 (m+1:Nat) 0))=true:=by
 decide+kernel
theorem YaP:((zb 56).all fun c=>(zb 16).all fun m=>UX 2 (c+1:Nat) (m:Int) 0)=true:=by decide+kernel
theorem ZaP:((zb 56).all fun c=>(zb 15).all fun m=>UX 6 (c+1:Nat) (m+1:Nat) 0)=true:=by decide+kernel
theorem PaX{k c m n:Int}(h:UX k c m n=true):UR (KH (k,c,m,n,()))=(k,c,m,n,())∧HB (KH (k,c,m,n,()))=(k,c,m,n,()):=by
 unfold UX at h
 simp only[jd]at h
 exact⟨eq_of_beq h.1,eq_of_beq h.2⟩
theorem EU{l:List Int}{p:Int→Bool}(h:l.all p=true){x:Int}(hx:x∈l):p x=true:=yz.1 h x hx
theorem YO{n:Nat}{p:Nat→Bool}(h:(zb n).all p=true){x:Nat}(hx:x<n):p x=true:=yz.1 h x (List.mem_range.2 hx)
theorem GW{a:Ma}(h:Ub a=true):UR (KH a)=a∧HB (KH a)=a:=by
 have hs:=UaC
 simp only[jd]at hs
 obtain⟨⟨⟨⟨⟨s1,s2⟩,s3⟩,s4⟩,s5⟩,s6⟩:=hs
 rw[Yb]at h
 obtain⟨k,c,m,n,⟨⟩⟩:=a
 refine PaX ?_
 simp only at h
 rcases h with⟨hk,rfl,rfl,rfl⟩|⟨rfl,rfl,hc,hm,hcm⟩|⟨hk,rfl,rfl,hn⟩|⟨hk,rfl,rfl,hn⟩|⟨rfl,h1,h2,h3,h4,rfl⟩|⟨rfl,h1,h2,rfl,h3,h4⟩|⟨rfl,rfl,h1,h2,rfl⟩
 ·exact EU s1 (by simp;omega)
 ·by_cases h0:c=0
  ·subst h0
   have:=YO s6 (x:=m.toNat-1) (by omega)
   rw[show((m.toNat-1+1:Nat):Int)=m by omega]at this
   exact this
  ·have:=YO (YO YaP (x:=c.toNat-1) (by omega)) (x:=m.toNat) (by omega)
   rw[show((c.toNat-1+1:Nat):Int)=c by omega,show((m.toNat:Nat):Int)=m by omega]at this
   exact this
 ·exact EU (EU s2 (x:=k) (by simp;omega)) (by simp;omega)
 ·exact EU (EU s3 (x:=k) (by simp;omega)) (by simp;omega)
 ·have:=YO (YO ZaP (x:=c.toNat-1) (by omega)) (x:=m.toNat-1) (by omega)
  rw[show((c.toNat-1+1:Nat):Int)=c by omega,show((m.toNat-1+1:Nat):Int)=m by omega]at this
  exact this
 ·have:=EU (YO s5 (x:=c.toNat-1) (by omega)) (x:=n) (by simp;omega)
  rw[show((c.toNat-1+1:Nat):Int)=c by omega]at this
  exact this
 ·have:=YO s4 (x:=m.toNat-1) (by omega)
  rw[show((m.toNat-1+1:Nat):Int)=m by omega]at this
  exact this
theorem Rap{a:Ma}(h:Ub a=true):KH a≠[]:=by
 intro e
 have h1:=(GW h).1
 rw[e]at h1
 have h2:UR []=((2:Int),(0:Int),(0:Int),(0:Int),()):=by decide+kernel
 rw[h2]at h1
 rw[←h1,Yb]at h
 unfold Dd at h
 simp at h
theorem VO{a:Ma}(h:Ub a=true):Rf a=KH a:=by unfold Rf;rw[h];rfl
theorem S0(s:List UInt8):(∃a,Ub a=true∧Rf a=s∧Jq s=(a,true,())∧Mk s=(a,true,()))∨((∀a,Ub a=true→Rf a≠s)∧Jq s=(KX,false,())∧Mk s=(KX,false,())):=by
 by_cases h:∃a,Ub a=true∧KH a=s
 ·obtain⟨a,ha,rfl⟩:=h
  obtain⟨g1,g2⟩:=GW ha
  refine .inl ⟨a,ha,VO ha,?_,?_⟩
  ·unfold Jq Sak
   rw[g1,VO ha,show(KH a==([]:List UInt8))=false by simpa using Rap ha]
   simp
  ·unfold Mk
   rw[g2,VO ha,ha]
   simp
 ·have hno:∀a,Ub a=true→Rf a≠s:=fun a ha e=>h ⟨a,ha,by rw[←VO ha];exact e⟩
  refine .inr ⟨hno,?_,?_⟩
  ·unfold Jq Sak
   cases hs:s==([]:List UInt8)with
   |true=>rfl
   |false=>
    have hne:s≠[]:=by simpa using hs
    have:(Rf (UR s) !=s)=true:=by
     rw[bne_iff_ne]
     intro e
     cases hg:Ub (UR s)with
     |true=>exact hno _ hg e
     |false=>unfold Rf at e;rw[hg]at e;exact hne e.symm
    rw[this];rfl
  ·unfold Mk
   cases hg:Ub (HB s)with
   |false=>rfl
   |true=>
    have:(Rf (HB s) !=s)=true:=by rw[bne_iff_ne];exact hno _ hg
    rw[this];rfl
theorem WW(s:List UInt8):Jq s=Mk s:=by
 rcases S0 s with⟨a,_,_,h1,h2⟩|⟨_,h1,h2⟩<;>rw[h1,h2]
theorem Q0{a:Ma}(h:Ub a=true):Jq (Rf a)=(a,true,())∧Mk (Rf a)=(a,true,()):=by
 rcases S0 (Rf a)with⟨b,hb,he,h1,h2⟩|⟨hno,_,_⟩
 ·have e:b=a:=by
   rw[VO hb,VO h]at he
   have:=(GW hb).1
   rw[he,(GW h).1]at this
   exact this.symm
  rw[e]at h1 h2
  exact⟨h1,h2⟩
 ·exact absurd rfl (hno a h)
theorem Pam{s:List UInt8}(h:(Mk s).2.1=true):Ub (Mk s).1=true∧Rf (Mk s).1=s:=by
 rcases S0 s with⟨a,ha,he,_,h2⟩|⟨_,_,h2⟩
 ·rw[h2];exact⟨ha,he⟩
 ·rw[h2]at h;simp at h
theorem Fp(x y:List UInt8)(r:List (List UInt8))(sep:List UInt8):Lib.join (x::y::r) sep=x++(sep++Lib.join (y::r) sep):=by
 rw[Lib.join_cons,Lib.join_cons];simp[Lib.joinTail]
theorem XN{b:UInt8}:∀(l:List (List UInt8)),l≠[]→(∀x∈l,Om b x)→Wb (b.toNat:Int) [] (Lib.join l [b])=l
 |[],h,_=>absurd rfl h
 |[x],_,h=>by
  rw[Lib.join_one]
  have:=HX x [] [] (h x (by simp))
  simp only[y3,yi]at this
  rw[this];rfl
 |x::y::r,_,h=>by
  have ih:=XN (y::r) (by simp) fun z hz=>h z (jr _ hz)
  rw[Fp,HX x _ [] (h x (by simp)),yi,yj,yi,Wb,show(((UInt8.toNat b:Nat):Int)==(b.toNat:Int))=true by simp,zj,ih]
theorem Jw{b:UInt8}:∀(s cur:List UInt8),Lib.join (Wb (b.toNat:Int) cur s) [b]=cur++s
 |[],cur=>by rw[Wb,Lib.join_one];simp
 |c::s,cur=>by
  rw[Wb]
  cases hc:((UInt8.toNat c:Nat):Int)==(b.toNat:Int)with
  |false=>rw[zk,Jw s (cur++[c])];simp
  |true=>
   have hcb:c=b:=UInt8.toNat_inj.1 (by have:=eq_of_beq hc;omega)
   subst hcb
   rw[zj]
   have ih:=Jw (b:=c) s []
   cases hs:Wb (c.toNat:Int) [] s with
   |nil=>exact absurd hs (RL _ _ _)
   |cons y r=>rw[Fp,←hs,ih];simp
def FI:List UInt8:=[32,124,32]
theorem Mad:∀(x rest:List UInt8),Om 124 x→Lib.index (x++(FI++rest)) FI=(x.length:Int)
 |[],rest,_=>by
  show Lib.index (32::124::32::rest) [32,124,32]=_
  rw[Lib.index,if_pos (by simp[List.isPrefixOf])];rfl
 |c::x,rest,h=>by
  have ih:=Mad x rest fun y hy=>h y (jr _ hy)
  rw[yj,Lib.index]
  have hp:FI.isPrefixOf (c::(x++(FI++rest)))=false:=by
   cases x with
   |nil=>simp[FI,List.isPrefixOf]
   |cons d x=>
    have:d≠124:=h d (by simp)
    simp[FI,List.isPrefixOf,Ne.symm this]
  rw[hp,ih]
  simp only[jq,if_false]
  rw[if_neg (by simp)]
  simp
theorem Cal:∀(x:List UInt8),Om 124 x→Lib.index x FI=-1
 |[],_=>rfl
 |c::x,h=>by
  have ih:=Cal x fun y hy=>h y (jr _ hy)
  rw[Lib.index]
  have hp:FI.isPrefixOf (c::x)=false:=by
   cases x with
   |nil=>simp[FI,List.isPrefixOf]
   |cons d x=>
    have:d≠124:=h d (by simp)
    simp[FI,List.isPrefixOf,Ne.symm this]
  rw[hp,ih];rfl
theorem Kac:∀(r:List (List UInt8)) (x:List UInt8) (k:Nat),r.length≤k→(∀y∈x::r,Om 124 y)→Lib.splitK FI 0 k (Lib.join (x::r) FI)=x::r
 |[],x,k,_,h=>by
  rw[Lib.join_one]
  cases k with
  |zero=>rfl
  |succ k=>rw[Lib.splitK,Cal x (h x (by simp))];rfl
 |y::r,x,k,hk,h=>by
  cases k with
  |zero=>simp at hk
  |succ k=>
   have ih:=Kac r y k (by simpa using hk) fun z hz=>h z (jr _ hz)
   rw[Fp,Lib.splitK,Mad x _ (h x (by simp))]
   rw[if_neg (by simp),jn,yc,List.take_left' rfl,←qs,List.drop_left' rfl,List.drop_left' rfl,ih]
theorem Oaf:∀(r:List (List UInt8)) (x:List UInt8) (f:Nat),r.length+1≤f→(∀y∈x::r,Om 124 y)→Lib.countFrom FI f (Lib.join (x::r) FI)=r.length
 |[],x,f,hf,h=>by
  cases f with
  |zero=>simp at hf
  |succ f=>rw[Lib.join_one,Lib.countFrom,Cal x (h x (by simp))];rfl
 |y::r,x,f,hf,h=>by
  cases f with
  |zero=>simp at hf
  |succ f=>
   have ih:=Oaf r y f (by simpa using hf) fun z hz=>h z (jr _ hz)
   rw[Fp,Lib.countFrom,Mad x _ (h x (by simp)),if_neg (by simp),jn,←qs,List.drop_left' rfl,List.drop_left' rfl,ih]
   simp;omega
theorem Kaq:∀(r:List (List UInt8)) (x:List UInt8),r.length≤(Lib.join (x::r) FI).length
 |[],x=>by simp
 |y::r,x=>by
  have ih:=Kaq r y
  rw[Fp]
  simp only[qd,jw,FI,j6]at ih⊢
  omega
theorem KaG(x:List UInt8)(r:List (List UInt8))(h:∀y∈x::r,Om 124 y):Lib.split (Lib.join (x::r) FI) FI=x::r:=by
 unfold Lib.split Lib.count
 rw[Oaf r x _ (by have:=Kaq r x;omega) h]
 exact Kac r x _ (jo _) h
theorem D3{α S R:Type}(g:S→α→S⊕R):∀(l m:List α) (k:Nat) (s:S),Cb (fun _ s x=>g s x) k s (l++m)=(match Cb (fun _ s x=>g s x) k s l with|.inl s'=>Cb (fun _ s x=>g s x) (k+l.length) s' m|.inr r=>.inr r)
 |[],m,k,s=>rfl
 |x::l,m,k,s=>by
  simp only[yj,Cb]
  cases g s x with
  |inl s'=>
   simp only
   rw[D3 g l m (k+1) s',jw,show k+1+l.length=k+(l.length+1) by omega]
  |inr r=>rfl
theorem Lag(n:Nat)(hn:n<4):∀(r:List Ma) (k:Nat) (l:List Ma),l.length+r.length≤32→(∀a∈r,Ub a=true)→Cb (fun _ l w=>QV n l w) k l (r.map Rf)=.inl (l++r)
 |[],k,l,_,_=>by simp[Cb]
 |a::r,k,l,hl,ha=>by
  simp only[ym,Cb,jw]at hl⊢
  have:QV n l (Rf a)=.inl (l++[a]):=by
   unfold QV
   rw[(Q0 (ha a (by simp))).2,Aa (by omega),Aa (by omega)]
   rfl
  rw[this]
  simp only
  rw[Lag n hn r (k+1) (l++[a]) (by simp;omega) fun b hb=>ha b (jr _ hb)]
  simp
theorem FaV{r:List Ma}:Om 124 (FC r):=PaU (B4 _ _ (by decide)) fun x hx=>by
 obtain⟨a,_,rfl⟩:=ql.1 hx
 exact GU (.inr (.inr rfl)) a
theorem LaG{r:List Ma}(h:r≠[]):Wb 32 [] (FC r)=r.map Rf:=
 XN (b:=32) (r.map Rf) (by simpa using h) fun x hx=>by
  obtain⟨a,_,rfl⟩:=ql.1 hx
  exact GU (.inr (.inl rfl)) a
structure Qay(r:List Ma):Prop where
 ne:r≠[]
 le:r.length≤32
 act:∀a∈r,Ub a=true
theorem Oab:∀(rs:List (List Ma)) (k:Nat) (m:Ia),m.2.1.length+rs.length≤4→(∀r∈rs,Qay r)→
 Cb (fun _ m p=>KD m p) k m (rs.map FC)=.inl (match rs.getLast? with|some r=>((r.length:Nat):Int)|none=>m.1,m.2.1++rs,())
 |[],k,m,_,_=>by simp[Cb]
 |r::rs,k,m,hl,hr=>by
  simp only[ym,Cb,jw]at hl⊢
  have h:=hr r (by simp)
  have:KD m (FC r)=.inl (((r.length:Nat):Int),m.2.1++[r],()):=by
   unfold KD
   rw[LaG h.ne,Lag _ (by omega) r 0 [] (by simpa using h.le) h.act]
   rfl
  rw[this]
  simp only
  rw[Oab rs (k+1) _ (by simp;omega) fun x hx=>hr x (jr _ hx)]
  cases rs with
  |nil=>simp
  |cons y rs=>
   simp only[q7,List.singleton_append,List.getLast?_cons_cons]
   cases hq:(y::rs).getLast? with
   |none=>simp at hq
   |some q=>rfl
theorem XX{m:Ia}(h:Uc m=true):(∀r∈m.2.1,Qay r)∧(∀r∈m.2.1,((r.length:Nat):Int)=m.1)∧m.2.1≠[]∧m.2.1.length≤4:=by
 have hm:=Be h
 have h1:=hm.k1;have h2:=hm.k2
 refine⟨fun r hr=>?_,fun r hr=>?_,?_,hm.l2⟩
 ·obtain⟨i,hi,rfl⟩:=qk hr
  have h3:=hm.row i hi
  refine⟨fun e=>?_,by omega,fun a ha=>?_⟩
  ·have:m.2.1[i].length=0:=by rw[e];rfl
   omega
  ·obtain⟨k,hk,rfl⟩:=qk ha
   exact GF (hm.act i hi k hk)
 ·obtain⟨i,hi,rfl⟩:=qk hr
  exact hm.row i hi
 ·intro e
  have:=hm.l1
  rw[e]at this
  simp at this
theorem Xad{m:Ia}(h:Uc m=true):Kw m=Lib.join (m.2.1.map FC) FI:=by unfold Kw;rw[h];rfl
theorem WaF{m:Ia}(h:Uc m=true):Lm (Kw m)=(m,true,()):=by
 obtain⟨h1,h2,h3,h4⟩:=XX h
 have hs:Lib.split (Kw m) [32,124,32]=m.2.1.map FC:=by
  rw[Xad h]
  cases hl:m.2.1.map FC with
  |nil=>simp at hl;exact absurd hl h3
  |cons x r=>
   refine KaG x r fun y hy=>?_
   rw[←hl]at hy
   obtain⟨q,_,rfl⟩:=ql.1 hy
   exact FaV
 have hf:=Oab m.2.1 0 Bh (by simpa[Bh]using h4) h1
 unfold Lm
 rw[hs,hf]
 have e:((match m.2.1.getLast? with|some r=>((r.length:Nat):Int)|none=>Bh.1,Bh.2.1++m.2.1,()):Ia)=m:=by
  cases hq:m.2.1.getLast? with
  |none=>rw[List.getLast?_eq_none_iff]at hq;exact absurd hq h3
  |some r=>
   have:=h2 r (List.mem_of_getLast? hq)
   simp only[Bh,yi,this]
 simp only[e,h]
 simp
noncomputable def Vv(rs:List (List Ma)):List (List UInt8):=(rs.map fun r=>r.map Rf++[[124]]).flatten
noncomputable def Qm:List (List Ma)→List (List UInt8)
 |[]=>[]
 |[r]=>r.map Rf
 |r::q::rs=>r.map Rf++[124]::Qm (q::rs)
theorem R9:∀(rs:List (List Ma)),rs≠[]→Vv rs=Qm rs++[[124]]
 |[],h=>absurd rfl h
 |[r],_=>by simp[Vv,Qm]
 |r::q::rs,_=>by
  have ih:=R9 (q::rs) (by simp)
  have e:Vv (r::q::rs)=r.map Rf++[[124]]++Vv (q::rs):=by simp[Vv]
  rw[e,ih,Qm]
  simp
theorem Nab:∀(l m:List (List UInt8)),l≠[]→m≠[]→Lib.join (l++m) [32]=Lib.join l [32]++(32::Lib.join m [32])
 |[],m,h,_=>absurd rfl h
 |[x],m,_,hm=>by
  cases m with
  |nil=>exact absurd rfl hm
  |cons y m=>rw[List.singleton_append,Fp,Lib.join_one];rfl
 |x::y::l,m,_,hm=>by
  have ih:=Nab (y::l) m (by simp) hm
  rw[yj,yj,Fp,Fp,←yj,ih]
  simp
theorem Uag:∀(rs:List (List Ma)),rs≠[]→(∀r∈rs,r≠[])→Qm rs≠[]
 |[],h,_=>absurd rfl h
 |[r],_,h=>by simpa[Qm]using h r (by simp)
 |r::q::rs,_,_=>by simp[Qm]
theorem Q3:∀(rs:List (List Ma)),rs≠[]→(∀r∈rs,r≠[])→Lib.join (rs.map FC) FI=Lib.join (Qm rs) [32]
 |[],h,_=>absurd rfl h
 |[r],_,_=>by simp only[ym,List.map_nil,Lib.join_one,Qm];rfl
 |r::q::rs,_,h=>by
  have hr:=h r (by simp)
  have ih:=Q3 (q::rs) (by simp) fun x hx=>h x (jr _ hx)
  have hB:=Uag (q::rs) (by simp) fun x hx=>h x (jr _ hx)
  rw[ym]at ih
  rw[ym,ym,Fp,ih,Qm,Nab _ _ (by simpa using hr) (by simp)]
  cases hw:Qm (q::rs)with
  |nil=>exact absurd hw hB
  |cons y l=>rw[Fp];simp[FI,FC]
theorem Vag:∀(rs:List (List Ma)),∀x∈Qm rs,Om 32 x
 |[],x,hx=>by simp[Qm]at hx
 |[r],x,hx=>by
  obtain⟨a,_,rfl⟩:=ql.1 (show x∈r.map Rf from hx)
  exact GU (.inr (.inl rfl)) a
 |r::q::rs,x,hx=>by
  rcases jl.1 (show x∈r.map Rf++[124]::Qm (q::rs)from hx)with hx|hx
  ·obtain⟨a,_,rfl⟩:=ql.1 hx
   exact GU (.inr (.inl rfl)) a
  ·rcases jp.1 hx with rfl|hx
   ·exact B4 _ _ (by decide)
   ·exact Vag (q::rs) x hx
theorem SaZ{a:Ma}(h:Ub a=true)(s:Ia×List Ma):IF s (Rf a)=.inl (s.1,s.2++[a]):=by
 unfold IF
 have hne:(Rf a==([124]:List UInt8))=false:=by
  rw[beq_eq_false_iff_ne]
  intro e
  have:=GU (b:=124) (.inr (.inr rfl)) a
  rw[e]at this
  exact this 124 (by simp) rfl
 rw[hne,(Q0 h).1]
 rfl
theorem Vau:∀(r:List Ma) (k:Nat) (s:Ia×List Ma),(∀a∈r,Ub a=true)→Cb (fun _ s w=>IF s w) k s (r.map Rf)=.inl (s.1,s.2++r)
 |[],k,s,_=>by simp[Cb]
 |a::r,k,s,h=>by
  simp only[ym,Cb]
  rw[SaZ (h a (by simp))]
  simp only
  rw[Vau r (k+1) _ fun b hb=>h b (jr _ hb)]
  simp
theorem Wau:∀(rs:List (List Ma)) (k:Nat) (m:Ia),(∀r∈rs,Qay r)→
 Cb (fun _ s w=>IF s w) k (m,[]) (Vv rs)=.inl ((match rs.getLast? with|some r=>((r.length:Nat):Int)|none=>m.1,m.2.1++rs,()),[])
 |[],k,m,_=>by simp[Vv,Cb]
 |r::rs,k,m,h=>by
  have hr:=h r (by simp)
  have e:Vv (r::rs)=r.map Rf++([124]::Vv rs):=by simp[Vv]
  rw[e,D3 (fun s w=>IF s w) (r.map Rf),Vau r k (m,[]) hr.act]
  simp only[yi,Cb]
  have hb:IF (m,r) [124]=.inl ((((r.length:Nat):Int),m.2.1++[r],()),[]):=rfl
  rw[hb]
  simp only
  rw[Wau rs _ _ fun x hx=>h x (jr _ hx)]
  cases rs with
  |nil=>simp
  |cons y rs=>
   simp only[q7,List.singleton_append,List.getLast?_cons_cons]
   cases hq:(y::rs).getLast? with
   |none=>simp at hq
   |some q=>rfl
theorem Jag{m:Ia}(h:Uc m=true):VG (Kw m)=(m,true,()):=by
 obtain⟨h1,h2,h3,h4⟩:=XX h
 have hne:∀r∈m.2.1,r≠[]:=fun r hr=>(h1 r hr).ne
 have hs:Wb 32 [] (Kw m)=Qm m.2.1:=by
  rw[Xad h,Q3 m.2.1 h3 hne]
  exact XN (b:=32) _ (Uag _ h3 hne) (Vag _)
 have hf:=Wau m.2.1 0 Bh h1
 unfold VG
 rw[hs,show jf (Qm m.2.1) [[124]]=Qm m.2.1++[[124]]from rfl,←R9 _ h3,hf]
 have e:((match m.2.1.getLast? with|some r=>((r.length:Nat):Int)|none=>Bh.1,Bh.2.1++m.2.1,()):Ia)=m:=by
  cases hq:m.2.1.getLast? with
  |none=>rw[List.getLast?_eq_none_iff]at hq;exact absurd hq h3
  |some r=>
   have:=h2 r (List.mem_of_getLast? hq)
   simp only[Bh,yi,this]
 simp only[e,h]
 simp
theorem RaF:∀(W:List (List UInt8)) (k:Nat) (s s':Ia×List Ma),Cb (fun _ s w=>IF s w) k s W=.inl s'→
 Vv s'.1.2.1++s'.2.map Rf=Vv s.1.2.1++s.2.map Rf++W
 |[],k,s,s',h=>by simp only[Cb,ze]at h;subst h;simp
 |w::W,k,s,s',h=>by
  simp only[Cb]at h
  revert h
  cases hg:IF s w with
  |inr u=>intro h;simp at h
  |inl s1=>
   intro h
   have ih:=RaF W (k+1) s1 s' h
   rw[ih]
   unfold IF at hg
   revert hg
   cases hw:w==([124]:List UInt8)with
   |true=>
    intro hg
    simp only[zj,ze]at hg
    subst hg
    rw[eq_of_beq hw]
    simp[Vv]
   |false=>
    cases hp:(Jq w).2.1 with
    |false=>intro hg;simp at hg
    |true=>
     intro hg
     simp only[zj,zk,ze]at hg
     subst hg
     have hq:(Mk w).2.1=true:=by rw[←WW];exact hp
     have:=(Pam hq).2
     rw[←WW]at this
     simp[this]
theorem IaK{s:List UInt8}(h:(VG s).2.1=true):Uc (VG s).1=true∧Kw (VG s).1=s:=by
 unfold VG at h⊢
 revert h
 cases hf:Cb (fun _ s w=>IF s w) 0 (Bh,[]) (jf (Wb 32 [] s) [[124]])with
 |inr u=>intro h;simp at h
 |inl r=>
  simp only
  cases hm:Uc r.1 with
  |false=>intro h;simp at h
  |true=>
   intro _
   simp only[zj]
   refine⟨hm,?_⟩
   obtain⟨h1,h2,h3,h4⟩:=XX hm
   have hne:∀r'∈r.1.2.1,r'≠[]:=fun r' hr=>(h1 r' hr).ne
   have hi:=RaF _ _ _ _ hf
   have hr2:r.2=[]:=by
    have e:jf (Wb 32 [] s) [[124]]=Wb 32 [] s++[[124]]:=rfl
    rw[e,D3 (fun s w=>IF s w) (Wb 32 [] s)]at hf
    revert hf
    cases Cb (fun _ s w=>IF s w) 0 (Bh,[]) (Wb 32 [] s)with
    |inr u=>intro h;simp at h
    |inl q=>
     intro h
     simp only[Cb]at h
     have hb:IF q [124]=.inl ((((q.2.length:Nat):Int),q.1.2.1++[q.2],()),[]):=rfl
     rw[hb]at h
     simp only[ze]at h
     rw[←h]
   rw[hr2,R9 _ h3]at hi
   simp only[List.map_nil,y3]at hi
   have hi2:Qm r.1.2.1++[[124]]=Wb 32 [] s++[[124]]:=by
    rw[hi];simp[Vv,Bh]
   have hi3:=List.append_cancel_right hi2
   rw[Xad hm,Q3 _ h3 hne,hi3]
   have:=Jw (b:=32) s []
   simpa using this
theorem XaF{s:List UInt8}(h:(Lm s).2.1=true):Uc (Lm s).1=true∧Kw (Lm s).1=s:=by
 refine⟨Lae h,?_⟩
 unfold Lm at h⊢
 revert h
 cases Cb (fun _ m p=>KD m p) 0 Bh (Lib.split s [32,124,32])with
 |inr u=>intro h;simp at h
 |inl m=>
  simp only
  cases hm:Uc m with
  |false=>intro h;simp at h
  |true=>
   cases ht:Kw m !=s with
   |true=>intro h;simp at h
   |false=>intro _;simpa using ht
theorem HaK(s:List UInt8)(h:(VG s).2.1=false):VG s=(Bh,false,()):=by
 unfold VG at h⊢
 revert h
 cases Cb (fun _ s w=>IF s w) 0 (Bh,[]) (jf (Wb 32 [] s) [[124]])with
 |inr u=>intro _;rfl
 |inl r=>
  simp only
  cases Uc r.1 with
  |false=>intro _;rfl
  |true=>intro h;simp at h
theorem GaK(s:List UInt8)(h:(Lm s).2.1=false):Lm s=(Bh,false,()):=by
 unfold Lm at h⊢
 revert h
 cases Cb (fun _ m p=>KD m p) 0 Bh (Lib.split s [32,124,32])with
 |inr u=>intro _;rfl
 |inl m=>
  simp only
  cases !Uc m||Kw m !=s with
  |true=>intro _;rfl
  |false=>intro h;simp at h
theorem YaF(s:List UInt8):VG s=Lm s:=by
 cases h1:(VG s).2.1 with
 |true=>
  obtain⟨a,b⟩:=IaK h1
  have e1:=Jag a
  have e2:=WaF a
  rw[b]at e1 e2
  rw[e1]
  exact(e2.trans (by rw[e1])).symm
 |false=>
  cases h2:(Lm s).2.1 with
  |true=>
   obtain⟨a,b⟩:=XaF h2
   have e1:=Jag a
   rw[b]at e1
   rw[e1]at h1
   simp at h1
  |false=>rw[HaK s h1,GaK s h2]
def CO:Ua:=((0:Int),(0:Int),(0:Int),())
noncomputable def FK(k:Int)(w:List UInt8):Ua×(Bool×Unit):=((k,(Jq (w.drop 2)).1.2.1,(Jq (w.drop 2)).1.2.2.1,()),(Jq (w.drop 2)).2.1&&((Jq (w.drop 2)).1.1==2),())
noncomputable def XW(w:List UInt8):Ua×(Bool×Unit):=
 cond (decide (((ja w:Nat):Int)<3)) (CO,false,()) (cond (((UInt8.toNat (w.getD 1 0):Nat):Int) !=61) (CO,false,())
  (cond (((UInt8.toNat (w.getD 0 0):Nat):Int)==116) (FK 0 w) (cond (((UInt8.toNat (w.getD 0 0):Nat):Int)==100) (FK 1 w) (cond (((UInt8.toNat (w.getD 0 0):Nat):Int)==117) (FK 2 w) (CO,false,())))))
theorem Iac{w:List UInt8}(hw:w.length≤100000000):WN w=some (XW w):=by
 unfold WN XW
 by_cases h3:((ja w:Nat):Int)<3
 ·rw[Ba h3];rfl
 rw[Aa h3]
 simp only[zk]
 obtain⟨c0,c1,c2,r,rfl⟩:∃c0 c1 c2 r,w=c0::c1::c2::r:=by
  rcases w with _|⟨c0,_|⟨c1,_|⟨c2,r⟩⟩⟩
  ·exact absurd (show((0:Nat):Int)<3 by omega) h3
  ·exact absurd (show((1:Nat):Int)<3 by omega) h3
  ·exact absurd (show((2:Nat):Int)<3 by omega) h3
  ·exact⟨_,_,_,_,rfl⟩
 rw[show Ib (c0::c1::c2::r) 1=some c1 from rfl,show(c0::c1::c2::r).getD 1 0=c1 from rfl,show(c0::c1::c2::r).getD 0 0=c0 from rfl]
 simp only[jb]
 cases(((UInt8.toNat c1:Nat):Int) !=61)with
 |true=>rfl
 |false=>
 simp only[zk]
 have hd:((c0::c1::c2::r).drop 2).length≤100000000:=by rw[qn];omega
 have hcut:Hb (c0::c1::c2::r) (jy 2) (jy ((ja (c0::c1::c2::r):Nat):Int))=(c0::c1::c2::r).drop 2:=by
  rw[show jy 2=2 from rfl,jn]
  unfold Hb
  rw[List.take_length]
 have hok:Nd (ja (c0::c1::c2::r)) 2 ((ja (c0::c1::c2::r):Nat):Int)=true:=Xh (lo:=2) (by simp) (jo _)
 have hit:∀(k:Int) (x:UInt8),Ib ([116,100,117]:List UInt8) k=some x→k<3→Hg (c0::c1::c2::r) () k CO=
  cond (((UInt8.toNat c0:Nat):Int)==((UInt8.toNat x:Nat):Int)) (some (.inr (.inr (((),(FK k (c0::c1::c2::r)).2.1,()),((FK k (c0::c1::c2::r)).1,())))))
   (some (.inl ((c0::c1::c2::r,(),(Go.IntKind.wrap .i64 (k+(1:Int))),()),(CO,())))):=by
  intro k x hx hk
  simp only[Hg]
  rw[Ba hk,show Ib (c0::c1::c2::r) 0=some c0 from rfl,hx]
  simp only[zj,jb]
  cases((UInt8.toNat c0:Nat):Int)==((UInt8.toNat x:Nat):Int)with
  |false=>rfl
  |true=>
   simp only[zj]
   rw[hok,hcut,TO hd]
   simp only[zj,jb]
   unfold FK
   cases(Jq ((c0::c1::c2::r).drop 2)).2.1<;>rfl
 have hend:Hg (c0::c1::c2::r) () 3 CO=some (.inr (.inl (((),()),(CO,())))):=by
  simp only[Hg]
  rw[Aa (by omega)];rfl
 unfold KC
 cases e0:((UInt8.toNat c0:Nat):Int)==116 with
 |true=>
  have h0:=hit 0 116 rfl (by omega)
  rw[show((UInt8.toNat 116:Nat):Int)=116 from rfl,e0]at h0
  have hl:=Vb (step:=fun x:(List UInt8×Unit×Int×Unit)×Ua×Unit=>Hg x.1.1 x.1.2.1 x.1.2.2.1 x.2.1) (x:=((c0::c1::c2::r,(),(0:Int),()),(CO,()))) h0
  erw[hl]
  rfl
 |false=>
  have h0:=hit 0 116 rfl (by omega)
  rw[show((UInt8.toNat 116:Nat):Int)=116 from rfl,e0]at h0
  have hl0:=Vb (step:=fun x:(List UInt8×Unit×Int×Unit)×Ua×Unit=>Hg x.1.1 x.1.2.1 x.1.2.2.1 x.2.1) (x:=((c0::c1::c2::r,(),(0:Int),()),(CO,()))) h0
  erw[hl0]
  simp only[zk,jb,qg]
  rw[show j4 .i64 (0+1)=1 by decide]
  cases e1:((UInt8.toNat c0:Nat):Int)==100 with
  |true=>
   have h1:=hit 1 100 rfl (by omega)
   rw[show((UInt8.toNat 100:Nat):Int)=100 from rfl,e1]at h1
   have hl:=Vb (step:=fun x:(List UInt8×Unit×Int×Unit)×Ua×Unit=>Hg x.1.1 x.1.2.1 x.1.2.2.1 x.2.1) (x:=((c0::c1::c2::r,(),(1:Int),()),(CO,()))) h1
   erw[hl]
   rfl
  |false=>
   have h1:=hit 1 100 rfl (by omega)
   rw[show((UInt8.toNat 100:Nat):Int)=100 from rfl,e1]at h1
   have hl1:=Vb (step:=fun x:(List UInt8×Unit×Int×Unit)×Ua×Unit=>Hg x.1.1 x.1.2.1 x.1.2.2.1 x.2.1) (x:=((c0::c1::c2::r,(),(1:Int),()),(CO,()))) h1
   erw[hl1]
   simp only[zk,jb,qg]
   rw[show j4 .i64 (1+1)=2 by decide]
   cases e2:((UInt8.toNat c0:Nat):Int)==117 with
   |true=>
    have h2:=hit 2 117 rfl (by omega)
    rw[show((UInt8.toNat 117:Nat):Int)=117 from rfl,e2]at h2
    have hl:=Vb (step:=fun x:(List UInt8×Unit×Int×Unit)×Ua×Unit=>Hg x.1.1 x.1.2.1 x.1.2.2.1 x.2.1) (x:=((c0::c1::c2::r,(),(2:Int),()),(CO,()))) h2
    erw[hl]
    rfl
   |false=>
    have h2:=hit 2 117 rfl (by omega)
    rw[show((UInt8.toNat 117:Nat):Int)=117 from rfl,e2]at h2
    have hl2:=Vb (step:=fun x:(List UInt8×Unit×Int×Unit)×Ua×Unit=>Hg x.1.1 x.1.2.1 x.1.2.2.1 x.2.1) (x:=((c0::c1::c2::r,(),(2:Int),()),(CO,()))) h2
    erw[hl2]
    simp only[zk,jb,qg]
    rw[show j4 .i64 (2+1)=3 by decide]
    have hl3:=Vb (step:=fun x:(List UInt8×Unit×Int×Unit)×Ua×Unit=>Hg x.1.1 x.1.2.1 x.1.2.2.1 x.2.1) (x:=((c0::c1::c2::r,(),(3:Int),()),(CO,()))) hend
    erw[hl3]
    rfl
noncomputable def NV(o:List Ua)(w:List UInt8):List Ua⊕Unit:=cond (XW w).2.1 (.inl (jf o [(XW w).1])) (.inr ())
noncomputable def UG(s:List UInt8):List Ua×(Bool×Unit):=
 cond (s==([]:List UInt8)) (([]:List Ua),true,()) (cond (decide (8<(Wb 32 [] s).length)) (([]:List Ua),false,()) (match Cb (fun _ o w=>NV o w) 0 [] (Wb 32 [] s)with
  |.inl l=>cond (Kc l) (l,true,()) (([]:List Ua),false,())
  |.inr _=>(([]:List Ua),false,())))
theorem Zau:∀(W:List (List UInt8)) (k:Nat) (o o':List Ua),Cb (fun _ o w=>NV o w) k o W=.inl o'→o'.length=o.length+W.length
 |[],k,o,o',h=>by simp only[Cb,ze]at h;subst h;rfl
 |w::W,k,o,o',h=>by
  simp only[Cb]at h
  revert h
  unfold NV
  cases(XW w).2.1 with
  |false=>intro h;simp at h
  |true=>
   intro h
   have:=Zau W (k+1) _ o' h
   simp only[zh,qd,jw,j6]at this⊢
   omega
theorem R4{s:List UInt8}(hs:s.length≤1048571):XD s=some (UG s):=by
 have h20:Da=1048576:=rfl
 unfold XD UG
 cases s==([]:List UInt8)with
 |true=>rfl
 |false=>
  rw[Wt 32 (by omega)]
  simp only[zk,jb]
  have hn:=Gz 32 s []
  have hp:=Rv 32 s []
  generalize Wb 32 [] s=W at hn hp
  by_cases h8:8<W.length
  ·have hst:Gk ((([]:List Ua),W,(0:Int),()),())=some (.inl ((([]:List Ua),W,()),())):=by
    unfold Gk
    refine(Vb (z:=some (Sum.inr (.inl ((([]:List Ua),W,()),())))) ?_).trans rfl
    simp only[Pm]
    rw[Ba (by omega),Aa (by omega)];rfl
   rw[hst,Ba h8]
   simp only[jb,qg]
   rw[Ba (by omega)];rfl
  ·rw[Aa h8]
   simp only[zk]
   have h:=Ug (step:=fun x:(List Ua×List (List UInt8)×Int×Unit)×Unit=>Pm x.1.1 x.1.2.1 x.1.2.2.1) W (fun _ o w=>NV o w)
    (fun o i=>((o,W,i,()),())) (fun o=>.inl ((o,W,()),())) (fun _=>.inr ((([]:List Ua),false,()),())) (fun k o=>o.length=k) (by
     intro k hk o ho
     have hw:=hp W[k] (qj hk)
     refine⟨?_,fun o' h'=>?_⟩
     ·simp only[Pm]
      rw[Ba (by omega),Ba (by omega),Ve,Ba hk]
      simp only[zj,jn]
      rw[je hk]
      simp only[jb]
      generalize W[k]=w at hw
      rw[Iac (by simp at hw;omega)]
      simp only[jb]
      unfold NV
      cases(XW w).2.1 with
      |false=>rfl
      |true=>
       simp only[jg,zk,zj]
       rw[Ob (by simp only[jw,j6];omega)]
       rfl
     ·unfold NV at h'
      revert h'
      cases(XW W[k]).2.1 with
      |false=>intro h;simp at h
      |true=>
       intro h
       simp only[zj,ze]at h
       subst h
       simp[ho]) (by
     intro o ho
     simp only[Pm]
     rw[Aa (by omega)];rfl) (by omega) [] rfl
   have hl:∀o,Cb (fun _ o w=>NV o w) 0 [] W=.inl o→o.length≤Da:=fun o ho=>by
    have:=Zau W 0 [] o ho
    simp at this;omega
   unfold Gk
   erw[h]
   revert hl
   cases Cb (fun _ o w=>NV o w) 0 [] W with
   |inr u=>intro _;rfl
   |inl o=>
    intro hl
    simp only[jb,qg]
    rw[Aa (by omega),QN o (hl o rfl)]
    simp only[zk,jb]
    cases Kc o<;>rfl
structure MQ(x:Ua):Prop where
 k:0≤x.1∧x.1≤2
 a:Ub (2,x.2.1,x.2.2.1,0,())=true
theorem TW{l:List Ua}(h:Kc l=true):∀x∈l,MQ x:=by
 intro x hx
 refine⟨Y6 h x hx,?_⟩
 simp only[Kc,jd]at h
 have h2:=h.2
 cases hm:W3 l with
 |inr _=>rw[hm]at h2;simp at h2
 |inl L=>exact X3 l 0 [] L hm x hx
def RK(k:Int):UInt8:=cond (k==0) 116 (cond (k==1) 100 117)
theorem IU{x:Ua}(h:MQ x):Mt x=RK x.1::61::Rf (2,x.2.1,x.2.2.1,0,()):=by
 have hk:=h.k
 unfold Mt
 have:x.1=0∨x.1=1∨x.1=2:=by omega
 rcases this with e|e|e<;>rw[e]<;>rfl
theorem CaV{x:Ua}(h:MQ x):XW (Mt x)=(x,true,()):=by
 have hk:=h.k
 have hne:=Rap h.a
 have hl:1≤(Rf (2,x.2.1,x.2.2.1,0,())).length:=by
  rw[VO h.a]
  exact List.length_pos_iff.2 hne
 have key:∀k,FK k (Mt x)=((k,x.2.1,x.2.2.1,()),true,()):=fun k=>by
  unfold FK
  rw[IU h,show(RK x.1::61::Rf (2,x.2.1,x.2.2.1,0,())).drop 2=Rf (2,x.2.1,x.2.2.1,0,())from rfl,(Q0 h.a).1]
  rfl
 unfold XW
 rw[key,key,key,IU h,Aa (by simp only[jw];omega),show((RK x.1::61::Rf (2,x.2.1,x.2.2.1,0,())).getD 1 0)=61 from rfl,show((RK x.1::61::Rf (2,x.2.1,x.2.2.1,0,())).getD 0 0)=RK x.1 from rfl]
 obtain⟨k,c,m,⟨⟩⟩:=x
 simp only at hk⊢
 have:k=0∨k=1∨k=2:=by omega
 rcases this with rfl|rfl|rfl<;>rfl
theorem UaZ{w:List UInt8}(h:(XW w).2.1=true):MQ (XW w).1∧Mt (XW w).1=w:=by
 unfold XW at h⊢
 by_cases h3:((ja w:Nat):Int)<3
 ·rw[Ba h3]at h;simp at h
 rw[Aa h3]at h⊢
 simp only[zk]at h⊢
 obtain⟨c0,c1,c2,r,rfl⟩:∃c0 c1 c2 r,w=c0::c1::c2::r:=by
  rcases w with _|⟨c0,_|⟨c1,_|⟨c2,r⟩⟩⟩
  ·exact absurd (show((0:Nat):Int)<3 by omega) h3
  ·exact absurd (show((1:Nat):Int)<3 by omega) h3
  ·exact absurd (show((2:Nat):Int)<3 by omega) h3
  ·exact⟨_,_,_,_,rfl⟩
 rw[show(c0::c1::c2::r).getD 1 0=c1 from rfl,show(c0::c1::c2::r).getD 0 0=c0 from rfl]at h⊢
 cases h1:(((UInt8.toNat c1:Nat):Int) !=61)with
 |true=>rw[h1]at h;simp at h
 |false=>
 rw[h1]at h
 simp only[zk]at h⊢
 have hc1:c1=61:=UInt8.toNat_inj.1 (by
  have:((UInt8.toNat c1:Nat):Int)=61:=by simpa using h1
  show c1.toNat=61;omega)
 subst hc1
 have key:∀k,0≤k∧k≤2→RK k=c0→(FK k (c0::61::c2::r)).2.1=true→MQ (FK k (c0::61::c2::r)).1∧Mt (FK k (c0::61::c2::r)).1=c0::61::c2::r:=by
  intro k hk hl hs
  unfold FK at hs⊢
  rw[show(c0::61::c2::r).drop 2=c2::r from rfl]at hs⊢
  simp only[jd,beq_iff_eq]at hs
  have hq:(Mk (c2::r)).2.1=true:=by rw[←WW];exact hs.1
  have ho:=Pam hq
  rw[←WW]at ho
  generalize Jq (c2::r)=p at hs ho
  obtain⟨⟨k1,c,m,n,⟨⟩⟩,ok,⟨⟩⟩:=p
  simp only at hs ho⊢
  obtain⟨_,rfl⟩:=hs
  have hn:n=0:=by
   have:=(Yb _).1 ho.1
   unfold Dd at this
   simp only at this
   omega
  subst hn
  have hS:MQ (k,c,m,()):=⟨hk,ho.1⟩
  refine⟨hS,?_⟩
  rw[IU hS]
  simp only
  rw[hl,ho.2]
 have hl:∀(n:Nat) (x:UInt8),(((UInt8.toNat c0:Nat):Int)==(n:Int))=true→x.toNat=n→x=c0:=fun n x he hx=>UInt8.toNat_inj.1 (by have:=eq_of_beq he;omega)
 cases e0:((UInt8.toNat c0:Nat):Int)==116 with
 |true=>
  rw[e0]at h
  exact key 0 (by omega) (hl 116 116 e0 rfl) h
 |false=>
 rw[e0]at h
 simp only[zk]at h⊢
 cases e1:((UInt8.toNat c0:Nat):Int)==100 with
 |true=>
  rw[e1]at h
  exact key 1 (by omega) (hl 100 100 e1 rfl) h
 |false=>
 rw[e1]at h
 simp only[zk]at h⊢
 cases e2:((UInt8.toNat c0:Nat):Int)==117 with
 |true=>
  rw[e2]at h
  exact key 2 (by omega) (hl 117 117 e2 rfl) h
 |false=>rw[e2]at h;simp at h
theorem AaJ(k:Int)(r:List UInt8):Lib.index (RK k::61::r) [61]=1:=by
 have h61:Lib.index (61::r) [61]=0:=by rw[Lib.index,if_pos (by simp[List.isPrefixOf])]
 have hl:RK k=116∨RK k=100∨RK k=117:=by
  unfold RK
  cases k==0<;>cases k==1<;>simp
 rcases hl with e|e|e<;>(rw[e,Lib.index,if_neg (by simp[List.isPrefixOf]),h61];rfl)
theorem AaV{x:Ua}(h:MQ x)(s:List Ua):MV s (Mt x)=.inl (s++[x]):=by
 have hk:=h.k
 have hc:Lib.cut (Mt x) [61]=([RK x.1],Rf (2,x.2.1,x.2.2.1,0,()),true):=by
  unfold Lib.cut
  rw[IU h,AaJ,if_pos (by omega)]
  rfl
 have hi:Lib.index [116,100,117] [RK x.1]=x.1:=by
  have:x.1=0∨x.1=1∨x.1=2:=by omega
  rcases this with e|e|e<;>rw[e]<;>decide
 unfold MV
 rw[hc]
 simp only
 rw[(Q0 h.a).2,hi]
 simp only
 rw[Aa (by omega)]
 obtain⟨k,c,m,⟨⟩⟩:=x
 rfl
theorem Sam:∀(l:List Ua) (k:Nat) (s:List Ua),(∀x∈l,MQ x)→Cb (fun _ o w=>MV o w) k s (l.map Mt)=.inl (s++l)
 |[],k,s,_=>by simp[Cb]
 |x::l,k,s,h=>by
  simp only[ym,Cb]
  rw[AaV (h x (by simp))]
  simp only
  rw[Sam l (k+1) _ fun y hy=>h y (jr _ hy)]
  simp
theorem Tam:∀(l:List Ua) (k:Nat) (s:List Ua),(∀x∈l,MQ x)→Cb (fun _ o w=>NV o w) k s (l.map Mt)=.inl (s++l)
 |[],k,s,_=>by simp[Cb]
 |x::l,k,s,h=>by
  simp only[ym,Cb]
  have:NV s (Mt x)=.inl (s++[x]):=by
   unfold NV
   rw[CaV (h x (by simp))]
   rfl
  rw[this]
  simp only
  rw[Tam l (k+1) _ fun y hy=>h y (jr _ hy)]
  simp
theorem Yau:∀(W:List (List UInt8)) (k:Nat) (o o':List Ua),Cb (fun _ o w=>NV o w) k o W=.inl o'→o'.map Mt=o.map Mt++W
 |[],k,o,o',h=>by simp only[Cb,ze]at h;subst h;simp
 |w::W,k,o,o',h=>by
  simp only[Cb]at h
  revert h
  unfold NV
  cases hp:(XW w).2.1 with
  |false=>intro h;simp at h
  |true=>
   intro h
   have:=Yau W (k+1) _ o' h
   rw[this]
   simp[(UaZ hp).2]
theorem Wad{l:List Ua}(h:Kc l=true):Iq l=Lib.join (l.map Mt) [32]:=by unfold Iq;rw[h];rfl
theorem IaV{x:Ua}(h:MQ x):Om 32 (Mt x):=by
 rw[IU h]
 refine Qp (x:=[RK x.1]) ?_ (Qp (x:=[61]) (B4 _ _ (by decide)) (GU (.inr (.inl rfl)) _))
 intro c hc
 rw[qc.1 hc]
 unfold RK
 cases x.1==0<;>cases x.1==1<;>decide
theorem H1{l:List Ua}(h:Kc l=true)(hne:l≠[]):Wb 32 [] (Iq l)=l.map Mt:=by
 rw[Wad h]
 exact XN (b:=32) _ (by simpa using hne) fun x hx=>by
  obtain⟨y,hy,rfl⟩:=ql.1 hx
  exact IaV (TW h y hy)
theorem Kau{l:List Ua}(h:Kc l=true)(hne:l≠[]):Iq l≠[]:=by
 intro e
 have:=H1 h hne
 rw[e]at this
 cases l with
 |nil=>exact hne rfl
 |cons x r=>
  have hx:=TW h x (by simp)
  rw[ym,IU hx]at this
  simp[Wb]at this
theorem TaF{l:List Ua}(h:Kc l=true):Gl (Iq l)=(l,true,()):=by
 cases hl:l with
 |nil=>decide+kernel
 |cons x r=>
  rw[←hl]
  have hne:l≠[]:=by rw[hl];simp
  unfold Gl
  rw[show(Iq l==([]:List UInt8))=false by simpa using Kau h hne,H1 h hne,Sam l 0 [] (TW h)]
  simp[h]
theorem Iag{l:List Ua}(h:Kc l=true):UG (Iq l)=(l,true,()):=by
 cases hl:l with
 |nil=>decide+kernel
 |cons x r=>
  rw[←hl]
  have hne:l≠[]:=by rw[hl];simp
  have h8:=ZY h
  unfold UG
  rw[show(Iq l==([]:List UInt8))=false by simpa using Kau h hne,H1 h hne,Aa (by simp;omega),Tam l 0 [] (TW h)]
  simp[h]
theorem Aam:Kc []=true∧Iq []=[]:=by
 have h:Kc []=true:=rfl
 exact⟨h,by rw[Wad h];rfl⟩
theorem FaK{s:List UInt8}(h:(UG s).2.1=true):Kc (UG s).1=true∧Iq (UG s).1=s:=by
 unfold UG at h⊢
 revert h
 cases hs:s==([]:List UInt8)with
 |true=>
  intro _
  rw[eq_of_beq hs]
  exact Aam
 |false=>
  simp only[zk]
  cases decide (8<(Wb 32 [] s).length)with
  |true=>intro h;simp at h
  |false=>
   simp only[zk]
   cases hf:Cb (fun _ o w=>NV o w) 0 [] (Wb 32 [] s)with
   |inr u=>intro h;simp at h
   |inl l=>
    simp only
    cases hm:Kc l with
    |false=>intro h;simp at h
    |true=>
     intro _
     have hi:=Yau _ _ _ _ hf
     refine⟨hm,?_⟩
     show Iq l=s
     rw[Wad hm,hi]
     simpa using Jw (b:=32) s []
theorem UaF{s:List UInt8}(h:(Gl s).2.1=true):Kc (Gl s).1=true∧Iq (Gl s).1=s:=by
 refine⟨Kae h,?_⟩
 unfold Gl at h⊢
 revert h
 cases hs:s==([]:List UInt8)with
 |true=>
  intro _
  rw[eq_of_beq hs]
  exact Aam.2
 |false=>
  simp only[zk]
  cases Cb (fun _ o w=>MV o w) 0 [] (Wb 32 [] s)with
  |inr u=>intro h;simp at h
  |inl l=>
   simp only
   cases hm:Kc l with
   |false=>intro h;simp at h
   |true=>
    cases ht:Iq l !=s with
    |true=>intro h;simp at h
    |false=>intro _;simpa using ht
theorem EaK(s:List UInt8)(h:(UG s).2.1=false):UG s=(([]:List Ua),false,()):=by
 unfold UG at h⊢
 revert h
 cases s==([]:List UInt8)with
 |true=>intro h;simp at h
 |false=>
  simp only[zk]
  cases decide (8<(Wb 32 [] s).length)with
  |true=>intro _;rfl
  |false=>
   simp only[zk]
   cases Cb (fun _ o w=>NV o w) 0 [] (Wb 32 [] s)with
   |inr u=>intro _;rfl
   |inl l=>
    simp only
    cases Kc l with
    |false=>intro _;rfl
    |true=>intro h;simp at h
theorem DaK(s:List UInt8)(h:(Gl s).2.1=false):Gl s=(([]:List Ua),false,()):=by
 unfold Gl at h⊢
 revert h
 cases s==([]:List UInt8)with
 |true=>intro h;simp at h
 |false=>
  simp only[zk]
  cases Cb (fun _ o w=>MV o w) 0 [] (Wb 32 [] s)with
  |inr u=>intro _;rfl
  |inl l=>
   simp only
   cases !Kc l||Iq l !=s with
   |true=>intro _;rfl
   |false=>intro h;simp at h
theorem VaF(s:List UInt8):UG s=Gl s:=by
 cases h1:(UG s).2.1 with
 |true=>
  obtain⟨a,b⟩:=FaK h1
  have e1:=Iag a
  have e2:=TaF a
  rw[b]at e1 e2
  rw[e1]
  exact(e2.trans (by rw[e1])).symm
 |false=>
  cases h2:(Gl s).2.1 with
  |true=>
   obtain⟨a,b⟩:=UaF h2
   have e1:=Iag a
   rw[b]at e1
   rw[e1]at h1
   simp at h1
  |false=>rw[EaK s h1,DaK s h2]
theorem KaQ:∀b:Fin 256,Ib Wd (j4 .i64 (Int.tdiv (j4 .i64 (b.val:Int)) 16))=some (LT (UInt8.ofNat b.val))∧Ib Wd (ye (j4 .i64 (b.val:Int)) 16)=some (MT (UInt8.ofNat b.val)):=by
 decide+kernel
theorem YaI(c:UInt8):Ib Wd (j4 .i64 (Int.tdiv (j4 .i64 (c.toNat:Int)) 16))=some (LT c)∧Ib Wd (ye (j4 .i64 (c.toNat:Int)) 16)=some (MT c):=by
 have h:=KaQ ⟨c.toNat,c.toNat_lt⟩
 rw[UInt8.ofNat_toNat]at h
 exact h
theorem Vao(l:List UInt8):My (Sc l)=some (C8 l,()):=by
 have hn:=RB l
 unfold C8
 by_cases h2:((ja l:Nat):Int)>2000
 ·rw[Ba h2]
  unfold My Uo
  have hst:Zi (Sc l) [] 0=some (.inr (.inl ((([]:List Int),()),()))):=by
   unfold Zi
   rw[Ba (show(0:Int)<((ja (Sc l):Nat):Int) by omega),Aa (show¬((ja (Sc l):Nat):Int)≤2000 by omega)];rfl
  have hl:=Vb (step:=fun x:(List Int×List Int×Int×Unit)×Unit=>Zi x.1.1 x.1.2.1 x.1.2.2.1) (x:=((Sc l,([]:List Int),(0:Int),()),())) hst
  erw[hl]
  rfl
 ·rw[Aa h2]
  have h:=(Ue (step:=fun x:(List Int×List Int×Int×Unit)×Unit=>Zi x.1.1 x.1.2.1 x.1.2.2.1) l (fun _ o (c:UInt8)=>jf o [((LT c).toNat:Int),((MT c).toNat:Int)])
   (fun o i=>((Sc l,o,i,()),())) (fun o=>.inl ((o,()),())) (fun k o=>o.length=2*k) (by
    intro k hk o ho
    refine⟨?_,by simp[ho];omega⟩
    have hx:=YaI l[k]
    have e:(Sc l)[k]'(by omega)=(l[k].toNat:Int):=by simp[Sc]
    simp only[Zi]
    rw[Ba (show(k:Int)<((ja (Sc l):Nat):Int) by omega),Ba (show((ja (Sc l):Nat):Int)≤2000 by omega),Nb (show k<(Sc l).length by omega)]
    simp only[zj,jb,show((16:Int)==0)=false from rfl,zk]
    rw[e,hx.1]
    simp only[jb]
    rw[hx.2]
    simp only[jb]
    rw[Ob (by simp;omega)]
    rfl) (by
    intro o ho
    simp only[Zi]
    rw[Aa (by omega)];rfl) (by omega) [] rfl).1
  have hf:∀(ys:List UInt8) (j:Nat) (o:List Int),Vc (fun _ o (c:UInt8)=>jf o [((LT c).toNat:Int),((MT c).toNat:Int)]) j o ys=o++Sc (S1 ys):=by
   intro ys
   induction ys with
   |nil=>intro j o;simp[Vc,S1,Sc]
   |cons y ys ih=>
    intro j o
    rw[Vc,ih]
    have e:S1 (y::ys)=[LT y,MT y]++S1 ys:=rfl
    rw[e,PX]
    simp[Sc]
  rw[hf]at h
  unfold My Uo
  erw[h]
  simp only[jb,qg,yi]
  rw[EY];rfl
theorem Ean{s:Qa}(h:Oi s)(w:List UInt8):TN s w=some (DU s w,()):=by
 have h20:Da=1048576:=rfl
 obtain⟨hE,hm,hq,hf,hn,hs⟩:=ZT h
 unfold TN DU
 cases w==CG with
 |true=>simp only[zj];rw[B1 (by omega)];rfl
 |false=>
 cases w==PB with
 |true=>
  simp only[zj,zk]
  rw[DQ hf _ (by omega) hE.hd]
  simp only[jb]
  rw[Qj (H0 _ _)];rfl
 |false=>
 cases w==QB with
 |true=>
  simp only[zj,zk]
  rw[Ks _ (by omega) hE.hd]
  simp only[jb]
  rw[PN _ (by have:=Ez (Jaj hE.hd);omega)];rfl
 |false=>
 cases w==OB with
 |true=>
  simp only[zj,zk]
  rw[Qj (by omega)];rfl
 |false=>
 cases w==NB with
 |true=>
  simp only[zj,zk]
  rw[I6 _ (by omega)]
  simp only[jb]
  have hr:∀r∈(s.2.1.map fun x=>x.2.1),r.2.1.length≤Da:=fun r hr=>by
   obtain⟨x,hx,rfl⟩:=ql.1 hr
   exact(RV h.s).2 x hx
  have ht:=Van (a:=((0:Int),([]:List Int),())) (by simp) hr
  rw[yu]at ht
  have hn:=h.n
  rw[Sah (by simp) hr (by simp;omega)]
  simp only[jb]
  rw[Ob (by omega),Vao];rfl
 |false=>rfl
theorem Q4(m:Ia)(M:List (List Ua))(hz:Ja Mb (Wn m M)≤Da):AH m M=some (FU m M):=by
 have h1:=UA (Wn m M) hz
 have h2:=Ir (Wn m M) hz
 unfold FU AH
 unfold Wn at h1 h2⊢
 rw[h1,h2]
 simp only[jb]
 cases Tg (m,M,(0:Int),([]:List Pa),(0:Int),false,())<;>rfl
theorem Fa0:Ja Mb ZaK≤Da:=by decide
theorem HT(s:Qa)(m:Ia)(M:List (List Ua))(t:Ua)(hz:Ja Mb (Wn m M)≤Da):Xg s m M t=some (H4 s m M t):=by
 unfold Xg H4 Xam GM
 rw[Q4 m M hz]
 unfold FU
 cases hE:Tg (Wn m M)with
 |false=>
  simp only[zk,jb]
  rw[SO ZaK t Fa0]
  rfl
 |true=>
  simp only[zj,jb]
  rw[SO _ _ hz]
  simp only[jb,jg,zk]
  cases(CS (Wn m M) t).2.1<;>rfl
theorem S4{s:Qa}(h:Oi s){r:Ab×(List Lc×(Bool×Unit))}(hr:r.2.2.1=true→LQ r.2.1∧r.2.1.length≤2000):Hk s r.1 r.2.1 r.2.2.1=some (RC s r):=by
 have h20:Da=1048576:=rfl
 unfold Hk RC
 cases hb:r.2.2.1 with
 |false=>rfl
 |true=>
  obtain⟨h2,h3⟩:=hr hb
  have hn:=h.n
  simp only[jg,zk]
  rw[Mf (by omega) (by omega)]
  by_cases hc:200<s.2.1.length+r.2.1.length
  ·rw[Ba hc,Ba (by omega)];rfl
  ·rw[Aa hc,Aa (by omega)]
   simp only[zk]
   obtain⟨i1,i2⟩:=RV h2
   rw[Ob (by omega),O4 _ i1 i2 (by omega)]
   rfl
theorem Fan{s:Qa}(hE:Ja Mb s.1.1≤Da)(hq:s.1.2.2.1.length≤Da)(hz:Ja (.sl Fd) s.2.1≤Da):UN s=some (s,()):=by
 have h20:Da=1048576:=rfl
 have h1:Ja (.sl Fd) s.2.1=ja s.2.1+(zg (Ja Fd) s.2.1).sum:=rfl
 obtain⟨⟨e,tm,q,rest⟩,l,⟨⟩⟩:=s
 simp only at hE hq hz h1
 have hl:=Yh (step:=fun x:(Unit×Unit×Unit×Int×Unit)×Qa×Qa×Qa×Unit=>AB x.1.1 x.1.2.1 x.1.2.2.1 x.1.2.2.2.1 x.2.1 x.2.2.1 x.2.2.2.1) l (fun x=>x)
  (fun o k=>(((),(),(),k,()),(((e,tm,q,rest),l,()),(Eo,([]:List Lc),()),((e,tm,q,rest),o,()),()))) (fun o=>.inl (((),(),()),((Eo,([]:List Lc),()),((e,tm,q,rest),o,()),()))) (by omega) (fun k hk o ho=>by
   simp only[AB]
   rw[Ba (by omega),Nb hk]
   simp only[zj,jb]
   rw[EQ _ (SV hz hk)]
   simp only[jb]
   rw[Ob (by simp only[jw,j6];omega)]
   rfl) (fun o=>by
   simp only[AB]
   rw[Aa (by omega)]
   rfl)
 unfold UN JC
 simp only
 rw[Ir _ hE]
 simp only[jb]
 rw[Ob (by simp;omega)]
 simp only[zj]
 erw[hl]
 rw[List.map_id']
 rfl
noncomputable def Iaj(s:Qa)(w:List UInt8)(n:List Int):Qa×(List UInt8×Unit):=
 cond ((w==Ad||w==[117,112])&&(((ja n:Nat):Int)==2)) (RC s (Lw s w n))
  (cond (w==Jc&&(((ja n:Nat):Int)==1)) (RC s (Lw s w n))
  (cond (w==Ed&&(((ja n:Nat):Int)==3)) (H4 s s.1.1.1 s.1.1.2.1 (n.getD 0 0,n.getD 1 0,n.getD 2 0,()))
  (cond (w==[119,97,121]&&(((ja n:Nat):Int)==2)) (Haf s n) (s,Za,()))))
theorem HaP:(Ad==Jc)=false∧(Ad==Ed)=false∧(Ad==([119,97,121]:List UInt8))=false∧(Ad==([117,112]:List UInt8))=false∧
 (([117,112]:List UInt8)==Jc)=false∧(([117,112]:List UInt8)==Ed)=false∧(([117,112]:List UInt8)==([119,97,121]:List UInt8))=false∧(([117,112]:List UInt8)==Ad)=false∧
 (Jc==Ed)=false∧(Jc==([119,97,121]:List UInt8))=false∧(Jc==Ad)=false∧(Jc==([117,112]:List UInt8))=false∧
 (Ed==([119,97,121]:List UInt8))=false∧(Ed==Ad)=false∧(Ed==([117,112]:List UInt8))=false∧(Ed==Jc)=false∧
 (([119,97,121]:List UInt8)==Ad)=false∧(([119,97,121]:List UInt8)==([117,112]:List UInt8))=false∧(([119,97,121]:List UInt8)==Jc)=false∧(([119,97,121]:List UInt8)==Ed)=false:=by decide
theorem BS(n:List Int)(k:Nat):((((ja n:Nat):Int)==(k:Int))=true∧n.length=k)∨((((ja n:Nat):Int)==(k:Int))=false∧n.length≠k):=by
 by_cases h:n.length=k
 ·exact .inl ⟨by simp[h],h⟩
 ·exact .inr ⟨by rw[beq_eq_false_iff_ne];omega,h⟩
theorem C7{s:Qa}(h:Oi s)(w:List UInt8)(hw:(w==Jc)=false){n:List Int}(hn:n.length=2):
 (cond (Rb (ja n) (1:Int)) (jz n[(jy (1:Int))]? fun x1=>(cond (Rb (ja n) (0:Int)) (jz n[(jy (0:Int))]? fun x2=>
  (jz (Er s.1 (x1,x2,(w==Ad),())) fun r3=>(jz (Hk s r3.1 r3.2.1 r3.2.2.1) fun r4=>(some (r4.1,r4.2.1,()))))) none)) none:Option (Qa×(List UInt8×Unit)))=some (RC s (Lw s w n)):=by
 have h20:Da=1048576:=rfl
 have hz:=Raa h.d
 match n,hn with
 |[a,b],_=>
 rw[show Rb (ja [a,b]) 0=true from rfl,show Rb (ja [a,b]) 1=true from rfl,show([a,b]:List Int)[jy 0]?=some a from rfl,show([a,b]:List Int)[jy 1]?=some b from rfl]
 simp only[zj,jb]
 unfold Lw
 rw[hw,show([a,b]:List Int).getD 0 0=a from rfl,show([a,b]:List Int).getD 1 0=b from rfl]
 rw[show Er s.1 (b,a,w==Ad,())=some (PA s.1 [(b,a,w==Ad,())] b) by
  unfold Er
  rw[IS _ _ _ (by omega) (by simp)];rfl]
 simp only[jb,zk]
 rw[S4 h fun hb=>(ZP hb).2]
 rfl
theorem Kan{s:Qa}(h:Oi s){n:List Int}(hn:n.length=1):
 (cond (Rb (ja n) (0:Int)) (jz n[(jy (0:Int))]? fun x5=>
  (jz (En s.1 x5) fun r6=>(jz (Hk s r6.1 r6.2.1 r6.2.2.1) fun r7=>(some (r7.1,r7.2.1,()))))) none:Option (Qa×(List UInt8×Unit)))=some (RC s (Lw s Jc n)):=by
 have h20:Da=1048576:=rfl
 have hz:=Raa h.d
 match n,hn with
 |[a],_=>
 rw[show Rb (ja [a]) 0=true from rfl,show([a]:List Int)[jy 0]?=some a from rfl]
 simp only[zj,jb]
 unfold Lw
 rw[show(Jc==Jc)=true by decide,show([a]:List Int).getD 0 0=a from rfl]
 rw[show En s.1 a=some (PA s.1 [] a) by
  unfold En
  rw[IS _ _ _ (by omega) (by simp)];rfl]
 simp only[jb,zj]
 rw[S4 h fun hb=>(ZP hb).2]
 rfl
theorem QaI{s:Qa}(h:Oi s):Ja Mb (Wn s.1.1.1 s.1.1.2.1)≤Da:=by
 have hF:=ZT h
 exact Y2 hF.mz (by have:=hF.e.m4;omega) hF.e.mac
theorem Xao{s:Qa}(h:Oi s){n:List Int}(hn:n.length=3):
 (cond (Rb (ja n) (0:Int)) (jz n[(jy (0:Int))]? fun x8=>(cond (Rb (ja n) (1:Int)) (jz n[(jy (1:Int))]? fun x9=>(cond (Rb (ja n) (2:Int)) (jz n[(jy (2:Int))]? fun x10=>
  (jz (Xg s s.1.1.1 s.1.1.2.1 (x8,x9,x10,())) fun r11=>(some (r11.1,r11.2.1,())))) none)) none)) none:Option (Qa×(List UInt8×Unit)))=some (H4 s s.1.1.1 s.1.1.2.1 (n.getD 0 0,n.getD 1 0,n.getD 2 0,())):=by
 match n,hn with
 |[a,b,c],_=>
 have:=HT s s.1.1.1 s.1.1.2.1 (a,b,c,()) (QaI h)
 show(jz (Xg s s.1.1.1 s.1.1.2.1 (a,b,c,())) fun r11=>(some (r11.1,r11.2.1,())))=_
 rw[this]
 rfl
theorem Yao{s:Qa}(h:Oi s){n:List Int}(hn:n.length=2):
 (cond (Rb (ja n) (0:Int)) (jz n[(jy (0:Int))]? fun x12=>(cond (Rb (ja n) (1:Int)) (jz n[(jy (1:Int))]? fun x13=>
  (jz (Fg s.1.1.1 x12 x13) fun r14=>(cond (!r14.2.1) (some (s,([110,111]:List UInt8),()))
   (jz (Cd (((),(),r14.1,([]:List (List UInt8)),(0:Int),()),(s,(Eo,([]:List Lc),()),()))) (Sum.elim (fun y21=>(jz (Vd y21.1.2.2.1 ([32]:List UInt8)) fun r23=>
    (cond (jx (ja Zb+ja r23.1) Wa) (some (((((y21.2.1.1.1.1.1,y21.2.1.1.1.1.2.1,()),y21.2.1.1.1.2),y21.2.1.1.2),y21.2.1.2.1,()),(jf Zb r23.1),())) none))) (fun z22=>none)))))) none)) none:Option (Qa×(List UInt8×Unit)))=some (Haf s n):=by
 have h20:Da=1048576:=rfl
 have hm:=(ZT h).mz
 match n,hn with
 |[a,b],_=>
 obtain⟨e1,_,e3,e4⟩:=Wan s.1.1.1 a b (by omega)
 unfold Haf
 rw[show Rb (ja [a,b]) 0=true from rfl,show Rb (ja [a,b]) 1=true from rfl,show([a,b]:List Int)[jy 0]?=some a from rfl,show([a,b]:List Int)[jy 1]?=some b from rfl,
  show([a,b]:List Int).getD 0 0=a from rfl,show([a,b]:List Int).getD 1 0=b from rfl]
 simp only[zj,jb]
 rw[e1]
 simp only[jb]
 generalize YV s.1.1.1 a b=v at e3 e4
 cases v.2.1 with
 |false=>rfl
 |true=>
  simp only[jg,zk]
  obtain⟨v,vb⟩:=v
  simp only at e3 e4⊢
  have hl:=Yh (step:=fun x:(Unit×Unit×List Int×List (List UInt8)×Int×Unit)×Qa×Qa×Unit=>Sq x.1.1 x.1.2.1 x.1.2.2.1 x.1.2.2.2.1 x.1.2.2.2.2.1 x.2.1 x.2.2.1) v Lib.itoa
   (fun o k=>(((),(),v,o,k,()),(s,(Eo,([]:List Lc),()),()))) (fun o=>.inl (((),(),o,()),(s,(Eo,([]:List Lc),()),()))) (by omega) (fun k hk2 o ho=>by
    have hx:=e4 v[k] (qj hk2)
    simp only[Sq]
    rw[Ba (by omega),Ve,Ba hk2]
    simp only[zj,jn]
    rw[je hk2]
    simp only[jb]
    rw[Qj (by omega)]
    simp only[jb]
    rw[Ob (by simp only[jw,j6];omega)]
    rfl) (fun o=>by
    simp only[Sq]
    rw[Aa (by omega)]
    rfl)
  unfold Cd
  erw[hl]
  simp only[jb,qg]
  have hjl:=Q9 e3 e4
  rw[Tk (by simp;omega) (by omega)]
  simp only[jb]
  rw[Ob (by simp only[Zb,jw,j6];omega)]
  rfl
theorem Fac{s:Qa}(h:Oi s)(w:List UInt8)(n:List Int):AE s w n=some (Iaj s w n):=by
 obtain⟨d1,d2,d3,d4,d5,d6,d7,d8,d9,d10,d11,d12,d13,d14,d15,d16,d17,d18,d19,d20⟩:=HaP
 unfold AE Iaj
 cases c1:w==Ad with
 |true=>
  have e:=eq_of_beq c1
  subst e
  simp only[zj,Bool.true_or,jk,d1,d2,d3,d4,qi,zk]
  rcases BS n 2 with⟨l1,l2⟩|⟨l1,l2⟩
  ·rw[show(((ja n:Nat):Int)==2)=true from l1]
   have:=C7 h Ad d1 l2
   rw[show(Ad==Ad)=true by decide]at this
   exact this
  ·rw[show(((ja n:Nat):Int)==2)=false from l1];rfl
 |false=>
 cases c2:w==([117,112]:List UInt8)with
 |true=>
  have e:=eq_of_beq c2
  subst e
  simp only[zj,zk,Bool.or_true,jk,d5,d6,d7,qi]
  rcases BS n 2 with⟨l1,l2⟩|⟨l1,l2⟩
  ·rw[show(((ja n:Nat):Int)==2)=true from l1]
   have:=C7 h [117,112] d5 l2
   rw[d8]at this
   exact this
  ·rw[show(((ja n:Nat):Int)==2)=false from l1];rfl
 |false=>
 cases c3:w==Jc with
 |true=>
  have e:=eq_of_beq c3
  subst e
  simp only[zj,zk,Bool.or_false,jk,d9,d10,qi]
  rcases BS n 1 with⟨l1,l2⟩|⟨l1,l2⟩
  ·rw[show(((ja n:Nat):Int)==1)=true from l1]
   exact Kan h l2
  ·rw[show(((ja n:Nat):Int)==1)=false from l1];rfl
 |false=>
 cases c4:w==Ed with
 |true=>
  have e:=eq_of_beq c4
  subst e
  simp only[zj,zk,Bool.or_false,jk,d13,qi]
  rcases BS n 3 with⟨l1,l2⟩|⟨l1,l2⟩
  ·rw[show(((ja n:Nat):Int)==3)=true from l1]
   exact Xao h l2
  ·rw[show(((ja n:Nat):Int)==3)=false from l1];rfl
 |false=>
 cases c5:w==([119,97,121]:List UInt8)with
 |true=>
  simp only[zj,zk,Bool.or_false,jk,qi]
  rcases BS n 2 with⟨l1,l2⟩|⟨l1,l2⟩
  ·rw[show(((ja n:Nat):Int)==2)=true from l1]
   exact Yao h l2
  ·rw[show(((ja n:Nat):Int)==2)=false from l1];rfl
 |false=>rfl
theorem BaV(t p:List UInt8)(h:As t p=true):t=p++t.drop p.length:=by
 unfold As at h
 simp only[jd]at h
 have:=eq_of_beq h.2
 exact(List.take_append_drop p.length t).symm.trans (by rw[this])
theorem WaP(p r:List UInt8):As (p++r) p=true:=by
 unfold As
 rw[Ba (by simp)]
 simp
theorem Kag{k:List UInt8}(hk:Om 32 k){t w:List UInt8}{W':List (List UInt8)}(hsp:Wb 32 [] t=w::W'):
 (As t (k++[32])=true→w=k∧W'≠[]∧t.drop (k++[32]).length=Lib.join W' [32])∧(w=k→W'≠[]→As t (k++[32])=true):=by
 refine⟨fun h=>?_,fun h1 h2=>?_⟩
 ·have e:=BaV t _ h
  have hs:Wb 32 [] t=k::Wb 32 [] (t.drop (k++[32]).length):=by
   conv=>lhs;rw[e]
   have e1:=HX (b:=32) k (32::t.drop (k++[32]).length) [] hk
   rw[show((UInt8.toNat 32:Nat):Int)=32 from rfl]at e1
   rw[q7,List.singleton_append,e1,yi,Wb]
   rfl
  rw[hsp]at hs
  simp only[yk]at hs
  obtain⟨rfl,rfl⟩:=hs
  refine⟨rfl,RL _ _ _,?_⟩
  have:=Jw (b:=32) (t.drop (w++[32]).length) []
  rw[yi]at this
  exact this.symm
 ·subst h1
  have e:=Jw (b:=32) t []
  rw[yi]at e
  have e2:t=Lib.join (w::W') [32]:=by rw[←hsp];exact e.symm
  cases hW:W' with
  |nil=>exact absurd hW h2
  |cons y r=>
   rw[hW,Fp,←q7]at e2
   rw[e2]
   exact WaP _ _
theorem WaD{t w:List UInt8}{W':List (List UInt8)}(hsp:Wb 32 [] t=w::W'):(Lib.join W' [32]).length≤t.length∧(W'=[]→w=t):=by
 have e:=Jw (b:=32) t []
 rw[yi]at e
 have e2:t=Lib.join (w::W') [32]:=by rw[←hsp];exact e.symm
 cases hW:W' with
 |nil=>
  rw[hW,Lib.join_one]at e2
  exact⟨by simp[Lib.join_nil],fun _=>e2.symm⟩
 |cons y r=>
  rw[hW,Fp]at e2
  refine⟨?_,fun h=>by simp at h⟩
  rw[e2]
  simp only[qd];omega
theorem M0{W:List (List UInt8)}{n:Int}(h:((ja W:Nat):Int)≠n+1):Cf W n=(([]:List Int),false,()):=by
 unfold Cf
 rw[show(((ja W:Nat):Int) !=n+1)=true by simpa using h]
 rfl
theorem FaH(s:Qa)(w:List UInt8):BO s [w]=(s,DU s w,()):=by
 unfold BO Y5 AY
 rw[M0 (W:=[w]) (n:=2) (by simp),M0 (W:=[w]) (n:=1) (by simp),M0 (W:=[w]) (n:=3) (by simp),show([w]:List (List UInt8)).getD 0 []=w from rfl]
 simp only[Bool.and_false,zk]
 rw[show((ja [w]:Nat):Int)==1 from rfl]
 simp only[zj]
 cases c1:w==Jc with
 |true=>rw[eq_of_beq c1];rfl
 |false=>
  cases c2:w==Ed with
  |true=>rw[eq_of_beq c2];rfl
  |false=>cases w==([119,97,121]:List UInt8)<;>rfl
theorem C4(w:List UInt8)(W':List (List UInt8))(k:Nat):Cf (w::W') (k:Int)=cond (((ja W':Nat):Int)==(k:Int)) (match Cb (fun _ o w=>FF o w) 0 [] W' with
 |.inl o=>(o,true,())
 |.inr _=>(([]:List Int),false,())) (([]:List Int),false,()):=by
 unfold Cf
 rw[show(w::W').drop 1=W' from rfl]
 by_cases h:W'.length=k
 ·rw[show(((ja (w::W'):Nat):Int) !=(k:Int)+1)=false by simp[h],show(((ja W':Nat):Int)==(k:Int))=true by simp[h]]
  rfl
 ·rw[show(((ja (w::W'):Nat):Int) !=(k:Int)+1)=true by rw[bne_iff_ne];simp only[jw];omega,show(((ja W':Nat):Int)==(k:Int))=false by rw[beq_eq_false_iff_ne];omega]
  rfl
noncomputable def HaA(s:Qa)(w:List UInt8)(W':List (List UInt8)):Qa×(List UInt8×Unit):=
 match Cb (fun _ o w=>FF o w) 0 [] W' with
 |.inl n=>Iaj s w n
 |.inr _=>(s,Za,())
theorem WaB(s:Qa)(w:List UInt8){W':List (List UInt8)}(hne:W'≠[]):BO s (w::W')=HaA s w W':=by
 obtain⟨d1,d2,d3,d4,d5,d6,d7,d8,d9,d10,d11,d12,d13,d14,d15,d16,d17,d18,d19,d20⟩:=HaP
 have hone:AY s (w::W') w=(s,Za,()):=by
  unfold AY
  have h0:0<W'.length:=List.length_pos_iff.2 hne
  rw[show(((ja (w::W'):Nat):Int)==1)=false by rw[beq_eq_false_iff_ne];simp only[jw];omega]
  rfl
 have n1:=C4 w W' 1
 have n2:=C4 w W' 2
 have n3:=C4 w W' 3
 rw[show((1:Nat):Int)=1 from rfl]at n1
 rw[show((2:Nat):Int)=2 from rfl]at n2
 rw[show((3:Nat):Int)=3 from rfl]at n3
 unfold BO Y5 HaA
 rw[show(w::W').getD 0 []=w from rfl,hone,n1,n2,n3]
 cases hf:Cb (fun _ o w=>FF o w) 0 [] W' with
 |inr u=>
  simp only
  have hc:∀b:Bool,(cond b (([]:List Int),false,()) (([]:List Int),false,()):List Int×(Bool×Unit))=(([]:List Int),false,()):=fun b=>by cases b<;>rfl
  rw[hc,hc,hc]
  simp only[Bool.and_false,zk]
  cases w==Jc with
  |true=>rfl
  |false=>
   cases w==Ed with
   |true=>rfl
   |false=>cases w==([119,97,121]:List UInt8)<;>rfl
 |inl n=>
  have hl:=Hae _ _ _ _ hf
  simp only[j6,js]at hl
  simp only
  rw[←hl]
  unfold Iaj
  cases c1:w==Ad with
  |true=>
   rw[eq_of_beq c1]
   simp only[d1,d2,d3,Bool.true_or,jk,qi,zk]
   cases((ja n:Nat):Int)==2<;>rfl
  |false=>
  cases c2:w==([117,112]:List UInt8)with
  |true=>
   rw[eq_of_beq c2]
   simp only[d5,d6,d7,yw,jk,qi,zk]
   cases((ja n:Nat):Int)==2<;>rfl
  |false=>
  cases c3:w==Jc with
  |true=>
   rw[eq_of_beq c3]
   simp only[d9,d10,yw,jk,qi,zk,zj]
   cases((ja n:Nat):Int)==1<;>rfl
  |false=>
  cases c4:w==Ed with
  |true=>
   rw[eq_of_beq c4]
   simp only[d13,yw,jk,qi,zk,zj]
   cases((ja n:Nat):Int)==3<;>rfl
  |false=>
  cases c5:w==([119,97,121]:List UInt8)with
  |true=>
   simp only[yw,jk,qi,zk,zj]
   cases((ja n:Nat):Int)==2<;>rfl
  |false=>rfl
theorem Jan(s:Qa)(w:List UInt8)(W':List (List UInt8))(hW:∀x∈W',x.length≤100000000)(hn:W'.length≤100000000):
 Ys (((),(),w::W',([]:List Int),(1:Int),()),((Eo,([]:List Lc),()),s,()))=some (match Cb (fun _ o w=>FF o w) 0 [] W' with
  |.inl n=>.inl (((),(),w::W',n,()),((Eo,([]:List Lc),()),s,()))
  |.inr _=>.inr (((),Za,()),(s,()))):=by
 have h:=W6 (step:=fun x:(Unit×Unit×List (List UInt8)×List Int×Int×Unit)×Qa×Qa×Unit=>TA x.1.1 x.1.2.1 x.1.2.2.1 x.1.2.2.2.1 x.1.2.2.2.2.1 x.2.1 x.2.2.1) W' (fun _ o w=>FF o w)
  (fun k o=>(((),(),w::W',o,((k+1:Nat):Int),()),((Eo,([]:List Lc),()),s,()))) (fun n=>.inl (((),(),w::W',n,()),((Eo,([]:List Lc),()),s,()))) (fun _=>.inr (((),Za,()),(s,()))) (fun k o=>o.length=k) (by
   intro k hk o ho
   have hx:=hW W'[k] (qj hk)
   refine⟨?_,fun o' h'=>?_⟩
   ·simp only[TA]
    rw[Ba (by simp only[jw];omega),Ve,Ba (by simp only[jw];omega)]
    simp only[zj,jn]
    rw[show(w::W')[k+1]?=some W'[k] by rw[List.getElem?_cons_succ,je hk]]
    simp only[jb]
    rw[XK hx,QaA]
    simp only[jb]
    unfold FF
    cases(Oj W'[k]).2.1 with
    |false=>rfl
    |true=>
     simp only[jg,zk,zj]
     rw[Ob (by simp only[jw,j6];omega),Gc (by omega)]
     rfl
   ·unfold FF at h'
    revert h'
    cases(Oj W'[k]).2.1 with
    |false=>intro h;simp at h
    |true=>
     intro h
     simp only[zj,ze]at h
     subst h
     simp[ho]) (by
   intro o ho
   simp only[TA]
   rw[Aa (by simp only[jw];omega)];rfl) [] rfl
 unfold Ys
 rw[show((0+1:Nat):Int)=1 from rfl]at h
 rw[h]
 cases Cb (fun _ o w=>FF o w) 0 [] W'<;>rfl
theorem Rae{s:Qa}(h:Oi s){t:List UInt8}(ht:t.length≤1048576):VB s t=some (doI s t):=by
 have h20:Da=1048576:=rfl
 have hz:=BaB h
 have hF:=ZT h
 have hez:=Uaa hF.e
 have hl:=Gz 32 t []
 have hp:=Rv 32 t []
 obtain⟨w,W',hsp⟩:=List.exists_cons_of_ne_nil (RL 32 t [])
 obtain⟨hj,hj1⟩:=WaD hsp
 have hk1:=Kag (k:=ZN) (B4 _ _ (by decide)) hsp
 have hk2:=Kag (k:=Kp) (B4 _ _ (by decide)) hsp
 rw[show ZN++[32]=Pk from rfl]at hk1
 rw[show Kp++[32]=Qk from rfl]at hk2
 rw[show Pk.length=5 from rfl]at hk1
 rw[show Qk.length=6 from rfl]at hk2
 unfold VB doI
 rw[(MS s (by omega)).1,(Pae s).2 h]
 simp only[jb,jg,zk]
 rw[Fan (by omega) (by have:=hF.q;omega) (by have:=hF.sz;omega)]
 simp only[jb]
 rw[Wt 32 (by omega)]
 rw[hsp]at hl hp⊢
 simp only[jb]
 have hok:Nd (ja (w::W')) 1 ((ja (w::W'):Nat):Int)=true:=Xh (lo:=1) (by simp) (jo _)
 have hcut:Hb (w::W') (jy 1) (jy ((ja (w::W'):Nat):Int))=W':=by
  rw[show jy 1=1 from rfl,jn]
  unfold Hb
  rw[List.take_length];rfl
 rw[hok,hcut]
 simp only[zj]
 simp only[jw]at hl
 rw[Tk (by omega) (by omega)]
 simp only[jb]
 cases he:t==([]:List UInt8)with
 |true=>rfl
 |false=>
 have hne:t≠[]:=by simpa using he
 simp only[zk]
 obtain⟨c,l,hcl⟩:=List.exists_cons_of_ne_nil hne
 rw[show Ib t 0=some c by rw[hcl];rfl,show t.getD 0 0=c by rw[hcl];rfl]
 simp only[jb]
 cases((UInt8.toNat c:Nat):Int)==35 with
 |true=>rfl
 |false=>
 simp only[zk]
 by_cases hW:W'=[]
 ·have hwt:=hj1 hW
  subst hW
  have p1:As t Pk=false:=by
   rw[←j9];intro hb
   exact(hk1.1 hb).2.1 rfl
  have p2:As t Qk=false:=by
   rw[←j9];intro hb
   exact(hk2.1 hb).2.1 rfl
  rw[p1,p2,show((ja [w]:Nat):Int)==1 from rfl]
  simp only[zj,zk]
  rw[Ean h,FaH,hwt]
  rfl
 ·have h0:0<W'.length:=List.length_pos_iff.2 hW
  rw[show(((ja (w::W'):Nat):Int)==1)=false by rw[beq_eq_false_iff_ne];simp only[jw];omega]
  simp only[zk]
  rw[show Rb (ja (w::W')) 0=true by simp[Rb],show(w::W')[jy 0]?=some w from rfl]
  simp only[zj,jb]
  cases c1:w==ZN with
  |true=>
   have p1:=hk1.2 (eq_of_beq c1) hW
   have hd:=(hk1.1 p1).2.2
   have hd5:(t.drop 5).length≤1048571:=by rw[qn];omega
   rw[p1,←hd]
   simp only[zj]
   unfold Gaj
   rw[H2 hd5,YaF]
   simp only[jb]
   cases hb:(Lm (t.drop 5)).2.1 with
   |false=>rfl
   |true=>
    simp only[jg,zk]
    rw[HT _ _ _ _ (Y2 (by have:=MaP (Lae hb);omega) (by have:=hF.e.m4;omega) hF.e.mac)]
    rfl
  |false=>
  have p1:As t Pk=false:=by
   rw[←j9];intro hb
   rw[(hk1.1 hb).1]at c1
   simp at c1
  rw[p1]
  simp only[zk]
  cases c2:w==Kp with
  |true=>
   have p2:=hk2.2 (eq_of_beq c2) hW
   have hd:=(hk2.1 p2).2.2
   have hd6:(t.drop 6).length≤1048571:=by rw[qn];omega
   rw[p2,←hd]
   simp only[zj]
   unfold FaA
   rw[R4 hd6,VaF]
   simp only[jb]
   cases hb:(Gl (t.drop 6)).2.1 with
   |false=>rfl
   |true=>
    simp only[jg,zk]
    have hm4:=hF.e.m4
    rw[Ob (by simp only[jw,j6];omega)]
    simp only[zj]
    rw[HT _ _ _ _ (Y2 (by have:=hF.mz;omega) (by rw[zh,qd];simp only[jw,j6];omega) fun x hx=>by
     rcases jl.1 (show x∈s.1.1.2.1++[(Gl (t.drop 6)).1]from hx)with hx|hx
     ·exact hF.e.mac x hx
     ·rw[qc.1 hx];exact Kae hb)]
    rfl
  |false=>
  have p2:As t Qk=false:=by
   rw[←j9];intro hb
   rw[(hk2.1 hb).1]at c2
   simp at c2
  rw[p2]
  simp only[zk]
  have hin:=Jan s w W' (fun x hx=>by have:=hp x (jr _ hx);simp at this;omega) (by omega)
  erw[hin]
  rw[WaB s w hW]
  unfold HaA
  cases Cb (fun _ o w=>FF o w) 0 [] W' with
  |inr u=>rfl
  |inl n=>
   simp only[jb,qg]
   rw[show Rb (ja (w::W')) 0=true by simp[Rb],show(w::W')[jy 0]?=some w from rfl]
   simp only[zj,jb]
   have:=Fac h w n
   erw[this]
   rfl
theorem Bao(s:Qa)(t:List UInt8)(_:Et Bc s)(_:Et .s t)(hz:Ja Bc s≤Da)(ht:Ja .s t≤Da):
 ∃w v,VB s t=some (w,v,())∧Aw s t=some (w,v,())∧Ja Bc w≤1*Da:=by
 have h20:Da=1048576:=rfl
 have ht':t.length≤1048576:=ht
 obtain⟨e1,e2⟩:=MS s hz
 cases hs:KA s with
 |false=>
  rw[hs]at e1 e2
  refine⟨(Eo,([]:List Lc),()),[98,97,100],?_,?_,by decide⟩
  ·unfold VB
   rw[e1];rfl
  ·unfold Aw
   rw[e2];rfl
 |true=>
  have h:=(Pae s).1 hs
  have hd:=RaX h t
  have hz2:=BaB hd.1
  exact⟨(doI s t).1,(doI s t).2.1,Rae h ht',Oad h ht',by omega⟩
theorem CaA(a0:Qa)(a1:(List UInt8))(hr0:Et Bc a0)(hr1:Et .s a1):Uu a0 a1=some (true,()):=by
 have h20:Da=1048576:=rfl
 have h40:Ie=1099511627776:=rfl
 unfold Uu
 by_cases l1:((ja a1:Nat):Int)>1048576
 ·rw[Ba l1];rfl
 rw[Aa l1]
 simp only[zk]
 have s0:=Qan a0 hr0 (1048576) (by omega)
 rw[show((1048576:Nat):Int)=1048576 from rfl]at s0
 rw[s0]
 simp only[jb]
 by_cases z0:Ja Bc a0≤1048576
 case neg=>rw[Gi z0];rfl
 rw[Fl z0,Aa (by omega)]
 simp only[zk]
 have hz0:Ja Bc a0≤Da:=by omega
 have hz1:Ja .s a1≤Da:=by show ja a1≤Da;omega
 obtain⟨w0,w1,e1,e2,b0⟩:=Bao a0 a1 hr0 hr1 hz0 hz1
 obtain⟨x0,k0,g0,i0,m0,n0,_⟩:=AZ a0 1 (by omega)
 rw[show((1:Nat):Int)=1 from rfl]at m0 n0
 have d0:decide ((k0:Int)<0)=false:=Aa (by omega)
 obtain⟨x1,k1,g1,i1,m1,n1,f1⟩:=AZ w0 1 (by omega)
 simp only[kf,true_and,and_true]at f1
 have q1:(((((w0.1.1.1.1,x1.1.1.1.2.1,()),x1.1.1.2.1,w0.1.1.2.2.1,x1.1.1.2.2.2.1,w0.1.1.2.2.2.2),w0.1.2.1,x1.1.2.2.1,w0.1.2.2.2),x1.2.1,()):Qa)=x1:=by simp only[Prod.ext_iff,f1,and_self]
 rw[show((1:Nat):Int)=1 from rfl]at m1 n1
 have d1:decide ((k1:Int)<0)=false:=Aa (by omega)
 simp only[e1,e2,Uan a0 hz0,Z2 a0 (by omega),Z2 w0 (by omega),m0,d0,q1,m1,d1,n1,jb,bne_self_eq_false',bne_self_eq_false,jg,zk]
end KF
