/- An evaluator of Go functions on plain data, its soundness, and plain laws on what the functions compute, part 5 (conditions: as each lemma tells). -/
import Derived.Test.YteooipbgmfmhfaaGreatDoorD
set_option linter.unusedSimpArgs false
set_option linter.unusedVariables false
namespace KF
open Go
open List renaming length → ja, getElem?_eq_getElem → je, append → jf, mem_append → jl, mem_cons → jp, mem_cons_of_mem → jr, length_cons → jw, set → j5, length_nil → j6, length_set → j7, mem_singleton → qc, length_append → qd, getD_eq_getElem?_getD → qf, getElem_mem → qj, getElem_of_mem → qk, mem_map → ql, getElem?_set_self → qm, length_drop → qn, ext_getElem? → qr, drop_drop → qs, toArray → qt, getD → qu, getElem?_eq_none → qv, mem_append_left → qw, mem_append_right → qx, any_eq_true → q0, append_assoc → q7, eq_nil_of_length_eq_zero → q9, getElem?_eq_some_iff → ya, length_eq_one_iff → yb, replicate → yf, nil_append → yi, cons_append → yj, map_cons → ym, nodup_cons → yo, nodup_append → yp, size_toArray → yq, flatten_cons → yr, length_map → yu, mem_map_of_mem → yx, map_append → yy, all_eq_true → yz, append_nil → y3, range → zb, map → zg, append_eq → zh, not_mem_nil → zi
open Option renaming bind_some → jb, bind → jz, map_some → qb, bind_eq_some_iff → qe, getD_some → q6, map_eq_some_iff → za
open Option.some renaming injEq → jc, inj → zf
open Bool renaming and_eq_true → jd, not_true → jg, true_and → jk, false_eq_true → jq, not_false → j8, not_eq_true → j9, false_and → qi, eq_iff_iff → qo, or_eq_true → qz, not_eq_true' → yn, or_eq_false_iff → yv, false_or → yw
open Prod.mk renaming injEq → jh
open Nat renaming ble_eq_true_of_le → ji, mul_le_mul_right → jm, le_refl → jo, zero_add → js, add_assoc → jt, eq_of_beq_eq_true → ju, ble → jx, le_trans → qa, lt_of_lt_of_le → qh, beq → qy, le_of_ble_eq_true → q8, add_zero → yc, blt → yd, blt_eq → yg, add_mul → yh, beq_refl → yl, succ_mul → yt, zero_le → zd
open Int renaming toNat_natCast → jn, eq_ofNat_of_zero_le → jv, toNat → jy, tmod → ye
open Go.IntKind renaming wrap → j4
open Sum renaming elim_inl → qg
open Result renaming andThen_ok → qp
open Sem renaming run_bind → qq
open List.cons renaming injEq → yk
open Sum.inl renaming injEq → ze
theorem Aab{α β:Type}(f:α→β):∀(xs:List α) (k:Nat) (o:List β),Vc (fun _ o x=>jf o [f x]) k o xs=o++xs.map f
 |[],_,o=>by simp[Vc]
 |x::r,k,o=>by
  simp only[Vc]
  rw[Aab f r]
  simp
theorem Yh{X R α β:Type}{step:X→Option (X⊕R)}(xs:List α)(f:α→β)(I:List β→Int→X)(out:List β→R)(hn:xs.length≤1073741824)
 (h:∀k (hk:k<xs.length) (o:List β),ja o=k→step (I o (k:Int))=some (.inl (I (jf o [f xs[k]]) (j4 .i64 ((k:Int)+1)))))
 (he:∀o:List β,step (I o (xs.length:Int))=some (.inr (out o))):Va step (I [] 0)=some (out (xs.map f)):=by
 have:=(Ue (step:=step) xs (fun _ o x=>jf o [f x]) I out (fun k o=>ja o=k) (fun k hk o ho=>⟨h k hk o ho,by simp[ho]⟩) (fun o _=>he o) (by omega) [] rfl).1
 rw[this,Aab]
 rfl
theorem YaZ(a:List Int):Ja (.sl int) a=a.length:=Lp (e:=int) rfl a
theorem W4(a:List Ma):Ja (.sl Db) a=a.length:=Lp (e:=Db) rfl a
theorem Oan(r:Ca):Ja Jb r=r.2.1.length:=by
 show 0+(Ja (.sl int) r.2.1+0)=_
 rw[YaZ];omega
theorem EQ(r:Ca)(h:r.2.1.length≤Da):XB r=some (r,()):=by
 have h20:Da=1048576:=rfl
 unfold XB
 rw[Ob (by simp;omega)]
 rfl
theorem KK(l:List Int)(h:l.length≤Da):Lk l=some (l,()):=by
 have h20:Da=1048576:=rfl
 unfold Lk
 rw[Ob (by simp;omega)]
 rfl
theorem XR(r:Ca)(h:r.2.1.length≤Da):Pu r=some (r,()):=by
 unfold Pu
 rw[KK _ h]
 rfl
theorem SV{a:List Lc}(hz:Ja (.sl Fd) a≤Da){k:Nat}(hk:k<a.length):a[k].2.1.2.1.length≤Da:=by
 have h1:Ja (.sl Fd) a=ja a+(zg (Ja Fd) a).sum:=rfl
 have h2:=Sv (f:=Ja Fd) hk
 have h3:Ja Fd a[k]=Ja Jb a[k].2.1:=by
  show 0+(Ja Jb a[k].2.1+0)=_
  omega
 rw[Oan]at h3
 omega
theorem B6(a:List Lc)(hz:Ja (.sl Fd) a≤Da):KG a=some (a.map (fun x=>x.2.1),()):=by
 have h20:Da=1048576:=rfl
 have h1:Ja (.sl Fd) a=ja a+(zg (Ja Fd) a).sum:=rfl
 have hl:=Yh (step:=fun x:(List Ca×List Lc×Int×Int×Unit)×Unit=>Iu x.1.1 x.1.2.1 x.1.2.2.1 x.1.2.2.2.1) a (fun x=>x.2.1)
  (fun o k=>((o,a,(a.length:Int),k,()),())) (fun o=>.inl ((o,()),())) (by omega) (fun k hk o ho=>by
   simp only[Iu]
   rw[Ba (by omega),Nb hk]
   simp only[zj,jb]
   rw[XR _ (SV hz hk)]
   simp only[jb]
   rw[Ob (by simp only[jw,j6];omega)]
   rfl) (fun o=>by
   simp only[Iu]
   rw[Aa (by omega)]
   rfl)
 unfold KG Sx
 erw[hl]
 rfl
theorem I6(a:List Lc)(hz:Ja (.sl Fd) a≤Da):BH a=some (a.map (fun x=>x.2.1),()):=by
 have h20:Da=1048576:=rfl
 have h1:Ja (.sl Fd) a=ja a+(zg (Ja Fd) a).sum:=rfl
 have hl:=Yh (step:=fun x:(List Lc×List Ca×Int×Unit)×Unit=>Kv x.1.1 x.1.2.1 x.1.2.2.1) a (fun x=>x.2.1)
  (fun o k=>((a,o,k,()),())) (fun o=>.inl ((o,()),())) (by omega) (fun k hk o ho=>by
   simp only[Kv]
   rw[Ba (by omega),Nb hk]
   simp only[zj,jb]
   rw[EQ _ (SV hz hk)]
   simp only[jb]
   rw[Ob (by simp only[jw,j6];omega)]
   rfl) (fun o=>by
   simp only[Kv]
   rw[Aa (by omega)]
   rfl)
 unfold BH Qy
 erw[hl]
 rfl
def JF(l:List Int)(k:Nat)(x:Int):Bool:=decide (1≤x∧x≤56)&&(decide (k=0)||!decide (l.getD (k-1) 0≥x))
def Xc(r:Ca):Bool:=decide (0≤r.1∧r.1≤15)&&Ig (fun k x=>JF r.2.1 k x) 0 r.2.1
theorem Vam{l:List Int}{k:Nat}(h0:0<k)(hk:k≤l.length)(hn:l.length≤Da):Ib l (j4 .i64 ((k:Int)-1))=some (l.getD (k-1) 0):=by
 have h20:Da=1048576:=rfl
 rw[Mf (by omega) (by omega),show(k:Int)-1=((k-1:Nat):Int) by omega,Nb (by omega)]
 simp[qu,je (show k-1<l.length by omega)]
theorem Yz(r:Ca)(hn:r.2.1.length≤Da):Ep r=some (Xc r,()):=by
 have h20:Da=1048576:=rfl
 have hl:=Kh (step:=fun x=>Uw x.1.1 x.1.2.1 x.1.2.2.1 x.1.2.2.2.1 x.2.1) r.2.1 (fun k x=>JF r.2.1 k x) (fun i=>(((),r.2.1,((ja r.2.1:Nat):Int),i,()),(r,())))
  (.inl ((),())) (.inr ((false,()),())) (by
   intro k hk
   simp only[Uw]
   rw[Ba (show(k:Int)<((ja r.2.1:Nat):Int) by omega),Nb hk]
   simp only[zj,jb,Um,JF]
   by_cases h0:k=0
   ·subst h0
    rw[Aa (show¬((0:Nat):Int)>0 by omega)]
    simp only[zk]
    cases decide (1≤r.2.1[0]∧r.2.1[0]≤56)<;>rfl
   ·rw[Ba (show(k:Int)>0 by omega),Vam (by omega) (by omega) hn,Aa h0]
    simp only[zj,jb,yw]
    cases decide (1≤r.2.1[k]∧r.2.1[k]≤56)<;>cases decide (r.2.1.getD (k-1) 0≥r.2.1[k])<;>rfl) (by
   simp only[Uw]
   rw[Aa (by omega)];rfl) (by omega)
 unfold Ep Xz Xc
 by_cases h1:0≤r.1∧r.1≤15
 ·rw[Aa (show¬r.1<0 by omega),Aa (show¬r.1>15 by omega),Ba h1]
  simp only[zk,jk]
  erw[hl]
  cases Ig (fun k x=>JF r.2.1 k x) 0 r.2.1<;>rfl
 ·rw[Aa h1]
  by_cases h2:r.1<0
  ·rw[Ba h2];rfl
  ·rw[Aa h2,Ba (show r.1>15 by omega)];rfl
theorem Cn(r:Ca)(hn:r.2.1.length≤Da):Ip r=some (Xc r,()):=by
 have h20:Da=1048576:=rfl
 have hl:=Kh (step:=fun x=>Hx x.1.1 x.1.2.1 x.2.1) r.2.1 (fun k x=>JF r.2.1 k x) (fun i=>(((),i,()),(r,())))
  (.inl (((),()),(r,()))) (.inr ((false,()),())) (by
   intro k hk
   simp only[Hx]
   rw[Ba (show(k:Int)<((ja r.2.1:Nat):Int) by omega),Nb hk]
   simp only[zj,jb,Bd,JF]
   by_cases h0:k=0
   ·subst h0
    rw[Aa (show¬((0:Nat):Int)>0 by omega)]
    simp only[zk]
    cases decide (1≤r.2.1[0]∧r.2.1[0]≤56)<;>rfl
   ·rw[Ba (show(k:Int)>0 by omega),Vam (by omega) (by omega) hn,Aa h0]
    simp only[zj,jb,yw]
    cases decide (1≤r.2.1[k]∧r.2.1[k]≤56)<;>cases decide (r.2.1.getD (k-1) 0≥r.2.1[k])<;>rfl) (by
   simp only[Hx]
   rw[Aa (by omega)];rfl) (by omega)
 unfold Ip VA Xc
 erw[hl]
 cases Ig (fun k x=>JF r.2.1 k x) 0 r.2.1 with
 |true=>simp only[zj,jb,qg,Bd,Bool.and_true]
 |false=>cases decide (0≤r.1∧r.1≤15)<;>rfl
def Ly(x:Lc):Bool:=decide (0≤x.1∧x.1≤1000000)&&Xc x.2.1
noncomputable def KA(s:Qa):Bool:=Od s.1&&(decide (s.2.1.length≤200)&&Ig (fun _ x=>Ly x) 0 s.2.1)
theorem DaG(s:Qa):Ja Bc s=Ja Ac s.1+Ja (.sl Fd) s.2.1:=by
 simp only[Ja,yc,js]
theorem MS(s:Qa)(hz:Ja Bc s≤Da):ZG s=some (KA s,())∧IG s=some (KA s,()):=by
 have h20:Da=1048576:=rfl
 rw[DaG]at hz
 have hlen:=Caf (e:=Fd) s.2.1
 have hrep:∀k (hk:k<s.2.1.length),s.2.1[k].2.1.2.1.length≤Da:=fun k hk=>SV (by omega) hk
 have hs:=Kh (step:=fun x=>Fv x.1.1 x.1.2.1 x.2.1) s.2.1 (fun _ x=>Ly x) (fun i=>(((),i,()),(s,())))
  (.inl (((),()),(s,()))) (.inr ((false,()),())) (by
   intro k hk
   simp only[Fv]
   rw[Ba (show(k:Int)<((ja s.2.1:Nat):Int) by omega),Nb hk]
   simp only[zj,jb,Bd,Ly]
   rw[Cn _ (hrep k hk)]
   simp only[jb]
   cases decide (0≤s.2.1[k].1∧s.2.1[k].1≤1000000)<;>cases Xc s.2.1[k].2.1<;>rfl) (by
   simp only[Fv]
   rw[Aa (by omega)];rfl) (by omega)
 have hi:=Kh (step:=fun x=>Fu x.1.1 x.1.2.1 x.1.2.2.1) s.2.1 (fun _ x=>Ly x) (fun i=>((s.2.1,((ja s.2.1:Nat):Int),i,()),()))
  (.inl ((),())) (.inr ((false,()),())) (by
   intro k hk
   simp only[Fu]
   rw[Ba (show(k:Int)<((ja s.2.1:Nat):Int) by omega),Nb hk]
   simp only[zj,jb,Ly]
   rw[Yz _ (hrep k hk)]
   simp only[jb]
   by_cases h1:0≤s.2.1[k].1∧s.2.1[k].1≤1000000
   ·rw[Aa (show¬s.2.1[k].1<0 by omega),Aa (show¬s.2.1[k].1>1000000 by omega),Ba h1]
    cases Xc s.2.1[k].2.1<;>rfl
   ·rw[Aa h1]
    by_cases h2:s.2.1[k].1<0
    ·rw[Ba h2];rfl
    ·rw[Aa h2,Ba (show s.2.1[k].1>1000000 by omega)];rfl) (by
   simp only[Fu]
   rw[Aa (by omega)];rfl) (by omega)
 refine⟨?_,?_⟩
 ·unfold ZG Oy KA
  erw[hs]
  cases Ig (fun _ x=>Ly x) 0 s.2.1 with
  |false=>cases Od s.1<;>cases decide (s.2.1.length≤200)<;>rfl
  |true=>
   simp only[zj,jb,qg]
   rw[YH _ (by omega)]
   simp only[jb,Bool.and_true]
   have e1:decide (((ja s.2.1:Nat):Int)≤200)=decide (s.2.1.length≤200):=by rw[decide_eq_decide];omega
   rw[e1]
   cases Od s.1<;>rfl
 ·unfold IG Rx KA
  rw[PH _ (by omega)]
  cases Od s.1 with
  |false=>rfl
  |true=>
   simp only[jb,jg,zk,jk]
   by_cases h1:s.2.1.length≤200
   ·rw[Aa (show¬((ja s.2.1:Nat):Int)>200 by omega),Ba h1]
    simp only[zk,jk]
    erw[hi]
    cases Ig (fun _ x=>Ly x) 0 s.2.1<;>rfl
   ·rw[Ba (show((ja s.2.1:Nat):Int)>200 by omega),Aa h1];rfl
theorem p63:(2:Nat)^63=9223372036854775808:=rfl
theorem NY{a:Nat}(ha:a<2^63):(BitVec.ofInt 64 (a:Int)).toNat=a:=by
 rw[BitVec.ofInt_natCast,BitVec.toNat_ofNat,Nat.mod_eq_of_lt (by omega)]
theorem ZaI{a b:Nat}(ha:a<2^63)(hb:b<2^63):Ih .i64 (a:Int) (b:Int)=((a&&&b:Nat):Int):=by
 have h:(BitVec.ofInt (IntKind.bits .i64) (a:Int)&&&BitVec.ofInt (IntKind.bits .i64) (b:Int)).toNat=a&&&b:=by
  rw[BitVec.toNat_and];erw[NY ha,NY hb]
 unfold Ih
 rw[h]
 have h2:a&&&b≤a:=Nat.and_le_left
 have h3:=p63
 exact Mf (by omega) (by omega)
theorem Uad{a b:Nat}(ha:a<2^63)(hb:b<2^63):Fe .i64 (a:Int) (b:Int)=((a|||b:Nat):Int):=by
 have h:(BitVec.ofInt (IntKind.bits .i64) (a:Int)|||BitVec.ofInt (IntKind.bits .i64) (b:Int)).toNat=a|||b:=by
  rw[BitVec.toNat_or];erw[NY ha,NY hb]
 unfold Fe
 rw[h]
 have h2:a|||b<2^63:=Nat.or_lt_two_pow ha hb
 have h3:=p63
 exact Mf (by omega) (by omega)
theorem K8{a b:Nat}(ha:a<2^63)(hb:b<2^63):Kt .i64 (a:Int) (b:Int)=((a^^^b:Nat):Int):=by
 have h:(BitVec.ofInt (IntKind.bits .i64) (a:Int)^^^BitVec.ofInt (IntKind.bits .i64) (b:Int)).toNat=a^^^b:=by
  rw[BitVec.toNat_xor];erw[NY ha,NY hb]
 unfold Kt
 rw[h]
 have h2:a^^^b<2^63:=Nat.xor_lt_two_pow ha hb
 have h3:=p63
 exact Mf (by omega) (by omega)
theorem EaJ(a:Nat){k:Nat}(hk:k≤64):Cy .i64 (a:Int) (k:Int)=((a>>>k:Nat):Int):=by
 unfold Cy
 have h1:min (jy (k:Int)) (IntKind.bits .i64)=k:=by
  show min (jy (k:Int)) 64=k
  rw[jn];omega
 rw[h1,Nat.shiftRight_eq_div_pow]
 have h2:(2:Int)^k=((2^k:Nat):Int):=by simp
 rw[h2]
 exact(Int.fdiv_eq_ediv_of_nonneg _ (Int.natCast_nonneg _)).trans (by simp)
theorem DaJ{a k:Nat}(h:a*2^k<2^63)(hk:k≤64):Te .i64 (a:Int) (k:Int)=((a<<<k:Nat):Int):=by
 unfold Te
 have h1:min (jy (k:Int)) (IntKind.bits .i64)=k:=by
  show min (jy (k:Int)) 64=k
  rw[jn];omega
 have h2:(2:Int)^k=((2^k:Nat):Int):=by simp
 have h4:(a:Int)*((2^k:Nat):Int)=((a*2^k:Nat):Int):=by simp
 rw[h1,Nat.shiftLeft_eq,h2,h4]
 have h3:=p63
 generalize a*2^k=z at*
 exact Mf (by omega) (by omega)
theorem MU{a k:Nat}(ha:a<2^63)(hk:k≤64):(Im (a:Int) (k:Int)==1)=a.testBit k:=by
 unfold Im
 have h1:a>>>k≤a:=by rw[Nat.shiftRight_eq_div_pow];exact Nat.div_le_self _ _
 have h3:=p63
 rw[EaJ a hk]
 show(Ih .i64 ((a>>>k:Nat):Int) ((1:Nat):Int)==1)=_
 rw[ZaI (by omega) (by omega),Nat.and_one_is_mod,Nat.testBit_eq_decide_div_mod_eq,Nat.shiftRight_eq_div_pow]
 have:a/2^k%2=0∨a/2^k%2=1:=by omega
 rcases this with h|h<;>rw[h]<;>rfl
theorem MN{k:Nat}(hk:k≤62):(2:Nat)^k<2^63:=Nat.pow_lt_pow_right (by omega) (by omega)
def cnt:Nat→Nat→Nat
 |0,_=>0
 |k+1,n=>n%2+cnt k (n/2)
def u1(a:Nat):Nat:=((a/2)&&&85)+(a&&&85)
def u2(a:Nat):Nat:=((a/4)&&&51)+(a&&&51)
theorem m3:∀a:Fin 64,∀c:Fin 4,(a.val&&&51)=(a.val+64*c.val)&&&51:=by decide+kernel
def M5:Nat:=6148914691236517205
def M3:Nat:=3689348814741910323
def MF:Nat:=1085102592571150095
def s1(n:Nat):Nat:=(n/2&&&M5)+(n&&&M5)
def s2(n:Nat):Nat:=(n/4&&&M3)+(n&&&M3)
def s3(n:Nat):Nat:=(n/16+n)&&&MF


def rowN(C m r:Nat):Nat:=(m>>>(r*C))&&&(2^C-1)
def J1(C a b m:Nat):Nat:=cond (rowN C m a&&&rowN C m b !=0) (m|||rowN C m b<<<(a*C)) m
def g3(C a:Nat):Nat→Nat→Nat:=fun b m=>J1 C a b m
def g2(C R:Nat):Nat→Nat→Nat:=fun a m=>MK (g3 C a) R m
def g1(C R:Nat):Nat→Nat→Nat:=fun _ m=>MK (g2 C R) R m




theorem Tak{q:List Ya}{d keys:Int}(h:Gf q d keys=true):Ay (Cb (fun _ s x=>KE s x) 0 (0,d) q)=true:=by
 simp only[Gf,FL,Yak,jd]at h
 have h2:=h.2
 cases hf:Cb (fun _ s x=>KE s x) 0 (0,d) q with
 |inl s=>rfl
 |inr u=>rw[hf]at h2;cases hd:decide (q.length≤64)<;>rw[hd]at h2<;>simp at h2
theorem Pal{m:Ia}(hz:Ja Xa m≤Da):ja m.2.1≤Da∧∀k (hk:k<m.2.1.length),m.2.1[k].length≤Da:=by
 have h0:Ja Xa m=0+(Ja (.sl (.sl Db)) m.2.1+0):=rfl
 have h1:Ja (.sl (.sl Db)) m.2.1=ja m.2.1+(zg (Ja (.sl Db)) m.2.1).sum:=rfl
 refine⟨by omega,fun k hk=>?_⟩
 have h2:=Sv (f:=Ja (.sl Db)) hk
 rw[W4]at h2
 omega
theorem WR(m:Ia)(hz:Ja Xa m≤Da):Ou m=some (m,()):=by
 have h20:Da=1048576:=rfl
 obtain⟨h1,h2⟩:=Pal hz
 have hl:=Yh (step:=fun x:(Unit×Unit×List (List Ma)×Int×Int×Unit)×Ia×Ia×Unit=>Ss x.1.1 x.1.2.1 x.1.2.2.1 x.1.2.2.2.1 x.1.2.2.2.2.1 x.2.1 x.2.2.1) m.2.1 (fun x=>x)
  (fun o k=>(((),(),m.2.1,(m.2.1.length:Int),k,()),((0,[],()),(m.1,o,()),()))) (fun o=>.inl (((),(),()),((0,[],()),(m.1,o,()),()))) (by omega) (fun k hk o ho=>by
   have:=h2 k hk
   simp only[Ss]
   rw[Ba (by omega),Nb hk]
   simp only[zj,jb]
   rw[Ob (by simp;omega),Ob (by simp only[jw,j6];omega)]
   rfl) (fun o=>by
   simp only[Ss]
   rw[Aa (by omega)]
   rfl)
 unfold Ou Fw
 erw[hl]
 rw[List.map_id']
 rfl
theorem Wae(m:Ia)(hz:Ja Xa m≤Da):KR m=some (m,()):=by
 have h20:Da=1048576:=rfl
 obtain⟨h1,h2⟩:=Pal hz
 have hl:=Yh (step:=fun x:(Unit×Unit×Unit×Int×Unit)×Ia×Ia×Ia×Unit=>BE x.1.1 x.1.2.1 x.1.2.2.1 x.1.2.2.2.1 x.2.1 x.2.2.1 x.2.2.2.1) m.2.1 (fun x=>x)
  (fun o k=>(((),(),(),k,()),(m,(0,[],()),(m.1,o,()),()))) (fun o=>.inl (((),(),()),((0,[],()),(m.1,o,()),()))) (by omega) (fun k hk o ho=>by
   have:=h2 k hk
   simp only[BE]
   rw[Ba (by omega),Nb hk]
   simp only[zj,jb]
   rw[Ob (by simp;omega),Ob (by simp only[jw,j6];omega)]
   rfl) (fun o=>by
   simp only[BE]
   rw[Aa (by omega)]
   rfl)
 unfold KR YF
 erw[hl]
 rw[List.map_id']
 rfl
theorem Rag{L:List (List Ua)}(hz:Ja (.sl (.sl Xb)) L≤Da):ja L≤Da∧∀k (hk:k<L.length),L[k].length≤Da:=by
 have h1:Ja (.sl (.sl Xb)) L=ja L+(zg (Ja (.sl Xb)) L).sum:=rfl
 refine⟨by omega,fun k hk=>?_⟩
 have h2:=Sv (f:=Ja (.sl Xb)) hk
 rw[Daf]at h2
 omega
theorem QE(L:List (List Ua))(hz:Ja (.sl (.sl Xb)) L≤Da):Po L=some (L,()):=by
 have h20:Da=1048576:=rfl
 obtain⟨h1,h2⟩:=Rag hz
 have hl:=Yh (step:=fun x=>Ts x.1.1 x.1.2.1 x.1.2.2.1 x.1.2.2.2.1) L (fun x=>x)
  (fun o k=>((o,L,((ja L:Nat):Int),k,()),())) (fun o=>.inl ((o,()),())) (by omega) (fun k hk o ho=>by
   have:=h2 k hk
   simp only[Ts]
   rw[Ba (by omega),Nb hk]
   simp only[zj,jb]
   rw[Ob (by simp;omega),Ob (by simp only[jw,j6];omega)]
   rfl) (fun o=>by
   simp only[Ts]
   rw[Aa (by omega)]
   rfl)
 unfold Po Gw
 erw[hl]
 rw[List.map_id']
 rfl
theorem Nu(e:Gb)(hz:Ja Mb e≤Da):Rl e=some (e,()):=by
 have h20:Da=1048576:=rfl
 rw[Pl,Yt]at hz
 unfold Rl
 rw[WR _ (by omega),QE _ (by omega),Ob (by simp;omega)]
 rfl
theorem GO(d:Ab)(hz:Ja Ac d≤Da):Tm d=some (d,()):=by
 have h20:Da=1048576:=rfl
 rw[VU,AL]at hz
 unfold Tm
 rw[Nu _ (by omega),Ob (by simp;omega)]
 rfl
theorem Ir(e:Gb)(hz:Ja Mb e≤Da):Kl e=some (e,()):=by
 have h20:Da=1048576:=rfl
 rw[Pl,Yt]at hz
 obtain⟨h1,h2⟩:=Rag (L:=e.2.1) (by omega)
 have hl:=Yh (step:=fun x=>DE x.1.1 x.1.2.1 x.1.2.2.1 x.1.2.2.2.1 x.2.1 x.2.2.1 x.2.2.2.1) e.2.1 (fun x=>x)
  (fun o k=>(((),(),(),k,()),(e,(((0:Int),([]:List (List Ma)),()),([]:List (List Ua)),(0:Int),([]:List Pa),(0:Int),false,()),(e.1,o,e.2.2),())))
  (fun o=>.inl (((),(),(),()),(e,(((0:Int),([]:List (List Ma)),()),([]:List (List Ua)),(0:Int),([]:List Pa),(0:Int),false,()),(e.1,o,e.2.2),()))) (by omega) (fun k hk o ho=>by
   have:=h2 k hk
   simp only[DE]
   rw[Ba (by omega),Nb hk]
   simp only[zj,jb]
   rw[Ob (by simp;omega),Ob (by simp only[jw,j6];omega)]
   rfl) (fun o=>by
   simp only[DE]
   rw[Aa (by omega)]
   rfl)
 unfold Kl AG
 rw[Wae _ (by omega)]
 simp only[jb]
 erw[hl]
 rw[List.map_id']
 simp only[jb,qg]
 rw[Ob (by simp;omega)]
 rfl
theorem Jal:∀(a b:List Int),a.length=b.length→Ig (fun k x=>b.getD k 0==x) 0 a=(b==a)
 |a,b,h=>by
  rw[qo,Bz,beq_iff_eq]
  constructor
  ·intro hj
   apply List.ext_getElem h.symm
   intro i h1 h2
   have:=hj i h2
   rw[js,beq_iff_eq,qf,je h1]at this
   exact this
  ·rintro rfl i hi
   rw[js,beq_iff_eq,qf,je hi];rfl
theorem J8(a b:List Int)(hn:a.length≤Wa):IJ a b=some (a==b,()):=by
 have hlim:=Bg
 unfold IJ
 by_cases h:a.length=b.length
 ·have hl:=Kh (step:=fun x=>Yw x.1.1 x.1.2.1 x.1.2.2.1 x.1.2.2.2.1) a (fun k x=>b.getD k 0==x) (fun i=>((a,b,((ja a:Nat):Int),i,()),()))
   (.inl ((),())) (.inr ((false,()),())) (by
    intro k hk
    simp only[Yw]
    rw[Ba (show(k:Int)<((ja a:Nat):Int) by omega),Nb hk,Nb (show k<b.length by omega),qf,je (show k<b.length by omega)]
    simp only[zj,jb,q6,bne]
    rw[show(a[k]==b[k])=(b[k]==a[k]) by rw[qo,beq_iff_eq,beq_iff_eq];exact eq_comm]
    cases b[k]==a[k]<;>rfl) (by
    simp only[Yw]
    rw[Aa (by omega)];rfl) (by omega)
  have e:(((ja a:Nat):Int) !=((ja b:Nat):Int))=false:=by simp[h]
  rw[e]
  simp only[zk]
  unfold HA
  erw[hl]
  rw[Jal a b h,show(b==a)=(a==b) by rw[qo,beq_iff_eq,beq_iff_eq];exact eq_comm]
  cases a==b<;>rfl
 ·have e:(((ja a:Nat):Int) !=((ja b:Nat):Int))=true:=by simp;omega
  have e2:(a==b)=false:=by rw[beq_eq_false_iff_ne];intro hh;exact h (by rw[hh])
  rw[e,e2];rfl
theorem PaK(a b:T Hh)(h1:ja a.2.1≤Wa)(_:ja b.2.1≤Wa):(fun x:T (.p Hh (.p Hh .u))=>Ju x.1 x.2.1) (a,b,())=some (Mm a b,()):=by
 show Ju a b=_
 unfold Ju
 rw[J8 _ _ h1]
 simp only[jb,Mm]
 cases(show Int from a.1)==(show Int from b.1)<;>rfl
theorem TaC(c:T Lf→T Lf→Option Bool)(l:List (T Lf))(hl:ja l≤Wa):∀(ys:List (T Lf)) (k:Nat) (out q:List (T Lf)) (a:T Lf),l.drop k=ys→k≤ja l→ja out+ja ys≤Wa→
 YZ c a ys=some q→SB c (((),out,l,((ja l:Nat):Int),(k:Int),()),(a,()))=some (.inl ((jf out q,()),())):=by
 have hlim:=Bg
 intro ys
 induction ys with
 |nil=>
  intro k out q a hd hk _ hq
  have:=V7 hd hk
  subst this
  simp only[YZ,jc]at hq
  subst hq
  have hs:HP c () out l ((ja l:Nat):Int) ((ja l:Nat):Int) a=some (.inr (.inl ((out,()),()))):=by
   unfold HP
   rw[Aa (by omega)];rfl
  unfold SB
  rw[Vb hs]
  simp
 |cons y ys ih=>
  intro k out q a hd hk hlen hq
  obtain⟨hk',hy,hd'⟩:=W2 hd
  simp only[YZ]at hq
  cases hc:c a y with
  |none=>rw[hc]at hq;simp at hq
  |some b=>
   rw[hc]at hq
   simp only[jb]at hq
   cases hq2:YZ c y ys with
   |none=>rw[hq2]at hq;simp at hq
   |some q2=>
    rw[hq2]at hq
    simp only[jb,jc]at hq
    have hlc:ja (y::ys)=ja ys+1:=rfl
    have hs:HP c () out l ((ja l:Nat):Int) (k:Int) a=some (.inl (((),cond b out (jf out [y]),l,((ja l:Nat):Int),((k+1:Nat):Int),()),(y,()))):=by
     unfold HP DaP
     rw[Ba (show(k:Int)<((ja l:Nat):Int) by omega),Nb hk',hy]
     simp only[zj,jb,hc]
     rw[Gc (by omega)]
     cases b with
     |true=>rfl
     |false=>
      rw[show jx (ja out+ja ([y]:List (Int×((T .o)×Unit)))) Wa=true from ji (by simp only[jw,j6];omega)]
      rfl
    unfold SB
    rw[Vb hs]
    simp only[jb,qg]
    have:=ih (k+1) (cond b out (jf out [y])) q2 y hd' hk' (by cases b with
     |true=>simp only[zj];omega
     |false=>simp only[zk,zh,qd,jw,j6];omega) hq2
    unfold SB at this
    rw[this,←hq]
    cases b with
    |true=>rfl
    |false=>simp
theorem XaP(c:T Lf→T Lf→Option Bool):∀(a:T Lf) (l r:List (T Lf)),ja l≤Wa→YZ c a l=some r→(fun x:T (.p Lf (.p (.sl Lf) .u))=>Gaz c x.1 x.2.1) (a,l,())=some (r,()):=by
 intro a l r hl hq
 show Gaz c a l=_
 unfold Gaz
 have:=TaC c l hl l 0 [] r a rfl (zd _) (by simpa using hl) hq
 erw[this]
 rfl
theorem Sag:∀{a b:List Int},a.Pairwise (·<·)→b.Pairwise (·<·)→(∀x,x∈a↔x∈b)→a=b
 |[],[],_,_,_=>rfl
 |[],y::b,_,_,h=>by have:=(h y).2 (by simp);simp at this
 |x::a,[],_,_,h=>by have:=(h x).1 (by simp);simp at this
 |x::a,y::b,ha,hb,h=>by
  rw[List.pairwise_cons]at ha hb
  have hxy:x=y:=by
   rcases jp.1 ((h x).1 (by simp))with h1|h1
   ·exact h1
   ·rcases jp.1 ((h y).2 (by simp))with h2|h2
    ·exact h2.symm
    ·have:=hb.1 x h1;have:=ha.1 y h2;omega
  subst hxy
  congr 1
  refine Sag ha.2 hb.2 fun z=>⟨fun hz=>?_,fun hz=>?_⟩
  ·rcases jp.1 ((h z).1 (by simp[hz]))with h1|h1
   ·have:=ha.1 z hz;omega
   ·exact h1
  ·rcases jp.1 ((h z).2 (by simp[hz]))with h1|h1
   ·have:=hb.1 z hz;omega
   ·exact h1
def Q1(o:List Int)(x:Int):List Int:=cond ((x !=0)&&!o.any (fun y=>y==x)) (jf o [x]) o
def ddK(k:Nat)(o l:List Int):List Int:=Vc (fun _ o x=>Q1 o x) k o l
theorem ZaC:∀(l:List Int) (k:Nat) (o:List Int) (y:Int),y∈ddK k o l↔y∈o∨(y∈l∧y≠0)
 |[],_,o,y=>by simp[ddK,Vc]
 |x::l,k,o,y=>by
  have:=ZaC l (k+1) (Q1 o x) y
  simp only[ddK,Vc]at this⊢
  rw[this]
  unfold Q1
  by_cases h0:x=0
  ·subst h0
   simp only[bne_self_eq_false,qi,zk,jp]
   constructor
   ·rintro(h|⟨h1,h2⟩)
    ·exact .inl h
    ·exact .inr ⟨.inr h1,h2⟩
   ·rintro(h|⟨h1|h1,h2⟩)
    ·exact .inl h
    ·exact absurd h1 h2
    ·exact .inr ⟨h1,h2⟩
  ·by_cases h1:o.any (fun y=>y==x)=true
   ·rw[h1]
    simp only[jg,Bool.and_false,zk,jp]
    have hx:x∈o:=by
     obtain⟨z,hz,e⟩:=q0.1 h1
     rw[beq_iff_eq]at e;rw[←e];exact hz
    constructor
    ·rintro(h|⟨h1,h2⟩)
     ·exact .inl h
     ·exact .inr ⟨.inr h1,h2⟩
    ·rintro(h|⟨h1|h1,h2⟩)
     ·exact .inl h
     ·exact .inl (h1▸hx)
     ·exact .inr ⟨h1,h2⟩
   ·have e:((x !=0)&&!o.any (fun y=>y==x))=true:=by
     simp only[j9]at h1
     rw[h1];simp[h0]
    rw[e]
    simp only[zj,zh,jl,jp,zi,or_false]
    constructor
    ·rintro((h|h)|⟨h1,h2⟩)
     ·exact .inl h
     ·exact .inr ⟨.inl h,by rw[h];exact h0⟩
     ·exact .inr ⟨.inr h1,h2⟩
    ·rintro(h|⟨h1|h1,h2⟩)
     ·exact .inl (.inl h)
     ·exact .inl (.inr h1)
     ·exact .inr ⟨h1,h2⟩
theorem Qaf:∀(l:List Int) (k:Nat) (o:List Int),o.Pairwise (·<·)→l.Pairwise (·≤·)→(∀y∈o,∀x∈l,y≤x)→(ddK k o l).Pairwise (·<·)
 |[],_,o,ho,_,_=>by simpa[ddK,Vc]using ho
 |x::l,k,o,ho,hl,h=>by
  rw[List.pairwise_cons]at hl
  have key:(Q1 o x).Pairwise (·<·)∧∀y∈Q1 o x,∀z∈l,y≤z:=by
   unfold Q1
   cases hc:(x !=0)&&!o.any (fun y=>y==x)with
   |false=>exact⟨ho,fun y hy z hz=>h y hy z (by simp[hz])⟩
   |true=>
    simp only[jd,yn,List.any_eq_false,beq_iff_eq]at hc
    simp only[zj,zh]
    refine⟨?_,?_⟩
    ·rw[List.pairwise_append]
     refine⟨ho,by simp,fun y hy z hz=>?_⟩
     simp only[jp,zi,or_false]at hz
     subst hz
     have h1:=h y hy z (by simp)
     have h2:=hc.2 y hy
     omega
    ·intro y hy z hz
     rcases jl.1 hy with hy|hy
     ·exact h y hy z (by simp[hz])
     ·simp only[jp,zi,or_false]at hy
      subst hy
      exact hl.1 z hz
  have:=Qaf l (k+1) (Q1 o x) key.1 hl.2 key.2
  simpa[ddK,Vc]using this
def Nm(l:List Pa):Nat→List Int
 |0=>[]
 |n+1=>cond (l.any fun h=>h.2.1.2.1==((n+1:Nat):Int)) (Nm l n++[((n+1:Nat):Int)]) (Nm l n)
theorem DM(l:List Pa):∀(n:Nat) (x:Int),x∈Nm l n↔(1≤x∧x≤(n:Int))∧∃h∈l,h.2.1.2.1=x
 |0,x=>by simp[Nm];intro h1 h2;omega
 |n+1,x=>by
  simp only[Nm]
  cases hc:(l.any fun h=>h.2.1.2.1==((n+1:Nat):Int))with
  |true=>
   simp only[zj,jl,DM l n x,jp,zi,or_false]
   obtain⟨h,hh,e⟩:=q0.1 hc
   rw[beq_iff_eq]at e
   constructor
   ·rintro(⟨h1,h2⟩|rfl)
    ·exact⟨by omega,h2⟩
    ·exact⟨by omega,h,hh,e⟩
   ·rintro⟨h1,h2⟩
    by_cases hx:x=((n+1:Nat):Int)
    ·exact .inr hx
    ·exact .inl ⟨by omega,h2⟩
  |false=>
   simp only[zk,DM l n x]
   rw[List.any_eq_false]at hc
   constructor
   ·rintro⟨h1,h2⟩;exact⟨by omega,h2⟩
   ·rintro⟨h1,h,hh,e⟩
    refine⟨?_,h,hh,e⟩
    have:=hc h hh
    rw[beq_iff_eq]at this
    omega
theorem WS(l:List Pa):∀n,(Nm l n).Pairwise (·<·)
 |0=>by simp[Nm]
 |n+1=>by
  simp only[Nm]
  cases(l.any fun h=>h.2.1.2.1==((n+1:Nat):Int))with
  |true=>
   simp only[zj]
   rw[List.pairwise_append]
   refine⟨WS l n,by simp,fun y hy z hz=>?_⟩
   simp only[jp,zi,or_false]at hz
   have:=(DM l n y).1 hy
   omega
  |false=>exact WS l n
theorem ZZ(l:List Pa):∀n,(Nm l n).length≤n
 |0=>by simp[Nm]
 |n+1=>by
  have:=ZZ l n
  simp only[Nm]
  cases(l.any fun h=>h.2.1.2.1==((n+1:Nat):Int))<;>simp<;>omega
def Haj(l:List Pa):Int:=Vc (fun _ s (h:Pa)=>cond (h.2.1.1==2||h.2.1.1==8) (Fe .i64 s h.2.1.2.2.1) s) 0 0 l
def Qc(l:List Pa):Ca:=(Haj l,Nm l 56,())
theorem SQ{a:Ma}(h:Ub a=true):0≤a.2.1∧a.2.1≤56:=by
 rw[Yb]at h
 unfold Dd at h
 omega
theorem UY(l:List Int)(x:Int)(hn:l.length≤Wa):JI l x=some (l.any (fun y=>y==x),()):=by
 have hlim:=Bg
 have hl:=Kh (step:=fun y=>AD y.1.1 y.1.2.1 y.1.2.2.1 y.1.2.2.2.1) l (fun _ y=>!(y==x)) (fun i=>((x,l,((ja l:Nat):Int),i,()),()))
  (.inl ((),())) (.inr ((true,()),())) (by
   intro k hk
   simp only[AD]
   rw[Ba (show(k:Int)<((ja l:Nat):Int) by omega),Nb hk]
   simp only[zj,jb]
   cases l[k]==x<;>rfl) (by
   simp only[AD]
   rw[Aa (by omega)];rfl) (by omega)
 unfold JI SE
 erw[hl]
 have:∀(l:List Int) (k:Nat),Ig (fun _ y=>!(y==x)) k l=!l.any (fun y=>y==x):=by
  intro l
  induction l with
  |nil=>intro k;rfl
  |cons y l ih=>intro k;simp only[Ig,List.any_cons,ih,Bool.not_or]
 rw[this]
 cases l.any (fun y=>y==x)<;>rfl
theorem LW(l:List Pa)(hn:l.length≤Da)(hx:∀h∈l,0≤h.2.1.2.1∧h.2.1.2.1≤56):Vx (l.map fun h=>h.2.1.2.1)=some (Nm l 56,()):=by
 have h20:Da=1048576:=rfl
 have hlim:=Bg
 generalize hcs:(l.map fun h=>h.2.1.2.1)=cs
 have hcl:cs.length=l.length:=by rw[←hcs];simp
 unfold Vx
 rw[KK _ (by omega)]
 simp only[jb,sort_Ints,srt]
 rw[show jx (ja cs) Wa=true from ji (by omega)]
 simp only[zj,jb]
 generalize hss:(List.mergeSort cs fun x y=>decide (x≤y))=ss
 have hsl:ss.length=cs.length:=by rw[←hss];exact List.length_mergeSort _
 have hsm:∀x,x∈ss↔x∈cs:=fun x=>by rw[←hss];exact List.mem_mergeSort
 have hsp:ss.Pairwise (·≤·):=by
  rw[←hss]
  have:=List.pairwise_mergeSort (le:=fun x y:Int=>decide (x≤y)) (by intro a b c;simp;omega) (by intro a b;simp;omega) cs
  exact this.imp (by intro a b h;simpa using h)
 have hl:=(Ue (step:=fun x=>CA x.1.1 x.1.2.1 x.1.2.2.1 x.1.2.2.2.1) ss (fun _ o x=>Q1 o x) (fun o i=>((o,ss,((ja ss:Nat):Int),i,()),())) (fun o=>.inl ((o,()),())) (fun k o=>o.length≤k) (by
  intro k hk o ho
  have hd:(Q1 o ss[k]).length≤k+1:=by
   unfold Q1
   cases(ss[k] !=0)&&!o.any (fun y=>y==ss[k])<;>simp<;>omega
  refine⟨?_,hd⟩
  simp only[CA]
  rw[Ba (show(k:Int)<((ja ss:Nat):Int) by omega),show Rb (ja ss) (k:Int)=true by rw[Ve];exact Ba hk,jn,je hk]
  simp only[zj,jb]
  rw[UY _ _ (by omega),show jx (ja o+ja ([ss[k]]:List Int)) Wa=true from ji (by simp only[jw,j6];omega)]
  simp only[jb,Q1]
  cases ss[k] !=0<;>cases o.any (fun y=>y==ss[k])<;>rfl)
  (by
   intro o _
   simp only[CA]
   rw[Aa (by omega)];rfl) (by omega) [] (jo _)).1
 unfold DC
 erw[hl]
 simp only[jb,qg]
 congr 2
 refine Sag (Qaf ss 0 [] (by simp) hsp (by simp)) (WS l 56) fun x=>?_
 rw[show Vc (fun _ o x=>Q1 o x) 0 [] ss=ddK 0 [] ss from rfl,ZaC,DM,hsm,←hcs]
 simp only[zi,false_or,ql]
 constructor
 ·rintro⟨⟨h,hh,rfl⟩,h0⟩
  have:=hx h hh
  exact⟨by omega,h,hh,rfl⟩
 ·rintro⟨h1,h,hh,rfl⟩
  exact⟨⟨h,hh,rfl⟩,by omega⟩
theorem Ur(l:List Pa)(hn:l.length≤Da)(hv:Of l=true):Ee l=some (Qc l,()):=by
 have h20:Da=1048576:=rfl
 have hlim:=Bg
 have hh:=Tu hv
 have hl:=(Ue (step:=fun x=>Ww x.1.1 x.1.2.1 x.1.2.2.1 x.1.2.2.2.1 x.1.2.2.2.2.1 x.1.2.2.2.2.2.1 x.2.1 x.2.2.1) l
  (fun _ (s:Int×List Int) (h:Pa)=>(cond (h.2.1.1==2||h.2.1.1==8) (Fe .i64 s.1 h.2.1.2.2.1) s.1,jf s.2 [h.2.1.2.1])) (fun s i=>(((),(),s.2,l,((ja l:Nat):Int),i,()),(((0:Int),([]:List Int),()),(s.1,([]:List Int),()),())))
  (fun s=>.inl (((),(),s.2,()),(((0:Int),([]:List Int),()),(s.1,([]:List Int),()),()))) (fun k s=>s.2.length=k) (by
   intro k hk s hs
   refine⟨?_,by simp[hs]⟩
   simp only[Ww]
   rw[Ba (show(k:Int)<((ja l:Nat):Int) by omega),Nb hk]
   simp only[zj,jb]
   rw[show jx (ja s.2+ja ([l[k].2.1.2.1]:List Int)) Wa=true from ji (by simp only[jw,j6];omega)]
   cases l[k].2.1.1==2<;>cases l[k].2.1.1==8<;>rfl)
  (by
   intro s _
   simp only[Ww]
   rw[Aa (by omega)];rfl) (by omega) (0,[]) rfl).1
 have key:∀(l:List Pa) (k:Nat) (s:Int×List Int),Vc (fun _ (s:Int×List Int) (h:Pa)=>(cond (h.2.1.1==2||h.2.1.1==8) (Fe .i64 s.1 h.2.1.2.2.1) s.1,jf s.2 [h.2.1.2.1])) k s l=
  (Vc (fun _ s (h:Pa)=>cond (h.2.1.1==2||h.2.1.1==8) (Fe .i64 s h.2.1.2.2.1) s) k s.1 l,s.2++l.map fun h=>h.2.1.2.1):=by
  intro l
  induction l with
  |nil=>intro k s;simp[Vc]
  |cons x l ih=>intro k s;simp only[Vc];rw[ih];simp
 unfold Ee BA
 rw[HG _ hn,hv]
 simp only[jb,jg,zk]
 erw[hl]
 rw[key]
 simp only[jb,qg,yi]
 rw[LW l hn (fun h hm=>SQ (hh h hm).act)]
 rfl
theorem I9(l:List Pa)(hn:l.length≤Da)(c:Nat)(hc:c≤56)(m:Int)(o:List Int)(ho:o.length≤56):
 Yo ((l,(),(),(c:Int),(0:Int),()),(((0:Int),([]:List Int),()),(m,o,()),()))=
  some (.inl ((l,(),(),(c:Int),()),(((0:Int),([]:List Int),()),(m,cond (l.any fun h=>h.2.1.2.1==(c:Int)) (jf o [(c:Int)]) o,()),()))):=by
 have h20:Da=1048576:=rfl
 have hl:=Kh (step:=fun x=>Jv x.1.1 x.1.2.1 x.1.2.2.1 x.1.2.2.2.1 x.1.2.2.2.2.1 x.2.1 x.2.2.1) l (fun _ (h:Pa)=>!(h.2.1.2.1==(c:Int))) (fun i=>((l,(),(),(c:Int),i,()),(((0:Int),([]:List Int),()),(m,o,()),())))
  (.inl ((l,(),(),(c:Int),()),(((0:Int),([]:List Int),()),(m,o,()),()))) (.inl ((l,(),(),(c:Int),()),(((0:Int),([]:List Int),()),(m,jf o [(c:Int)],()),()))) (by
   intro k hk
   simp only[Jv]
   rw[Ba (show(k:Int)<((ja l:Nat):Int) by omega),Nb hk]
   simp only[zj,jb]
   rw[show jx (ja o+ja ([(c:Int)]:List Int)) Wa=true from ji (by simp only[jw,j6,Bg];omega)]
   cases l[k].2.1.2.1==(c:Int)<;>rfl) (by
   simp only[Jv]
   rw[Aa (by omega)];rfl) (by omega)
 have e:∀(l:List Pa) (k:Nat),Ig (fun _ (h:Pa)=>!(h.2.1.2.1==(c:Int))) k l=!l.any fun h=>h.2.1.2.1==(c:Int):=by
  intro l
  induction l with
  |nil=>intro k;rfl
  |cons y l ih=>intro k;simp only[Ig,List.any_cons,ih,Bool.not_or]
 unfold Yo
 erw[hl]
 rw[e]
 cases l.any fun h=>h.2.1.2.1==(c:Int)<;>rfl
theorem Ks(l:List Pa)(hn:l.length≤Da)(hv:Of l=true):Le l=some (Qc l,()):=by
 have h20:Da=1048576:=rfl
 have h1:=(Ue (step:=fun x=>Kx x.1.1 x.1.2.1 x.1.2.2.1 x.1.2.2.2.1 x.2.1 x.2.2.1) l
  (fun _ s (h:Pa)=>cond (h.2.1.1==2||h.2.1.1==8) (Fe .i64 s h.2.1.2.2.1) s) (fun s i=>((l,(),(),i,()),(((0:Int),([]:List Int),()),(s,([]:List Int),()),())))
  (fun s=>.inl ((l,(),(),()),(((0:Int),([]:List Int),()),(s,([]:List Int),()),()))) (fun _ _=>True) (by
   intro k hk s _
   refine⟨?_,trivial⟩
   simp only[Kx]
   rw[Ba (show(k:Int)<((ja l:Nat):Int) by omega),Nb hk]
   simp only[zj,jb]
   cases l[k].2.1.1==2<;>cases l[k].2.1.1==8<;>rfl)
  (by
   intro s _
   simp only[Kx]
   rw[Aa (by omega)];rfl) (by omega) 0 trivial).1
 have h2:=EF (step:=fun x=>Iv x.1.1 x.1.2.1 x.1.2.2.1 x.1.2.2.2.1 x.2.1 x.2.2.1) (fun k=>((l,(),(),((k+1:Nat):Int),()),(((0:Int),([]:List Int),()),(Haj l,Nm l k,()),()))) 56
  (.inl (((),(),()),(((0:Int),([]:List Int),()),(Haj l,Nm l 56,()),()))) (by
   intro k hk
   simp only[Iv]
   have hlen:=ZZ l k
   rw[Ba (show((k+1:Nat):Int)≤56 by omega),I9 l hn (k+1) (by omega) (Haj l) (Nm l k) (by omega)]
   simp only[zj,jb,qg]
   rw[Gc (by omega)]
   rfl) (by
   simp only[Iv]
   rw[Aa (by decide)];rfl)
 unfold Le XA Py
 rw[YG _ hn,hv]
 simp only[jb,jg,zk]
 erw[h1]
 simp only[jb,qg]
 erw[h2]
 rfl
def NG(c:Int):Bool:=decide (1≤c∧c≤36)||((c==39)||(c==42))
theorem L3(c:Int):WC c=some (NG c,()):=by
 unfold WC NG
 by_cases h1:c≥1
 ·by_cases h2:c≤36
  ·rw[Ba h1,Ba h2,Ba (show 1≤c∧c≤36 by omega)];rfl
  ·rw[Ba h1,Aa h2,Aa (show¬(1≤c∧c≤36) by omega)]
   cases c==39<;>rfl
 ·rw[Aa h1,Aa (show¬(1≤c∧c≤36) by omega)]
  cases c==39<;>rfl
theorem P4(c:Int):VD c=some (NG c,()):=by
 unfold VD NG
 rw[Bd]
 cases decide (1≤c∧c≤36)<;>cases c==39<;>rfl
def RA(f o:Int)(c:Bool)(a:Ma):Int×Int×Bool×Ma:=
 cond (a.1==2) (cond (a.2.1==0) (f,o,c,a) (f,0,c&&NG a.2.1,a.1,a.2.1,cond ((c&&NG a.2.1)&&(decide (a.2.1≤26)&&(Kj .i64 (Fe .i64 a.2.2.1 o) 2==0))) 2 (Fe .i64 a.2.2.1 o),a.2.2.2))
  (cond (a.1==4) (Kt .i64 f (Te .i64 1 a.2.2.2.1),o,c,a) (cond (a.1==5) (Kj .i64 (Te .i64 1 a.2.2.2.1) 1,o,c,a)
   (cond (a.1==8) (f,cond (Ih .i64 o a.2.2.1==a.2.2.1) (Kj .i64 o a.2.2.1) (Fe .i64 o a.2.2.1),c,a) (cond (a.1==10) (f,o,!c,a) (f,o,c,a)))))
theorem XO{a:Ma}(h:Ub a=true):0≤a.2.2.2.1:=by
 rw[Yb]at h
 unfold Dd at h
 omega
theorem XY(m:Ia)(M:List (List Ua))(f o:Int)(h:List Pa)(c:Bool)(a:Ma)(ha:Ub a=true):
 Iw (m,M,f,h,o,c,()) a=some ((m,M,(RA f o c a).1,h,(RA f o c a).2.1,(RA f o c a).2.2.1,()),(RA f o c a).2.2.2,()):=by
 have hn:=XO ha
 unfold Iw RA
 rw[Ba hn]
 cases a.1==2 with
 |true=>
  cases a.2.1==0 with
  |true=>rfl
  |false=>
   simp only[zj,zk,L3,jb]
   cases c with
   |false=>rfl
   |true=>
    cases NG a.2.1 with
    |false=>rfl
    |true=>cases decide (a.2.1≤26)<;>cases Kj .i64 (Fe .i64 a.2.2.1 o) 2==0<;>rfl
 |false=>
  cases a.1==4 with
  |true=>rfl
  |false=>
   cases a.1==5 with
   |true=>rfl
   |false=>
    cases a.1==8 with
    |true=>cases Ih .i64 o a.2.2.1==a.2.2.1<;>rfl
    |false=>cases a.1==10<;>rfl
theorem JZ(m:Ia)(M:List (List Ua))(f o:Int)(h:List Pa)(c:Bool)(a:Ma)(ha:Ub a=true):
 Jp (m,M,f,h,o,c,()) a=some ((m,M,(RA f o c a).1,h,(RA f o c a).2.1,(RA f o c a).2.2.1,()),(RA f o c a).2.2.2,()):=by
 have hn:=XO ha
 have hcode:=SQ ha
 unfold Jp RA D1
 rw[Ba hn]
 cases a.1==2 with
 |true=>
  by_cases h0:a.2.1=0
  ·rw[Aa (show¬a.2.1>0 by omega),show(a.2.1==0)=true by simp[h0]];rfl
  ·rw[Ba (show a.2.1>0 by omega),show(a.2.1==0)=false by simp[h0]]
   simp only[zj,zk,P4,jb]
   cases NG a.2.1 with
   |false=>cases c<;>rfl
   |true=>
    cases c with
    |false=>rfl
    |true=>cases decide (a.2.1≤26)<;>cases Kj .i64 (Fe .i64 a.2.2.1 o) 2==0<;>rfl
 |false=>
  cases a.1==4 with
  |true=>rfl
  |false=>
   cases a.1==5 with
   |true=>rfl
   |false=>
    cases a.1==8 with
    |true=>cases Ih .i64 o a.2.2.1==a.2.2.1<;>rfl
    |false=>cases a.1==10<;>rfl
theorem HaQ:∀f:Fin 16,∀n:Fin 4,∀l:Fin 5,1≤n.val→n.val<l.val→f.val<2^l.val→f.val%2=0→
 0≤Kt .i64 (f.val:Int) (Te .i64 1 (n.val:Int))∧Kt .i64 (f.val:Int) (Te .i64 1 (n.val:Int))<((2^l.val:Nat):Int)∧(Kt .i64 (f.val:Int) (Te .i64 1 (n.val:Int))).tmod 2=0:=by decide+kernel
theorem MaV:∀n:Fin 4,∀l:Fin 5,n.val<l.val→
 0≤Kj .i64 (Te .i64 1 (n.val:Int)) 1∧Kj .i64 (Te .i64 1 (n.val:Int)) 1<((2^l.val:Nat):Int)∧(Kj .i64 (Te .i64 1 (n.val:Int)) 1).tmod 2=0:=by decide+kernel
theorem Qau:∀o m:Fin 16,(0≤Kj .i64 (o.val:Int) (m.val:Int)∧Kj .i64 (o.val:Int) (m.val:Int)≤15)∧(0≤Fe .i64 (o.val:Int) (m.val:Int)∧Fe .i64 (o.val:Int) (m.val:Int)≤15):=by decide+kernel
structure Wp(nl:Nat)(f o:Int):Prop where
 f0:0≤f
 f1:f<((2^nl:Nat):Int)
 f2:f.tmod 2=0
 o0:0≤o
 o1:o≤15
structure LX(nl:Nat)(a:Ma):Prop where
 act:Ub a=true
 n1:a.1≠1
 n6:a.1≠6
 n7:a.1≠7
 n:a.1≠9→a.2.2.2.1<(nl:Int)
theorem RaZ{a b:Int}(ha:0≤a∧a≤15)(hb:0≤b∧b≤15):0≤Fe .i64 a b∧Fe .i64 a b≤15:=by
 obtain⟨n,rfl⟩:=jv ha.1
 obtain⟨m,rfl⟩:=jv hb.1
 exact(Qau ⟨n,by omega⟩ ⟨m,by omega⟩).2
theorem MaX{a b:Int}(ha:0≤a∧a≤15)(hb:0≤b∧b≤15):0≤Kj .i64 a b∧Kj .i64 a b≤15:=by
 obtain⟨n,rfl⟩:=jv ha.1
 obtain⟨m,rfl⟩:=jv hb.1
 exact(Qau ⟨n,by omega⟩ ⟨m,by omega⟩).1
theorem TaZ{nl:Nat}(h:nl≤4):2^nl≤16:=Nat.pow_le_pow_right (n:=2) (by omega) h
theorem FaG{nl:Nat}(hnl:nl≤4){f o:Int}{c:Bool}{a:Ma}(hs:Wp nl f o)(ha:LX nl a):
 Wp nl (RA f o c a).1 (RA f o c a).2.1∧LX nl (RA f o c a).2.2.2:=by
 have hP:=ha.act
 rw[Yb]at hP
 unfold Dd at hP
 have h16:=TaZ hnl
 obtain⟨k,code,mods,n,u⟩:=a
 have hn1:=ha.n1;have hn6:=ha.n6;have hn7:=ha.n7;have hnn:=ha.n
 simp only at hP hn1 hn6 hn7 hnn
 have hf1:=hs.f1
 unfold RA
 simp only
 by_cases h2:k=2
 ·subst h2
  by_cases h0:code=0
  ·subst h0;exact⟨hs,ha⟩
  ·rw[show((2:Int)==2)=true from rfl,show(code==0)=false by simp[h0]]
   simp only[zj,zk]
   refine⟨⟨hs.f0,hs.f1,hs.f2,by decide,by decide⟩,?_⟩
   have hm:=RaZ (a:=mods) (b:=o) (by omega) ⟨hs.o0,hs.o1⟩
   refine⟨?_,hn1,hn6,hn7,hnn⟩
   have hn0:n=0:=by omega
   have hcd:1≤code∧code≤56:=by omega
   rw[Yb]
   cases((c&&NG code)&&(decide (code≤26)&&(Kj .i64 (Fe .i64 mods o) 2==0)))with
   |true=>exact .inr (.inl ⟨rfl,hn0,.inr hcd,.inr ⟨by show(1:Int)≤2;decide,by show(2:Int)≤15;decide⟩,.inl (by show code≠0;omega)⟩)
   |false=>
    refine .inr (.inl ⟨rfl,hn0,.inr hcd,?_,.inl (by show code≠0;omega)⟩)
    show Fe .i64 mods o=0∨1≤Fe .i64 mods o∧Fe .i64 mods o≤15
    omega
 ·rw[show(k==2)=false by simp[h2]]
  simp only[zk]
  by_cases h4:k=4
  ·subst h4
   have hr:1≤n∧n≤3:=by omega
   have hlt:=hnn (by omega)
   obtain⟨fn,hfn⟩:=jv hs.f0
   obtain⟨nn,hnn'⟩:=jv (show 0≤n by omega)
   have hf2:=hs.f2
   rw[hfn]at hf1 hf2
   have hfl:fn<2^nl:=Int.ofNat_lt.1 hf1
   have:=HaQ ⟨fn,by omega⟩ ⟨nn,by omega⟩ ⟨nl,by omega⟩ (by show 1≤nn;omega) (by show nn<nl;omega) hfl (by
    rw[Int.tmod_eq_emod_of_nonneg (by omega)]at hf2;show fn%2=0;omega)
   simp only[show((4:Int)==4)=true from rfl,zj]
   rw[hfn,hnn']
   exact⟨⟨this.1,this.2.1,this.2.2,hs.o0,hs.o1⟩,by rw[←hnn'];exact ha⟩
  ·rw[show(k==4)=false by simp[h4]]
   simp only[zk]
   by_cases h5:k=5
   ·subst h5
    have hr:0≤n∧n≤3:=by omega
    have hlt:=hnn (by omega)
    obtain⟨nn,hnn'⟩:=jv (show 0≤n by omega)
    have:=MaV ⟨nn,by omega⟩ ⟨nl,by omega⟩ (by show nn<nl;omega)
    simp only[show((5:Int)==5)=true from rfl,zj]
    rw[hnn']
    exact⟨⟨this.1,this.2.1,this.2.2,hs.o0,hs.o1⟩,by rw[←hnn'];exact ha⟩
   ·rw[show(k==5)=false by simp[h5]]
    simp only[zk]
    by_cases h8:k=8
    ·subst h8
     have hm:0≤mods∧mods≤15:=by omega
     simp only[show((8:Int)==8)=true from rfl,zj]
     cases Ih .i64 o mods==mods with
     |true=>have:=MaX ⟨hs.o0,hs.o1⟩ hm;exact⟨⟨hs.f0,hs.f1,hs.f2,this.1,this.2⟩,ha⟩
     |false=>have:=RaZ ⟨hs.o0,hs.o1⟩ hm;exact⟨⟨hs.f0,hs.f1,hs.f2,this.1,this.2⟩,ha⟩
    ·rw[show(k==8)=false by simp[h8]]
     simp only[zk]
     cases k==10<;>exact⟨hs,ha⟩
theorem Bag{m:Ia}(hm:FE m)(on:Int){k:Nat}(hk:(k:Int)<m.1):Tl m.2.1.length (Mg m on k) (Ui m.2.1 (Mg m on k) k)=true∧(Ui m.2.1 (Mg m on k) k).1≠1:=by
 have hl:=DF hm on k
 have hrow:=hm.row _ hl
 have hk':k<m.2.1[Mg m on k].length:=by omega
 have hact:=hm.act _ hl k hk'
 rw[UO hl hk']
 refine⟨hact,?_⟩
 have key:∀n,Tf m.2.1 on k n=0∨(Ui m.2.1 (Tf m.2.1 on k n) k).1≠1:=by
  intro n
  induction n with
  |zero=>exact .inl rfl
  |succ n ih=>
   simp only[Tf]
   cases hc:((Im on ((n+1:Nat):Int)==1)&&((Ui m.2.1 (n+1) k).1 !=1))with
   |true=>
    simp only[jd,bne_iff_ne]at hc
    exact .inr hc.2
   |false=>exact ih
 rcases key (m.2.1.length-1)with h0|h1
 ·have h0':Mg m on k=0:=h0
  intro h1
  simp only[Tl,jd,yn,Bool.and_eq_false_iff,beq_eq_false_iff_ne]at hact
  rcases hact.1.2 with h2|h2
  ·exact h2 (by rw[h0'];rfl)
  ·exact h2 h1
 ·have e:Ui m.2.1 (Tf m.2.1 on k (m.2.1.length-1)) k=m.2.1[Mg m on k][k]:=UO hl hk'
  rw[e]at h1
  exact h1
theorem Gav{nl i:Nat}{a:Ma}(h:Tl nl i a=true)(h1:a.1≠1):LX nl (CJ a):=by
 have ha:=GF h
 have hP:=ha
 rw[Yb]at hP
 unfold Dd at hP
 unfold CJ Qf
 rw[ha]
 by_cases h67:a.1=6∨a.1=7
 ·have e:(true&&((a.1==6)||(a.1==7)))=true:=by rcases h67 with h|h<;>rw[h]<;>rfl
  rw[e]
  simp only[zj]
  refine⟨?_,by show(2:Int)≠1;decide,by show(2:Int)≠6;decide,by show(2:Int)≠7;decide,fun _=>?_⟩
  ·rw[Yb]
   exact .inr (.inl ⟨rfl,rfl,.inr (by show 1≤a.2.1∧a.2.1≤56;omega),.inl rfl,.inl (by show a.2.1≠0;omega)⟩)
  ·show(0:Int)<(nl:Int)
   have:=BZ h (by omega)
   omega
 ·have e:(true&&((a.1==6)||(a.1==7)))=false:=by
   rw[jk,yv,beq_eq_false_iff_ne,beq_eq_false_iff_ne];omega
  rw[e]
  exact⟨ha,h1,fun h=>h67 (.inl h),fun h=>h67 (.inr h),fun hk=>BZ h hk⟩
def PaI(m:Ia)(f o:Int)(c:Bool)(h:List Pa):Gb:=(m,[],f,h,o,c,())
theorem IaQ{nl:Nat}{k:Nat}(hk:k≤31){a:Ma}(ha:LX nl a):Of [((k:Int),a,())]=true:=by
 have e:Iy 0 ((k:Int),a,())=true:=by
  simp only[Iy,ha.act,jk]
  rw[Ba (show 0≤(k:Int)∧(k:Int)≤31 by omega)]
  have hb:(Im 0 (k:Int)==1)=false:=by
   have:=MU (a:=0) (k:=k) (by decide) (by omega)
   rw[Nat.zero_testBit]at this
   exact this
  rw[hb]
  simp[ha.n1,ha.n6,ha.n7]
 show Ay (Cb _ 0 0 [_])=true
 simp only[Cb,Rz,e,zj,Ay]
theorem EaQ(m:Ia)(f o:Int)(c:Bool)(h:List Pa):Ja Mb (PaI m f o c h)=Ja Xa m+h.length:=by
 rw[Pl,Yt]
 have:Ja (.sl (.sl Xb)) (PaI m f o c h).2.1=0:=rfl
 rw[this,js];rfl
theorem Saz{nl:Nat}(h4:nl≤4){f o:Int}(hs:Wp nl f o):0≤f∧f≤15:=by
 have:=TaZ h4
 have h1:=hs.f1
 have h0:=hs.f0
 omega
theorem Pad(e:Gb)(k:Int)(hn:e.2.2.2.1.length≤Da):XQ e k=some (Sd (fun h=>h.1==k) 0 e.2.2.2.1,()):=by
 have h20:Da=1048576:=rfl
 have hl:=FR (step:=fun x=>TC x.1.1 x.1.2.1 x.1.2.2.1 x.1.2.2.2.1) e.2.2.2.1 (fun h=>h.1==k) (fun i=>((k,e.2.2.2.1,((ja e.2.2.2.1:Nat):Int),i,()),())) (.inl ((),())) (fun i=>.inr ((i,()),()))
  (by
   intro j hj
   simp only[TC]
   rw[Ba (show(j:Int)<((ja e.2.2.2.1:Nat):Int) by omega),Nb hj]
   simp only[zj,jb]
   cases e.2.2.2.1[j].1==k<;>rfl) (by
   simp only[TC]
   rw[Aa (by omega)];rfl) (by omega)
 unfold XQ NE
 erw[hl]
 simp only[jb]
 by_cases hc:Sd (fun h:Pa=>h.1==k) 0 e.2.2.2.1=-1
 ·rw[if_pos hc,hc];rfl
 ·rw[if_neg hc];rfl
theorem IZ(e:Gb)(k:Int)(hn:e.2.2.2.1.length≤Da):BJ e k=some (Sd (fun h=>h.1==k) 0 e.2.2.2.1,()):=by
 have h20:Da=1048576:=rfl
 have hl:=FR (step:=fun x=>SD x.1.1 x.1.2.1 x.1.2.2.1 x.2.1) e.2.2.2.1 (fun h=>h.1==k) (fun i=>((k,(),i,()),(e,()))) (.inl ((),())) (fun i=>.inr ((i,()),()))
  (by
   intro j hj
   simp only[SD]
   rw[Ba (show(j:Int)<((ja e.2.2.2.1:Nat):Int) by omega),Nb hj]
   simp only[zj,jb]
   cases e.2.2.2.1[j].1==k<;>rfl) (by
   simp only[SD]
   rw[Aa (by omega)];rfl) (by omega)
 unfold BJ QF
 erw[hl]
 simp only[jb]
 by_cases hc:Sd (fun h:Pa=>h.1==k) 0 e.2.2.2.1=-1
 ·rw[if_pos hc,hc];rfl
 ·rw[if_neg hc];rfl
theorem T4(a b:Ca)(hn:a.2.1.length≤Wa):YD a b=some (Mm a b,()):=by
 have hlim:=Bg
 unfold YD Mm
 simp only[bne]
 cases(show Int from a.1)==(show Int from b.1)with
 |false=>rfl
 |true=>
  by_cases h:a.2.1.length=b.2.1.length
  ·have hl:=Kh (step:=fun x=>Bt x.1.1 x.1.2.1 x.1.2.2.1 x.2.1 x.2.2.1) a.2.1 (fun k x=>b.2.1.getD k 0==x) (fun i=>(((),(),i,()),(a,b,())))
    (.inl ((),())) (.inr ((false,()),())) (by
     intro k hk
     simp only[Bt]
     rw[Ba (show(k:Int)<((ja a.2.1:Nat):Int) by omega),Nb hk,Nb (show k<b.2.1.length by omega),qf,je (show k<b.2.1.length by omega)]
     simp only[zj,jb,q6,bne]
     rw[show(a.2.1[k]==b.2.1[k])=(b.2.1[k]==a.2.1[k]) by rw[qo,beq_iff_eq,beq_iff_eq];exact eq_comm]
     cases b.2.1[k]==a.2.1[k]<;>rfl) (by
     simp only[Bt]
     rw[Aa (by omega)];rfl) (by omega)
   have e:(((ja a.2.1:Nat):Int)==((ja b.2.1:Nat):Int))=true:=by simp[h]
   rw[e]
   simp only[jg,zk,jk]
   unfold Qw
   erw[hl]
   rw[Jal a.2.1 b.2.1 h,show(b.2.1==a.2.1)=(a.2.1==b.2.1) by rw[qo,beq_iff_eq,beq_iff_eq];exact eq_comm]
   cases a.2.1==b.2.1<;>rfl
  ·have e:(((ja a.2.1:Nat):Int)==((ja b.2.1:Nat):Int))=false:=by simp;omega
   have e2:(a.2.1==b.2.1)=false:=by rw[beq_eq_false_iff_ne];intro hh;exact h (by rw[hh])
   rw[e,e2];rfl
def chF(s:Ca×List Ca)(x:Ca):Ca×List Ca:=(x,cond (Mm s.1 x) s.2 (jf s.2 [x]))
theorem Cak:∀(l:List Ca) (k:Nat) (a:Ca) (o:List Ca),(Vc (fun _ s x=>chF s x) k (a,o) l).2=jf o (Oz Mm a l)
 |[],_,_,o=>by simp[Vc,Oz]
 |x::l,k,a,o=>by
  have ih:=Cak l (k+1) x (cond (Mm a x) o (jf o [x]))
  show(Vc (fun _ s x=>chF s x) (k+1) (x,cond (Mm a x) o (jf o [x])) l).2=_
  rw[ih]
  simp only[Oz]
  cases Mm a x<;>simp
theorem CX(a:Ca)(l:List Ca)(hn:l.length≤Da)(ha:a.2.1.length≤Da)(hx:∀x∈l,x.2.1.length≤Da):Sh a l=some (Oz Mm a l,()):=by
 have h20:Da=1048576:=rfl
 have hlim:=Bg
 have hl:=(Ue (step:=fun x=>Qv x.1.1 x.1.2.1 x.1.2.2.1 x.1.2.2.2.1 x.2.1) l (fun _ s x=>chF s x) (fun s i=>((l,(),s.2,i,()),(s.1,()))) (fun s=>.inl ((s.2,()),())) (fun k s=>s.2.length≤k∧s.1.2.1.length≤Da) (by
  intro k hk s ⟨hs1,hs2⟩
  have hxk:=hx _ (qj hk)
  refine⟨?_,?_,hxk⟩
  ·simp only[Qv]
   rw[Ba (show(k:Int)<((ja l:Nat):Int) by omega),Nb hk]
   simp only[zj,jb]
   rw[T4 _ _ (by omega),EQ _ hxk]
   simp only[jb,chF]
   rw[show jx (ja s.2+ja ([l[k]]:List Ca)) Wa=true from ji (by simp only[jw,j6];omega)]
   cases Mm s.1 l[k]<;>rfl
  ·unfold chF
   cases Mm s.1 l[k]with
   |true=>show s.2.length≤k+1;omega
   |false=>show(jf s.2 [l[k]]).length≤k+1;simp;omega)
  (by
   intro s _
   simp only[Qv]
   rw[Aa (by omega)];rfl) (by omega) (a,[]) ⟨jo _,ha⟩).1
 unfold Sh Vy
 erw[hl]
 have:=Cak l 0 a []
 simp only[jb,qg]
 rw[this];simp
theorem IW(a:Ca)(l:List Ca)(hn:l.length≤Da)(ha:a.2.1.length≤Da)(hx:∀x∈l,x.2.1.length≤Da):Sf a l=some (Oz Mm a l,()):=by
 have h20:Da=1048576:=rfl
 have hlim:=Bg
 unfold Sf Faz
 have e:(jx (ja l) Wa&&(UV a&&l.all UV))=true:=by
  rw[jd,jd,yz]
  refine⟨ji (by omega),ji (by show ja a.2.1≤_;omega),fun x hm=>ji ?_⟩
  have:=hx x hm
  show ja x.2.1≤_
  omega
 rw[e];rfl
theorem SU:∀(l:List Ca) (a:Ca),(Oz Mm a l).length≤l.length
 |[],_=>by simp[Oz]
 |x::l,a=>by
  have:=SU l x
  simp only[Oz]
  cases Mm a x<;>simp<;>omega
theorem NN(l:List Pa):(Qc l).2.1.length≤56:=ZZ l 56
theorem GP:∀(l:List Ca) (a x:Ca),x∈Oz Mm a l→x∈l
 |[],_,x,h=>by simp[Oz]at h
 |y::l,a,x,h=>by
  simp only[Oz]at h
  cases hs:Mm a y with
  |true=>rw[hs]at h;exact jr _ (GP l y x h)
  |false=>
   rw[hs]at h
   rcases jp.1 h with h|h
   ·exact h▸List.mem_cons_self ..
   ·exact jr _ (GP l y x h)
noncomputable def IaI(m:Ia)(f:Int)(k:Nat):Ma:=CJ (Ui m.2.1 (Mg m (Fe .i64 1 f) k) k)
noncomputable def stK(m:Ia)(f o:Int)(c:Bool)(k:Nat):Int×Int×Bool×Ma:=RA f o c (IaI m f k)
noncomputable def hK(m:Ia)(f o:Int)(c:Bool)(k:Nat):List Pa:=[((k:Int),(stK m f o c k).2.2.2,())]
structure Vp(m:Ia):Prop where
 v:Uc m=true
 z:Ja Xa m≤Da-10
theorem IaU{m:Ia}(hM:Vp m){f o:Int}{c:Bool}(hs:Wp m.2.1.length f o){k:Nat}(hk:(k:Int)<m.1):
 LX m.2.1.length (IaI m f k)∧Wp m.2.1.length (stK m f o c k).1 (stK m f o c k).2.1∧LX m.2.1.length (stK m f o c k).2.2.2∧Of (hK m f o c k)=true∧
  (∀x∈hK m f o c k,Io m.1 m.2.1.length x=true):=by
 have hm:=Be hM.v
 have h1:=Bag hm (Fe .i64 1 f) hk
 have h2:=Gav h1.1 h1.2
 have h3:=FaG (c:=c) hm.l2 hs h2
 refine⟨h2,h3.1,h3.2,IaQ (by have:=hm.k2;omega) h3.2,fun x hx=>?_⟩
 simp only[hK,jp,zi,or_false]at hx
 subst hx
 simp only[Io,jd,yn,Bool.and_eq_false_iff,decide_eq_false_iff_not]
 refine⟨by omega,?_⟩
 by_cases h9:(stK m f o c k).2.2.2.1=9
 ·exact .inl (by show((stK m f o c k).2.2.2.1 !=9)=false;simp[h9])
 ·exact .inr (Int.not_le.2 (h3.2.n h9))
theorem z20{m:Ia}(hM:Vp m)(f o:Int)(c:Bool)(h:List Pa)(hh:h.length≤1):Ja Mb (PaI m f o c h)≤Da:=by
 have h20:Da=1048576:=rfl
 have:=hM.z
 rw[EaQ];omega
theorem YW(l:List Pa):(Qc l).2.1.length≤Da:=by
 have h20:Da=1048576:=rfl
 have:=NN l
 omega
theorem KN{m:Ia}(hv:Uc m=true):Vp m:=by
 have hm:=Be hv
 refine⟨hv,?_⟩
 have h20:Da=1048576:=rfl
 have h1:Ja Xa m=0+(Ja (.sl (.sl Db)) m.2.1+0):=rfl
 have h2:Ja (.sl (.sl Db)) m.2.1≤(32+1)*ja m.2.1:=CU (e:=.sl Db) (c:=32) fun x hx=>by
  obtain⟨i,hi,rfl⟩:=qk hx
  rw[W4]
  have:=hm.row i hi
  have:=hm.k2
  omega
 have:=hm.l2
 omega


def Tj(p:Int→Bool):Nat→List Int
 |0=>[]
 |n+1=>cond (p ((n+1:Nat):Int)) (Tj p n++[((n+1:Nat):Int)]) (Tj p n)
theorem PW(p:Int→Bool):∀(n:Nat) (x:Int),x∈Tj p n↔(1≤x∧x≤(n:Int))∧p x=true
 |0,x=>by simp[Tj];intro h1 h2;omega
 |n+1,x=>by
  simp only[Tj]
  cases hc:p ((n+1:Nat):Int)with
  |true=>
   simp only[zj,jl,PW p n x,jp,zi,or_false]
   constructor
   ·rintro(⟨h1,h2⟩|rfl)
    ·exact⟨by omega,h2⟩
    ·exact⟨by omega,hc⟩
   ·rintro⟨h1,h2⟩
    by_cases hx:x=((n+1:Nat):Int)
    ·exact .inr hx
    ·exact .inl ⟨by omega,h2⟩
  |false=>
   simp only[zk,PW p n x]
   constructor
   ·rintro⟨h1,h2⟩;exact⟨by omega,h2⟩
   ·rintro⟨h1,h2⟩
    refine⟨?_,h2⟩
    by_cases hx:x=((n+1:Nat):Int)
    ·rw[hx,hc]at h2;simp at h2
    ·omega
theorem R3(p:Int→Bool):∀n,(Tj p n).length≤n
 |0=>by simp[Tj]
 |n+1=>by
  have:=R3 p n
  simp only[Tj]
  cases p ((n+1:Nat):Int)<;>simp<;>omega
theorem UU(l:List Pa):∀n,Nm l n=Tj (fun c=>l.any fun h=>h.2.1.2.1==c) n
 |0=>rfl
 |n+1=>by simp only[Nm,Tj,UU l n]
theorem H8(cs:List Int)(hn:cs.length≤Da)(hx:∀c∈cs,0≤c∧c≤56):Vx cs=some (Tj (fun c=>cs.any (fun y=>y==c)) 56,()):=by
 have:=LW (cs.map fun c=>((0,(0,c,0,0,()),()):Pa)) (by simpa using hn) (fun h hh=>by
  obtain⟨c,hc,rfl⟩:=ql.1 hh
  exact hx c hc)
 rw[List.map_map]at this
 have e:zg ((fun h:Pa=>h.2.1.2.1)∘fun c=>((0,(0,c,0,0,()),()):Pa)) cs=cs:=by
  rw[show((fun h:Pa=>h.2.1.2.1)∘fun c=>((0,(0,c,0,0,()),()):Pa))=id from rfl,List.map_id]
 rw[e]at this
 rw[this,UU]
 congr 3
 funext c
 rw[List.any_map]
 rfl
def JaA(s:Int)(D:List Rc):Int:=Vc (fun _ s (p:Rc)=>Fe .i64 s p.2.1) 0 s D
def HK(b:Ca)(D:List Rc):Ca:=(JaA b.1 D,Tj (fun c=>b.2.1.any (fun y=>y==c)||D.any (fun p=>p.1==c)) 56,())
theorem C6(b:Ca)(D:List Rc)(hb:b.2.1.length≤56)(hD:D.length≤1000)(hbx:∀c∈b.2.1,0≤c∧c≤56)(hDx:∀p∈D,0≤p.1∧p.1≤56):
 Og b D=some (HK b D,()):=by
 have h20:Da=1048576:=rfl
 have hl:=(Ue (step:=fun x=>Su x.1.1 x.1.2.1 x.1.2.2.1 x.1.2.2.2.1 x.1.2.2.2.2.1 x.1.2.2.2.2.2.1 x.2.1 x.2.2.1) D
  (fun _ (s:Int×List Int) (p:Rc)=>(Fe .i64 s.1 p.2.1,jf s.2 [p.1])) (fun s i=>(((),(),s.2,D,((ja D:Nat):Int),i,()),(((0:Int),([]:List Int),()),(s.1,([]:List Int),()),())))
  (fun s=>.inl (((),(),s.2,()),(((0:Int),([]:List Int),()),(s.1,([]:List Int),()),()))) (fun k s=>s.2.length=b.2.1.length+k) (by
   intro k hk s hs
   refine⟨?_,by simp[hs];omega⟩
   simp only[Su]
   rw[Ba (show(k:Int)<((ja D:Nat):Int) by omega),Nb hk]
   simp only[zj,jb]
   rw[show jx (ja s.2+ja ([D[k].1]:List Int)) Wa=true from ji (by simp only[jw,j6,Bg];omega)]
   rfl)
  (by
   intro s _
   simp only[Su]
   rw[Aa (by omega)];rfl) (by omega) (b.1,b.2.1) (by simp)).1
 have key:∀(D:List Rc) (k:Nat) (s:Int×List Int),Vc (fun _ (s:Int×List Int) (p:Rc)=>(Fe .i64 s.1 p.2.1,jf s.2 [p.1])) k s D=
  (Vc (fun _ s (p:Rc)=>Fe .i64 s p.2.1) k s.1 D,s.2++D.map fun p=>p.1):=by
  intro D
  induction D with
  |nil=>intro k s;simp[Vc]
  |cons x D ih=>intro k s;simp only[Vc];rw[ih];simp
 unfold Og Zx
 rw[KK _ (by omega)]
 simp only[jb]
 erw[hl]
 rw[key]
 simp only[jb,qg]
 rw[H8 _ (by simp;omega) (fun c hc=>by
  rcases jl.1 hc with h|h
  ·exact hbx c h
  ·obtain⟨p,hp,rfl⟩:=ql.1 h
   exact hDx p hp)]
 simp only[jb,HK,JaA]
 congr 4
 apply congrArg (fun p=>Tj p 56)
 funext c
 rw[List.any_append,List.any_map]
 rfl
abbrev zR:Ca:=((0:Int),([]:List Int),())
theorem C3{α:Type}(p:α→Bool):∀(l:List α) (k:Nat) (b:Bool),Vc (fun _ b x=>cond b true (p x)) k b l=(b||l.any p)
 |[],_,b=>by simp[Vc]
 |x::l,k,b=>by
  simp only[Vc,List.any_cons]
  rw[C3 p l (k+1)]
  cases b<;>cases p x<;>rfl
theorem Ian(D:List Pa)(b:Ca)(K:List Int)(c:Int)(has:Bool)(hb:b.2.1.length≤Da):
 Zo ((D,(),(),K,c,has,(0:Int),()),(zR,b,()))=some (.inl ((D,(),(),K,c,has||b.2.1.any (fun y=>y==c),()),(zR,b,()))):=by
 have h20:Da=1048576:=rfl
 have hl:=(Ue (step:=fun x=>Ov x.1.1 x.1.2.1 x.1.2.2.1 x.1.2.2.2.1 x.1.2.2.2.2.1 x.1.2.2.2.2.2.1 x.1.2.2.2.2.2.2.1 x.2.1 x.2.2.1) b.2.1 (fun _ s y=>cond s true (y==c)) (fun s i=>((D,(),(),K,c,s,i,()),(zR,b,())))
  (fun s=>.inl ((D,(),(),K,c,s,()),(zR,b,()))) (fun _ _=>True) (by
   intro k hk s _
   refine⟨?_,trivial⟩
   simp only[Ov]
   rw[Ba (show(k:Int)<((ja b.2.1:Nat):Int) by omega),show Rb (ja b.2.1) (k:Int)=true by rw[Ve];exact Ba hk,jn,je hk]
   simp only[zj,jb]
   cases s<;>rfl)
  (by
   intro s _
   simp only[Ov]
   rw[Aa (by omega)];rfl) (by omega) has trivial).1
 unfold Zo
 erw[hl]
 rw[C3 (fun y:Int=>y==c)]
theorem Han(D:List Pa)(b:Ca)(K:List Int)(c:Int)(has:Bool)(hD:D.length≤Da):
 Ap ((D,(),(),K,c,has,(0:Int),()),(zR,b,()))=some (.inl ((D,(),(),K,c,has||D.any (fun h=>h.2.1.2.1==c),()),(zR,b,()))):=by
 have h20:Da=1048576:=rfl
 have hl:=(Ue (step:=fun x=>Pv x.1.1 x.1.2.1 x.1.2.2.1 x.1.2.2.2.1 x.1.2.2.2.2.1 x.1.2.2.2.2.2.1 x.1.2.2.2.2.2.2.1 x.2.1 x.2.2.1) D (fun _ s (h:Pa)=>cond s true (h.2.1.2.1==c)) (fun s i=>((D,(),(),K,c,s,i,()),(zR,b,())))
  (fun s=>.inl ((D,(),(),K,c,s,()),(zR,b,()))) (fun _ _=>True) (by
   intro k hk s _
   refine⟨?_,trivial⟩
   simp only[Pv]
   rw[Ba (show(k:Int)<((ja D:Nat):Int) by omega),Nb hk]
   simp only[zj,jb]
   cases s<;>rfl)
  (by
   intro s _
   simp only[Pv]
   rw[Aa (by omega)];rfl) (by omega) has trivial).1
 unfold Ap
 erw[hl]
 rw[C3 (fun h:Pa=>h.2.1.2.1==c)]
theorem YK(l D:List Pa)(hn:l.length≤Da)(hv:Of l=true)(hD:D.length≤1000):Ej l D=some (HK (Qc l) (D.map Xd),()):=by
 have h20:Da=1048576:=rfl
 have h1:=(Ue (step:=fun x=>Lx x.1.1 x.1.2.1 x.1.2.2.1 x.1.2.2.2.1 x.2.1 x.2.2.1) D (fun _ s (h:Pa)=>Fe .i64 s h.2.1.2.2.1) (fun s i=>((D,(),(),i,()),(zR,((s,(Qc l).2.1,()):Ca),())))
  (fun s=>.inl ((D,(),(),()),(zR,((s,(Qc l).2.1,()):Ca),()))) (fun _ _=>True) (by
   intro k hk s _
   refine⟨?_,trivial⟩
   simp only[Lx]
   rw[Ba (show(k:Int)<((ja D:Nat):Int) by omega),Nb hk];rfl)
  (by
   intro s _
   simp only[Lx]
   rw[Aa (by omega)];rfl) (by omega) (Qc l).1 trivial).1
 have hm:∀(D:List Pa) (k:Nat) (s:Int),Vc (fun _ s (h:Pa)=>Fe .i64 s h.2.1.2.2.1) k s D=Vc (fun _ s (p:Rc)=>Fe .i64 s p.2.1) k s (D.map Xd):=by
  intro D
  induction D with
  |nil=>intro k s;rfl
  |cons x D ih=>intro k s;simp only[Vc,ym];exact ih _ _
 generalize hms:Vc (fun _ s (h:Pa)=>Fe .i64 s h.2.1.2.2.1) 0 (Qc l).1 D=ms at h1
 have hms':JaA (Qc l).1 (D.map Xd)=ms:=by rw[←hms,hm];rfl
 let pr:Int→Bool:=fun c=>(Qc l).2.1.any (fun y=>y==c)||D.any (fun h=>h.2.1.2.1==c)
 have h2:=EF (step:=fun x=>Mx x.1.1 x.1.2.1 x.1.2.2.1 x.1.2.2.2.1 x.1.2.2.2.2.1 x.2.1 x.2.2.1) (fun k=>((D,(),(),Tj pr k,((k+1:Nat):Int),()),(zR,((ms,(Qc l).2.1,()):Ca),()))) 56
  (.inl (((),(),Tj pr 56,()),(zR,((ms,(Qc l).2.1,()):Ca),()))) (by
   intro k hk
   simp only[Mx]
   have hlen:=R3 pr k
   rw[Ba (show((k+1:Nat):Int)≤56 by omega),Ian D _ _ _ _ (by have:=NN l;show(Qc l).2.1.length≤_;omega)]
   simp only[zj,jb,qg]
   rw[Han D _ _ _ _ (by omega)]
   simp only[jb,qg]
   rw[show jx (ja (Tj pr k)+ja ([((k+1:Nat):Int)]:List Int)) Wa=true from ji (by simp only[jw,j6,Bg];omega),Gc (by omega)]
   simp only[Tj,pr,yw,zj]
   cases((Qc l).2.1.any (fun y=>y==((k+1:Nat):Int))||D.any (fun h=>h.2.1.2.1==((k+1:Nat):Int)))<;>rfl) (by
   simp only[Mx]
   rw[Aa (by decide)];rfl)
 unfold Ej BB CB
 rw[Ks l hn hv]
 simp only[jb]
 erw[h1]
 simp only[jb,qg]
 erw[h2]
 simp only[jb,qg]
 unfold HK
 rw[hms']
 congr 4
 apply congrArg (fun p=>Tj p 56)
 funext c
 simp only[pr,List.any_map]
 rfl
noncomputable def rM(L:List Pa)(x:Ua):Int:=Sd (Wi x.2.1 x.2.2.1) 0 L
noncomputable def ZW(b:Ca)(L:List Pa)(x:Ua):List Ca:=
 cond (x.1==0) [HK b ((jf L [Di x]).map Xd),HK b (L.map Xd)] [HK b ((JN x L (rM L x)).map Xd)]
noncomputable def mG(b:Ca)(s:List Ca×List Pa)(x:Ua):List Ca×List Pa:=(jf s.1 (ZW b s.2 x),JN x s.2 (rM s.2 x))
noncomputable def JV(b:Ca)(l:List Ua):List Ca:=(Vc (fun _ s x=>mG b s x) 0 ([],[]) l).1
theorem R6{α:Type}(p:α→Bool):∀(xs:List α) (k:Nat) (y:α),Sd p k xs=-1→p y=true→Sd p k (xs++[y])=((k+xs.length:Nat):Int)
 |[],k,y,_,hy=>by simp only[yi,Sd,hy,zj];simp
 |x::xs,k,y,h,hy=>by
  simp only[Sd]at h
  simp only[yj,Sd]
  cases hx:p x with
  |true=>rw[hx]at h;simp only[zj]at h;omega
  |false=>
   rw[hx]at h
   simp only[zk]at h⊢
   rw[R6 p xs (k+1) y h hy,jw]
   omega
structure Sac(l:List Ua)(k:Nat)(s:List Ca×List Pa):Prop where
 ok:∃L',Cb (fun _ L x=>Zn L x) k s.2 (l.drop k)=.inl L'
 len:s.2.length≤k
 out:s.1.length≤2*k
 cod:∀h∈s.2,0≤h.2.1.2.1∧h.2.1.2.1≤56
theorem Kal{l:List Ua}{k:Nat}(hk:k<l.length){b:Ca}{s:List Ca×List Pa}(hi:Sac l k s):Bp l[k] (rM s.2 l[k])=true∧Sac l (k+1) (mG b s l[k]):=by
 obtain⟨L',hL⟩:=hi.ok
 rw[List.drop_eq_getElem_cons hk]at hL
 simp only[Cb]at hL
 unfold rM
 cases hc:Bp l[k] (Sd (Wi l[k].2.1 l[k].2.2.1) 0 s.2)with
 |false=>
  have:Zn s.2 l[k]=.inr ():=by unfold Zn;rw[hc];rfl
  rw[this]at hL;simp at hL
 |true=>
  have hm:Zn s.2 l[k]=.inl (JN l[k] s.2 (rM s.2 l[k])):=by unfold Zn rM;rw[hc];rfl
  rw[hm]at hL
  refine⟨rfl,⟨L',hL⟩,?_,?_,?_⟩
  ·have:=Vad hm
   have:=hi.len
   show(JN l[k] s.2 (rM s.2 l[k])).length≤k+1
   omega
  ·have:=hi.out
   show(jf s.1 (ZW b s.2 l[k])).length≤_
   unfold ZW
   cases l[k].1==0<;>simp<;>omega
  ·have hcode:0≤l[k].2.1∧l[k].2.1≤56:=by
    simp only[Bp,jd]at hc
    exact SQ hc.1
   intro h hh
   have hh':h∈JN l[k] s.2 (rM s.2 l[k]):=hh
   unfold JN at hh'
   cases h1:l[k].1==1 with
   |true=>
    rw[h1]at hh'
    rcases jl.1 (show h∈s.2++[Di l[k]]from hh')with hh'|hh'
    ·exact hi.cod h hh'
    ·simp only[jp,zi,or_false]at hh'
     rw[hh'];exact hcode
   |false=>
    rw[h1]at hh'
    cases h2:l[k].1==2 with
    |true=>
     rw[h2]at hh'
     have hsub:h∈s.2:=by
      have hw:h∈Ai s.2 (rM s.2 l[k]).toNat:=hh'
      unfold Ai Hb at hw
      rcases jl.1 (show h∈_++_ from hw)with hw|hw
      ·exact List.mem_of_mem_take (List.mem_of_mem_drop hw)
      ·exact List.mem_of_mem_take (List.mem_of_mem_drop hw)
     exact hi.cod h hsub
    |false=>rw[h2]at hh';exact hi.cod h hh'
theorem Jam{x:Ua}{r:Int}(h:Bp x r=true):(x.1=0∧r<0)∨(x.1=1∧r<0)∨(x.1=2∧r≥0):=by
 simp only[Bp,jd,qz,beq_iff_eq,yn,decide_eq_false_iff_not,decide_eq_true_eq]at h
 omega
theorem Ka{n m:Nat}(h:n≤1000)(hm:m≤10):jx (n+m) Wa=true:=ji (by rw[Bg];omega)
theorem Zan(L:List Pa)(h:Pa):Ai (jf L [h]) L.length=L:=by
 simp[Ai,Hb]
theorem C1(a:List Pa)(l:List Ua)(hn:a.length≤Da)(ha:Of a=true)(hm:Kc l=true):Yl a l=some (JV (Qc a) l,()):=by
 have h20:Da=1048576:=rfl
 have hm':=hm
 simp only[Kc,jd,decide_eq_true_eq,W3]at hm'
 have h0:Sac l 0 ([],[]):=⟨by
  rw[List.drop_zero]
  cases hf:Cb (fun _ L x=>Zn L x) 0 [] l with
  |inl L=>exact⟨L,rfl⟩
  |inr u=>rw[hf]at hm';simp at hm',jo _,jo _,by simp⟩
 have hl:=(Ue (step:=fun x=>Xo x.1.1 x.1.2.1 x.1.2.2.1 x.1.2.2.2.1 x.1.2.2.2.2.1) l (fun _ s x=>mG (Qc a) s x) (fun s i=>((a,l,s.1,s.2,i,()),())) (fun s=>.inl ((s.1,()),())) (Sac l) (by
  intro k hk s hi
  obtain⟨hok,hi'⟩:=Kal (b:=Qc a) hk hi
  refine⟨?_,hi'⟩
  have hlen:=hi.len
  have hout:=hi.out
  have hl8:=hm'.1
  simp only[Xo]
  rw[Ba (show(k:Int)<((ja l:Nat):Int) by omega),Nb hk]
  simp only[zj,jb,Xt]
  generalize hx:l[k]=x at*
  have e1:jx (ja s.2+ja ([((0:Int),((2:Int),x.2.1,x.2.2.1,(0:Int),()),())]:List Pa)) Wa=true:=Ka (by omega) (by simp)
  have hR1:Ej a (jf s.2 [Di x])=some (HK (Qc a) ((jf s.2 [Di x]).map Xd),()):=YK a _ hn ha (by simp;omega)
  have hR0:Ej a s.2=some (HK (Qc a) (s.2.map Xd),()):=YK a _ hn ha (by omega)
  unfold mG ZW JN
  rcases Jam hok with⟨h0,hr⟩|⟨h1,hr⟩|⟨h2,hr⟩
  ·rw[h0,e1]
   simp only[show((0:Int) !=2)=true from rfl,show((0:Int) !=1)=true from rfl,show((0:Int)==0)=true from rfl,show((0:Int)==1)=false from rfl,show((0:Int)==2)=false from rfl,zj,zk]
   show jz (Ej a (jf s.2 [Di x])) _=_
   rw[hR1]
   simp only[jb]
   rw[show∀r:Ca,jx (ja s.1+ja ([r]:List Ca)) Wa=true from fun r=>Ka (by omega) (by simp)]
   simp only[zj]
   have hF:Vq (jf s.2 [Di x]) x=some (((s.2.length:Nat):Int),()):=by
    rw[FQ _ _ (by simp;omega)]
    have hm1:Sd (Wi x.2.1 x.2.2.1) 0 s.2=-1:=by
     rcases Dz (Wi x.2.1 x.2.2.1) s.2 0 with h|⟨j,_,h⟩
     ·exact h
     ·unfold rM at hr;omega
    have:=R6 (Wi x.2.1 x.2.2.1) s.2 0 (Di x) hm1 (by simp[Wi,Di])
    rw[js]at this
    show some (Sd _ 0 (s.2++[Di x]),())=_
    rw[this]
   have hW:Yg (jf s.2 [Di x]) ((s.2.length:Nat):Int)=some (s.2,()):=by
    rw[CI _ (by simp) (by simp;omega),Zan]
   show jz (Vq (jf s.2 [Di x]) x) _=_
   rw[hF]
   simp only[jb]
   show jz (Yg (jf s.2 [Di x]) ((s.2.length:Nat):Int)) _=_
   rw[hW]
   simp only[jb]
   rw[hR0]
   simp only[jb]
   rw[show∀r r':Ca,jx (ja (jf s.1 [r])+ja ([r']:List Ca)) Wa=true from fun r r'=>Ka (by simp;omega) (by simp)]
   simp
  ·rw[h1,e1]
   simp only[show((1:Int) !=2)=true from rfl,show((1:Int) !=1)=false from rfl,show((1:Int)==0)=false from rfl,show((1:Int)==1)=true from rfl,zj,zk]
   show jz (Ej a (jf s.2 [Di x])) _=_
   rw[hR1]
   simp only[jb]
   rw[show∀r:Ca,jx (ja s.1+ja ([r]:List Ca)) Wa=true from fun r=>Ka (by omega) (by simp)]
   rfl
  ·rw[h2]
   simp only[show((2:Int) !=2)=false from rfl,show((2:Int) !=1)=true from rfl,show((2:Int)==0)=false from rfl,show((2:Int)==1)=false from rfl,show((2:Int)==2)=true from rfl,zj,zk]
   rcases Dz (Wi x.2.1 x.2.2.1) s.2 0 with h|⟨j,hj,h⟩
   ·unfold rM at hr;omega
   ·rw[js]at h
    rw[FQ _ _ (by omega),h]
    simp only[jb]
    rw[CI _ hj (by omega)]
    simp only[jb]
    rw[YK a _ hn ha (by rw[H7 hj];omega)]
    simp only[jb]
    rw[show∀r:Ca,jx (ja s.1+ja ([r]:List Ca)) Wa=true from fun r=>Ka (by omega) (by simp)]
    unfold rM
    rw[h,jn]
    rfl)
  (by
   intro s _
   simp only[Xo]
   rw[Aa (by omega)];rfl) (by omega) ([],[]) h0).1
 unfold Yl Hs
 rw[YG _ hn,ha,QN _ (by omega),hm]
 simp only[jb,jg,zk]
 erw[hl]
 rfl
theorem KaK(a:List Pa):∀c∈(Qc a).2.1,0≤c∧c≤56:=by
 intro c hc
 have:=(DM a 56 c).1 hc
 omega
theorem E0(a:List Pa)(l:List Ua)(hn:a.length≤Da)(ha:Of a=true)(hm:Kc l=true):Xl a l=some (JV (Qc a) l,()):=by
 have h20:Da=1048576:=rfl
 have hm':=hm
 simp only[Kc,jd,decide_eq_true_eq,W3]at hm'
 have h0:Sac l 0 ([],[]):=⟨by
  rw[List.drop_zero]
  cases hf:Cb (fun _ L x=>Zn L x) 0 [] l with
  |inl L=>exact⟨L,rfl⟩
  |inr u=>rw[hf]at hm';simp at hm',jo _,jo _,by simp⟩
 have hl:=(Ue (step:=fun x=>Oo x.1.1 x.1.2.1 x.1.2.2.1 x.1.2.2.2.1 x.1.2.2.2.2.1 x.1.2.2.2.2.2.1 x.2.1) l (fun _ s x=>mG (Qc a) s x) (fun s i=>(((),s.1,s.2.map Xd,l,((ja l:Nat):Int),i,()),(Qc a,()))) (fun s=>.inl ((s.1,()),())) (Sac l) (by
  intro k hk s hi
  obtain⟨hok,hi'⟩:=Kal (b:=Qc a) hk hi
  refine⟨?_,hi'⟩
  have hlen:=hi.len
  have hout:=hi.out
  have hl8:=hm'.1
  have hcode:0≤l[k].2.1∧l[k].2.1≤56:=by
   simp only[Bp,jd]at hok
   exact SQ hok.1
  simp only[Oo]
  rw[Ba (show(k:Int)<((ja l:Nat):Int) by omega),Nb hk]
  simp only[zj,jb]
  generalize hx:l[k]=x at*
  have hW:∀L:List Pa,L.length≤1000→(∀h∈L,0≤h.2.1.2.1∧h.2.1.2.1≤56)→Og (Qc a) (L.map Xd)=some (HK (Qc a) (L.map Xd),()):=fun L h1 h2=>
   C6 _ _ (NN a) (by simpa using h1) (KaK a) (fun p hp=>by
    obtain⟨h,hh,rfl⟩:=ql.1 hp
    exact h2 h hh)
  have hcs:∀h∈jf s.2 [Di x],0≤h.2.1.2.1∧h.2.1.2.1≤56:=by
   intro h hh
   rcases jl.1 (show h∈s.2++[Di x]from hh)with hh|hh
   ·exact hi.cod h hh
   ·simp only[jp,zi,or_false]at hh
    rw[hh];exact hcode
  have happ:jf (s.2.map Xd) ([(x.2.1,x.2.2.1,())]:List Rc)=(jf s.2 [Di x]).map Xd:=by
   show _++_=zg Xd (_++_)
   rw[yy];rfl
  have happ2:jf (jf ([]:List Rc) (s.2.map Xd)) ([(x.2.1,x.2.2.1,())]:List Rc)=(jf s.2 [Di x]).map Xd:=happ
  have hR1:=hW (jf s.2 [Di x]) (by simp;omega) hcs
  have hR0:=hW s.2 (by omega) hi.cod
  have b1:jx (ja (s.2.map Xd)+ja ([(x.2.1,x.2.2.1,())]:List Rc)) Wa=true:=Ka (by simp;omega) (by simp)
  have b0:jx (ja ([]:List Rc)+ja (s.2.map Xd)) Wa=true:=ji (by simp[Bg];omega)
  unfold mG ZW JN
  rcases Jam hok with⟨h0,hr⟩|⟨h1,hr⟩|⟨h2,hr⟩
  ·rw[h0,b0]
   simp only[show((0:Int)==0)=true from rfl,show((0:Int)==1)=false from rfl,show((0:Int)==2)=false from rfl,zj,zk]
   show cond (jx (ja (s.2.map Xd)+ja ([(x.2.1,x.2.2.1,())]:List Rc)) Wa) _ _=_
   rw[b1,happ2]
   simp only[zj]
   show jz (Og (Qc a) _) _=_
   rw[hR1]
   simp only[jb]
   rw[show∀r:Ca,jx (ja s.1+ja ([r]:List Ca)) Wa=true from fun r=>Ka (by omega) (by simp)]
   simp only[zj]
   show jz (Og (Qc a) _) _=_
   rw[hR0]
   simp only[jb]
   rw[show∀r r':Ca,jx (ja (jf s.1 [r])+ja ([r']:List Ca)) Wa=true from fun r r'=>Ka (by simp;omega) (by simp)]
   simp
  ·rw[h1,b1,happ]
   simp only[show((1:Int)==0)=false from rfl,show((1:Int)==1)=true from rfl,zj,zk]
   show jz (Og (Qc a) _) _=_
   rw[hR1]
   simp only[jb]
   rw[show∀r:Ca,jx (ja s.1+ja ([r]:List Ca)) Wa=true from fun r=>Ka (by omega) (by simp)]
   rfl
  ·rw[h2]
   simp only[show((2:Int)==0)=false from rfl,show((2:Int)==1)=false from rfl,show((2:Int)==2)=true from rfl,zj,zk]
   rcases Dz (Wi x.2.1 x.2.2.1) s.2 0 with h|⟨j,hj,h⟩
   ·unfold rM at hr;omega
   ·rw[js]at h
    rw[WY (s.2.map Xd) _ (by simp;omega),Yab,h]
    simp only[jb]
    have hj':j<(s.2.map Xd).length:=by simpa using hj
    have hc:=U2 hj'
    have e1:jx (ja (Hb (s.2.map Xd) (jy 0) (jy (j:Int)))+ja (Hb (s.2.map Xd) (jy ((j+1:Nat):Int)) (jy ((ja (s.2.map Xd):Nat):Int)))) Wa=true:=
     ji (by simp[Hb];rw[Bg];omega)
    have e2:jf (Hb (s.2.map Xd) (jy 0) (jy (j:Int))) (Hb (s.2.map Xd) (jy ((j+1:Nat):Int)) (jy ((ja (s.2.map Xd):Nat):Int)))=(Ai s.2 j).map Xd:=by
     rw[←I7]
     simp[Ai]
    have hsub:∀h∈Ai s.2 j,0≤h.2.1.2.1∧h.2.1.2.1≤56:=by
     intro h hw
     unfold Ai Hb at hw
     rcases jl.1 (show h∈_++_ from hw)with hw|hw
     ·exact hi.cod h (List.mem_of_mem_take (List.mem_of_mem_drop hw))
     ·exact hi.cod h (List.mem_of_mem_take (List.mem_of_mem_drop hw))
    rw[Gc (k:=j) (by omega),hc.1,hc.2,e1,e2]
    simp only[zj]
    show jz (Og (Qc a) _) _=_
    rw[hW (Ai s.2 j) (by rw[H7 hj];omega) hsub]
    simp only[jb]
    rw[show∀r:Ca,jx (ja s.1+ja ([r]:List Ca)) Wa=true from fun r=>Ka (by omega) (by simp)]
    unfold rM
    rw[h,jn]
    rfl)
  (by
   intro s _
   simp only[Oo]
   rw[Aa (by omega)];rfl) (by omega) ([],[]) h0).1
 unfold Xl Sr
 rw[HG _ hn,ha,VC _ (by omega),hm,Ur _ hn ha]
 simp only[jb,jg,zk]
 erw[hl]
 rfl
theorem Tag(b:Ca)(D:List Rc):(HK b D).2.1.length≤56:=by
 show(Tj (fun c=>b.2.1.any (fun y=>y==c)||D.any (fun p=>p.1==c)) 56).length≤56
 exact R3 _ 56
theorem Zal(b:Ca):∀(l:List Ua) (k:Nat) (s:List Ca×List Pa),(∀x∈s.1,x.2.1.length≤56)→
 (Vc (fun _ s x=>mG b s x) k s l).1.length≤s.1.length+2*l.length∧∀x∈(Vc (fun _ s x=>mG b s x) k s l).1,x.2.1.length≤56
 |[],_,s,h=>by simp only[Vc];exact⟨by omega,h⟩
 |x::l,k,s,h=>by
  have h1:(mG b s x).1.length≤s.1.length+2∧∀y∈(mG b s x).1,y.2.1.length≤56:=by
   unfold mG ZW
   cases x.1==0 with
   |true=>
    refine⟨by simp,fun y hy=>?_⟩
    rcases jl.1 (show y∈s.1++_ from hy)with hy|hy
    ·exact h y hy
    ·simp only[zj,jp,zi,or_false]at hy
     rcases hy with rfl|rfl<;>exact Tag _ _
   |false=>
    refine⟨by simp,fun y hy=>?_⟩
    rcases jl.1 (show y∈s.1++_ from hy)with hy|hy
    ·exact h y hy
    ·simp only[zk,jp,zi,or_false]at hy
     rw[hy];exact Tag _ _
  have:=Zal b l (k+1) (mG b s x) h1.2
  simp only[Vc,jw]
  exact⟨by omega,this.2⟩
def Nj(f:Int)(l:List Pa):Int:=Vc (fun _ s (h:Pa)=>cond (h.2.1.1==3) (Fe .i64 s (Te .i64 1 h.2.1.2.2.2.1)) s) 0 (Fe .i64 1 f) l
theorem NP{f:Int}(hf:0≤f∧f≤15)(l:List Pa)(hn:l.length≤Da)(hv:Of l=true):Nt f l=some (Nj f l,()):=by
 have h20:Da=1048576:=rfl
 have hh:=Tu hv
 have hl:=(Ue (step:=fun x=>Vw x.1.1 x.1.2.1 x.1.2.2.1 x.1.2.2.2.1) l
  (fun _ s (h:Pa)=>cond (h.2.1.1==3) (Fe .i64 s (Te .i64 1 h.2.1.2.2.2.1)) s) (fun s i=>((s,l,((ja l:Nat):Int),i,()),()))
  (fun s=>.inl ((s,()),())) (fun _ _=>True) (by
   intro k hk s _
   refine⟨?_,trivial⟩
   simp only[Vw]
   rw[Ba (show(k:Int)<(ja l:Int) by omega),Nb hk]
   simp only[zj,jb]
   rw[Ba (XO (hh _ (qj hk)).act)]
   cases l[k].2.1.1==3<;>rfl)
  (by
   intro s _
   simp only[Vw]
   rw[Aa (by omega)];rfl) (by omega) (Fe .i64 1 f) trivial).1
 unfold Nt Ql
 rw[Ba (show f≥0 by omega),Ba hf.2,HG _ hn,hv]
 simp only[zj,jb,jg,zk]
 erw[hl]
 rfl
theorem DQ{f:Int}(hf:0≤f∧f≤15)(l:List Pa)(hn:l.length≤Da)(hv:Of l=true):Ut f l=some (Nj f l,()):=by
 have h20:Da=1048576:=rfl
 have hh:=Tu hv
 have hl:=(Ue (step:=fun x=>Jx x.1.1 x.1.2.1 x.1.2.2.1) l
  (fun _ s (h:Pa)=>cond (h.2.1.1==3) (Fe .i64 s (Te .i64 1 h.2.1.2.2.2.1)) s) (fun s i=>((l,s,i,()),()))
  (fun s=>.inl ((s,()),())) (fun _ _=>True) (by
   intro k hk s _
   refine⟨?_,trivial⟩
   simp only[Jx]
   rw[Ba (show(k:Int)<((ja l:Nat):Int) by omega),Nb hk,YG _ hn,hv]
   simp only[zj,jb]
   rw[Ba (XO (hh _ (qj hk)).act)]
   cases l[k].2.1.1==3<;>rfl)
  (by
   intro s _
   simp only[Jx]
   rw[Aa (by omega)];rfl) (by omega) (Fe .i64 1 f) trivial).1
 unfold Ut Qq
 rw[Bd,Ba hf]
 simp only[zj,jb]
 erw[hl]
 rfl
theorem Qad(a:Ma):YQ a=some (MP a,()):=by
 unfold YQ MP
 rw[TH]
 cases Qf a<;>cases a.1==6<;>rfl
theorem Wab{a:Nat}(ha:a<2^63)(x:Pa):Iy (a:Int) x=true↔Nx x∧a.testBit x.1.toNat=false:=by
 constructor
 ·intro h
  obtain⟨h1,h2⟩:=LaF h
  refine⟨h1,?_⟩
  have hx:x.1=((x.1.toNat:Nat):Int):=(Int.toNat_of_nonneg h1.lo).symm
  have:=MU (a:=a) (k:=x.1.toNat) ha (by have:=h1.hi;omega)
  rw[←hx]at this
  rw[←this]
  simp[h2]
 ·rintro⟨h1,h2⟩
  have hx:x.1=((x.1.toNat:Nat):Int):=(Int.toNat_of_nonneg h1.lo).symm
  have:=MU (a:=a) (k:=x.1.toNat) ha (by have:=h1.hi;omega)
  rw[←hx,h2]at this
  simp only[Iy,jd,decide_eq_true_eq,yn,beq_eq_false_iff_ne]
  exact⟨⟨h1.lo,h1.hi⟩,by rw[beq_eq_false_iff_ne]at this;exact this,h1.act,h1.n1,h1.n6,h1.n7⟩
theorem S6:∀(l:List Pa) (k a:Nat),a<2^63→(Ay (Cb (fun _ s x=>Rz s x) k (a:Int) l)=true↔
 (∀x∈l,Nx x∧a.testBit x.1.toNat=false)∧l.Pairwise (fun x y=>x.1≠y.1))
 |[],k,a,ha=>by simp[Cb,Ay]
 |y::l,k,a,ha=>by
  simp only[Cb]
  cases hc:Iy (a:Int) y with
  |false=>
   rw[show Rz (a:Int) y=.inr () by unfold Rz;rw[hc];rfl]
   simp only[Ay,jq,false_iff]
   rintro⟨h,_⟩
   have:=(Wab ha y).2 (h y (List.mem_cons_self ..))
   rw[hc]at this;cases this
  |true=>
   rw[show Rz (a:Int) y=.inl (Fe .i64 (a:Int) (Te .i64 1 y.1)) by unfold Rz;rw[hc];rfl]
   simp only[]
   obtain⟨hy,hb⟩:=(Wab ha y).1 hc
   have h1:=hy.lo;have h2:=hy.hi
   have hyx:y.1=((y.1.toNat:Nat):Int):=(Int.toNat_of_nonneg h1).symm
   have e:Fe .i64 (a:Int) (Te .i64 1 y.1)=((a|||2^y.1.toNat:Nat):Int):=by
    conv=>lhs;rw[hyx]
    rw[UB (by omega),Uad ha (MN (by omega))]
   rw[e,S6 l (k+1) _ (Nat.or_lt_two_pow ha (MN (by omega)))]
   have tb:∀n,(a|||2^y.1.toNat).testBit n=false↔a.testBit n=false∧y.1.toNat≠n:=by
    intro n
    rw[Nat.testBit_or,Nat.testBit_two_pow,yv,decide_eq_false_iff_not]
   simp only[jp,List.pairwise_cons,forall_eq_or_imp]
   constructor
   ·rintro⟨h,hp⟩
    refine⟨⟨⟨hy,hb⟩,fun x hx=>⟨(h x hx).1,((tb _).1 (h x hx).2).1⟩⟩,fun x hx hxy=>?_,hp⟩
    exact((tb _).1 (h x hx).2).2 (by rw[hxy])
   ·rintro⟨⟨_,h⟩,hq,hp⟩
    refine⟨fun x hx=>⟨(h x hx).1,(tb _).2 ⟨(h x hx).2,fun hn=>hq x hx ?_⟩⟩,hp⟩
    have:=(h x hx).1.lo
    omega
theorem YU(l:List Pa):Of l=true↔(∀x∈l,Nx x)∧l.Pairwise (fun x y=>x.1≠y.1):=by
 have:=S6 l 0 0 (by decide)
 unfold Of Eaj
 erw[this]
 simp
theorem NaD{l:List Pa}(h:Of l=true){x:Pa}(hx:Nx x)(hn:∀y∈l,y.1≠x.1):Of (jf l [x])=true:=by
 rw[YU]at h⊢
 obtain⟨h1,h2⟩:=h
 refine⟨fun y hy=>?_,?_⟩
 ·rcases jl.1 (show y∈l++[x]from hy)with hy|hy
  ·exact h1 y hy
  ·rw[qc.1 hy];exact hx
 ·show(l++[x]).Pairwise _
  rw[List.pairwise_append]
  exact⟨h2,List.pairwise_singleton _ _,fun y hy z hz=>by rw[qc.1 hz];exact hn y hy⟩
theorem B8{l r:List Pa}(h:Of l=true)(hs:r.Sublist l):Of r=true:=by
 rw[YU]at h⊢
 exact⟨fun y hy=>h.1 y (hs.subset hy),h.2.sublist hs⟩
theorem V8:∀(n:Nat) (l:List Nat),l.Nodup→(∀x∈l,x<n)→l.length≤n
 |0,l,_,h=>by
  cases l with
  |nil=>exact jo _
  |cons x l=>exact absurd (h x (List.mem_cons_self ..)) (Nat.not_lt_zero _)
 |n+1,l,hn,h=>by
  have:=V8 n (l.erase n) (hn.erase n) (fun x hx=>by
   have h1:=(hn.mem_erase_iff).1 hx
   have:=h x h1.2
   have:=h1.1
   omega)
  have h2:=List.length_erase (a:=n) (l:=l)
  split at h2<;>omega
theorem Wq{l:List Pa}(h:Of l=true):l.length≤32:=by
 rw[YU]at h
 have hn:(l.map fun x=>x.1.toNat).Nodup:=by
  rw[List.Nodup,List.pairwise_map]
  refine(List.Pairwise.and_mem.1 h.2).imp ?_
  rintro x y ⟨hx,hy,hxy⟩ he
  have h1:=(h.1 x hx).lo;have h2:=(h.1 y hy).lo
  omega
 have hs:∀y∈(l.map fun x=>x.1.toNat),y<32:=by
  intro y hy
  obtain⟨x,hx,rfl⟩:=ql.1 hy
  have:=(h.1 x hx).hi;have:=(h.1 x hx).lo
  omega
 have:=V8 32 _ hn hs
 simpa using this
structure Ms(e:Gb):Prop where
 km:Uc e.1=true
 m4:e.2.1.length≤4
 hd:Of e.2.2.2.1=true
 mac:∀x∈e.2.1,Kc x=true
 hin:∀x∈e.2.2.2.1,Io e.1.1 e.1.2.1.length x=true
 st:Wp e.1.2.1.length e.2.2.1 e.2.2.2.2.1
theorem N7{α:Type}{p:α→Bool}{l:List α}:Ig (fun _ x=>p x) 0 l=true↔∀x∈l,p x=true:=by
 rw[Bz]
 constructor
 ·intro h x hx
  obtain⟨i,hi,rfl⟩:=qk hx
  exact h i hi
 ·intro h j hj
  exact h _ (qj hj)
theorem PY(e:Gb):Tg e=true↔Ms e:=by
 unfold Tg
 simp only[jd,decide_eq_true_eq,beq_iff_eq,N7]
 constructor
 ·rintro⟨h1,h2,h3,h4,h5,h6,h7,h8⟩
  exact⟨h1,h2,h3,h4,h5,⟨h6.1,h6.2,h7,h8.1,h8.2⟩⟩
 ·rintro⟨h1,h2,h3,h4,h5,h6⟩
  exact⟨h1,h2,h3,h4,h5,⟨h6.f0,h6.f1⟩,h6.f2,h6.o0,h6.o1⟩
theorem Q5{e:Gb}(h:Ms e):Ja Mb e≤Da-5:=by
 have h20:Da=1048576:=rfl
 have h1:=(KN h.km).z
 have hh:=Wq h.hd
 have h2:Ja (.sl (.sl Xb)) e.2.1≤(8+1)*e.2.1.length:=CU (e:=.sl Xb) (c:=8) fun x hx=>by
  have:=h.mac x hx
  simp only[Kc,jd,decide_eq_true_eq]at this
  have e2:Ja (.sl Xb) x=x.length:=Lp (e:=Xb) rfl x
  omega
 have:=h.m4
 have hm:=Be h.km
 have h3:Ja Xa e.1≤200:=by
  have h1:Ja Xa e.1=0+(Ja (.sl (.sl Db)) e.1.2.1+0):=rfl
  have h2:Ja (.sl (.sl Db)) e.1.2.1≤(32+1)*ja e.1.2.1:=CU (e:=.sl Db) (c:=32) fun x hx=>by
   obtain⟨i,hi,rfl⟩:=qk hx
   rw[W4]
   have:=hm.row i hi
   have:=hm.k2
   omega
  have:=hm.l2
  omega
 rw[Pl,Yt]
 omega
noncomputable def Y8(e:Gb)(k:Nat)(b:Bool):Ma:=
 cond b (MP (Ui e.1.2.1 (Mg e.1 (Nj e.2.2.1 e.2.2.2.1) k) k)) (CJ (Ui e.1.2.1 (Mg e.1 (Nj e.2.2.1 e.2.2.2.1) k) k))
noncomputable def To(e:Gb)(k:Nat)(b:Bool):Int×Int×Bool×Ma:=RA e.2.2.1 e.2.2.2.2.1 e.2.2.2.2.2.1 (Y8 e k b)
noncomputable def pH(e:Gb)(k:Nat)(b:Bool):List Pa:=jf e.2.2.2.1 [((k:Int),(To e k b).2.2.2,())]
noncomputable def pE(e:Gb)(k:Nat)(b:Bool):Gb:=(e.1,e.2.1,(To e k b).1,pH e k b,(To e k b).2.1,(To e k b).2.2.1,())
noncomputable def pM(e:Gb)(k:Nat)(b:Bool):List Ca:=
 cond ((To e k b).2.2.2.1==9) (cond (decide ((To e k b).2.2.2.2.2.2.1<((ja e.2.1:Nat):Int))) (JV (Qc (pH e k b)) (e.2.1.getD (To e k b).2.2.2.2.2.2.1.toNat [])) []) []
noncomputable def pR(e:Gb)(k:Nat)(b:Bool):List Ca:=Oz Mm (Qc e.2.2.2.1) (jf (pM e k b) [Qc (pH e k b)])
theorem XaI{nl i:Nat}{a:Ma}(h:Tl nl i a=true)(h1:a.1≠1):LX nl (MP a):=by
 have ha:=GF h
 have hP:=ha
 rw[Yb]at hP
 unfold Dd at hP
 unfold MP Qf
 rw[ha]
 by_cases h67:a.1=6∨a.1=7
 ·have e:(true&&((a.1==6)||(a.1==7)))=true:=by rcases h67 with h|h<;>rw[h]<;>rfl
  rw[e]
  have hn:=BZ h (by omega)
  rcases h67 with h6|h7
  ·rw[h6]
   refine⟨?_,by show(2:Int)≠1;decide,by show(2:Int)≠6;decide,by show(2:Int)≠7;decide,fun _=>?_⟩
   ·rw[Yb]
    exact .inr (.inl ⟨rfl,rfl,.inl rfl,.inr (by show 1≤a.2.2.1∧a.2.2.1≤15;omega),.inr (by show a.2.2.1≠0;omega)⟩)
   ·show(0:Int)<(nl:Int)
    omega
  ·rw[h7]
   refine⟨?_,by show(3:Int)≠1;decide,by show(3:Int)≠6;decide,by show(3:Int)≠7;decide,fun _=>hn⟩
   rw[Yb]
   exact .inr (.inr (.inl ⟨.inl rfl,rfl,rfl,by show 1≤a.2.2.2.1;omega,by show a.2.2.2.1≤3;omega⟩))
 ·have e:(true&&((a.1==6)||(a.1==7)))=false:=by
   rw[jk,yv,beq_eq_false_iff_ne,beq_eq_false_iff_ne];omega
  rw[e]
  exact⟨ha,h1,fun h=>h67 (.inl h),fun h=>h67 (.inr h),fun hk=>BZ h hk⟩
structure XaB(e:Gb)(k:Nat)(b:Bool):Prop where
 act:LX e.1.2.1.length (Y8 e k b)
 ah:LX e.1.2.1.length (To e k b).2.2.2
 hd:Of (pH e k b)=true
 ok:Ms (pE e k b)
 ml:(pM e k b).length≤16
 mx:∀x∈pM e k b,x.2.1.length≤56
theorem V5{e:Gb}(h:Ms e){k:Nat}(hk:(k:Int)<e.1.1)(hn:∀y∈e.2.2.2.1,y.1≠(k:Int))(b:Bool):XaB e k b:=by
 have hm:=Be h.km
 have h1:=Bag hm (Nj e.2.2.1 e.2.2.2.1) hk
 have h2:LX e.1.2.1.length (Y8 e k b):=by
  cases b
  ·exact Gav h1.1 h1.2
  ·exact XaI h1.1 h1.2
 have h3:=FaG (c:=e.2.2.2.2.2.1) hm.l2 h.st h2
 have h4:Of (pH e k b)=true:=NaD h.hd (x:=((k:Int),(To e k b).2.2.2,())) ⟨by show(0:Int)≤(k:Int);omega,by have:=hm.k2;show(k:Int)≤31;omega,h3.2.act,h3.2.n1,h3.2.n6,h3.2.n7⟩ hn
 refine⟨h2,h3.2,h4,⟨h.km,h.m4,h4,h.mac,fun x hx=>?_,h3.1⟩,?_,?_⟩
 ·rcases jl.1 (show x∈e.2.2.2.1++[((k:Int),(To e k b).2.2.2,())]from hx)with hx|hx
  ·exact h.hin x hx
  ·simp only[jp,zi,or_false]at hx
   subst hx
   simp only[Io,jd,yn,Bool.and_eq_false_iff,decide_eq_false_iff_not]
   refine⟨by show¬(k:Int)≥e.1.1;omega,?_⟩
   by_cases h9:(To e k b).2.2.2.1=9
   ·exact .inl (by show((To e k b).2.2.2.1 !=9)=false;simp[h9])
   ·exact .inr (Int.not_le.2 (h3.2.n h9))
 all_goals
  unfold pM
  cases(To e k b).2.2.2.1==9 with
  |false=>simp
  |true=>
   simp only[zj]
   by_cases hl:(To e k b).2.2.2.2.2.2.1<((ja e.2.1:Nat):Int)
   ·rw[Ba hl]
    have h0:=XO h3.2.act
    have hmem:(e.2.1.getD (To e k b).2.2.2.2.2.2.1.toNat [])∈e.2.1:=by
     have hlt:(To e k b).2.2.2.2.2.2.1.toNat<e.2.1.length:=by
      have:(0:Int)≤(To e k b).2.2.2.2.2.2.1:=h0
      omega
     rw[qf,je hlt,q6]
     exact qj hlt
    have hmc:=h.mac _ hmem
    simp only[Kc,jd,decide_eq_true_eq]at hmc
    have:=Zal (Qc (pH e k b)) (e.2.1.getD (To e k b).2.2.2.2.2.2.1.toNat []) 0 ([],[]) (by simp)
    simp only[zj]
    unfold JV
    first
     |exact this.2
     |(have h5:=this.1;simp only[j6]at h5;omega)
   ·rw[Aa hl];simp
theorem Bac{β:Type}(MR:List Pa→List Ua→Option ((List Ca)×Unit))(RO:List Pa→Option (Ca×Unit))(CH:Ca→List Ca→Option ((List Ca)×Unit))(K:List Ca→Option β)
 (hMR:∀a l,a.length≤Da→Of a=true→Kc l=true→MR a l=some (JV (Qc a) l,()))
 (hRO:∀l,l.length≤Da→Of l=true→RO l=some (Qc l,()))
 (hCH:∀(a:Ca) (l:List Ca),l.length≤Da→a.2.1.length≤Da→(∀x∈l,x.2.1.length≤Da)→CH a l=some (Oz Mm a l,()))
 {e:Gb} (h:Ms e) {k:Nat} {b:Bool} (F:XaB e k b):
 (cond (jx (ja e.2.2.2.1+ja ([((k:Int),(To e k b).2.2.2,())]:List Pa)) Wa)
  (cond ((To e k b).2.2.2.1==(9:Int))
   (cond (decide ((To e k b).2.2.2.2.2.2.1<((ja e.2.1:Nat):Int)))
    (jz (Ib e.2.1 (To e k b).2.2.2.2.2.2.1) fun x8=>jz (MR (pH e k b) x8) fun r9=>jz (RO (pH e k b)) fun r10=>
     cond (jx (ja r9.1+ja ([r10.1]:List Ca)) Wa) (jz (RO e.2.2.2.1) fun r11=>jz (CH r11.1 (jf r9.1 ([r10.1]:List Ca))) fun r12=>K r12.1) none)
    (jz (RO (pH e k b)) fun r13=>cond (jx (ja ([]:List Ca)+ja ([r13.1]:List Ca)) Wa)
     (jz (RO e.2.2.2.1) fun r14=>jz (CH r14.1 (jf ([]:List Ca) ([r13.1]:List Ca))) fun r15=>K r15.1) none))
   (jz (RO (pH e k b)) fun r16=>cond (jx (ja ([]:List Ca)+ja ([r16.1]:List Ca)) Wa)
    (jz (RO e.2.2.2.1) fun r17=>jz (CH r17.1 (jf ([]:List Ca) ([r16.1]:List Ca))) fun r18=>K r18.1) none))
  none)=K (pR e k b):=by
 have h20:Da=1048576:=rfl
 have hlim:=Bg
 have hl1:=Wq h.hd
 have hl2:=Wq F.hd
 have R1:=hRO (pH e k b) (by omega) F.hd
 have R0:=hRO e.2.2.2.1 (by omega) h.hd
 have hr:∀r:Ca,jx (ja ([]:List Ca)+ja ([r]:List Ca)) Wa=true:=fun r=>ji (by simp only[jw,j6];omega)
 rw[show jx (ja e.2.2.2.1+ja ([((k:Int),(To e k b).2.2.2,())]:List Pa)) Wa=true from ji (by simp only[jw,j6];omega)]
 have plain:pM e k b=[]→(jz (RO (pH e k b)) fun r13=>cond (jx (ja ([]:List Ca)+ja ([r13.1]:List Ca)) Wa)
  (jz (RO e.2.2.2.1) fun r14=>jz (CH r14.1 (jf ([]:List Ca) ([r13.1]:List Ca))) fun r15=>K r15.1) none)=K (pR e k b):=by
  intro hm
  rw[R1,R0]
  simp only[jb]
  rw[hr,hCH _ _ (by simp;omega) (YW _) (fun x hx=>by rw[qc.1 (show x∈[Qc (pH e k b)]from hx)];exact YW _)]
  simp only[zj,jb]
  unfold pR
  rw[hm]
 simp only[zj]
 cases h9:(To e k b).2.2.2.1==(9:Int)with
 |false=>exact plain (by unfold pM;rw[h9];rfl)
 |true=>
  simp only[zj]
  by_cases hl:(To e k b).2.2.2.2.2.2.1<((ja e.2.1:Nat):Int)
  ·rw[Ba hl]
   simp only[zj]
   have h0:(0:Int)≤(To e k b).2.2.2.2.2.2.1:=XO F.ah.act
   have hlt:(To e k b).2.2.2.2.2.2.1.toNat<e.2.1.length:=by omega
   have hi:Ib e.2.1 (To e k b).2.2.2.2.2.2.1=some e.2.1[(To e k b).2.2.2.2.2.2.1.toNat]:=by
    have:=Nb (xs:=e.2.1) hlt
    rw[Int.toNat_of_nonneg h0]at this
    exact this
   have hM:pM e k b=JV (Qc (pH e k b)) e.2.1[(To e k b).2.2.2.2.2.2.1.toNat]:=by
    unfold pM
    rw[h9,Ba hl,qf,je hlt,q6]
    rfl
   have ml:=F.ml
   have mx:=F.mx
   rw[hi]
   simp only[jb]
   rw[hMR _ _ (by omega) F.hd (h.mac _ (qj hlt)),R1,R0,←hM]
   simp only[jb]
   rw[show jx (ja (pM e k b)+ja ([Qc (pH e k b)]:List Ca)) Wa=true from ji (by simp only[jw,j6];omega)]
   simp only[zj]
   rw[hCH _ _ (by show(pM e k b++[Qc (pH e k b)]).length≤_;simp;omega) (YW _) (fun x hx=>by
    rcases jl.1 (show x∈pM e k b++[Qc (pH e k b)]from hx)with hx|hx
    ·have:=mx x hx;omega
    ·rw[qc.1 hx];exact YW _)]
   rfl
  ·rw[Aa hl]
   exact plain (by unfold pM;rw[h9,Aa hl];rfl)
theorem Tad{e:Gb}(h:Ms e){k:Nat}(hk:(k:Int)<e.1.1)(hn:∀y∈e.2.2.2.1,y.1≠(k:Int))(b:Bool):
 Mj e (k:Int) b=some (pE e k b,pR e k b,()):=by
 have h20:Da=1048576:=rfl
 have hm:=Be h.km
 have F:=V5 h hk hn b
 have hz:=Q5 h
 have hle:=Wq h.hd
 have hl:=DF hm (Nj e.2.2.1 e.2.2.2.1) k
 have hrow:=hm.row _ hl
 have tail:=Bac Xl Ee Sf (fun r=>some (pE e k b,r,())) E0 Ur IW h F
 unfold Mj
 rw[Nu _ (by omega),NP (Saz hm.l2 h.st) _ (by omega) h.hd]
 simp only[jb]
 rw[MM hm _ hk]
 simp only[jb]
 show jz (Ib e.1.2.1 ((Mg e.1 (Nj e.2.2.1 e.2.2.2.1) k:Nat):Int)) _=_
 rw[Lad hl (by omega)]
 cases b with
 |true=>
  simp only[zj]
  rw[Qad]
  simp only[jb]
  show jz (Iw (e.1,e.2.1,e.2.2.1,e.2.2.2.1,e.2.2.2.2.1,e.2.2.2.2.2.1,()) (Y8 e k true)) _=_
  rw[XY _ _ _ _ _ _ _ F.act.act]
  simp only[jb]
  exact tail
 |false=>
  simp only[zk]
  rw[Zag]
  simp only[jb]
  show jz (Iw (e.1,e.2.1,e.2.2.1,e.2.2.2.1,e.2.2.2.2.1,e.2.2.2.2.2.1,()) (Y8 e k false)) _=_
  rw[XY _ _ _ _ _ _ _ F.act.act]
  simp only[jb]
  exact tail
theorem Xaa{l:List Pa}{k:Int}:Sd (fun h:Pa=>h.1==k) 0 l=-1↔∀y∈l,y.1≠k:=by
 have key:∀(l:List Pa) (n:Nat),Sd (fun h:Pa=>h.1==k) n l=-1↔∀y∈l,y.1≠k:=by
  intro l
  induction l with
  |nil=>intro n;simp[Sd]
  |cons x l ih=>
   intro n
   simp only[Sd]
   cases hx:x.1==k with
   |true=>
    simp only[zj,jp,forall_eq_or_imp]
    have hx:=eq_of_beq hx
    constructor
    ·intro h;omega
    ·intro h;exact absurd hx h.1
   |false=>
    simp only[zk,jp,forall_eq_or_imp]
    rw[ih]
    exact⟨fun h=>⟨beq_eq_false_iff_ne.1 hx,h⟩,fun h=>h.2⟩
 exact key l 0
theorem Xae{e:Gb}(h:Ms e){k:Nat}(hk:(k:Int)<e.1.1)(hn:∀y∈e.2.2.2.1,y.1≠(k:Int))(b:Bool):
 Qn e (k:Int) b=some (pE e k b,pR e k b,true,()):=by
 have h20:Da=1048576:=rfl
 have hm:=Be h.km
 have hk2:=hm.k2
 have F:=V5 h hk hn b
 have hz:=Q5 h
 have hle:=Wq h.hd
 have hv:=(PY e).2 h
 have tail:=Bac Yl Le Sh (fun r=>some (pE e k b,r,true,())) C1 Ks CX h F
 unfold Qn
 rw[UA _ (by omega),hv,IZ _ _ (by omega),Xaa.2 hn,Ir _ (by omega),DQ (Saz hm.l2 h.st) _ (by omega) h.hd]
 simp only[jb,jg,zk,Bd]
 rw[Mf (by omega) (by omega),Ba (show 0≤(k:Int)∧(k:Int)≤e.1.1-1 by omega),Aa (show¬((-1:Int)≥0) by decide)]
 simp only[jg,zk]
 rw[WK (by have:=(KN h.km).z;omega) h.km _ hk]
 simp only[jb]
 cases b with
 |true=>
  simp only[zj]
  rw[Sae]
  simp only[jb]
  show jz (Jp (e.1,e.2.1,e.2.2.1,e.2.2.2.1,e.2.2.2.2.1,e.2.2.2.2.2.1,()) (Y8 e k true)) _=_
  rw[JZ _ _ _ _ _ _ _ F.act.act]
  simp only[jb]
  exact tail
 |false=>
  simp only[zk]
  rw[Qah]
  simp only[jb]
  show jz (Jp (e.1,e.2.1,e.2.2.1,e.2.2.2.1,e.2.2.2.2.1,e.2.2.2.2.2.1,()) (Y8 e k false)) _=_
  rw[JZ _ _ _ _ _ _ _ F.act.act]
  simp only[jb]
  exact tail
def wo(l:List Pa)(i:Nat):List Pa:=jf (l.take i) (l.drop (i+1))
theorem Qac(l:List Pa)(i:Nat):(wo l i).Sublist l:=by
 have h:(l.drop (i+1)).Sublist (l.drop i):=List.drop_sublist_drop_left l (Nat.le_succ i)
 have h2:=List.Sublist.append (List.Sublist.refl (l.take i)) h
 rw[List.take_append_drop]at h2
 exact h2
def rE(e:Gb)(i:Nat):Gb:=(e.1,e.2.1,e.2.2.1,wo e.2.2.2.1 i,e.2.2.2.2)
def rR(e:Gb)(i:Nat):List Ca:=Oz Mm (Qc e.2.2.2.1) [Qc (wo e.2.2.2.1 i)]
theorem OaP{e:Gb}(h:Ms e)(i:Nat):Ms (rE e i):=
 ⟨h.km,h.m4,B8 h.hd (Qac _ i),h.mac,fun x hx=>h.hin x ((Qac _ i).subset hx),h.st⟩
theorem XaC{α:Type}(l:List α)(i:Nat):Hb l (jy (0:Int)) (jy (i:Int))=l.take i:=by
 simp[Hb]
theorem WaC{α:Type}(l:List α)(i:Nat):Hb l (jy ((i+1:Nat):Int)) (jy ((ja l:Nat):Int))=l.drop (i+1):=by
 simp[Hb]
theorem I8{e:Gb}(h:Ms e){k:Int}{i:Nat}(hi:i<e.2.2.2.1.length)(hf:Sd (fun h:Pa=>h.1==k) 0 e.2.2.2.1=(i:Int)):
 UE e k=some (rE e i,rR e i,()):=by
 have h20:Da=1048576:=rfl
 have hlim:=Bg
 have hz:=Q5 h
 have hle:=Wq h.hd
 have hw:=B8 h.hd (Qac e.2.2.2.1 i)
 have hwl:=Wq hw
 unfold UE
 rw[Nu _ (by omega),Pad _ _ (by omega),hf]
 simp only[jb]
 rw[Gc (by omega)]
 rw[XaC,WaC]
 rw[show Nd (ja e.2.2.2.1) (0:Int) ((i:Nat):Int)=true from Xh (lo:=0) (by omega) (by omega),Xh (by omega) (by omega)]
 rw[show jx (ja (e.2.2.2.1.take i)+ja (e.2.2.2.1.drop (i+1))) Wa=true from ji (by simp;omega)]
 simp only[zj]
 rw[Ur _ (by omega) h.hd]
 simp only[jb]
 show jz (Ee (wo e.2.2.2.1 i)) _=_
 rw[Ur _ (by omega) hw]
 simp only[jb]
 rw[IW _ _ (by simp;omega) (YW _) (fun x hx=>by rw[qc.1 hx];exact YW _)]
 rfl
theorem J9{e:Gb}(h:Ms e){k:Int}{i:Nat}(hi:i<e.2.2.2.1.length)(hf:Sd (fun h:Pa=>h.1==k) 0 e.2.2.2.1=(i:Int)):
 TF e k=some (rE e i,rR e i,true,()):=by
 have h20:Da=1048576:=rfl
 have hlim:=Bg
 have hz:=Q5 h
 have hle:=Wq h.hd
 have hw:=B8 h.hd (Qac e.2.2.2.1 i)
 have hwl:=Wq hw
 have hv:=(PY e).2 h
 have hW:Yg e.2.2.2.1 (i:Int)=some (wo e.2.2.2.1 i,()):=by
  unfold Yg
  rw[Gc (by omega),XaC,WaC]
  rw[show Nd (ja e.2.2.2.1) (0:Int) ((i:Nat):Int)=true from Xh (lo:=0) (by omega) (by omega),Xh (by omega) (by omega)]
  rw[show jx (ja ([]:List Pa)+ja (e.2.2.2.1.take i)) Wa=true from ji (by simp;omega)]
  rw[show jx (ja (jf ([]:List Pa) (e.2.2.2.1.take i))+ja (e.2.2.2.1.drop (i+1))) Wa=true from ji (by simp;omega)]
  rfl
 unfold TF
 rw[IZ _ _ (by omega),UA _ (by omega),hv,Ir _ (by omega),hf]
 simp only[jb,jg,zk]
 rw[Aa (show¬((i:Int)<0) by omega),hW]
 simp only[zk,jb]
 rw[Ks _ (by omega) h.hd]
 simp only[jb]
 rw[Ks _ (by omega) hw]
 simp only[jb]
 rw[CX _ _ (by simp;omega) (YW _) (fun x hx=>by rw[qc.1 hx];exact YW _)]
 rfl
def P1(md key e:Int)(s:Int)(x:Ya):Int⊕(Int×Int):=
 cond (Pj x) (cond (decide (x.1≥e)) (.inr (2,e)) (cond (x.2.1==key) (cond x.2.2.1 (.inl s) (.inr (1,x.1)))
  (cond x.2.2.1 (cond (md==1) (.inr (2,x.1)) (.inl (Fe .i64 s (Te .i64 1 x.2.1))))
   (cond (md==2) (cond (Im s x.2.1==1) (.inr (2,x.1)) (.inl s)) (.inl s))))) (.inr (0,0))
def chR(md key e:Int)(l:List Ya):Int⊕(Int×Int):=Cb (fun _ s x=>P1 md key e s x) 0 0 l
def Oh(t:DL)(key at_:Int)(l:List Ya)(til:Int):Rc:=
 cond (Yk t&&decide (0≤at_∧at_≤1000000)) (match chR t.2.2.1 key (j4 .i64 (at_+t.1)) l with
  |.inl _=>cond (decide (til≥j4 .i64 (at_+t.1))) (2,j4 .i64 (at_+t.1),()) (0,0,())
  |.inr r=>(r.1,r.2,())) (0,0,())
theorem F8(t:DL)(key at_:Int)(l:List Ya)(til:Int)(hn:l.length≤Da):IB t key at_ l til=some (Oh t key at_ l til):=by
 have h20:Da=1048576:=rfl
 have hl:=Ug (step:=fun x=>Sw x.1.1 x.1.2.1 x.1.2.2.1 x.1.2.2.2.1 x.1.2.2.2.2.1 x.1.2.2.2.2.2.1 x.1.2.2.2.2.2.2.1 x.1.2.2.2.2.2.2.2.1 x.2.1) l
  (fun _ s x=>P1 t.2.2.1 key (j4 .i64 (at_+t.1)) s x) (fun s i=>((key,at_,til,(),s,l,((ja l:Nat):Int),i,()),(t,())))
  (fun s=>.inl ((at_,til,(),()),(t,()))) (fun r=>.inr ((r.1,r.2,()),())) (fun _ _=>True) (by
   intro k hk s _
   refine⟨?_,fun _ _=>trivial⟩
   simp only[Sw]
   rw[Ba (show(k:Int)<((ja l:Nat):Int) by omega),Nb hk]
   simp only[zj,jb]
   rw[KW]
   unfold P1
   cases he:Pj l[k]with
   |false=>rfl
   |true=>
    have hk':=Xn he
    rw[Ba hk'.2.2.1,ZQ s hk'.2.2.1]
    simp only[zj,jb,jg,zk]
    cases decide (l[k].1≥j4 .i64 (at_+t.1))<;>cases l[k].2.1==key<;>cases l[k].2.2.1<;>cases t.2.2.1==1<;>cases t.2.2.1==2<;>cases Im s l[k].2.1==1<;>rfl) (by
   intro s _
   simp only[Sw]
   rw[Aa (by omega)];rfl) (by omega) 0 trivial
 unfold IB Sz Oh
 rw[NT]
 simp only[jb]
 cases Yk t with
 |false=>rfl
 |true=>
  by_cases h1:at_<0
  ·rw[Ba h1,Aa (show¬(0≤at_∧at_≤1000000) by omega)];rfl
  ·by_cases h2:at_>1000000
   ·rw[Aa h1,Ba h2,Aa (show¬(0≤at_∧at_≤1000000) by omega)];rfl
   ·rw[Aa h1,Aa h2,Ba (show(0≤at_∧at_≤1000000) by omega)]
    simp only[jg,zk]
    erw[hl]
    unfold chR
    cases Cb (fun _ s x=>P1 t.2.2.1 key (j4 .i64 (at_+t.1)) s x) 0 0 l with
    |inl s=>
     simp only[jb,qg]
     cases decide (til≥j4 .i64 (at_+t.1))<;>rfl
    |inr r=>rfl
theorem G9(t:DL)(key at_:Int)(l:List Ya)(til:Int)(hn:l.length≤Da):DK t key at_ l til=some (Oh t key at_ l til):=by
 have h20:Da=1048576:=rfl
 have hl:=Ug (step:=fun x=>Bx x.1.1 x.1.2.1 x.1.2.2.1 x.1.2.2.2.1 x.1.2.2.2.2.1 x.1.2.2.2.2.2.1 x.1.2.2.2.2.2.2.1 x.2.1) l
  (fun _ s x=>P1 t.2.2.1 key (j4 .i64 (at_+t.1)) s x) (fun s i=>((key,l,til,(),j4 .i64 (at_+t.1),s,i,()),(t,())))
  (fun s=>.inl ((til,j4 .i64 (at_+t.1),()),())) (fun r=>.inr ((r.1,r.2,()),())) (fun _ _=>True) (by
   intro k hk s _
   refine⟨?_,fun _ _=>trivial⟩
   simp only[Bx]
   rw[Ba (show(k:Int)<((ja l:Nat):Int) by omega),Nb hk]
   simp only[zj,jb]
   rw[DX]
   unfold P1
   cases he:Pj l[k]with
   |false=>rfl
   |true=>
    have hk':=Xn he
    rw[Ba hk'.2.2.1]
    simp only[zj,jb,jg,zk]
    unfold Im
    cases decide (l[k].1≥j4 .i64 (at_+t.1))<;>cases l[k].2.1==key<;>cases l[k].2.2.1<;>cases t.2.2.1==1<;>cases t.2.2.1==2<;>cases Ih .i64 (Cy .i64 s l[k].2.1) 1==1<;>rfl) (by
   intro s _
   simp only[Bx]
   rw[Aa (by omega)];rfl) (by omega) 0 trivial
 unfold DK SA Oh
 rw[QT,Bd]
 simp only[jb]
 cases Yk t with
 |false=>rfl
 |true=>
  cases decide (0≤at_∧at_≤1000000)with
  |false=>rfl
  |true=>
   simp only[jg,zk]
   erw[hl]
   unfold chR
   cases Cb (fun _ s x=>P1 t.2.2.1 key (j4 .i64 (at_+t.1)) s x) 0 0 l with
   |inl s=>
    simp only[jb,qg]
    cases decide (til≥j4 .i64 (at_+t.1))<;>rfl
   |inr r=>rfl
def LE(l:List Pa)(j:Nat):Bool:=l.any (fun h=>h.1==(j:Int))
structure GE(l:List Pa)(m:Nat):Prop where
 lt:m<2^63
 bit:∀j,m.testBit j=LE l j
theorem Mau:∀(l:List Pa) (k:Nat) (s:Nat),s<2^63→(∀x∈l,Nx x)→
 ∃m:Nat,Vc (fun _ s (x:Pa)=>Fe .i64 s (Te .i64 1 x.1)) k (s:Int) l=(m:Int)∧m<2^63∧∀j,m.testBit j=(s.testBit j||LE l j)
 |[],_,s,hs,_=>⟨s,rfl,hs,fun j=>by simp[LE]⟩
 |x::l,k,s,hs,h=>by
  have hx:=h x (by simp)
  obtain⟨n,hn⟩:=jv hx.lo
  have:=hx.hi
  simp only[Vc]
  rw[hn,UB (by omega),Uad hs (MN (by omega))]
  obtain⟨m,h1,h2,h3⟩:=Mau l (k+1) _ (Nat.or_lt_two_pow hs (MN (show n≤62 by omega))) (fun y hy=>h y (by simp[hy]))
  refine⟨m,h1,h2,fun j=>?_⟩
  rw[h3,Nat.testBit_or,Nat.testBit_two_pow]
  simp only[LE,List.any_cons,hn]
  rw[show(((n:Nat):Int)==((j:Nat):Int))=decide (n=j) by rw[qo];simp[Int.ofNat_inj]]
  rw[Bool.or_assoc]
theorem Aae{l:List Pa}(h:Of l=true):∃m:Nat,LD l=(m:Int)∧GE l m:=by
 obtain⟨m,h1,h2,h3⟩:=Mau l 0 0 (by decide) (Tu h)
 exact⟨m,h1,h2,fun j=>by rw[h3];simp⟩
theorem Rab{l:List Pa}{m k:Nat}(h:GE l m)(hk:k≤62)(hb:LE l k=false)(a:Ma):GE (jf l [((k:Int),a,())]) (m^^^2^k):=by
 refine⟨Nat.xor_lt_two_pow h.lt (MN hk),fun j=>?_⟩
 rw[Nat.testBit_xor,Nat.testBit_two_pow,h.bit]
 show _=LE (l++[((k:Int),a,())]) j
 simp only[LE,List.any_append,List.any_cons,List.any_nil,Bool.or_false]
 rw[show(((k:Nat):Int)==((j:Nat):Int))=decide (k=j) by rw[qo];simp[Int.ofNat_inj]]
 by_cases hj:k=j
 ·subst hj
  simp only[LE]at hb
  rw[hb,Ba rfl];rfl
 ·rw[Aa hj];simp
theorem Da0{l:List Pa}(hp:l.Pairwise (fun x y=>x.1≠y.1)){i:Nat}(hi:i<l.length)(j:Int):(wo l i).any (fun h=>h.1==j)=(l.any (fun h=>h.1==j)&&!(l[i].1==j)):=by
 rw[qo]
 simp only[q0,jd,yn,beq_iff_eq,beq_eq_false_iff_ne,wo]
 rw[List.pairwise_iff_getElem]at hp
 constructor
 ·rintro⟨x,hx,hj⟩
  rcases jl.1 (show x∈l.take i++l.drop (i+1)from hx)with hx|hx
  ·obtain⟨n,hn,rfl⟩:=qk hx
   rw[List.getElem_take]at hj
   have hn2:n<i∧n<l.length:=by rw[List.length_take]at hn;omega
   exact⟨⟨_,qj hn2.2,hj⟩,fun h=>hp n i hn2.2 hi hn2.1 (hj.trans h.symm)⟩
  ·obtain⟨n,hn,rfl⟩:=qk hx
   rw[List.getElem_drop]at hj
   have hn2:i+1+n<l.length:=by rw[qn]at hn;omega
   exact⟨⟨_,qj hn2,hj⟩,fun h=>hp i (i+1+n) hi hn2 (by omega) (h.trans hj.symm)⟩
 ·rintro⟨⟨x,hx,hj⟩,hne⟩
  obtain⟨n,hn,rfl⟩:=qk hx
  refine⟨l[n],jl.2 ?_,hj⟩
  rcases Nat.lt_trichotomy n i with h|h|h
  ·exact .inl (List.mem_take_iff_getElem.2 ⟨n,by omega,rfl⟩)
  ·subst h;exact absurd hj hne
  ·exact .inr (List.mem_drop_iff_getElem.2 ⟨n-(i+1),by omega,by congr 1;omega⟩)
theorem Y3{l:List Pa}(hp:l.Pairwise (fun x y=>x.1≠y.1)){m k i:Nat}(h:GE l m)(hk:k≤62)(hi:i<l.length)(hb:l[i].1=(k:Int)):GE (wo l i) (m^^^2^k):=by
 refine⟨Nat.xor_lt_two_pow h.lt (MN hk),fun j=>?_⟩
 rw[Nat.testBit_xor,Nat.testBit_two_pow,h.bit]
 simp only[LE]
 rw[Da0 hp hi,hb]
 rw[show(((k:Nat):Int)==((j:Nat):Int))=decide (k=j) by rw[qo];simp[Int.ofNat_inj]]
 by_cases hj:k=j
 ·subst hj
  rw[Ba rfl]
  have:l.any (fun h=>h.1==(k:Int))=true:=q0.2 ⟨l[i],qj hi,by rw[hb];simp⟩
  rw[this];rfl
 ·rw[Aa hj];simp
theorem WX{α S R:Type}(g:S→α→S⊕R):∀(l:List α) (k j:Nat) (s:S),Cb (fun _ s x=>g s x) k s l=Cb (fun _ s x=>g s x) j s l
 |[],_,_,_=>rfl
 |x::l,k,j,s=>by
  simp only[Cb]
  cases g s x with
  |inl s'=>exact WX g l (k+1) (j+1) s'
  |inr r=>rfl
structure OS(d:Ab):Prop where
 eng:Ms d.1
 len:d.2.2.1.length≤64
 key:∀x∈d.2.2.1,x.2.1<d.1.1.1
 fol:∃(m:Nat) (t:Int),GE d.1.2.2.2.1 m∧Ay (Cb (fun _ s x=>KE s x) 0 (t,(m:Int)) d.2.2.1)=true
def hIx(e:Gb)(k:Int):Nat:=(Sd (fun h:Pa=>h.1==k) 0 e.2.2.2.1).toNat
noncomputable def Fk(d:Ab)(x:Ya)(r:List Ya):Option (Ab×List Ca):=
 cond (!x.2.2.1)
  (some ((rE d.1 (hIx d.1 x.2.1),d.2.1,r,d.2.2.2.1,max d.2.2.2.2.1 x.1,d.2.2.2.2.2.1,cond (d.2.2.2.2.2.1==j4 .i64 (x.2.1+1)) x.1 d.2.2.2.2.2.2.1,()),rR d.1 (hIx d.1 x.2.1)))
  (cond (Qf (Ui d.1.1.2.1 (Mg d.1.1 (Nj d.1.2.2.1 d.1.2.2.2.1) x.2.1.toNat) x.2.1.toNat))
   (
    let ch:Int×Int:=cond ((d.2.2.2.2.2.1==j4 .i64 (x.2.1+1))&&!decide (j4 .i64 (x.1-d.2.2.2.2.2.2.1)≥d.2.1.2.1)) (1,x.1) ((Oh d.2.1 x.2.1 x.1 r d.2.2.2.1).1,(Oh d.2.1 x.2.1 x.1 r d.2.2.2.1).2.1)
    cond (ch.1==0) none
     (some ((pE d.1 x.2.1.toNat (ch.1==2),d.2.1,r,d.2.2.2.1,max (max d.2.2.2.2.1 x.1) ch.2,cond (ch.1==2) 0 (j4 .i64 (x.2.1+1)),cond (ch.1==2) d.2.2.2.2.2.2.1 x.1,()),pR d.1 x.2.1.toNat (ch.1==2))))
   (some ((pE d.1 x.2.1.toNat false,d.2.1,r,d.2.2.2.1,max d.2.2.2.2.1 x.1,d.2.2.2.2.2.1,d.2.2.2.2.2.2.1,()),pR d.1 x.2.1.toNat false)))
structure SaP(d:Ab)(x:Ya)(r:List Ya):Prop where
 ev:Pj x=true
 key:x.2.1<d.1.1.1
 up:x.2.2.1=false→∃hi:hIx d.1 x.2.1<d.1.2.2.2.1.length,Sd (fun h:Pa=>h.1==x.2.1) 0 d.1.2.2.2.1=((hIx d.1 x.2.1:Nat):Int)∧(d.1.2.2.2.1[hIx d.1 x.2.1]'hi).1=x.2.1
 down:x.2.2.1=true→∀y∈d.1.2.2.2.1,y.1≠x.2.1
theorem Xaf{α:Type}(p:α→Bool):∀(xs:List α) (k j:Nat),j<xs.length→Sd p k xs=((k+j:Nat):Int)→∃h:j<xs.length,p xs[j]=true
 |[],_,_,hj,_=>absurd hj (by simp)
 |x::xs,k,j,hj,h=>by
  simp only[Sd]at h
  cases hx:p x with
  |true=>
   rw[hx]at h
   simp only[zj]at h
   have:j=0:=by omega
   subst this
   exact⟨hj,hx⟩
  |false=>
   rw[hx]at h
   simp only[zk]at h
   cases j with
   |zero=>
    rcases Dz p xs (k+1)with h1|⟨i,_,h1⟩<;>(rw[h1]at h;omega)
   |succ j=>
    have hj':j<xs.length:=by simp at hj;omega
    obtain⟨_,h2⟩:=Xaf p xs (k+1) j hj' (by rw[h];omega)
    exact⟨hj,h2⟩
theorem JP{d:Ab}{x:Ya}{r:List Ya}(h:OS d)(hq:d.2.2.1=x::r):SaP d x r:=by
 obtain⟨m,t,hm,hf⟩:=h.fol
 rw[hq]at hf
 simp only[Cb,KE]at hf
 cases ho:Bu (t,(m:Int)) x with
 |false=>rw[ho]at hf;exact absurd hf (by simp[Ay])
 |true=>
  simp only[Bu,jd]at ho
  obtain⟨h1,h2,h3⟩:=ho
  have hk:=Xn h1
  obtain⟨n,hn⟩:=jv hk.2.2.1
  have hn':x.2.1=(n:Int):=hn
  rw[hn',MU hm.lt (by omega),hm.bit]at h3
  refine⟨h1,h.key x (by rw[hq];simp),fun hu=>?_,fun hd=>?_⟩
  ·rw[hu]at h3
   have h4:LE d.1.2.2.2.1 n=true:=by
    cases hh:LE d.1.2.2.2.1 n with
    |true=>rfl
    |false=>rw[hh]at h3;exact absurd h3 (by decide)
   rcases Dz (fun h:Pa=>h.1==x.2.1) d.1.2.2.2.1 0 with h5|⟨j,hj,h5⟩
   ·rw[Xaa]at h5
    simp only[LE,q0,beq_iff_eq]at h4
    obtain⟨y,hy,hyk⟩:=h4
    exact absurd (hyk.trans hn'.symm) (h5 y hy)
   ·have e:hIx d.1 x.2.1=j:=by unfold hIx;rw[h5];omega
    obtain⟨h6,h7⟩:=Xaf _ _ _ _ hj h5
    have h7':=eq_of_beq h7
    refine⟨by omega,by rw[h5,e];omega,?_⟩
    simp only[e]
    exact h7'
  ·rw[hd]at h3
   intro y hy he
   have:LE d.1.2.2.2.1 n=true:=q0.2 ⟨y,hy,by rw[he,hn'];simp⟩
   rw[this]at h3
   exact absurd h3 (by decide)
theorem Jae{d d':Ab}{x:Ya}{r:List Ya}{l:List Ca}(h:OS d)(hq:d.2.2.1=x::r)(hs:Fk d x r=some (d',l)):
 OS d'∧d'.2.2.1=r∧l.length≤17∧(∀y∈l,y.2.1.length≤56):=by
 have hF:=JP h hq
 have hk:=Xn hF.ev
 obtain⟨n,hn⟩:=jv hk.2.2.1
 have hn':x.2.1=(n:Int):=hn
 obtain⟨m,t,hm,hf⟩:=h.fol
 have hfol:Ay (Cb (fun _ s x=>KE s x) 0 (x.1,((m^^^2^n:Nat):Int)) r)=true:=by
  rw[hq]at hf
  simp only[Cb,KE]at hf
  cases ho:Bu (t,(m:Int)) x with
  |false=>rw[ho]at hf;exact absurd hf (by simp[Ay])
  |true=>
   rw[ho]at hf
   simp only[zj,hn',UB (show n≤62 by omega)]at hf
   rw[K8 hm.lt (MN (by omega))]at hf
   rw[WX KE r 0 1]
   exact hf
 have hlen:r.length≤64:=by have:=h.len;rw[hq]at this;simp at this;omega
 have hkey:∀y∈r,y.2.1<d.1.1.1:=fun y hy=>h.key y (by rw[hq];simp[hy])
 have hp:=((YU d.1.2.2.2.1).1 h.eng.hd).2
 have press:∀b:Bool,x.2.2.1=true→Ms (pE d.1 n b)∧GE (pE d.1 n b).2.2.2.1 (m^^^2^n)∧(pR d.1 n b).length≤17∧(∀y∈pR d.1 n b,y.2.1.length≤56):=by
  intro b hd
  have hn2:=hF.down hd
  rw[hn']at hn2
  have F:=V5 h.eng (k:=n) (by have:=hF.key;omega) hn2 b
  refine⟨F.ok,Rab hm (by omega) ?_ _,?_,fun y hy=>?_⟩
  ·cases hh:LE d.1.2.2.2.1 n with
   |false=>rfl
   |true=>
    simp only[LE,q0,beq_iff_eq]at hh
    obtain⟨y,hy,hyk⟩:=hh
    exact absurd hyk (hn2 y hy)
  ·have:=SU (jf (pM d.1 n b) [Qc (pH d.1 n b)]) (Qc d.1.2.2.2.1)
   have h9:=F.ml
   unfold pR
   have:(jf (pM d.1 n b) [Qc (pH d.1 n b)]).length=(pM d.1 n b).length+1:=by simp
   omega
  ·have:=GP _ _ _ hy
   rcases jl.1 (show y∈pM d.1 n b++[Qc (pH d.1 n b)]from this)with h1|h1
   ·exact F.mx y h1
   ·rw[qc.1 h1];exact NN _
 unfold Fk at hs
 cases hd:x.2.2.1 with
 |false=>
  rw[hd]at hs
  simp only[j8,zj,jc,jh]at hs
  obtain⟨rfl,rfl⟩:=hs
  obtain⟨hi,hi1,hi2⟩:=hF.up hd
  refine⟨⟨OaP h.eng _,hlen,hkey,_,_,Y3 hp hm (by omega) hi (by rw[hi2,hn']),hfol⟩,rfl,?_,fun y hy=>?_⟩
  ·have:=SU [Qc (wo d.1.2.2.2.1 (hIx d.1 x.2.1))] (Qc d.1.2.2.2.1)
   unfold rR
   simp only[jw,j6]at this
   omega
  ·have:=GP _ _ _ hy
   rw[qc.1 this];exact NN _
 |true=>
  rw[hd]at hs
  simp only[jg,zk,hn',jn]at hs
  cases ht:Qf (Ui d.1.1.2.1 (Mg d.1.1 (Nj d.1.2.2.1 d.1.2.2.2.1) n) n)with
  |false=>
   rw[ht]at hs
   simp only[zk,jc,jh]at hs
   obtain⟨rfl,rfl⟩:=hs
   have P:=press false hd
   exact⟨⟨P.1,hlen,hkey,_,_,P.2.1,hfol⟩,rfl,P.2.2⟩
  |true=>
   rw[ht]at hs
   simp only[zj]at hs
   revert hs
   generalize(cond ((d.2.2.2.2.2.1==j4 .i64 ((n:Int)+1))&&!decide (j4 .i64 (x.1-d.2.2.2.2.2.2.1)≥d.2.1.2.1)) ((1:Int),x.1) ((Oh d.2.1 (n:Int) x.1 r d.2.2.2.1).1,(Oh d.2.1 (n:Int) x.1 r d.2.2.2.1).2.1))=ch
   intro hs
   cases h0:ch.1==0 with
   |true=>rw[h0]at hs;simp at hs
   |false=>
    rw[h0]at hs
    simp only[zk,jc,jh]at hs
    obtain⟨rfl,rfl⟩:=hs
    have P:=press (ch.1==2) hd
    exact⟨⟨P.1,hlen,hkey,_,_,P.2.1,hfol⟩,rfl,P.2.2⟩
theorem E8{m:Ia}(hz:Ja Xa m≤Da)(hv:Uc m=true)(on:Int){k:Nat}(hk:(k:Int)<m.1):
 HJ m on (k:Int)=some (Ui m.2.1 (Mg m on k) k,()):=by
 have hm:=Be hv
 have hl:=DF hm on k
 have hrow:=hm.row _ hl
 unfold HJ BV
 rw[Vi _ hz,hv,Aa (show¬(k:Int)<0 by omega),Aa (show¬(k:Int)≥m.1 by omega),MM hm _ hk]
 simp only[jb,jg,zk]
 rw[Aa (by omega)]
 simp only[zk]
 show(jz (Ib m.2.1 ((Mg m on k:Nat):Int)) _)=_
 rw[Lad hl (by omega)]
theorem Qaa(t:DL)(key at_:Int)(l:List Ya)(til:Int):(Oh t key at_ l til).1=0∨(Oh t key at_ l til).1=1∨(Oh t key at_ l til).1=2:=by
 have key2:∀(md k' e:Int) (l:List Ya) (k:Nat) (s:Int) (r:Int×Int),Cb (fun _ s x=>P1 md k' e s x) k s l=.inr r→r.1=0∨r.1=1∨r.1=2:=by
  intro md k' e l
  induction l with
  |nil=>intro k s r h;simp[Cb]at h
  |cons x l ih=>
   intro k s r h
   simp only[Cb]at h
   revert h
   cases hg:P1 md k' e s x with
   |inl s'=>intro h;exact ih _ _ _ h
   |inr r'=>
    intro h
    simp only[Sum.inr.injEq]at h
    subst h
    unfold P1 at hg
    revert hg
    cases Pj x<;>cases decide (x.1≥e)<;>cases x.2.1==k'<;>cases x.2.2.1<;>cases md==1<;>cases md==2<;>cases Im s x.2.1==1<;>(intro hg;cases hg)<;>simp
 unfold Oh
 cases Yk t&&decide (0≤at_∧at_≤1000000)with
 |false=>exact .inl rfl
 |true=>
  simp only[zj]
  cases h:chR t.2.2.1 key (j4 .i64 (at_+t.1)) l with
  |inl s=>cases decide (til≥j4 .i64 (at_+t.1))<;>simp
  |inr r=>exact key2 _ _ _ _ _ _ _ h
theorem S7{α:Type}(x:α)(r:List α)(hr:r.length≤64):Nd (ja (x::r)) (1:Int) ((ja (x::r):Nat):Int)=true∧Hb (x::r) (jy (1:Int)) (jy ((ja (x::r):Nat):Int))=r:=by
 refine⟨Xh (lo:=1) (by simp) (by simp),?_⟩
 show List.drop 1 (List.take _ (x::r))=r
 rw[jn,List.take_length];rfl
def YaU(d:Ab):Option (Ab×List Ca)→Ab×((List Ca)×(Bool×Unit))
 |none=>(d,([],false,()))
 |some (d',l)=>(d',(l,true,()))
theorem Iab{d:Ab}{x:Ya}{r:List Ya}(h:OS d)(hq:d.2.2.1=x::r):Lj d=some (YaU d (Fk d x r)):=by
 have h20:Da=1048576:=rfl
 have hF:=JP h hq
 have hk:=Xn hF.ev
 have hlen:r.length≤64:=by have:=h.len;rw[hq]at this;simp at this;omega
 have hz:=Q5 h.eng
 have hzm:=(KN h.eng.km).z
 have hle:=Wq h.eng.hd
 obtain⟨n,hn⟩:=jv hk.2.2.1
 have hn':x.2.1=(n:Int):=hn
 obtain⟨e,t,q,now,clk,tp,ta,u⟩:=d
 obtain⟨xt,xk,xd,xu⟩:=x
 cases u
 simp only at hq hn' hF hz hzm hle hk
 subst hq
 subst hn'
 have hc:=S7 ((xt,(n:Int),xd,xu):Ya) r hlen
 have hb:jx (ja ([]:List Ya)+ja r) Wa=true:=ji (by simp;rw[Bg];omega)
 have i0:Rb (ja (((xt,(n:Int),xd,xu):Ya)::r)) (0:Int)=true:=by rw[show(0:Int)=((0:Nat):Int)from rfl,Ve];exact Ba (by simp)
 have g0:(((xt,(n:Int),xd,xu):Ya)::r)[(jy (0:Int))]?=some (xt,(n:Int),xd,xu):=rfl
 unfold Lj
 simp only[i0,g0,hc.1,hc.2,hb,zj,jb]
 unfold Fk
 cases xd with
 |false=>
  obtain⟨hi,hi1,hi2⟩:=hF.up rfl
  rw[I8 h.eng hi hi1]
  simp only[j8,zj,jb]
  cases tp==j4 .i64 ((n:Int)+1)<;>rfl
 |true=>
  have hd:=hF.down rfl
  have hkey:=hF.key
  have hp:=fun b=>Tad h.eng (k:=n) hkey hd b
  simp only at hp hkey hd
  have hly:=NP (Saz (Be h.eng.km).l2 h.eng.st) _ (show e.2.2.2.1.length≤Da by omega) h.eng.hd
  simp only at hly
  rw[hly]
  have hch:=F8 t (n:Int) xt r now (by omega)
  have hac:=E8 (m:=e.1) (by omega) h.eng.km (Nj e.2.2.1 e.2.2.2.1) hkey
  simp only[jb,jg,zk,jn,hac,TH,hch,hp]
  cases Qf (Ui e.1.2.1 (Mg e.1 (Nj e.2.2.1 e.2.2.2.1) n) n)with
  |false=>rfl
  |true=>
   simp only[zj]
   have hv:=Qaa t (n:Int) xt r now
   have hne:(tp !=j4 .i64 ((n:Int)+1))=!(tp==j4 .i64 ((n:Int)+1)):=rfl
   rw[hne]
   cases tp==j4 .i64 ((n:Int)+1)with
   |false=>
    simp only[j8,zj,qi,zk]
    rcases hv with hv|hv|hv<;>(rw[hv];rfl)
   |true=>
    simp only[jg,zk,jk]
    cases decide (j4 .i64 (xt-ta)≥t.2.1)with
    |true=>
     simp only[jg,zj,zk]
     rcases hv with hv|hv|hv<;>(rw[hv];rfl)
    |false=>rfl
theorem V4{d:Ab}{x:Ya}{r:List Ya}(h:OS d)(hq:d.2.2.1=x::r)(hd:x.2.2.1=true):
 Uy d x (max d.2.2.2.2.1 x.1)=some (match Fk d x r with
  |none=>(d,([],max d.2.2.2.2.1 x.1,false,()))
  |some (d',l)=>((d'.1,d.2.1,d.2.2.1,d.2.2.2.1,d.2.2.2.2.1,d'.2.2.2.2.2.1,d'.2.2.2.2.2.2.1,()),(l,d'.2.2.2.2.1,true,()))):=by
 have h20:Da=1048576:=rfl
 have hF:=JP h hq
 have hk:=Xn hF.ev
 have hlen:r.length≤64:=by have:=h.len;rw[hq]at this;simp at this;omega
 have hz:=Q5 h.eng
 have hzm:=(KN h.eng.km).z
 have hle:=Wq h.eng.hd
 obtain⟨n,hn⟩:=jv hk.2.2.1
 have hn':x.2.1=(n:Int):=hn
 obtain⟨e,t,q,now,clk,tp,ta,u⟩:=d
 obtain⟨xt,xk,xd,xu⟩:=x
 cases u
 simp only at hq hn' hF hz hzm hle hk hd
 subst hq
 subst hn'
 subst hd
 have hc:=S7 ((xt,(n:Int),true,xu):Ya) r hlen
 have hdn:=hF.down rfl
 have hkey:=hF.key
 have hp:=fun b=>Xae h.eng (k:=n) hkey hdn b
 simp only at hp hkey hdn
 have hly:=DQ (Saz (Be h.eng.km).l2 h.eng.st) _ (show e.2.2.2.1.length≤Da by omega) h.eng.hd
 simp only at hly
 unfold Uy
 simp only[hc.1,hc.2]
 unfold Fk
 rw[hly]
 have hch:=G9 t (n:Int) xt r now (by omega)
 have hac:=WK (m:=e.1) (by omega) h.eng.km (Nj e.2.2.1 e.2.2.2.1) hkey
 simp only[jb,jg,zk,jn,hac,Ix,hch,hp]
 cases Qf (Ui e.1.2.1 (Mg e.1 (Nj e.2.2.1 e.2.2.2.1) n) n)with
 |false=>rfl
 |true=>
  simp only[zj]
  have hv:=Qaa t (n:Int) xt r now
  have hlt:decide (j4 .i64 (xt-ta)<t.2.1)=!decide (j4 .i64 (xt-ta)≥t.2.1):=by
   rw[qo];simp only[decide_eq_true_eq,yn,decide_eq_false_iff_not];omega
  rw[hlt]
  cases tp==j4 .i64 ((n:Int)+1)with
  |false=>
   simp only[qi,zk]
   rcases hv with hv|hv|hv<;>(rw[hv];rfl)
  |true=>
   simp only[zj,jk]
   cases decide (j4 .i64 (xt-ta)≥t.2.1)with
   |true=>
    simp only[jg,zj,zk]
    rcases hv with hv|hv|hv<;>(rw[hv];rfl)
   |false=>rfl
theorem X6{X R:Type}{step:X→Option (X⊕R)}{α S:Type}(xs:List α)(g:S→α→S)(I:S→Nat→X)(out:S→R)(Gh:Nat→S→Prop)
 (h:∀k (hk:k<xs.length) s,Gh k s→step (I s k)=some (.inl (I (g s xs[k]) (k+1)))∧Gh (k+1) (g s xs[k]))
 (he:∀s,Gh xs.length s→step (I s xs.length)=some (.inr (out s))) (s0:S) (h0:Gh 0 s0):
 Va step (I s0 0)=some (out (xs.foldl g s0))∧Gh xs.length (xs.foldl g s0):=by
 have key:∀(ys:List α) (k:Nat) (s:S),xs.drop k=ys→k≤xs.length→Gh k s→Va step (I s k)=some (out (ys.foldl g s))∧Gh xs.length (ys.foldl g s):=by
  intro ys
  induction ys with
  |nil=>
   intro k s hd hle hi
   have:=V7 hd hle
   subst this
   rw[Vb (he s hi)]
   exact⟨rfl,hi⟩
  |cons y ys ih=>
   intro k s hd hle hi
   obtain⟨hk,hy,hd'⟩:=W2 hd
   obtain⟨h1,h2⟩:=h k hk s hi
   rw[Vb h1,hy]
   rw[hy]at h2
   exact ih (k+1) _ hd' hk h2
 exact key xs 0 s0 rfl (zd _) h0
def Kq(s:List Lc)(w:Int)(l:List Ca):List Lc:=jf s (l.map fun r=>((w,r,()):Lc))
theorem G3(w:Int):∀(l:List Ca) (s:List Lc),l.foldl (fun s r=>jf s [((w,r,()):Lc)]) s=Kq s w l
 |[],s=>by simp[Kq]
 |x::l,s=>by
  rw[List.foldl_cons,G3 w l]
  simp[Kq]
theorem L4(s:List Lc)(w:Int)(l:List Ca):(Kq s w l).length=s.length+l.length:=by simp[Kq]
theorem Eal(s:List Lc)(w:Int)(l:List Ca)(hl:l.length≤1000)(hs:s.length≤1000000):ZR s w l=some (Kq s w l,()):=by
 have h:=(X6 (step:=fun x=>JJ x.1.1 x.1.2.1 x.1.2.2.1 x.1.2.2.2.1 x.1.2.2.2.2.1) l (fun s r=>jf s [((w,r,()):Lc)])
  (fun o k=>((o,w,(l,(k:Int)),((ja l:Nat):Int),(k:Int),()),())) (fun o=>.inl ((o,()),())) (fun k o=>o.length=s.length+k) (by
   intro k hk o ho
   refine⟨?_,by simp[ho];omega⟩
   simp only[JJ]
   rw[Ba (by omega),Ve,Ba hk,jn,je hk]
   simp only[zj,jb,yl]
   rw[show jx (ja o+ja ([(w,l[k],())]:List Lc)) Wa=true from ji (by simp only[jw,j6];rw[Bg];omega)]
   rw[Gc (by omega)]
   rfl) (by
   intro o ho
   simp only[JJ]
   rw[Aa (by omega)];rfl) s rfl).1
 unfold ZR LK
 erw[h]
 rw[G3]
 rfl
theorem WV(s:List Lc)(w:Int)(l:List Ca)(d:Ab)(hl:l.length≤1000)(hs:s.length≤1000000):
 Ck (((),s,w,(l,(0:Int)),(0:Int),()),(d,()))=some (.inl (((),Kq s w l,w,()),(d,()))):=by
 have h:=(X6 (step:=fun x=>ZA x.1.1 x.1.2.1 x.1.2.2.1 x.1.2.2.2.1 x.1.2.2.2.2.1 x.2.1) l (fun s r=>jf s [((w,r,()):Lc)])
  (fun o k=>(((),o,w,(l,(k:Int)),(k:Int),()),(d,()))) (fun o=>.inl (((),o,w,()),(d,()))) (fun k o=>o.length=s.length+k) (by
   intro k hk o ho
   refine⟨?_,by simp[ho];omega⟩
   simp only[ZA]
   rw[Ba (by omega),Ve,Ba hk,jn,je hk]
   simp only[zj,jb,yl]
   rw[show jx (ja o+ja ([(w,l[k],())]:List Lc)) Wa=true from ji (by simp only[jw,j6];rw[Bg];omega)]
   rw[Gc (by omega)]
   rfl) (by
   intro o ho
   simp only[ZA]
   rw[Aa (by omega)];rfl) s rfl).1
 unfold Ck
 erw[h]
 rw[G3]
noncomputable def Ff:Nat→Ab→List Lc→Ab×List Lc
 |0,d,s=>(d,s)
 |n+1,d,s=>match d.2.2.1 with
  |[]=>(d,s)
  |x::r=>match Fk d x r with
   |none=>(d,s)
   |some (d',l)=>Ff n d' (Kq s d'.2.2.2.2.1 l)
theorem Ram{d d':Ab}{x:Ya}{r:List Ya}{l:List Ca}(hs:Fk d x r=some (d',l)):
 d'=(d'.1,d.2.1,r,d.2.2.2.1,d'.2.2.2.2.1,d'.2.2.2.2.2.1,d'.2.2.2.2.2.2.1,()):=by
 unfold Fk at hs
 revert hs
 generalize(cond ((d.2.2.2.2.2.1==j4 .i64 (x.2.1+1))&&!decide (j4 .i64 (x.1-d.2.2.2.2.2.2.1)≥d.2.1.2.1)) ((1:Int),x.1) ((Oh d.2.1 x.2.1 x.1 r d.2.2.2.1).1,(Oh d.2.1 x.2.1 x.1 r d.2.2.2.1).2.1))=ch
 generalize Qf _=b1
 cases x.2.2.1<;>cases b1<;>cases h0:ch.1==0<;>
  simp only[jg,j8,zj,zk,jc,jh,reduceCtorEq,false_implies,h0,and_imp]<;>(intro h1 _;subst h1;rfl)
theorem T6(z:Ab):∀(n:Nat) (d:Ab) (s:List Lc),OS d→d.2.2.1.length≤n→s.length+17*n≤100000→
 Eh (((),(),s,()),(z,d,()))=some (.inl (((),(),(Ff n d s).2,()),(z,(Ff n d s).1,())))
 |n,d,s,h,hl,hs=>by
  unfold Eh
  cases hq:d.2.2.1 with
  |nil=>
   have e1:Ff n d s=(d,s):=by
    cases n with
    |zero=>rfl
    |succ n=>simp only[Ff,hq]
   have hstep:Mi () () s z d=some (.inr (.inl (((),(),s,()),(z,d,())))):=by
    unfold Mi
    rw[hq,Aa (by simp)];rfl
   erw[Vb hstep]
   rw[e1];rfl
  |cons x r=>
   have hlen:d.2.2.1.length=r.length+1:=by rw[hq];rfl
   cases n with
   |zero=>omega
   |succ n=>
    have e1:Ff (n+1) d s=match Fk d x r with
     |none=>(d,s)
     |some (d',l)=>Ff n d' (Kq s d'.2.2.2.2.1 l):=by simp only[Ff,hq]
    rw[e1]
    have hp:=Iab h hq
    cases hst:Fk d x r with
    |none=>
     have hstep:Mi () () s z d=some (.inr (.inl (((),(),s,()),(z,d,())))):=by
      unfold Mi
      rw[Ba (by rw[hlen];omega)]
      show(jz (Lj d) _)=_
      rw[hp,hst];rfl
     erw[Vb hstep];rfl
    |some p=>
     obtain⟨d',l⟩:=p
     have hn:=Jae h hq hst
     have hstep:Mi () () s z d=some (.inl (((),(),Kq s d'.2.2.2.2.1 l,()),(z,d',()))):=by
      unfold Mi
      rw[Ba (by rw[hlen];omega)]
      show(jz (Lj d) _)=_
      rw[hp,hst]
      show jz (ZR s d'.2.2.2.2.1 l) _=_
      rw[Eal _ _ _ (by have:=hn.2.2.1;omega) (by omega)]
      rfl
     erw[Vb hstep]
     have ih:=T6 z n d' (Kq s d'.2.2.2.2.1 l) hn.1 (by rw[hn.2.1];omega) (by rw[L4];have:=hn.2.2.1;omega)
     unfold Eh at ih
     exact ih
theorem E7:∀(n:Nat) (d:Ab) (s:List Lc),OS d→d.2.2.1.length≤n→s.length+17*n≤100000→
 Cl (((),s,()),(d,()))=some (.inl (((),(Ff n d s).2,()),((Ff n d s).1,())))∨Cl (((),s,()),(d,()))=some (.inr (((),(Ff n d s).2,()),((Ff n d s).1,())))
 |n,d,s,h,hl,hs=>by
  unfold Cl
  cases hq:d.2.2.1 with
  |nil=>
   have e1:Ff n d s=(d,s):=by
    cases n with
    |zero=>rfl
    |succ n=>simp only[Ff,hq]
   have hstep:Xj () s d=some (.inr (.inl (((),s,()),(d,())))):=by
    unfold Xj
    rw[hq,Aa (by simp)];rfl
   refine .inl ?_
   erw[Vb hstep]
   rw[e1];rfl
  |cons x r=>
   have hlen:d.2.2.1.length=r.length+1:=by rw[hq];rfl
   cases n with
   |zero=>omega
   |succ n=>
    have e1:Ff (n+1) d s=match Fk d x r with
     |none=>(d,s)
     |some (d',l)=>Ff n d' (Kq s d'.2.2.2.2.1 l):=by simp only[Ff,hq]
    rw[e1]
    have h64:=h.len
    have hc:=S7 x r (by omega)
    have hb:jx (ja ([]:List Ya)+ja r) Wa=true:=ji (by simp;rw[Bg];omega)
    have i0:Rb (ja (x::r)) (0:Int)=true:=by rw[show(0:Int)=((0:Nat):Int)from rfl,Ve];exact Ba (by simp)
    have g0:(x::r)[(jy (0:Int))]?=some x:=rfl
    have pre:Xj () s d=Xj () s d:=rfl
    conv at pre=>rhs;unfold Xj
    rw[Ba (show((ja d.2.2.1:Nat):Int)>0 by rw[hlen];omega),hq,i0,g0]at pre
    simp only[zj,jb]at pre
    have Qi:∀(s':List Lc) (w:Int) (e':Ab),e'.2.2.1=x::r→(jz (some (Sum.inl (((),s',w,()),(e',()))):Option (((Unit×List Lc×Int×Unit)×Ab×Unit)⊕Unit)) (Sum.elim (fun y43=>(cond (Nd (ja y43.2.1.2.2.1) (1:Int) ((ja y43.2.1.2.2.1:Nat):Int))
     (cond (jx (ja ([]:List Ya)+ja (Hb y43.2.1.2.2.1 (jy (1:Int)) (jy ((ja y43.2.1.2.2.1:Nat):Int)))) Wa)
     (some (.inl (((),y43.1.2.1,()),((((y43.2.1.1.1.1,y43.2.1.1.1.2.1,()),y43.2.1.1.2),y43.2.1.2.1,(jf ([]:List Ya) (Hb y43.2.1.2.2.1 (jy (1:Int)) (jy ((ja y43.2.1.2.2.1:Nat):Int)))),y43.2.1.2.2.2.1,y43.1.2.2.1,y43.2.1.2.2.2.2.2),()))):Option (((Unit×List Lc×Unit)×Ab×Unit)⊕(((Unit×List Lc×Unit)×Ab×Unit)⊕((Unit×List Lc×Unit)×Ab×Unit))))
     none)
     none)) (fun z44=>none)))=some (.inl (((),s',()),((e'.1,e'.2.1,r,e'.2.2.2.1,w,e'.2.2.2.2.2),()))):=by
     intro s' w e' he
     simp only[jb,qg,he,hc.1,hc.2,hb,zj]
     rfl
    cases hst:Fk d x r with
    |none=>
     have hd:x.2.2.1=true:=by
      cases hd:x.2.2.1 with
      |true=>rfl
      |false=>
       unfold Fk at hst
       rw[hd]at hst
       simp at hst
     have hstep:Xj () s d=some (.inr (.inr (((),s,()),(d,())))):=by
      rw[pre,hd]
      show(jz (Uy d x (max d.2.2.2.2.1 x.1)) _)=_
      rw[V4 h hq hd,hst];rfl
     refine .inr ?_
     erw[Vb hstep];rfl
    |some p=>
     obtain⟨d',l⟩:=p
     have hn:=Jae h hq hst
     have hsh:=Ram hst
     have hl':=hn.2.2.1
     have hstep:Xj () s d=some (.inl (((),Kq s d'.2.2.2.2.1 l,()),(d',()))):=by
      rw[pre]
      cases hd:x.2.2.1 with
      |true=>
       simp only[zj]
       show(jz (Uy d x (max d.2.2.2.2.1 x.1)) _)=_
       rw[V4 h hq hd,hst]
       simp only[jb,jg,zk]
       rw[WV _ _ _ _ (by omega) (by omega)]
       refine(Qi (Kq s d'.2.2.2.2.1 l) d'.2.2.2.2.1 (d'.1,d.2.1,d.2.2.1,d.2.2.2.1,d.2.2.2.2.1,d'.2.2.2.2.2.1,d'.2.2.2.2.2.2.1,()) hq).trans ?_
       rw[hsh]
      |false=>
       simp only[zk]
       obtain⟨hi,hi1,hi2⟩:=(JP h hq).up hd
       show(jz (TF d.1 x.2.1) _)=_
       rw[J9 h.eng hi hi1]
       unfold Fk at hst
       rw[hd]at hst
       simp only[j8,zj,jc,jh]at hst
       obtain⟨rfl,rfl⟩:=hst
       simp only[jb]
       cases d.2.2.2.2.2.1==j4 .i64 (x.2.1+1)with
       |true=>
        simp only[zj]
        rw[WV _ _ _ _ (by omega) (by omega)]
        exact Qi _ _ _ rfl
       |false=>
        simp only[zk]
        rw[WV _ _ _ _ (by omega) (by omega)]
        exact Qi _ _ _ hq
     have ih:=E7 n d' (Kq s d'.2.2.2.2.1 l) hn.1 (by rw[hn.2.1];omega) (by rw[L4];omega)
     unfold Cl at ih
     erw[Vb hstep]
     exact ih
theorem Tae(d:Ab)(h:OS d):WB d=some ((Ff d.2.2.1.length d []).1,((Ff d.2.2.1.length d []).2,())):=by
 have h64:=h.len
 unfold WB
 rcases E7 d.2.2.1.length d [] h (jo _) (by simp;omega)with h1|h1<;>(rw[h1];rfl)
def Eo:Ab:=((((0:Int),([]:List (List Ma)),()),([]:List (List Ua)),(0:Int),([]:List Pa),(0:Int),false,()),((0:Int),(0:Int),(0:Int),()),([]:List Ya),(0:Int),(0:Int),(0:Int),(0:Int),())
def KaP(l:List Ya):Int:=(l.headD (0,0,false,())).1
def Yr(l:List Ya)(t:Int):Bool:=((l.length:Int)==0)||!decide (KaP l<t)
noncomputable def Jy(d:Ab)(l:List Ya)(til:Int):Bool:=
 Od d&&(decide (d.2.2.2.1≤til∧til≤1000000)&&(Yr l d.2.2.2.1&&(Lh l til&&Gf (jf d.2.2.1 l) (LD d.1.2.2.2.1) d.1.1.1)))
def Vn(d:Ab)(l:List Ya)(til:Int):Ab:=(d.1,d.2.1,jf d.2.2.1 l,til,d.2.2.2.2)
noncomputable def PA(d:Ab)(l:List Ya)(til:Int):Ab×((List Lc)×(Bool×Unit)):=
 cond (Jy d l til) ((Ff (Vn d l til).2.2.1.length (Vn d l til) []).1,(Ff (Vn d l til).2.2.1.length (Vn d l til) []).2,true,()) (Eo,[],false,())
theorem A8{q:List Ya}{d k:Int}(h:Gf q d k=true):q.length≤64:=by
 simp only[Gf,jd,FL]at h
 by_cases h1:q.length≤64
 ·exact h1
 ·rw[Aa h1]at h;simp at h
theorem Ead{d:Ab}{l:List Ya}{til:Int}(hd:Od d=true)(hf:Gf (jf d.2.2.1 l) (LD d.1.2.2.2.1) d.1.1.1=true):OS (Vn d l til):=by
 have he:Ms d.1:=by
  rw[←PY]
  simp only[Od,jd]at hd
  exact hd.1
 obtain⟨m,hm,hm2⟩:=Aae he.hd
 refine⟨he,A8 hf,?_,m,0,hm2,?_⟩
 ·have h1:=hf
  simp only[Gf,jd,GV]at h1
  have h2:=h1.1
  intro x hx
  have h3:=(N7 (p:=fun x:Ya=>!decide (x.2.1≥d.1.1.1))).1 h2 x hx
  simp only[yn,decide_eq_false_iff_not]at h3
  show x.2.1<d.1.1.1
  omega
 ·have:=Tak hf
  rw[hm]at this
  exact this
theorem Bal{l:List Ya}(h:0<l.length):∃x,Ib l (0:Int)=some x∧x.1=KaP l:=by
 cases l with
 |nil=>simp at h
 |cons x l=>exact⟨x,rfl,rfl⟩
theorem VR(d:Ab)(l:List Ya)(til:Int)(hz:Ja Ac d≤Da)(hl:l.length≤1000000):Hu d l til=some (PA d l til):=by
 have h20:Da=1048576:=rfl
 have hz':=hz
 rw[VU,AL]at hz'
 have hz2:=hz'
 rw[Pl,Yt]at hz2
 have hlapp:(jf d.2.2.1 l).length=d.2.2.1.length+l.length:=by simp
 have hlim:jx (ja d.2.2.1+ja l) Wa=true:=ji (by rw[Bg];omega)
 unfold Hu PA
 rw[PH _ hz,OT _ _ (by omega),GO _ hz]
 cases hd:Od d with
 |false=>rw[show Jy d l til=false by unfold Jy;rw[hd];rfl];rfl
 |true=>
  have hh:∀x∈d.1.2.2.2.1,Nx x:=by
   have:Tg d.1=true:=by simp only[Od,jd]at hd;exact hd.1
   exact Tu (UQ this)
  have h64:d.2.2.1.length≤64:=by
   simp only[Od,jd]at hd
   exact A8 hd.2.2.2.2.1
  rw[CV _ (by omega) hh]
  simp only[jb,jg,zk,hlim,zj]
  rw[PT _ _ _ (by rw[hlapp];omega)]
  simp only[jb]
  have key:∀(K:Option (Ab×((List Lc)×(Bool×Unit)))),(Gf (jf d.2.2.1 l) (LD d.1.2.2.2.1) d.1.1.1=true→K=some ((Ff (Vn d l til).2.2.1.length (Vn d l til) []).1,(Ff (Vn d l til).2.2.1.length (Vn d l til) []).2,true,()))→
   (cond (decide (til<d.2.2.2.1)) (some (Eo,[],false,())) (cond (decide (til>1000000)) (some (Eo,[],false,())) (cond (!Yr l d.2.2.2.1) (some (Eo,[],false,())) (cond (!Lh l til) (some (Eo,[],false,())) (cond (!Gf (jf d.2.2.1 l) (LD d.1.2.2.2.1) d.1.1.1) (some (Eo,[],false,())) K)))))=
   some (cond (Jy d l til) ((Ff (Vn d l til).2.2.1.length (Vn d l til) []).1,(Ff (Vn d l til).2.2.1.length (Vn d l til) []).2,true,()) (Eo,[],false,())):=by
   intro K hK
   unfold Jy
   rw[hd]
   by_cases h1:til<d.2.2.2.1
   ·rw[Ba h1,Aa (show¬(d.2.2.2.1≤til∧til≤1000000) by omega)];rfl
   ·by_cases h2:til>1000000
    ·rw[Aa h1,Ba h2,Aa (show¬(d.2.2.2.1≤til∧til≤1000000) by omega)];rfl
    ·rw[Aa h1,Aa h2,Ba (show(d.2.2.2.1≤til∧til≤1000000) by omega)]
     cases Yr l d.2.2.2.1 with
     |false=>rfl
     |true=>
      cases Lh l til with
      |false=>rfl
      |true=>
       cases hq:Gf (jf d.2.2.1 l) (LD d.1.2.2.2.1) d.1.1.1 with
       |false=>rfl
       |true=>exact hK hq
  have hrun:Gf (jf d.2.2.1 l) (LD d.1.2.2.2.1) d.1.1.1=true→∀z:Ab,Eh (((),(),([]:List Lc),()),(z,(d.1,d.2.1,jf d.2.2.1 l,til,d.2.2.2.2),()))=some (.inl (((),(),(Ff (Vn d l til).2.2.1.length (Vn d l til) []).2,()),(z,(Ff (Vn d l til).2.2.1.length (Vn d l til) []).1,()))):=by
   intro hq z
   have h1:=Ead (til:=til) hd hq
   have:=h1.len
   exact T6 z _ (Vn d l til) [] h1 (jo _) (by simp;omega)
  by_cases h0:l.length=0
  ·have hna:Yr l d.2.2.2.1=true:=by unfold Yr;rw[h0];rfl
   rw[Aa (show¬((ja l:Nat):Int)>0 by omega)]
   simp only[zk]
   simp only[hna,jg,zk]at key
   exact key _ (fun hq=>by rw[hrun hq];rfl)
  ·obtain⟨x,hx,hx1⟩:=Bal (l:=l) (by omega)
   have hna:Yr l d.2.2.2.1=!decide (x.1<d.2.2.2.1):=by
    unfold Yr
    rw[show((l.length:Int)==0)=false by simp;intro h;rw[h]at h0;simp at h0,hx1];rfl
   rw[Ba (show((ja l:Nat):Int)>0 by omega),hx]
   simp only[zj,jb]
   simp only[hna,Bool.not_not]at key
   exact key _ (fun hq=>by rw[hrun hq];rfl)
theorem IS(d:Ab)(l:List Ya)(til:Int)(hz:Ja Ac d≤Da)(hl:l.length≤1000000):Hv d l til=some (PA d l til):=by
 have h20:Da=1048576:=rfl
 have hz':=hz
 rw[VU,AL]at hz'
 have hz2:=hz'
 rw[Pl,Yt]at hz2
 have hlapp:(jf d.2.2.1 l).length=d.2.2.1.length+l.length:=by simp
 have hn:jf ([]:List Ya) d.2.2.1=d.2.2.1:=rfl
 have hlim:jx (ja d.2.2.1+ja l) Wa=true:=ji (by rw[Bg];omega)
 have hlim2:jx (ja ([]:List Ya)+ja d.2.2.1) Wa=true:=ji (by rw[Bg];simp;omega)
 unfold Hv PA
 rw[hn,hlim,hlim2,YH _ hz,Bd,Ir _ (by omega)]
 simp only[zj]
 cases hd:Od d with
 |false=>rw[show Jy d l til=false by unfold Jy;rw[hd];rfl];rfl
 |true=>
  have hh:∀x∈d.1.2.2.2.1,Nx x:=by
   have:Tg d.1=true:=by simp only[Od,jd]at hd;exact hd.1
   exact Tu (UQ this)
  have h64:d.2.2.1.length≤64:=by
   simp only[Od,jd]at hd
   exact A8 hd.2.2.2.2.1
  rw[EX _ (by omega) hh]
  simp only[jb,jg,zk]
  rw[JS _ _ _ (by rw[hlapp];omega)]
  simp only[jb]
  unfold Jy
  rw[hd]
  cases decide (d.2.2.2.1≤til∧til≤1000000)with
  |false=>rfl
  |true=>
   cases hq:Gf (jf d.2.2.1 l) (LD d.1.2.2.2.1) d.1.1.1 with
   |false=>simp only[Bool.and_false];rfl
   |true=>
    have hrun:WB (d.1,d.2.1,jf d.2.2.1 l,til,d.2.2.2.2)=_:=Tae (Vn d l til) (Ead hd hq)
    simp only[jg,zk,jk,Bool.and_true]
    rw[hrun]
    by_cases h0:l.length=0
    ·rw[Aa (show¬((ja l:Nat):Int)>0 by omega)]
     rw[show Yr l d.2.2.2.1=true by unfold Yr;rw[h0];rfl,show Lh l til=true by unfold Lh;rw[h0];rfl]
     rfl
    ·obtain⟨x,hx,hx1⟩:=Bal (l:=l) (by omega)
     obtain⟨y,hy,hy1⟩:=D8 (l:=l) (by omega) (by omega)
     rw[Ba (show((ja l:Nat):Int)>0 by omega),hx,hy]
     simp only[zj,jb]
     have e0:((l.length:Int)==0)=false:=by simp;intro h;rw[h]at h0;simp at h0
     rw[show Yr l d.2.2.2.1=!decide (x.1<d.2.2.2.1) by unfold Yr;rw[e0,hx1];rfl]
     rw[show Lh l til=!decide (y.1>til) by
      unfold Lh;rw[e0,hy1]
      rw[yw,qo];simp only[decide_eq_true_eq,yn,decide_eq_false_iff_not];omega]
     cases decide (x.1<d.2.2.2.1)<;>cases decide (y.1>til)<;>rfl















def VX(e:Gb)(t:Ua):Ab:=(e,t,([]:List Ya),(0:Int),(0:Int),(0:Int),(0:Int),())
def Nae{X R:Type}(step:X→Option (X⊕R)):Nat→X→Option R
 |0,_=>none
 |n+1,x=>match step x with
  |some (.inl y)=>Nae step n y
  |some (.inr r)=>some r
  |none=>none
theorem X5{X R:Type}{step:X→Option (X⊕R)}:∀(n:Nat) {x:X} {r:R},Nae step n x=some r→Va step x=some r
 |0,_,_,h=>by simp[Nae]at h
 |n+1,x,r,h=>by
  unfold Nae at h
  cases hs:step x with
  |none=>rw[hs]at h;simp at h
  |some z=>
   rw[hs]at h
   rw[Vb hs]
   cases z with
   |inl y=>exact X5 n h
   |inr r'=>exact h
def OC:List (List UInt8):=[[97],[98],[99],[100],[101],[102],[103],[104],[105],[106],[107],[108],[109],[110],[111],[112],[113],[114],[115],[116],[117],[118],[119],[120],[121],[122],[49],[50],[51],[52],[53],[54],[55],[56],[57],[48],[101,110,116,101,114],[101,115,99],[98,97,99,107],[116,97,98],[115,112,97,99,101],[109,105,110,117,115],[101,113,117,97,108],[108,101,102,116],[114,105,103,104,116],[117,112],[100,111,119,110],[102,49],[102,50],[102,51],[102,52],[102,53],[102,54],[102,55],[102,56],[102,57]]
def NaB:List (List UInt8):=[[],[97],[98],[99],[100],[101],[102],[103],[104],[105],[106],[107],[108],[109],[110],[111],[112],[113],[114],[115],[116],[117],[118],[119],[120],[121],[122],[49],[50],[51],[52],[53],[54],[55],[56],[57],[48],[10],[],[],[9],[32],[45],[61],[],[],[],[],[],[],[],[],[],[],[],[],[]]
def OaB:List (List UInt8):=[[],[65],[66],[67],[68],[69],[70],[71],[72],[73],[74],[75],[76],[77],[78],[79],[80],[81],[82],[83],[84],[85],[86],[87],[88],[89],[90],[33],[64],[35],[36],[37],[94],[38],[42],[40],[41],[10],[],[],[9],[32],[95],[43],[],[],[],[],[],[],[],[],[],[],[],[],[]]
theorem FaB:VN=some (OC,()):=by
 unfold VN Rh Ti
 erw[X5 400 (r:=.inl ((OC,()),())) (by kernel_rfl)]
 rfl
theorem Hab:strings_Split GK [32]=some (OC,()):=by kernel_rfl
def Lg(c:Int):List UInt8:=cond (decide (1≤c∧c≤56)) (OC.getD (c-1).toNat []) []
theorem CW:OC.length=56:=by decide+kernel
theorem Cae{c:Int}(h:1≤c∧c≤56):OC[(c-1).toNat]?=some (Lg c)∧Rb OC.length (c-1)=true:=by
 have hl:(c-1).toNat<OC.length:=by rw[CW];omega
 constructor
 ·unfold Lg
  rw[Ba h,zj,qf,je hl];rfl
 ·have:c-1=(((c-1).toNat:Nat):Int):=by omega
  rw[this,Ve];exact Ba hl
theorem Tz(c:Int):Zc c=some (Lg c,()):=by
 unfold Zc
 by_cases h1:c<1
 ·rw[Ba h1];unfold Lg;rw[Aa (show¬(1≤c∧c≤56) by omega)];rfl
 rw[Aa h1]
 by_cases h2:c>56
 ·rw[Ba h2];unfold Lg;rw[Aa (show¬(1≤c∧c≤56) by omega)];rfl
 rw[Aa h2,Hab]
 obtain⟨e1,e2⟩:=Cae (c:=c) (by omega)
 simp only[zk,jb]
 rw[Mf (by omega) (by omega),e1,e2]
 rfl
theorem Bn(c:Int):Wg c=some (Lg c,()):=by
 unfold Wg
 rw[Bd]
 by_cases h:1≤c∧c≤56
 ·rw[Ba h,FaB]
  obtain⟨e1,e2⟩:=Cae h
  simp only[jg,zk,jb]
  rw[Mf (by omega) (by omega),e1,e2]
  rfl
 ·rw[Aa h];unfold Lg;rw[Aa h];rfl
def Nz(c m:Int):List UInt8:=cond (m==0) (NaB.getD c.toNat []) (cond (m==2) (OaB.getD c.toNat []) [])
theorem Dak{c:Int}(h:¬(1≤c∧c≤56))(m:Int):Nz c m=[]:=by
 have h0:NaB.getD c.toNat []=[]∧OaB.getD c.toNat []=[]:=by
  by_cases hc:c<1
  ·rw[show c.toNat=0 by omega];exact⟨rfl,rfl⟩
  ·have l0:NaB.length=57:=by decide+kernel
   have l2:OaB.length=57:=by decide+kernel
   rw[qf,qf,qv (by omega),qv (by omega)]
   exact⟨rfl,rfl⟩
 unfold Nz
 rw[h0.1,h0.2]
 cases m==0<;>cases m==2<;>rfl
theorem Vaz:∀c:Fin 57,Kn (c.val:Int) 0=some (Nz c.val 0,()):=by
 intro c
 simp only[Kn,Um,Tz,jb]
 revert c
 decide+kernel
theorem Waz:∀c:Fin 57,Kn (c.val:Int) 2=some (Nz c.val 2,()):=by
 intro c
 simp only[Kn,Um,Tz,jb]
 revert c
 decide+kernel
theorem DaB:∀c:Fin 57,Pn (c.val:Int) 0=some (Nz c.val 0,()):=by
 intro c
 simp only[Pn,Bd,Bn,jb]
 revert c
 decide+kernel
theorem EaB:∀c:Fin 57,Pn (c.val:Int) 2=some (Nz c.val 2,()):=by
 intro c
 simp only[Pn,Bd,Bn,jb]
 revert c
 decide+kernel
theorem Nad(c m:Int):Kn c m=some (Nz c m,()):=by
 by_cases hc:1≤c∧c≤56
 ·by_cases h0:m=0
  ·subst h0
   have:=Vaz ⟨c.toNat,by omega⟩
   rwa [show((⟨c.toNat,by omega⟩:Fin 57).val:Int)=c by show((c.toNat:Nat):Int)=c;omega]at this
  ·by_cases h2:m=2
   ·subst h2
    have:=Waz ⟨c.toNat,by omega⟩
    rwa [show((⟨c.toNat,by omega⟩:Fin 57).val:Int)=c by show((c.toNat:Nat):Int)=c;omega]at this
   ·have e:Nz c m=[]:=by
     unfold Nz
     rw[show(m==0)=false by simpa using h0,show(m==2)=false by simpa using h2];rfl
    rw[e]
    unfold Kn
    rw[Um,Ba hc,show(m !=0)=true by simpa using h0,show(m !=2)=true by simpa using h2]
    rfl
 ·rw[Dak hc]
  unfold Kn
  rw[Um,Aa hc]
  rfl
theorem OaJ:∀m:Fin 16,m.val≠0→m.val≠2→(Kj .i64 (m.val:Int) 2 !=0)=true:=by decide+kernel
theorem Qae(c m:Int):Pn c m=some (Nz c m,()):=by
 by_cases hc:1≤c∧c≤56
 ·by_cases h0:m=0
  ·subst h0
   have:=DaB ⟨c.toNat,by omega⟩
   rwa [show((⟨c.toNat,by omega⟩:Fin 57).val:Int)=c by show((c.toNat:Nat):Int)=c;omega]at this
  ·by_cases h2:m=2
   ·subst h2
    have:=EaB ⟨c.toNat,by omega⟩
    rwa [show((⟨c.toNat,by omega⟩:Fin 57).val:Int)=c by show((c.toNat:Nat):Int)=c;omega]at this
   ·have e:Nz c m=[]:=by
     unfold Nz
     rw[show(m==0)=false by simpa using h0,show(m==2)=false by simpa using h2];rfl
    rw[e]
    unfold Pn
    rw[Bd,Ba hc,Bd]
    by_cases hm:0≤m∧m≤15
    ·have:=OaJ ⟨m.toNat,by omega⟩ (by show m.toNat≠0;omega) (by show m.toNat≠2;omega)
     rw[show((⟨m.toNat,by omega⟩:Fin 16).val:Int)=m by show((m.toNat:Nat):Int)=m;omega]at this
     rw[Ba hm,this]
     rfl
    ·rw[Aa hm];rfl
 ·rw[Dak hc]
  unfold Pn
  rw[Bd,Aa hc]
  rfl
theorem EY(l:List UInt8):Dp (Sc l)=l:=by
 unfold Dp Sc
 rw[List.map_map]
 conv=>rhs;rw[←List.map_id l]
 apply List.map_congr_left
 intro x _
 simp
theorem PX(a b:List UInt8):Sc (a++b)=Sc a++Sc b:=by simp[Sc]
theorem RB(a:List UInt8):(Sc a).length=a.length:=by simp[Sc]
theorem P5(u:Nat)(h:¬u<10):Lib.decDigits u=Lib.decDigits (u/10)++[UInt8.ofNat (48+u%10)]:=by rw[Lib.decDigits,dif_neg h]
theorem V2(u:Nat)(h:u<10):Lib.decDigits u=[UInt8.ofNat (48+u)]:=by rw[Lib.decDigits,dif_pos h]
theorem Oau(u:Nat)(h:u<10^20):Lib.nDigits u≤20:=by
 apply Classical.byContradiction
 intro hn
 have h2:∀k u,10^k≤u∨Lib.nDigits u≤k∨k=0:=by
  intro k
  induction k with
  |zero=>intro u;right;right;rfl
  |succ k ih=>
   intro u
   by_cases hu:u<10
   ·right;left;rw[Lib.nDigits_small hu];omega
   ·rcases ih (u/10)with h|h|h
    ·left;rw[Nat.pow_succ];omega
    ·right;left;rw[Lib.nDigits_big hu];omega
    ·subst h;left;simpa using Nat.le_of_not_lt hu
 rcases h2 20 u with h3|h3|h3<;>omega
theorem Bad{d:Int}(h:0≤d∧d≤9):Dp [j4 .u8 (j4 .i64 (48+d))]=[UInt8.ofNat (48+d.toNat)]:=by
 rw[Mf (by omega) (by omega),Wbh (by omega) (by omega)]
 show[UInt8.ofNat (48+d).toNat]=_
 rw[show(48+d).toNat=48+d.toNat by omega]
theorem Wao(n:Int):∀(v:Nat) (x:Int) (acc:List UInt8),1≤v→(x=(v:Int)∨x=-(v:Int))→v≤9223372036854775808→acc.length+Lib.nDigits v≤100→
 Si ((n,acc,x,()),())=some (.inl ((n,Lib.decDigits v++acc,()),())):=by
 intro v
 induction v using Nat.strongRecOn with
 |_ v ih=>
 intro x acc hv hx hb hl
 unfold Si
 have hd:=Lib.nDigits_pos v
 obtain⟨d,hdd⟩:∃d,v%10=d:=⟨_,rfl⟩
 have hs:Dv n acc x=some (.inl ((n,UInt8.ofNat (48+d)::acc,Int.tdiv x 10,()),())):=by
  unfold Dv
  rw[show(x !=0)=true by rw[bne_iff_ne];omega]
  simp only[zj,show((10:Int)==0)=false from rfl,zk]
  rcases hx with rfl|rfl
  ·have e:ye (v:Int) 10=(d:Int):=by rw[Int.tmod_eq_emod_of_nonneg (by omega)];omega
   have e2:Int.tdiv (v:Int) 10=((v/10:Nat):Int):=by rw[Int.tdiv_eq_ediv_of_nonneg (by omega)];omega
   rw[e,e2,Aa (show¬(d:Int)<0 by omega),zk,Bad (d:=(d:Int)) (by omega),Mf (n:=((v/10:Nat):Int)) (by omega) (by omega)]
   simp only[jw,j6]
   rw[Ob (by omega)]
   rfl
  ·have e:ye (-(v:Int)) 10=-(d:Int):=by rw[Int.neg_tmod,Int.tmod_eq_emod_of_nonneg (by omega)];omega
   have e2:Int.tdiv (-(v:Int)) 10=-((v/10:Nat):Int):=by rw[Int.neg_tdiv,Int.tdiv_eq_ediv_of_nonneg (by omega)];omega
   rw[e,e2]
   by_cases h0:d=0
   ·subst h0
    rw[show(-((0:Nat):Int))=0 by omega,Aa (show¬(0:Int)<0 by omega),zk,Bad (d:=0) (by omega),Mf (n:=-((v/10:Nat):Int)) (by omega) (by omega)]
    simp only[jw,j6]
    rw[Ob (by omega)]
    rfl
   ·rw[Ba (show-(d:Int)<0 by omega),zj,Mf (n:=0- -(d:Int)) (by omega) (by omega),show(0:Int)- -(d:Int)=(d:Int) by omega,Bad (d:=(d:Int)) (by omega),Mf (n:=-((v/10:Nat):Int)) (by omega) (by omega)]
    simp only[jw,j6]
    rw[Ob (by omega)]
    rfl
 rw[Vb hs]
 show Si ((n,UInt8.ofNat (48+d)::acc,Int.tdiv x 10,()),())=_
 have hx2:Int.tdiv x 10=((v/10:Nat):Int)∨Int.tdiv x 10=-((v/10:Nat):Int):=by
  rcases hx with rfl|rfl
  ·left;rw[Int.tdiv_eq_ediv_of_nonneg (by omega)];omega
  ·right;rw[Int.neg_tdiv,Int.tdiv_eq_ediv_of_nonneg (by omega)];omega
 by_cases hten:v<10
 ·have hz:Int.tdiv x 10=0:=by
   rw[show v/10=0 by omega]at hx2
   omega
  rw[hz,V2 v hten]
  unfold Si
  rw[Vb (z:=some (.inr (.inl ((n,UInt8.ofNat (48+d)::acc,()),())))) (by simp[Dv])]
  rw[show d=v by omega]
  rfl
 ·rw[ih (v/10) (by omega) _ _ (by omega) hx2 (by omega) (by
   have:=Lib.nDigits_big hten
   simp only[jw];omega),P5 v hten,hdd]
  simp
theorem Qj{n:Int}(h:-9223372036854775808≤n∧n≤9223372036854775807):Yd n=some (Lib.itoa n,()):=by
 unfold Yd
 by_cases h0:n=0
 ·subst h0
  have:Lib.itoa 0=[48]:=by
   unfold Lib.itoa
   rw[if_neg (by omega)]
   show Lib.decDigits 0=_
   rw[V2 0 (by omega)]
   rfl
  rw[this]
  rfl
 ·have hN:=Oau n.natAbs (by omega)
  have hl:=Lib.decDigits_length n.natAbs
  rw[show(n==0)=false by simpa using h0,Wao n n.natAbs n [] (by omega) (by omega) (by omega) (by simp;omega)]
  simp only[zk,jb,qg,y3]
  unfold Lib.itoa
  by_cases hneg:n<0
  ·rw[Ba hneg,if_pos hneg,Ob (by simp only[jw,j6];omega)]
   rfl
  ·rw[Aa hneg,if_neg hneg,show n.toNat=n.natAbs by omega]
   rfl
theorem Mp{n:Int}(h:-9223372036854775808≤n∧n≤9223372036854775807):Qh n=some (Lib.itoa n,()):=by
 unfold Qh strconv_Itoa U5
 rw[Ba h.1,Ba h.2]
 rfl
theorem NK{n:Int}(h:-9223372036854775808≤n∧n≤9223372036854775807):(Lib.itoa n).length≤21:=by
 have hN:=Oau n.natAbs (by omega)
 have hl:=Lib.decDigits_length n.natAbs
 unfold Lib.itoa
 by_cases hneg:n<0
 ·rw[if_pos hneg];simp only[jw];omega
 ·rw[if_neg hneg,show n.toNat=n.natAbs by omega];omega
theorem Sm{l:List (List UInt8)}{by_:List UInt8}(h1:l.length≤1073741824)(h2:(Lib.join l by_).length≤1073741824):Mh l by_=some (Lib.join l by_,()):=by
 unfold Mh strings_Join Faj
 rw[ji h1,ji h2]
 rfl
theorem Tk{l:List (List UInt8)}{by_:List UInt8}(h1:l.length≤1073741824)(h2:(Lib.join l by_).length≤1073741824):Vd l by_=some (Lib.join l by_,()):=by
 cases l with
 |nil=>
  unfold Vd Pq
  rw[Vb (z:=some (.inr (.inl (([],()),())))) (by simp[Tp])]
  rfl
 |cons x r=>
  rw[Lib.join_cons]at h2⊢
  have hlen:∀k,(Lib.joinTail by_ (r.take k)).length≤(Lib.joinTail by_ r).length:=fun k=>Lib.joinTail_take_le by_ r k
  simp only[qd]at h2
  have hl:=EF (step:=fun y:(List (List UInt8)×List UInt8×List Int×Int×Unit)×Unit=>Tp y.1.1 y.1.2.1 y.1.2.2.1 y.1.2.2.2.1)
   (fun k=>((x::r,by_,cond (k==0) [] (Sc (x++Lib.joinTail by_ (r.take (k-1)))),(k:Int),()),())) (x::r).length (.inl ((Sc (x++Lib.joinTail by_ r),()),())) (by
    intro k hk
    simp only[Tp]
    rw[Ba (show(k:Int)<(((x::r).length:Nat):Int) by omega)]
    cases k with
    |zero=>
     rw[Aa (by omega)]
     simp only[zj,zk]
     rw[show((0:Nat):Int)=0 from rfl,BaJ]
     simp only[jb]
     rw[Ob (by simp[RB];omega)]
     simp[Lib.joinTail,Mf]
    |succ k=>
     have hk':k<r.length:=by simpa using hk
     rw[Ba (by omega),Nb hk]
     have e:(k+1==0)=false:=by simp
     have e2:(k+1+1==0)=false:=by simp
     simp only[e,e2,zj,zk,jb,Nat.add_sub_cancel]
     have hr:Lib.joinTail by_ (r.take (k+1))=Lib.joinTail by_ (r.take k)++(by_++r[k]):=by rw[Lib.joinTail_take_succ by_ r k r[k] (je hk'),q7]
     have h3:=hlen (k+1)
     rw[hr]at h3
     simp only[qd]at h3
     rw[Ob (by simp only[RB,qd];omega)]
     simp only[zj]
     rw[Ob (by simp only[zh,RB,qd,List.getElem_cons_succ];omega)]
     simp only[zj,List.getElem_cons_succ,zh]
     rw[hr,Gc (by omega)]
     simp[PX]) (by
    simp only[Tp]
    rw[Aa (by omega)]
    simp)
  unfold Vd Pq
  erw[hl]
  simp[EY]
theorem OK(l:List (List UInt8))(s:List UInt8)(c:Nat)(h:∀x∈l,x.length≤c):(Lib.join l s).length≤(c+s.length)*l.length:=by
 cases l with
 |nil=>simp[Lib.join_nil]
 |cons x r=>
  rw[Lib.join_cons,qd,Lib.joinTail_length]
  have h1:=h x (by simp)
  have h2:Lib.lens r≤c*r.length:=by
   clear h1
   induction r with
   |nil=>simp[Lib.lens]
   |cons y r ih=>
    have:=ih (fun z hz=>h z (by simp at hz⊢;rcases hz with hz|hz<;>simp[hz]))
    have h3:=h y (by simp)
    simp only[Lib.lens,ym,List.sum_cons,jw]at this⊢
    rw[Nat.mul_succ]
    omega
  simp only[jw]
  rw[Nat.mul_succ,yh]
  omega
def Zg(m:Int):List UInt8:=[[],[67],[83],[67,83],[65],[67,65],[83,65],[67,83,65],[71],[67,71],[83,71],[67,83,71],[65,71],[67,65,71],[83,65,71],[67,83,65,71]].getD m.toNat []
theorem Hah:∀m:Fin 16,Nae (fun x:(Int×List UInt8×List (List UInt8)×Int×Int×Unit)×Unit=>AC x.1.1 x.1.2.1 x.1.2.2.1 x.1.2.2.2.1 x.1.2.2.2.2.1) 10 (((m.val:Int),[],[[67],[83],[65],[71]],4,0,()),())=some (.inl ((Zg m.val,()),())):=by
 intro m
 simp only[AC]
 revert m
 decide+kernel
theorem Wah:∀m:Fin 16,Nae (fun x:(Int×List UInt8×Int×Unit)×Unit=>Zs x.1.1 x.1.2.1 x.1.2.2.1) 10 (((m.val:Int),[],0,()),())=some (.inl ((Zg m.val,()),())):=by
 intro m
 simp only[Zs,Bd]
 revert m
 decide+kernel
theorem KV{m:Int}(h:¬(1≤m∧m≤15)):Zg m=[]:=by
 unfold Zg
 by_cases hm:m<1
 ·rw[show m.toNat=0 by omega];rfl
 ·rw[qf,qv (by simp;omega)];rfl
theorem Du(m:Int):Sj m=some (Zg m,()):=by
 unfold Sj
 by_cases h1:m<1
 ·rw[Ba h1,KV (by omega)];rfl
 rw[Aa h1,zk]
 by_cases h2:m>15
 ·rw[Ba h2,KV (by omega)];rfl
 rw[Aa h2,zk]
 have:=X5 10 (Hah ⟨m.toNat,by omega⟩)
 rw[show(((⟨m.toNat,by omega⟩:Fin 16).val:Nat):Int)=m by show((m.toNat:Nat):Int)=m;omega]at this
 unfold Bw
 erw[this]
 rfl
theorem Ev(m:Int):Wj m=some (Zg m,()):=by
 unfold Wj Nw
 by_cases h:1≤m∧m≤15
 ·have:=X5 10 (Wah ⟨m.toNat,by omega⟩)
  rw[show(((⟨m.toNat,by omega⟩:Fin 16).val:Nat):Int)=m by show((m.toNat:Nat):Int)=m;omega]at this
  erw[this]
  rfl
 ·rw[Vb (z:=some (.inr (.inl (([],()),())))) (by
   simp only[Zs]
   rw[Bd,Aa h]
   rfl),KV h]
  rfl
theorem XP(m:Int):(Zg m).length≤4:=by
 by_cases h:1≤m∧m≤15
 ·have:∀m:Fin 16,(Zg m.val).length≤4:=by decide+kernel
  have:=this ⟨m.toNat,by omega⟩
  rwa [show(((⟨m.toNat,by omega⟩:Fin 16).val:Nat):Int)=m by show((m.toNat:Nat):Int)=m;omega]at this
 ·rw[KV h];simp
theorem FW(c:Int):(Lg c).length≤5:=by
 unfold Lg
 cases decide (1≤c∧c≤56)with
 |false=>simp
 |true=>
  have h:∀x∈OC,x.length≤5:=by decide+kernel
  rw[zj,qf]
  cases hc:OC[(c-1).toNat]? with
  |none=>simp
  |some y=>exact h y (List.mem_of_getElem? hc)
def J4(r:Ca):List UInt8:=cond (Xc r) (jf (jf (Zg r.1) [58]) (Lib.join (r.2.1.map Lg) [44])) []
theorem Ez{r:Ca}(h:Xc r=true):r.2.1.length≤56:=by
 unfold Xc at h
 simp only[jd]at h
 have h2:=Bz.1 h.2
 have key:∀j (hj:j<r.2.1.length),(j:Int)+1≤r.2.1[j]∧r.2.1[j]≤56:=by
  intro j
  induction j with
  |zero=>
   intro hj
   have:=h2 0 hj
   simp only[JF,jd,decide_eq_true_eq]at this
   omega
  |succ j ih=>
   intro hj
   have h3:=ih (by omega)
   have:=h2 (j+1) hj
   simp only[JF,jd,qz,yn,decide_eq_true_eq,decide_eq_false_iff_not]at this
   have e:r.2.1.getD (0+(j+1)-1) 0=r.2.1[j]:=by
    rw[show 0+(j+1)-1=j by omega,qf,je (by omega)];rfl
   rw[e]at this
   omega
 apply Classical.byContradiction
 intro hn
 have:=key 56 (by omega)
 omega
theorem I3{r:Ca}(h:Xc r=true):(Lib.join (r.2.1.map Lg) [44]).length≤336:=by
 have h1:=OK (r.2.1.map Lg) [44] 5 (fun x hx=>by
  obtain⟨c,_,rfl⟩:=ql.1 hx
  exact FW c)
 have h2:=Ez h
 simp only[yu,jw,j6]at h1
 omega
theorem A0(r:Ca):(J4 r).length≤341:=by
 unfold J4
 cases h:Xc r with
 |false=>simp
 |true=>
  have:=I3 h
  have:=XP r.1
  simp only[zj,zh,qd,jw,j6]
  omega
theorem JM(r:Ca)(hn:r.2.1.length≤Da):Pp r=some (J4 r,()):=by
 have h20:Da=1048576:=rfl
 unfold Pp J4
 rw[Yz r hn]
 cases hv:Xc r with
 |false=>rfl
 |true=>
  simp only[jb,jg,zk,zj]
  have hk:=Ez hv
  have hl:=Yh (step:=fun x:(Unit×List (List UInt8)×List Int×Int×Int×Unit)×Ca×Unit=>Lo x.1.1 x.1.2.1 x.1.2.2.1 x.1.2.2.2.1 x.1.2.2.2.2.1 x.2.1) r.2.1 Lg
   (fun o k=>(((),o,r.2.1,(r.2.1.length:Int),k,()),(r,()))) (fun o=>.inl (((),o,()),(r,()))) (by omega) (fun k hk o ho=>by
    simp only[Lo]
    rw[Ba (by omega),Nb hk]
    simp only[zj,jb]
    rw[Tz]
    simp only[jb]
    rw[Ob (by simp only[jw,j6];omega)]
    rfl) (fun o=>by
    simp only[Lo]
    rw[Aa (by omega)]
    rfl)
  unfold Pr
  erw[hl]
  simp only[jb,qg]
  rw[Du]
  have h1:=XP r.1
  have h2:=I3 hv
  simp only[jb]
  rw[Ob (by simp only[jw,j6];omega)]
  simp only[zj]
  rw[Sm (by simp;omega) (by omega)]
  simp only[jb]
  rw[Ob (by simp only[zh,qd,jw,j6];omega)]
  rfl
theorem PN(r:Ca)(hn:r.2.1.length≤Da):Sp r=some (J4 r,()):=by
 have h20:Da=1048576:=rfl
 unfold Sp J4
 rw[Cn r hn]
 cases hv:Xc r with
 |false=>rfl
 |true=>
  simp only[jb,jg,zk,zj]
  have hk:=Ez hv
  have hl:=Yh (step:=fun x:(Unit×List (List UInt8)×Int×Unit)×Ca×Unit=>Wo x.1.1 x.1.2.1 x.1.2.2.1 x.2.1) r.2.1 Lg
   (fun o k=>(((),o,k,()),(r,()))) (fun o=>.inl (((),o,()),(r,()))) (by omega) (fun k hk o ho=>by
    simp only[Wo]
    rw[Ba (by omega),Nb hk]
    simp only[zj,jb]
    rw[Bn]
    simp only[jb]
    rw[Ob (by simp only[jw,j6];omega)]
    rfl) (fun o=>by
    simp only[Wo]
    rw[Aa (by omega)]
    rfl)
  unfold Cs
  erw[hl]
  simp only[jb,qg]
  rw[Ev]
  have h1:=XP r.1
  have h2:=I3 hv
  simp only[jb]
  rw[Ob (by simp only[jw,j6];omega)]
  simp only[zj]
  rw[Tk (by simp;omega) (by omega)]
  simp only[jb]
  rw[Ob (by simp only[zh,qd,jw,j6];omega)]
  rfl
def A1(x:Lc):List UInt8:=jf (jf (Lib.itoa x.1) [32]) (J4 x.2.1)
def TV(l:List Lc):List UInt8:=cond (((ja l:Nat):Int)==0) [45] (Lib.join (l.map A1) [59,32])
theorem MaD{x:Lc}(h:-9223372036854775808≤x.1∧x.1≤9223372036854775807):(A1 x).length≤363:=by
 have h1:=NK h
 have h2:=A0 x.2.1
 unfold A1
 simp only[zh,qd,jw,j6]
 omega
theorem C0{l:List Lc}(h:∀x∈l,-9223372036854775808≤x.1∧x.1≤9223372036854775807):(Lib.join (l.map A1) [59,32]).length≤365*l.length:=by
 have h1:=OK (l.map A1) [59,32] 363 (fun x hx=>by
  obtain⟨c,hc,rfl⟩:=ql.1 hx
  exact MaD (h c hc))
 simp only[yu,jw,j6]at h1
 exact h1
theorem K3(l:List Lc)(h:∀x∈l,-9223372036854775808≤x.1∧x.1≤9223372036854775807)(hk:∀x∈l,x.2.1.2.1.length≤Da)(hn:l.length≤Da):Mo l=some (TV l,()):=by
 have h20:Da=1048576:=rfl
 unfold Mo TV
 cases hc:((ja l:Nat):Int)==0 with
 |true=>rfl
 |false=>
  rw[zk,zk]
  have hl:=Yh (step:=fun x:(List (List UInt8)×List Lc×Int×Int×Unit)×Unit=>Qs x.1.1 x.1.2.1 x.1.2.2.1 x.1.2.2.2.1) l A1
   (fun o k=>((o,l,(l.length:Int),k,()),())) (fun o=>.inl ((o,()),())) (by omega) (fun k hk2 o ho=>by
    have hm:l[k]∈l:=qj hk2
    have h1:=NK (h _ hm)
    have h2:=A0 l[k].2.1
    simp only[Qs]
    rw[Ba (by omega),Nb hk2]
    simp only[zj,jb]
    rw[Mp (h _ hm)]
    simp only[jb]
    rw[Ob (by simp only[jw,j6];omega)]
    simp only[zj]
    rw[JM _ (hk _ hm)]
    simp only[jb]
    rw[Ob (by simp only[zh,qd,jw,j6];omega)]
    simp only[zj]
    rw[Ob (by simp only[jw,j6];omega)]
    rfl) (fun o=>by
    simp only[Qs]
    rw[Aa (by omega)]
    rfl)
  unfold Cw
  erw[hl]
  simp only[jb,qg]
  have:=C0 h
  rw[Sm (by simp;omega) (by omega)]
  rfl
theorem O4(l:List Lc)(h:∀x∈l,-9223372036854775808≤x.1∧x.1≤9223372036854775807)(hk:∀x∈l,x.2.1.2.1.length≤Da)(hn:l.length≤Da):RD l=some (TV l,()):=by
 have h20:Da=1048576:=rfl
 unfold RD TV
 have hl:=Yh (step:=fun x:(List Lc×List (List UInt8)×Int×Unit)×Unit=>At x.1.1 x.1.2.1 x.1.2.2.1) l A1
  (fun o k=>((l,o,k,()),())) (fun o=>.inl ((o,()),())) (by omega) (fun k hk2 o ho=>by
   have hm:l[k]∈l:=qj hk2
   have h1:=NK (h _ hm)
   have h2:=A0 l[k].2.1
   simp only[At]
   rw[Ba (by omega),Nb hk2]
   simp only[zj,jb]
   rw[Qj (h _ hm)]
   simp only[jb]
   rw[Ob (by simp only[jw,j6];omega)]
   simp only[zj]
   rw[PN _ (hk _ hm)]
   simp only[jb]
   rw[Ob (by simp only[zh,qd,jw,j6];omega)]
   simp only[zj]
   rw[Ob (by simp only[jw,j6];omega)]
   rfl) (fun o=>by
   simp only[At]
   rw[Aa (by omega)]
   rfl)
 unfold Ow
 erw[hl]
 simp only[jb,qg,yu]
 cases hc:((ja l:Nat):Int)==0 with
 |true=>rfl
 |false=>
  have:=C0 h
  rw[Tk (by simp;omega) (by omega)]
  rfl
theorem Uae(l:List Int)(x:Int)(hn:l.length≤Wa):IR l x=some (l.any (fun y=>y==x),()):=by
 have hlim:=Bg
 have hl:=Kh (step:=fun y:(List Int×Int×Int×Unit)×Unit=>ZD y.1.1 y.1.2.1 y.1.2.2.1) l (fun _ y=>!(y==x)) (fun i=>((l,x,i,()),()))
  (.inl ((),())) (.inr ((true,()),())) (by
   intro k hk
   simp only[ZD]
   rw[Ba (by omega),Nb hk]
   simp only[zj,jb]
   cases l[k]==x<;>rfl) (by
   simp only[ZD]
   rw[Aa (by omega)]
   rfl) (by omega)
 unfold IR VF
 erw[hl]
 have e:Ig (fun _ y=>!(y==x)) 0 l=!l.any (fun y=>y==x):=by
  apply Uap
  rw[Bz]
  simp only[yn,List.any_eq_false]
  constructor
  ·intro h y hy
   obtain⟨k,hk,rfl⟩:=qk hy
   have:=h k hk
   simpa using this
  ·intro h j hj
   have:=h l[j] (qj hj)
   simpa using this
 rw[e]
 cases l.any (fun y=>y==x)<;>rfl
def SK(a:Ca)(o:List Int)(x:Int):List Int:=cond (!a.2.1.any (fun y=>y==x)) (jf o [x]) o
def LV(a b:Ca):List Int:=cond (Xc a&&Xc b) (Vc (fun _ o x=>SK a o x) 0 [] b.2.1) []
theorem Ham(a:Ca):∀(l:List Int) (k:Nat) (o:List Int),(Vc (fun _ o x=>SK a o x) k o l).length≤o.length+l.length
 |[],_,o=>by simp[Vc]
 |x::r,k,o=>by
  simp only[Vc]
  have:=Ham a r (k+1) (SK a o x)
  have h2:(SK a o x).length≤o.length+1:=by unfold SK;cases !a.2.1.any (fun y=>y==x)<;>simp
  simp only[jw]
  omega
theorem U8(a b:Ca):(LV a b).length≤56:=by
 unfold LV
 cases ha:Xc a with
 |false=>simp
 |true=>
  cases hb:Xc b with
  |false=>simp
  |true=>
   have:=Ham a b.2.1 0 []
   have:=Ez hb
   simp only[Bool.and_self,zj]
   simp at*
   omega
theorem Eab(a b:Ca)(ha:a.2.1.length≤Da)(hb:b.2.1.length≤Da):KM a b=some (LV a b,()):=by
 have h20:Da=1048576:=rfl
 have hlim:=Bg
 unfold KM LV
 rw[Yz a ha]
 cases Xc a with
 |false=>rfl
 |true=>
  simp only[jb,jg,zk,jk]
  rw[Yz b hb]
  cases Xc b with
  |false=>rfl
  |true=>
   simp only[jb,jg,zk,zj]
   have hl:=(Ue (step:=fun x:(Unit×List Int×List Int×Int×Int×Unit)×Ca×Unit=>Zz x.1.1 x.1.2.1 x.1.2.2.1 x.1.2.2.2.1 x.1.2.2.2.2.1 x.2.1) b.2.1 (fun _ o x=>SK a o x)
    (fun o k=>(((),o,b.2.1,(b.2.1.length:Int),k,()),(a,()))) (fun o=>.inl ((o,()),())) (fun k o=>o.length≤k) (fun k hk o ho=>by
     have hg:(SK a o b.2.1[k]).length≤k+1:=by
      have:(SK a o b.2.1[k]).length≤o.length+1:=by unfold SK;cases !a.2.1.any (fun y=>y==b.2.1[k])<;>simp
      omega
     refine⟨?_,hg⟩
     simp only[Zz]
     rw[Ba (by omega),Nb hk]
     simp only[zj,jb]
     rw[UY _ _ (by omega)]
     simp only[jb,SK]
     cases !a.2.1.any (fun y=>y==b.2.1[k])with
     |false=>rfl
     |true=>
      simp only[zj]
      rw[Ob (by simp only[jw,j6];omega)]
      rfl) (fun o ho=>by
     simp only[Zz]
     rw[Aa (by omega)]
     rfl) (by omega) [] (by simp)).1
   unfold CC
   erw[hl]
   rfl
theorem Eac(a b:Ca)(ha:a.2.1.length≤Da)(hb:b.2.1.length≤Da):SN a b=some (LV a b,()):=by
 have h20:Da=1048576:=rfl
 have hlim:=Bg
 unfold SN LV HC
 cases hv:Xc a&&Xc b with
 |false=>
  rw[Vb (z:=some (.inr (.inl (([],()),())))) (by
   simp only[Is]
   rw[Cn a ha,Cn b hb]
   cases decide ((0:Int)<((ja b.2.1:Nat):Int))with
   |false=>rfl
   |true=>
    cases h1:Xc a with
    |false=>rfl
    |true=>
     cases h2:Xc b with
     |false=>rfl
     |true=>rw[h1,h2]at hv;simp at hv)]
  rfl
 |true=>
  simp only[jd]at hv
  have hl:=(Ue (step:=fun x:(Unit×Unit×List Int×Int×Unit)×Ca×Ca×Unit=>Is x.1.1 x.1.2.1 x.1.2.2.1 x.1.2.2.2.1 x.2.1 x.2.2.1) b.2.1 (fun _ o x=>SK a o x)
   (fun o k=>(((),(),o,k,()),(a,b,()))) (fun o=>.inl ((o,()),())) (fun k o=>o.length≤k) (fun k hk o ho=>by
    have hg:(SK a o b.2.1[k]).length≤k+1:=by
     have:(SK a o b.2.1[k]).length≤o.length+1:=by unfold SK;cases !a.2.1.any (fun y=>y==b.2.1[k])<;>simp
     omega
    refine⟨?_,hg⟩
    simp only[Is]
    rw[Ba (by omega),Nb hk,Cn a ha,Cn b hb,hv.1,hv.2]
    simp only[zj,jb]
    rw[Uae _ _ (by omega)]
    simp only[jb,SK]
    cases !a.2.1.any (fun y=>y==b.2.1[k])with
    |false=>rfl
    |true=>
     simp only[zj]
     rw[Ob (by simp only[jw,j6];omega)]
     rfl) (fun o ho=>by
    simp only[Is]
    rw[Aa (by omega)]
    rfl) (by omega) [] (by simp)).1
  erw[hl]
  rfl
theorem A3(c m:Int):(Nz c m).length≤1:=by
 have h0:∀x∈NaB,x.length≤1:=by decide+kernel
 have h2:∀x∈OaB,x.length≤1:=by decide+kernel
 have hg:∀(l:List (List UInt8)) (i:Nat),(∀x∈l,x.length≤1)→(l.getD i []).length≤1:=by
  intro l i h
  rw[qf]
  cases hc:l[i]? with
  |none=>simp
  |some y=>exact h y (List.mem_of_getElem? hc)
 unfold Nz
 cases m==0 with
 |true=>exact hg _ _ h0
 |false=>
  cases m==2 with
  |true=>exact hg _ _ h2
  |false=>simp
def tyG(m:Int)(o:List UInt8)(k:Int):List UInt8:=jf o (Nz k m)
def tyF(m:Int)(o:List UInt8)(l:List Int):List UInt8:=Vc (fun _ o k=>tyG m o k) 0 o l
theorem Vap(m:Int):∀(l:List Int) (k:Nat) (o:List UInt8),(Vc (fun _ o k=>tyG m o k) k o l).length≤o.length+l.length
 |[],_,o=>by simp[Vc]
 |x::r,k,o=>by
  simp only[Vc]
  have:=Vap m r (k+1) (tyG m o x)
  have h2:(tyG m o x).length≤o.length+1:=by
   have:=A3 x m
   simp[tyG];omega
  simp only[jw]
  omega
def Faf(s:Ca×List UInt8)(r:Ca):Ca×List UInt8:=(r,tyF r.1 s.2 (LV s.1 r))
def Gaf(a:Ca)(l:List Ca):List UInt8:=(Vc (fun _ s r=>Faf s r) 0 (a,[]) l).2
structure Uac(k:Nat)(s:Ca×List UInt8):Prop where
 r:s.1.2.1.length≤Da
 t:s.2.length≤56*k
theorem P9{k:Nat}{s:Ca×List UInt8}(h:Uac k s){r:Ca}(hr:r.2.1.length≤Da):Uac (k+1) (Faf s r):=by
 refine⟨hr,?_⟩
 have h1:=Vap r.1 (LV s.1 r) 0 s.2
 have h2:=U8 s.1 r
 have h3:=h.t
 show(tyF r.1 s.2 (LV s.1 r)).length≤_
 unfold tyF
 omega
theorem Van{a:Ca}{l:List Ca}(ha:a.2.1.length≤Da)(hl:∀r∈l,r.2.1.length≤Da):(Gaf a l).length≤56*l.length:=by
 have:∀(l:List Ca) (k:Nat) (s:Ca×List UInt8),(∀r∈l,r.2.1.length≤Da)→Uac k s→Uac (k+l.length) (Vc (fun _ s r=>Faf s r) k s l):=by
  intro l
  induction l with
  |nil=>intro k s _ h;exact h
  |cons x r ih=>
   intro k s hl h
   have:=ih (k+1) (Faf s x) (fun y hy=>hl y (by simp[hy])) (P9 h (hl x (by simp)))
   rw[show k+(x::r).length=k+1+r.length by simp;omega]
   exact this
 have:=(this l 0 (a,[]) hl ⟨ha,by simp⟩).t
 unfold Gaf
 simpa using this
theorem Aah(a r:Ca)(L:List Ca)(n i:Int)(l:List Int)(hl:l.length≤56)(o:List UInt8)(ho:o.length≤100000000):
 Ux (((),o,(),L,n,i,l,((ja l:Nat):Int),(0:Int),()),(a,r,()))=some (.inl (((),tyF r.1 o l,(),L,n,i,()),(a,r,()))):=by
 have h:=(Ue (step:=fun x:(Unit×List UInt8×Unit×List Ca×Int×Int×List Int×Int×Int×Unit)×Ca×Ca×Unit=>Mu x.1.1 x.1.2.1 x.1.2.2.1 x.1.2.2.2.1 x.1.2.2.2.2.1 x.1.2.2.2.2.2.1 x.1.2.2.2.2.2.2.1 x.1.2.2.2.2.2.2.2.1 x.1.2.2.2.2.2.2.2.2.1 x.2.1 x.2.2.1) l (fun _ o k=>tyG r.1 o k)
  (fun o k=>(((),o,(),L,n,i,l,(l.length:Int),k,()),(a,r,()))) (fun o=>.inl (((),o,(),L,n,i,()),(a,r,()))) (fun k o'=>o'.length≤o.length+k) (fun k hk o' ho'=>by
   have hc:=A3 l[k] r.1
   refine⟨?_,by simp only[tyG,zh,qd];omega⟩
   simp only[Mu]
   rw[Ba (by omega),Ve,Ba hk]
   simp only[zj,jn]
   rw[je hk]
   simp only[jb]
   rw[Nad]
   simp only[jb]
   rw[Ob (by omega)]
   rfl) (fun o' ho'=>by
   simp only[Mu]
   rw[Aa (by omega)]
   rfl) (by omega) o (by omega)).1
 exact h





def tri(i j:Nat):Nat:=if i≤j then j*(j+1)/2+i else i*(i+1)/2+j
def KT(e i j:Nat):Bool:=e.testBit (tri i j)
def Nba(e s t:Nat):Bool:=
 (s.testBit 0&&(t.testBit 0&&KT e 0 0||t.testBit 1&&KT e 0 1||(t.testBit 2&&KT e 0 2||t.testBit 3&&KT e 0 3))||s.testBit 1&&(t.testBit 0&&KT e 1 0||t.testBit 1&&KT e 1 1||(t.testBit 2&&KT e 1 2||t.testBit 3&&KT e 1 3)))||
 (s.testBit 2&&(t.testBit 0&&KT e 2 0||t.testBit 1&&KT e 2 1||(t.testBit 2&&KT e 2 2||t.testBit 3&&KT e 2 3))||s.testBit 3&&(t.testBit 0&&KT e 3 0||t.testBit 1&&KT e 3 1||(t.testBit 2&&KT e 3 2||t.testBit 3&&KT e 3 3)))
def Ubh(e a b s:Nat):Nat:=cond (Nba e (rowN 4 s a) (rowN 4 s b)) (s|||rowN 4 s b<<<(a*4)) s
def a3(e a:Nat):Nat→Nat→Nat:=fun b s=>Ubh e a b s
def a2(e R:Nat):Nat→Nat→Nat:=fun a s=>MK (a3 e a) R s
def a1(e R:Nat):Nat→Nat→Nat:=fun _ s=>MK (a2 e R) R s

theorem Bah{a:Ca}{l:List Ca}(ha:a.2.1.length≤Da)(hl:∀r∈l,r.2.1.length≤Da)(hn:l.length≤Da):LG a l=some (Gaf a l,()):=by
 have h20:Da=1048576:=rfl
 have h:=(Ue (step:=fun x:(Unit×List UInt8×List Ca×Int×Int×Unit)×Ca×Unit=>Lu x.1.1 x.1.2.1 x.1.2.2.1 x.1.2.2.2.1 x.1.2.2.2.2.1 x.2.1) l (fun _ s r=>Faf s r)
  (fun s k=>(((),s.2,l,(l.length:Int),k,()),(s.1,()))) (fun s=>.inl ((s.2,()),())) Uac (fun k hk s hs=>by
   have hm:l[k]∈l:=qj hk
   refine⟨?_,P9 hs (hl _ hm)⟩
   have ht:=hs.t
   simp only[Lu]
   rw[Ba (by omega),Nb hk]
   simp only[zj,jb]
   rw[Eab _ _ hs.r (hl _ hm)]
   simp only[jb]
   rw[Aah s.1 l[k] l (l.length:Int) (k:Int) (LV s.1 l[k]) (U8 _ _) s.2 (by omega)]
   rfl) (fun s hs=>by
   simp only[Lu]
   rw[Aa (by omega)]
   rfl) (by omega) (a,[]) ⟨ha,by simp⟩).1
 unfold LG Tx
 erw[h]
 rfl
theorem Rah(a:Ca)(L:List Ca)(i:Nat)(hi:i<L.length)(l:List Int)(hl:l.length≤56)(o:List UInt8)(ho:o.length≤100000000):
 Sy ((L,(),o,(i:Int),l,(0:Int),()),(a,()))=some (.inl ((L,(),tyF L[i].1 o l,(i:Int),()),(a,()))):=by
 have h:=(Ue (step:=fun x:(List Ca×Unit×List UInt8×Int×List Int×Int×Unit)×Ca×Unit=>Mv x.1.1 x.1.2.1 x.1.2.2.1 x.1.2.2.2.1 x.1.2.2.2.2.1 x.1.2.2.2.2.2.1 x.2.1) l (fun _ o k=>tyG L[i].1 o k)
  (fun o k=>((L,(),o,(i:Int),l,k,()),(a,()))) (fun o=>.inl ((L,(),o,(i:Int),()),(a,()))) (fun k o'=>o'.length≤o.length+k) (fun k hk o' ho'=>by
   have hc:=A3 l[k] L[i].1
   refine⟨?_,by simp only[tyG,zh,qd];omega⟩
   simp only[Mv]
   rw[Ba (by omega),Ve,Ba hk]
   simp only[zj,jn]
   rw[je hk]
   simp only[jb]
   rw[Nb hi]
   simp only[jb]
   rw[Qae]
   simp only[jb]
   rw[Ob (by omega)]
   rfl) (fun o' ho'=>by
   simp only[Mv]
   rw[Aa (by omega)]
   rfl) (by omega) o (by omega)).1
 exact h
theorem Sah{a:Ca}{l:List Ca}(ha:a.2.1.length≤Da)(hl:∀r∈l,r.2.1.length≤Da)(hn:l.length≤Da):DH a l=some (Gaf a l,()):=by
 have h20:Da=1048576:=rfl
 have h:=(Ue (step:=fun x:(List Ca×Unit×List UInt8×Int×Unit)×Ca×Unit=>Lv x.1.1 x.1.2.1 x.1.2.2.1 x.1.2.2.2.1 x.2.1) l (fun _ s r=>Faf s r)
  (fun s k=>((l,(),s.2,k,()),(s.1,()))) (fun s=>.inl ((s.2,()),())) Uac (fun k hk s hs=>by
   have hm:l[k]∈l:=qj hk
   refine⟨?_,P9 hs (hl _ hm)⟩
   have ht:=hs.t
   simp only[Lv]
   rw[Ba (by omega),Nb hk]
   simp only[zj,jb]
   rw[Eac _ _ hs.r (hl _ hm)]
   simp only[jb]
   rw[Rah s.1 l k hk (LV s.1 l[k]) (U8 _ _) s.2 (by omega)]
   simp only[jb,qg]
   rw[Nb hk]
   rfl) (fun s hs=>by
   simp only[Lv]
   rw[Aa (by omega)]
   rfl) (by omega) (a,[]) ⟨ha,by simp⟩).1
 unfold DH Ry
 erw[h]
 rfl
def ZaK:Gb:=(((0:Int),([]:List (List Ma)),()),([]:List (List Ua)),(0:Int),([]:List Pa),(0:Int),false,())
noncomputable def CS(e:Gb)(t:Ua):Ab×(Bool×Unit):=cond (Od (VX e t)) (VX e t,true,()) (Eo,false,())
theorem Baq(e:Gb)(t:Ua):Ja Ac (VX e t)=Ja Mb e:=by
 rw[VU]
 show Ja Mb e+Ja (.sl De) []=_
 rw[AL];rfl
theorem A2(e:Gb)(t:Ua)(hz:Ja Mb e≤Da):XC e t=some (CS e t):=by
 unfold XC CS
 rw[Nu _ hz]
 simp only[jb]
 have:=PH (VX e t) (by rw[Baq];exact hz)
 unfold VX at this
 rw[this]
 unfold VX
 cases Od (e,t,([]:List Ya),(0:Int),(0:Int),(0:Int),(0:Int),())<;>rfl
theorem SO(e:Gb)(t:Ua)(hz:Ja Mb e≤Da):WD e t=some (CS e t):=by
 unfold WD CS
 have:=YH (VX e t) (by rw[Baq];exact hz)
 unfold VX at this
 rw[this]
 simp only[jb]
 unfold VX
 cases Od (e,t,([]:List Ya),(0:Int),(0:Int),(0:Int),(0:Int),())with
 |false=>rfl
 |true=>
  simp only[jg,zk,zj]
  rw[Ir _ hz]
  rfl
def Wn(m:Ia)(M:List (List Ua)):Gb:=(m,M,(0:Int),([]:List Pa),(0:Int),false,())
structure GY(keys:Nat)(t0:Int)(m0:Nat)(l:List Ya)(t:Int)(m:Nat):Prop where
 f:Cb (fun _ s x=>Ps (keys:Int) s x) 0 (t0,(m0:Int)) l=.inl (t,(m:Int))
 m0:m0<2^63
 m:m<2^63
theorem WaX(keys:Nat)(t:Int){m:Nat}(hm:m<2^63):GY keys t m [] t m:=⟨rfl,hm,hm⟩
theorem B3{keys:Int}{s s':Int×Int}{x:Ya}(h:Ps keys s x=.inl s'):Bu s x=true∧x.2.1<keys∧s'=(x.1,Kt .i64 s.2 (Te .i64 1 x.2.1)):=by
 unfold Ps at h
 revert h
 cases h1:Bu s x with
 |false=>intro h;simp at h
 |true=>
  by_cases h2:x.2.1≥keys
  ·rw[Ba h2];intro h;simp at h
  ·rw[Aa h2]
   intro h
   simp only[j8,Bool.and_self,zj,ze]at h
   exact⟨rfl,by omega,h.symm⟩
theorem Had{s:Int×Int}{x:Ya}(h:Bu s x=true):Pj x=true∧s.1≤x.1∧(x.2.2.1==(Im s.2 x.2.1==1))=false:=by
 simp only[Bu,jd,yn,decide_eq_false_iff_not]at h
 exact⟨h.1,by have:=h.2.1;omega,h.2.2⟩
theorem QY{keys:Nat}{t0 t:Int}{m0 m:Nat}{x:Ya}{l:List Ya}(h:GY keys t0 m0 (x::l) t m):∃k:Nat,x.2.1=(k:Int)∧k<keys∧k≤31∧t0≤x.1∧0≤x.1∧x.1≤1000000∧
 (x.2.2.1==(m0.testBit k))=false∧GY keys x.1 (m0^^^2^k) l t m:=by
 have hf:=h.f
 simp only[Cb]at hf
 cases hx:Ps (keys:Int) (t0,(m0:Int)) x with
 |inr u=>rw[hx]at hf;simp at hf
 |inl s'=>
  rw[hx]at hf
  obtain⟨h1,h2,rfl⟩:=B3 hx
  obtain⟨h3,h4,h5⟩:=Had h1
  have hk:=Xn h3
  obtain⟨k,hk'⟩:=jv hk.2.2.1
  have hk':x.2.1=(k:Int):=hk'
  simp only[hk']at hf h5
  rw[MU h.m0 (by omega)]at h5
  rw[UB (by omega),K8 h.m0 (MN (by omega)),WX (Ps (keys:Int)) l 1 0]at hf
  exact⟨k,hk',by omega,by omega,h4,hk.1,hk.2.1,h5,⟨hf,Nat.xor_lt_two_pow h.m0 (MN (by omega)),h.m⟩⟩
theorem Qaz{keys:Nat}:∀{l:List Ya} {t0 t:Int} {m0 m:Nat},GY keys t0 m0 l t m→t0≤t
 |[],t0,t,m0,m,h=>by have:=h.f;simp only[Cb,ze,jh]at this;omega
 |x::l,t0,t,m0,m,h=>by
  obtain⟨k,_,_,_,h1,_,_,_,h2⟩:=QY h
  have:=Qaz h2
  omega
theorem Fad{keys:Nat}:∀{l:List Ya} {t0 t:Int} {m0 m:Nat},GY keys t0 m0 l t m→l≠[]→LJ l=t∧0≤t∧t≤1000000
 |[],_,_,_,_,_,h=>absurd rfl h
 |[x],t0,t,m0,m,h,_=>by
  obtain⟨k,_,_,_,h1,h3,h4,_,h2⟩:=QY h
  have:=h2.f
  simp only[Cb,ze,jh]at this
  refine⟨?_,by omega,by omega⟩
  show x.1=t
  exact this.1
 |x::y::l,t0,t,m0,m,h,_=>by
  obtain⟨k,_,_,_,h1,_,_,_,h2⟩:=QY h
  obtain⟨h3,h4⟩:=Fad h2 (by simp)
  refine⟨?_,h4⟩
  rw[←h3]
  simp[LJ]
theorem Eaq{keys:Nat}{t0 t:Int}{m0 m:Nat}(h:GY keys t0 m0 [] t m):t=t0∧m=m0:=by
 have:=h.f
 simp only[Cb,ze,jh]at this
 exact⟨this.1.symm,by omega⟩
theorem Paz{keys:Nat}{l:List Ya}{t0 t0' t:Int}{m0 m:Nat}(h:GY keys t0 m0 l t m)(hle:t0'≤t0):∃t',t'≤t∧GY keys t0' m0 l t' m:=by
 cases l with
 |nil=>
  obtain⟨rfl,rfl⟩:=Eaq h
  exact⟨t0',hle,WaX _ _ h.m0⟩
 |cons x l=>
  refine⟨t,Int.le_refl _,?_,h.m0,h.m⟩
  have hf:=h.f
  simp only[Cb]at hf⊢
  cases hx:Ps (keys:Int) (t0,(m0:Int)) x with
  |inr u=>rw[hx]at hf;simp at hf
  |inl s'=>
   rw[hx]at hf
   obtain⟨h1,h2,rfl⟩:=B3 hx
   obtain⟨h3,h4,h5⟩:=Had h1
   have:Ps (keys:Int) (t0',(m0:Int)) x=.inl (x.1,Kt .i64 (m0:Int) (Te .i64 1 x.2.1)):=by
    unfold Ps Bu
    simp only at h4 h5⊢
    rw[h3,Aa (show¬t0'>x.1 by omega),h5,Aa (show¬x.2.1≥(keys:Int) by omega)]
    rfl
   rw[this]
   exact hf
theorem FaQ{keys:Nat}{l:List Ya}{t0 t:Int}{m0 m:Nat}(h:GY keys t0 m0 l t m)(h0:0≤t0)(hl:l.length≤64):Gf l (m0:Int) (keys:Int)=true:=by
 obtain⟨t',_,h'⟩:=Paz h h0
 have h2:=WQ (keys:Int) l 0 (0,(m0:Int))
 rw[h'.f]at h2
 have h3:=h2.symm
 simp only[Ay,jd]at h3
 unfold Gf GV FL Yak
 rw[h3.1,Ba hl]
 have h4:=h3.2
 cases hx:Cb (fun _ s x=>KE s x) 0 (0,(m0:Int)) l with
 |inl s=>rfl
 |inr u=>rw[hx]at h4;simp[Ay]at h4
theorem GaD{keys:Nat}{l:List Ya}{t0 t til:Int}{m0 m:Nat}(h:GY keys t0 m0 l t m)(ht:t≤til):Lh l til=true:=by
 unfold Lh
 by_cases hl:l=[]
 ·subst hl;rfl
 ·have:=(Fad h hl).1
  rw[Ba (show LJ l≤til by omega)]
  simp
structure K7(N keys:Nat)(d:Ab):Prop where
 pl:OS d
 ks:d.1.1.1=(keys:Int)
 mac:∀x∈d.1.2.1,x.length≤N
 tim:Yk d.2.1=true
 now:0≤d.2.2.2.1∧d.2.2.2.1≤1000000
 clk:0≤d.2.2.2.2.1∧d.2.2.2.2.1≤d.2.2.2.1
 tp:0≤d.2.2.2.2.2.1∧d.2.2.2.2.2.1≤(keys:Int)
 ta:0≤d.2.2.2.2.2.2.1∧d.2.2.2.2.2.2.1≤d.2.2.2.1
 q:∃(t0 t:Int) (m0 m:Nat),GE d.1.2.2.2.1 m0∧GY keys t0 m0 d.2.2.1 t m∧0≤t0∧t≤d.2.2.2.1
theorem IaF{l:List Pa}{m m':Nat}(h:GE l m)(h':GE l m'):m=m':=Nat.eq_of_testBit_eq fun j=>by rw[h.bit,h'.bit]
theorem QaX{N keys:Nat}{d:Ab}(h:K7 N keys d):Od d=true:=by
 obtain⟨t0,t,m0,m,h1,h2,h3,h4⟩:=h.q
 obtain⟨m1,h5,h6⟩:=Aae h.pl.eng.hd
 obtain rfl:=IaF h1 h6
 have hE:=(PY _).2 h.pl.eng
 have hF:=FaQ h2 h3 h.pl.len
 have hB:=GaD h2 h4
 have a1:=h.now;have a2:=h.clk;have a3:=h.tp;have a4:=h.ta;have a5:=h.ks
 unfold Od
 rw[hE,h.tim,h5,a5,hF,hB,Ba a1,Ba a2,Ba a3,Ba a4]
 rfl
theorem Yaf{α S R:Type}(g:S→α→S⊕R):∀(l:List α) (k:Nat) (s:S) (r:R),Cb (fun _ s x=>g s x) k s l=.inr r→∃x∈l,∃s',g s' x=.inr r
 |[],k,s,r,h=>by simp[Cb]at h
 |x::l,k,s,r,h=>by
  simp only[Cb]at h
  cases hx:g s x with
  |inr r'=>rw[hx]at h;simp only[Sum.inr.injEq]at h;subst h;exact⟨x,by simp,s,hx⟩
  |inl s'=>
   rw[hx]at h
   obtain⟨y,hy,s2,h2⟩:=Yaf g l (k+1) s' r h
   exact⟨y,jr _ hy,s2,h2⟩
theorem VaC{t:DL}{key at_:Int}{l:List Ya}{til:Int}(hl:∀x∈l,x.1≤til)(h:(Oh t key at_ l til).1≠0):(Oh t key at_ l til).2.1≤til:=by
 revert h
 unfold Oh
 cases Yk t&&decide (0≤at_∧at_≤1000000)with
 |false=>intro h;exact absurd rfl h
 |true=>
  simp only[zj]
  generalize j4 .i64 (at_+t.1)=e
  cases hc:chR t.2.2.1 key e l with
  |inl s=>
   by_cases h1:til≥e
   ·rw[Ba h1];intro _;exact h1
   ·rw[Aa h1];intro h;exact absurd rfl h
  |inr r=>
   intro h
   show r.2≤til
   obtain⟨x,hx,s,hg⟩:=Yaf (P1 t.2.2.1 key e) l 0 0 r hc
   have hxl:=hl x hx
   have h':r.1≠0:=h
   unfold P1 at hg
   revert hg
   cases Pj x with
   |false=>intro hg;simp only[zk,Sum.inr.injEq]at hg;subst hg;exact absurd rfl h'
   |true=>
    simp only[zj]
    by_cases he:x.1≥e
    ·rw[Ba he];intro hg;simp only[zj,Sum.inr.injEq]at hg;subst hg;show e≤til;omega
    ·rw[Aa he]
     simp only[zk]
     cases x.2.1==key<;>cases x.2.2.1<;>cases t.2.2.1==1<;>cases t.2.2.1==2<;>cases Im s x.2.1==1<;>(intro hg;simp only[zj,zk,Sum.inr.injEq,reduceCtorEq]at hg;try(subst hg;exact hxl))
theorem Pak{keys:Nat}:∀{l:List Ya} {t0 t:Int} {m0 m:Nat},GY keys t0 m0 l t m→∀x∈l,x.1≤t
 |[],_,_,_,_,_,x,hx=>absurd hx (by simp)
 |y::l,t0,t,m0,m,h,x,hx=>by
  obtain⟨j,hj,h1,h2,h3,h4,h5,h6,h7⟩:=QY h
  rcases jp.1 hx with rfl|hx
  ·exact Qaz h7
  ·exact Pak h7 x hx
theorem Taf{N keys:Nat}{d d':Ab}{x:Ya}{r:List Ya}{l:List Ca}(h:K7 N keys d)(hq:d.2.2.1=x::r)(hs:Fk d x r=some (d',l)):
 K7 N keys d'∧d'.2.2.1=r∧d'.2.2.2.1=d.2.2.2.1∧d'.2.1=d.2.1∧d'.1.1=d.1.1:=by
 have hN:=Jae h.pl hq hs
 have hF:=JP h.pl hq
 obtain⟨t0,t,m0,m,hm,hE,h0,ht⟩:=h.q
 rw[hq]at hE
 obtain⟨k,hk,hkk,hk31,hx0,hx1,hx2,hdn,hR⟩:=QY hE
 have hxt:=Qaz hR
 have hp:=((YU d.1.2.2.2.1).1 h.pl.eng.hd).2
 have hrl:∀y∈r,y.1≤d.2.2.2.1:=fun y hy=>by have:=Pak hR y hy;omega
 have b1:=h.clk;have b2:=h.tp;have b3:=h.ta;have b4:=h.now
 have hks:keys≤32:=by have:=(Be h.pl.eng.km).k2;have:=h.ks;omega
 have hw:j4 .i64 (x.2.1+1)=(k:Int)+1:=by rw[hk,Mf (by omega) (by omega)]
 have press:∀b:Bool,x.2.2.1=true→GE (pE d.1 k b).2.2.2.1 (m0^^^2^k):=by
  intro b hd
  have hn2:=hF.down hd
  refine Rab hm (by omega) ?_ _
  cases hh:LE d.1.2.2.2.1 k with
  |false=>rfl
  |true=>
   simp only[LE,q0,beq_iff_eq]at hh
   obtain⟨y,hy,hyk⟩:=hh
   exact absurd (hyk.trans hk.symm) (hn2 y hy)
 unfold Fk at hs
 cases hd:x.2.2.1 with
 |false=>
  rw[hd]at hs
  simp only[j8,zj,jc,jh]at hs
  obtain⟨rfl,rfl⟩:=hs
  obtain⟨hi,hi1,hi2⟩:=hF.up hd
  refine⟨⟨hN.1,h.ks,h.mac,h.tim,b4,?_,b2,?_,x.1,t,_,m,Y3 hp hm (by omega) hi (by rw[hi2,hk]),hR,hx1,ht⟩,rfl,rfl,rfl,rfl⟩
  ·show 0≤max d.2.2.2.2.1 x.1∧max d.2.2.2.2.1 x.1≤d.2.2.2.1
   omega
  ·show 0≤cond (d.2.2.2.2.2.1==j4 .i64 (x.2.1+1)) x.1 d.2.2.2.2.2.2.1∧cond (d.2.2.2.2.2.1==j4 .i64 (x.2.1+1)) x.1 d.2.2.2.2.2.2.1≤d.2.2.2.1
   cases d.2.2.2.2.2.1==j4 .i64 (x.2.1+1)
   ·exact b3
   ·show 0≤x.1∧x.1≤d.2.2.2.1;omega
 |true=>
  rw[hd,hw,hk]at hs
  simp only[jg,zk,jn]at hs
  cases htp:Qf (Ui d.1.1.2.1 (Mg d.1.1 (Nj d.1.2.2.1 d.1.2.2.2.1) k) k)with
  |false=>
   rw[htp]at hs
   simp only[zk,jc,jh]at hs
   obtain⟨rfl,rfl⟩:=hs
   refine⟨⟨hN.1,h.ks,h.mac,h.tim,b4,?_,b2,b3,x.1,t,_,m,press false hd,hR,hx1,ht⟩,rfl,rfl,rfl,rfl⟩
   show 0≤max d.2.2.2.2.1 x.1∧max d.2.2.2.2.1 x.1≤d.2.2.2.1
   omega
  |true=>
   rw[htp]at hs
   simp only[zj]at hs
   have hch:∀ch:Int×Int,ch=(cond ((d.2.2.2.2.2.1==(k:Int)+1)&&!decide (j4 .i64 (x.1-d.2.2.2.2.2.2.1)≥d.2.1.2.1)) ((1:Int),x.1) ((Oh d.2.1 (k:Int) x.1 r d.2.2.2.1).1,(Oh d.2.1 (k:Int) x.1 r d.2.2.2.1).2.1))→ch.1≠0→ch.2≤d.2.2.2.1:=by
    rintro ch rfl
    cases(d.2.2.2.2.2.1==(k:Int)+1)&&!decide (j4 .i64 (x.1-d.2.2.2.2.2.2.1)≥d.2.1.2.1)with
    |true=>intro _;show x.1≤_;omega
    |false=>intro h0;exact VaC hrl h0
   revert hs
   generalize hche:(cond ((d.2.2.2.2.2.1==(k:Int)+1)&&!decide (j4 .i64 (x.1-d.2.2.2.2.2.2.1)≥d.2.1.2.1)) ((1:Int),x.1) ((Oh d.2.1 (k:Int) x.1 r d.2.2.2.1).1,(Oh d.2.1 (k:Int) x.1 r d.2.2.2.1).2.1))=ch
   have hcl:=hch ch hche.symm
   intro hs
   cases h0':ch.1==0 with
   |true=>rw[h0']at hs;simp at hs
   |false=>
    have hcl:=hcl (by simpa using h0')
    rw[h0']at hs
    simp only[zk,jc,jh]at hs
    obtain⟨rfl,rfl⟩:=hs
    refine⟨⟨hN.1,h.ks,h.mac,h.tim,b4,?_,?_,?_,x.1,t,_,m,press _ hd,hR,hx1,ht⟩,rfl,rfl,rfl,rfl⟩
    ·show 0≤max (max d.2.2.2.2.1 x.1) ch.2∧max (max d.2.2.2.2.1 x.1) ch.2≤d.2.2.2.1
     omega
    ·show 0≤cond (ch.1==2) 0 ((k:Int)+1)∧cond (ch.1==2) 0 ((k:Int)+1)≤(keys:Int)
     cases ch.1==2
     ·show 0≤(k:Int)+1∧(k:Int)+1≤_;omega
     ·show 0≤(0:Int)∧(0:Int)≤_;omega
    ·show 0≤cond (ch.1==2) d.2.2.2.2.2.2.1 x.1∧cond (ch.1==2) d.2.2.2.2.2.2.1 x.1≤d.2.2.2.1
     cases ch.1==2
     ·show 0≤x.1∧x.1≤_;omega
     ·exact b3
theorem Kak{N keys:Nat}:∀(n:Nat) (d:Ab) (s:List Lc),K7 N keys d→K7 N keys (Ff n d s).1∧(Ff n d s).1.2.2.1.length≤d.2.2.1.length∧(Ff n d s).1.2.2.2.1=d.2.2.2.1∧(Ff n d s).1.2.1=d.2.1
 |0,d,s,h=>⟨h,jo _,rfl,rfl⟩
 |n+1,d,s,h=>by
  cases hq:d.2.2.1 with
  |nil=>
   have e:Ff (n+1) d s=(d,s):=by simp only[Ff,hq]
   rw[e]
   exact⟨h,by rw[hq];exact jo _,rfl,rfl⟩
  |cons x r=>
   cases hst:Fk d x r with
   |none=>
    have e:Ff (n+1) d s=(d,s):=by simp only[Ff,hq,hst]
    rw[e]
    exact⟨h,by rw[hq];exact jo _,rfl,rfl⟩
   |some p=>
    obtain⟨d',l⟩:=p
    have e:Ff (n+1) d s=Ff n d' (Kq s d'.2.2.2.2.1 l):=by simp only[Ff,hq,hst]
    obtain⟨h1,h2,h3,h4,_⟩:=Taf h hq hst
    obtain⟨i1,i2,i3,i4⟩:=Kak n d' (Kq s d'.2.2.2.2.1 l) h1
    rw[e]
    exact⟨i1,by rw[h2]at i2;simp;omega,i3.trans h3,i4.trans h4⟩


theorem UaD{a b:Int}(ha:0≤a∧a≤15)(hb:0≤b∧b≤15):0≤Fe .i64 a b∧Fe .i64 a b≤15:=by
 obtain⟨m,rfl⟩:=jv ha.1
 obtain⟨n,rfl⟩:=jv hb.1
 rw[Uad (by omega) (by omega)]
 have:m|||n<2^4:=Nat.or_lt_two_pow (by omega) (by omega)
 omega
theorem Nal(p:Int→Bool):∀n,(Tj p n).Pairwise (·<·)
 |0=>by simp[Tj]
 |n+1=>by
  have ih:=Nal p n
  simp only[Tj]
  cases p ((n+1:Nat):Int)with
  |false=>exact ih
  |true=>
   refine List.pairwise_append.2 ⟨ih,by simp,fun x hx y hy=>?_⟩
   simp only[qc]at hy
   have:=((PW p n x).1 hx).1.2
   omega
theorem KaU(p:Int→Bool):Ig (fun k x=>JF (Tj p 56) k x) 0 (Tj p 56)=true:=by
 rw[Bz]
 intro i hi
 have h1:=((PW p 56 (Tj p 56)[i]).1 (qj hi)).1
 simp only[JF,js,jd,qz,yn,decide_eq_true_eq,decide_eq_false_iff_not]
 refine⟨by omega,?_⟩
 by_cases h0:i=0
 ·exact .inl h0
 ·right
  have h2:=List.pairwise_iff_getElem.1 (Nal p 56) (i-1) i (by omega) hi (by omega)
  rw[qf,je (by omega)]
  simp only[q6]
  omega
theorem AaG{m:Int}{p:Int→Bool}(h:0≤m∧m≤15):Xc (m,Tj p 56,())=true:=by
 unfold Xc
 rw[Ba h]
 exact KaU p
theorem Yaj{a:Ma}(h:Ub a=true)(hk:a.1=2∨a.1=8):0≤a.2.2.1∧a.2.2.1≤15:=by
 rw[Yb]at h
 unfold Dd at h
 omega
theorem Fam:∀(l:List Pa) (k:Nat) (s:Int),0≤s∧s≤15→(∀x∈l,Nx x)→0≤Vc (fun _ s (h:Pa)=>cond (h.2.1.1==2||h.2.1.1==8) (Fe .i64 s h.2.1.2.2.1) s) k s l∧Vc (fun _ s (h:Pa)=>cond (h.2.1.1==2||h.2.1.1==8) (Fe .i64 s h.2.1.2.2.1) s) k s l≤15
 |[],_,s,hs,_=>hs
 |x::l,k,s,hs,hx=>by
  simp only[Vc]
  refine Fam l (k+1) _ ?_ fun y hy=>hx y (jr _ hy)
  cases hc:(x.2.1.1==2||x.2.1.1==8)with
  |false=>exact hs
  |true=>
   simp only[qz,beq_iff_eq]at hc
   exact UaD hs (Yaj (hx x (by simp)).act hc)
theorem Jaj{l:List Pa}(h:Of l=true):Xc (Qc l)=true:=by
 unfold Qc
 rw[UU]
 exact AaG (Fam l 0 0 (by omega) (Tu h))
theorem Gam:∀(D:List Rc) (k:Nat) (s:Int),0≤s∧s≤15→(∀x∈D,0≤x.2.1∧x.2.1≤15)→0≤Vc (fun _ s (p:Rc)=>Fe .i64 s p.2.1) k s D∧Vc (fun _ s (p:Rc)=>Fe .i64 s p.2.1) k s D≤15
 |[],_,s,hs,_=>hs
 |x::l,k,s,hs,hx=>by
  simp only[Vc]
  exact Gam l (k+1) _ (UaD hs (hx x (by simp))) fun y hy=>hx y (jr _ hy)
theorem LaK{b:Ca}(h:Xc b=true):0≤b.1∧b.1≤15:=by
 simp only[Xc,jd,decide_eq_true_eq]at h
 exact h.1
theorem Yan{b:Ca}(hb:Xc b=true){D:List Rc}(hD:∀x∈D,0≤x.2.1∧x.2.1≤15):Xc (HK b D)=true:=AaG (Gam D 0 b.1 (LaK hb) hD)
def U9(L:List Pa):Prop:=∀h∈L,0≤h.2.1.2.2.1∧h.2.1.2.2.1≤15
theorem Z8{L:List Pa}(h:U9 L):∀x∈L.map Xd,0≤x.2.1∧x.2.1≤15:=by
 intro x hx
 obtain⟨y,hy,rfl⟩:=ql.1 hx
 exact h y hy
theorem Nap{α:Type}{l:List α}{r:Nat}{x:α}(h:x∈Ai l r):x∈l:=by
 simp only[Ai,Hb,zh,jl]at h
 rcases h with h|h
 ·exact List.mem_of_mem_take (List.mem_of_mem_drop h)
 ·exact List.mem_of_mem_take (List.mem_of_mem_drop h)
theorem Tau{x:Ua}{L:List Pa}(h:U9 L)(hx:0≤x.2.2.1∧x.2.2.1≤15)(r:Int):U9 (JN x L r):=by
 unfold JN
 cases x.1==1 with
 |true=>
  intro y hy
  rcases jl.1 (show y∈L++[Di x]from hy)with hy|hy
  ·exact h y hy
  ·rw[qc.1 hy];exact hx
 |false=>
  cases x.1==2 with
  |true=>intro y hy;exact h y (Nap hy)
  |false=>exact h
theorem Jau{b:Ca}(hb:Xc b=true):∀(l:List Ua) (k:Nat) (s:List Ca×List Pa),(∀y∈s.1,Xc y=true)→U9 s.2→(∀x∈l,0≤x.2.2.1∧x.2.2.1≤15)→
 ∀y∈(Vc (fun _ s x=>mG b s x) k s l).1,Xc y=true
 |[],_,s,h,_,_=>h
 |x::l,k,s,h,hp,hl=>by
  simp only[Vc]
  have hx:=hl x (by simp)
  refine Jau hb l (k+1) (mG b s x) ?_ (Tau hp hx _) fun y hy=>hl y (jr _ hy)
  intro y hy
  rcases jl.1 (show y∈s.1++ZW b s.2 x from hy)with hy|hy
  ·exact h y hy
  ·unfold ZW at hy
   have h1:U9 (jf s.2 [Di x]):=by
    intro z hz
    rcases jl.1 (show z∈s.2++[Di x]from hz)with hz|hz
    ·exact hp z hz
    ·rw[qc.1 hz];exact hx
   cases h0:x.1==0 with
   |true=>
    rw[h0]at hy
    simp only[zj,jp,zi,or_false]at hy
    rcases hy with rfl|rfl
    ·exact Yan hb (Z8 h1)
    ·exact Yan hb (Z8 hp)
   |false=>
    rw[h0]at hy
    simp only[zk,qc]at hy
    subst hy
    exact Yan hb (Z8 (Tau hp hx _))
theorem X3:∀(l:List Ua) (k:Nat) (L L':List Pa),Cb (fun _ L x=>Zn L x) k L l=.inl L'→∀x∈l,Ub (2,x.2.1,x.2.2.1,0,())=true
 |[],_,_,_,_,x,hx=>by simp at hx
 |y::l,k,L,L',h,x,hx=>by
  simp only[Cb]at h
  cases hg:Zn L y with
  |inr _=>rw[hg]at h;simp at h
  |inl L1=>
   rw[hg]at h
   simp only at h
   rcases jp.1 hx with rfl|hx
   ·unfold Zn at hg
    cases hs:Bp x (Sd (Wi x.2.1 x.2.2.1) 0 L)with
    |false=>rw[hs]at hg;simp at hg
    |true=>
     simp only[Bp,jd]at hs
     exact hs.1
   ·exact X3 l (k+1) L1 L' h x hx
theorem GaA{l:List Ua}(h:Kc l=true):∀x∈l,0≤x.2.2.1∧x.2.2.1≤15:=by
 intro x hx
 simp only[Kc,jd]at h
 have h2:=h.2
 cases hm:W3 l with
 |inr _=>rw[hm]at h2;simp at h2
 |inl L=>exact Yaj (X3 l 0 [] L hm x hx) (.inl rfl)
theorem MaJ{b:Ca}(hb:Xc b=true){l:List Ua}(h:Kc l=true):∀y∈JV b l,Xc y=true:=
 Jau hb l 0 ([],[]) (by simp) (fun y hy=>by simp at hy) (GaA h)
theorem ZY{l:List Ua}(h:Kc l=true):l.length≤8:=by
 simp only[Kc,jd,decide_eq_true_eq]at h
 exact h.1
theorem Wbl{e:Gb}(h:Ms e){n:Nat}(hk:(n:Int)<e.1.1)(hn:∀y∈e.2.2.2.1,y.1≠(n:Int))(b:Bool):(pR e n b).length≤17∧∀y∈pR e n b,Xc y=true:=by
 have F:=V5 h hk hn b
 have hR:=Jaj F.hd
 unfold pR
 refine⟨?_,fun y hy=>?_⟩
 ·have h1:=SU (jf (pM e n b) [Qc (pH e n b)]) (Qc e.2.2.2.1)
  have h2:(jf (pM e n b) [Qc (pH e n b)]).length=(pM e n b).length+1:=by simp
  have:=F.ml
  omega
 ·have h1:=GP _ _ _ hy
  rcases jl.1 (show y∈pM e n b++[Qc (pH e n b)]from h1)with h2|h2
  ·unfold pM at h2
   revert h2
   cases(To e n b).2.2.2.1==9 with
   |false=>simp
   |true=>
    cases hd:decide ((To e n b).2.2.2.2.2.2.1<((ja e.2.1:Nat):Int))with
    |false=>simp
    |true=>
     simp only[zj]
     intro h2
     have hm:Kc (e.2.1.getD (To e n b).2.2.2.2.2.2.1.toNat [])=true:=by
      rw[qf]
      cases hg:e.2.1[(To e n b).2.2.2.2.2.2.1.toNat]? with
      |none=>rfl
      |some m=>exact h.mac m (List.mem_of_getElem? hg)
     exact MaJ hR hm y h2
  ·rw[qc.1 h2];exact hR
theorem Xbl{e:Gb}(h:Ms e)(i:Nat):(rR e i).length≤17∧∀y∈rR e i,Xc y=true:=by
 have hE:=OaP h i
 have hR:=Jaj hE.hd
 unfold rR
 refine⟨?_,fun y hy=>?_⟩
 ·have h1:=SU [Qc (wo e.2.2.2.1 i)] (Qc e.2.2.2.1)
  simp only[jw,j6]at h1
  omega
 ·have h1:=GP _ _ _ hy
  rw[qc.1 h1];exact hR
theorem WaZ{d d':Ab}{x:Ya}{r:List Ya}{l:List Ca}(h:OS d)(hq:d.2.2.1=x::r)(hs:Fk d x r=some (d',l)):l.length≤17∧∀y∈l,Xc y=true:=by
 have hF:=JP h hq
 have hk:=Xn hF.ev
 obtain⟨n,hn⟩:=jv hk.2.2.1
 have hn':x.2.1=(n:Int):=hn
 have press:∀b:Bool,x.2.2.1=true→(pR d.1 n b).length≤17∧∀y∈pR d.1 n b,Xc y=true:=by
  intro b hd
  have hn2:=hF.down hd
  rw[hn']at hn2
  exact Wbl h.eng (by have:=hF.key;omega) hn2 b
 unfold Fk at hs
 cases hd:x.2.2.1 with
 |false=>
  rw[hd]at hs
  simp only[j8,zj,jc,jh]at hs
  obtain⟨rfl,rfl⟩:=hs
  exact Xbl h.eng _
 |true=>
  rw[hd]at hs
  simp only[jg,zk,hn',jn]at hs
  cases htp:Qf (Ui d.1.1.2.1 (Mg d.1.1 (Nj d.1.2.2.1 d.1.2.2.2.1) n) n)with
  |false=>
   rw[htp]at hs
   simp only[zk,jc,jh]at hs
   obtain⟨rfl,rfl⟩:=hs
   exact press false hd
  |true=>
   rw[htp]at hs
   simp only[zj]at hs
   revert hs
   generalize(cond ((d.2.2.2.2.2.1==j4 .i64 ((n:Int)+1))&&!decide (j4 .i64 (x.1-d.2.2.2.2.2.2.1)≥d.2.1.2.1)) ((1:Int),x.1) ((Oh d.2.1 (n:Int) x.1 r d.2.2.2.1).1,(Oh d.2.1 (n:Int) x.1 r d.2.2.2.1).2.1))=ch
   intro hs
   cases h0':ch.1==0 with
   |true=>rw[h0']at hs;simp at hs
   |false=>
    rw[h0']at hs
    simp only[zk,jc,jh]at hs
    obtain⟨rfl,rfl⟩:=hs
    exact press _ hd
def LQ(s:List Lc):Prop:=∀y∈s,Ly y=true
theorem Oag{N keys:Nat}:∀(n:Nat) (d:Ab) (s:List Lc),K7 N keys d→LQ s→LQ (Ff n d s).2∧(Ff n d s).2.length≤s.length+17*n
 |0,d,s,h,hs=>⟨hs,by show s.length≤_;omega⟩
 |n+1,d,s,h,hs=>by
  cases hq:d.2.2.1 with
  |nil=>
   have e:Ff (n+1) d s=(d,s):=by simp only[Ff,hq]
   rw[e];exact⟨hs,by show s.length≤_;omega⟩
  |cons x r=>
   cases hst:Fk d x r with
   |none=>
    have e:Ff (n+1) d s=(d,s):=by simp only[Ff,hq,hst]
    rw[e];exact⟨hs,by show s.length≤_;omega⟩
   |some p=>
    obtain⟨d',l⟩:=p
    have e:Ff (n+1) d s=Ff n d' (Kq s d'.2.2.2.2.1 l):=by simp only[Ff,hq,hst]
    have hN:=Taf h hq hst
    have hR:=WaZ h.pl hq hst
    have b1:=hN.1.clk
    have b2:=hN.1.now
    have ih:=Oag n d' (Kq s d'.2.2.2.2.1 l) hN.1 (fun y hy=>by
     rcases jl.1 (show y∈s++_ from hy)with hy|hy
     ·exact hs y hy
     ·obtain⟨r',hr',rfl⟩:=ql.1 hy
      show(decide (0≤d'.2.2.2.2.1∧d'.2.2.2.2.1≤1000000)&&Xc r')=true
      rw[Ba (by omega),hR.2 r' hr'];rfl)
    have e2:=L4 s d'.2.2.2.2.1 l
    rw[e]
    exact⟨ih.1,by omega⟩
theorem JaD{keys:Nat}:∀(l:List Ya) (k:Nat) (t0:Int) (m0:Nat),m0<2^63→Ay (Cb (fun _ s x=>Ps (keys:Int) s x) k (t0,(m0:Int)) l)=true→
 ∃(t:Int) (m:Nat),m<2^63∧Cb (fun _ s x=>Ps (keys:Int) s x) k (t0,(m0:Int)) l=.inl (t,(m:Int))
 |[],k,t0,m0,hm,_=>⟨t0,m0,hm,rfl⟩
 |x::l,k,t0,m0,hm,h=>by
  simp only[Cb]at h⊢
  cases hg:Ps (keys:Int) (t0,(m0:Int)) x with
  |inr _=>rw[hg]at h;simp[Ay]at h
  |inl s'=>
   rw[hg]at h
   simp only at h⊢
   obtain⟨h1,_,h3⟩:=B3 hg
   have he:=(Had h1).1
   have hk:=Xn he
   obtain⟨n,hn⟩:=jv hk.2.2.1
   have hn':x.2.1=(n:Int):=hn
   have h2n:2^n<2^63:=Nat.pow_lt_pow_right (by omega) (by omega)
   have hb:Te .i64 1 x.2.1=((2^n:Nat):Int):=by
    rw[hn',show(1:Int)=((1:Nat):Int)from rfl,DaJ (by rw[Nat.one_mul];exact h2n) (by omega),Nat.shiftLeft_eq,Nat.one_mul]
   have hx:Kt .i64 (m0:Int) (Te .i64 1 x.2.1)=((m0^^^2^n:Nat):Int):=by rw[hb];exact K8 hm h2n
   subst h3
   simp only at h⊢
   rw[hx]at h⊢
   exact JaD l (k+1) x.1 _ (Nat.xor_lt_two_pow hm h2n) h
theorem U7{d:Ab}(h:Od d=true):K7 8 d.1.1.1.toNat d:=by
 have h0:=h
 simp only[Od,jd,decide_eq_true_eq]at h
 obtain⟨hE,ht,hn,hc,hF,hB,htp,hta⟩:=h
 have hE':=(PY _).1 hE
 have hk:=Be hE'.km
 have hk1:=hk.k1
 have hks:((d.1.1.1.toNat:Nat):Int)=d.1.1.1:=by omega
 obtain⟨m,h5,h6⟩:=Aae hE'.hd
 have hpl:OS d:=by
  have:=Ead (l:=[]) (til:=d.2.2.2.1) h0 (by rw[show jf d.2.2.1 []=d.2.2.1 from y3 _];exact hF)
  have e:Vn d [] d.2.2.2.1=d:=by unfold Vn;rw[show jf d.2.2.1 []=d.2.2.1 from y3 _]
  rw[e]at this
  exact this
 have hm63:m<2^63:=h6.lt
 have hL:Ay (Cb (fun _ s x=>Ps ((d.1.1.1.toNat:Nat):Int) s x) 0 (0,(m:Int)) d.2.2.1)=true:=by
  rw[WQ,hks]
  simp only[Gf,jd]at hF
  have h7:(GV d.1.1.1 d.2.2.1)=true:=hF.1
  have h8:=Tak (q:=d.2.2.1) (d:=LD d.1.2.2.2.1) (keys:=d.1.1.1) (by simp only[Gf,jd];exact hF)
  rw[h5]at h8
  unfold GV at h7
  rw[h7,h8]
  rfl
 obtain⟨t,m2,hm2,hfe⟩:=JaD _ _ _ _ hm63 hL
 have hEv:GY d.1.1.1.toNat 0 m d.2.2.1 t m2:=⟨hfe,hm63,hm2⟩
 refine⟨hpl,hks.symm,fun x hx=>ZY (hE'.mac x hx),ht,hn,hc,by rw[hks];exact htp,hta,0,t,m,m2,h6,hEv,Int.le_refl _,?_⟩
 cases hl:d.2.2.1 with
 |nil=>
  rw[hl]at hEv
  have:=(Eaq hEv).1
  omega
 |cons x r=>
  have hne:d.2.2.1≠[]:=by rw[hl];simp
  have h9:=(Fad hEv hne).1
  unfold Lh at hB
  have h10:(((d.2.2.1.length:Nat):Int)==0)=false:=by rw[hl];simp;omega
  rw[h10]at hB
  simp only[yw,decide_eq_true_eq]at hB
  omega
def Wb(b:Int):List UInt8→List UInt8→List (List UInt8)
 |cur,[]=>[cur]
 |cur,c::l=>cond (((UInt8.toNat c:Nat):Int)==b) (cur::Wb b [] l) (Wb b (cur++[c]) l)
theorem Gz(b:Int):∀(l cur:List UInt8),(Wb b cur l).length≤l.length+1
 |[],_=>by simp[Wb]
 |c::l,cur=>by
  have h1:=Gz b l []
  have h2:=Gz b l (cur++[c])
  simp only[Wb]
  cases((UInt8.toNat c:Nat):Int)==b
  ·simp only[zk,jw];omega
  ·simp only[zj,jw];omega
theorem Rv(b:Int):∀(l cur:List UInt8),∀x∈Wb b cur l,x.length≤cur.length+l.length
 |[],cur=>by simp[Wb]
 |c::l,cur=>by
  have h1:=Rv b l []
  have h2:=Rv b l (cur++[c])
  simp only[Wb]
  cases((UInt8.toNat c:Nat):Int)==b
  ·simp only[zk]
   intro x hx
   have:=h2 x hx
   simp at this⊢;omega
  ·simp only[zj]
   intro x hx
   rcases jp.1 hx with rfl|hx
   ·omega
   ·have:=h1 x hx
    simp at this⊢;omega
theorem Paf{l:List UInt8}{i j:Nat}(h:i≤j)(hj:j<l.length):Hb l i (j+1)=Hb l i j++[l[j]]:=by
 unfold Hb
 rw[List.take_add_one,List.drop_append,je hj]
 simp only[Option.toList_some,List.length_take]
 rw[show i-min j l.length=0 by omega];rfl
theorem DW{l:List UInt8}{i:Nat}:Hb l i i=[]:=by simp[Hb]
theorem IT(s:List UInt8)(b:Int)(hs:s.length≤100000000):∀(n i fr:Nat) (o:List (List UInt8)),i+n=s.length→fr≤i→o.length≤i→
 Ti ((s,b,o,(fr:Int),(i:Int),()),())=some (.inl ((o++Wb b (Hb s fr i) (s.drop i),()),()))
 |0,i,fr,o,hn,hf,ho=>by
  have:i=s.length:=by omega
  subst this
  unfold Ti
  refine(Vb (z:=some (Sum.inl ((s,b,o++[Hb s fr s.length],((s.length+1:Nat):Int),((s.length+1:Nat):Int),()),()))) ?_).trans ?_
  ·simp only[Co]
   rw[Ba (by omega),show(((s.length:Nat):Int)==((ja s:Nat):Int))=true by simp,Xh (by omega) (by omega),Ob (by simp;omega),Gc (by omega)]
   rfl
  ·refine(Vb (z:=some (Sum.inr (.inl ((o++[Hb s fr s.length],()),())))) ?_).trans ?_
   ·simp only[Co]
    rw[Aa (by omega)];rfl
   ·simp[Wb]
 |n+1,i,fr,o,hn,hf,ho=>by
  have hi:i<s.length:=by omega
  have hd:s.drop i=s[i]::s.drop (i+1):=List.drop_eq_getElem_cons hi
  unfold Ti
  rw[hd,Wb]
  by_cases hc:(((UInt8.toNat s[i]:Nat):Int)==b)=true
  ·refine(Vb (z:=some (Sum.inl ((s,b,o++[Hb s fr i],((i+1:Nat):Int),((i+1:Nat):Int),()),()))) ?_).trans ?_
   ·simp only[Co]
    rw[Ba (by omega),show((i:Int)==((ja s:Nat):Int))=false by simp;omega,Nb hi]
    simp only[zj,zk,jb]
    rw[hc,Xh (by omega) (by omega),Ob (by simp;omega),Gc (by omega)]
    rfl
   ·rw[hc,zj]
    have:=IT s b hs n (i+1) (i+1) (o++[Hb s fr i]) (by omega) (by omega) (by simp;omega)
    rw[DW]at this
    refine this.trans ?_
    simp
  ·have hc':(((UInt8.toNat s[i]:Nat):Int)==b)=false:=by simpa using hc
   refine(Vb (z:=some (Sum.inl ((s,b,o,(fr:Int),((i+1:Nat):Int),()),()))) ?_).trans ?_
   ·simp only[Co]
    rw[Ba (by omega),show((i:Int)==((ja s:Nat):Int))=false by simp;omega,Nb hi]
    simp only[zj,zk,jb]
    rw[hc',Gc (by omega)]
    rfl
   ·rw[hc',zk]
    have:=IT s b hs n (i+1) fr o (by omega) (by omega) (by omega)
    rw[Paf hf hi]at this
    exact this
theorem Wt{s:List UInt8}(b:Int)(hs:s.length≤100000000):Rh s b=some (Wb b [] s,()):=by
 have:=IT s b hs s.length 0 0 [] (by omega) (by omega) (by simp)
 unfold Rh
 rw[show(0:Int)=((0:Nat):Int)from rfl,this]
 simp[DW]
theorem YS(s:List UInt8)(b:Int)(hs:s.length≤100000000):∀(n i fr:Nat) (o:List (List UInt8)),i+n=s.length→fr≤i→o.length≤i→
 ∃(o':List (List UInt8)) (fr':Nat),fr'≤s.length∧o'.length≤s.length∧o'++[Hb s fr' s.length]=o++Wb b (Hb s fr i) (s.drop i)∧
 Xk ((s,b,o,(fr:Int),(i:Int),()),())=some (.inl ((s,o',(fr':Int),()),()))
 |0,i,fr,o,hn,hf,ho=>by
  have:i=s.length:=by omega
  subst this
  refine⟨o,fr,hf,ho,by simp[Wb],?_⟩
  unfold Xk
  refine(Vb (z:=some (Sum.inr (.inl ((s,o,(fr:Int),()),())))) ?_).trans rfl
  simp only[Ku]
  rw[Aa (by omega)];rfl
 |n+1,i,fr,o,hn,hf,ho=>by
  have hi:i<s.length:=by omega
  have hd:s.drop i=s[i]::s.drop (i+1):=List.drop_eq_getElem_cons hi
  unfold Xk
  rw[hd,Wb]
  by_cases hc:(((UInt8.toNat s[i]:Nat):Int)==b)=true
  ·obtain⟨o',fr',h1,h2,h3,h4⟩:=YS s b hs n (i+1) (i+1) (o++[Hb s fr i]) (by omega) (by omega) (by simp;omega)
   refine⟨o',fr',h1,h2,?_,?_⟩
   ·rw[h3,hc,zj,DW];simp
   ·refine(Vb (z:=some (Sum.inl ((s,b,o++[Hb s fr i],((i+1:Nat):Int),((i+1:Nat):Int),()),()))) ?_).trans h4
    simp only[Ku]
    rw[Ba (by omega),Nb hi]
    simp only[zj,zk,jb]
    rw[hc,Xh (by omega) (by omega),Ob (by simp;omega),Gc (by omega)]
    rfl
  ·have hc':(((UInt8.toNat s[i]:Nat):Int)==b)=false:=by simpa using hc
   obtain⟨o',fr',h1,h2,h3,h4⟩:=YS s b hs n (i+1) fr o (by omega) (by omega) (by omega)
   refine⟨o',fr',h1,h2,?_,?_⟩
   ·rw[h3,hc',zk,Paf hf hi]
   ·refine(Vb (z:=some (Sum.inl ((s,b,o,(fr:Int),((i+1:Nat):Int),()),()))) ?_).trans h4
    simp only[Ku]
    rw[Ba (by omega),Nb hi]
    simp only[zj,zk,jb]
    rw[hc',Gc (by omega)]
    rfl
theorem XS{s:List UInt8}(b:Int)(hs:s.length≤100000000):Br s b=some (Wb b [] s,()):=by
 obtain⟨o,fr,h1,h2,h3,h4⟩:=YS s b hs s.length 0 0 [] (by omega) (by omega) (by simp)
 unfold Br
 rw[show(0:Int)=((0:Nat):Int)from rfl,h4]
 simp only[jb,qg]
 rw[Xh h1 (by omega),Ob (by simp;omega)]
 simp only[zj,jn]
 rw[show jf o [Hb s fr s.length]=o++[Hb s fr s.length]from rfl,h3]
 simp[DW]
def Qz(f:Int→List UInt8)(s:List UInt8):Nat→Nat→Option Nat
 |0,_=>none
 |n+1,c=>cond (f (c:Int)==s) (some c) (Qz f s n (c+1))
def JaP:Option Nat→Int
 |some k=>(k:Int)
 |none=>0
def BK(s:List UInt8):Int:=JaP (Qz Lg s 56 1)
def GR(s:List UInt8):Int:=JaP (Qz Zg s 15 1)
theorem U4(s:List UInt8):∀(n c:Nat),c+n=57→Ao ((s,(c:Int),()),())=some (match Qz Lg s n c with|some k=>.inr (((k:Int),()),())|none=>.inl ((),()))
 |0,c,h=>by
  unfold Ao
  refine(Vb (z:=some (Sum.inr (.inl ((),())))) ?_).trans rfl
  simp only[PD]
  rw[Aa (by omega)];rfl
 |n+1,c,h=>by
  have ih:=U4 s n (c+1) (by omega)
  unfold Ao at ih⊢
  rw[Qz]
  cases hc:Lg (c:Int)==s with
  |true=>
   refine(Vb (z:=some (Sum.inr (.inr (((c:Int),()),())))) ?_).trans rfl
   simp only[PD]
   rw[Ba (by omega),Bn]
   simp only[zj,jb]
   rw[hc];rfl
  |false=>
   refine(Vb (z:=some (Sum.inl ((s,((c+1:Nat):Int),()),()))) ?_).trans ih
   simp only[PD]
   rw[Ba (by omega),Bn]
   simp only[zj,jb]
   rw[hc,Gc (by omega)];rfl
theorem CQ(s:List UInt8):Mw s=some (BK s,()):=by
 have:=U4 s 56 1 rfl
 unfold Mw BK
 rw[show(1:Int)=((1:Nat):Int)from rfl,this]
 cases Qz Lg s 56 1<;>rfl
theorem P3(s:List UInt8):∀(n c:Nat),c+n=57→1≤c→Yn ((s,OC,((ja OC:Nat):Int),((c-1:Nat):Int),()),())=some (match Qz Lg s n c with|some k=>.inr (((k:Int),()),())|none=>.inl ((),()))
 |0,c,h,h1=>by
  unfold Yn
  refine(Vb (z:=some (Sum.inr (.inl ((),())))) ?_).trans rfl
  simp only[SC]
  rw[CW,Aa (by omega)];rfl
 |n+1,c,h,h1=>by
  have ih:=P3 s n (c+1) (by omega) (by omega)
  obtain⟨a1,a2⟩:=Cae (c:=(c:Int)) (by omega)
  rw[show(c:Int)-1=((c-1:Nat):Int) by omega]at a1 a2
  unfold Yn at ih⊢
  rw[Qz]
  cases hc:Lg (c:Int)==s with
  |true=>
   refine(Vb (z:=some (Sum.inr (.inr (((c:Int),()),())))) ?_).trans rfl
   simp only[SC]
   rw[Ba (by rw[CW];omega),a2,a1]
   simp only[zj,jb]
   rw[hc,Gc (by omega),show c-1+1=c by omega];rfl
  |false=>
   refine(Vb (z:=some (Sum.inl ((s,OC,((ja OC:Nat):Int),((c+1-1:Nat):Int),()),()))) ?_).trans ih
   simp only[SC]
   rw[Ba (by rw[CW];omega),a2,a1]
   simp only[zj,jb]
   rw[hc,Gc (by omega),show c-1+1=c+1-1 by omega];rfl
theorem FG(s:List UInt8):Zv s=some (BK s,()):=by
 have:=P3 s 56 1 rfl (by omega)
 unfold Zv BK
 rw[Hab]
 simp only[jb]
 rw[show(0:Int)=((1-1:Nat):Int)from rfl,this]
 cases Qz Lg s 56 1<;>rfl
theorem V1(s:List UInt8):∀(n c:Nat),c+n=16→Bl ((s,(c:Int),()),())=some (match Qz Zg s n c with|some k=>.inr (((k:Int),()),())|none=>.inl ((),()))
 |0,c,h=>by
  unfold Bl
  refine(Vb (z:=some (Sum.inr (.inl ((),())))) ?_).trans rfl
  simp only[Gv]
  rw[Aa (by omega)];rfl
 |n+1,c,h=>by
  have ih:=V1 s n (c+1) (by omega)
  unfold Bl at ih⊢
  rw[Qz]
  cases hc:Zg (c:Int)==s with
  |true=>
   refine(Vb (z:=some (Sum.inr (.inr (((c:Int),()),())))) ?_).trans rfl
   simp only[Gv]
   rw[Ba (by omega),Ev]
   simp only[zj,jb]
   rw[hc];rfl
  |false=>
   refine(Vb (z:=some (Sum.inl ((s,((c+1:Nat):Int),()),()))) ?_).trans ih
   simp only[Gv]
   rw[Ba (by omega),Ev]
   simp only[zj,jb]
   rw[hc,Gc (by omega)];rfl
theorem BI(s:List UInt8):Hr s=some (GR s,()):=by
 have:=V1 s 15 1 rfl
 unfold Hr GR
 rw[show(1:Int)=((1:Nat):Int)from rfl,this]
 cases Qz Zg s 15 1<;>rfl
theorem T1(s:List UInt8):∀(n c:Nat),c+n=16→Wk ((s,(c:Int),()),())=some (match Qz Zg s n c with|some k=>.inr (((k:Int),()),())|none=>.inl ((),()))
 |0,c,h=>by
  unfold Wk
  refine(Vb (z:=some (Sum.inr (.inl ((),())))) ?_).trans rfl
  simp only[Gu]
  rw[Aa (by omega)];rfl
 |n+1,c,h=>by
  have ih:=T1 s n (c+1) (by omega)
  unfold Wk at ih⊢
  rw[Qz]
  cases hc:Zg (c:Int)==s with
  |true=>
   refine(Vb (z:=some (Sum.inr (.inr (((c:Int),()),())))) ?_).trans rfl
   simp only[Gu]
   rw[Ba (by omega),Du]
   simp only[zj,jb]
   rw[hc];rfl
  |false=>
   refine(Vb (z:=some (Sum.inl ((s,((c+1:Nat):Int),()),()))) ?_).trans ih
   simp only[Gu]
   rw[Ba (by omega),Du]
   simp only[zj,jb]
   rw[hc,Gc (by omega)];rfl
theorem UH(s:List UInt8):Ar s=some (GR s,()):=by
 have:=T1 s 15 1 rfl
 unfold Ar GR
 rw[show(1:Int)=((1:Nat):Int)from rfl,this]
 cases Qz Zg s 15 1<;>rfl
theorem p10{i:Nat}(h:i≤9):(10:Int)^i≤1000000000:=by
 have:i=0∨i=1∨i=2∨i=3∨i=4∨i=5∨i=6∨i=7∨i=8∨i=9:=by omega
 rcases this with rfl|rfl|rfl|rfl|rfl|rfl|rfl|rfl|rfl|rfl<;>decide
theorem Vbl{i:Nat}(h:i≤8):(10:Int)^i≤100000000:=by
 have:i=0∨i=1∨i=2∨i=3∨i=4∨i=5∨i=6∨i=7∨i=8:=by omega
 rcases this with rfl|rfl|rfl|rfl|rfl|rfl|rfl|rfl|rfl<;>decide
def Pz:List UInt8→Int→Option Int
 |[],v=>some v
 |c::l,v=>cond (decide (((UInt8.toNat c:Nat):Int)<48)||decide (((UInt8.toNat c:Nat):Int)>57)) none (Pz l (10*v+((UInt8.toNat c:Nat):Int)-48))
theorem Dad:∀(l:List UInt8) (v w:Int) (k:Nat),0≤v→v<(10:Int)^k→Pz l v=some w→0≤w∧w<(10:Int)^(k+l.length)
 |[],v,w,k,h0,h1,h=>by simp only[Pz,jc]at h;subst h;exact⟨h0,h1⟩
 |c::l,v,w,k,h0,h1,h=>by
  simp only[Pz]at h
  revert h
  by_cases hc:((UInt8.toNat c:Nat):Int)<48∨((UInt8.toNat c:Nat):Int)>57
  ·have:(decide (((UInt8.toNat c:Nat):Int)<48)||decide (((UInt8.toNat c:Nat):Int)>57))=true:=by simpa using hc
   rw[this];intro h;simp at h
  ·have:(decide (((UInt8.toNat c:Nat):Int)<48)||decide (((UInt8.toNat c:Nat):Int)>57))=false:=by simpa using hc
   rw[this]
   intro h
   have hp:(10:Int)^(k+1)=10^k*10:=Int.pow_succ 10 k
   have:=Dad l (10*v+((UInt8.toNat c:Nat):Int)-48) w (k+1) (by omega) (by rw[hp];omega) h
   rw[jw,show k+(l.length+1)=k+1+l.length by omega]
   exact this
theorem D7(s t:List UInt8)(ht:t.length≤9):∀(n i:Nat) (v:Int),i+n=t.length→0≤v→v<(10:Int)^i→
 Ah ((s,t,v,(i:Int),()),())=some (match Pz (t.drop i) v with|some w=>.inl ((s,t,w,()),())|none=>.inr (((0:Int),false,()),()))
 |0,i,v,hn,h0,h1=>by
  have:i=t.length:=by omega
  subst this
  unfold Ah
  refine(Vb (z:=some (Sum.inr (.inl ((s,t,v,()),())))) ?_).trans ?_
  ·simp only[Up]
   rw[Aa (by omega)];rfl
  ·simp[Pz]
 |n+1,i,v,hn,h0,h1=>by
  have hi:i<t.length:=by omega
  have hd:t.drop i=t[i]::t.drop (i+1):=List.drop_eq_getElem_cons hi
  have hp:(10:Int)^i≤100000000:=Vbl (by omega)
  have hp1:(10:Int)^(i+1)=10^i*10:=Int.pow_succ 10 i
  have hc:=UInt8.toNat_lt t[i]
  unfold Ah
  rw[hd,Pz]
  by_cases c1:((UInt8.toNat t[i]:Nat):Int)<48
  ·refine(Vb (z:=some (Sum.inr (.inr (((0:Int),false,()),())))) ?_).trans ?_
   ·simp only[Up]
    rw[Ba (by omega),Nb hi]
    simp only[zj,jb]
    rw[Ba c1];rfl
   ·rw[Ba c1];rfl
  ·by_cases c2:((UInt8.toNat t[i]:Nat):Int)>57
   ·refine(Vb (z:=some (Sum.inr (.inr (((0:Int),false,()),())))) ?_).trans ?_
    ·simp only[Up]
     rw[Ba (by omega),Nb hi]
     simp only[zj,jb]
     rw[Aa c1,Ba c2];rfl
    ·rw[Ba c2,Aa c1];rfl
   ·refine(Vb (z:=some (Sum.inl ((s,t,10*v+((UInt8.toNat t[i]:Nat):Int)-48,((i+1:Nat):Int),()),()))) ?_).trans ?_
    ·simp only[Up]
     rw[Ba (by omega),Nb hi]
     simp only[zj,jb]
     rw[Aa c1,Aa c2,Gc (by omega),Mf (n:=10*v) (by omega) (by omega),Mf (n:=((UInt8.toNat t[i]:Nat):Int)) (by omega) (by omega),
      Mf (n:=10*v+((UInt8.toNat t[i]:Nat):Int)) (by omega) (by omega),Mf (by omega) (by omega)]
     rfl
    ·rw[Aa c1,Aa c2]
     exact D7 s t ht n (i+1) _ (by omega) (by omega) (by omega)
def HF(t s:List UInt8):Int×(Bool×Unit):=
 cond (decide (((ja t:Nat):Int)<1)) ((0:Int),false,()) (cond (decide (((ja t:Nat):Int)>9)) ((0:Int),false,())
  (match Pz t 0 with
  |none=>((0:Int),false,())
  |some v=>cond (Lib.itoa (cond (decide (((ja t:Nat):Int)<((ja s:Nat):Int))) (-v) v) !=s) ((0:Int),false,()) (cond (decide (((ja t:Nat):Int)<((ja s:Nat):Int))) (-v) v,true,())))
def Rp:List UInt8→Int×(Bool×Unit)
 |[]=>((0:Int),false,())
 |c::l=>cond (((UInt8.toNat c:Nat):Int)==45) (HF l (c::l)) (HF (c::l) (c::l))
theorem zbd:-999999999≤(0:Int)∧(0:Int)≤999999999:=by decide
theorem XaU(t s:List UInt8):-999999999≤(HF t s).1∧(HF t s).1≤999999999:=by
 unfold HF
 by_cases h1:((ja t:Nat):Int)<1
 ·rw[Ba h1];exact zbd
 ·by_cases h2:((ja t:Nat):Int)>9
  ·rw[Aa h1,Ba h2];exact zbd
  ·rw[Aa h1,Aa h2]
   simp only[zk]
   cases hg:Pz t 0 with
   |none=>exact zbd
   |some v=>
    simp only
    have hb:=Dad t 0 v 0 (by omega) (by decide) hg
    have hp:=p10 (show 0+t.length≤9 by omega)
    cases Lib.itoa (cond (decide (((ja t:Nat):Int)<((ja s:Nat):Int))) (-v) v) !=s with
    |true=>exact zbd
    |false=>
     simp only[zk]
     cases decide (((ja t:Nat):Int)<((ja s:Nat):Int))
     ·simp only[zk];omega
     ·simp only[zj];omega
theorem Hac(s t:List UInt8)(h2:¬((ja t:Nat):Int)>9)(h1:¬((ja t:Nat):Int)<1):
 (jz (Ah ((s,t,(0:Int),(0:Int),()),())) (Sum.elim (fun y11=>(cond (decide (((ja y11.1.2.1:Nat):Int)<((ja y11.1.1:Nat):Int)))
 (jz (Yd (Go.IntKind.wrap .i64 ((0:Int)-y11.1.2.2.1))) fun r13=>
 (cond (r13.1 !=y11.1.1)
 (some ((0:Int),false,()))
 (some ((Go.IntKind.wrap .i64 ((0:Int)-y11.1.2.2.1)),true,()))))
 (jz (Yd y11.1.2.2.1) fun r14=>
 (cond (r14.1 !=y11.1.1)
 (some ((0:Int),false,()))
 (
  some (y11.1.2.2.1,true,())))))) (fun z12=>(some (z12.1.1,z12.1.2.1,())))))=some (HF t s):=by
  have:=D7 s t (by omega) t.length 0 0 (by omega) (by omega) (by decide)
  rw[show((0:Nat):Int)=0 from rfl]at this
  rw[this,List.drop_zero]
  unfold HF
  rw[Aa h1,Aa h2]
  cases hg:Pz t 0 with
  |none=>rfl
  |some v=>
   have hb:=Dad t 0 v 0 (by omega) (by decide) hg
   have hp:=p10 (show 0+t.length≤9 by omega)
   simp only[jb,qg,zk]
   cases decide (((ja t:Nat):Int)<((ja s:Nat):Int))with
   |true=>
    simp only[zj]
    rw[Mf (n:=0-v) (by omega) (by omega),Qj (by omega),show(0:Int)-v=-v by omega]
    simp only[jb]
    cases Lib.itoa (-v) !=s<;>rfl
   |false=>
    simp only[zk]
    rw[Qj (by omega)]
    simp only[jb]
    cases Lib.itoa v !=s<;>rfl
theorem XK{s:List UInt8}(hs:s.length≤100000000):Vt s=some (Rp s):=by
 unfold Vt
 cases s with
 |nil=>rfl
 |cons c l=>
  rw[Ba (by rw[jw];omega)]
  rw[show Ib (c::l) 0=some c from rfl]
  simp only[zj,jb,Rp]
  have hcut:Hb (c::l) (jy 1) (jy ((ja (c::l):Nat):Int))=l:=by
   rw[show jy 1=1 from rfl,jn]
   unfold Hb
   rw[List.take_length];rfl
  have hok:Nd (ja (c::l)) 1 ((ja (c::l):Nat):Int)=true:=Xh (lo:=1) (by rw[jw];omega) (jo _)
  cases((UInt8.toNat c:Nat):Int)==45 with
  |true=>
   simp only[zj]
   rw[hok,hcut]
   simp only[zj]
   by_cases h1:((ja l:Nat):Int)<1
   ·unfold HF;rw[Ba h1];rfl
   ·by_cases h2:((ja l:Nat):Int)>9
    ·unfold HF;rw[Ba h2,Aa h1];rfl
    ·rw[Aa h1,Aa h2]
     simp only[zk]
     exact Hac (c::l) l h2 h1
  |false=>
   simp only[zk]
   by_cases h1:((ja (c::l):Nat):Int)<1
   ·unfold HF;rw[Ba h1];rfl
   ·by_cases h2:((ja (c::l):Nat):Int)>9
    ·unfold HF;rw[Ba h2,Aa h1];rfl
    ·rw[Aa h1,Aa h2]
     simp only[zk]
     exact Hac (c::l) (c::l) h2 h1
def KH(a:Ma):List UInt8:=
 cond (a.1==0) Jk (cond (a.1==1) Ik (cond (a.1==3) ([109,111,58]++Lib.itoa a.2.2.2.1) (cond (a.1==4) ([116,103,58]++Lib.itoa a.2.2.2.1) (cond (a.1==5) ([116,111,58]++Lib.itoa a.2.2.2.1)
  (cond (a.1==6) (Zg a.2.2.1++[47]++Lg a.2.1) (cond (a.1==7) (Lib.itoa a.2.2.2.1++[47]++Lg a.2.1) (cond (a.1==8) (Pg++Zg a.2.2.1) (cond (a.1==9) (Gj++Lib.itoa a.2.2.2.1)
  (cond (a.1==10) Fj (cond (a.2.2.1==0) (Lg a.2.1) (Zg a.2.2.1++[45]++Lg a.2.1)))))))))))
noncomputable def Rf(a:Ma):List UInt8:=cond (Ub a) (KH a) []
theorem LY{a:Ma}(h:Ub a=true):0≤a.2.2.2.1∧a.2.2.2.1≤3:=by
 rw[Yb]at h
 unfold Dd at h
 omega
theorem UaP{a:Ma}(h:Ub a=true):0≤a.1∧a.1≤10:=by
 rw[Yb]at h
 unfold Dd at h
 omega
theorem Mal{n:Int}(h:0≤n∧n≤3):(Lib.itoa n).length≤21:=NK (by omega)
theorem Cad{b:Bool}{x y:List UInt8}{n:Nat}(hx:x.length≤n)(hy:y.length≤n):(cond b x y).length≤n:=by cases b<;>assumption
theorem Xaj(a:Ma):(Rf a).length≤50:=by
 unfold Rf
 cases h:Ub a with
 |false=>simp
 |true=>
  have h1:=Mal (LY h)
  have h2:=XP a.2.2.1
  have h3:=FW a.2.1
  simp only[zj,KH]
  generalize Lg a.2.1=N at h3⊢
  generalize Zg a.2.2.1=M at h2⊢
  generalize Lib.itoa a.2.2.2.1=I at h1⊢
  repeat' apply Cad
  all_goals try simp only[Jk,Ik,Pg,Gj,Fj,qd,jw,j6]
  all_goals omega
theorem csp{b:Bool}{x y:List UInt8}{z:Option (List UInt8×Unit)}(h:z=some (y,())):cond b (some (x,())) z=some (cond b x y,()):=by cases b<;>simp[h]
theorem ON(a:Ma):Kf a=some (Rf a,()):=by
 unfold Kf Rf
 rw[Ds]
 cases h:Ub a with
 |false=>rfl
 |true=>
  have h1:=Mal (LY h)
  have h2:=XP a.2.2.1
  have h3:=FW a.2.1
  have h4:=LY h
  simp only[jb,jg,zk,zj,KH]
  rw[Qj (by omega),Ev,Bn]
  simp only[jb]
  rw[Ob (n:=ja ([109,111,58]:List UInt8)+ja (Lib.itoa a.2.2.2.1)) (by simp;omega),Ob (n:=ja ([116,103,58]:List UInt8)+ja (Lib.itoa a.2.2.2.1)) (by simp;omega),
   Ob (n:=ja ([116,111,58]:List UInt8)+ja (Lib.itoa a.2.2.2.1)) (by simp;omega),Ob (n:=ja (Zg a.2.2.1)+ja ([47]:List UInt8)) (by simp;omega),
   Ob (n:=ja (jf (Zg a.2.2.1) [47])+ja (Lg a.2.1)) (by simp;omega),Ob (n:=ja (Lib.itoa a.2.2.2.1)+ja ([47]:List UInt8)) (by simp;omega),
   Ob (n:=ja (jf (Lib.itoa a.2.2.2.1) [47])+ja (Lg a.2.1)) (by simp;omega),Ob (n:=ja Pg+ja (Zg a.2.2.1)) (by simp[Pg];omega),
   Ob (n:=ja Gj+ja (Lib.itoa a.2.2.2.1)) (by simp[Gj];omega),Ob (n:=ja (Zg a.2.2.1)+ja ([45]:List UInt8)) (by simp;omega),
   Ob (n:=ja (jf (Zg a.2.2.1) [45])+ja (Lg a.2.1)) (by simp;omega)]
  simp only[zj]
  iterate 11 refine csp ?_
  rfl
theorem Vz(a:Ma):Wl a=some (Rf a,()):=by
 unfold Wl Rf
 rw[Rm]
 cases h:Ub a with
 |false=>rfl
 |true=>
  have h1:=Mal (LY h)
  have h2:=XP a.2.2.1
  have h3:=FW a.2.1
  have h4:=LY h
  have h5:=UaP h
  obtain⟨k,c,m,n,u⟩:=a
  simp only at h1 h2 h3 h4 h5
  simp only[jb,jg,zk,zj,KH]
  rw[Mp (by omega),Du,Tz]
  simp only[jb]
  rw[Ob (n:=ja (Zg m)+ja ([47]:List UInt8)) (by simp;omega),
   Ob (n:=ja (jf (Zg m) [47])+ja (Lg c)) (by simp;omega),Ob (n:=ja (Lib.itoa n)+ja ([47]:List UInt8)) (by simp;omega),
   Ob (n:=ja (jf (Lib.itoa n) [47])+ja (Lg c)) (by simp;omega),Ob (n:=ja Pg+ja (Zg m)) (by simp[Pg];omega),
   Ob (n:=ja (Zg m)+ja ([45]:List UInt8)) (by simp;omega),
   Ob (n:=ja (jf (Zg m) [45])+ja (Lg c)) (by simp;omega)]
  simp only[zj]
  have:k=0∨k=1∨k=2∨k=3∨k=4∨k=5∨k=6∨k=7∨k=8∨k=9∨k=10:=by omega
  have lw:∀w:List UInt8,w.length≤10→jx (ja w+ja (Lib.itoa n)) Wa=true:=fun w hw=>Ob (by omega)
  rcases this with rfl|rfl|rfl|rfl|rfl|rfl|rfl|rfl|rfl|rfl|rfl
  ·rfl
  ·rfl
  ·show(cond (m !=0) _ _)=some (cond (m==0) _ _,())
   unfold bne
   cases m==0<;>rfl
  ·simp only[Int.reduceBEq,zk,zj]
   rw[show Nn 3=some ([109,111,58],())from rfl]
   simp only[jb]
   rw[lw _ (by simp)];rfl
  ·simp only[Int.reduceBEq,zk,zj]
   rw[show Nn 4=some ([116,103,58],())from rfl]
   simp only[jb]
   rw[lw _ (by simp)];rfl
  ·simp only[Int.reduceBEq,zk,zj]
   rw[show Nn 5=some ([116,111,58],())from rfl]
   simp only[jb]
   rw[lw _ (by simp)];rfl
  ·rfl
  ·rfl
  ·rfl
  ·simp only[Int.reduceBEq,zk,zj]
   rw[show Nn 9=some (Gj,())from rfl]
   simp only[jb]
   rw[lw _ (by simp[Gj])];rfl
  ·rfl

def KX:Ma:=((0:Int),(0:Int),(0:Int),(0:Int),())
def DaA(k:Int)(l r:List UInt8):Ma:=
 cond (l==[109,111]) ((3:Int),(0:Int),(0:Int),(Rp r).1,()) (cond (l==[116,103]) ((4:Int),(0:Int),(0:Int),(Rp r).1,()) (cond (l==[116,111]) ((5:Int),(0:Int),(0:Int),(Rp r).1,())
  (cond (l==Kp) ((9:Int),(0:Int),(0:Int),(Rp r).1,()) (k,(0:Int),GR r,(0:Int),()))))
theorem Vae(k:Int)(l:List UInt8){r:List UInt8}(hr:r.length≤100000000):JR k l r=some (DaA k l r,()):=by
 unfold JR DaA
 rw[XK hr,BI]
 simp only[jb]
 cases l==[109,111]with
 |true=>rfl
 |false=>
  cases l==[116,103]with
  |true=>rfl
  |false=>
   cases l==[116,111]with
   |true=>rfl
   |false=>cases l==Kp<;>rfl
noncomputable def Sak(s:List UInt8)(g:Ma):Ma×(Bool×Unit):=cond (s==([]:List UInt8)||Rf g !=s) (KX,false,()) (g,true,())
theorem TR(s:List UInt8)(g:Ma):(cond (s==([]:List UInt8)) (some (((0:Int),(0:Int),(0:Int),(0:Int),()),false,())) (jz (Kf g) fun r=>
 (cond (r.1 !=s) (some (((0:Int),(0:Int),(0:Int),(0:Int),()),false,())) (some (g,true,())))):Option (Ma×(Bool×Unit)))=some (Sak s g):=by
 unfold Sak
 cases s==([]:List UInt8)with
 |true=>rfl
 |false=>
  rw[ON]
  simp only[zk,jb,yw]
  cases Rf g !=s<;>rfl
def SL(l:List (List UInt8)):Bool:=((ja l:Nat):Int)==2
def UR(s:List UInt8):Ma:=
 cond (s==Jk) KX (cond (s==Ik) ((1:Int),(0:Int),(0:Int),(0:Int),()) (cond (s==Fj) ((10:Int),(0:Int),(0:Int),(0:Int),())
  (cond (SL (Wb 58 [] s)) (DaA 8 ((Wb 58 [] s).getD 0 []) ((Wb 58 [] s).getD 1 []))
  (cond (SL (Wb 47 [] s)) (cond (Rp ((Wb 47 [] s).getD 0 [])).2.1 ((7:Int),BK ((Wb 47 [] s).getD 1 []),(0:Int),(Rp ((Wb 47 [] s).getD 0 [])).1,())
   ((6:Int),BK ((Wb 47 [] s).getD 1 []),GR ((Wb 47 [] s).getD 0 []),(0:Int),()))
  (cond (SL (Wb 45 [] s)) ((2:Int),BK ((Wb 45 [] s).getD 1 []),GR ((Wb 45 [] s).getD 0 []),(0:Int),()) ((2:Int),BK s,(0:Int),(0:Int),()))))))
noncomputable def Jq(s:List UInt8):Ma×(Bool×Unit):=Sak s (UR s)
theorem Eaf{l:List (List UInt8)}(h:SL l=true):Rb l.length 0=true∧Rb l.length 1=true∧l[jy 0]?=some (l.getD 0 [])∧l[jy 1]?=some (l.getD 1 []):=by
 unfold SL at h
 have h2:l.length=2:=by simp at h;omega
 match l,h2 with
 |[x,y],_=>exact⟨rfl,rfl,rfl,rfl⟩
theorem TO{s:List UInt8}(hs:s.length≤100000000):Js s=some (Jq s):=by
 unfold Js Jq UR
 rw[CQ,Wt 58 hs,Wt 47 hs,Wt 45 hs]
 simp only[jb]
 cases s==Jk with
 |true=>exact TR s _
 |false=>
 cases s==Ik with
 |true=>exact TR s _
 |false=>
 cases s==Fj with
 |true=>exact TR s _
 |false=>
 simp only[zk]
 rw[show(((ja (Wb 58 [] s):Nat):Int)==2)=SL (Wb 58 [] s)from rfl,show(((ja (Wb 47 [] s):Nat):Int)==2)=SL (Wb 47 [] s)from rfl,show(((ja (Wb 45 [] s):Nat):Int)==2)=SL (Wb 45 [] s)from rfl]
 have hp:∀(b:Int) (n:Nat),((Wb b [] s).getD n []).length≤100000000:=fun b n=>by
  rw[qf]
  cases h:(Wb b [] s)[n]? with
  |none=>simp
  |some x=>
   have:=Rv b s [] x (List.mem_of_getElem? h)
   simp only[q6]
   simp at this;omega
 cases h1:SL (Wb 58 [] s)with
 |true=>
  obtain⟨a1,a2,a3,a4⟩:=Eaf h1
  rw[a1,a2,a3,a4]
  simp only[zj,jb]
  rw[Vae _ _ (hp 58 1)]
  simp only[jb]
  exact TR s _
 |false=>
 cases h2:SL (Wb 47 [] s)with
 |true=>
  obtain⟨a1,a2,a3,a4⟩:=Eaf h2
  rw[a1,a2,a3,a4]
  simp only[zj,zk,jb]
  rw[XK (hp 47 0),CQ,BI]
  simp only[jb]
  cases(Rp ((Wb 47 [] s).getD 0 [])).2.1
  ·exact TR s _
  ·exact TR s _
 |false=>
 cases h3:SL (Wb 45 [] s)with
 |true=>
  obtain⟨a1,a2,a3,a4⟩:=Eaf h3
  rw[a1,a2,a3,a4]
  simp only[zj,zk,jb]
  rw[CQ,BI]
  simp only[jb]
  exact TR s _
 |false=>exact TR s _
noncomputable def IF(s:Ia×List Ma)(w:List UInt8):(Ia×List Ma)⊕Unit:=
 cond (w==[124]) (.inl ((((ja s.2:Nat):Int),jf s.1.2.1 [s.2],()),[])) (cond (Jq w).2.1 (.inl (s.1,jf s.2 [(Jq w).1])) (.inr ()))
def Bh:Ia:=((0:Int),([]:List (List Ma)),())
noncomputable def VG(s:List UInt8):Ia×(Bool×Unit):=
 match Cb (fun _ s w=>IF s w) 0 (Bh,[]) (jf (Wb 32 [] s) [[124]])with
 |.inl r=>cond (Uc r.1) (r.1,true,()) (Bh,false,())
 |.inr _=>(Bh,false,())
structure PkI(k:Nat)(s:Ia×List Ma):Prop where
 z:Ja Xa s.1+s.2.length≤k
theorem IaB(m:Ia):Ja Xa m=Ja (.sl (.sl Db)) m.2.1:=by
 show 0+(Ja (.sl (.sl Db)) m.2.1+0)=_
 omega
theorem JaB(l:List (List Ma))(r:List Ma):Ja (.sl (.sl Db)) (l++[r])=Ja (.sl (.sl Db)) l+1+r.length:=by
 have hr:Ja (.sl Db) r=r.length:=Lp (e:=Db) rfl r
 show(l++[r]).length+(zg (Ja (.sl Db)) (l++[r])).sum=(l.length+(zg (Ja (.sl Db)) l).sum)+1+r.length
 rw[yy,List.sum_append,qd]
 simp only[ym,List.map_nil,List.sum_cons,List.sum_nil,jw,j6]
 omega
theorem Xau{k:Nat}{s s':Ia×List Ma}{w:List UInt8}(h:PkI k s)(hs:IF s w=.inl s'):PkI (k+1) s':=by
 have hz:=h.z
 unfold IF at hs
 revert hs
 cases w==[124]with
 |true=>
  intro hs
  simp only[zj,ze]at hs
  subst hs
  refine⟨?_⟩
  have:=JaB s.1.2.1 s.2
  rw[IaB]at hz⊢
  show Ja (.sl (.sl Db)) (s.1.2.1++[s.2])+0≤_
  omega
 |false=>
  cases(Jq w).2.1 with
  |false=>intro hs;simp at hs
  |true=>
   intro hs
   simp only[zj,zk,ze]at hs
   subst hs
   refine⟨?_⟩
   show Ja Xa s.1+(s.2++[_]).length≤_
   rw[qd];simp;omega
theorem H2{s:List UInt8}(hs:s.length≤1048571):WA s=some (VG s):=by
 have h20:Da=1048576:=rfl
 have hl:=Gz 32 s []
 have hp:=Rv 32 s []
 unfold WA VG
 rw[Wt 32 (by omega)]
 simp only[jb]
 rw[Ob (by simp;omega)]
 simp only[zj]
 have hw:∀x∈jf (Wb 32 [] s) [[124]],x.length≤100000000:=by
  intro x hx
  rcases jl.1 hx with h|h
  ·have:=hp x h;simp at this;omega
  ·simp at h;subst h;simp
 have hn:(jf (Wb 32 [] s) [[124]]).length≤1048573:=by
  rw[zh,qd];simp;omega
 generalize jf (Wb 32 [] s) [[124]]=W at hw hn
 have hi:∀s':Ia×List Ma,Cb (fun _ s w=>IF s w) 0 (Bh,[]) W=.inl s'→Ja Xa s'.1≤Da:=by
  have key:∀(l:List (List UInt8)) (k:Nat) (s0 s':Ia×List Ma),PkI k s0→Cb (fun _ s w=>IF s w) k s0 l=.inl s'→PkI (k+l.length) s':=by
   intro l
   induction l with
   |nil=>intro k s0 s' h hf;simp only[Cb,ze]at hf;subst hf;exact h
   |cons w l ih=>
    intro k s0 s' h hf
    simp only[Cb]at hf
    revert hf
    cases hg:IF s0 w with
    |inr u=>intro hf;simp at hf
    |inl s1=>
     intro hf
     have:=ih (k+1) s1 s' (Xau h hg) hf
     rw[jw,show k+(l.length+1)=k+1+l.length by omega]
     exact this
  intro s' hf
  have:=(key W 0 (Bh,[]) s' ⟨by decide⟩ hf).z
  omega
 have h:=Ug (step:=fun x:(Unit×Unit×List Ma×List (List UInt8)×Int×Unit)×Ia×Ia×Unit=>Rq x.1.1 x.1.2.1 x.1.2.2.1 x.1.2.2.2.1 x.1.2.2.2.2.1 x.2.1 x.2.2.1) W (fun _ s w=>IF s w)
  (fun s i=>(((),(),s.2,W,i,()),(Bh,s.1,()))) (fun s=>.inl (((),(),()),(Bh,s.1,()))) (fun _=>.inr (((),false,()),(Bh,()))) (fun k s=>PkI k s) (by
   intro k hk s hs
   have hz:=hs.z
   refine⟨?_,fun s' h'=>Xau hs h'⟩
   have hx:=hw W[k] (qj hk)
   simp only[Rq]
   rw[Ba (by omega),Ve,Ba hk]
   simp only[zj,jn]
   rw[je hk]
   simp only[jb]
   unfold IF
   cases W[k]==([124]:List UInt8)with
   |true=>
    simp only[zj]
    have:s.1.2.1.length≤Ja Xa s.1:=by rw[IaB];exact Nat.le_add_right _ _
    rw[Ob (by simp;omega)]
    rfl
   |false=>
    simp only[zk]
    rw[TO hx]
    simp only[jb]
    cases(Jq W[k]).2.1 with
    |false=>rfl
    |true=>
     simp only[jg,zk,zj]
     rw[Ob (by simp;omega)]
     rfl) (by
   intro s hs
   simp only[Rq]
   rw[Aa (by omega)];rfl) (by omega) (Bh,[]) ⟨by decide⟩
 unfold Lt
 erw[h]
 revert hi
 cases Cb (fun _ s w=>IF s w) 0 (Bh,[]) W with
 |inr u=>intro hi;rfl
 |inl r=>
  intro hi
  simp only[jb,qg]
  have:=Sk r.1 (hi r rfl)
  erw[this]
  simp only[jb]
  cases Uc r.1<;>rfl
def As(s p:List UInt8):Bool:=decide (p.length≤s.length)&&(s.take p.length==p)
theorem EM(s p:List UInt8):Rj s p=some (cond (As s p) (s.drop p.length) s,As s p,()):=by
 unfold Rj Wy Xy As
 by_cases h:p.length≤s.length
 ·have e0:Hb s (jy 0) (jy ((ja p:Nat):Int))=s.take p.length:=by simp[Hb]
  have e1:Hb s (jy ((ja p:Nat):Int)) (jy ((ja s:Nat):Int))=s.drop p.length:=by
   rw[jn,jn]
   unfold Hb
   rw[List.take_length]
  rw[Ba (show((ja s:Nat):Int)≥((ja p:Nat):Int) by omega),show Nd (ja s) 0 ((ja p:Nat):Int)=true from Xh (lo:=0) (by omega) h,e0,e1,Ba h]
  simp only[zj,jb,jk]
  cases s.take p.length==p with
  |false=>rfl
  |true=>
   simp only[jg,zk]
   rw[Xh h (jo _)]
   rfl
 ·rw[Aa (show¬((ja s:Nat):Int)≥((ja p:Nat):Int) by omega),Aa h]
  rfl
def Rac(k:Int):List UInt8:=cond (k==3) [109,111,58] (cond (k==4) [116,103,58] (cond (k==5) [116,111,58] (cond (k==9) Gj [])))
theorem DaH(k:Int):Nn k=some (Rac k,()):=by
 unfold Nn Rac
 cases k==3 with
 |true=>rfl
 |false=>
  cases k==4 with
  |true=>rfl
  |false=>
   cases k==5 with
   |true=>rfl
   |false=>cases k==9<;>rfl
noncomputable def Cab(s:List UInt8)(k:Int):Unit⊕Ma:=cond (As s (Rac k)) (.inr (k,(0:Int),(0:Int),(Oj (s.drop (Rac k).length)).1,())) (.inl ())
noncomputable def HB(s:List UInt8):Ma:=
 cond (s==Jk) KX (cond (s==Ik) ((1:Int),(0:Int),(0:Int),(0:Int),()) (cond (s==Fj) ((10:Int),(0:Int),(0:Int),(0:Int),())
  (match Cb (fun _ (_:Unit) k=>Cab s k) 0 () [(3:Int),4,5,9]with
  |.inr a=>a
  |.inl _=>cond (As s Pg) ((8:Int),(0:Int),GR (s.drop Pg.length),(0:Int),())
   (cond (Lib.cut s [47]).2.2 (cond (Oj (Lib.cut s [47]).1).2.1 ((7:Int),BK (Lib.cut s [47]).2.1,(0:Int),(Oj (Lib.cut s [47]).1).1,()) ((6:Int),BK (Lib.cut s [47]).2.1,GR (Lib.cut s [47]).1,(0:Int),()))
   (cond (Lib.cut s [45]).2.2 ((2:Int),BK (Lib.cut s [45]).2.1,GR (Lib.cut s [45]).1,(0:Int),()) ((2:Int),BK s,(0:Int),(0:Int),()))))))
theorem Fak{s:List UInt8}(p:List UInt8)(hs:s.length≤100000000):strings_Cut s p=some ((Lib.cut s p).1,(Lib.cut s p).2.1,(Lib.cut s p).2.2,()):=by
 unfold strings_Cut Jaz
 rw[show jx (ja s) 4294967280=true from ji (by omega)]
 rfl
theorem Fah{s:List UInt8}(hs:s.length≤100000000):DA s=some (HB s,()):=by
 unfold DA HB
 cases s==Jk with
 |true=>rfl
 |false=>
 cases s==Ik with
 |true=>rfl
 |false=>
 cases s==Fj with
 |true=>rfl
 |false=>
 simp only[zk]
 have hl:=Ug (step:=fun x:(List UInt8×Unit×List Int×Int×Int×Unit)×Ma×Unit=>Fq x.1.1 x.1.2.1 x.1.2.2.1 x.1.2.2.2.1 x.1.2.2.2.2.1 x.2.1) [(3:Int),4,5,9] (fun _ (_:Unit) k=>Cab s k)
  (fun _ i=>((s,(),[(3:Int),4,5,9],((ja ([(3:Int),4,5,9]:List Int):Nat):Int),i,()),(KX,()))) (fun _=>.inl ((s,(),()),(KX,()))) (fun a=>.inr (((),()),(a,()))) (fun _ _=>True) (by
   intro k hk u _
   refine⟨?_,fun _ _=>trivial⟩
   simp only[Fq]
   rw[Ba (by omega),Ve,Ba hk]
   simp only[zj,jn]
   rw[je hk]
   simp only[jb]
   generalize([(3:Int),4,5,9]:List Int)[k]=x
   rw[DaH]
   simp only[jb]
   rw[EM]
   simp only[jb]
   unfold Cab
   cases As s (Rac x)<;>rfl) (by
   intro u _
   simp only[Fq]
   rw[Aa (by omega)];rfl) (by simp) () trivial
 unfold Jt
 erw[hl]
 cases Cb (fun _ (_:Unit) k=>Cab s k) 0 () [(3:Int),4,5,9]with
 |inr a=>rfl
 |inl u=>
  simp only[jb,qg]
  rw[EM]
  simp only[jb]
  cases As s Pg with
  |true=>
   simp only[zj]
   rw[UH];rfl
  |false=>
   simp only[zk]
   rw[Fak _ hs]
   simp only[jb]
   cases(Lib.cut s [47]).2.2 with
   |true=>
    simp only[zj]
    rw[show Ot (Lib.cut s [47]).1=some (Oj (Lib.cut s [47]).1)from rfl]
    simp only[jb]
    cases(Oj (Lib.cut s [47]).1).2.1 with
    |true=>simp only[zj];rw[FG];rfl
    |false=>simp only[zk];rw[UH,FG];rfl
   |false=>
    simp only[zk]
    rw[Fak _ hs]
    simp only[jb]
    cases(Lib.cut s [45]).2.2 with
    |true=>simp only[zj];rw[UH,FG];rfl
    |false=>simp only[zk];rw[FG];rfl
noncomputable def Mk(s:List UInt8):Ma×(Bool×Unit):=cond (!Ub (HB s)||Rf (HB s) !=s) (KX,false,()) (HB s,true,())
theorem EO{s:List UInt8}(hs:s.length≤100000000):Tr s=some (Mk s):=by
 unfold Tr Mk
 rw[Fah hs]
 simp only[jb]
 rw[Rm]
 simp only[jb]
 cases Ub (HB s)with
 |false=>rfl
 |true=>
  simp only[jg,zk,yw]
  rw[Vz]
  simp only[jb]
  cases Rf (HB s) !=s<;>rfl
noncomputable def FC(l:List Ma):List UInt8:=Lib.join (l.map Rf) [32]
noncomputable def Kw(m:Ia):List UInt8:=cond (Uc m) (Lib.join (m.2.1.map FC) [32,124,32]) []
theorem X0(l:List Ma):(FC l).length≤51*l.length:=by
 have:=OK (l.map Rf) [32] 50 (fun x hx=>by
  obtain⟨a,_,rfl⟩:=ql.1 hx
  exact Xaj a)
 rw[yu]at this
 exact this
theorem HM{m:Ia}(hz:Ja Xa m≤Da):Np m=some (Kw m,()):=by
 unfold Np Kw
 rw[Vi m hz]
 cases hv:Uc m with
 |false=>rfl
 |true=>
  have hm:=Be hv
  have hk2:=hm.k2
  have hl2:=hm.l2
  simp only[jb,jg,zk,zj]
  have hrow:∀k (hk:k<m.2.1.length),m.2.1[k].length≤32:=fun k hk=>by have:=hm.row k hk;omega
  have hl:=Ue (step:=fun x:(List (List UInt8)×List (List Ma)×Int×Int×Unit)×Unit=>Jo x.1.1 x.1.2.1 x.1.2.2.1 x.1.2.2.2.1) m.2.1 (fun _ (o:List (List UInt8)) l=>o++[FC l])
   (fun o i=>((o,m.2.1,((ja m.2.1:Nat):Int),i,()),())) (fun o=>.inl ((o,()),())) (fun k o=>o.length=k) (by
    intro k hk o ho
    refine⟨?_,by simp[ho]⟩
    have hr:=hrow k hk
    simp only[Jo]
    rw[Ba (by omega),Nb hk]
    simp only[zj,jb]
    generalize m.2.1[k]=r at hr
    have hin:=(Ue (step:=fun x:(List (List UInt8)×List (List UInt8)×List (List Ma)×Int×Int×List Ma×Int×Int×Unit)×Unit=>Ko x.1.1 x.1.2.1 x.1.2.2.1 x.1.2.2.2.1 x.1.2.2.2.2.1 x.1.2.2.2.2.2.1 x.1.2.2.2.2.2.2.1 x.1.2.2.2.2.2.2.2.1) r (fun _ (p:List (List UInt8)) a=>p++[Rf a])
     (fun p i=>((o,p,m.2.1,((ja m.2.1:Nat):Int),(k:Int),r,((ja r:Nat):Int),i,()),())) (fun p=>.inl ((o,p,m.2.1,((ja m.2.1:Nat):Int),(k:Int),()),())) (fun j p=>p.length=j) (by
      intro j hj p hp
      refine⟨?_,by simp[hp]⟩
      simp only[Ko]
      rw[Ba (by omega),Nb hj]
      simp only[zj,jb]
      rw[Vz]
      simp only[jb]
      rw[Ob (by simp;omega)]
      rfl) (by
      intro p hp
      simp only[Ko]
      rw[Aa (by omega)];rfl) (by omega) [] rfl).1
    have hf:∀(ys:List Ma) (j:Nat) (p:List (List UInt8)),Vc (fun _ (p:List (List UInt8)) a=>p++[Rf a]) j p ys=p++ys.map Rf:=by
     intro ys
     induction ys with
     |nil=>intro j p;simp[Vc]
     |cons y ys ih=>intro j p;rw[Vc,ih];simp
    rw[hf]at hin
    have hjl:=X0 r
    unfold FC at hjl
    unfold Nr
    erw[hin]
    simp only[jb,qg,yi]
    rw[Sm (by simp;omega) (by omega)]
    simp only[jb]
    rw[Ob (by simp;omega)]
    rfl) (by
    intro o ho
    simp only[Jo]
    rw[Aa (by omega)];rfl) (by omega) [] rfl
  have hf:∀(ys:List (List Ma)) (j:Nat) (p:List (List UInt8)),Vc (fun _ (p:List (List UInt8)) a=>p++[FC a]) j p ys=p++ys.map FC:=by
   intro ys
   induction ys with
   |nil=>intro j p;simp[Vc]
   |cons y ys ih=>intro j p;rw[Vc,ih];simp
  rw[hf]at hl
  unfold Mr
  erw[hl.1]
  simp only[jb,qg,yi]
  have hjl:=OK (m.2.1.map FC) [32,124,32] 1632 (fun x hx=>by
   obtain⟨l,hl',rfl⟩:=ql.1 hx
   obtain⟨i,hi,rfl⟩:=qk hl'
   have:=X0 m.2.1[i]
   have:=hrow i hi
   omega)
  rw[yu]at hjl
  rw[Sm (by simp;omega) (by
   have:(1632+([32,124,32]:List UInt8).length)*m.2.1.length≤1635*4:=Nat.mul_le_mul (by simp) hl2
   omega)]
  rfl
theorem Lac(sep:List UInt8):∀(k:Nat) (s:List UInt8),(Lib.splitK sep 0 k s).length≤k+1∧∀x∈Lib.splitK sep 0 k s,x.length≤s.length
 |0,s=>by simp[Lib.splitK]
 |k+1,s=>by
  unfold Lib.splitK
  split
  ·simp
  ·have ih:=Lac sep k (s.drop ((Lib.index s sep).toNat+sep.length))
   refine⟨by simp;exact ih.1,fun x hx=>?_⟩
   rcases jp.1 hx with rfl|hx
   ·rw[List.length_take];omega
   ·have:=ih.2 x hx
    rw[qn]at this
    omega
theorem T2(sub:List UInt8):∀(f:Nat) (s:List UInt8),Lib.countFrom sub f s≤f
 |0,s=>by simp[Lib.countFrom]
 |f+1,s=>by
  unfold Lib.countFrom
  split
  ·omega
  ·have:=T2 sub f (s.drop ((Lib.index s sub).toNat+sub.length));omega
theorem EaA(s sep:List UInt8):(Lib.split s sep).length≤s.length+2∧∀x∈Lib.split s sep,x.length≤s.length:=by
 have h:=Lac sep (Lib.count s sep) s
 have:=T2 sep (s.length+1) s
 unfold Lib.split
 exact⟨qa h.1 (by unfold Lib.count;omega),h.2⟩
noncomputable def QV(n:Nat)(l:List Ma)(w:List UInt8):List Ma⊕Unit:=
 cond (!(Mk w).2.1) (.inr ()) (cond (decide (32≤l.length)) (.inr ()) (cond (decide (4≤n)) (.inr ()) (.inl (jf l [(Mk w).1]))))
noncomputable def KD(m:Ia)(p:List UInt8):Ia⊕Unit:=
 match Cb (fun _ l w=>QV m.2.1.length l w) 0 [] (Wb 32 [] p)with
 |.inl r=>.inl (((ja r:Nat):Int),jf m.2.1 [r],())
 |.inr _=>.inr ()
noncomputable def Lm(s:List UInt8):Ia×(Bool×Unit):=
 match Cb (fun _ m p=>KD m p) 0 Bh (Lib.split s [32,124,32])with
 |.inl m=>cond (!Uc m||Kw m !=s) (Bh,false,()) (m,true,())
 |.inr _=>(Bh,false,())
theorem RL(b:Int):∀(l cur:List UInt8),Wb b cur l≠[]
 |[],cur=>by simp[Wb]
 |c::l,cur=>by
  simp only[Wb]
  cases((UInt8.toNat c:Nat):Int)==b with
  |true=>simp
  |false=>exact RL b l _
theorem Aan(n:Nat):∀(W:List (List UInt8)) (k:Nat) (l r:List Ma),l.length≤32→Cb (fun _ l w=>QV n l w) k l W=.inl r→r.length≤32∧(W≠[]→n<4)
 |[],k,l,r,hl,h=>by simp only[Cb,ze]at h;subst h;exact⟨hl,fun h=>absurd rfl h⟩
 |w::W,k,l,r,hl,h=>by
  simp only[Cb]at h
  revert h
  cases hx:QV n l w with
  |inr u=>intro h;simp at h
  |inl l'=>
   intro h
   have hl':l'.length≤32∧n<4:=by
    unfold QV at hx
    revert hx
    cases(Mk w).2.1 with
    |false=>intro h;simp at h
    |true=>
     by_cases h1:32≤l.length
     ·rw[Ba h1];intro h;simp at h
     by_cases h2:4≤n
     ·rw[Aa h1,Ba h2];intro h;simp at h
     rw[Aa h1,Aa h2]
     intro h
     simp only[jg,zk,ze]at h
     subst h
     refine⟨?_,by omega⟩
     rw[zh,qd];simp;omega
   have:=Aan n W (k+1) _ r hl'.1 h
   exact⟨this.1,fun _=>hl'.2⟩
structure Tac(m:Ia):Prop where
 n:m.2.1.length≤4
 r:∀l∈m.2.1,l.length≤32
theorem Gau{m m':Ia}{p:List UInt8}(h:Tac m)(hl:KD m p=.inl m'):Tac m':=by
 unfold KD at hl
 revert hl
 cases hf:Cb (fun _ l w=>QV m.2.1.length l w) 0 [] (Wb 32 [] p)with
 |inr u=>intro hl;simp at hl
 |inl r=>
  intro hl
  simp only[ze]at hl
  subst hl
  obtain⟨h1,h2⟩:=Aan _ _ _ _ _ (by simp) hf
  have h2:=h2 (RL _ _ _)
  refine⟨?_,?_⟩
  ·show(jf m.2.1 [r]).length≤4
   rw[zh,qd];simp;omega
  ·intro l hl
   rcases jl.1 (show l∈m.2.1++[r]from hl)with h'|h'
   ·exact h.r l h'
   ·simp at h';subst h';exact h1
theorem MaU{m:Ia}(h:Tac m):Ja Xa m≤136:=by
 rw[IaB]
 have key:∀(L:List (List Ma)),(∀l∈L,l.length≤32)→Ja (.sl (.sl Db)) L≤33*L.length:=by
  intro L
  induction L with
  |nil=>intro _;show(0:Nat)+0≤_;omega
  |cons l L ih=>
   intro hL
   have h1:=ih (fun x hx=>hL x (jr _ hx))
   have h2:=hL l (List.mem_cons_self ..)
   have hr:Ja (.sl Db) l=l.length:=Lp (e:=Db) rfl l
   show(l::L).length+(zg (Ja (.sl Db)) (l::L)).sum≤_
   have h1':L.length+(zg (Ja (.sl Db)) L).sum≤33*L.length:=h1
   simp only[ym,List.sum_cons,jw]at*
   rw[hr]
   omega
 have:=key m.2.1 h.r
 have:=h.n
 omega
theorem B2{s:List UInt8}(hs:s.length≤1048571):AA s=some (Lm s):=by
 have h20:Da=1048576:=rfl
 obtain⟨hn,hp⟩:=EaA s [32,124,32]
 unfold AA Lm
 rw[show strings_Split s ([32,124,32]:List UInt8)=some (Lib.split s [32,124,32],())from by
  unfold strings_Split Jac Dan
  rw[show jx (ja s) 1048576=true from ji (by omega)]
  rfl]
 simp only[jb]
 generalize Lib.split s [32,124,32]=T at hn hp
 have hl:=Ug (step:=fun x:(List UInt8×Unit×Unit×List (List UInt8)×Int×Int×Unit)×Ia×Ia×Unit=>Bq x.1.1 x.1.2.1 x.1.2.2.1 x.1.2.2.2.1 x.1.2.2.2.2.1 x.1.2.2.2.2.2.1 x.2.1 x.2.2.1) T (fun _ m p=>KD m p)
  (fun m i=>((s,(),(),T,((ja T:Nat):Int),i,()),(Bh,(m.1,m.2.1,()),()))) (fun m=>.inl ((s,(),(),()),(Bh,(m.1,m.2.1,()),()))) (fun _=>.inr (((),false,()),(Bh,()))) (fun _ m=>Tac m) (by
   intro k hk m hm
   refine⟨?_,fun s' hs'=>Gau hm hs'⟩
   have hpk:=hp _ (qj hk)
   simp only[Bq]
   rw[Ba (by omega),Ve,Ba hk]
   simp only[zj,jn]
   rw[je hk]
   simp only[jb]
   generalize T[k]=p at hpk
   rw[XS 32 (by omega)]
   simp only[jb]
   unfold KD
   have hwl:=Gz 32 p []
   have hwp:=Rv 32 p []
   generalize Wb 32 [] p=W at hwl hwp
   have hin:=Ug (step:=fun x:(List UInt8×Unit×Unit×List Ma×List (List UInt8)×Int×Int×List (List UInt8)×Int×Int×Unit)×Ia×Ia×Unit=>Cq x.1.1 x.1.2.1 x.1.2.2.1 x.1.2.2.2.1 x.1.2.2.2.2.1 x.1.2.2.2.2.2.1 x.1.2.2.2.2.2.2.1 x.1.2.2.2.2.2.2.2.1 x.1.2.2.2.2.2.2.2.2.1 x.1.2.2.2.2.2.2.2.2.2.1 x.2.1 x.2.2.1) W (fun _ l w=>QV m.2.1.length l w)
    (fun l i=>((s,(),(),l,T,((ja T:Nat):Int),(k:Int),W,((ja W:Nat):Int),i,()),(Bh,(m.1,m.2.1,()),()))) (fun l=>.inl ((s,(),(),l,T,((ja T:Nat):Int),(k:Int),()),(Bh,(m.1,m.2.1,()),()))) (fun _=>.inr (((),false,()),(Bh,()))) (fun j l=>l.length≤32) (by
     intro j hj l hl32
     have hwj:=hwp _ (qj hj)
     simp only[Cq]
     rw[Ba (by omega),Ve,Ba hj]
     simp only[zj,jn]
     rw[je hj]
     simp only[jb]
     generalize W[j]=w at hwj
     rw[EO (by simp at hwj;omega)]
     simp only[jb]
     unfold QV
     cases(Mk w).2.1 with
     |false=>exact⟨rfl,fun s' h=>by simp at h⟩
     |true=>
      simp only[jg,zk]
      by_cases h1:32≤l.length
      ·rw[Ba (show((ja l:Nat):Int)≥32 by omega),Ba h1]
       exact⟨rfl,fun s' h=>by simp at h⟩
      rw[Aa (show¬((ja l:Nat):Int)≥32 by omega),Aa h1]
      by_cases h2:4≤m.2.1.length
      ·rw[Ba (show((ja m.2.1:Nat):Int)≥4 by omega),Ba h2]
       exact⟨rfl,fun s' h=>by simp at h⟩
      rw[Aa (show¬((ja m.2.1:Nat):Int)≥4 by omega),Aa h2]
      simp only[zk]
      rw[Ob (by simp;omega)]
      refine⟨rfl,fun s' h=>?_⟩
      simp only[ze]at h
      subst h
      simp;omega) (by
     intro l hl32
     simp only[Cq]
     rw[Aa (by omega)];rfl) (by omega) [] (by simp)
   unfold Ht
   erw[hin]
   cases Cb (fun _ l w=>QV m.2.1.length l w) 0 [] W with
   |inr u=>rfl
   |inl r=>
    simp only[jb,qg]
    have:=hm.n
    have e:([r]:List (List Ma)).length=1:=rfl
    rw[Ob (by omega)]
    rfl) (by
   intro m hm
   simp only[Bq]
   rw[Aa (by omega)];rfl) (by omega) Bh ⟨by simp[Bh],by simp[Bh]⟩
 have key:∀(L:List (List UInt8)) (k:Nat) (m m':Ia),Tac m→Cb (fun _ m p=>KD m p) k m L=.inl m'→Tac m':=by
  intro L
  induction L with
  |nil=>intro k m m' h hf;simp only[Cb,ze]at hf;subst hf;exact h
  |cons p L ih=>
   intro k m m' h hf
   simp only[Cb]at hf
   revert hf
   cases hx:KD m p with
   |inr u=>intro hf;simp at hf
   |inl m1=>intro hf;exact ih (k+1) m1 m' (Gau h hx) hf
 unfold Gt
 erw[hl]
 cases hf:Cb (fun _ m p=>KD m p) 0 Bh T with
 |inr u=>rfl
 |inl m=>
  have hm:=MaU (key T 0 Bh m ⟨by simp[Bh],by simp[Bh]⟩ hf)
  simp only[jb,qg]
  have hi:=Vi m (by omega)
  erw[hi]
  simp only[jb]
  cases Uc m with
  |false=>rfl
  |true=>
   simp only[jg,zk,yw]
   have hfk:=HM (m:=m) (by omega)
   erw[hfk]
   simp only[jb]
   cases Kw m !=s<;>rfl
instance Lbo(k c m n:Int):Decidable (Dd k c m n):=by unfold Dd;infer_instance
theorem Uaa{e:Gb}(h:Ms e):Ja Mb e≤300:=by
 have hh:=Wq h.hd
 have h2:Ja (.sl (.sl Xb)) e.2.1≤(8+1)*e.2.1.length:=CU (e:=.sl Xb) (c:=8) fun x hx=>by
  have:=ZY (h.mac x hx)
  have e2:Ja (.sl Xb) x=x.length:=Lp (e:=Xb) rfl x
  omega
 have:=h.m4
 have hm:=Be h.km
 have h3:Ja Xa e.1≤200:=by
  have h1:Ja Xa e.1=0+(Ja (.sl (.sl Db)) e.1.2.1+0):=rfl
  have h2:Ja (.sl (.sl Db)) e.1.2.1≤(32+1)*ja e.1.2.1:=CU (e:=.sl Db) (c:=32) fun x hx=>by
   obtain⟨i,hi,rfl⟩:=qk hx
   rw[W4]
   have:=hm.row i hi
   have:=hm.k2
   omega
  have:=hm.l2
  omega
 have h6:Ja (.sl Jf) e.2.2.2.1=e.2.2.2.1.length:=Lp (e:=Jf) rfl _
 rw[Pl]
 omega
theorem E9{l:List Lc}(h:LQ l)(hl:l.length≤2000):Ja (.sl Fd) l≤114000:=by
 have h2:Ja (.sl Fd) l≤(56+1)*l.length:=CU (e:=Fd) (c:=56) fun x hx=>by
  have h1:=h x hx
  simp only[Ly,jd]at h1
  have h3:=Ez h1.2
  have h4:Ja Fd x=Ja Jb x.2.1:=by
   show 0+(Ja Jb x.2.1+0)=_
   omega
  rw[h4,Oan]
  exact h3
 omega
structure Oi(s:Qa):Prop where
 d:Od s.1=true
 n:s.2.1.length≤200
 s:LQ s.2.1
theorem Pae(s:Qa):KA s=true↔Oi s:=by
 simp only[KA,jd,decide_eq_true_eq,N7]
 exact⟨fun⟨a,b,c⟩=>⟨a,b,c⟩,fun h=>⟨h.d,h.n,h.s⟩⟩
theorem Raa{d:Ab}(h:Od d=true):Ja Ac d≤400:=by
 have h1:=U7 h
 have h2:=Uaa h1.pl.eng
 have h3:=h1.pl.len
 rw[VU,AL]
 omega
theorem BaB{s:Qa}(h:Oi s):Ja Bc s≤200000:=by
 have h1:=Raa h.d
 have h2:=E9 h.s (by have:=h.n;omega)
 rw[DaG]
 omega
theorem HO{s:Qa}(hd:Ja Ac s.1≤Da)(hz:Ja (.sl Fd) s.2.1≤Da):Rk s=some (s,()):=by
 have h20:Da=1048576:=rfl
 have h1:Ja (.sl Fd) s.2.1=ja s.2.1+(zg (Ja Fd) s.2.1).sum:=rfl
 obtain⟨d,l,⟨⟩⟩:=s
 simp only at hd hz h1
 have hl:=Yh (step:=fun x=>Dq x.1.1 x.1.2.1 x.1.2.2.1 x.1.2.2.2.1 x.1.2.2.2.2.1 x.2.1 x.2.2.1) l (fun x=>x)
  (fun o k=>(((),(),l,((ja l:Nat):Int),k,()),((Eo,([]:List Lc),()),(d,o,()),()))) (fun o=>.inl (((),(),()),((Eo,([]:List Lc),()),(d,o,()),()))) (by omega) (fun k hk o ho=>by
   simp only[Dq]
   rw[Ba (by omega),Nb hk]
   simp only[zj,jb]
   rw[XR _ (SV hz hk)]
   simp only[jb]
   rw[Ob (by simp only[jw,j6];omega)]
   rfl) (fun o=>by
   simp only[Dq]
   rw[Aa (by omega)]
   rfl)
 unfold Rk It
 rw[GO _ hd]
 simp only[jb]
 erw[hl]
 rw[List.map_id']
 rfl
noncomputable def FU(m:Ia)(M:List (List Ua)):Gb×(Bool×Unit):=cond (Tg (Wn m M)) (Wn m M,true,()) (ZaK,false,())
theorem N3(m:Ia)(M:List (List Ua))(hz:Ja Mb (Wn m M)≤Da):JG m M=some (FU m M):=by
 have hz2:=hz
 rw[Pl]at hz2
 unfold FU JG
 rw[WR _ (show Ja Xa m≤Da from by have:(Wn m M).1=m:=rfl;rw[this]at hz2;omega),QE M (by have:(Wn m M).2.1=M:=rfl;rw[this]at hz2;omega)]
 simp only[jb]
 have h:=AV (Wn m M) hz
 unfold Wn at h
 rw[h]
 unfold Wn
 cases Tg (m,M,(0:Int),([]:List Pa),(0:Int),false,())<;>rfl
noncomputable def GM(m:Ia)(M:List (List Ua))(t:Ua):Qa×(Bool×Unit):=
 cond (Tg (Wn m M)) (((CS (Wn m M) t).1,([]:List Lc),()),(CS (Wn m M) t).2.1,()) ((Eo,([]:List Lc),()),false,())
theorem Eah(m:Ia)(M:List (List Ua))(t:Ua)(hz:Ja Mb (Wn m M)≤Da):Mn m M t=some (GM m M t):=by
 unfold Mn GM
 rw[N3 m M hz]
 unfold FU
 cases hE:Tg (Wn m M)with
 |false=>rfl
 |true=>
  simp only[zj,jb,jg,zk]
  rw[A2 _ _ hz]
  rfl
theorem LaD{m:Ia}{M:List (List Ua)}{t:Ua}(h:(GM m M t).2.1=true):Oi (GM m M t).1:=by
 unfold GM at h⊢
 cases hE:Tg (Wn m M)with
 |false=>rw[hE]at h;simp at h
 |true=>
  rw[hE]at h
  simp only[zj]at h⊢
  unfold CS at h⊢
  cases hd:Od (VX (Wn m M) t)with
  |false=>rw[hd]at h;simp at h
  |true=>
   refine⟨?_,?_,?_⟩
   ·exact hd
   ·show(0:Nat)≤200;omega
   ·intro y hy;simp at hy
def Xam(s:Qa)(n:Qa)(ok:Bool):Qa×(List UInt8×Unit):=cond (!ok) (s,[110,111],()) (n,[111,107],())
theorem Jab(s n:Qa)(ok:Bool):Ek s n ok=some (Xam s n ok):=by
 unfold Ek Xam
 cases ok<;>rfl
noncomputable def H4(s:Qa)(m:Ia)(M:List (List Ua))(t:Ua):Qa×(List UInt8×Unit):=Xam s (GM m M t).1 (GM m M t).2.1
theorem Wam{s:Qa}(h:Oi s)(m:Ia)(M:List (List Ua))(t:Ua):Oi (H4 s m M t).1∧(H4 s m M t).2.1.length≤2:=by
 unfold H4 Xam
 cases hf:(GM m M t).2.1 with
 |false=>exact⟨h,jo 2⟩
 |true=>exact⟨LaD hf,jo 2⟩
def LT(b:UInt8):UInt8:=Wd.getD (b.toNat/16) 0
def MT(b:UInt8):UInt8:=Wd.getD (b.toNat%16) 0
def S1(l:List UInt8):List UInt8:=l.flatMap fun b=>[LT b,MT b]
theorem AaY:∀b:Fin 256,Ib Wd (Cy .u8 (b.val:Int) 4)=some (LT (UInt8.ofNat b.val))∧Ib Wd (Ih .u8 (b.val:Int) 15)=some (MT (UInt8.ofNat b.val))∧
 0≤Lib.indexByte Wd (jy ((LT (UInt8.ofNat b.val)).toNat:Int)).toUInt8∧0≤Lib.indexByte Wd (jy ((MT (UInt8.ofNat b.val)).toNat:Int)).toUInt8∧
 j4 .u8 (j4 .i64 (j4 .i64 (16*Lib.indexByte Wd (jy ((LT (UInt8.ofNat b.val)).toNat:Int)).toUInt8)+Lib.indexByte Wd (jy ((MT (UInt8.ofNat b.val)).toNat:Int)).toUInt8))=(b.val:Int):=by
 decide+kernel
theorem JaQ(c:UInt8):Ib Wd (Cy .u8 (c.toNat:Int) 4)=some (LT c)∧Ib Wd (Ih .u8 (c.toNat:Int) 15)=some (MT c)∧
 0≤Lib.indexByte Wd (jy ((LT c).toNat:Int)).toUInt8∧0≤Lib.indexByte Wd (jy ((MT c).toNat:Int)).toUInt8∧
 j4 .u8 (j4 .i64 (j4 .i64 (16*Lib.indexByte Wd (jy ((LT c).toNat:Int)).toUInt8)+Lib.indexByte Wd (jy ((MT c).toNat:Int)).toUInt8))=(c.toNat:Int):=by
 have h:=AaY ⟨c.toNat,c.toNat_lt⟩
 rw[UInt8.ofNat_toNat]at h
 exact h
theorem PaD:∀l:List UInt8,(S1 l).length=2*l.length
 |[]=>rfl
 |c::l=>by
  have:=PaD l
  show([LT c,MT c]++S1 l).length=_
  simp only[qd,jw,j6]
  omega
theorem A6{l:List UInt8}(hl:l.length≤2000):Xq (Sc l)=some (S1 l,()):=by
 have hn:=RB l
 unfold Xq
 rw[Aa (show¬((ja (Sc l):Nat):Int)>2000 by omega)]
 have h:=(Ue (step:=fun x:(((List Int)×ZaB)×Unit)=>Cu x.1.1 x.1.2.1 x.1.2.2.1 x.1.2.2.2.1) l (fun _ o (c:UInt8)=>jf o [((LT c).toNat:Int),((MT c).toNat:Int)])
  (fun o i=>((o,Sc l,((ja (Sc l):Nat):Int),i,()),())) (fun o=>.inl ((o,()),())) (fun k o=>o.length=2*k) (by
   intro k hk o ho
   refine⟨?_,by simp[ho];omega⟩
   have hx:=JaQ l[k]
   have e:(Sc l)[k]'(by omega)=(l[k].toNat:Int):=by simp[Sc]
   simp only[Cu]
   rw[Ba (by omega),Nb (show k<(Sc l).length by omega)]
   simp only[zj,jb]
   rw[e,Ba (show(0:Int)≤4 by omega),hx.1]
   simp only[zj,jb]
   rw[hx.2.1]
   simp only[jb]
   rw[Ob (by simp;omega)]
   rfl) (by
   intro o ho
   simp only[Cu]
   rw[Aa (by omega)];rfl) (by omega) [] rfl).1
 have hf:∀(ys:List UInt8) (j:Nat) (o:List Int),Vc (fun _ o (c:UInt8)=>jf o [((LT c).toNat:Int),((MT c).toNat:Int)]) j o ys=o++Sc (S1 ys):=by
  intro ys
  induction ys with
  |nil=>intro j o;simp[Vc,S1,Sc]
  |cons y ys ih=>
   intro j o
   rw[Vc,ih]
   have e:S1 (y::ys)=[LT y,MT y]++S1 ys:=rfl
   rw[e,PX]
   simp[Sc]
 rw[hf]at h
 simp only[zk]
 unfold Qx
 erw[h]
 simp only[jb,qg,yi]
 rw[EY]
def C8(l:List UInt8):List UInt8:=cond (decide (((ja l:Nat):Int)>2000)) [] (S1 l)
theorem Oao(l:List UInt8):Xq (Sc l)=some (C8 l,()):=by
 have hn:=RB l
 unfold C8
 by_cases h:((ja l:Nat):Int)>2000
 ·rw[Ba h]
  unfold Xq
  rw[Ba (by omega)];rfl
 ·rw[Aa h,A6 (by omega)];rfl
theorem WaI(l:List UInt8):(C8 l).length≤4000:=by
 unfold C8
 by_cases h:((ja l:Nat):Int)>2000
 ·rw[Ba h];simp
 ·rw[Aa h]
  have:=PaD l
  simp only[zk]
  omega
noncomputable def FF(o:List Int)(w:List UInt8):List Int⊕Unit:=cond (Oj w).2.1 (.inl (jf o [(Oj w).1])) (.inr ())
noncomputable def Cf(W:List (List UInt8))(n:Int):List Int×(Bool×Unit):=
 cond (((ja W:Nat):Int) !=n+1) (([]:List Int),false,()) (match Cb (fun _ o w=>FF o w) 0 [] (W.drop 1)with
  |.inl o=>(o,true,())
  |.inr _=>(([]:List Int),false,()))
theorem Hae:∀(W:List (List UInt8)) (k:Nat) (o o':List Int),Cb (fun _ o w=>FF o w) k o W=.inl o'→o'.length=o.length+W.length
 |[],k,o,o',h=>by simp only[Cb,ze]at h;subst h;rfl
 |w::W,k,o,o',h=>by
  simp only[Cb]at h
  revert h
  unfold FF
  cases(Oj w).2.1 with
  |false=>intro h;simp at h
  |true=>
   intro h
   have:=Hae W (k+1) _ o' h
   simp only[zh,qd,jw,j6]at this⊢
   omega
theorem W8{W:List (List UInt8)}{n:Nat}(h:(Cf W (n:Int)).2.1=true):(Cf W (n:Int)).1.length=n:=by
 unfold Cf at h⊢
 cases hc:(((ja W:Nat):Int) !=(n:Int)+1)with
 |true=>rw[hc]at h;simp at h
 |false=>
  rw[hc]at h
  simp only[zk]at h⊢
  have hl:(W.length:Int)=(n:Int)+1:=by simpa using hc
  revert h
  cases hf:Cb (fun _ o w=>FF o w) 0 [] (W.drop 1)with
  |inr u=>intro h;simp at h
  |inl o=>
   intro _
   have:=Hae _ _ _ _ hf
   simp only[qn,j6]at this
   show o.length=n
   omega
theorem NM(W:List (List UInt8))(n:Nat)(hW:W.length≤100000000)(hn:n≤100):Sg W (n:Int)=some (Cf W (n:Int)):=by
 unfold Sg Cf
 rw[Mf (by omega) (by omega)]
 cases hc:(((ja W:Nat):Int) !=(n:Int)+1)with
 |true=>rfl
 |false=>
  simp only[zk]
  have hl:(W.length:Int)=(n:Int)+1:=by simpa using hc
  have hok:Nd (ja W) 1 ((ja W:Nat):Int)=true:=Xh (lo:=1) (by omega) (jo _)
  have hcut:Hb W (jy 1) (jy ((ja W:Nat):Int))=W.drop 1:=by
   rw[show jy 1=1 from rfl,jn]
   unfold Hb
   rw[List.take_length]
  rw[hok,hcut]
  simp only[zj]
  have hd:(W.drop 1).length≤100000000:=by rw[qn];omega
  generalize W.drop 1=V at hd
  have h:=Ug (step:=fun x:(List Int×List (List UInt8)×Int×Int×Unit)×Unit=>FA x.1.1 x.1.2.1 x.1.2.2.1 x.1.2.2.2.1) V (fun _ o w=>FF o w)
   (fun o i=>((o,V,((ja V:Nat):Int),i,()),())) (fun o=>.inl ((o,()),())) (fun _=>.inr ((([]:List Int),false,()),())) (fun k o=>o.length=k) (by
    intro k hk o ho
    have e1:Ot V[k]=some (Oj V[k]):=rfl
    refine⟨?_,fun o' h'=>?_⟩
    ·simp only[FA]
     rw[Ba (by omega),Nb hk]
     simp only[zj,jb]
     rw[e1]
     simp only[jb]
     unfold FF
     cases(Oj V[k]).2.1 with
     |false=>rfl
     |true=>
      simp only[jg,zk,zj]
      rw[Ob (by simp only[jw,j6];omega)]
      rfl
    ·unfold FF at h'
     revert h'
     cases(Oj V[k]).2.1 with
     |false=>intro h;simp at h
     |true=>
      intro h
      simp only[zj,ze]at h
      subst h
      simp[ho]) (by
    intro o ho
    simp only[FA]
    rw[Aa (by omega)];rfl) (by omega) [] rfl
  unfold EC
  erw[h]
  cases Cb (fun _ o w=>FF o w) 0 [] V<;>rfl
noncomputable def Mt(x:Ua):List UInt8:=jf (jf (Hb [116,100,117] x.1.toNat (x.1.toNat+1)) [61]) (Rf (2,x.2.1,x.2.2.1,0,()))
noncomputable def Iq(l:List Ua):List UInt8:=cond (Kc l) (Lib.join (l.map Mt) [32]) []
theorem Lan(x:Ua):(Mt x).length≤60:=by
 have h1:=Xaj (2,x.2.1,x.2.2.1,0,())
 have h2:(Hb ([116,100,117]:List UInt8) x.1.toNat (x.1.toNat+1)).length≤3:=by
  unfold Hb
  rw[qn,List.length_take]
  simp only[jw,j6]
  omega
 unfold Mt
 simp only[zh,qd,jw,j6]
 omega
theorem Dag:∀(l:List Ua) (k:Nat) (L L':List Pa),Cb (fun _ L x=>Zn L x) k L l=.inl L'→∀x∈l,0≤x.1∧x.1≤2
 |[],_,_,_,_,x,hx=>by simp at hx
 |y::l,k,L,L',h,x,hx=>by
  simp only[Cb]at h
  cases hg:Zn L y with
  |inr _=>rw[hg]at h;simp at h
  |inl L1=>
   rw[hg]at h
   simp only at h
   rcases jp.1 hx with rfl|hx
   ·unfold Zn at hg
    cases hs:Bp x (Sd (Wi x.2.1 x.2.2.1) 0 L)with
    |false=>rw[hs]at hg;simp at hg
    |true=>
     simp only[Bp,jd,qz,beq_iff_eq]at hs
     omega
   ·exact Dag l (k+1) L1 L' h x hx
theorem Y6{l:List Ua}(h:Kc l=true):∀x∈l,0≤x.1∧x.1≤2:=by
 simp only[Kc,jd]at h
 have h2:=h.2
 cases hm:W3 l with
 |inr _=>rw[hm]at h2;simp at h2
 |inl L=>exact Dag l 0 [] L hm
theorem Z1(l:List Ua)(hn:l.length≤Da):Wz l=some (Iq l,()):=by
 have h20:Da=1048576:=rfl
 unfold Wz Iq
 rw[VC l hn]
 simp only[jb]
 cases hm:Kc l with
 |false=>rfl
 |true=>
  simp only[jg,zk,zj]
  have h8:=ZY hm
  have hk:=Y6 hm
  have hl:=Yh (step:=fun x:(List (List UInt8)×List Ua×Int×Int×Unit)×Unit=>Xp x.1.1 x.1.2.1 x.1.2.2.1 x.1.2.2.2.1) l Mt
   (fun o k=>((o,l,(l.length:Int),k,()),())) (fun o=>.inl ((o,()),())) (by omega) (fun k hk2 o ho=>by
    have hx:=hk l[k] (qj hk2)
    have hlen:=Lan l[k]
    unfold Mt at hlen
    simp only[Xp]
    rw[Ba (by omega),Nb hk2]
    simp only[zj,jb]
    obtain⟨n,hn⟩:=jv hx.1
    have hn':l[k].1=(n:Int):=hn
    have e1:j4 .i64 (l[k].1+1)=((n+1:Nat):Int):=by rw[hn'];exact Gc (by omega)
    have e2:Nd (ja ([116,100,117]:List UInt8)) l[k].1 ((n+1:Nat):Int)=true:=by
     rw[hn'];exact Xh (by omega) (by simp only[jw,j6];omega)
    rw[e1,e2,Vz]
    have e3:jy ((n+1:Nat):Int)=l[k].1.toNat+1:=by rw[hn'];simp
    rw[e3]
    simp only[zj,jb]
    simp only[zh,qd,jw,j6]at hlen
    rw[Ob (by simp only[jw,j6];omega)]
    simp only[zj]
    rw[Ob (by simp only[zh,qd,jw,j6];omega)]
    simp only[zj]
    rw[Ob (by simp only[jw,j6];omega)]
    rfl) (fun o=>by
    simp only[Xp]
    rw[Aa (by omega)]
    rfl)
  unfold Ft
  erw[hl]
  simp only[jb,qg]
  have hjl:=OK (l.map Mt) [32] 60 (fun x hx=>by
   obtain⟨y,_,rfl⟩:=ql.1 hx
   exact Lan y)
  rw[yu]at hjl
  simp only[jw,j6]at hjl
  rw[Sm (by simp;omega) (by omega)]
  rfl
noncomputable def MV(s:List Ua)(w:List UInt8):List Ua⊕Unit:=
 cond (!(Lib.cut w [61]).2.2) (.inr ()) (cond (!(Mk (Lib.cut w [61]).2.1).2.1) (.inr ()) (cond ((Mk (Lib.cut w [61]).2.1).1.1 !=2) (.inr ())
  (cond (((ja (Lib.cut w [61]).1:Nat):Int) !=1) (.inr ()) (cond (decide (Lib.index [116,100,117] (Lib.cut w [61]).1<0)) (.inr ())
   (.inl (jf s [(Lib.index [116,100,117] (Lib.cut w [61]).1,(Mk (Lib.cut w [61]).2.1).1.2.1,(Mk (Lib.cut w [61]).2.1).1.2.2.1,())]))))))
noncomputable def Gl(s:List UInt8):List Ua×(Bool×Unit):=
 cond (s==([]:List UInt8)) (([]:List Ua),true,()) (match Cb (fun _ o w=>MV o w) 0 [] (Wb 32 [] s)with
  |.inl l=>cond (!Kc l||Iq l !=s) (([]:List Ua),false,()) (l,true,())
  |.inr _=>(([]:List Ua),false,()))
theorem SaF{s s':List Ua}{w:List UInt8}(h:MV s w=.inl s'):s'.length=s.length+1:=by
 unfold MV at h
 revert h
 cases(Lib.cut w [61]).2.2 with
 |false=>intro h;simp at h
 |true=>
  cases(Mk (Lib.cut w [61]).2.1).2.1 with
  |false=>intro h;simp at h
  |true=>
   cases(Mk (Lib.cut w [61]).2.1).1.1 !=2 with
   |true=>intro h;simp at h
   |false=>
    cases(((ja (Lib.cut w [61]).1:Nat):Int) !=1)with
    |true=>intro h;simp at h
    |false=>
     cases decide (Lib.index [116,100,117] (Lib.cut w [61]).1<0)with
     |true=>intro h;simp at h
     |false=>
      intro h
      simp only[jg,zk,ze]at h
      subst h
      simp
theorem AaQ(w p:List UInt8):(Lib.cut w p).2.1.length≤w.length:=by
 unfold Lib.cut
 split<;>simp
theorem Uam:∀(W:List (List UInt8)) (k:Nat) (o o':List Ua),Cb (fun _ o w=>MV o w) k o W=.inl o'→o'.length=o.length+W.length
 |[],k,o,o',h=>by simp only[Cb,ze]at h;subst h;rfl
 |w::W,k,o,o',h=>by
  simp only[Cb]at h
  revert h
  cases hg:MV o w with
  |inr u=>intro h;simp at h
  |inl o1=>
   intro h
   have:=Uam W (k+1) o1 o' h
   have:=SaF hg
   simp only[jw]
   omega
theorem O3{s:List UInt8}(hs:s.length≤1048571):YC s=some (Gl s):=by
 have h20:Da=1048576:=rfl
 unfold YC Gl
 cases s==([]:List UInt8)with
 |true=>rfl
 |false=>
  rw[XS 32 (by omega)]
  simp only[zk,jb]
  have hn:=Gz 32 s []
  have hp:=Rv 32 s []
  generalize Wb 32 [] s=W at hn hp
  have h:=Ug (step:=fun x:(List UInt8×List Ua×List (List UInt8)×Int×Int×Unit)×Unit=>Rs x.1.1 x.1.2.1 x.1.2.2.1 x.1.2.2.2.1 x.1.2.2.2.2.1) W (fun _ o w=>MV o w)
   (fun o i=>((s,o,W,((ja W:Nat):Int),i,()),())) (fun o=>.inl ((s,o,()),())) (fun _=>.inr ((([]:List Ua),false,()),())) (fun k o=>o.length=k) (by
    intro k hk o ho
    refine⟨?_,fun o' h'=>by rw[SaF h',ho]⟩
    have hw:=hp W[k] (qj hk)
    simp only[Rs]
    rw[Ba (by omega),Ve,Ba hk]
    simp only[zj,jn]
    rw[je hk]
    simp only[jb]
    generalize W[k]=w at hw
    have hw2:=AaQ w [61]
    rw[Fak [61] (by simp at hw;omega)]
    simp only[jb]
    rw[EO (by simp at hw;omega)]
    simp only[jb]
    have ei:strings_Index ([116,100,117]:List UInt8) (Lib.cut w [61]).1=some (Lib.index [116,100,117] (Lib.cut w [61]).1,()):=rfl
    rw[ei]
    simp only[jb]
    unfold MV
    cases(Lib.cut w [61]).2.2 with
    |false=>rfl
    |true=>
     cases(Mk (Lib.cut w [61]).2.1).2.1 with
     |false=>rfl
     |true=>
      cases(Mk (Lib.cut w [61]).2.1).1.1 !=2 with
      |true=>rfl
      |false=>
       cases(((ja (Lib.cut w [61]).1:Nat):Int) !=1)with
       |true=>rfl
       |false=>
        cases decide (Lib.index [116,100,117] (Lib.cut w [61]).1<0)with
        |true=>rfl
        |false=>
         simp only[jg,zk]
         rw[Ob (by simp only[jw,j6];omega)]
         rfl) (by
    intro o ho
    simp only[Rs]
    rw[Aa (by omega)];rfl) (by omega) [] rfl
  have hl:∀o,Cb (fun _ o w=>MV o w) 0 [] W=.inl o→o.length≤Da:=fun o ho=>by
   have:=Uam W 0 [] o ho
   simp at this;omega
  unfold Dw
  erw[h]
  revert hl
  cases Cb (fun _ o w=>MV o w) 0 [] W with
  |inr u=>intro _;rfl
  |inl o=>
   intro hl
   have hol:=hl o rfl
   simp only[jb,qg]
   rw[VC o hol]
   simp only[jb]
   cases Kc o with
   |false=>rfl
   |true=>
    simp only[jg,zk,yw]
    rw[Z1 o hol]
    simp only[jb]
    cases Iq o !=s<;>rfl
theorem Kae{s:List UInt8}(h:(Gl s).2.1=true):Kc (Gl s).1=true:=by
 unfold Gl at h⊢
 revert h
 cases s==([]:List UInt8)with
 |true=>intro _;rfl
 |false=>
  simp only[zk]
  cases Cb (fun _ o w=>MV o w) 0 [] (Wb 32 [] s)with
  |inr u=>intro h;simp at h
  |inl l=>
   simp only
   cases hm:Kc l with
   |false=>intro h;simp at h
   |true=>
    cases Iq l !=s with
    |true=>intro h;simp at h
    |false=>intro _;exact hm
abbrev Jj:=List (Int×List Int)
theorem VP{α:Type}:∀{W:List (Int×α)} {x:Int} {w:α},Ce W x=some w→(x,w)∈W
 |[],x,w,h=>by simp[Ce]at h
 |(k,y)::r,x,w,h=>by
  simp only[Ce]at h
  cases hk:x==k with
  |true=>rw[hk]at h;simp at h hk;subst h;subst hk;simp
  |false=>rw[hk]at h;exact jr _ (VP h)
theorem Eag{α:Type}:∀{W:List (Int×α)} {x:Int},Ce W x=none↔∀e∈W,e.1≠x
 |[],x=>by simp[Ce]
 |(k,y)::r,x=>by
  simp only[Ce]
  cases hk:x==k with
  |true=>simp at hk;subst hk;simp
  |false=>
   simp at hk
   simp only[zk,Eag (W:=r),List.forall_mem_cons]
   exact⟨fun h=>⟨fun e=>hk e.symm,h⟩,fun h=>h.2⟩
theorem Nau{α:Type}:∀{W:List (Int×α)} {x:Int} {w:α},(W.map Prod.fst).Nodup→(x,w)∈W→Ce W x=some w
 |[],x,w,_,h=>by simp at h
 |(k,y)::r,x,w,hn,h=>by
  simp only[ym,yo]at hn
  simp only[Ce]
  rcases jp.1 h with h|h
  ·simp only[jh]at h
   rw[h.1,h.2];simp
  ·have:x≠k:=fun e=>hn.1 (ql.2 ⟨(x,w),h,e⟩)
   rw[show(x==k)=false by simpa using this]
   exact Nau hn.2 h
section
variable(nx:Int→Nat→Int) (K:Nat) (fr:Int) (P:Int→Prop)
def NX(x:Int)(w:List Int)(k:Nat)(W:Jj):Jj:=cond (Ce W (nx x k)).isSome W (W++[(nx x k,w++[(k:Int)])])
def Px(x:Int)(w:List Int)(n:Nat)(W:Jj):Jj:=MK (NX nx x w) n W
def MY:Nat→Nat→Jj→Jj
 |0,_,W=>W
 |n+1,i,W=>match W[i]? with
  |none=>W
  |some e=>MY n (i+1) (Px nx e.1 e.2 K W)
def Daj(f:Int)(w:List Int):Int:=w.foldl (fun f k=>nx f k.toNat) f
structure BIn(W:Jj):Prop where
 fst:W[0]?=some (fr,[])
 nd:(W.map Prod.fst).Nodup
 ok:∀e∈W,P e.1
 way:∀e∈W,Daj nx fr e.2=e.1∧∀k∈e.2,0≤k∧k<(K:Int)
 srt:∀(i j:Nat) (hj:j<W.length) (hi:i≤j),(W[i]'(by omega)).2.length≤W[j].2.length
 ln:∀(j:Nat) (hj:j<W.length),W[j].2.length≤j
structure S9(i k:Nat)(W:Jj):Prop extends BIn nx K fr P W where
 lvl:∀(h:i<W.length) (j:Nat) (hj:j<W.length),W[j].2.length≤W[i].2.length+1
 cls:∀(j:Nat) (hj:j<W.length) (k':Nat),j<i∧k'<K∨j=i∧k'<k→∃(q:Nat) (hq:q<W.length),W[q].1=nx W[j].1 k'∧W[q].2.length≤W[j].2.length+1
end
section
variable{nx:Int→Nat→Int} {K:Nat} {fr:Int} {P:Int→Prop}
theorem Taz(f:Int)(w:List Int)(k:Nat):Daj nx f (w++[(k:Int)])=nx (Daj nx f w) k:=by simp[Daj]
theorem LaX(hP:∀x k,P x→k<K→P (nx x k)){i k:Nat}{W:Jj}(h:S9 nx K fr P i k W)(hi:i<W.length)(hk:k<K):S9 nx K fr P i (k+1) (NX nx W[i].1 W[i].2 k W)∧W<+:NX nx W[i].1 W[i].2 k W:=by
 unfold NX
 cases hg:Ce W (nx W[i].1 k)with
 |some w=>
  simp only[Option.isSome_some,zj]
  refine⟨{toBIn:=h.toBIn,lvl:=h.lvl,cls:=fun j hj k' hjk=>?_},List.prefix_refl _⟩
  by_cases hlast:j=i∧k'=k
  ·obtain⟨rfl,rfl⟩:=hlast
   obtain⟨q,hq,he⟩:=qk (VP hg)
   refine⟨q,hq,by rw[he],?_⟩
   exact h.lvl hj q hq
  ·exact h.cls j hj k' (by omega)
 |none=>
  simp only[Option.isSome_none,zk]
  have hlen:(W++[(nx W[i].1 k,W[i].2++[(k:Int)])]).length=W.length+1:=by simp
  have hget:∀(j:Nat) (hj:j<W.length),(W++[(nx W[i].1 k,W[i].2++[(k:Int)])])[j]'(by omega)=W[j]:=fun j hj=>List.getElem_append_left hj
  have hnew:(W++[(nx W[i].1 k,W[i].2++[(k:Int)])])[W.length]'(by omega)=(nx W[i].1 k,W[i].2++[(k:Int)]):=by simp
  have hcase:∀j:Nat,j<(W++[(nx W[i].1 k,W[i].2++[(k:Int)])]).length→j<W.length∨j=W.length:=fun j hj=>by omega
  have hw:=h.way W[i] (qj hi)
  refine⟨{fst:= ?_,nd:= ?_,ok:= ?_,way:= ?_,srt:= ?_,ln:= ?_,lvl:= ?_,cls:= ?_},List.prefix_append _ _⟩
  ·have h0:=h.fst
   rw[List.getElem?_append_left (by omega)]
   exact h0
  ·rw[yy,yp]
   refine⟨h.nd,by simp,?_⟩
   intro a ha b hb
   simp only[ym,List.map_nil,qc]at hb
   subst hb
   obtain⟨e,he,rfl⟩:=ql.1 ha
   exact Eag.1 hg e he
  ·intro e he
   rcases jl.1 he with he|he
   ·exact h.ok e he
   ·simp only[qc]at he
    subst he
    exact hP _ _ (h.ok _ (qj hi)) hk
  ·intro e he
   rcases jl.1 he with he|he
   ·exact h.way e he
   ·simp only[qc]at he
    subst he
    refine⟨by rw[Taz,hw.1],fun q hq=>?_⟩
    rcases jl.1 hq with hq|hq
    ·exact hw.2 q hq
    ·simp only[qc]at hq
     subst hq
     omega
  ·intro a b hb hab
   rcases hcase b hb with hb'|rfl
   ·rw[hget a (by omega),hget b hb']
    exact h.srt a b hb' hab
   ·rcases hcase a (by omega)with ha|rfl
    ·rw[hget a ha,hnew]
     have:=h.lvl hi a ha
     simpa using this
    ·exact jo _
  ·intro j hj
   rcases hcase j hj with hj'|rfl
   ·rw[hget j hj'];exact h.ln j hj'
   ·rw[hnew]
    have:=h.ln i hi
    simp
    omega
  ·intro _ j hj
   rw[hget i hi]
   rcases hcase j hj with hj'|rfl
   ·rw[hget j hj'];exact h.lvl hi j hj'
   ·rw[hnew];simp
  ·intro j hj k' hjk
   have hj':j<W.length:=by omega
   rw[hget j hj']
   by_cases hlast:j=i∧k'=k
   ·obtain⟨rfl,rfl⟩:=hlast
    exact⟨W.length,by omega,by rw[hnew],by rw[hnew];simp⟩
   ·obtain⟨q,hq,h1,h2⟩:=h.cls j hj' k' (by omega)
    exact⟨q,by omega,by rw[hget q hq];exact h1,by rw[hget q hq];exact h2⟩
theorem SY(hP:∀x k,P x→k<K→P (nx x k)){i:Nat}{W:Jj}(h:S9 nx K fr P i 0 W)(hi:i<W.length):∀n,n≤K→S9 nx K fr P i n (Px nx W[i].1 W[i].2 n W)∧W<+:Px nx W[i].1 W[i].2 n W
 |0,_=>⟨h,List.prefix_refl _⟩
 |n+1,hn=>by
  obtain⟨h1,h2⟩:=SY hP h hi n (by omega)
  have hi':i<(Px nx W[i].1 W[i].2 n W).length:=qh hi h2.length_le
  have he:(Px nx W[i].1 W[i].2 n W)[i]=W[i]:=by
   obtain⟨t,ht⟩:=h2
   have:(W++t)[i]?=some W[i]:=by rw[List.getElem?_append_left hi,je hi]
   rw[ht,je hi']at this
   exact zf this
  obtain⟨g1,g2⟩:=LaX hP h1 hi' (by omega)
  rw[he]at g1 g2
  exact⟨g1,h2.trans g2⟩
theorem Dae{i:Nat}{W:Jj}(h:S9 nx K fr P i K W)(hi:i<W.length):S9 nx K fr P (i+1) 0 W where
 toBIn:=h.toBIn
 lvl:=fun h1 j hj=>by
  have:=h.lvl hi j hj
  have:=h.srt i (i+1) h1 (by omega)
  omega
 cls:=fun j hj k' hjk=>h.cls j hj k' (by omega)
structure PaV(nx:Int→Nat→Int)(K:Nat)(fr:Int)(P:Int→Prop)(W:Jj):Prop extends BIn nx K fr P W where
 len:W.length≤16
 cls:∀e∈W,∀k,k<K→∃e'∈W,e'.1=nx e.1 k∧e'.2.length≤e.2.length+1
theorem BP(hB:∀x,P x→0≤x∧x<16){W:Jj}(h:BIn nx K fr P W):W.length≤16:=by
 have hn:(W.map fun e=>e.1.toNat).Nodup:=by
  have:=h.nd
  rw[List.Nodup,List.pairwise_map]at this⊢
  refine(List.Pairwise.and_mem.1 this).imp ?_
  rintro x y ⟨hx,hy,hxy⟩ he
  have h1:=hB _ (h.ok x hx);have h2:=hB _ (h.ok y hy)
  omega
 have:=V8 16 _ hn (by
  intro y hy
  obtain⟨x,hx,rfl⟩:=ql.1 hy
  have:=hB _ (h.ok x hx)
  omega)
 simpa using this
theorem NaC(hB:∀x,P x→0≤x∧x<16)(hP:∀x k,P x→k<K→P (nx x k)):∀(n i:Nat) (W:Jj),S9 nx K fr P i 0 W→17≤n+i→PaV nx K fr P (MY nx K n i W)
 |0,i,W,h,hn=>by
  have hl:=BP hB h.toBIn
  refine{toBIn:=h.toBIn,len:=hl,cls:=fun e he k hk=>?_}
  obtain⟨j,hj,rfl⟩:=qk (l:=W) he
  obtain⟨q,hq,h1,h2⟩:=h.cls j hj k (.inl ⟨by omega,hk⟩)
  exact⟨_,qj hq,h1,h2⟩
 |n+1,i,W,h,hn=>by
  simp only[MY]
  by_cases hi:i<W.length
  ·rw[je hi]
   obtain⟨h1,h2⟩:=SY hP h hi K (jo _)
   exact NaC hB hP n (i+1) _ (Dae h1 (qh hi h2.length_le)) (by omega)
  ·rw[qv (by omega)]
   have hl:=BP hB h.toBIn
   refine{toBIn:=h.toBIn,len:=hl,cls:=fun e he k hk=>?_}
   obtain⟨j,hj,rfl⟩:=qk (l:=W) he
   obtain⟨q,hq,g1,g2⟩:=h.cls j hj k (.inl ⟨by omega,hk⟩)
   exact⟨_,qj hq,g1,g2⟩
theorem N9(h:P fr):S9 nx K fr P 0 0 [(fr,[])]where
 fst:=rfl
 nd:=by simp
 ok:=fun e he=>by simp at he;subst he;exact h
 way:=fun e he=>by simp at he;subst he;exact⟨rfl,by simp⟩
 srt:=fun i j hj hi=>by
  have:j=0:=by simpa using hj
  have:i=0:=by omega
  subst i;subst j;exact jo _
 ln:=fun j hj=>by
  have:j=0:=by simpa using hj
  subst j;simp
 lvl:=fun _ j hj=>by
  have:j=0:=by simpa using hj
  subst j;simp
 cls:=fun j hj k' h=>by omega
end
def Gn(m:Ia)(f:Int)(k:Nat):Int:=XL f (Ui m.2.1 (Mg m f k) k)
theorem EaG(f o:Int)(c:Bool)(a:Ma)(ha:Ub a=true):(RA f o c (CJ a)).1=XL f a:=by
 have h0:∀b:Ma,(RA f o c b).1=XL f b:=fun b=>by
  unfold RA XL
  by_cases h2:b.1=2
  ·simp only[h2,Int.reduceBEq,zj,zk]
   cases b.2.1==0<;>simp only[zj,zk]
  ·simp only[show(b.1==2)=false by simpa using h2,zk]
   generalize Kt .i64 f (Te .i64 1 b.2.2.2.1)=X
   generalize Kj .i64 (Te .i64 1 b.2.2.2.1) 1=Y
   cases b.1==4 with
   |true=>simp only[zj]
   |false=>
    simp only[zk]
    cases b.1==5 with
    |true=>simp only[zj]
    |false=>
     simp only[zk]
     cases b.1==8 with
     |true=>simp only[zj]
     |false=>
      simp only[zk]
      cases b.1==10<;>simp only[zj,zk]
 rw[h0]
 unfold CJ
 cases ht:Qf a with
 |false=>rfl
 |true=>
  unfold Qf at ht
  simp only[jd,qz,beq_iff_eq]at ht
  rw[zj]
  unfold XL
  rcases ht.2 with h|h<;>simp only[h,Int.reduceBEq,zk]
theorem MaZ{m:Ia}(hM:Vp m){f o:Int}(hs:Wp m.2.1.length f o)(c:Bool){k:Nat}(hk:(k:Int)<m.1):(stK m f o c k).1=Gn m f k:=by
 have hm:=Be hM.v
 have hl2:=hm.l2
 have hf1:=hs.f1
 have hp:2^m.2.1.length≤2^4:=Nat.pow_le_pow_right (by omega) hl2
 have hsame:Mg m (Fe .i64 1 f) k=Mg m f k:=ZX _ fun j hj=>Yaa hs.f0 (by omega) hs.f2 j (by omega)
 have hl:=DF hm f k
 have hrow:=hm.row _ hl
 have hact:=hm.act _ hl k (by omega)
 rw[←UO hl (by omega)]at hact
 unfold stK IaI Gn
 rw[hsame]
 exact EaG f o c _ (GF hact)
theorem Oba{m:Ia}(hM:Vp m){f:Int}{k:Nat}(hs:Wp m.2.1.length f 0)(hk:(k:Int)<m.1):Wp m.2.1.length (Gn m f k) 0:=by
 have h1:=(IaU (c:=false) hM hs hk).2.1
 rw[MaZ hM hs false hk]at h1
 exact⟨h1.f0,h1.f1,h1.f2,by omega,by omega⟩
theorem YN{m:Ia}(hM:Vp m){x:Int}(hs:Wp m.2.1.length x 0):0≤x∧x<16:=by
 have hl2:=(Be hM.v).l2
 have hf1:=hs.f1
 have hp:2^m.2.1.length≤2^4:=Nat.pow_le_pow_right (by omega) hl2
 exact⟨hs.f0,by omega⟩
def Uj(m:Ia):Nat:=m.1.toNat
def LR(m:Ia)(fr:Int):Jj:=MY (Gn m) (Uj m) 17 0 [(fr,[])]
abbrev BT(m:Ia)(fr:Int):=S9 (Gn m) (Uj m) fr (fun x=>Wp m.2.1.length x 0)
theorem L0{m:Ia}(hM:Vp m):(Uj m:Int)=m.1∧Uj m≤32:=by
 have hm:=Be hM.v
 have:=hm.k1
 have:=hm.k2
 unfold Uj
 omega
theorem hPm{m:Ia}(hM:Vp m):∀x k,Wp m.2.1.length x 0→k<Uj m→Wp m.2.1.length (Gn m x k) 0:=fun x k hx hk=>Oba hM hx (by have:=L0 hM;omega)
theorem Xan{m:Ia}(hM:Vp m){fr:Int}(h:Wp m.2.1.length fr 0):PaV (Gn m) (Uj m) fr (fun x=>Wp m.2.1.length x 0) (LR m fr):=
 NaC (fun x hx=>YN hM hx) (hPm hM) 17 0 _ (N9 h) (by omega)
theorem NaX{m:Ia}{fr:Int}{W W':Jj}{i k:Nat}(h:BT m fr i k W')(hi:i<W.length)(hp:W<+:W'):Ce W' W[i].1=some W[i].2:=
 Nau h.nd (hp.subset (qj hi))
theorem Tap{m:Ia}(hM:Vp m){fr:Int}{i k:Nat}{W:Jj}(h:BT m fr i k W){x:Int}{w:List Int}(hx:Ce W x=some w):w.length≤16:=by
 obtain⟨j,hj,he⟩:=qk (VP hx)
 have h1:=h.ln j hj
 rw[he]at h1
 have:=BP (fun x hx=>YN hM hx) h.toBIn
 simp only at h1
 omega
def Hl(i:Nat)(W:Jj):List Int:=(W.map Prod.fst).drop i
theorem WaG{i:Nat}{W:Jj}(x:Int)(w:List Int)(h:i≤W.length):Hl i (W++[(x,w)])=Hl i W++[x]:=by
 unfold Hl
 rw[yy,List.drop_append_of_le_length (by simpa using h)]
 rfl
theorem O9(i:Nat)(W:Jj):(Hl i W).length=W.length-i:=by simp[Hl]
theorem Fab{l:List Int}(h:l.length≤1000):Lk l=some (l,()):=by
 unfold Lk
 rw[Ob (by simp;omega)]
 rfl
theorem Fal{m:Ia}(hM:Vp m){fr:Int}{i:Nat}{W:Jj}(h:BT m fr i 0 W)(hi:i<W.length):
 IA (((),W,Hl (i+1) W,W[i].1,m.1,(0:Int),()),(m,()))=some (.inl (((),Px (Gn m) W[i].1 W[i].2 (Uj m) W,Hl (i+1) (Px (Gn m) W[i].1 W[i].2 (Uj m) W),()),(m,()))):=by
 have hm:=Be hM.v
 obtain⟨k1,k2⟩:=L0 hM
 have hl:=V6 (step:=fun x:(Unit×Jj×List Int×Int×Int×Int×Unit)×Ia×Unit=>KJ x.1.1 x.1.2.1 x.1.2.2.1 x.1.2.2.2.1 x.1.2.2.2.2.1 x.1.2.2.2.2.2.1 x.2.1) (Uj m) (by omega)
  (NX (Gn m) W[i].1 W[i].2) W (fun W' k=>(((),W',Hl (i+1) W',W[i].1,m.1,k,()),(m,()))) (fun W'=>.inl (((),W',Hl (i+1) W',()),(m,()))) (by
   intro k hk
   obtain⟨g1,g2⟩:=SY (hPm hM) h hi k (by omega)
   have hgt:=NaX g1 hi g2
   have hln:=Tap hM g1 hgt
   have hlen:=BP (fun x hx=>YN hM hx) g1.toBIn
   have hle:=g2.length_le
   have htl:=O9 (i+1) (Px (Gn m) W[i].1 W[i].2 k W)
   have hit:MK (NX (Gn m) W[i].1 W[i].2) k W=Px (Gn m) W[i].1 W[i].2 k W:=rfl
   rw[hit]
   generalize hW':Px (Gn m) W[i].1 W[i].2 k W=W' at hgt hlen hle htl g1
   simp only[KJ]
   rw[Ba (by omega),YR hm W[i].1 (by omega)]
   simp only[zj,jb]
   rw[show XL W[i].1 (Ui m.2.1 (Mg m W[i].1 k) k)=Gn m W[i].1 k from rfl]
   unfold NX
   cases hg:Ce W' (Gn m W[i].1 k)with
   |some w=>rfl
   |none=>
    simp only[Option.isSome_none,j8,zj,zk]
    rw[hgt]
    simp only[q6]
    rw[Fab (by omega)]
    simp only[jb]
    rw[Ob (by simp;omega),Ob (by rw[htl];simp;omega),WaG _ _ (by omega)]
    simp only[Option.isNone_none,zj]
    rfl) (by
   simp only[KJ]
   rw[Aa (by omega)];rfl)
 unfold IA
 exact hl
theorem VaG{i:Nat}{W:Jj}(h:i<W.length):Hl i W=W[i].1::Hl (i+1) W:=by
 unfold Hl
 rw[List.drop_eq_getElem_cons (by simpa using h)]
 simp
theorem U1{m:Ia}(hM:Vp m){fr:Int}:∀(n i:Nat) (W:Jj),BT m fr i 0 W→17≤n+i→
 Vr (((),W,Hl i W,()),(m,()))=some (.inl ((MY (Gn m) (Uj m) n i W,()),()))
 |n,i,W,h,hn=>by
  have hlen:=BP (fun x hx=>YN hM hx) h.toBIn
  by_cases hi:i<W.length
  ·obtain⟨n',rfl⟩:∃n',n=n'+1:=⟨n-1,by omega⟩
   obtain⟨h1,h2⟩:=SY (hPm hM) h hi (Uj m) (jo _)
   have ih:=U1 hM n' (i+1) _ (Dae h1 (qh hi h2.length_le)) (by omega)
   unfold Vr at ih⊢
   rw[MY,je hi]
   simp only
   refine(Vb (z:=some (Sum.inl (((),Px (Gn m) W[i].1 W[i].2 (Uj m) W,Hl (i+1) (Px (Gn m) W[i].1 W[i].2 (Uj m) W),()),(m,())))) ?_).trans ih
   have htl:=O9 i W
   have hcons:=VaG hi
   have hl1:(Hl i W).length=(Hl (i+1) W).length+1:=by rw[hcons];simp
   simp only[ZS]
   rw[Ba (by omega),show Rb (Hl i W).length 0=true by rw[show(0:Int)=((0:Nat):Int)from rfl,Ve];simp;omega]
   simp only[zj]
   rw[show(Hl i W)[jy 0]?=some W[i].1 by rw[hcons];rfl]
   simp only[jb]
   rw[show Nd (Hl i W).length 1 (((Hl i W).length:Nat):Int)=true from Xh (lo:=1) (by omega) (jo _)]
   simp only[zj,jb]
   rw[show Hb (Hl i W) (jy 1) (jy (((Hl i W).length:Nat):Int))=Hl (i+1) W by
    rw[jn,show jy 1=1 from rfl,hcons]
    unfold Hb
    rw[List.take_length];rfl]
   rw[Fal hM h hi]
   rfl
  ·have hb:MY (Gn m) (Uj m) n i W=W:=by
    cases n with
    |zero=>rfl
    |succ n=>rw[MY,qv (by omega)]
   rw[hb]
   unfold Vr
   refine(Vb (z:=some (Sum.inr (.inl ((W,()),())))) ?_).trans rfl
   have htl:=O9 i W
   simp only[ZS]
   rw[Aa (by omega)];rfl
theorem Gal{m:Ia}(hM:Vp m){fr:Int}(h:Wp m.2.1.length fr 0):OW m fr=some (LR m fr,()):=by
 have:=U1 hM 17 0 [(fr,[])] (N9 h) (by omega)
 unfold OW
 rw[show Option.isNone (Ce ([]:List (Int×List Int)) fr)=true from rfl,zj]
 rw[show(jf ([]:List (Int×List Int)) [(fr,([]:List Int))])=[(fr,[])]from rfl]
 rw[show([fr]:List Int)=Hl 0 [(fr,[])]from rfl,this]
 rfl
theorem OM{m:Ia}(hv:Uc m=true){f:Int}(h:Wp m.2.1.length f 0):Ei m f=some (true,())∧Bo m f=some (true,()):=by
 have hM:=KN hv
 have hz:=hM.z
 have hl:=Be hv
 have hl2:=hl.l2
 have hp:1≤2^m.2.1.length∧2^m.2.1.length≤2^4:=⟨Nat.one_le_two_pow,Nat.pow_le_pow_right (by omega) hl2⟩
 have f0:=h.f0;have f1:=h.f1;have f2:=h.f2
 unfold Ei Bo
 rw[Vi m (by omega),Sk m (by omega),hv]
 simp only[jb,zj,Bd]
 rw[UB (by omega),Ba (show(0:Int)≤(m.2.1.length:Int) by omega),Ba (show f≥0 by omega),show((2:Int)==0)=false from rfl,show(f.tmod 2==0)=true by simpa using f2]
 simp only[zj,zk]
 rw[Mf (by omega) (by omega),Ba (show f<((2^m.2.1.length:Nat):Int)from f1),Ba (show 0≤f∧f≤((2^m.2.1.length:Nat):Int)-1 by omega)]
 exact⟨rfl,rfl⟩
theorem Uak{m:Ia}(hz:Ja Xa m≤Da){f:Int}(h:Ei m f=some (true,())):Uc m=true∧Wp m.2.1.length f 0:=by
 obtain⟨hv,f0,_,f2⟩:=Lao hz h rfl
 refine⟨hv,f0,?_,f2,by omega,by omega⟩
 have hl:=Be hv
 have hl2:=hl.l2
 unfold Ei at h
 rw[Vi m hz,hv]at h
 simp only[jb,zj,show((2:Int)==0)=false from rfl,zk]at h
 rw[Ba (show f≥0 by omega),show(f.tmod 2==0)=true by simpa using f2,Ba (show(0:Int)≤(m.2.1.length:Int) by omega),UB (by omega)]at h
 simpa using h
theorem JaI{m:Ia}(hM:Vp m){f:Int}(h:Wp m.2.1.length f 0){k:Nat}(hk:(k:Int)<m.1):QD m f (k:Int)=some (Gn m f k,())∧JW m f (k:Int)=some (Gn m f k,()):=by
 have hv:=hM.v
 have hz:=hM.z
 have hm:=Be hv
 have hk1:=hm.k1
 have hk2:=hm.k2
 have hl2:=hm.l2
 obtain⟨i1,i2⟩:=OM hv h
 obtain⟨g0,g1⟩:=YN hM h
 have hsame:Mg m (Fe .i64 1 f) k=Mg m f k:=ZX _ fun j hj=>Yaa g0 g1 h.f2 j (by omega)
 have hl:=DF hm f k
 have hrow:=hm.row _ hl
 have hact:=hm.act _ hl k (by omega)
 rw[←UO hl (by omega)]at hact
 constructor
 ·unfold QD
  rw[i2]
  simp only[jb,jg,zk,Bd]
  rw[Mf (n:=m.1-1) (by omega) (by omega),Ba (show(0:Int)≤(k:Int)∧(k:Int)≤m.1-1 by omega),WK (by omega) hv _ hk,hsame]
  simp only[jb,jg,zk]
  unfold Gn
  generalize Ui m.2.1 (Mg m f k) k=a at hact⊢
  unfold XL
  cases h4:(a.1==4)with
  |true=>rw[Ba (Zai hact (.inr (.inl (by simpa using h4)))).1];rfl
  |false=>
   cases h5:(a.1==5)with
   |true=>rw[Ba (Zai hact (.inr (.inr (.inl (by simpa using h5))))).1];rfl
   |false=>rfl
 ·unfold JW
  rw[i1]
  simp only[jb,jg,zk]
  rw[Aa (show¬(k:Int)<0 by omega),Aa (show¬(k:Int)≥m.1 by omega),YR hm f hk]
  rfl
theorem Z3{α:Type}:∀(W:List (Int×α)) (y:Int) (w:α) (x:Int),Ce W y=none→Ce (W++[(y,w)]) x=if x=y then some w else Ce W x
 |[],y,w,x,_=>by
  by_cases h:x=y
  ·subst h;simp[Ce]
  ·simp only[yi,Ce,if_neg h,show(x==y)=false by simpa using h,zk]
 |(k,z)::r,y,w,x,hn=>by
  simp only[Ce]at hn
  have hyk:(y==k)=false:=by
   cases hk:y==k with
   |true=>rw[hk]at hn;simp at hn
   |false=>rfl
  rw[hyk]at hn
  simp only[zk]at hn
  simp only[yj,Ce]
  cases hx:x==k with
  |true=>
   have:x=k:=by simpa using hx
   have hne:x≠y:=fun e=>by rw[←e,this]at hyk;simp at hyk
   simp[hne]
  |false=>simp only[zk];exact Z3 r y w x hn
def ZB(W:Jj):List (List Int):=(zb 16).map fun x=>(Ce W ((x:Nat):Int)).getD []
def OH(W:Jj):List Bool:=(zb 16).map fun x=>(Ce W ((x:Nat):Int)).isSome
theorem JK(W:Jj):(ZB W).length=16:=by simp[ZB]
theorem KP(W:Jj):(OH W).length=16:=by simp[OH]
theorem IK(W:Jj){x:Nat}(h:x<16):(ZB W)[x]?=some ((Ce W ((x:Nat):Int)).getD []):=by simp[ZB,List.getElem?_map,List.getElem?_range h]
theorem XU(W:Jj){x:Nat}(h:x<16):(OH W)[x]?=some (Ce W ((x:Nat):Int)).isSome:=by simp[OH,List.getElem?_map,List.getElem?_range h]
theorem LaC{W:Jj}{y:Nat}(hy:y<16)(w:List Int)(hn:Ce W ((y:Nat):Int)=none):(ZB W).set y w=ZB (W++[((y:Int),w)]):=by
 apply qr
 intro x
 by_cases hx:x<16
 ·rw[IK _ hx,Z3 W (y:Int) w _ hn,List.getElem?_set]
  by_cases hxy:y=x
  ·subst hxy
   rw[if_pos rfl,if_pos rfl,if_pos (by rw[JK];omega)];rfl
  ·rw[if_neg hxy,IK _ hx,if_neg (by omega)]
 ·rw[qv (by rw[j7,JK];omega),qv (by rw[JK];omega)]
theorem IaD{W:Jj}{y:Nat}(hy:y<16)(w:List Int)(hn:Ce W ((y:Nat):Int)=none):(OH W).set y true=OH (W++[((y:Int),w)]):=by
 apply qr
 intro x
 by_cases hx:x<16
 ·rw[XU _ hx,Z3 W (y:Int) w _ hn,List.getElem?_set]
  by_cases hxy:y=x
  ·subst hxy
   rw[if_pos rfl,if_pos rfl,if_pos (by rw[KP];omega)];rfl
  ·rw[if_neg hxy,XU _ hx,if_neg (by omega)]
 ·rw[qv (by rw[j7,KP];omega),qv (by rw[KP];omega)]
theorem Yae{m:Ia}(hM:Vp m){fr:Int}{i:Nat}{W:Jj}(h:BT m fr i 0 W)(hi:i<W.length):
 Rn (((),ZB W,OH W,W.map Prod.fst,(i:Int),W[i].1,(0:Int),()),(m,()))=
  some (.inl (((),ZB (Px (Gn m) W[i].1 W[i].2 (Uj m) W),OH (Px (Gn m) W[i].1 W[i].2 (Uj m) W),(Px (Gn m) W[i].1 W[i].2 (Uj m) W).map Prod.fst,(i:Int),()),(m,()))):=by
 have hm:=Be hM.v
 obtain⟨k1,k2⟩:=L0 hM
 have hx:=h.ok _ (qj hi)
 obtain⟨x0,x1⟩:=YN hM hx
 have hl:=V6 (step:=fun x:(Unit×List (List Int)×List Bool×List Int×Int×Int×Int×Unit)×Ia×Unit=>Dt x.1.1 x.1.2.1 x.1.2.2.1 x.1.2.2.2.1 x.1.2.2.2.2.1 x.1.2.2.2.2.2.1 x.1.2.2.2.2.2.2.1 x.2.1) (Uj m) (by omega)
  (NX (Gn m) W[i].1 W[i].2) W (fun W' k=>(((),ZB W',OH W',W'.map Prod.fst,(i:Int),W[i].1,k,()),(m,()))) (fun W'=>.inl (((),ZB W',OH W',W'.map Prod.fst,(i:Int),()),(m,()))) (by
   intro k hk
   obtain⟨g1,g2⟩:=SY (hPm hM) h hi k (by omega)
   have hgt:=NaX g1 hi g2
   have hln:=Tap hM g1 hgt
   have hlen:=BP (fun x hx=>YN hM hx) g1.toBIn
   have hny:=hPm hM _ k hx hk
   obtain⟨y0,y1⟩:=YN hM hny
   have hit:MK (NX (Gn m) W[i].1 W[i].2) k W=Px (Gn m) W[i].1 W[i].2 k W:=rfl
   rw[hit]
   generalize hW':Px (Gn m) W[i].1 W[i].2 k W=W' at hgt hlen g1
   simp only[Dt]
   rw[Ba (by omega),(JaI hM hx (by omega)).1]
   simp only[zj,jb]
   obtain⟨y,hy⟩:=jv y0
   obtain⟨xn,hxn⟩:=jv x0
   rw[Ba (by omega)]
   unfold NX
   rw[hy,Ve,KP,Ba (by omega),jn,XU W' (by omega)]
   simp only[zj,jb]
   cases hg:Ce W' (y:Int)with
   |some w=>rfl
   |none=>
    simp only[Option.isSome_none,j8,zj,zk]
    rw[hxn]at hgt⊢
    rw[Ve,Ve,JK,Ba (show xn<16 by omega),Ba (show y<16 by omega),jn,IK W' (by omega),hgt]
    simp only[zj,jb,q6]
    have hset:j5 (ZB W') xn W[i].2=ZB W':=by
     apply qr
     intro z
     rw[List.getElem?_set]
     by_cases hz:xn=z
     ·subst hz
      rw[if_pos rfl,if_pos (by rw[JK];omega),IK W' (by omega),hgt];rfl
     ·rw[if_neg hz]
    rw[hset,IK W' (by omega)]
    simp only[jb]
    rw[Ob (by simp;omega),Ob (by simp;omega),Ob (by simp;omega)]
    simp only[zj]
    rw[show jf (jf ([]:List Int) W[i].2) [(k:Int)]=W[i].2++[(k:Int)]from rfl,LaC (by omega) _ hg,IaD (by omega) (W[i].2++[(k:Int)]) hg]
    simp only[yy,ym,List.map_nil,zh]) (by
   simp only[Dt]
   rw[Aa (by omega)];rfl)
 unfold Rn
 exact hl
theorem GX{m:Ia}(hM:Vp m){fr:Int}:∀(n i:Nat) (W:Jj),BT m fr i 0 W→17≤n+i→
 Dl (((),ZB W,OH W,W.map Prod.fst,(i:Int),()),(m,()))=some (.inl ((ZB (MY (Gn m) (Uj m) n i W),OH (MY (Gn m) (Uj m) n i W),()),()))
 |n,i,W,h,hn=>by
  have hlen:=BP (fun x hx=>YN hM hx) h.toBIn
  by_cases hi:i<W.length
  ·obtain⟨n',rfl⟩:∃n',n=n'+1:=⟨n-1,by omega⟩
   obtain⟨h1,h2⟩:=SY (hPm hM) h hi (Uj m) (jo _)
   have ih:=GX hM n' (i+1) _ (Dae h1 (qh hi h2.length_le)) (by omega)
   unfold Dl at ih⊢
   rw[MY,je hi]
   simp only
   refine(Vb (z:=some (Sum.inl (((),ZB (Px (Gn m) W[i].1 W[i].2 (Uj m) W),OH (Px (Gn m) W[i].1 W[i].2 (Uj m) W),(Px (Gn m) W[i].1 W[i].2 (Uj m) W).map Prod.fst,((i+1:Nat):Int),()),(m,())))) ?_).trans ih
   simp only[XF]
   rw[Ba (by simp;omega),Ve,Ba (by simpa using hi),jn]
   simp only[zj]
   rw[show(W.map Prod.fst)[i]?=some W[i].1 by rw[List.getElem?_map,je hi];rfl]
   simp only[jb]
   rw[Yae hM h hi]
   simp only[jb,qg]
   rw[Gc (by omega)]
  ·have hb:MY (Gn m) (Uj m) n i W=W:=by
    cases n with
    |zero=>rfl
    |succ n=>rw[MY,qv (by omega)]
   rw[hb]
   unfold Dl
   refine(Vb (z:=some (Sum.inr (.inl ((ZB W,OH W,()),())))) ?_).trans rfl
   simp only[XF]
   rw[Aa (by simp;omega)];rfl
theorem Zae{m:Ia}(hM:Vp m){fr:Int}(h:Wp m.2.1.length fr 0):EH m fr=some (ZB (LR m fr),OH (LR m fr),()):=by
 have hs:=GX hM 17 0 [(fr,[])] (N9 h) (by omega)
 obtain⟨x0,x1⟩:=YN hM h
 obtain⟨x,rfl⟩:=jv x0
 have e1:ZB [((x:Int),[])]=yf 16 ([]:List Int):=by
  apply qr
  intro z
  by_cases hz:z<16
  ·rw[IK _ hz,List.getElem?_replicate,if_pos hz]
   simp only[Ce]
   cases((z:Int)==(x:Int))<;>rfl
  ·rw[qv (by rw[JK];omega),qv (by simp;omega)]
 have e2:OH [((x:Int),[])]=j5 (yf 16 false) x true:=by
  apply qr
  intro z
  by_cases hz:z<16
  ·rw[XU _ hz,List.getElem?_set]
   simp only[Ce]
   by_cases hxz:x=z
   ·subst hxz
    rw[if_pos rfl,if_pos (by simp;omega)];simp
   ·rw[if_neg hxz,List.getElem?_replicate,if_pos hz,show((z:Int)==(x:Int))=false by simp;omega];rfl
  ·rw[qv (by rw[KP];omega),qv (by simp;omega)]
 rw[e1,e2]at hs
 unfold EH
 rw[show(((16:Int)==(16:Int))&&(decide ((0:Int)≤(16:Int))&&decide ((16:Int)≤((Wa:Nat):Int))))=true by rw[Bg];rfl]
 simp only[zj]
 rw[show jy 16=16 from rfl,Ve,Ba (by simp;omega),jn,List.getElem?_replicate,if_pos (by omega)]
 simp only[zj,jb]
 rw[show([((x:Nat):Int)]:List Int)=zg Prod.fst [(((x:Nat):Int),([]:List Int))]from rfl,show(0:Int)=((0:Nat):Int)from rfl,hs]
 rfl
theorem Cah{m:Ia}(hM:Vp m){f t:Int}(h:Wp m.2.1.length f 0)(ht:Wp m.2.1.length t 0):Kk m f t=some ((Ce (LR m f) t).getD [],(Ce (LR m f) t).isSome,()):=by
 unfold Kk
 rw[(OM hM.v h).1,(OM hM.v ht).1]
 simp only[jb,jg,zk]
 rw[Gal hM h]
 rfl
theorem Tah{m:Ia}(hM:Vp m){f t:Int}(h:Wp m.2.1.length f 0)(ht:Wp m.2.1.length t 0):Fg m f t=some ((Ce (LR m f) t).getD [],(Ce (LR m f) t).isSome,()):=by
 unfold Fg
 rw[(OM hM.v h).2,(OM hM.v ht).2]
 simp only[jb,jg,zk]
 rw[Zae hM h]
 have h16:=YN hM ht
 obtain⟨n,rfl⟩:∃n:Nat,t=(n:Int):=⟨t.toNat,by omega⟩
 have hn:n<16:=by omega
 simp only[jb]
 rw[Ve,KP,Ba hn,jn,XU _ hn,Ve,JK,Ba hn,IK _ hn]
 simp only[zj,jb]
 cases hg:Ce (LR m f) (n:Int)with
 |none=>rfl
 |some w=>
  simp only[Option.isSome_some,jg,zk,q6]
  obtain⟨j,hj,he⟩:=qk (VP hg)
  have hw:=Xan hM h
  have h1:=hw.ln j hj
  rw[he]at h1
  have h2:=hw.len
  simp only at h1
  rw[Ob (by simp;omega)]
  rfl
end KF
