/- An evaluator of Go functions on plain data, its soundness, and plain laws on what the functions compute, part 2 (conditions: as each lemma tells). -/
import Derived.Test.YteooipbgmfmhfaaGreatDoorA
import Derived.Laws.CopyRow
import Derived.MapKept
import Derived.Orders
set_option linter.unusedSimpArgs false
set_option linter.unusedVariables false
namespace KF
open Go
open List renaming length → ja, getElem?_eq_getElem → je, append → jf, mem_append → jl, mem_cons → jp, mem_cons_of_mem → jr, length_cons → jw, set → j5, length_nil → j6, mem_singleton → qb, length_append → qc, getD_eq_getElem?_getD → qe, getElem_mem → qi, getElem_of_mem → qj, mem_map → qk, length_drop → ql, ext_getElem? → qp, drop_drop → qq, toArray → qr, getD → qs, getElem?_eq_none → qt, mem_append_left → qu, mem_append_right → qv, any_eq_true → qy, append_assoc → q0, eq_nil_of_length_eq_zero → q7, getElem?_eq_some_iff → q8, length_eq_one_iff → q9, replicate → yd, nil_append → yg, cons_append → yh, map_cons → yk, nodup_cons → ym, nodup_append → yn, size_toArray → yo, flatten_cons → yp, length_map → yr, mem_map_of_mem → yv, map_append → yw, all_eq_true → yx, append_nil → yy, range → y3, map → zd, append_eq → ze, not_mem_nil → zf
open Option renaming bind_some → jb, bind → jz, map_some → qa, bind_eq_some_iff → qd, getD_some → qz, map_eq_some_iff → yz
open Option.some renaming injEq → jc, inj → zb
open Bool renaming and_eq_true → jd, not_true → jg, true_and → jk, false_eq_true → jq, not_false → j7, not_eq_true → j8, false_and → qh, eq_iff_iff → qm, or_eq_true → qx, not_eq_true' → yl, or_eq_false_iff → yt, false_or → yu
open Prod.mk renaming injEq → jh
open Nat renaming ble_eq_true_of_le → ji, mul_le_mul_right → jm, le_refl → jo, zero_add → js, add_assoc → jt, eq_of_beq_eq_true → ju, ble → jx, le_trans → j9, lt_of_lt_of_le → qg, beq → qw, le_of_ble_eq_true → q6, add_zero → ya, blt → yb, blt_eq → ye, add_mul → yf, beq_refl → yj, succ_mul → yq
open Int renaming toNat_natCast → jn, eq_ofNat_of_zero_le → jv, toNat → jy, tmod → yc
open Go.IntKind renaming wrap → j4
open Sum renaming elim_inl → qf
open Result renaming andThen_ok → qn
open Sem renaming run_bind → qo
open List.cons renaming injEq → yi
open Sum.inl renaming injEq → za
theorem NW{L:List Value}{i size j:Nat}(hj:j<size):(FG L i size)[j]?=L[i*size+j]?:=by
 simp[FG,hj]
theorem El.one{w:World}{O:Nat→Prop}{dq:Bool}{e:Ty}{xs:List (T e)}{L:List Value}{Fs:List (List Nat)}(h:El w O dq e xs L Fs):∀v∈L,v.oneCell'=true:=by
 intro v hv
 obtain⟨p,hp,hpv⟩:=List.mem_iff_getElem.1 hv
 have hlen:=h.len
 rcases Nat.eq_zero_or_pos e.size with h0|h0
 ·rw[h0,Nat.mul_zero]at hlen
  omega
 ·have hi:p/e.size<ja xs:=by
   rw[Nat.div_lt_iff_lt_mul h0]
   omega
  have hdm:p/e.size*e.size+p%e.size=p:=Nat.div_add_mod' p e.size
  have hm:(FG L (p/e.size) e.size)[p%e.size]?=some v:=by
   rw[NW (Nat.mod_lt _ h0),hdm,je hp,hpv]
  have hmem:v∈FG L (p/e.size) e.size:=List.mem_of_getElem? hm
  have:=h.el _ hi
  cases dq with
  |true=>
   simp only[if_true]at this
   exact this.one v hmem
  |false=>
   simp only[jq,if_false]at this
   exact this.1.one v hmem
theorem Yi.up{w:World}{O:Nat→Prop}{dp:Bool}{e:Ty}{xs:List (T e)}{v:Value}{F:List Nat}(h:Yi w O dp e xs v F):Yi w O (dp||e.flat) e xs v F:=by
 cases dp with
 |true=>exact h
 |false=>
  cases hf:e.flat with
  |false=>exact h
  |true=>
   obtain⟨hm,h|⟨bl,off,cap,cur,et,Fs,h1,hh,h2,h3,h4,hF,hel⟩⟩:=h
   ·exact⟨hm,.inl h⟩
   ·refine⟨hm,.inr ⟨bl,off,cap,cur,et,Fs,h1,hh,h2,h3,h4,hF,hel.len,hel.flen,fun i hi=>?_⟩⟩
    have:=hel.el i hi
    simp only[jq,if_false]at this
    simp only[yu,if_true]
    rw[this.2]
    exact this.1.flat hf
theorem F6{L M:List (List Nat)}(h:L.Sublist M):L.flatten.Sublist M.flatten:=by
 induction h with
 |slnil=>simp
 |cons a _ ih=>rw[yp];exact ih.trans (List.sublist_append_right _ _)
 |cons_cons a _ ih=>rw[yp,yp];exact(List.Sublist.refl a).append ih
theorem El.nils{w:World}{O:Nat→Prop}{e:Ty}{xs:List (T e)}{L:List Value}{Fs:List (List Nat)}(h:El w O e.flat e xs L Fs):Fs.flatten=[]:=
 NI fun i hi=>by
  have:=h.el i (by rw[←h.flen];exact hi)
  split at this
  ·rename_i hfl;exact Tz hfl this
  ·exact this.2
theorem El.cut{w:World}{O:Nat→Prop}{dq:Bool}{e:Ty}{xs:List (T e)}{L:List Value}{Fs:List (List Nat)}(h:El w O dq e xs L Fs){lo hi:Nat}(hlo:lo≤hi)(hhi:hi≤ja xs):
 El w O dq e (Ya xs lo hi) ((L.drop (lo*e.size)).take ((hi-lo)*e.size)) ((Fs.drop lo).take (hi-lo)):=by
 have hlen:ja (Ya xs lo hi)=hi-lo:=JL (xs:=(xs:List (T e))) (lo:=lo) hhi
 have hmul:(lo+(hi-lo))*e.size≤ja xs*e.size:=jm _ (by omega)
 rw[yf]at hmul
 refine⟨?_,?_,fun i hi'=>?_⟩
 ·rw[List.length_take,ql,h.len,hlen];omega
 ·rw[List.length_take,ql,h.flen,hlen];omega
 ·have hi2:i<hi-lo:=by rw[←hlen];exact hi'
  have h2:lo+i<ja xs:=by omega
  have:=h.el (lo+i) h2
  rw[J1 (xs:=(xs:List (T e))) hi' h2]
  have hg:((Fs.drop lo).take (hi-lo)).getD i []=Fs.getD (lo+i) []:=by
   simp[qs,hi2]
  have he:FG ((L.drop (lo*e.size)).take ((hi-lo)*e.size)) i e.size=FG L (lo+i) e.size:=by
   unfold FG
   have h3:(i+1)*e.size≤(hi-lo)*e.size:=jm _ hi2
   rw[yq]at h3
   rw[List.drop_take,List.take_take,qq,yf]
   congr 1
   omega
  rw[hg,he]
  exact this
theorem Yi.slice{w:World}{O:Nat→Prop}{dp:Bool}{e:Ty}{xs:List (T e)}{v:Value}{F:List Nat}(h:Yi w O dp e xs v F):∃ad cap,v=.slice ad (ja xs) cap∧ja xs≤cap:=by
 obtain⟨hm,⟨h1,h2,h3⟩|⟨bl,off,cap,cur,et,Fs,h1,hh,h2,_⟩⟩:=h
 ·subst h2;exact⟨none,0,h1,jo _⟩
 ·exact⟨_,cap,h1,h2⟩
theorem Yi.addr{w:World}{O:Nat→Prop}{dp:Bool}{e:Ty}{xs:List (T e)}{v:Value}{F:List Nat}(h:Yi w O dp e xs v F){ad:Addr}{n cap:Nat}(hv:v=.slice (some ad) n cap):∃b off,ad=⟨b,off,none⟩:=by
 obtain⟨hm,⟨h1,h2,h3⟩|⟨bl,off,cap,cur,et,Fs,h1,hh,h2,_⟩⟩:=h
 ·rw[hv]at h1;simp at h1
 ·rw[hv]at h1
  simp only[Value.slice.injEq,jc]at h1
  exact⟨bl,off,h1.1⟩
theorem Yi.cut{w:World}{O:Nat→Prop}{dp:Bool}{e:Ty}{xs:List (T e)}{v:Value}{F:List Nat}(h:Yi w O dp e xs v F){ad:Option Addr}{n cap lo hi j:Nat}(hv:v=.slice ad n cap)(hlo:lo≤hi)(hhi:hi≤ja xs)
 (hj1:j≤lo) (hj2:lo<cap→j=lo):
 ∃F',F'.Sublist F∧(F.length≤1→F'=F)∧Yi w O dp e (Ya xs lo hi) (.slice (ad.map (·.add (j*e.size))) (hi-lo) (cap-lo)) F':=by
 have hlen:ja (Ya xs lo hi)=hi-lo:=JL (xs:=(xs:List (T e))) (lo:=lo) hhi
 obtain⟨hm,⟨h1,h2,h3⟩|⟨bl,off,cap',cur,et,Fs,h1,hh,h2,h3,h4,hF,hel⟩⟩:=h
 ·subst h2
  rw[hv]at h1
  simp only[Value.slice.injEq]at h1
  obtain⟨rfl,rfl,rfl⟩:=h1
  simp at hhi
  obtain rfl:lo=0:=by omega
  subst hhi
  exact⟨[],by simp,fun _=>h3.symm,by simp[Ya],.inl ⟨by simp,by simp[Ya],rfl⟩⟩
 ·rw[hv]at h1
  simp only[Value.slice.injEq]at h1
  obtain⟨rfl,rfl,rfl⟩:=h1
  have hcap:=jm e.size h2
  have hjc:j*e.size≤cap*e.size:=jm _ (by omega)
  have hmul:(lo+(hi-lo))*e.size≤ja xs*e.size:=jm _ (by omega)
  rw[yf]at hmul
  have hsl:((Fs.drop lo).take (hi-lo)).flatten.Sublist Fs.flatten:=F6 ((List.take_sublist _ _).trans (List.drop_sublist _ _))
  refine⟨bl::((Fs.drop lo).take (hi-lo)).flatten,?_,?_,by rw[hlen];omega,.inr ⟨bl,off+j*e.size,cap-lo,cur,et,_,?_,hh,by rw[hlen];omega,by omega,?_,rfl,?_⟩⟩
  ·rw[hF]
   exact hsl.cons_cons _
  ·intro h1
   rw[hF]at h1⊢
   simp only[jw]at h1
   have h2:Fs.flatten=[]:=q7 (by omega)
   rw[h2]at hsl⊢
   rw[List.eq_nil_of_sublist_nil hsl]
  ·rw[hlen];simp[Jr]
  ·have:(j+(cap-lo))*e.size≤cap*e.size:=jm _ (by omega)
   rw[yf]at this
   omega
  ·have hc:=hel.cut hlo hhi
   rw[hlen]
   rcases Nat.lt_or_ge lo cap with hl|hl
   ·obtain rfl:=hj2 hl
    rw[OT _ _ _ _ _ hmul]at hc
    exact hc
   ·have h0:hi-lo=0:=by omega
    have hx0:Ya xs lo hi=([]:List (T e)):=q7 (hlen.trans h0)
    rw[h0]at hc⊢
    simpa[Ae]using hc
theorem Yi.flatup{w:World}{O:Nat→Prop}{dp:Bool}{e:Ty}{xs:List (T e)}{v:Value}{F:List Nat}(h:Yi w O dp e xs v F)(hf:e.flat=true∨dp=false):Yi w O e.flat e xs v F:=by
 cases hfl:e.flat with
 |true=>have:=h.up;rw[hfl,Bool.or_true]at this;exact this
 |false=>
  rcases hf with h1|h1
  ·rw[hfl]at h1;simp at h1
  ·rw[h1]at h;exact h
theorem Yi.len1{w:World}{O:Nat→Prop}{e:Ty}{xs:List (T e)}{v:Value}{F:List Nat}(h:Yi w O e.flat e xs v F):F.length≤1:=by
 obtain⟨hm,⟨_,_,h3⟩|⟨bl,off,cap,cur,et,Fs,h1,hh,h2,h3,h4,hF,hel⟩⟩:=h
 ·rw[h3];simp
 ·have:Fs.flatten=[]:=hel.nils
  rw[hF,this];simp
theorem Yi.stable{w w':World}{O O':Nat→Prop}{dp:Bool}{e:Ty}{xs:List (T e)}{v:Value}{F:List Nat}(h:Yi w O dp e xs v F)
 (hv:∀b,¬O b→b<w.heap.size→w'.heap[b]?=w.heap[b]?) (hO:∀b,b<w.heap.size→¬O b→¬O' b) (hF:∀b,b∈F→w'.heap[b]?=w.heap[b]?):Yi w' O' dp e xs v F:=by
 obtain⟨hm,h|⟨bl,off,cap,cur,et,Fs,h1,hh,h2,h3,h4,hF',hel⟩⟩:=h
 ·exact⟨hm,.inl h⟩
 ·subst hF'
  exact⟨hm,.inr ⟨bl,off,cap,cur,et,Fs,h1,(hF bl (by simp)).trans hh,h2,h3,h4,rfl,hel.stable hv hO fun b hb=>hF b (jr _ hb)⟩⟩
section
variable{P:Program} {Out:Type} {n0:Nat} {A:Fx} {O0:Nat→Prop} {w0 w w':World} {s:AS} {σ σ':Nat→Value} {φ φ':Nat→List Nat} {a:Act}
variable{o:Oper} {Q:Exit→Act→World→Prop} {k:AS→Option Out} {out:Out} {d:D} {v:Value} {upd:List (Nat×Option Ka)} {dst:Option Tmp} {G:Sf}
theorem U8{size:Nat}{tx:TypeId}(hk:(∃e',P.underlying tx=some (.slice e'))∨P.underlying tx=some .string)(cap:Nat):Src P size tx (.slice none 0 cap) 0 [] w:=
 ⟨hk,fun _=>rfl,run_firstCells_none w size 0 0 cap,run_firstCells_none w.drew size 0 0 cap,by simp,fun _ h=>by cases h⟩
theorem E3{size:Nat}{tx:TypeId}(hk:(∃e',P.underlying tx=some (.slice e'))∨P.underlying tx=some .string)(ad:Addr)(n cap:Nat)(news:List Value)(hl:news.length=n*size)
 (hnews:∀j u,news[j]?=some u→w.cell? (ad.add j)=some u) (h1:∀u∈news,u.oneCell'=true):Src P size tx (.slice (some ad) n cap) n news w:=
 ⟨hk,fun _=>rfl,run_firstCells_some w size n ad n cap news hl hnews,run_firstCells_some w.drew size n ad n cap news hl (by simpa using hnews),hl,h1⟩
theorem Faa{bl off n:Nat}{cur:Array Value}{et:TypeId}{fr:Nat×Nat}(hh:w.heap[bl]?=some (.cells cur et fr))(hs:off+n≤cur.size):
 ∀j u,(Ae cur off n)[j]?=some u→w.cell? ((⟨bl,off,none⟩:Addr).add j)=some u:=by
 intro j u hu
 rw[Jr,cell_of_row w bl (off+j) cur et fr hh]
 have hj:j<n:=by
  have:=(q8.1 hu).1
  rwa [De hs]at this
 rwa [Ag _ _ _ _ hj]at hu
theorem Nam{e:Ty}{O:Nat→Prop}{dq:Bool}{ys:List (T e)}{F:List Nat}{tx:TypeId}(hk:(∃e',P.underlying tx=some (.slice e'))∨P.underlying tx=some .string)(h:Yi w O dq e ys v F):
 ∃news Gs,Src P e.size tx v (ja ys) news w∧El w O dq e ys news Gs∧Gs.flatten.Sublist F:=by
 obtain⟨hm,⟨h1,h2,h3⟩|⟨bl,off,cap,cur,et,Fs,h1,hh,h2,h3,h4,hF,hel⟩⟩:=h
 ·subst h2
  rw[h1]
  exact⟨[],[],U8 hk 0,El.nil,by simp⟩
 ·have:=jm e.size h2
  refine⟨_,Fs,?_,hel,by rw[hF];exact List.sublist_cons_self _ _⟩
  rw[h1]
  exact E3 hk _ _ _ _ hel.len (Faa hh (by omega)) hel.one
theorem CV(h:Db n0 A O0 w0 s σ φ a w){id:Nat}{e:Ty}{dp:Bool}{xs:List (T e)}(hb:s.heap id=some (.row e dp xs))(hv:Td w (OO O0 s φ) s.heap σ (.own id) v):
 Yi w (OO O0 s φ) (dp||e.flat) e xs v (φ id):=by
 have:=Ym.1 (h.hp id _ hb)
 rw[QK]at hv
 rw[hv.2 _ _ hb rfl]
 exact this.up
theorem T8(h:Db n0 A O0 w0 s σ φ a w){e:Ty}{db:D}{ys:List (T e)}{dq:Bool}{m:List Nat}(hs:GQ s e db=some (ys,dq,m))(hv:Td w (OO O0 s φ) s.heap σ db v)
 {tx:TypeId} (hk:(∃e',P.underlying tx=some (.slice e'))∨P.underlying tx=some .string):
 ∃news Gs,Src P e.size tx v (ja ys) news w∧El w (OO O0 s φ) dq e ys news Gs∧Gs.flatten.Sublist (Ha φ m)∧∀j,j∈m→∃b,s.heap j=some b:=by
 unfold GQ at hs
 split at hs
 ·simp only[jc,jh]at hs
  obtain⟨rfl,rfl,rfl⟩:=hs
  rw[YP]at hv
  rw[hv]
  exact⟨[],[],U8 hk 0,El.nil,by simp,by simp⟩
 ·rename_i e' ys'
  split at hs
  ·rename_i q hq
   subst q
   simp only[jc,jh]at hs
   obtain⟨rfl,rfl,rfl⟩:=hs
   rw[QO]at hv
   obtain⟨ad,cap,hv,hc,hm,hd⟩:=hv
   simp only[yi,and_true]at hv
   rcases hd with hd|⟨bl,off,cur,et,fr,hd,hO,hh,hsz,hel⟩
   ·subst hd
    rw[hv]
    refine⟨[],[],?_,El.nil,by simp,by simp⟩
    cases ad with
    |none=>exact U8 hk cap
    |some ad=>exact E3 hk ad 0 cap [] (by simp) (by simp) (by simp)
   ·have hEl:El w (OO O0 s φ) e'.flat e' ys' (Ae cur off (ja ys'*e'.size)) (yd (ja ys') []):=by
     refine⟨De hsz,by simp,fun i hi=>?_⟩
     have hg:(yd (ja ys') ([]:List Nat)).getD i []=[]:=by simp[qs,hi]
     rw[VS hi,hg]
     cases hf:e'.flat with
     |true=>exact(hel i hi).flat hf
     |false=>simpa using hel i hi
    refine⟨_,_,?_,hEl,by simp,by simp⟩
    rw[hv,hd]
    exact E3 hk _ _ _ _ hEl.len (Faa hh hsz) hEl.one
  ·simp at hs
 ·rename_i y
  split at hs
  ·rename_i q hq
   subst q
   simp only[jc,jh]at hs
   obtain⟨rfl,rfl,rfl⟩:=hs
   rw[Hp]at hv
   rw[hv]
   have hbl:ja (Nc y)=(⟨qr y⟩:ByteArray).size:=by simp[Nc,ByteArray.size]
   have hEl:El w (OO O0 s φ) true (.i .u8) (Nc y) (byteCells ⟨qr y⟩) (yd (ja (Nc y)) []):=by
    refine⟨by rw[byteCells_length,←hbl];simp[Ty.size],by simp,fun i hi=>?_⟩
    have hg:(yd (ja (Nc y)) ([]:List Nat)).getD i []=[]:=by simp[qs,hi]
    rw[hg]
    simp only[if_true,Ic,and_true]
    apply qp
    intro j
    cases j with
    |zero=>
     rw[NW (by simp[Ty.size])]
     have hi':i<y.length:=by simpa[Nc]using hi
     simp[Ty.size,byteCells,Nc,hi']
    |succ j=>simp[FG,Ty.size];omega
   refine⟨byteCells ⟨qr y⟩,_,⟨hk,fun _=>?_,?_,?_,hEl.len,hEl.one⟩,hEl,by simp,by simp⟩
   ·rw[hbl];rfl
   ·rw[hbl];exact firstCells_string _ _
   ·rw[hbl];exact firstCells_string _ _
  ·simp at hs
 ·rename_i id
  split at hs
  ·rename_i e' dp ys' hb
   split at hs
   ·rename_i q hq
    subst q
    simp only[jc,jh]at hs
    obtain⟨rfl,rfl,rfl⟩:=hs
    have hrow:=CV h hb hv
    obtain⟨news,Gs,h1,h2,h3⟩:=Nam (P:=P) (tx:=tx) hk hrow
    refine⟨news,Gs,h1,h2,?_,?_⟩
    ·cases hf:e'.flat with
     |false=>simpa[Ha]using h3
     |true=>
      have:Gs.flatten=[]:=NI fun i hi=>by
       have:=h2.el i (by rw[←h2.flen];exact hi)
       simp only[hf,Bool.or_true,if_true]at this
       exact Tz hf this
      rw[this];simp
    ·intro j hj
     cases hf:e'.flat with
     |true=>rw[hf]at hj;simp at hj
     |false=>rw[hf]at hj;simp at hj;subst hj;exact⟨_,hb⟩
   ·simp at hs
  ·simp at hs
 ·rename_i id lo hi
  split at hs
  ·rename_i e' dp ys' hb
   split at hs
   ·rename_i q hq
    subst q
    cases hf:(e'.flat||!dp)with
    |false=>rw[hf]at hs;simp at hs
    |true=>
     rw[hf]at hs
     simp only[zg,jc,jh]at hs
     obtain⟨rfl,rfl,rfl⟩:=hs
     simp only[Td,Kf,D.isAgg,jq,if_false,Kb]at hv
     obtain⟨u,hu',h1c,hv⟩:=hv
     simp only[yi,and_true]at hu'
     obtain⟨hlo,hhi,ad,cap,j,hs0,hcap,hj1,hj2,hu2⟩:=hv _ _ _ hb rfl
     have hrow:=Ym.1 (h.hp id _ hb)
     obtain⟨F',hsub,_,hrow'⟩:=hrow.cut hs0 hlo hhi hj1 hj2
     have hrow2:=hrow'.flatup (by simpa using hf)
     rw[←hu2,←hu']at hrow2
     obtain⟨news,Gs,h1,h2,h3⟩:=Nam (P:=P) (tx:=tx) hk hrow2
     refine⟨news,Gs,h1,h2,?_,by simp⟩
     have:Gs.flatten=[]:=h2.nils
     rw[this];simp[Ha]
   ·simp at hs
  ·simp at hs
 ·simp at hs
theorem FaE(h:Db n0 A O0 w0 s σ φ a w){e:Ty}{da:D}{xs:List (T e)}{dp:Option Bool}{l:List Nat}(hs:N1 s e da=some (xs,dp,l))(hv:Td w (OO O0 s φ) s.heap σ da v)
 {dq:Bool} (hd:dp.getD dq=dq):Yi w (OO O0 s φ) dq e xs v (Ha φ l)∧∀j,j∈l→∃b,s.heap j=some b:=by
 unfold N1 at hs
 split at hs
 ·simp only[jc,jh]at hs
  obtain⟨rfl,rfl,rfl⟩:=hs
  rw[YP]at hv
  exact⟨⟨by simp,.inl ⟨hv,rfl,by simp[Ha]⟩⟩,by simp⟩
 ·rename_i id
  split at hs
  ·rename_i e' dp' ys' hb
   split at hs
   ·rename_i q hq
    subst q
    simp only[jc,jh]at hs
    obtain⟨rfl,rfl,rfl⟩:=hs
    simp only[qz]at hd
    have hrow:=CV h hb hv
    rw[hd]at hrow
    refine⟨by simpa[Ha]using hrow,?_⟩
    intro j hj
    simp at hj
    subst hj
    exact⟨_,hb⟩
   ·simp at hs
  ·simp at hs
 ·rename_i id lo hi
  split at hs
  ·rename_i e' dp' ys' hb
   split at hs
   ·rename_i q hq
    subst q
    cases hf:(e'.flat||!dp')with
    |false=>rw[hf]at hs;simp at hs
    |true=>
     rw[hf]at hs
     simp only[zg,jc,jh]at hs
     obtain⟨rfl,rfl,rfl⟩:=hs
     simp only[qz]at hd
     simp only[Td,Kf,D.isAgg,jq,if_false,Kb]at hv
     obtain⟨u,hu',h1c,hv⟩:=hv
     simp only[yi,and_true]at hu'
     obtain⟨hlo,hhi,ad,cap,j,hs0,hcap,hj1,hj2,hu2⟩:=hv _ _ _ hb rfl
     have hrow:=Ym.1 (h.hp id _ hb)
     have hrow1:=hrow.flatup (by simpa using hf)
     obtain⟨F',hsub,hF',hrow'⟩:=hrow1.cut hs0 hlo hhi hj1 hj2
     rw[←hu2,←hu',hF' hrow1.len1,hd]at hrow'
     refine⟨by simpa[Ha]using hrow',?_⟩
     intro j hj
     simp at hj
     subst hj
     exact⟨_,hb⟩
   ·simp at hs
  ·simp at hs
 ·simp at hs
theorem Aav(hG:EnvTy P G)(h:Db n0 A O0 w0 s σ φ a w){args:Array Operand}{ts:Array TypeId}(ho:o.op=.call ⟨.builtin .append,args,ts⟩)(hml:PP G o.dst=false)
 (he:Ig G s o k=some out):o.wp P a w (Nf n0 A O0 w0 k out) Q:=by
 simp only[Ig,Hc,ho]at he
 split at he
 ·rename_i x y t tx hargs hts
  unfold BO at he
  rw[hml]at he
  simp only[zh]at he
  unfold DD at he
  split at he
  ·rename_i tt e da db hd hty hx hy
   split at he
   ·rename_i xs dp l ys dq m hdst hsrc
    cases hc:((dp.getD dq==dq)&&s.newOk tt&&Lg (l++m)&&HO (Xb G.ty tx))with
    |false=>rw[hc]at he;simp at he
    |true=>
     rw[hc]at he
     simp only[zg]at he
     simp only[jd,beq_iff_eq]at hc
     obtain⟨⟨⟨hdq,hnew⟩,hnd⟩,hkx⟩:=hc
     have hnd:=Mi hnd
     cases hlim:jx (ja xs+ja ys) Sa with
     |false=>rw[hlim]at he;simp at he
     |true=>
      rw[hlim]at he
      simp only[zg]at he
      have hlim:=q6 hlim
      obtain⟨et,hu,hte⟩:=Tok.sl (hG.ty _ _ hty)
      have hk:(∃e',P.underlying tx=some (.slice e'))∨P.underlying tx=some .string:=by
       unfold HO at hkx
       split at hkx
       ·rename_i e' hq
        obtain⟨et',hu',_⟩:=Tok.sl (hG.ty _ _ hq)
        exact .inl ⟨et',hu'⟩
       ·rename_i hq
        exact .inr (Tok.s (hG.ty _ _ hq))
       ·simp at hkx
      obtain⟨hrow,hl1⟩:=FaE h hdst (h.ev hx) hdq
      obtain⟨news,Gs,hS,hEl,hsub,hl2⟩:=T8 (P:=P) h hsrc (h.ev hy) hk
      have hlive:∀j,j∈l++m→∃b,s.heap j=some b:=by
       intro j hj
       rcases jl.1 hj with hj|hj
       ·exact hl1 j hj
       ·exact hl2 j hj
      have hbn:=Rg h hnd hlive
      rw[Ye]at hbn
      obtain⟨v',w',F',hr,h1,hsz,hbl,hos,htape,hout,hF',hsubF,hres⟩:=WZ (P:=P) (t:=t) (tx:=tx) (ty:=o.type) hu hte hrow hS hEl
       (List.Sublist.nodup (List.Sublist.append (List.Sublist.refl _) hsub) hbn) hlim
       (by
        intro c hc
        obtain⟨j,hj,hm⟩:=Pb.1 hc
        obtain⟨b,hb⟩:=hl1 j hj
        exact .inr ⟨j,b,hb,hm⟩)
       (by
        intro c hc
        obtain⟨j,hj,hm⟩:=Pb.1 (hsub.subset hc)
        obtain⟨b,hb⟩:=hl2 j hj
        exact(h.hp j b hb).lt c hm)
      have hc:=h.absorb (w':=w') hnew (l++m) hlive (.row e dq (jf xs ys)) v' F' hsz
       (by
        intro b hb hno
        refine hbl b hb fun hm=>?_
        obtain⟨j,hj,hm⟩:=Pb.1 hm
        exact hno j (qu _ hj) hm)
       hos htape hout hF'
       (by
        intro b hb
        rcases hsubF b hb with hb|hb|hb
        ·exact .inl hb
        ·obtain⟨j,hj,hm⟩:=Pb.1 hb
         exact .inr ⟨j,qu _ hj,hm⟩
        ·obtain⟨j,hj,hm⟩:=Pb.1 (hsub.subset hb)
         exact .inr ⟨j,qv _ hj,hm⟩)
       (by
        intro hp' σ' O' hσ hO'
        rw[Ym,hσ]
        exact(hres O' hO').1)
      refine Ec (w':=w') (v:=v') ?_ (Jf rfl hc ?_ he)
      ·have hts':ts= #[t,tx]:=by
        apply Array.ext'
        rw[hts]
       rw[Mr ho hargs,hts']
       simp[builtin,hr]
      ·exact AE (e:=e) (dp:=dq) (xs:=jf xs ys) h1 (by rw[yh,He,if_pos rfl])
   ·simp at he
  ·simp at he
 ·simp at he
end
section
variable{P:Program} {Out:Type} {n0:Nat} {A:Fx} {O0:Nat→Prop} {w0 w w':World} {s:AS} {σ σ':Nat→Value} {φ φ':Nat→List Nat} {a:Act}
variable{o:Oper} {Q:Exit→Act→World→Prop} {k:AS→Option Out} {out:Out} {d:D} {v:Value} {upd:List (Nat×Option Ka)} {dst:Option Tmp} {G:Sf}
theorem Way(hG:EnvTy P G)(h:Db n0 A O0 w0 s σ φ a w){t:TypeId}{x:Operand}{lo hi:Option Operand}(ho:o.op=.slice t x lo hi none)
 (he:Ig G s o k=some out):o.wp P a w (Nf n0 A O0 w0 k out) Q:=by
 simp only[Ig,Hc,ho]at he
 split at he
 ·rename_i v hx
  split at he
  ·rename_i l m hl hm ht
   cases hc:Bd (ja v) l m with
   |false=>simp[hc]at he
   |true=>
    simp only[hc,zg]at he
    have hv:=h.ev hx
    rw[Hp]at hv
    have hu:=Tok.s (hG.ty _ _ ht)
    have hsz:(ByteArray.mk (qr v)).size=ja v:=by simp[ByteArray.size]
    have hb:=Nu (P:=P) (cap:=ja v) h hl hm hc (jo _) false
    have hex:(ByteArray.mk (qr v)).extract l.toNat m.toNat=⟨qr (Ya v l.toNat m.toNat)⟩:=by
     apply ByteArray.ext
     simp[Ya,List.drop_take]
    refine Ec (w':=w) (v:=.string ⟨qr (Ya v l.toNat m.toNat)⟩) ?_ (Pc h (Hp.2 rfl) he)
    have hr:(Instr.sliceAt t (.string ⟨qr v⟩) (lo.map a.eval) (hi.map a.eval) none).run P w=.ok (.string ⟨qr (Ya v l.toNat m.toNat)⟩) w:=by
     simp[Instr.sliceAt,Instr.slice,run_underlying hu,hsz,hb,hex]
    simp[execOp,ho,hv,hr]
  ·simp at he
 ·rename_i e v hx
  split at he
  ·rename_i l m e' hl hm ht
   split at he
   ·rename_i q hq
    obtain rfl:=Se hq
    cases hc:Bd (ja v) l m with
    |false=>simp[hc]at he
    |true=>
     simp only[hc,zg]at he
     have hv:=h.ev hx
     rw[QO]at hv
     obtain⟨et,hu,hte⟩:=Tok.sl (hG.ty _ _ ht)
     obtain⟨ad,cap,hcs,hcap,hmx,hcase⟩:=hv
     simp at hcs
     have hb:=Nu (P:=P) (cap:=cap) h hl hm hc hcap true
     have hc':=hc
     simp only[Bd,jd,decide_eq_true_eq]at hc'
     have hml:m.toNat≤ja v:=by omega
     have hlen:=JL (xs:=(v:List (T e))) (lo:=l.toNat) hml
     have hlen':ja (Ya v l.toNat m.toNat)=m.toNat-l.toNat:=hlen
     refine Ec (w':=w) (v:=.slice (if cap=l.toNat then ad else ad.map (·.add (l.toNat*e.size))) (m.toNat-l.toNat) (cap-l.toNat)) ?_ (Pc h ?_ he)
     ·have hr:(Instr.sliceAt t (.slice ad (ja v) cap) (lo.map a.eval) (hi.map a.eval) none).run P w=.ok (.slice (if cap=l.toNat then ad else ad.map (·.add (l.toNat*e.size))) (m.toNat-l.toNat) (cap-l.toNat)) w:=by
       simp[Instr.sliceAt,Instr.slice,run_underlying hu,hb,Tok.sizeOf hte w]
      simp[execOp,ho,hcs,hr]
     ·rw[QO]
      refine⟨_,cap-l.toNat,by rw[hlen'],by rw[hlen'];omega,by rw[hlen'];omega,?_⟩
      rcases Nat.eq_or_lt_of_le (show l.toNat≤m.toNat by omega)with heq|hlt
      ·left
       exact q7 (by rw[hlen'];omega)
      ·right
       rcases hcase with hemp|⟨bl,off,cur,et',fr,rfl,hO,hh,hs,hvv⟩
       ·rw[hemp]at hml;simp at hml;omega
       ·have hne:¬cap=l.toNat:=by omega
        have hmul:(l.toNat+(m.toNat-l.toNat))*e.size≤ja v*e.size:=jm _ (by omega)
        rw[yf]at hmul
        refine⟨bl,off+l.toNat*e.size,cur,et',fr,by rw[if_neg hne];simp[Jr],hO,hh,by rw[hlen'];omega,fun i hi=>?_⟩
        have hi2:i<m.toNat-l.toNat:=by rw[←hlen'];exact hi
        have h2:l.toNat+i<ja v:=by omega
        have:=hvv (l.toNat+i) h2
        rw[J1 (xs:=(v:List (T e))) hi h2]
        rw[yf,←jt]at this
        exact this
   ·simp at he
  ·simp at he
 ·rename_i id hx
  unfold BZ at he
  split at he
  ·rename_i e dp xs hb
   split at he
   ·rename_i l m e' hl hm ht
    split at he
    ·rename_i q hq
     obtain rfl:=Se hq
     cases hc:Bd (ja xs) l m with
     |false=>simp[hc]at he
     |true=>
      simp only[hc,zg]at he
      obtain⟨et,hu,hte⟩:=Tok.sl (hG.ty _ _ ht)
      have hv:=h.ev hx
      rw[QK]at hv
      have hσ:=hv.2 _ _ hb rfl
      have hrow:=Ym.1 (h.hp id _ hb)
      obtain⟨ad,cap,hsl,hcap⟩:=hrow.slice
      have hb':=Nu (P:=P) (cap:=cap) h hl hm hc hcap true
      have hc':=hc
      simp only[Bd,jd,decide_eq_true_eq]at hc'
      have hlm:l.toNat≤m.toNat:=by omega
      have hml:m.toNat≤ja xs:=by omega
      obtain⟨j,hj1,hj2,hj3⟩:∃j,j≤l.toNat∧(l.toNat<cap→j=l.toNat)∧(if cap=l.toNat then ad else ad.map (·.add (l.toNat*e.size)))=ad.map (·.add (j*e.size)):=by
       by_cases hcl:cap=l.toNat
       ·refine⟨0,by omega,by omega,?_⟩
        rw[if_pos hcl]
        cases ad with
        |none=>rfl
        |some ad=>
         have:=hrow.addr hsl
         obtain⟨b,off,rfl⟩:=this
         simp[Jr]
       ·exact⟨l.toNat,by omega,fun _=>rfl,by rw[if_neg hcl]⟩
      have hr:(execOp a.eval o).run P w=.ok (.value (.slice (ad.map (·.add (j*e.size))) (m.toNat-l.toNat) (cap-l.toNat))) w:=by
       rw[←hj3]
       have hr:(Instr.sliceAt t (.slice ad (ja xs) cap) (lo.map a.eval) (hi.map a.eval) none).run P w=.ok (.slice (if cap=l.toNat then ad else ad.map (·.add (l.toNat*e.size))) (m.toNat-l.toNat) (cap-l.toNat)) w:=by
        simp[Instr.sliceAt,Instr.slice,run_underlying hu,hb',Tok.sizeOf hte w]
       simp[execOp,ho,hσ.trans hsl,hr]
      split at he
      ·rename_i tt hd
       cases hmv:VF G.mv tt with
       |true=>
        rw[hmv]at he
        simp only[zg]at he
        cases hn:s.newOk tt with
        |false=>rw[hn]at he;simp at he
        |true=>
         rw[hn]at he
         simp only[zg]at he
         obtain⟨F',hsub,_,hrow'⟩:=hrow.cut hsl hlm hml hj1 hj2
         have hne:∀b,s.heap id=some b→F'.Nodup:=fun b hbb=>hsub.nodup (h.nodup id b hbb)
         have hc2:=h.absorb (w':=w) hn [id] (fun j hj=>by simp at hj;subst hj;exact⟨_,hb⟩) (.row e dp (Ya xs l.toNat m.toNat))
          (.slice (ad.map (·.add (j*e.size))) (m.toNat-l.toNat) (cap-l.toNat)) F' (jo _) (fun _ _ _=>rfl) rfl rfl rfl (hne _ hb)
          (fun b hbm=>.inr ⟨id,by simp,hsub.subset hbm⟩)
          (by
           intro hp' σ' O' hσ' hO'
           rw[Ym,hσ']
           exact hrow'.stable (fun _ _ _=>rfl) hO' (fun _ _=>rfl))
         refine Ec (w':=w) hr ?_
         rw[hd]
         rw[hd]at he
         exact Jf rfl hc2 (AE (e:=e) (dp:=dp) (xs:=Ya xs l.toNat m.toNat) rfl (by rw[yh];exact Jh ⟨s.n,s.tm,(id,none)::s.hp⟩ _ _)) he
       |false=>
        rw[hmv]at he
        simp only[zh]at he
        refine Ec (w':=w) hr (Pc (d:=.cut id l.toNat m.toNat) h ?_ he)
        simp only[Td,Kf,D.isAgg,jq,if_false,Kb]
        refine⟨_,rfl,rfl,fun blk' e' n' hb2 hr'=>?_⟩
        rw[hb]at hb2
        cases hb2
        simp only[Ka.rowN,jc,jh]at hr'
        obtain⟨rfl,rfl⟩:=hr'
        exact⟨hlm,hml,ad,cap,j,hsl,hcap,hj1,hj2,rfl⟩
      ·simp at he
    ·simp at he
   ·simp at he
  ·simp at he
 ·rename_i hx
  split at he
  ·rename_i l m e' hl hm ht
   cases hc:Bd 0 l m with
   |false=>simp[hc]at he
   |true=>
    simp only[hc,zg]at he
    obtain⟨et,hu,hte⟩:=Tok.sl (hG.ty _ _ ht)
    have hv:=h.ev hx
    rw[YP]at hv
    have hb':=Nu (P:=P) (cap:=0) h hl hm hc (jo _) true
    have hc':=hc
    simp only[Bd,jd,decide_eq_true_eq]at hc'
    have h0:l.toNat=0:=by omega
    have h1:m.toNat=0:=by omega
    rw[h0,h1]at hb'
    refine Ec (w':=w) (v:=.slice none 0 0) ?_ (Pc h (YP.2 rfl) he)
    have hr:(Instr.sliceAt t (.slice none 0 0) (lo.map a.eval) (hi.map a.eval) none).run P w=.ok (.slice none 0 0) w:=by
     simp[Instr.sliceAt,Instr.slice,run_underlying hu,hb',Tok.sizeOf hte w]
    simp[execOp,ho,hv,hr]
  ·simp at he
 ·rename_i id p q hx
  unfold QS at he
  split at he
  ·rename_i e dp xs hb
   split at he
   ·rename_i l m e' hl hm ht
    split at he
    ·rename_i q' hq
     obtain rfl:=Se hq
     cases hc:Bd (q-p) l m with
     |false=>simp[hc]at he
     |true=>
      simp only[hc,zg]at he
      obtain⟨et,hu,hte⟩:=Tok.sl (hG.ty _ _ ht)
      have hv:=h.ev hx
      simp only[Td,Kf,D.isAgg,jq,if_false,Kb]at hv
      obtain⟨u,hu',h1c,hv⟩:=hv
      simp only[yi,and_true]at hu'
      obtain⟨hpq,hqn,ad,cap,j,hs0,hcap,hj1,hj2,hu2⟩:=hv _ _ _ hb rfl
      have hb':=Nu (P:=P) (cap:=cap-p) h hl hm hc (by omega) true
      have hc':=hc
      simp only[Bd,jd,decide_eq_true_eq]at hc'
      have hlm:l.toNat≤m.toNat:=by omega
      have hml:m.toNat≤q-p:=by omega
      refine Ec (w':=w) (v:=.slice (if cap-p=l.toNat then ad.map (·.add (j*e.size))else(ad.map (·.add (j*e.size))).map (·.add (l.toNat*e.size))) (m.toNat-l.toNat) (cap-p-l.toNat)) ?_ (Pc h ?_ he)
      ·have hr:(Instr.sliceAt t (.slice (ad.map (·.add (j*e.size))) (q-p) (cap-p)) (lo.map a.eval) (hi.map a.eval) none).run P w=.ok (.slice (if cap-p=l.toNat then ad.map (·.add (j*e.size))else(ad.map (·.add (j*e.size))).map (·.add (l.toNat*e.size))) (m.toNat-l.toNat) (cap-p-l.toNat)) w:=by
        simp only[Instr.sliceAt,Instr.slice,run_underlying hu,hb',Tok.sizeOf hte w,qo,qn,Sem.run_pure]
       simp[execOp,ho,hu'.trans hu2,hr]
      ·simp only[Td,Kf,D.isAgg,jq,if_false,Kb]
       refine⟨_,rfl,rfl,fun blk' e' n' hb2 hr'=>?_⟩
       rw[hb]at hb2
       cases hb2
       simp only[Ka.rowN,jc,jh]at hr'
       obtain⟨rfl,rfl⟩:=hr'
       have e1:m.toNat-l.toNat=p+m.toNat-(p+l.toNat):=by omega
       have e2:cap-p-l.toNat=cap-(p+l.toNat):=by omega
       by_cases h2:cap-p=l.toNat
       ·refine⟨by omega,by omega,ad,cap,j,hs0,hcap,by omega,by omega,?_⟩
        rw[if_pos h2,e1,e2]
       ·refine⟨by omega,by omega,ad,cap,j+l.toNat,hs0,hcap,by omega,fun hl=>by have:=hj2 (by omega);omega,?_⟩
        rw[if_neg h2,e1,e2]
        have hrow:=Ym.1 (h.hp id _ hb)
        cases ad with
        |none=>rfl
        |some ad=>
         obtain⟨b,off,rfl⟩:=hrow.addr hs0
         simp only[qa,Jr,yf,jt]
    ·simp at he
   ·simp at he
  ·simp at he
 ·simp at he
end
def Bi(w:World)(O:Nat→Prop):(τ:Ty)→T τ→List Value→Prop
 |.p x y,v,a::r=>(∃cs,a=Me x cs∧Wa w O x v.1 cs)∧Bi w O y v.2 r
 |.u,_,[]=>True
 |_,_,_=>False
def Fd(w:World)(O:Nat→Prop):(τ:Ty)→T τ→List Bool→List Value→List Nat→Prop
 |.p x y,v,f::r,a::as,F=>∃cs F1 F2,a=Me x cs∧F=F1++F2∧(if f then Ic w x v.1 cs F1 else Wa w O x v.1 cs∧F1=[])∧Fd w O y v.2 r as F2
 |.u,_,[],[],F=>F=[]
 |_,_,_,_,_=>False
def IN:List Value→Value
 |[v]=>v
 |vs=>.tuple vs.toArray
structure AD(w w':World)(F:Nat→Prop):Prop where
 size:w.heap.size≤w'.heap.size
 block:∀b,b<w.heap.size→¬F b→w'.heap[b]?=w.heap[b]?
 os:w'.os=w.os
 tape:w'.tape=w.tape
 output:w'.output=w.output
def ZH(P:Program)(f:FuncId):Prop:=∃fn,P.funcs[f]?=some fn∧(fn.name== "runtime.NumGoroutine")=false∧fn.body.isNone=false
def XA(R:Value→World→Prop):Ending→World→Prop
 |.returned v,w'=>R v w'
 |_,_=>False
def Mg(w:World):(τ:Ty)→T τ→List Value→List Nat→Prop
 |.p x y,v,a::r,F=>∃cs F1 F2,a=Me x cs∧F=F1++F2∧Ic w x v.1 cs F1∧Mg w y v.2 r F2
 |.u,_,[],F=>F=[]
 |_,_,_,_=>False
def Zh(P:Program)(I:Bh)(f:FuncId):Pa→Prop
 |.pu pt rt fr F=>ZH P f∧∀(O:Nat→Prop) (w:World) (x:T pt) (r:T rt) (args:List Value),F x=some r→Bi w O pt x args→(∀b,O b→b<w.heap.size)→I.p w→I.base≤w.heap.size→
  Calls P f args.toArray w (XA fun v w'=>∃vs Fr,v=IN vs∧AD w w' (fun _=>False)∧Fd w' (fun b=>O b∨b∈Fr) rt r fr vs Fr∧Fr.Nodup∧∀b∈Fr,w.heap.size≤b)
 |.io τ pt rt fr F=>ZH P f∧∀(O:Nat→Prop) (w:World) (x0:T τ) (x:T pt) (r:T τ×T rt) (cs0:List Value) (F0:List Nat) (args:List Value),F x0 x=some r→
  Ic w τ x0 cs0 F0→F0.Nodup→Bi w (fun b=>O b∨b∈F0) pt x args→(∀b,O b→b<w.heap.size)→I.p w→I.base≤w.heap.size→(∀b,b∈F0→I.base≤b)→
  Calls P f (Me τ cs0::args).toArray w (XA fun v w'=>∃vs F1 Fr,v=IN vs∧AD w w' (·∈F0)∧Ic w' τ r.1 cs0 F1∧(∀b∈F1,w.heap.size≤b∨b∈F0)∧
   Fd w' (fun b=>O b∨b∈F0∨b∈F1∨b∈Fr) rt r.2 fr vs Fr∧(F1++Fr).Nodup∧∀b∈Fr,w.heap.size≤b∨b∈F0)
 |.co pt rt fr F=>ZH P f∧∀(O:Nat→Prop) (w:World) (x:T pt) (r:T rt) (F0:List Nat) (args:List Value),F x=some r→
  Mg w pt x args F0→F0.Nodup→(∀b,O b→b<w.heap.size)→(fr.all id=true∨∀b,b∈F0→¬O b)→I.p w→I.base≤w.heap.size→(∀b,b∈F0→I.base≤b)→
  Calls P f args.toArray w (XA fun v w'=>∃vs Fr,v=IN vs∧AD w w' (·∈F0)∧
   Fd w' (fun b=>O b∨b∈Fr) rt r fr vs Fr∧Fr.Nodup∧∀b∈Fr,w.heap.size≤b∨b∈F0)
 |.bx vw cv τ pt rt fr F=>ZH P f∧∀(O:Nat→Prop) (w:World) (x0:T τ) (x:T pt) (r:T τ×T rt) (b:Nat) (cur:Array Value) (et:TypeId) (F0 F2:List Nat) (args:List Value),F x0 x=some r→
  w.heap[b]?=some (.cells cur et (0,0))→cur.size=τ.size→(if vw then Wa w (fun c=>O c∨c=b∨c∈F2) τ x0 cur.toList∧F0=[]else Ic w τ x0 cur.toList F0)→
  (if cv then Mg w pt x args F2 else Bi w (fun c=>O c∨c=b∨c∈F0) pt x args∧F2=[])→(b::(F0++F2)).Nodup→(∀b,O b→b<w.heap.size)→I.p w→I.base≤w.heap.size→(∀c,c∈b::(F0++F2)→I.base≤c)→
  Calls P f (.pointer (some ⟨b,0,none⟩)::args).toArray w (XA fun v w'=>∃vs cur' et' F1 Fr,v=IN vs∧AD w w' (·∈b::(F0++F2))∧w'.heap[b]?=some (.cells cur' et' (0,0))∧cur'.size=τ.size∧
   (if vw then Wa w' (fun c=>O c∨c∈b::(F0++F2)∨c∈Fr) τ r.1 cur'.toList∧F1=[]else Ic w' τ r.1 cur'.toList F1)∧
   Fd w' (fun c=>O c∨c∈b::(F0++F2)∨c∈F1∨c∈Fr) rt r.2 fr vs Fr∧(b::(F1++Fr)).Nodup∧∀c∈F1++Fr,w.heap.size≤c∨c∈F0++F2)
 |.nw pt τ F=>ZH P f∧∀(O:Nat→Prop) (w:World) (x:T pt) (r:T τ) (args:List Value),F x=some r→Bi w O pt x args→(∀b,O b→b<w.heap.size)→I.p w→I.base≤w.heap.size→
  Calls P f args.toArray w (XA fun v w'=>∃b cur et,v=.pointer (some ⟨b,0,none⟩)∧AD w w' (fun _=>False)∧w.heap.size≤b∧w'.heap[b]?=some (.cells cur et (0,0))∧cur.size=τ.size∧Wa w' (fun c=>O c∨c=b) τ r cur.toList)
structure Kn(P:Program)(I:Bh)(G:Sf):Prop extends EnvTy P G where
 fn:∀f sem,Xb G.fn f=some sem→Zh P I f sem
theorem TR{s:AS}:∀{d:D} {τ:Ty} {x:T τ},d.hasOwn=false→Ib s d τ=some x→Hm d τ=some x:=by
 intro d
 induction d with
 |pr a b iha ihb=>
  intro τ x ho he
  simp only[D.hasOwn,yt]at ho
  cases τ with
  |p t1 t2=>
   simp only[Ib]at he
   split at he
   ·rename_i u v hu hv
    simp only[Hm,iha ho.1 hu,ihb ho.2 hv]
    exact he
   ·simp at he
  |_=>simp[Ib]at he
 |own id=>intro τ x ho;simp[D.hasOwn]at ho
 |cut id lo hi=>intro τ x ho;simp[D.hasOwn]at ho
 |t τ' y=>intro τ x _ he;simpa[Ib,Hm]using he
 |nil=>intro τ x _ he;cases τ<;>simp_all [Ib,Hm]
 |un=>intro τ x _ he;cases τ<;>simp_all [Ib,Hm]
 |_=>intro τ x _ he;cases τ<;>simp[Ib]at he
theorem Dag{w:World}{σ:Nat→Value}{O:Nat→Prop}{hp:Nat→Option Ka}{τ:Ty}{d:D}{cs:List Value}(hs:Ob τ d)(h:Kb w O hp σ d cs):Kf w O hp σ d (Me τ cs):=by
 have ha:=hs.isAgg
 have hl:=Kb.length hs h
 unfold Kf Me
 rw[ha]
 cases hτ:τ.isAgg with
 |true=>simp only[if_true];exact⟨cs.toArray,rfl,by simpa using h⟩
 |false=>
  simp only[jq,if_false]
  rw[Ty.size_one hτ]at hl
  obtain⟨v,rfl⟩:=q9.1 hl
  simpa using h
section
variable{P:Program} {Out:Type} {n0:Nat} {A:Fx} {O0:Nat→Prop} {w0 w w':World} {s:AS} {σ σ':Nat→Value} {φ φ':Nat→List Nat} {a:Act}
variable{o:Oper} {Q:Exit→Act→World→Prop} {k:AS→Option Out} {out:Out} {d:D} {v:Value} {upd:List (Nat×Option Ka)} {dst:Option Tmp} {G:Sf}
theorem YK(h:Db n0 A O0 w0 s σ φ a w){O:Nat→Prop}(hV:∀(d:D) (τ:Ty) (x:T τ) (cs:List Value),Ib s d τ=some x→Kb w (OO O0 s φ) s.heap σ d cs→(O=noO∨d.hasOwn=false)→Wa w O τ x cs):
 ∀{args:List Operand} {ds:D} {pt:Ty} {x:T pt},Jy s args=some ds→Ib s ds pt=some x→(O=noO∨ds.hasOwn=false)→Bi w O pt x (args.map a.eval)
 |[],ds,pt,x,he,hv,_=>by
  simp only[Jy,jc]at he
  subst he
  cases pt<;>simp[Ib]at hv
  trivial
 |y::r,ds,pt,x,he,hv,ho=>by
  simp only[Jy]at he
  split at he
  ·rename_i d1 d2 h1 h2
   simp only[jc]at he
   subst he
   cases pt with
   |p t1 t2=>
    simp only[Ib]at hv
    split at hv
    ·rename_i u1 u2 hu1 hu2
     simp only[jc]at hv
     subst hv
     have ho1:O=noO∨d1.hasOwn=false:=ho.imp id fun h=>by simp only[D.hasOwn,yt]at h;exact h.1
     have ho2:O=noO∨d2.hasOwn=false:=ho.imp id fun h=>by simp only[D.hasOwn,yt]at h;exact h.2
     obtain⟨hr,hvv⟩:=Qf (PG hu1) (h.ev h1)
     exact⟨⟨_,hvv,hV _ _ _ _ hu1 hr ho1⟩,YK h hV h2 hu2 ho2⟩
    ·simp at hv
   |_=>simp[Ib]at hv
  ·simp at he
def FB(w:World)(b:Option Ka)(v:Value)(F:List Nat):Prop:=
 (∃e xs,b=some (.row e true xs)∧Ic w (.sl e) xs [v] F)∨(∃k m xs,b=some (.mx k m xs)∧Ic w (.mp k m) xs [v] F)
theorem FB.rep{w:World}{b:Ka}{F:List Nat}{O:Nat→Prop}{hp:Nat→Option Ka}{σ:Nat→Value}{id:Nat}(h:FB w (some b) (σ id) F):Gd w O hp σ id b F:=by
 rcases h with⟨e,xs,he,h⟩|⟨k,m,xs,he,h⟩<;>(simp only[jc]at he;subst he;exact h)
theorem FB.ex{w:World}{b:Option Ka}{v:Value}{F:List Nat}(h:FB w b v F):∃x,b=some x:=by
 rcases h with⟨e,xs,he,_⟩|⟨k,m,xs,he,_⟩<;>exact⟨_,he⟩
theorem FB.nq{w:World}{kk:IntKind}{e:Ty}{xs:List (Int×List (T e))}{v:Value}{F:List Nat}(h:FB w (some (.mq kk e xs)) v F):False:=by
 rcases h with⟨e,xs,he,_⟩|⟨k,m,xs,he,_⟩<;>simp at he
theorem Db.adopt(h:Db n0 A O0 w0 s σ φ a w)(U:List (Nat×Option Ka))(hU:(U.map (·.1)).Nodup)
 (hσ:∀id,id∉U.map (·.1)→σ' id=σ id∧φ' id=φ id)
 (hnew:∀p,p∈U→s.newOk p.1=true∨(∃Ga blk',s.heap p.1=some Ga∧p.2=some blk'∧Ga.like blk'∧σ' p.1=σ p.1))
 (hK:AD w w' (fun b=>∃p,p∈U∧∃Ga,s.heap p.1=some Ga∧b∈φ p.1))
 (hblk:∀p,p∈U→FB w' p.2 (σ' p.1) (φ' p.1))
 (hnd:(Ha φ' (U.map (·.1))).Nodup)
 (hsub:∀b,b∈Ha φ' (U.map (·.1))→w.heap.size≤b∨∃p,p∈U∧∃Ga,s.heap p.1=some Ga∧b∈φ p.1):
 Db n0 A O0 w0 ⟨s.n,s.tm,U++s.hp⟩ σ' φ' a w':=by
 have hget:∀(U:List (Nat×Option Ka)) (id:Nat),id∉U.map (·.1)→Xb (U++s.hp) id=Xb s.hp id:=by
  intro U id
  induction U with
  |nil=>simp
  |cons p U ih=>
   intro hn
   simp only[yk,jp,not_or]at hn
   rw[yh,Id,if_neg (Ne.symm hn.1),ih hn.2]
 have hgetm:∀(U:List (Nat×Option Ka)),(U.map (·.1)).Nodup→∀p,p∈U→Xb (U++s.hp) p.1=some p.2:=by
  intro U
  induction U with
  |nil=>simp
  |cons q U ih=>
   intro hn p hp
   simp only[yk,ym]at hn
   rw[yh,Id]
   rcases jp.1 hp with rfl|hp
   ·rw[if_pos rfl]
   ·rw[if_neg (fun e:q.1=p.1=>hn.1 (by rw[e];exact yv hp)),ih hn.2 p hp]
 have hh1:∀id,id∉U.map (·.1)→AS.heap ⟨s.n,s.tm,U++s.hp⟩ id=s.heap id:=fun id hid=>by simp[AS.heap,hget U id hid]
 have hh2:∀p,p∈U→AS.heap ⟨s.n,s.tm,U++s.hp⟩ p.1=p.2:=fun p hp=>by simp[AS.heap,hgetm U hU p hp]
 have hmemb:∀id,id∈U.map (·.1)→∃p,p∈U∧p.1=id:=fun id hid=>by
  obtain⟨p,hp,he⟩:=qk.1 hid
  exact⟨p,hp,he⟩
 refine h.trans (fun id=>id∈U.map (·.1)) rfl rfl ?_ ?_ hK.size ?_ ?_ ?_ ?_ hK.os hK.tape hK.output ?_ ?_
 ·intro id hid
  exact⟨hh1 id hid,hσ id hid⟩
 ·intro b hb hno
  refine hK.block b hb ?_
  rintro⟨p,hp,Ga,hl,hm⟩
  exact hno p.1 Ga (yv hp) hl hm
 ·intro id blk' hid hl b hbm
  rcases hsub b (Pb.2 ⟨id,hid,hbm⟩)with hb|⟨p,hp,Ga,hb,hm⟩
  ·exact .inl hb
  ·exact .inr ⟨p.1,Ga,yv hp,hb,hm⟩
 ·intro id blk' hid hl hm
  obtain⟨p,hp,rfl⟩:=hmemb id hid
  rw[hh2 p hp]at hl
  rcases hnew p hp with hn|⟨Ga,blk'',h1,h2,h3,h4⟩
  ·simp only[AS.newOk,jd,yl]at hn
   rw[hn.1]at hm;simp at hm
  ·rw[h2]at hl
   simp only[jc]at hl
   subst hl
   exact⟨Ga,h1,h3,h4⟩
 ·intro id blk' hid hl
  obtain⟨p,hp,rfl⟩:=hmemb id hid
  rw[hh2 p hp]at hl
  have hown:=hblk p hp
  rw[hl]at hown
  refine⟨hown.rep,?_⟩
  have:(φ' p.1).Sublist (Ha φ' (U.map (·.1))):=by
   unfold Ha
   exact List.sublist_flatten_of_mem (yv (yv hp))
  exact this.nodup hnd
 ·intro id id' b1 b2 hid hid' hne _ _ b hb hb'
  have:∀(L:List Nat),(Ha φ' L).Nodup→id∈L→id'∈L→False:=by
   intro L
   induction L with
   |nil=>simp
   |cons x L ih=>
    intro hn hi hi'
    have hx:Ha φ' (x::L)=φ' x++Ha φ' L:=by simp[Ha]
    rw[hx,yn]at hn
    rcases jp.1 hi with e1|q1
    ·rcases jp.1 hi' with e2|q2
     ·exact hne (e1.trans e2.symm)
     ·exact hn.2.2 b (e1▸hb) b (Pb.2 ⟨id',q2,hb'⟩) rfl
    ·rcases jp.1 hi' with e2|q2
     ·exact hn.2.2 b (e2▸hb') b (Pb.2 ⟨id,q1,hb⟩) rfl
     ·exact ih hn.2.1 q1 q2
  exact this _ hnd hid hid'
 ·intro id hid
  obtain⟨p,hp,rfl⟩:=hmemb id hid
  rcases hnew p hp with hn|⟨_,_,_,_,_,h4⟩
  ·exact .inr (SH hn)
  ·exact .inl h4
 ·intro id kk e xs hid hl
  obtain⟨p,hp,rfl⟩:=hmemb id hid
  rw[hh2 p hp]at hl
  have hown:=hblk p hp
  rw[hl]at hown
  exact hown.nq.elim
theorem VD:∀{τ:Ty} {x:T τ} {n m:Nat} {d:D} {l:List (Nat×Option Ka)} {cs:List Value} {F:List Nat},Ff τ x n=(d,l,m)→Ic w' τ x cs F→
 n≤m∧(∀p,p∈l→n≤p.1∧p.1<m)∧Ob τ d∧∃(ψ:Nat→List Nat) (ν:Nat→Value),Ha ψ (l.map (·.1))=F∧(∀p,p∈l→FB w' p.2 (ν p.1) (ψ p.1))∧
  ∀(w2:World) (hp':Nat→Option Ka) (σ':Nat→Value) (O':Nat→Prop),(∀p,p∈l→σ' p.1=ν p.1)→Kb w2 O' hp' σ' d cs
 |.i k,x,n,m,d,l,cs,F,he,h=>by
  simp only[Ff,jh]at he
  obtain⟨rfl,rfl,rfl⟩:=he
  simp only[Ic]at h
  exact⟨jo _,by simp,rfl,fun _=>[],fun _=>undef,by simp[Ha,h.2],by simp,fun _ _ _ _ _=>h.1⟩
 |.b,x,n,m,d,l,cs,F,he,h=>by
  simp only[Ff,jh]at he
  obtain⟨rfl,rfl,rfl⟩:=he
  simp only[Ic]at h
  exact⟨jo _,by simp,rfl,fun _=>[],fun _=>undef,by simp[Ha,h.2],by simp,fun _ _ _ _ _=>h.1⟩
 |.o,x,n,m,d,l,cs,F,he,h=>by
  simp only[Ff,jh]at he
  obtain⟨rfl,rfl,rfl⟩:=he
  simp only[Ic]at h
  exact⟨jo _,by simp,rfl,fun _=>[],fun _=>undef,by simp[Ha,h.2],by simp,fun _ _ _ _ _=>h.1⟩
 |.mp k vt,x,n,m,d,l,cs,F,he,h=>by
  simp only[Ff,jh]at he
  obtain⟨rfl,rfl,rfl⟩:=he
  have hlen:=Ic.length h
  simp only[Ty.size]at hlen
  obtain⟨v,rfl⟩:=q9.1 hlen
  refine⟨by omega,by simp,trivial,fun _=>F,fun _=>v,by simp[Ha],?_,?_⟩
  ·intro p hp
   simp only[qb]at hp
   subst hp
   exact .inr ⟨k,vt,x,rfl,h⟩
  ·intro w2 hp' σ' O' hσ
   refine⟨v,rfl,h.one v (by simp),fun _ _ _=>?_⟩
   exact(hσ (n,some (.mx k vt x)) (by simp)).symm
 |.s,x,n,m,d,l,cs,F,he,h=>by
  simp only[Ff,jh]at he
  obtain⟨rfl,rfl,rfl⟩:=he
  simp only[Ic]at h
  exact⟨jo _,by simp,rfl,fun _=>[],fun _=>undef,by simp[Ha,h.2],by simp,fun _ _ _ _ _=>h.1⟩
 |.u,x,n,m,d,l,cs,F,he,h=>by
  simp only[Ff,jh]at he
  obtain⟨rfl,rfl,rfl⟩:=he
  simp only[Ic]at h
  exact⟨jo _,by simp,trivial,fun _=>[],fun _=>undef,by simp[Ha,h.2],by simp,fun _ _ _ _ _=>h.1⟩
 |.sl e,x,n,m,d,l,cs,F,he,h=>by
  simp only[Ff,jh]at he
  obtain⟨rfl,rfl,rfl⟩:=he
  have hlen:=Ic.length h
  simp only[Ty.size]at hlen
  obtain⟨v,rfl⟩:=q9.1 hlen
  refine⟨by omega,by simp,trivial,fun _=>F,fun _=>v,by simp[Ha],?_,?_⟩
  ·intro p hp
   simp only[qb]at hp
   subst hp
   exact .inl ⟨e,x,rfl,h⟩
  ·intro w2 hp' σ' O' hσ
   refine⟨v,rfl,h.one v (by simp),fun _ _ _ _=>?_⟩
   exact(hσ (n,some (.row e true x)) (by simp)).symm
 |.p t1 t2,x,n,m,d,l,cs,F,he,h=>by
  obtain⟨c1,c2,F1,F2,hc,hF,h1,h2⟩:=h
  simp only[Ff]at he
  rcases ho1:Ff t1 x.1 n with⟨d1,l1,m1⟩
  rcases ho2:Ff t2 x.2 m1 with⟨d2,l2,m2⟩
  rw[ho1]at he
  simp only at he
  rw[ho2]at he
  simp only[jh]at he
  obtain⟨rfl,rfl,rfl⟩:=he
  obtain⟨a1,a2,a3,ψ1,ν1,a4,a5,a6⟩:=VD ho1 h1
  obtain⟨b1,b2,b3,ψ2,ν2,b4,b5,b6⟩:=VD ho2 h2
  refine⟨by omega,?_,a3.mkpr b3,fun id=>if id<m1 then ψ1 id else ψ2 id,fun id=>if id<m1 then ν1 id else ν2 id,?_,?_,?_⟩
  ·intro p hp
   rcases jl.1 hp with hp|hp
   ·have:=a2 p hp;omega
   ·have:=b2 p hp;omega
  ·rw[yw,Ye,hF,←a4,←b4]
   congr 1
   ·unfold Ha
    congr 1
    apply List.map_congr_left
    intro id hid
    obtain⟨p,hp,rfl⟩:=qk.1 hid
    rw[if_pos (a2 p hp).2]
   ·unfold Ha
    congr 1
    apply List.map_congr_left
    intro id hid
    obtain⟨p,hp,rfl⟩:=qk.1 hid
    rw[if_neg (by have:=b2 p hp;omega)]
  ·intro p hp
   rcases jl.1 hp with hp|hp
   ·have:=(a2 p hp).2
    simp only[if_pos this]
    exact a5 p hp
   ·have:¬p.1<m1:=by have:=b2 p hp;omega
    simp only[if_neg this]
    exact b5 p hp
  ·intro w2 hp' σ' O' hσ
   rw[hc]
   refine Kb.mkpr (a6 w2 hp' σ' O' fun p hp=>?_) (b6 w2 hp' σ' O' fun p hp=>?_)
   ·have h1:=hσ p (qu _ hp)
    simp only[if_pos (a2 p hp).2]at h1
    exact h1
   ·have h1:=hσ p (qv _ hp)
    have h2:¬p.1<m1:=by have:=b2 p hp;omega
    simp only[if_neg h2]at h1
    exact h1
theorem UU{O':Nat→Prop}:∀{rt:Ty} {r:T rt} {fr:List Bool} {n m:Nat} {d:D} {l:List (Nat×Option Ka)} {vs:List Value} {F:List Nat},Ah rt r fr n=some (d,l,m)→Fd w' O' rt r fr vs F→
 n≤m∧(∀p,p∈l→n≤p.1∧p.1<m)∧∃(ψ:Nat→List Nat) (ν:Nat→Value),Ha ψ (l.map (·.1))=F∧(∀p,p∈l→FB w' p.2 (ν p.1) (ψ p.1))∧
  ∀(hp':Nat→Option Ka) (σ':Nat→Value) (O'':Nat→Prop),(∀p,p∈l→σ' p.1=ν p.1)→(∀b,b<w'.heap.size→¬O' b→¬O'' b)→Nh w' O'' hp' σ' d vs
 |.u,r,[],n,m,d,l,vs,F,he,h=>by
  simp only[Ah,jc,jh]at he
  obtain⟨rfl,rfl,rfl⟩:=he
  cases vs with
  |nil=>
   simp only[Fd]at h
   exact⟨jo _,by simp,fun _=>[],fun _=>undef,by simp[Ha,h],by simp,fun _ _ _ _ _=>trivial⟩
  |cons a r=>simp[Fd]at h
 |.p t1 t2,r,f::fr,n,m,d,l,vs,F,he,h=>by
  cases vs with
  |nil=>simp[Fd]at h
  |cons v vs=>
   obtain⟨cs,F1,F2,hv,hF,h1,h2⟩:=h
   simp only[Ah]at he
   rcases ho1:(bif f then Ff t1 r.1 n else(.t t1 r.1,[],n))with⟨d1,l1,m1⟩
   rw[ho1]at he
   simp only at he
   split at he
   ·rename_i d2 l2 m2 ho2
    simp only[jc,jh]at he
    obtain⟨rfl,rfl,rfl⟩:=he
    obtain⟨b1,b2,ψ2,ν2,b4,b5,b6⟩:=UU ho2 h2
    have hA:n≤m1∧(∀p,p∈l1→n≤p.1∧p.1<m1)∧Ob t1 d1∧∃(ψ:Nat→List Nat) (ν:Nat→Value),Ha ψ (l1.map (·.1))=F1∧(∀p,p∈l1→FB w' p.2 (ν p.1) (ψ p.1))∧
     ∀(hp':Nat→Option Ka) (σ':Nat→Value) (O'':Nat→Prop),(∀p,p∈l1→σ' p.1=ν p.1)→(∀b,b<w'.heap.size→¬O' b→¬O'' b)→Kb w' O'' hp' σ' d1 cs:=by
     cases f with
     |true=>
      simp only[zg]at ho1
      simp only[if_true]at h1
      obtain⟨a1,a2,a3,ψ1,ν1,a4,a5,a6⟩:=VD ho1 h1
      exact⟨a1,a2,a3,ψ1,ν1,a4,a5,fun hp' σ' O'' hσ _=>a6 w' hp' σ' O'' hσ⟩
     |false=>
      simp only[zh,jh]at ho1
      obtain⟨rfl,rfl,rfl⟩:=ho1
      simp only[jq,if_false]at h1
      exact⟨jo _,by simp,by simp[Ob],fun _=>[],fun _=>undef,by simp[Ha,h1.2],by simp,fun hp' σ' O'' _ hO=>Wa.stable (fun _ _ _=>rfl) hO h1.1⟩
    obtain⟨a1,a2,a3,ψ1,ν1,a4,a5,a6⟩:=hA
    refine⟨by omega,?_,fun id=>if id<m1 then ψ1 id else ψ2 id,fun id=>if id<m1 then ν1 id else ν2 id,?_,?_,?_⟩
    ·intro p hp
     rcases jl.1 hp with hp|hp
     ·have:=a2 p hp;omega
     ·have:=b2 p hp;omega
    ·rw[yw,Ye,hF,←a4,←b4]
     congr 1
     ·unfold Ha
      congr 1
      apply List.map_congr_left
      intro id hid
      obtain⟨p,hp,rfl⟩:=qk.1 hid
      rw[if_pos (a2 p hp).2]
     ·unfold Ha
      congr 1
      apply List.map_congr_left
      intro id hid
      obtain⟨p,hp,rfl⟩:=qk.1 hid
      rw[if_neg (by have:=b2 p hp;omega)]
    ·intro p hp
     rcases jl.1 hp with hp|hp
     ·have:=(a2 p hp).2
      simp only[if_pos this]
      exact a5 p hp
     ·have:¬p.1<m1:=by have:=b2 p hp;omega
      simp only[if_neg this]
      exact b5 p hp
    ·intro hp' σ' O'' hσ hO
     rw[hv]
     refine⟨Dag a3 (a6 hp' σ' O'' (fun p hp=>?_) hO),b6 hp' σ' O'' (fun p hp=>?_) hO⟩
     ·have h1:=hσ p (qu _ hp)
      simp only[if_pos (a2 p hp).2]at h1
      exact h1
     ·have h1:=hσ p (qv _ hp)
      have h2:¬p.1<m1:=by have:=b2 p hp;omega
      simp only[if_neg h2]at h1
      exact h1
   ·simp at he
 |.u,_,_::_,_,_,_,_,_,_,he,_=>by simp[Ah]at he
 |.p _ _,_,[],_,_,_,_,_,_,he,_=>by simp[Ah]at he
 |.i _,_,fr,_,_,_,_,_,_,he,_=>by cases fr<;>simp[Ah]at he
 |.b,_,fr,_,_,_,_,_,_,he,_=>by cases fr<;>simp[Ah]at he
 |.o,_,fr,_,_,_,_,_,_,he,_=>by cases fr<;>simp[Ah]at he
 |.mp _ _,_,fr,_,_,_,_,_,_,he,_=>by cases fr<;>simp[Ah]at he
 |.s,_,fr,_,_,_,_,_,_,he,_=>by cases fr<;>simp[Ah]at he
 |.sl _,_,fr,_,_,_,_,_,_,he,_=>by cases fr<;>simp[Ah]at he
theorem G8{O:Nat→Prop}{hp:Nat→Option Ka}{d d':D}{vs:List Value}(he:ZP d=some d')(h:Nh w O hp σ d vs):Td w O hp σ d' (IN vs):=by
 unfold ZP at he
 split at he
 ·rename_i a
  simp only[jc]at he
  subst he
  cases vs with
  |nil=>simp[Nh]at h
  |cons v vs=>
   cases vs with
   |nil=>exact ZD h.1
   |cons u vs=>simp[Nh]at h
 ·rename_i hne
  simp only[jc]at he
  subst he
  refine⟨vs.toArray,?_,by simpa using h⟩
  cases vs with
  |nil=>rfl
  |cons v vs=>
   cases vs with
   |nil=>
    exfalso
    cases d with
    |pr a b=>
     have hb:=h.2
     cases b with
     |un=>exact hne a rfl
     |_=>simp[Nh]at hb
    |_=>simp[Nh]at h
   |cons u vs=>rfl
theorem EI{f:FuncId}{args:Array Operand}{ts:Array TypeId}(ho:o.op=.call ⟨.value (.func f),args,ts⟩)(hf:ZH P f):
 (execOp a.eval o).run P w=.ok (.enter f (args.toList.map a.eval).toArray) w:=by
 obtain⟨fn,h1,h2,h3⟩:=hf
 have:(args.toList.map a.eval).toArray=args.map a.eval:=by rw[←Array.toList_map,Array.toArray_toList]
 have h2':¬fn.name= "runtime.NumGoroutine" :=by simpa using h2
 have h3':¬fn.body=none:=by
  intro e
  rw[e]at h3
  simp at h3
 rw[this]
 simp[execOp,ho,resolve,Deferred.ofValue,invoke,callFunc,Act.eval,run_program,h1,h2',h3']
theorem GG{u:List (Nat×Option Ka)}(h:Te s u=true):(∀p,p∈u→s.newOk p.1=true)∧(u.map (·.1)).Nodup:=by
 simp only[Te,jd,yx]at h
 exact⟨fun p hp=>h.1 p hp,Mi h.2⟩
end
theorem Fd.all{w:World}{O O':Nat→Prop}:∀{rt:Ty} {r:T rt} {fr:List Bool} {vs:List Value} {F:List Nat},fr.all id=true→Fd w O rt r fr vs F→Fd w O' rt r fr vs F
 |.u,_,[],[],_,_,h=>h
 |.p x y,r,f::fr,v::vs,F,ha,h=>by
  simp only[List.all_cons,id,jd]at ha
  obtain⟨cs,F1,F2,hv,hF,h1,h2⟩:=h
  have hf:f=true:=ha.1
  subst hf
  exact⟨cs,F1,F2,hv,hF,h1,Fd.all (O:=O) ha.2 h2⟩
 |.u,_,_::_,_,_,_,h=>by simp[Fd]at h
 |.u,_,[],_::_,_,_,h=>by simp[Fd]at h
 |.p _ _,_,[],_,_,_,h=>by simp[Fd]at h
 |.p _ _,_,_::_,[],_,_,h=>by simp[Fd]at h
 |.i _,_,fr,vs,_,_,h=>by simp[Fd]at h
 |.b,_,fr,vs,_,_,h=>by simp[Fd]at h
 |.o,_,fr,vs,_,_,h=>by simp[Fd]at h
 |.mp _ _,_,fr,vs,_,_,h=>by simp[Fd]at h
 |.s,_,fr,vs,_,_,h=>by simp[Fd]at h
 |.sl _,_,fr,vs,_,_,h=>by simp[Fd]at h
theorem BaI{w w':World}{e:Ty}{xs ys:List (T e)}{v:Value}{F F':List Nat}(h:Ic w (.sl e) xs [v] F)(h':Ic w' (.sl e) ys [v] F'):ja xs=ja ys:=by
 obtain⟨_,⟨h1,h2,_⟩|⟨_,_,_,_,_,_,h1,_⟩⟩:=h<;>obtain⟨_,⟨g1,g2,_⟩|⟨_,_,_,_,_,_,g1,_⟩⟩:=h'
 ·rw[h2,g2]
 ·rw[h1]at g1;simp at g1
 ·rw[h1]at g1;simp at g1
 ·rw[h1]at g1;simp at g1;exact g1.2.1
section
variable{P:Program} {Out:Type} {n0:Nat} {A:Fx} {O0:Nat→Prop} {w0 w w':World} {s:AS} {σ σ':Nat→Value} {φ φ':Nat→List Nat} {a:Act}
variable{o:Oper} {Q:Exit→Act→World→Prop} {k:AS→Option Out} {out:Out} {d:D} {v:Value} {upd:List (Nat×Option Ka)} {dst:Option Tmp} {G:Sf}
theorem YS{x:Operand}(hx:s.ev x=some d){j:Nat}(hj:d.ment j=true):s.ment j=true:=by
 cases x with
 |tmp q=>exact AS.ment_tm hx hj
 |const c=>
  exfalso
  simp only[AS.ev]at hx
  unfold HW at hx
  split at hx<;>simp at hx<;>subst hx<;>simp[D.ment]at hj
 |_=>simp[AS.ev]at hx
theorem RX:∀{d:D} {τ:Ty} {x:T τ} {l:List Nat},Cc s d τ=some (x,l)→∀j,j∈l→d.ment j=true:=by
 intro d
 induction d with
 |t τ' y=>
  intro τ x l he j hj
  simp only[Cc]at he
  cases hf:τ'.flat with
  |false=>rw[hf]at he;simp at he
  |true=>
   rw[hf]at he
   simp only[zg]at he
   split at he
   ·simp only[jc,jh]at he
    rw[←he.2]at hj
    simp at hj
   ·simp at he
 |nil=>intro τ x l he j hj;cases τ<;>simp[Cc]at he;rw[he.2]at hj;simp at hj
 |own id=>
  intro τ x l he j hj
  cases τ with
  |sl e=>
   simp only[Cc]at he
   split at he
   ·rename_i e' dp xs hb
    cases hc:(dp||e'.flat)with
    |false=>rw[hc]at he;simp at he
    |true=>
     rw[hc]at he
     simp only[zg]at he
     split at he
     ·simp only[jc,jh]at he
      rw[←he.2]at hj
      simp at hj
      subst hj
      simp[D.ment]
     ·simp at he
   ·simp at he
  |_=>simp[Cc]at he
 |pr a b iha ihb=>
  intro τ x l he j hj
  cases τ with
  |p t1 t2=>
   simp only[Cc]at he
   split at he
   ·rename_i u l1 v l2 h1 h2
    simp only[jc,jh]at he
    rw[←he.2]at hj
    simp only[D.ment,qx]
    rcases jl.1 hj with hj|hj
    ·exact .inl (iha h1 j hj)
    ·exact .inr (ihb h2 j hj)
   ·simp at he
  |_=>simp[Cc]at he
 |un=>intro τ x l he j hj;cases τ<;>simp[Cc]at he;rw[he]at hj;simp at hj
 |mpo id=>
  intro τ x l he j hj
  cases τ with
  |mp k v=>
   simp only[Cc]at he
   split at he
   ·split at he
    ·simp only[jc,jh]at he
     rw[←he.2]at hj
     simp at hj
     subst hj
     simp[D.ment]
    ·simp at he
   ·simp at he
  |_=>simp[Cc]at he
 |_=>intro τ x l he;cases τ<;>simp[Cc]at he
theorem RaI(h:Db n0 A O0 w0 s σ φ a w):∀{d:D} {τ:Ty} {x x':T τ} {l:List Nat} {cs:List Value} {F:List Nat},Cc s d τ=some (x,l)→l.Nodup→Kb w (OO O0 s φ) s.heap σ d cs→Ic w' τ x' cs F→
 (XK d τ x').map (·.1)=l∧∃ψ:Nat→List Nat,Ha ψ l=F∧∀p,p∈XK d τ x'→FB w' p.2 (σ p.1) (ψ p.1)∧∃b Ga,p.2=some b∧s.heap p.1=some Ga∧Ga.like b:=by
 intro d
 induction d with
 |t τ' y=>
  intro τ x x' l cs F he hn hr ho
  simp only[Cc]at he
  cases hf:τ'.flat with
  |false=>rw[hf]at he;simp at he
  |true=>
   rw[hf]at he
   simp only[zg]at he
   split at he
   ·rename_i q hq
    subst q
    simp only[jc,jh]at he
    obtain⟨rfl,rfl⟩:=he
    have hF:=Tz hf ho
    have hup:XK (.t τ' y) τ' x'=[]:=by cases τ'<;>rfl
    rw[hup]
    exact⟨rfl,fun _=>[],by simp[Ha,hF],by simp⟩
   ·simp at he
 |nil=>
  intro τ x x' l cs F he hn hr ho
  cases τ with
  |sl e=>
   simp only[Cc,jc,jh]at he
   obtain⟨rfl,rfl⟩:=he
   simp only[Kb]at hr
   subst hr
   refine⟨rfl,fun _=>[],?_,by simp[XK]⟩
   obtain⟨_,⟨_,_,h3⟩|⟨_,_,_,_,_,_,h1,_⟩⟩:=ho
   ·simp[Ha,h3]
   ·simp at h1
  |_=>simp[Cc]at he
 |own id=>
  intro τ x x' l cs F he hn hr ho
  cases τ with
  |sl e=>
   simp only[Cc]at he
   split at he
   ·rename_i e' dp xs hb
    cases hc:(dp||e'.flat)with
    |false=>rw[hc]at he;simp at he
    |true=>
     rw[hc]at he
     simp only[zg]at he
     split at he
     ·rename_i q hq
      subst q
      simp only[jc,jh]at he
      obtain⟨rfl,rfl⟩:=he
      obtain⟨u,hcs,_,hu⟩:=hr
      have hu':=hu _ _ hb rfl
      subst hu'
      subst hcs
      have hold:=LZ (h.hp id _ hb) (by simpa using hc)
      refine⟨rfl,fun _=>F,by simp[Ha],?_⟩
      intro p hp
      simp only[XK,qb]at hp
      subst hp
      exact⟨.inl ⟨e',x',rfl,ho⟩,_,_,rfl,hb,rfl,BaI hold ho⟩
     ·simp at he
   ·simp at he
  |_=>simp[Cc]at he
 |pr d1 d2 iha ihb=>
  intro τ x x' l cs F he hn hr ho
  cases τ with
  |p t1 t2=>
   simp only[Cc]at he
   split at he
   ·rename_i u l1 v l2 h1 h2
    simp only[jc,jh]at he
    obtain⟨rfl,rfl⟩:=he
    obtain⟨c1,c2,hc,r1,r2⟩:=hr
    obtain⟨e1,e2,F1,F2,hc',hF,o1,o2⟩:=ho
    have hlen:c1.length=e1.length:=by
     rw[Kb.length (Sl h1) r1,Ic.length o1]
    rw[hc]at hc'
    obtain⟨q1,q2⟩:=List.append_inj hc' hlen
    subst q1;subst q2
    rw[yn]at hn
    obtain⟨i1,ψ1,i2,i3⟩:=iha h1 hn.1 r1 o1
    obtain⟨j1,ψ2,j2,j3⟩:=ihb h2 hn.2.1 r2 o2
    have hnot:∀j,j∈l2→j∉l1:=fun j hj hj'=>hn.2.2 j hj' j hj rfl
    refine⟨by simp[XK,i1,j1],fun j=>if j∈l1 then ψ1 j else ψ2 j,?_,?_⟩
    ·rw[Ye,hF,←i2,←j2]
     congr 1
     ·unfold Ha
      congr 1
      exact List.map_congr_left fun j hj=>by rw[if_pos hj]
     ·unfold Ha
      congr 1
      exact List.map_congr_left fun j hj=>by rw[if_neg (hnot j hj)]
    ·intro p hp
     simp only[XK]at hp
     rcases jl.1 hp with hp|hp
     ·have hm:p.1∈l1:=by rw[←i1];exact yv hp
      simp only[if_pos hm]
      exact i3 p hp
     ·have hm:p.1∈l2:=by rw[←j1];exact yv hp
      simp only[if_neg (hnot _ hm)]
      exact j3 p hp
   ·simp at he
  |_=>simp[Cc]at he
 |un=>
  intro τ x x' l cs F he hn hr ho
  cases τ with
  |u=>
   simp only[Cc,jc,jh]at he
   obtain⟨_,rfl⟩:=he
   simp only[Ic]at ho
   exact⟨rfl,fun _=>[],by simp[Ha,ho.2],by simp[XK]⟩
  |_=>simp[Cc]at he
 |mpo id=>
  intro τ x x' l cs F he hn hr ho
  cases τ with
  |mp k v=>
   simp only[Cc]at he
   split at he
   ·rename_i k' v' xs hb
    split at he
    ·rename_i q1 q2 g1 g2
     subst q1;subst q2
     simp only[jc,jh]at he
     obtain⟨rfl,rfl⟩:=he
     obtain⟨u,hcs,_,hu⟩:=hr
     have hu':=hu _ hb rfl
     subst hu'
     subst hcs
     refine⟨rfl,fun _=>F,by simp[Ha],?_⟩
     intro p hp
     simp only[XK,qb]at hp
     subst hp
     exact⟨.inr ⟨_,_,x',rfl,ho⟩,_,_,rfl,hb,rfl,rfl⟩
    ·simp at he
   ·simp at he
  |_=>simp[Cc]at he
 |_=>intro τ x x' l cs F he;cases τ<;>simp[Cc]at he
theorem Wn{l:List Nat}(h:∀j,j∈l→φ j=φ' j):Ha φ l=Ha φ' l:=by
 unfold Ha
 congr 1
 exact List.map_congr_left h
theorem XT(h:Db n0 A O0 w0 s σ φ a w){l:List Nat}{V:List (Nat×Option Ka)}(hV:V.map (·.1)=l)(hl:l.Nodup)(hlm:∀j,j∈l→s.ment j=true){ψ0:Nat→List Nat}{F1:List Nat}
 (hb0:Ha ψ0 l=F1) (hVp:∀p,p∈V→FB w' p.2 (σ p.1) (ψ0 p.1)∧∃b Ga,p.2=some b∧s.heap p.1=some Ga∧Ga.like b)
 (hK:AD w w' (·∈Ha φ l)) (hF1:∀b,b∈F1→w.heap.size≤b∨b∈Ha φ l) {rt:Ty} {r:T rt} {fr:List Bool} {n m:Nat} {d d':D} {u:List (Nat×Option Ka)} {vs:List Value} {Fr:List Nat}
 (hop:Ah rt r fr n=some (d,u,m)) (hfi:Te s u=true) (hR:Fd w' (fun b=>OO O0 s φ b∨b∈F1∨b∈Fr) rt r fr vs Fr) (hnd:(F1++Fr).Nodup) (hFr:∀b,b∈Fr→w.heap.size≤b∨b∈Ha φ l)
 (hres:ZP d=some d') (he:Xi s dst d' (u++V) k=some out):Nf n0 A O0 w0 k out (a.put dst (IN vs)) w':=by
 obtain⟨hnew,hun⟩:=GG hfi
 obtain⟨_,_,ψ,ν,hb1,hup,hrep⟩:=UU hop hR
 have hul:∀j,j∈u.map (·.1)→j∉l:=by
  intro j hj hj'
  obtain⟨p,hp,rfl⟩:=qk.1 hj
  have h1:=hnew p hp
  simp only[AS.newOk,jd,yl]at h1
  rw[hlm _ hj']at h1
  simp at h1
 let σ':Nat→Value:=fun j=>if j∈u.map (·.1)then ν j else σ j
 let φ':Nat→List Nat:=fun j=>if j∈u.map (·.1)then ψ j else if j∈l then ψ0 j else φ j
 have hσu:∀p,p∈u→σ' p.1=ν p.1:=fun p hp=>if_pos (yv hp)
 have hφu:∀j,j∈u.map (·.1)→φ' j=ψ j:=fun j hj=>if_pos hj
 have hφl:∀j,j∈l→φ' j=ψ0 j:=fun j hj=>by
  have:j∉u.map (·.1):=fun hj'=>hul j hj' hj
  show(if j∈u.map (·.1)then ψ j else if j∈l then ψ0 j else φ j)=ψ0 j
  rw[if_neg this,if_pos hj]
 have hbl:Ha φ' ((u++V).map (·.1))=Fr++F1:=by
  rw[yw,Ye,hV,←hb1,←hb0,Wn hφu,Wn hφl]
 have hc:Db n0 A O0 w0 ⟨s.n,s.tm,(u++V)++s.hp⟩ σ' φ' a w':=by
  refine h.adopt (u++V) ?_ ?_ ?_ ⟨hK.size,fun b hb hno=>hK.block b hb fun hm=>hno ?_,hK.os,hK.tape,hK.output⟩ ?_ ?_ ?_
  ·rw[yw,hV,yn]
   exact⟨hun,hl,fun x hx y hy e=>hul x hx (e▸hy)⟩
  ·intro j hj
   rw[yw,hV,jl,not_or]at hj
   exact⟨if_neg hj.1,(if_neg hj.1).trans (if_neg hj.2)⟩
  ·intro p hp
   rcases jl.1 hp with hp|hp
   ·exact .inl (hnew p hp)
   ·obtain⟨h2,b,Ga,h1,h3,h4⟩:=hVp p hp
    have hpl:p.1∈l:=by rw[←hV];exact yv hp
    exact .inr ⟨Ga,_,h3,h1,h4,if_neg fun hj=>hul _ hj hpl⟩
  ·obtain⟨j,hj,hm'⟩:=Pb.1 hm
   rw[←hV]at hj
   obtain⟨p,hp,rfl⟩:=qk.1 hj
   obtain⟨h2,b,Ga,h1,h3,h4⟩:=hVp p hp
   exact⟨p,qv _ hp,Ga,h3,hm'⟩
  ·intro p hp
   rcases jl.1 hp with hp|hp
   ·have h2:=hup p hp
    rw[hσu p hp,hφu _ (yv hp)]
    exact h2
   ·obtain⟨h2,b,Ga,h1,h3,h4⟩:=hVp p hp
    have hpl:p.1∈l:=by rw[←hV];exact yv hp
    have:σ' p.1=σ p.1:=if_neg fun hj=>hul _ hj hpl
    rw[this,hφl _ hpl]
    exact h2
  ·rw[hbl]
   exact(List.perm_append_comm.nodup_iff).1 hnd
  ·intro b hb
   rw[hbl]at hb
   have hb2:w.heap.size≤b∨b∈Ha φ l:=by
    rcases jl.1 hb with hb|hb
    ·exact hFr b hb
    ·exact hF1 b hb
   rcases hb2 with hb|hb
   ·exact .inl hb
   ·obtain⟨j,hj,hm'⟩:=Pb.1 hb
    rw[←hV]at hj
    obtain⟨p,hp,rfl⟩:=qk.1 hj
    obtain⟨h2,b,Ga,h1,h3,h4⟩:=hVp p hp
    exact .inr ⟨p,qv _ hp,Ga,h3,hm'⟩
 refine Jf rfl hc ?_ he
 refine G8 hres (hrep _ _ _ hσu ?_)
 intro b hb hno hO
 apply hno
 rcases hO with hO|⟨j,Ga,hl',hm⟩
 ·exact .inl (.inl hO)
 ·by_cases hju:j∈u.map (·.1)
  ·rw[hφu j hju]at hm
   exact .inr (.inr (by rw[←hb1];exact Pb.2 ⟨j,hju,hm⟩))
  ·by_cases hjl:j∈l
   ·rw[hφl j hjl]at hm
    exact .inr (.inl (by rw[←hb0];exact Pb.2 ⟨j,hjl,hm⟩))
   ·have hφ:φ' j=φ j:=(if_neg hju).trans (if_neg hjl)
    rw[hφ]at hm
    have hne:∀(U:List (Nat×Option Ka)),j∉U.map (·.1)→Xb (U++s.hp) j=Xb s.hp j:=by
     intro U
     induction U with
     |nil=>simp
     |cons p U ih=>
      intro hn
      simp only[yk,jp,not_or]at hn
      rw[yh,Id,if_neg (Ne.symm hn.1),ih hn.2]
    have hjUV:j∉(u++V).map (·.1):=by
     rw[yw,hV,jl,not_or];exact⟨hju,hjl⟩
    have:s.heap j=some Ga:=by
     have h1:=hl'
     simp only[AS.heap]at h1⊢
     rw[hne _ hjUV]at h1
     exact h1
    exact .inl (.inr ⟨j,Ga,this,hm⟩)
theorem BW(h:Db n0 A O0 w0 s σ φ a w){l:List Nat}(hlive:∀j,j∈l→∃b,s.heap j=some b):∀b,b∈Ha φ l→A.I.base≤b:=by
 intro b hb
 obtain⟨j,hj,hm⟩:=Pb.1 hb
 obtain⟨Ga,hbj⟩:=hlive j hj
 exact h.ivb hbj hm
theorem DG{α:Type}{l m:List (Nat×α)}{k:Nat}(h:k∉l.map (·.1)):Xb (l++m) k=Xb m k:=by
 induction l with
 |nil=>rfl
 |cons p l ih=>
  simp only[yk,jp,not_or]at h
  rw[yh,Id,if_neg (Ne.symm h.1),ih h.2]
theorem ZV{α:Type}{l m:List (Nat×α)}:(l.map (·.1)).Nodup→∀p,p∈l→Xb (l++m) p.1=some p.2:=by
 induction l with
 |nil=>simp
 |cons q l ih=>
  intro hn p hp
  simp only[yk,ym]at hn
  rw[yh,Id]
  rcases jp.1 hp with rfl|hp
  ·rw[if_pos rfl]
  ·rw[if_neg (fun e:q.1=p.1=>hn.1 (by rw[e];exact yv hp)),ih hn.2 p hp]
theorem Lap{ψ:Nat→List Nat}:∀{L:List Nat},(Ha ψ L).Nodup→∀{i j b:Nat},i∈L→j∈L→i≠j→b∈ψ i→b∉ψ j:=by
 intro L
 induction L with
 |nil=>simp
 |cons x L ih=>
  intro hn i j b hi hj hne hbi hbj
  have hx:Ha ψ (x::L)=ψ x++Ha ψ L:=by simp[Ha]
  rw[hx,yn]at hn
  rcases jp.1 hi with e1|q1
  ·rcases jp.1 hj with e2|q2
   ·exact hne (e1.trans e2.symm)
   ·exact hn.2.2 b (e1▸hbi) b (Pb.2 ⟨j,q2,hbj⟩) rfl
  ·rcases jp.1 hj with e2|q2
   ·exact hn.2.2 b (e2▸hbj) b (Pb.2 ⟨i,q1,hbi⟩) rfl
   ·exact ih hn.2.1 q1 q2 hne hbi hbj
def OL(O0:Nat→Prop)(s:AS)(l:List Nat)(φ:Nat→List Nat)(b:Nat):Prop:=O0 b∨∃j Ga,j∉l∧s.heap j=some Ga∧b∈φ j
theorem OL.oo{O0:Nat→Prop}{s:AS}{l:List Nat}{φ:Nat→List Nat}{b:Nat}(h:OL O0 s l φ b):OO O0 s φ b:=h.imp id fun⟨j,Ga,_,h1,h2⟩=>⟨j,Ga,h1,h2⟩
theorem AaI{s:AS}:∀{d:D} {τ:Ty} {x:T τ} {l:List Nat},Cc s d τ=some (x,l)→∀j,j∈l→∀Ga,s.heap j=some Ga→∀ρ e,Ga≠ .box ρ e:=by
 intro d
 induction d with
 |t τ' y=>
  intro τ x l he j hj
  simp only[Cc]at he
  cases hf:τ'.flat with
  |false=>rw[hf]at he;simp at he
  |true=>
   rw[hf]at he
   simp only[zg]at he
   split at he
   ·simp only[jc,jh]at he
    rw[←he.2]at hj;simp at hj
   ·simp at he
 |nil=>
  intro τ x l he j hj
  cases τ<;>simp[Cc]at he
  rw[he.2]at hj;simp at hj
 |own id=>
  intro τ x l he j hj Ga hb ρ e
  cases τ with
  |sl e1=>
   simp only[Cc]at he
   split at he
   ·rename_i e' dp xs hid
    cases hf:dp||e'.flat with
    |false=>rw[hf]at he;simp at he
    |true=>
     rw[hf]at he
     simp only[zg]at he
     split at he
     ·simp only[jc,jh]at he
      rw[←he.2,qb]at hj
      subst hj
      rw[hid]at hb
      simp only[jc]at hb
      subst hb
      simp
     ·simp at he
   ·simp at he
  |_=>simp[Cc]at he
 |mpo id=>
  intro τ x l he j hj Ga hb ρ e
  cases τ with
  |mp k v=>
   simp only[Cc]at he
   split at he
   ·rename_i k' v' xs hid
    split at he
    ·simp only[jc,jh]at he
     rw[←he.2,qb]at hj
     subst hj
     rw[hid]at hb
     simp only[jc]at hb
     subst hb
     simp
    ·simp at he
   ·simp at he
  |_=>simp[Cc]at he
 |pr y z ih1 ih2=>
  intro τ x l he j hj
  cases τ with
  |p t1 t2=>
   simp only[Cc]at he
   split at he
   ·rename_i u1 l1 u2 l2 h1 h2
    simp only[jc,jh]at he
    rw[←he.2]at hj
    rcases jl.1 hj with hj|hj
    ·exact ih1 h1 j hj
    ·exact ih2 h2 j hj
   ·simp at he
  |_=>simp[Cc]at he
 |un=>
  intro τ x l he j hj
  cases τ<;>simp[Cc]at he
  rw[he]at hj;simp at hj
 |_=>intro τ x l he;cases τ<;>simp[Cc]at he
theorem Db.after2(h:Db n0 A O0 w0 s σ φ a w){U X:List (Nat×Option Ka)}{l:List Nat}{ψ:Nat→List Nat}{ν:Nat→Value}
 (hU:(U.map (·.1)).Nodup) (hUn:∀p,p∈U→s.newOk p.1=true) (hX:(X.map (·.1)).Nodup) (hl:∀j,j∈l→∃b,s.heap j=some b) (hXl:∀j,j∈X.map (·.1)→j∉l)
 (hK:AD w w' (·∈Ha φ (X.map (·.1)++l))) (hUr:∀p,p∈U→FB w' p.2 (ν p.1) (ψ p.1))
 (hnd:(Ha ψ (U.map (·.1))).Nodup) (hsub:∀b,b∈Ha ψ (U.map (·.1))→w.heap.size≤b∨b∈Ha φ l)
 (hlm:∀j,j∈X.map (·.1)++l→s.newOk j=false)
 (hXr:∀p,p∈X→∃ρ d e,p.2=some (.box ρ e)∧s.heap p.1=some (.box ρ d)∧
  ∀(hp':Nat→Option Ka) (σ':Nat→Value) (O':Nat→Prop),σ' p.1=σ p.1→(∀q,q∈U→σ' q.1=ν q.1)→(∀b,O' b→OO O0 s φ b∨b∈Ha ψ (U.map (·.1)))→Gd w' O' hp' σ' p.1 (.box ρ e) (φ p.1)):
 ∃σ' φ',Db n0 A O0 w0 ⟨s.n,s.tm,U++(X++Ed l)++s.hp⟩ σ' φ' a w'∧(∀q,q∈U→σ' q.1=ν q.1)∧(∀b,OO O0 ⟨s.n,s.tm,U++(X++Ed l)++s.hp⟩ φ' b→OL O0 s l φ b∨b∈Ha ψ (U.map (·.1))):=by
 have hUX:∀j,j∈U.map (·.1)→j∉X.map (·.1)++l:=by
  intro j hj hj'
  obtain⟨p,hp,rfl⟩:=qk.1 hj
  have h1:=hlm _ hj'
  rw[hUn p hp]at h1
  simp at h1
 let σ':Nat→Value:=fun j=>if j∈U.map (·.1)then ν j else σ j
 let φ':Nat→List Nat:=fun j=>if j∈U.map (·.1)then ψ j else φ j
 have hσu:∀p,p∈U→σ' p.1=ν p.1:=fun p hp=>if_pos (yv hp)
 have hφu:∀j,j∈U.map (·.1)→φ' j=ψ j:=fun j hj=>if_pos hj
 have hφn:∀j,j∉U.map (·.1)→φ' j=φ j:=fun j hj=>if_neg hj
 have hσn:∀j,j∉U.map (·.1)→σ' j=σ j:=fun j hj=>if_neg hj
 have hget:∀j,AS.heap ⟨s.n,s.tm,U++(X++Ed l)++s.hp⟩ j=(Xb (U++(X++Ed l)++s.hp) j).join:=fun _=>rfl
 have hgU:∀p,p∈U→AS.heap ⟨s.n,s.tm,U++(X++Ed l)++s.hp⟩ p.1=p.2:=fun p hp=>by
  rw[hget,q0,ZV hU p hp];rfl
 have hgX:∀p,p∈X→AS.heap ⟨s.n,s.tm,U++(X++Ed l)++s.hp⟩ p.1=p.2:=fun p hp=>by
  have h1:p.1∉U.map (·.1):=fun hc=>hUX _ hc (qu _ (yv hp))
  rw[hget,q0,DG h1,q0,ZV hX p hp];rfl
 have hgl:∀j,j∈l→AS.heap ⟨s.n,s.tm,U++(X++Ed l)++s.hp⟩ j=none:=fun j hj=>by
  have h1:j∉U.map (·.1):=fun hc=>hUX _ hc (qv _ hj)
  have h2:j∉X.map (·.1):=fun hc=>hXl j hc hj
  rw[hget,q0,DG h1,q0,DG h2,Qy,if_pos hj];rfl
 have hgo:∀j,j∉U.map (·.1)→j∉X.map (·.1)→j∉l→AS.heap ⟨s.n,s.tm,U++(X++Ed l)++s.hp⟩ j=s.heap j:=fun j h1 h2 h3=>by
  rw[hget,q0,DG h1,q0,DG h2,Qy,if_neg h3];rfl
 have hbX:∀p,p∈X→∃Ga,s.heap p.1=some Ga:=fun p hp=>by
  obtain⟨ρ,d,e,_,h2,_⟩:=hXr p hp
  exact⟨_,h2⟩
 have hOO':∀b,OO O0 ⟨s.n,s.tm,U++(X++Ed l)++s.hp⟩ φ' b→OL O0 s l φ b∨b∈Ha ψ (U.map (·.1)):=by
  rintro b (hb|⟨j,Ga,hl',hm⟩)
  ·exact .inl (.inl hb)
  ·by_cases hju:j∈U.map (·.1)
   ·rw[hφu j hju]at hm
    exact .inr (Pb.2 ⟨j,hju,hm⟩)
   ·rw[hφn j hju]at hm
    by_cases hjx:j∈X.map (·.1)
    ·obtain⟨p,hp,rfl⟩:=qk.1 hjx
     obtain⟨blk',hb'⟩:=hbX p hp
     exact .inl (.inr ⟨p.1,blk',hXl _ hjx,hb',hm⟩)
    ·by_cases hjl:j∈l
     ·rw[hgl j hjl]at hl';simp at hl'
     ·rw[hgo j hju hjx hjl]at hl'
      exact .inl (.inr ⟨j,Ga,hjl,hl',hm⟩)
 have hOO:∀b,OO O0 ⟨s.n,s.tm,U++(X++Ed l)++s.hp⟩ φ' b→OO O0 s φ b∨b∈Ha ψ (U.map (·.1)):=fun b hb=>(hOO' b hb).imp OL.oo id
 refine⟨σ',φ',?_,hσu,hOO'⟩
 refine h.trans (fun j=>j∈U.map (·.1)∨j∈X.map (·.1)∨j∈l) rfl rfl ?_ ?_ hK.size ?_ ?_ ?_ ?_ hK.os hK.tape hK.output ?_ ?_
 rotate_right
 ·intro j kk e xs hj hl'
  rcases hj with hj|hj|hj
  ·obtain⟨p,hp,rfl⟩:=qk.1 hj
   have ho:=hUr p hp
   rw[hgU p hp]at hl'
   rw[hl']at ho
   exact ho.nq.elim
  ·obtain⟨p,hp,rfl⟩:=qk.1 hj
   obtain⟨ρ,d,e,h1,h2,_⟩:=hXr p hp
   rw[hgX p hp,h1]at hl'
   simp at hl'
  ·rw[hgl j hj]at hl';simp at hl'
 ·intro j hj
  simp only[not_or]at hj
  exact⟨hgo j hj.1 hj.2.1 hj.2.2,hσn j hj.1,hφn j hj.1⟩
 ·intro b hb hno
  refine hK.block b hb fun hm=>?_
  obtain⟨j,hj,hm⟩:=Pb.1 hm
  rcases jl.1 hj with hj|hj
  ·obtain⟨p,hp,rfl⟩:=qk.1 hj
   obtain⟨blk',hb'⟩:=hbX p hp
   exact hno p.1 blk' (.inr (.inl hj)) hb' hm
  ·obtain⟨blk',hb'⟩:=hl j hj
   exact hno j blk' (.inr (.inr hj)) hb' hm
 ·intro j blk' hj hl' b hbm
  rcases hj with hj|hj|hj
  ·rw[hφu j hj]at hbm
   rcases hsub b (Pb.2 ⟨j,hj,hbm⟩)with h1|h1
   ·exact .inl h1
   ·obtain⟨i,hi,hm⟩:=Pb.1 h1
    obtain⟨Ga,hb⟩:=hl i hi
    exact .inr ⟨i,Ga,.inr (.inr hi),hb,hm⟩
  ·have hju:j∉U.map (·.1):=fun hc=>hUX _ hc (qu _ hj)
   rw[hφn j hju]at hbm
   obtain⟨p,hp,rfl⟩:=qk.1 hj
   obtain⟨Ga,hb⟩:=hbX p hp
   exact .inr ⟨p.1,Ga,.inr (.inl hj),hb,hbm⟩
  ·rw[hgl j hj]at hl';simp at hl'
 ·intro j blk' hj hl' hm
  rcases hj with hj|hj|hj
  ·obtain⟨p,hp,rfl⟩:=qk.1 hj
   have hn:=hUn p hp
   simp only[AS.newOk,jd,yl]at hn
   rw[hn.1]at hm;simp at hm
  ·have hju:j∉U.map (·.1):=fun hc=>hUX _ hc (qu _ hj)
   obtain⟨p,hp,rfl⟩:=qk.1 hj
   obtain⟨ρ,d,e,h1,h2,_⟩:=hXr p hp
   rw[hgX p hp,h1]at hl'
   simp only[jc]at hl'
   subst hl'
   exact⟨_,h2,by simp[Ka.like],hσn _ hju⟩
  ·rw[hgl j hj]at hl';simp at hl'
 ·intro j blk' hj hl'
  rcases hj with hj|hj|hj
  ·rw[hφu j hj]
   obtain⟨p,hp,rfl⟩:=qk.1 hj
   have ho:=hUr p hp
   rw[hgU p hp]at hl'
   rw[hl',←hσu p hp]at ho
   refine⟨ho.rep,?_⟩
   ·have:(ψ p.1).Sublist (Ha ψ (U.map (·.1))):=by
     unfold Ha
     exact List.sublist_flatten_of_mem (yv (yv hp))
    exact this.nodup hnd
  ·have hju:j∉U.map (·.1):=fun hc=>hUX _ hc (qu _ hj)
   rw[hφn j hju]
   obtain⟨p,hp,rfl⟩:=qk.1 hj
   obtain⟨ρ,d,e,h1,h2,h3⟩:=hXr p hp
   rw[hgX p hp,h1]at hl'
   simp only[jc]at hl'
   subst hl'
   exact⟨h3 _ _ _ (hσn _ hju) hσu hOO,h.nodup _ _ h2⟩
  ·rw[hgl j hj]at hl';simp at hl'
 ·intro i j b1 b2 hi hj hne hl1 hl2 b hbi hbj
  have hlt:∀p,p∈X→b∈φ p.1→b∉Ha ψ (U.map (·.1)):=by
   intro p hp hm hc
   obtain⟨Ga,hb⟩:=hbX p hp
   rcases hsub b hc with h1|h1
   ·have:=(h.hp p.1 Ga hb).lt b hm;omega
   ·obtain⟨q,hq,hmq⟩:=Pb.1 h1
    obtain⟨blk2,hb2⟩:=hl q hq
    exact h.disj p.1 q Ga blk2 (fun e=>hXl p.1 (yv hp) (e▸hq)) hb hb2 b hm hmq
  rcases hi with hi|hi|hi
  ·rw[hφu i hi]at hbi
   rcases hj with hj|hj|hj
   ·rw[hφu j hj]at hbj
    exact Lap hnd hi hj hne hbi hbj
   ·have hju:j∉U.map (·.1):=fun hc=>hUX _ hc (qu _ hj)
    rw[hφn j hju]at hbj
    obtain⟨p,hp,rfl⟩:=qk.1 hj
    exact hlt p hp hbj (Pb.2 ⟨i,hi,hbi⟩)
   ·rw[hgl j hj]at hl2;simp at hl2
  ·have hiu:i∉U.map (·.1):=fun hc=>hUX _ hc (qu _ hi)
   rw[hφn i hiu]at hbi
   rcases hj with hj|hj|hj
   ·rw[hφu j hj]at hbj
    obtain⟨p,hp,rfl⟩:=qk.1 hi
    exact hlt p hp hbi (Pb.2 ⟨j,hj,hbj⟩)
   ·have hju:j∉U.map (·.1):=fun hc=>hUX _ hc (qu _ hj)
    rw[hφn j hju]at hbj
    obtain⟨p,hp,rfl⟩:=qk.1 hi
    obtain⟨q,hq,rfl⟩:=qk.1 hj
    obtain⟨Ga,hb⟩:=hbX p hp
    obtain⟨blk2,hb2⟩:=hbX q hq
    exact h.disj _ _ Ga blk2 hne hb hb2 b hbi hbj
   ·rw[hgl j hj]at hl2;simp at hl2
  ·rw[hgl i hi]at hl1;simp at hl1
 ·intro j hj
  by_cases hju:j∈U.map (·.1)
  ·obtain⟨p,hp,rfl⟩:=qk.1 hju
   exact .inr (SH (hUn p hp))
  ·exact .inl (hσn j hju)
theorem Db.after(h:Db n0 A O0 w0 s σ φ a w){U X:List (Nat×Option Ka)}{l:List Nat}{ψ:Nat→List Nat}{ν:Nat→Value}
 (hU:(U.map (·.1)).Nodup) (hUn:∀p,p∈U→s.newOk p.1=true) (hX:(X.map (·.1)).Nodup) (hl:∀j,j∈l→∃b,s.heap j=some b) (hXl:∀j,j∈X.map (·.1)→j∉l)
 (hK:AD w w' (·∈Ha φ (X.map (·.1)++l))) (hUr:∀p,p∈U→FB w' p.2 (ν p.1) (ψ p.1))
 (hnd:(Ha ψ (U.map (·.1))).Nodup) (hsub:∀b,b∈Ha ψ (U.map (·.1))→w.heap.size≤b∨b∈Ha φ l)
 (hlm:∀j,j∈X.map (·.1)++l→s.newOk j=false)
 (hXr:∀p,p∈X→∃ρ d e,p.2=some (.box ρ e)∧s.heap p.1=some (.box ρ d)∧
  ∀(hp':Nat→Option Ka) (σ':Nat→Value) (O':Nat→Prop),σ' p.1=σ p.1→(∀q,q∈U→σ' q.1=ν q.1)→(∀b,O' b→OO O0 s φ b∨b∈Ha ψ (U.map (·.1)))→Gd w' O' hp' σ' p.1 (.box ρ e) (φ p.1)):
 ∃σ' φ',Db n0 A O0 w0 ⟨s.n,s.tm,U++(X++Ed l)++s.hp⟩ σ' φ' a w'∧(∀q,q∈U→σ' q.1=ν q.1)∧(∀b,OO O0 ⟨s.n,s.tm,U++(X++Ed l)++s.hp⟩ φ' b→OO O0 s φ b∨b∈Ha ψ (U.map (·.1))):=by
 obtain⟨σ',φ',h1,h2,h3⟩:=h.after2 hU hUn hX hl hXl hK hUr hnd hsub hlm hXr
 exact⟨σ',φ',h1,h2,fun b hb=>(h3 b hb).imp OL.oo id⟩
theorem ZK{f:FuncId}{args:List Value}(hrun:(execOp a.eval o).run P w=.ok (.enter f args.toArray) w){R:Value→World→Prop}(hc:Calls P f args.toArray w (XA R))
 (hg:∀v w',R v w'→Nf n0 A O0 w0 k out (a.put o.dst v) w'):o.wp P a w (Nf n0 A O0 w0 k out) Q:=by
 unfold Oper.wp
 rw[hrun,Oper.upon_enter]
 refine hc.mono fun e w' hR=>?_
 cases e with
 |returned v=>exact hg v w' hR
 |panicked chain=>exact hR.elim
 |outgrown=>exact hR.elim
theorem N2(h:Db n0 A O0 w0 s σ φ a w):∀{args:List Operand} {ds:D} {pt:Ty} {x:T pt} {l:List Nat},Jy s args=some ds→Cc s ds pt=some (x,l)→
 Mg w pt x (args.map a.eval) (Ha φ l)∧(∀j,j∈l→∃b,s.heap j=some b)∧(∀j,j∈l→s.ment j=true)
 |[],ds,pt,x,l,he,hv=>by
  simp only[Jy,jc]at he
  subst he
  cases pt<;>simp[Cc]at hv
  subst hv
  exact⟨rfl,by simp,by simp⟩
 |y::r,ds,pt,x,l,he,hv=>by
  simp only[Jy]at he
  split at he
  ·rename_i d1 d2 h1 h2
   simp only[jc]at he
   subst he
   cases pt with
   |p t1 t2=>
    simp only[Cc]at hv
    split at hv
    ·rename_i u1 l1 u2 l2 hu1 hu2
     simp only[jc,jh]at hv
     obtain⟨rfl,rfl⟩:=hv
     obtain⟨hr,hvv⟩:=Qf (Sl hu1) (h.ev h1)
     obtain⟨ho,hlive⟩:=Er h hu1 hr
     obtain⟨a1,a2,a3⟩:=N2 h h2 hu2
     refine⟨⟨_,Ha φ l1,Ha φ l2,hvv,Ye,ho,a1⟩,fun j hj=>?_,fun j hj=>?_⟩
     ·rcases jl.1 hj with hj|hj
      ·exact hlive j hj
      ·exact a2 j hj
     ·rcases jl.1 hj with hj|hj
      ·exact YS h1 (RX hu1 j hj)
      ·exact a3 j hj
    ·simp at hv
   |_=>simp[Cc]at hv
  ·simp at he
theorem J5{j:Nat}(h:s.ment j=true):s.newOk j=false:=by simp[AS.newOk,h]
theorem BV{id:Nat}{e:Ty}{dp:Bool}{xs:List (T e)}{O O':Nat→Prop}{hp:Nat→Option Ka}{F:List Nat}(h:Gd w O hp σ id (.row e dp xs) F)(hO:∀b,O' b→O b)(hF:∀b,b∈F→¬O' b):
 Wa w O' (.sl e) xs [σ id]:=by
 cases dp with
 |true=>exact Ic.view (show Ic w (.sl e) xs [σ id] F from h) hF
 |false=>
  simp only[Gd]at h
  obtain⟨hm,⟨h1,h2,_⟩|⟨bl,off,cap,cur,et,h1,hh,h2,h3,h4,hF',hv⟩⟩:=h
  ·subst h2;exact⟨none,0,by rw[h1];rfl,jo _,hm,.inl rfl⟩
  ·have:=jm e.size h2
   exact⟨_,cap,by rw[h1],h2,hm,.inr ⟨bl,off,cur,et,_,rfl,hF bl (by rw[hF'];simp),hh,by omega,fun i hi=>(hv i hi).weaken hO⟩⟩
theorem Db.drop(h:Db n0 A O0 w0 s σ φ a w)(l:List Nat):Db n0 A O0 w0 ⟨s.n,s.tm,Ed l++s.hp⟩ σ φ a w:=by
 have hn:∀j,j∈l→AS.heap ⟨s.n,s.tm,Ed l++s.hp⟩ j=none:=fun j hj=>by simp only[AS.heap,Qy,if_pos hj];rfl
 refine h.trans (·∈l) rfl rfl (fun id hid=>⟨by simp only[AS.heap,Qy,if_neg hid],rfl,rfl⟩) (fun _ _ _=>rfl) (jo _) ?_ ?_ ?_ ?_ rfl rfl rfl (fun _ _=>.inl rfl) (fun id kk e xs hid hl=>by rw[hn id hid]at hl;simp at hl)
 ·intro id Ga hid hl;rw[hn id hid]at hl;simp at hl
 ·intro id Ga hid hl;rw[hn id hid]at hl;simp at hl
 ·intro id Ga hid hl;rw[hn id hid]at hl;simp at hl
 ·intro id id' Ga blk' hid _ _ hl;rw[hn id hid]at hl;simp at hl
theorem Wah{l:List Nat}{b:Nat}(hb:OO O0 ⟨s.n,s.tm,Ed l++s.hp⟩ φ b):O0 b∨∃j Ga,j∉l∧s.heap j=some Ga∧b∈φ j:=by
 rcases hb with hb|⟨j,Ga,hl,hm⟩
 ·exact .inl hb
 ·by_cases hj:j∈l
  ·simp only[AS.heap,Qy,if_pos hj]at hl;simp at hl
  ·simp only[AS.heap,Qy,if_neg hj]at hl
   exact .inr ⟨j,Ga,hj,hl,hm⟩
theorem Qaq{l:List Nat}{j:Nat}:AS.newOk ⟨s.n,s.tm,Ed l++s.hp⟩ j=s.newOk j:=by
 have:AS.ment ⟨s.n,s.tm,Ed l++s.hp⟩ j=s.ment j:=by
  simp only[AS.ment,List.any_append]
  have:(Ed l).any (fun x=>(x.2.map (Ka.ment j)).getD false)=false:=by
   rw[List.any_eq_false]
   intro x hx
   obtain⟨k,_,rfl⟩:=qk.1 hx
   simp
  rw[this,yu]
 simp only[AS.newOk,this]
theorem Raa{l:List Nat}{u:List (Nat×Option Ka)}:Te ⟨s.n,s.tm,Ed l++s.hp⟩ u=Te s u:=by
 simp only[Te,Qaq]
def FzQ(bm cm:Bool)(A:Fx)(O0:Nat→Prop):Prop:=(∀b,¬A.A b)∨(cm=true∧∀b,A.A b→¬O0 b)∨(bm=true∧∀c,A.A c→A.pin 500000=some (.pointer (some ⟨c,0,none⟩)))
def WR(G:Sf)(A:Fx)(O0:Nat→Prop):Prop:=G.fz=true→FzQ (OJ G.att) (cmB G.att) A O0
def NoA(O0:Nat→Prop)(s:AS)(φ:Nat→List Nat):Prop:=∀id Ga,s.heap id=some Ga→(∀ρ d,Ga≠ .box ρ d)→∀b,b∈φ id→¬O0 b
theorem noA{bm cm:Bool}(hz:FzQ bm cm A O0)(hl:(!bm||s.boxLive)=true)(h:Db n0 A O0 w0 s σ φ a w):NoA O0 s φ:=by
 intro id Ga hb hne b hm hO
 have hlt:=h.o0 b hO
 have hA:A.A b:=(h.fresh id Ga hb b hm).resolve_left (by omega)
 rcases hz with hz|⟨_,hz⟩|⟨rfl,hz⟩
 ·exact hz b hA
 ·exact hz b hA hO
 ·have hp:=h.pin 500000 _ (hz b hA)
  simp only[jg,yu,AS.boxLive]at hl
  split at hl
  ·rename_i ρ d hbx
   obtain⟨_,b',cur,et,h1,h2,h3,_⟩:=h.hp 500000 _ hbx
   rw[hp]at h1
   simp only[Value.pointer.injEq,jc,Addr.mk.injEq,and_true]at h1
   subst h1
   have hid:id≠500000:=by
    rintro rfl
    rw[hbx]at hb
    simp only[jc]at hb
    exact hne ρ d hb.symm
   exact h.disj id 500000 _ _ hid hb hbx b hm (by rw[h3];simp)
  ·simp at hl
theorem Rar(hA:NoA O0 s φ)(h:Db n0 A O0 w0 s σ φ a w){L:List Nat}:∀{d:D} {τ:Ty} {x:T τ} {cs:List Value},Ib s d τ=some x→Kb w (OO O0 s φ) s.heap σ d cs→d.noCut=true→(∀j,j∈d.owns→j∈L)→
 Wa w (OO O0 ⟨s.n,s.tm,Ed L++s.hp⟩ φ) τ x cs:=by
 have hO:∀b,OO O0 ⟨s.n,s.tm,Ed L++s.hp⟩ φ b→OO O0 s φ b:=fun b hb=>by
  rcases Wah hb with hb|⟨j,Ga,_,hl,hm⟩
  ·exact .inl hb
  ·exact .inr ⟨j,Ga,hl,hm⟩
 intro d
 induction d with
 |t τ' y=>
  intro τ x cs he hr _ _
  simp only[Ib]at he
  split at he
  ·rename_i q hq
   obtain rfl:=Se hq
   simp only[jc]at he
   subst he
   exact Wa.weaken hO hr
  ·simp at he
 |nil=>
  intro τ x cs he hr _ _
  cases τ with
  |sl e=>
   simp only[Ib,jc]at he
   subst he
   simp only[Kb]at hr
   exact⟨none,0,hr,jo _,by simp,.inl rfl⟩
  |_=>simp[Ib]at he
 |own id=>
  intro τ x cs he hr _ hL
  cases τ with
  |sl e=>
   simp only[Ib]at he
   split at he
   ·rename_i e' dp xs hb
    split at he
    ·rename_i q hq
     obtain rfl:=Se hq
     simp only[jc]at he
     subst he
     obtain⟨v,hcs,_,hv⟩:=hr
     rw[hcs,hv _ _ hb rfl]
     refine BV (h.hp id _ hb) hO fun b hm hb'=>?_
     have hid:id∈L:=hL id (by simp[D.owns])
     rcases Wah hb' with ho|⟨j,Ga,hj,hl,hm'⟩
     ·exact hA id _ hb (fun _ _ e=>by simp at e) b hm ho
     ·exact h.disj id j _ Ga (fun e=>hj (e▸hid)) hb hl b hm hm'
    ·simp at he
   ·rename_i e' xs hb
    split at he
    ·rename_i q hq
     obtain rfl:=Se hq
     simp only[jc]at he
     subst he
     obtain⟨v,hcs,_,hv⟩:=hr
     rw[hcs,hv _ _ hb rfl]
     exact Wa.weaken hO (h.hp id _ hb).2
    ·simp at he
   ·simp at he
  |_=>simp[Ib]at he
 |pr y z ih1 ih2=>
  intro τ x cs he hr hc hL
  cases τ with
  |p t1 t2=>
   simp only[Ib]at he
   split at he
   ·rename_i u v hu hv
    simp only[jc]at he
    subst he
    simp only[D.noCut,jd]at hc
    obtain⟨c1,c2,h0,h1,h2⟩:=hr
    exact⟨c1,c2,h0,ih1 hu h1 hc.1 fun j hj=>hL j (by simp[D.owns,hj]),ih2 hv h2 hc.2 fun j hj=>hL j (by simp[D.owns,hj])⟩
   ·simp at he
  |_=>simp[Ib]at he
 |un=>
  intro τ x cs he hr _ _
  cases τ with
  |u=>simp only[Kb]at hr;exact hr
  |_=>simp[Ib]at he
 |cut id lo hi=>intro τ x cs _ _ hc;simp[D.noCut]at hc
 |_=>intro τ x cs he;cases τ<;>simp[Ib]at he
theorem H6(hA:NoA O0 s φ)(h:Db n0 A O0 w0 s σ φ a w){L:List Nat}:
 ∀{args:List Operand} {ds:D} {pt:Ty} {x:T pt},Jy s args=some ds→Ib s ds pt=some x→ds.noCut=true→(∀j,j∈ds.owns→j∈L)→Bi w (OO O0 ⟨s.n,s.tm,Ed L++s.hp⟩ φ) pt x (args.map a.eval)
 |[],ds,pt,x,he,hv,_,_=>by
  simp only[Jy,jc]at he
  subst he
  cases pt<;>simp[Ib]at hv
  trivial
 |y::r,ds,pt,x,he,hv,hc,hL=>by
  simp only[Jy]at he
  split at he
  ·rename_i d1 d2 h1 h2
   simp only[jc]at he
   subst he
   cases pt with
   |p t1 t2=>
    simp only[Ib]at hv
    split at hv
    ·rename_i u1 u2 hu1 hu2
     simp only[jc]at hv
     subst hv
     simp only[D.noCut,jd]at hc
     obtain⟨hr,hvv⟩:=Qf (PG hu1) (h.ev h1)
     exact⟨⟨_,hvv,Rar hA h hu1 hr hc.1 fun j hj=>hL j (by simp[D.owns,hj])⟩,H6 hA h h2 hu2 hc.2 fun j hj=>hL j (by simp[D.owns,hj])⟩
    ·simp at hv
   |_=>simp[Ib]at hv
  ·simp at he
theorem VaH(hG:Kn P A.I G)(hfz:WR G A O0)(h:Db n0 A O0 w0 s σ φ a w){f:FuncId}{args:Array Operand}{ts:Array TypeId}(ho:o.op=.call ⟨.value (.func f),args,ts⟩)
 (he:Ig G s o k=some out):o.wp P a w (Nf n0 A O0 w0 k out) Q:=by
 simp only[Ig,Hc,ho]at he
 unfold FM at he
 split at he
 ·
  rename_i pt rt fr F hfn
  obtain⟨hE,hS⟩:=hG.fn _ _ hfn
  split at he
  ·rename_i ds hds
   split at he
   ·rename_i x hx
    cases hr:F x with
    |none=>simp[hr]at he
    |some r=>
     simp only[hr,jb]at he
     split at he
     ·rename_i d u m hop
      split at he
      ·rename_i d' hres
       cases hc:(jx m (100064+64*o.dst.getD 0)&&Te s u&&((!ds.hasOwn||fr.all id)||((G.fz&&!OJ G.att)&&ds.noCut)))with
       |false=>rw[hc]at he;simp at he
       |true=>
        rw[hc]at he
        simp only[zg]at he
        simp only[jd]at hc
        obtain⟨⟨_,hfi⟩,hno⟩:=hc
        cases hno1:(!ds.hasOwn||fr.all id)with
        |false=>
         rw[hno1]at hno he
         simp only[yu,jd,yl]at hno
         simp only[zh]at he
         have h1:=h.drop ds.owns
         have hV:=H6 (noA (hfz hno.1.1) (by rw[hno.1.2];rfl) h) h (L:=ds.owns) hds hx hno.2 fun j hj=>hj
         refine ZK (EI ho hE) (hS _ w x r _ hr hV (fun b hb=>h1.OO_lt hb) h.iv (j9 h.iv0 h.fr.size)) ?_
         rintro v w' ⟨vs,Fr,rfl,hK,hR,hFn,hFr⟩
         have e:(fun b=>OO O0 ⟨s.n,s.tm,Ed ds.owns++s.hp⟩ φ b∨b∈([]:List Nat)∨b∈Fr)=(fun b=>OO O0 ⟨s.n,s.tm,Ed ds.owns++s.hp⟩ φ b∨b∈Fr):=by
          funext b;simp
         refine XT (s:=⟨s.n,s.tm,Ed ds.owns++s.hp⟩) (V:=[]) (l:=[]) (ψ0:=fun _=>[]) (F1:=[]) h1 rfl List.nodup_nil (by simp) (by simp[Ha]) (by simp) ⟨hK.size,fun b hb _=>hK.block b hb (fun h=>h),hK.os,hK.tape,hK.output⟩ (by simp)
          hop (Raa.trans hfi) (by rw[e];exact hR) (by simpa using hFn) (fun b hb=>.inl (hFr b hb)) hres ?_
         unfold Xi at he⊢
         simp only[yy,←q0]
         exact he
        |true=>
        rw[hno1]at he
        simp only[zg]at he
        simp only[qx,yl]at hno1
        have hno:=hno1
        have key:∃O:Nat→Prop,(∀b,O b→b<w.heap.size)∧Bi w O pt x (args.toList.map a.eval)∧
         ∀(w':World) (vs:List Value) (Fr:List Nat),Fd w' (fun b=>O b∨b∈Fr) rt r fr vs Fr→Fd w' (fun b=>OO O0 s φ b∨b∈([]:List Nat)∨b∈Fr) rt r fr vs Fr:=by
         rcases hno with hno|hno
         ·refine⟨OO O0 s φ,fun b hb=>h.OO_lt hb,YK h (fun d τ x cs he hr ho=>?_) hds hx (.inr hno),fun w' vs Fr hR=>?_⟩
          ·rcases ho with ho|ho
           ·rw[ho];exact Ny h he hr
           ·exact(Qi (TR ho he)).2 _ hr
          ·have:(fun b=>OO O0 s φ b∨b∈([]:List Nat)∨b∈Fr)=(fun b=>OO O0 s φ b∨b∈Fr):=by
            funext b;simp
           rw[this];exact hR
         ·exact⟨noO,fun b hb=>hb.elim,YK h (fun d τ x cs he hr _=>Ny h he hr) hds hx (.inl rfl),fun w' vs Fr hR=>hR.all hno⟩
        obtain⟨O,hO1,hO2,hO3⟩:=key
        refine ZK (EI ho hE) (hS O w x r _ hr hO2 hO1 h.iv (j9 h.iv0 h.fr.size)) ?_
        rintro v w' ⟨vs,Fr,rfl,hK,hR,hFn,hFr⟩
        exact XT (V:=[]) (l:=[]) (ψ0:=fun _=>[]) (F1:=[]) h rfl List.nodup_nil (by simp) (by simp[Ha]) (by simp) ⟨hK.size,fun b hb _=>hK.block b hb (fun h=>h),hK.os,hK.tape,hK.output⟩ (by simp)
         hop hfi (hO3 _ _ _ hR) (by simpa using hFn) (fun b hb=>.inl (hFr b hb)) hres (by simpa using he)
      ·simp at he
     ·simp at he
   ·simp at he
  ·simp at he
 ·
  rename_i τ pt rt fr F hfn
  obtain⟨hE,hS⟩:=hG.fn _ _ hfn
  split at he
  ·rename_i a0 args' hargs
   split at he
   ·rename_i d0 ds hd0 hds
    split at he
    ·rename_i x0 l x hx0 hx
     cases hr:F x0 x with
     |none=>simp[hr]at he
     |some r=>
      simp only[hr,jb]at he
      split at he
      ·rename_i d u m hop
       split at he
       ·rename_i d' hres
        cases hc:(jx m (100064+64*o.dst.getD 0)&&Te s u&&Lg l&&!ds.hasOwn)with
        |false=>rw[hc]at he;simp at he
        |true=>
         rw[hc]at he
         simp only[zg]at he
         simp only[jd,yl]at hc
         obtain⟨⟨⟨_,hfi⟩,hnd⟩,hno⟩:=hc
         have hnd:=Mi hnd
         obtain⟨hrep,hval⟩:=Qf (Sl hx0) (h.ev hd0)
         obtain⟨hown,hlive⟩:=Er h hx0 hrep
         have hbn:=Rg h hnd hlive
         have hva:Bi w (OO O0 s φ) pt x (args'.map a.eval):=by
          refine YK h (fun d τ x cs he hr ho=>?_) hds hx (.inr hno)
          rcases ho with ho|ho
          ·rw[ho];exact Ny h he hr
          ·exact(Qi (TR ho he)).2 _ hr
         have hsub:∀b,b∈Ha φ l→OO O0 s φ b:=by
          intro b hb
          obtain⟨j,hj,hm⟩:=Pb.1 hb
          obtain⟨Ga,hbj⟩:=hlive j hj
          exact .inr ⟨j,Ga,hbj,hm⟩
         have hOO:(fun b=>OO O0 s φ b∨b∈Ha φ l)=OO O0 s φ:=by
          funext b
          exact propext ⟨fun h=>h.elim id (hsub b),.inl⟩
         have hrun:=EI (a:=a) (w:=w) ho hE
         rw[hargs,yk,hval]at hrun
         refine ZK hrun (hS (OO O0 s φ) w x0 x r _ _ _ hr hown hbn (by rw[hOO];exact hva) (fun b hb=>h.OO_lt hb) h.iv (j9 h.iv0 h.fr.size) (BW h hlive)) ?_
         rintro v w' ⟨vs,F1,Fr,rfl,hK,hown',hF1,hR,hFn,hFr⟩
         obtain⟨g1,ψ,g2,g3⟩:=RaI h hx0 hnd hrep hown'
         refine XT (V:=XK d0 τ r.1) (l:=l) (ψ0:=ψ) (F1:=F1) h g1 hnd (fun j hj=>YS hd0 (RX hx0 j hj)) g2 g3 hK hF1 hop hfi ?_ hFn hFr hres he
         have:(fun b=>OO O0 s φ b∨b∈F1∨b∈Fr)=(fun b=>OO O0 s φ b∨b∈Ha φ l∨b∈F1∨b∈Fr):=by
          funext b
          refine propext ⟨fun h=>h.elim .inl fun h=>.inr (.inr h),fun h=>h.elim .inl fun h=>h.elim (fun h=>.inl (hsub b h)) .inr⟩
         rw[this]
         exact hR
       ·simp at he
      ·simp at he
    ·simp at he
   ·simp at he
  ·simp at he
 ·
  rename_i pt rt fr F hfn
  obtain⟨hE,hS⟩:=hG.fn _ _ hfn
  split at he
  ·rename_i ds hds
   split at he
   ·rename_i x l hx
    cases hr:F x with
    |none=>simp[hr]at he
    |some r=>
     simp only[hr,jb]at he
     split at he
     ·rename_i d u m hop
      split at he
      ·rename_i d' hres
       cases hc:(jx m (100064+64*o.dst.getD 0)&&Te s u&&Lg l&&(fr.all id||(G.fz&&!OJ G.att)))with
       |false=>rw[hc]at he;simp at he
       |true=>
        rw[hc]at he
        simp only[zg]at he
        simp only[jd]at hc
        obtain⟨⟨⟨_,hfi⟩,hnd⟩,hvw⟩:=hc
        have hnd:=Mi hnd
        obtain⟨hnew,hun⟩:=GG hfi
        obtain⟨hoa,hlive,hlm⟩:=N2 h hds hx
        have hbn:=Rg h hnd hlive
        have hsub:∀b,b∈Ha φ l→OO O0 s φ b:=by
         intro b hb
         obtain⟨j,hj,hm⟩:=Pb.1 hb
         obtain⟨Ga,hbj⟩:=hlive j hj
         exact .inr ⟨j,Ga,hbj,hm⟩
        have key:∃O:Nat→Prop,(∀b,O b→b<w.heap.size)∧(fr.all id=true∨∀b,b∈Ha φ l→¬O b)∧
         ∀(w':World) (vs:List Value) (Fr:List Nat),Fd w' (fun b=>O b∨b∈Fr) rt r fr vs Fr→Fd w' (fun b=>OL O0 s l φ b∨b∈Fr) rt r fr vs Fr:=by
         cases hall:fr.all id with
         |true=>exact⟨noO,fun b hb=>hb.elim,.inl rfl,fun w' vs Fr hR=>hR.all hall⟩
         |false=>
          rw[hall]at hvw
          simp only[yu,jd,yl]at hvw
          have hN:=noA (hfz hvw.1) (by rw[hvw.2];rfl) h
          refine⟨OL O0 s l φ,fun b hb=>h.OO_lt hb.oo,.inr fun b hb hO=>?_,fun w' vs Fr hR=>hR⟩
          obtain⟨j,hj,hm⟩:=Pb.1 hb
          obtain⟨Ga,hbj⟩:=hlive j hj
          rcases hO with ho|⟨j',blk',hj',hl',hm'⟩
          ·exact hN j Ga hbj (AaI hx j hj Ga hbj) b hm ho
          ·exact h.disj j j' Ga blk' (fun e=>hj' (e▸hj)) hbj hl' b hm hm'
        obtain⟨O,hO1,hO2,hO3⟩:=key
        refine ZK (EI ho hE) (hS O w x r _ _ hr hoa hbn hO1 hO2 h.iv (j9 h.iv0 h.fr.size) (BW h hlive)) ?_
        rintro v w' ⟨vs,Fr,rfl,hK,hR,hFn,hFr⟩
        have hR:=hO3 _ _ _ hR
        obtain⟨_,_,ψ,ν,hb1,hup,hrep⟩:=UU hop hR
        obtain⟨σ',φ',hc',g1,g2⟩:=h.after2 (U:=u) (X:=[]) (l:=l) (ψ:=ψ) (ν:=ν) hun hnew (by simp) hlive (by simp) (by simpa using hK) hup (by rw[hb1];exact hFn)
         (by rw[hb1];exact hFr) (fun j hj=>J5 (hlm j (by simpa using hj))) (by simp)
        refine Jf (upd:=u++Ed l) rfl hc' ?_ he
        refine G8 hres (hrep _ _ _ g1 fun b _ hno hO=>hno ?_)
        rw[hb1]at g2
        exact g2 b hO
      ·simp at he
     ·simp at he
   ·simp at he
  ·simp at he
 ·
  rename_i vw cv τ pt rt fr F hfn
  obtain⟨hE,hS⟩:=hG.fn _ _ hfn
  split at he
  ·rename_i a0 args' hargs
   split at he
   ·rename_i bid ds hd0 hds
    split at he
    ·rename_i τ' d0 hbx
     split at he
     ·rename_i q x0 l x l2 hq hx0 hx
      obtain rfl:=Se hq
      cases hr:F x0 x with
      |none=>simp[hr]at he
      |some r=>
       simp only[hr,jb]at he
       split at he
       ·rename_i d u m hop
        split at he
        ·rename_i d' e v m' hres hev
         cases hc:(jx m' (100064+64*o.dst.getD 0)&&Te s (u++v)&&Lg (bid::(l++l2))&&(cv||!ds.hasOwn))with
         |false=>rw[hc]at he;simp at he
         |true=>
          rw[hc]at he
          simp only[zg]at he
          simp only[jd]at hc
          obtain⟨⟨⟨_,hfi⟩,hnd⟩,hcv⟩:=hc
          have hnd:=Mi hnd
          rw[ym]at hnd
          obtain⟨hnew,hun⟩:=GG hfi
          have hptr:=h.ev hd0
          rw[Wz]at hptr
          obtain⟨b,hσb,hval⟩:=hptr.2 _ _ hbx
          obtain⟨hsh,b',cur,et,hσ',hh,hF,hrep0,hsz⟩:=h.hp bid _ hbx
          rw[hσ']at hσb
          simp only[Value.pointer.injEq,jc,Addr.mk.injEq,and_true]at hσb
          subst hσb
          simp only[Yb]at hval
          have hl:(∀j,j∈l→∃Ga,s.heap j=some Ga)∧(∀j,j∈l→s.ment j=true)∧(if vw then Wa w (OO O0 s φ) τ' x0 cur.toList∧l=[]else Ic w τ' x0 cur.toList (Ha φ l)):=by
           cases vw with
           |true=>
            simp only[zg]at hx0
            split at hx0
            ·rename_i y hy
             simp only[jc,jh]at hx0
             obtain⟨rfl,rfl⟩:=hx0
             exact⟨by simp,by simp,by simp only[if_true];exact⟨(Qi hy).2 _ hrep0,trivial⟩⟩
            ·simp at hx0
           |false=>
            simp only[zh]at hx0
            obtain⟨g1,g2⟩:=Er h hx0 hrep0
            refine⟨g2,fun j hj=>AS.ment_heap hbx ?_,by simpa using g1⟩
            exact RX hx0 j hj
          obtain⟨hl1,hl2,hl3⟩:=hl
          have hx':(∀j,j∈l2→∃Ga,s.heap j=some Ga)∧(∀j,j∈l2→s.ment j=true)∧(if cv then Mg w pt x (args'.map a.eval) (Ha φ l2)else Bi w (OO O0 s φ) pt x (args'.map a.eval)∧l2=[]):=by
           cases cv with
           |true=>
            simp only[zg]at hx
            obtain⟨g1,g2,g3⟩:=N2 h hds hx
            exact⟨g2,g3,by simpa using g1⟩
           |false=>
            simp only[zh]at hx
            split at hx
            ·rename_i y hy
             simp only[jc,jh]at hx
             obtain⟨rfl,rfl⟩:=hx
             have hno:ds.hasOwn=false:=by simpa using hcv
             have hva:Bi w (OO O0 s φ) pt y (args'.map a.eval):=by
              refine YK h (fun d τ x cs he hr ho=>?_) hds hy (.inr hno)
              rcases ho with ho|ho
              ·rw[ho];exact Ny h he hr
              ·exact(Qi (TR ho he)).2 _ hr
             exact⟨by simp,by simp,by simp only[jq,if_false];exact⟨hva,trivial⟩⟩
            ·simp at hx
          obtain⟨hx1,hx2,hx3⟩:=hx'
          have hlive:∀j,j∈bid::(l++l2)→∃Ga,s.heap j=some Ga:=by
           intro j hj
           rcases jp.1 hj with rfl|hj
           ·exact⟨_,hbx⟩
           ·rcases jl.1 hj with hj|hj
            ·exact hl1 j hj
            ·exact hx1 j hj
          have hbn:=Rg h (ym.2 hnd) hlive
          have hblk:Ha φ (bid::(l++l2))=b'::(Ha φ l++Ha φ l2):=by
           have:Ha φ (bid::(l++l2))=φ bid++Ha φ (l++l2):=by simp[Ha]
           rw[this,hF,Ye];rfl
          have hsub:∀c,c∈b'::(Ha φ l++Ha φ l2)→OO O0 s φ c:=by
           intro c hc
           rw[←hblk]at hc
           obtain⟨j,hj,hm⟩:=Pb.1 hc
           obtain⟨Ga,hbj⟩:=hlive j hj
           exact .inr ⟨j,Ga,hbj,hm⟩
          have hO1:(fun c=>OO O0 s φ c∨c=b'∨c∈Ha φ l2)=OO O0 s φ:=by
           funext c
           refine propext ⟨fun hc=>?_,.inl⟩
           rcases hc with hc|rfl|hc
           ·exact hc
           ·exact hsub _ List.mem_cons_self
           ·exact hsub _ (jr _ (qv _ hc))
          have hO2:(fun c=>OO O0 s φ c∨c=b'∨c∈Ha φ l)=OO O0 s φ:=by
           funext c
           refine propext ⟨fun hc=>?_,.inl⟩
           rcases hc with hc|rfl|hc
           ·exact hc
           ·exact hsub _ List.mem_cons_self
           ·exact hsub _ (jr _ (qu _ hc))
          have hrun:=EI (a:=a) (w:=w) ho hE
          rw[hargs,yk,hval]at hrun
          refine ZK hrun (hS (OO O0 s φ) w x0 x r b' cur et (Ha φ l) (Ha φ l2) _ hr hh hsz ?_ ?_ (by rw[←hblk];exact hbn) (fun b hb=>h.OO_lt hb) h.iv (j9 h.iv0 h.fr.size)
           (by rw[←hblk];exact BW h hlive)) ?_
          ·cases vw with
           |true=>
            simp only[if_true]at hl3⊢
            rw[hO1]
            exact⟨hl3.1,by rw[hl3.2];simp[Ha]⟩
           |false=>simpa using hl3
          ·cases cv with
           |true=>simpa using hx3
           |false=>
            simp only[jq,if_false]at hx3⊢
            rw[hO2]
            exact⟨hx3.1,by rw[hx3.2];simp[Ha]⟩
          ·rintro v' w' ⟨vs,cur',et',F1,Fr,rfl,hK,hh',hsz',hcont,hR,hFn,hFr⟩
           obtain⟨hnm,hun1,ψ1,ν1,hb1,hup1,hrep1⟩:=UU hop hR
           have hb'lt:b'<w.heap.size:=(Array.getElem?_eq_some_iff.1 hh).1
           have hSub2:∀c,(OO O0 s φ c∨c∈b'::(Ha φ l++Ha φ l2))→OO O0 s φ c:=fun c hc=>hc.elim id (hsub c)
           have key:∃(ψ:Nat→List Nat) (ν:Nat→Value),Ha ψ ((u++v).map (·.1))=Fr++F1∧(∀p,p∈u++v→FB w' p.2 (ν p.1) (ψ p.1))∧
            (∀p,p∈u→ν p.1=ν1 p.1)∧∀(hp':Nat→Option Ka) (σ2:Nat→Value) (O':Nat→Prop),σ2 bid=σ bid→(∀q,q∈u++v→σ2 q.1=ν q.1)→(∀c,O' c→OO O0 s φ c∨c∈Fr++F1)→Gd w' O' hp' σ2 bid (.box τ' e) (φ bid):=by
            cases vw with
            |true=>
             simp only[zg,jh]at hev
             obtain⟨rfl,rfl,rfl⟩:=hev
             simp only[if_true]at hcont
             obtain⟨hcv',rfl⟩:=hcont
             refine⟨ψ1,ν1,by simpa using hb1,by simpa using hup1,fun _ _=>rfl,fun hp' σ2 O' h1 _ h2=>⟨by simp[Ob],b',cur',et',h1.trans hσ',hh',hF,?_,hsz'⟩⟩
             refine Wa.weaken (fun c hc=>?_) hcv'
             rcases h2 c hc with h3|h3
             ·exact .inl h3
             ·exact .inr (.inr (by simpa using h3))
            |false=>
             simp only[zh]at hev
             simp only[jq,if_false]at hcont
             obtain⟨a1,a2,a3,ψ2,ν2,a4,a5,a6⟩:=VD hev hcont
             refine⟨fun id=>if id<m then ψ1 id else ψ2 id,fun id=>if id<m then ν1 id else ν2 id,?_,?_,?_,fun hp' σ2 O' h1 h3 h2=>⟨a3,b',cur',et',h1.trans hσ',hh',hF,?_,hsz'⟩⟩
             ·rw[yw,Ye,←hb1,←a4]
              congr 1
              ·exact Wn fun j hj=>by
                obtain⟨p,hp,rfl⟩:=qk.1 hj
                rw[if_pos (hun1 p hp).2]
              ·exact Wn fun j hj=>by
                obtain⟨p,hp,rfl⟩:=qk.1 hj
                rw[if_neg (by have:=a2 p hp;omega)]
             ·intro p hp
              rcases jl.1 hp with hp|hp
              ·simp only[if_pos (hun1 p hp).2];exact hup1 p hp
              ·have:¬p.1<m:=by have:=a2 p hp;omega
               simp only[if_neg this];exact a5 p hp
             ·intro p hp
              simp only[if_pos (hun1 p hp).2]
             ·refine a6 w' hp' σ2 O' fun p hp=>?_
              have h4:=h3 p (qv _ hp)
              have:¬p.1<m:=by have:=a2 p hp;omega
              simp only[if_neg this]at h4
              exact h4
           obtain⟨ψ,ν,k1,k2,k3,k4⟩:=key
           rw[ym]at hFn
           obtain⟨σ',φ',hc',g1,g2⟩:=h.after (U:=u++v) (X:=[(bid,some (.box τ' e))]) (l:=l++l2) (ψ:=ψ) (ν:=ν) hun hnew (by simp) (fun j hj=>hlive j (jr _ hj))
            (by intro j hj;simp at hj;subst hj;exact hnd.1) (by
             have:Ha φ ([(bid,some (Ka.box τ' e))].map (·.1)++(l++l2))=b'::(Ha φ l++Ha φ l2):=hblk
             rw[this];exact hK) k2 (by rw[k1];exact(List.perm_append_comm.nodup_iff).1 hFn.2)
            (by
             rw[k1,Ye]
             intro c hc
             refine hFr c ?_
             rcases jl.1 hc with hc|hc
             ·exact qv _ hc
             ·exact qu _ hc)
            (by
             intro j hj
             refine J5 ?_
             have hj:j∈bid::(l++l2):=hj
             rcases jp.1 hj with rfl|hj
             ·exact YS hd0 (by simp[D.ment])
             ·rcases jl.1 hj with hj|hj
              ·exact hl2 j hj
              ·exact hx2 j hj)
            (by
             intro p hp
             simp only[qb]at hp
             subst hp
             exact⟨τ',d0,e,rfl,hbx,fun hp' σ2 O' h1 h2 h3=>k4 hp' σ2 O' h1 h2 (by rw[k1]at h3;exact h3)⟩)
           refine Jf (upd:=u++(v++((bid,some (.box τ' e))::Ed (l++l2)))) (s₁:=⟨s.n,s.tm,u++v++([(bid,some (.box τ' e))]++Ed (l++l2))++s.hp⟩) (by simp) hc' ?_ he
           refine G8 hres (hrep1 _ _ _ (fun p hp=>(g1 p (qu _ hp)).trans (k3 p hp)) fun c _ hno hO=>hno ?_)
           rcases g2 c hO with h1|h1
           ·exact .inl h1
           ·rw[k1]at h1
            rcases jl.1 h1 with h1|h1
            ·exact .inr (.inr (.inr h1))
            ·exact .inr (.inr (.inl h1))
        ·simp at he
       ·simp at he
     ·simp at he
    ·simp at he
   ·simp at he
  ·simp at he
 ·
  rename_i pt τ F hfn
  obtain⟨hE,hS⟩:=hG.fn _ _ hfn
  split at he
  ·rename_i tt ds hd hds
   split at he
   ·rename_i x hx
    cases hr:F x with
    |none=>simp[hr]at he
    |some r=>
     simp only[hr,jb]at he
     cases hc:(s.newOk tt&&!ds.hasOwn)with
     |false=>rw[hc]at he;simp at he
     |true=>
      rw[hc]at he
      simp only[zg]at he
      simp only[jd,yl]at hc
      obtain⟨hnew,hno⟩:=hc
      have hva:Bi w (OO O0 s φ) pt x (args.toList.map a.eval):=by
       refine YK h (fun d τ x cs he hr ho=>?_) hds hx (.inr hno)
       rcases ho with ho|ho
       ·rw[ho];exact Ny h he hr
       ·exact(Qi (TR ho he)).2 _ hr
      refine ZK (EI ho hE) (hS (OO O0 s φ) w x r _ hr hva (fun b hb=>h.OO_lt hb) h.iv (j9 h.iv0 h.fr.size)) ?_
      rintro v w' ⟨b,cur,et,rfl,hK,hb,hh,hsz,hvw⟩
      have hc:=h.new1b (w':=w') hnew (.box τ (.t τ r)) (.pointer (some ⟨b,0,none⟩)) [b] hK.size (fun c hc=>hK.block c hc (fun h=>h)) hK.os hK.tape hK.output (by simp) (by simpa using hb)
       (fun hp' σ' O' hσ hO=>⟨by simp[Ob],b,cur,et,hσ,hh,rfl,Wa.weaken (fun c hc=>by
        rcases hO c hc with h1|h1
        ·exact .inl h1
        ·exact .inr (by simpa using h1)) hvw,hsz⟩)
      exact Jf rfl hc (TO _ rfl (Jh _ _ _)) he
   ·simp at he
  ·simp at he
 ·simp at he
end
theorem El.drop{w:World}{O:Nat→Prop}{dq:Bool}{e:Ty}{xs:List (T e)}{L:List Value}{Fs:List (List Nat)}(h:El w O dq e xs L Fs){k:Nat}(hk:k≤ja xs):
 El w O dq e (List.drop k xs) (L.drop (k*e.size)) (Fs.drop k):=by
 have hl:=h.len
 refine⟨?_,?_,?_⟩
 ·rw[ql,hl,ql,Nat.sub_mul]
 ·rw[ql,ql,h.flen]
 ·intro i hi
  have hi':k+i<ja xs:=by
   have:i<ja xs-k:=by simpa using hi
   omega
  have:=h.el (k+i) hi'
  have e1:FG (L.drop (k*e.size)) i e.size=FG L (k+i) e.size:=by
   unfold FG
   rw[qq,yf]
  have e2:List.get (List.drop k xs) ⟨i,hi⟩=List.get xs ⟨k+i,hi'⟩:=by simp
  have e3:(Fs.drop k).getD i []=Fs.getD (k+i) []:=by simp[qe]
  rw[e1,e2,e3]
  exact this
theorem El.upf{w:World}{O:Nat→Prop}{dq:Bool}{e:Ty}{xs:List (T e)}{L:List Value}{Fs:List (List Nat)}(h:El w O dq e xs L Fs)(hf:e.flat=true):El w O true e xs L Fs:=by
 refine⟨h.len,h.flen,fun i hi=>?_⟩
 have:=h.el i hi
 cases dq with
 |true=>exact this
 |false=>
  simp only[jq,if_false]at this
  rw[if_pos rfl,this.2]
  exact this.1.flat hf
theorem El.flats{w:World}{O:Nat→Prop}{e:Ty}{xs:List (T e)}{L:List Value}{Fs:List (List Nat)}(h:El w O true e xs L Fs)(hf:e.flat=true):Fs.flatten=[]:=
 NI fun i hi=>by
  have:=h.el i (by rw[←h.flen];exact hi)
  rw[if_pos rfl]at this
  exact Tz hf this
section
variable{P:Program} {Out:Type} {n0:Nat} {A:Fx} {O0:Nat→Prop} {w0 w w':World} {s:AS} {σ σ':Nat→Value} {φ φ':Nat→List Nat} {a:Act}
variable{o:Oper} {Q:Exit→Act→World→Prop} {k:AS→Option Out} {out:Out} {d:D} {v:Value} {upd:List (Nat×Option Ka)} {dst:Option Tmp} {G:Sf}
theorem W2{cur:Array Value}{off n:Nat}{news:List Value}(h:off+n≤cur.size)(hn:news.length≤n):
 Ae (Jc cur.toList off news).toArray off n=news++(Ae cur off n).drop news.length:=by
 have:=ZC (cur:=cur) (o:=off) (n:=n) (o':=0) (ce:=news) h (by omega)
 simp only[ya]at this
 rw[this]
 unfold Jc
 simp
theorem Naz(t tx ty et:TypeId)(i:TypeInfo)(ht:P.underlying t=some (.slice et))(hi:P.info? et=some i){b off n cap:Nat}{x:Value}{m:Nat}{news:List Value}(hs:Src P i.size tx x m news w)
 {cur:Array Value} {ct:TypeId} (hh:w.heap[b]?=some (.cells cur ct (0,0))) (hm:m≤n) (hfit:off+news.length≤cur.size):
 (Builtin.copy_ #[t,tx] ty #[.slice (some ⟨b,off,none⟩) n cap,x]).run P w=.ok (.int .i64 (m:Int)) (w.setRow b (Jc cur.toList off news).toArray):=by
 have hst:=run_storeCells_at P b off ct news 0 cur w hh (by simpa using hfit) hs.one
 simp only[ya]at hst
 have hmin:Nat.min m n=m:=Nat.min_eq_left hm
 simp[Builtin.copy_,run_underlying ht,Go.sizeOf,typeInfo,hi,hs.len,hmin,hs.cells,hst,Jc,goInt]
theorem WaH(hG:EnvTy P G)(h:Db n0 A O0 w0 s σ φ a w){args:Array Operand}{ts:Array TypeId}(ho:o.op=.call ⟨.builtin .copy,args,ts⟩)
 (he:Ig G s o k=some out):o.wp P a w (Nf n0 A O0 w0 k out) Q:=by
 simp only[Ig,Hc,ho]at he
 split at he
 ·rename_i x y t tx hargs hts
  unfold GM at he
  split at he
  ·rename_i e id db hty hx hy
   split at he
   ·rename_i e' dp xs hb
    split at he
    ·rename_i q ys dq m hq hsrc
     obtain rfl:=Se hq
     cases hc:(e'.flat&&HO (Xb G.ty tx))with
     |false=>rw[hc]at he;simp at he
     |true=>
      rw[hc]at he
      simp only[zg]at he
      simp only[jd]at hc
      obtain⟨hfl,hkx⟩:=hc
      cases hlim:jx (ja ys) (ja xs)with
      |false=>rw[hlim]at he;simp at he
      |true=>
       rw[hlim]at he
       simp only[zg]at he
       have hlim:=q6 hlim
       obtain⟨et,hu,hte⟩:=Tok.sl (hG.ty _ _ hty)
       obtain⟨i,hi,hsz,_,_⟩:=Tok.size hte
       have hk:(∃e',P.underlying tx=some (.slice e'))∨P.underlying tx=some .string:=by
        unfold HO at hkx
        split at hkx
        ·rename_i e' hq
         obtain⟨et',hu',_⟩:=Tok.sl (hG.ty _ _ hq)
         exact .inl ⟨et',hu'⟩
        ·rename_i hq
         exact .inr (Tok.s (hG.ty _ _ hq))
        ·simp at hkx
       have hev:=h.ev hx
       have hrow:=CV h hb hev
       rw[hfl,Bool.or_true]at hrow
       obtain⟨news,Gs,hS,hEl,hsub,hl2⟩:=T8 (P:=P) h hsrc (h.ev hy) hk
       have hEl:=hEl.upf hfl
       have hnl:=hS.newsLen
       have hS':Src P i.size tx (a.eval y) (ja ys) news w:=by rw[hsz];exact hS
       have hts':ts= #[t,tx]:=by
        apply Array.ext'
        rw[hts]
       have hal:ja (jf ys (List.drop (ja ys) xs))=ja xs:=by
        show(ys++List.drop ys.length xs).length=_
        rw[qc,ql];omega
       obtain⟨hm,⟨h1,h2,h3⟩|⟨bl,off,cap,cur,ct,Fs,h1,hh,h2,h3,h4,hF,hel⟩⟩:=hrow
       ·subst h2
        have hy0:ys=([]:List (T e')):=q7 (by simpa using hlim)
        subst hy0
        have hc:Db n0 A O0 w0 ⟨s.n,s.tm,(id,some (.row e' dp (jf ([]:List (T e')) (List.drop 0 ([]:List (T e'))))))::(Ed []++s.hp)⟩ σ (Di φ id (φ id)) a w:=by
         refine h.turn (blk0:=.row e' dp []) hb (by simp[Ka.like]) [] (by simp) (by simp) (φ id) (jo _) (fun _ _ _ _=>rfl) rfl rfl rfl (h.nodup _ _ hb) (fun c hc=>.inr (.inl hc)) ?_
         intro hp' O' hO hcp
         have h0:=h.hp id _ hb
         exact Gd.stable (fun _ _ _=>rfl) hO (fun _ _=>rfl) rfl (fun j _=>hcp j) h0
        refine Ec (w':=w) (v:=.int .i64 0) ?_ (Jf rfl hc ?_ he)
        ·rw[Mr ho hargs,hts']
         have:=hS'.cells
         simp only[j6]at this
         simp[builtin,Builtin.copy_,h1,run_underlying hu,Go.sizeOf,typeInfo,hi,hS'.len,this,goInt]
        ·exact Bf.2 rfl
       ·have hcap:=jm e'.size h2
        have hmul:=jm e'.size hlim
        have hr:=Naz (P:=P) (w:=w) (b:=bl) (off:=off) (n:=ja xs) (cap:=cap) t tx o.type et i hu hi hS' hh hlim (by omega)
        have hF':φ id=[bl]:=by rw[hF,hel.flats hfl]
        have hoth:∀c,c≠bl→(w.setRow bl (Jc cur.toList off news).toArray).heap[c]?=w.heap[c]?:=fun c hc=>setRow_other w bl c _ hc
        have hc:Db n0 A O0 w0 ⟨s.n,s.tm,(id,some (.row e' dp (jf ys (List.drop (ja ys) xs))))::(Ed []++s.hp)⟩ σ (Di φ id (φ id)) a (w.setRow bl (Jc cur.toList off news).toArray):=by
         refine h.turn (blk0:=.row e' dp xs) hb (by simp only[Ka.like,true_and];exact hal.symm) [] (by simp) (by simp) (φ id) (by simp) ?_ rfl rfl rfl (h.nodup _ _ hb) (fun c hc=>.inr (.inl hc)) ?_
         ·intro c _ hc _
          rw[hF']at hc
          exact hoth c (by simpa using hc)
         ·intro hp' O' hO hcp
          have hnew:Gd (w.setRow bl (Jc cur.toList off news).toArray) O' hp' σ id (.row e' true (jf ys (List.drop (ja ys) xs))) (φ id):=by
           rw[Ym]
           have hσ:σ id=a.eval x:=by
            rw[QK]at hev
            exact(hev.2 _ _ hb rfl).symm
           rw[hσ,h1,hF']
           have happ:=hEl.append (hel.drop hlim)
           have hcl:cur.toList.length=cur.size:=Array.length_toList
           refine⟨by rw[hal];exact hm,.inr ⟨bl,off,cap,_,ct,Gs++Fs.drop (ja ys),by rw[hal],setRow_heap w bl cur _ ct (0,0) hh,by rw[hal];exact h2,h3,?_,?_,?_⟩⟩
           ·rw[yo,Yh (by omega)]
            omega
           ·rw[happ.flats hfl]
           ·rw[hal,W2 (by omega) (by omega),hnl]
            refine happ.stable ?_ ?_ ?_
            ·intro b hb' _
             refine hoth b fun e=>hb' (.inr ⟨id,_,hb,?_⟩)
             rw[hF',e];simp
            ·exact hO
            ·rw[happ.flats hfl];simp
          cases dp with
          |true=>exact hnew
          |false=>exact C8 hnew hfl
        refine Ec (w':=w.setRow bl (Jc cur.toList off news).toArray) (v:=.int .i64 (ja ys:Int)) ?_ (Jf rfl hc ?_ he)
        ·rw[Mr ho hargs,hts']
         simp[builtin,h1,hr]
        ·exact Bf.2 rfl
    ·simp at he
   ·simp at he
  ·simp at he
 ·simp at he
end
theorem Raf{w:World}:∀{e:Ty} {x:T e} {p:List Nat} {τ:Ty} {y:D} {y':T τ} {cs:List Value} {F:List Nat},Rf e p=some τ→(D.t e x).at p=some y→Hm y τ=some y'→
 Ic w e x cs F→∃F1 Fy F3,F=F1++Fy++F3∧Ic w τ y' ((cs.drop (Yb e p)).take τ.size) Fy∧
  ∀(w':World) (c':List Value),c'.length=τ.size→(∀b,b∈F1++F3→w'.heap[b]?=w.heap[b]?)→∀(z:T τ) (Fz:List Nat) (x':T e),Ic w' τ z c' Fz→Ni e x p τ z=some x'→
   Ic w' e x' (Jc cs (Yb e p) c') (F1++Fz++F3)
 |e,x,[],τ,y,y',cs,F,ht,hy,hy',h=>by
  simp only[Rf,jc]at ht
  subst ht
  simp only[D.at,jc]at hy
  subst hy
  simp only[Hm]at hy'
  split at hy'
  ·simp only[jc]at hy'
   subst hy'
   have hl:=Ic.length h
   have hcs:(cs.drop (Yb e [])).take e.size=cs:=by rw[←hl];simp[Yb]
   refine⟨[],F,[],by simp,by rw[hcs];exact h,fun w' c' hc' _ z Fz x' hz hs=>?_⟩
   unfold Ni at hs
   split at hs
   ·simp only[jc]at hs
    subst hs
    simp only[Yb]
    rw[HV (by omega)]
    simpa using hz
   ·simp at hs
  ·simp at hy'
 |.p a b',x,0::p,τ,y,y',cs,F,ht,hy,hy',h=>by
  have ht':Rf a p=some τ:=by simpa[Rf,Za]using ht
  have hy1:(D.t a x.1).at p=some y:=by simpa[D.at,D.field,D.fst]using hy
  obtain⟨c1,c2,Fa,Fb,hc,hF,h1,h2⟩:=h
  obtain⟨F1,Fy,F3,e1,e2,e3⟩:=Raf ht' hy1 hy' h1
  have hle:=Pj ht'
  have l1:=Ic.length h1
  have ho:Yb (.p a b') (0::p)=Yb a p:=by simp[Yb,Ld,Za]
  have hcs:(cs.drop (Yb (.p a b') (0::p))).take τ.size=(c1.drop (Yb a p)).take τ.size:=by
   rw[ho,hc,List.drop_append_of_le_length (by omega),List.take_append_of_le_length (by simp;omega)]
  rw[hcs]
  refine⟨F1,Fy,F3++Fb,by simp[hF,e1],e2,fun w' c' hc' hw z Fz x' hz hs=>?_⟩
  simp only[Ni]at hs
  split at hs
  ·rename_i u hu
   simp only[jc]at hs
   subst hs
   rw[ho,hc,LS (by omega)]
   refine⟨_,c2,F1++Fz++F3,Fb,rfl,by simp,e3 w' c' hc' (fun b hb=>hw b ?_) z Fz u hz hu,h2.stable fun b hb=>hw b ?_⟩
   ·rcases jl.1 hb with hb|hb<;>simp[hb]
   ·simp[hb]
  ·simp at hs
 |.p a b',x,(n+1)::p,τ,y,y',cs,F,ht,hy,hy',h=>by
  have ht':Rf b' (n::p)=some τ:=by simpa[Rf,Za]using ht
  have hy1:(D.t b' x.2).at (n::p)=some y:=by simpa[D.at,D.field,D.snd]using hy
  obtain⟨c1,c2,Fa,Fb,hc,hF,h1,h2⟩:=h
  obtain⟨F1,Fy,F3,e1,e2,e3⟩:=Raf ht' hy1 hy' h2
  have l1:=Ic.length h1
  have ho:Yb (.p a b') ((n+1)::p)=c1.length+Yb b' (n::p):=by simp[Yb,Ld,Za,l1,jt]
  have hcs:(cs.drop (Yb (.p a b') ((n+1)::p))).take τ.size=(c2.drop (Yb b' (n::p))).take τ.size:=by
   rw[ho,hc];simp[List.drop_append,List.drop_eq_nil_of_le]
  rw[hcs]
  refine⟨Fa++F1,Fy,F3,by simp[hF,e1],e2,fun w' c' hc' hw z Fz x' hz hs=>?_⟩
  simp only[Ni]at hs
  split at hs
  ·rename_i u hu
   simp only[jc]at hs
   subst hs
   rw[ho,hc,FH]
   refine⟨c1,_,Fa,F1++Fz++F3,rfl,by simp,h1.stable fun b hb=>hw b ?_,e3 w' c' hc' (fun b hb=>hw b ?_) z Fz u hz hu⟩
   ·simp[hb]
   ·rcases jl.1 hb with hb|hb<;>simp[hb]
  ·simp at hs
 |.i _,_,_::_,_,_,_,_,_,ht,_,_,_=>by simp[Rf,Za]at ht
 |.b,_,_::_,_,_,_,_,_,ht,_,_,_=>by simp[Rf,Za]at ht
 |.o,_,_::_,_,_,_,_,_,ht,_,_,_=>by simp[Rf,Za]at ht
 |.mp _ _,_,_::_,_,_,_,_,_,ht,_,_,_=>by simp[Rf,Za]at ht
 |.s,_,_::_,_,_,_,_,_,ht,_,_,_=>by simp[Rf,Za]at ht
 |.sl _,_,_::_,_,_,_,_,_,ht,_,_,_=>by simp[Rf,Za]at ht
 |.u,_,_::_,_,_,_,_,_,ht,_,_,_=>by simp[Rf,Za]at ht
theorem Z9{w:World}{e τ:Ty}{xs:List (T e)}{b off cap:Nat}{F:List Nat}{i:Nat}{x:T e}{y:D}{y':T τ}{p:List Nat}
 (h:Ic w (.sl e) xs [.slice (some ⟨b,off,none⟩) (ja xs) cap] F) (hi:xs[i]?=some x) (ht:Rf e p=some τ) (hy:(D.t e x).at p=some y) (hy':Hm y τ=some y'):
 ∃cur et F1 Fy,w.heap[b]?=some (.cells cur et (0,0))∧b∈F1∧off+i*e.size+e.size≤cur.size∧F.Perm (F1++Fy)∧Ic w τ y' (Ae cur (off+i*e.size+Yb e p) τ.size) Fy∧
  (b∉F1.erase b→∀(w':World) (c':List Value),c'.length=τ.size→(∀c,c∈F1→c≠b→w'.heap[c]?=w.heap[c]?)→
   w'.heap[b]?=some (.cells (Jc cur.toList (off+i*e.size+Yb e p) c').toArray et (0,0))→∀(z:T τ) (Fz:List Nat) (x':T e),Ic w' τ z c' Fz→Ni e x p τ z=some x'→
   ∃F',F'.Perm (F1++Fz)∧Ic w' (.sl e) (j5 xs i x') [.slice (some ⟨b,off,none⟩) (ja xs) cap] F'):=by
 obtain⟨hm,⟨h1,_⟩|⟨bl,off',cap',cur,et,Fs,h1,hh,h2,h3,h4,hF,hl,hv⟩⟩:=h
 ·simp at h1
 ·simp at h1
  obtain⟨⟨rfl,rfl⟩,rfl⟩:=h1
  have hil:i<ja xs:=(q8.1 hi).1
  have hxe:List.get xs ⟨i,hil⟩=x:=by simpa[je hil]using hi
  have hle:=Pj ht
  have hcap:=jm e.size h2
  have hlt:(i+1)*e.size≤ja xs*e.size:=jm _ hil
  rw[yf,Nat.one_mul]at hlt
  have hoi:=hv i hil
  rw[hxe]at hoi
  obtain⟨Fa,Fy,Fc,hFi,hown,hwand⟩:=Raf ht hy hy' hoi
  have hseg:=OT cur (off+i*e.size) e.size (Yb e p) τ.size hle
  rw[hseg]at hown
  have hiF:i<Fs.length:=by omega
  refine⟨cur,et,b::((Fs.take i).flatten++(Fa++Fc)++(Fs.drop (i+1)).flatten),Fy,hh,by simp,by omega,?_,hown,fun hbn w' c' hc' hw hwb z Fz x' hz hs=>?_⟩
  ·rw[hF,(LL hiF []).1,hFi,List.perm_iff_count]
   intro c
   simp only[List.count_append,List.count_cons]
   omega
  ·simp only[List.erase_cons_head]at hbn
   obtain⟨_,g2⟩:=LL hiF (Fa++Fz++Fc)
   refine⟨b::(Fs.set i (Fa++Fz++Fc)).flatten,?_,by simpa using hm,.inr ⟨b,off,cap,_,et,_,by simp,hwb,by simpa using h2,h3,?_,rfl,by simpa using hl,fun j hj=>?_⟩⟩
   ·rw[g2,List.perm_iff_count]
    intro c
    simp only[List.count_append,List.count_cons]
    omega
   ·rw[yo,Yh (by simp;omega)]
    simpa using h4
   ·have hjl:j<ja xs:=by simpa using hj
    by_cases hji:j=i
    ·subst hji
     have e1:List.get (j5 xs j x') ⟨j,hj⟩=x':=by simp
     have e2:(Fs.set j (Fa++Fz++Fc)).getD j []=Fa++Fz++Fc:=by simp[qs,hiF]
     rw[e1,e2,ZC (by omega) (by omega)]
     refine hwand w' c' hc' (fun c hc=>hw c ?_ ?_) z Fz x' hz hs
     ·simp only[jp,jl]at hc⊢
      grind
     ·rintro rfl
      apply hbn
      simp only[jl]at hc⊢
      grind
    ·have e1:List.get (j5 xs i x') ⟨j,hj⟩=List.get xs ⟨j,hjl⟩:=by simp[Ne.symm hji]
     have e2:(Fs.set i (Fa++Fz++Fc)).getD j []=Fs.getD j []:=by simp[qs,Ne.symm hji]
     have hjle:(j+1)*e.size≤ja xs*e.size:=jm _ hjl
     rw[yf,Nat.one_mul]at hjle
     have hjF:j<Fs.length:=by omega
     have hinF:∀c,c∈Fs.getD j []→c∈(Fs.take i).flatten++(Fa++Fc)++(Fs.drop (i+1)).flatten:=by
      intro c hc
      have hc':c∈Fs[j]:=by simpa[qs,hjF]using hc
      simp only[jl]
      rcases Nat.lt_or_gt_of_ne hji with hlt'|hlt'
      ·exact .inl (.inl (List.mem_flatten.2 ⟨Fs[j],List.mem_take_iff_getElem.2 ⟨j,by omega,rfl⟩,hc'⟩))
      ·exact .inr (List.mem_flatten.2 ⟨Fs[j],List.mem_drop_iff_getElem.2 ⟨j-(i+1),by omega,by congr 1;omega⟩,hc'⟩)
     rw[e1,e2,XH (by omega) (by omega) ?_]
     ·refine(hv j hjl).stable fun c hc=>hw c (jr _ (hinF c hc)) ?_
      rintro rfl
      exact hbn (hinF c hc)
     ·rcases Nat.lt_or_gt_of_ne hji with hlt'|hlt'
      ·left
       have:=jm e.size hlt'
       rw[yq]at this
       omega
      ·right
       have:=jm e.size hlt'
       rw[yq]at this
       omega
theorem Qah{cs:List Value}{o n:Nat}(h:o+n≤cs.length):Jc cs o ((cs.drop o).take n)=cs:=by
 apply qp
 intro j
 have hl:((cs.drop o).take n).length=n:=by simp;omega
 rw[Jk (by omega),hl]
 split
 ·rfl
 ·split
  ·rw[List.getElem?_take,if_pos (by omega),List.getElem?_drop];congr 1;omega
  ·rfl
section
variable{P:Program} {Out:Type} {n0:Nat} {A:Fx} {O0:Nat→Prop} {w0 w w':World} {s:AS} {σ σ':Nat→Value} {φ φ':Nat→List Nat} {a:Act}
variable{o:Oper} {Q:Exit→Act→World→Prop} {k:AS→Option Out} {out:Out} {d:D} {v:Value} {upd:List (Nat×Option Ka)} {dst:Option Tmp} {G:Sf}
theorem Db.focus(h:Db n0 A O0 w0 s σ φ a w){id:Nat}{e τ:Ty}{xs:List (T e)}{i:Nat}{x:T e}{p:List Nat}{y:D}{y':T τ}{n m:Nat}{u:List (Nat×Option Ka)}
 (hb:s.heap id=some (.row e true xs)) (hm:s.ment id=true) (hi:xs[i]?=some x) (ht:Rf e p=some τ) (hy:(D.t e x).at p=some y) (hy':Hm y τ=some y')
 {b off cap:Nat} (hσ:σ id=.slice (some ⟨b,off,none⟩) (ja xs) cap) (ho:Ff τ y' n=(d,u,m)) (hu:Te s u=true):
 ∃cur et σ' φ',w.heap[b]?=some (.cells cur et (0,0))∧off+i*e.size+e.size≤cur.size∧
  Db n0 A O0 w0 ⟨s.n,s.tm,((id,some (.hol e xs i x p τ d))::u)++s.hp⟩ σ' φ' a w∧Ob τ d∧
  ∀hp' O',Kb w O' hp' σ' d (Ae cur (off+i*e.size+Yb e p) τ.size):=by
 have hown:=h.hp id _ hb
 simp only[Gd,hσ]at hown
 obtain⟨cur,et,F1,Fy,hh,hbF,hsz,hperm,hoy,hwand⟩:=Z9 hown hi ht hy hy'
 obtain⟨hnm,hrange,hsh,ψ,ν,hbl,hrows,hrep⟩:=VD ho hoy
 obtain⟨hnew,hnd⟩:=GG hu
 have hnm':∀q,q∈u→s.ment q.1=false:=fun q hq=>by
  have:=hnew q hq
  simp only[AS.newOk,jd,yl]at this
  exact this.1
 have hidu:id∉u.map (·.1):=fun hid=>by
  obtain⟨q,hq,he⟩:=qk.1 hid
  rw[←he,hnm' q hq]at hm
  simp at hm
 have hndF:(F1++Fy).Nodup:=hperm.nodup_iff.1 (h.nodup id _ hb)
 let σ':Nat→Value:=fun j=>if j∈u.map (·.1)then ν j else σ j
 let φ':Nat→List Nat:=fun j=>if j=id then F1 else if j∈u.map (·.1)then ψ j else φ j
 have hσid:σ' id=σ id:=if_neg hidu
 have hσu:∀q,q∈u→σ' q.1=ν q.1:=fun q hq=>if_pos (yv hq)
 have hφid:φ' id=F1:=if_pos rfl
 have hφu:∀j,j∈u.map (·.1)→φ' j=ψ j:=fun j hj=>by
  have:j≠id:=fun e=>hidu (e▸hj)
  simp only[φ',if_neg this,if_pos hj]
 have hget:∀(U:List (Nat×Option Ka)) (j:Nat),j∉U.map (·.1)→Xb (U++s.hp) j=Xb s.hp j:=by
  intro U j
  induction U with
  |nil=>simp
  |cons q U ih=>
   intro hn
   simp only[yk,jp,not_or]at hn
   rw[yh,Id,if_neg (Ne.symm hn.1),ih hn.2]
 have hgetm:∀(U:List (Nat×Option Ka)),(U.map (·.1)).Nodup→∀q,q∈U→Xb (U++s.hp) q.1=some q.2:=by
  intro U
  induction U with
  |nil=>simp
  |cons r U ih=>
   intro hn q hp
   simp only[yk,ym]at hn
   rw[yh,Id]
   rcases jp.1 hp with rfl|hp
   ·rw[if_pos rfl]
   ·rw[if_neg (fun e:r.1=q.1=>hn.1 (by rw[e];exact yv hp)),ih hn.2 q hp]
 have hU:(((id,some (Ka.hol e xs i x p τ d))::u).map (·.1)).Nodup:=by
  simp only[yk,ym]
  exact⟨hidu,hnd⟩
 have hh1:∀j,¬(j=id∨j∈u.map (·.1))→AS.heap ⟨s.n,s.tm,((id,some (Ka.hol e xs i x p τ d))::u)++s.hp⟩ j=s.heap j:=fun j hj=>by
  simp only[AS.heap]
  rw[hget _ j (by simpa using hj)]
 have hh2:AS.heap ⟨s.n,s.tm,((id,some (Ka.hol e xs i x p τ d))::u)++s.hp⟩ id=some (.hol e xs i x p τ d):=by
  simp only[AS.heap]
  rw[hgetm _ hU (id,some (.hol e xs i x p τ d)) (by simp)]
  rfl
 have hh3:∀q,q∈u→AS.heap ⟨s.n,s.tm,((id,some (Ka.hol e xs i x p τ d))::u)++s.hp⟩ q.1=q.2:=fun q hq=>by
  simp only[AS.heap]
  rw[hgetm _ hU q (by simp[hq])]
  rfl
 have hmemu:∀j,j∈u.map (·.1)→∃q,q∈u∧q.1=j:=fun j hj=>by
  obtain⟨q,hq,he⟩:=qk.1 hj
  exact⟨q,hq,he⟩
 have hψ:∀j,j∈u.map (·.1)→∀c,c∈ψ j→c∈Fy:=fun j hj c hc=>by
  rw[←hbl];exact Pb.2 ⟨j,hj,hc⟩
 have hin:∀j,(j=id∨j∈u.map (·.1))→∀c,c∈φ' j→c∈φ id:=by
  intro j hj c hc
  refine hperm.mem_iff.2 ?_
  rcases hj with rfl|hj
  ·rw[hφid]at hc
   exact qu _ hc
  ·rw[hφu j hj]at hc
   exact qv _ (hψ j hj c hc)
 have hrep':∀hp' O',Kb w O' hp' σ' d (Ae cur (off+i*e.size+Yb e p) τ.size):=fun hp' O'=>hrep w hp' σ' O' hσu
 refine⟨cur,et,σ',φ',hh,hsz,?_,hsh,hrep'⟩
 refine h.trans (fun j=>j=id∨j∈u.map (·.1)) rfl rfl ?_ (fun _ _ _=>rfl) (jo _) ?_ ?_ ?_ ?_ rfl rfl rfl ?_ ?_
 rotate_right
 ·intro j kk e' xs' hj hl
  rcases hj with rfl|hj
  ·rw[hh2]at hl;simp at hl
  ·obtain⟨q,hq,rfl⟩:=hmemu j hj
   rw[hh3 q hq]at hl
   have:=hrows q hq
   rw[hl]at this
   exact this.nq.elim
 ·intro j hj
  refine⟨hh1 j hj,?_,?_⟩
  ·exact if_neg fun hm=>hj (.inr hm)
  ·simp only[not_or]at hj
   simp only[φ',if_neg hj.1,if_neg hj.2]
 ·intro j blk' hj _ c hc
  exact .inr ⟨id,_,.inl rfl,hb,hin j hj c hc⟩
 ·intro j blk' hj hl hmj
  rcases hj with rfl|hj
  ·rw[hh2]at hl
   simp only[jc]at hl
   subst hl
   exact⟨_,hb,by simp[Ka.like],hσid⟩
  ·obtain⟨q,hq,rfl⟩:=hmemu j hj
   rw[hnm' q hq]at hmj
   simp at hmj
 ·intro j blk' hj hl
  rcases hj with rfl|hj
  ·rw[hh2]at hl
   simp only[jc]at hl
   subst hl
   rw[hφid]
   have hF1:F1.Nodup:=hndF.sublist (List.sublist_append_left _ _)
   refine⟨⟨hsh,hi,ht,fun c hc=>(h.hp _ _ hb).lt c (hperm.mem_iff.2 (qu _ hc)),b,off,cap,cur,et,hσid.trans hσ,hh,hbF,hsz,hrep' _ _,fun w' c' hc' hw hwb z Fz x' hz hs=>?_⟩,hF1⟩
   obtain⟨F',hp',ho'⟩:=hwand (fun hm=>((List.Nodup.mem_erase_iff hF1).1 hm).1 rfl) w' c' hc' hw hwb z Fz x' hz hs
   exact⟨F',hp',by rw[hσid,hσ];exact ho'⟩
  ·obtain⟨q,hq,rfl⟩:=hmemu j hj
   rw[hh3 q hq]at hl
   have hown2:=hrows q hq
   rw[hl,←hσu q hq]at hown2
   rw[hφu _ hj]
   refine⟨hown2.rep,?_⟩
   ·have hs:(ψ q.1).Sublist Fy:=by
     rw[←hbl]
     unfold Ha
     exact List.sublist_flatten_of_mem (yv hj)
    exact hs.nodup (hndF.sublist (List.sublist_append_right _ _))
 ·intro j j' b1 b2 hj hj' hne _ _ c hc hc'
  rw[yn]at hndF
  rcases hj with rfl|hj
  ·rcases hj' with e|hj'
   ·exact hne e.symm
   ·rw[hφid]at hc
    rw[hφu _ hj']at hc'
    exact hndF.2.2 c hc c (hψ _ hj' c hc') rfl
  ·rcases hj' with rfl|hj'
   ·rw[hφid]at hc'
    rw[hφu _ hj]at hc
    exact hndF.2.2 c hc' c (hψ _ hj c hc) rfl
   ·rw[hφu _ hj]at hc
    rw[hφu _ hj']at hc'
    have:∀(L:List Nat),(Ha ψ L).Nodup→j∈L→j'∈L→False:=by
     intro L
     induction L with
     |nil=>simp
     |cons z L ih=>
      intro hn hi hi'
      have hx:Ha ψ (z::L)=ψ z++Ha ψ L:=by simp[Ha]
      rw[hx,yn]at hn
      rcases jp.1 hi with e1|q1
      ·rcases jp.1 hi' with e2|q2
       ·exact hne (e1.trans e2.symm)
       ·exact hn.2.2 c (e1▸hc) c (Pb.2 ⟨j',q2,hc'⟩) rfl
      ·rcases jp.1 hi' with e2|q2
       ·exact hn.2.2 c (e2▸hc') c (Pb.2 ⟨j,q1,hc⟩) rfl
       ·exact ih hn.2.1 q1 q2
    exact this _ (by rw[hbl];exact hndF.2.1) hj hj'
 ·intro j hj
  rcases hj with rfl|hj
  ·exact .inl hσid
  ·obtain⟨q,hq,rfl⟩:=hmemu j hj
   exact .inr (SH (hnew q hq))
theorem Fag{w:World}{O:Nat→Prop}{hp:Nat→Option Ka}{σ:Nat→Value}{id:Nat}{e:Ty}{xs:List (T e)}{F:List Nat}(h:Gd w O hp σ id (.row e true xs) F):Gd w O hp σ id (.mov e xs 0) F:=by
 simp only[Gd,Ic]at h
 obtain⟨hm,⟨h1,h2,h3⟩|⟨bl,off,cap,cur,et,Fs,h1,hh,h2,h3,h4,hF,hl,hv⟩⟩:=h
 ·simp only[yi,and_true]at h1
  exact⟨hm,.inl ⟨h1,h2,h3⟩⟩
 ·simp only[yi,and_true]at h1
  exact⟨hm,.inr ⟨bl,off,cap,cur,et,Fs,h1,hh,h2,h3,h4,hF,hl,fun i hi _=>hv i hi,fun i hi=>by omega⟩⟩
theorem Db.moveout(h:Db n0 A O0 w0 s σ φ a w){id:Nat}{e:Ty}{xs:List (T e)}{i:Nat}{x:T e}{Ga:Ka}{n m:Nat}{d:D}{u:List (Nat×Option Ka)}
 (hb:s.heap id=some Ga) (hlike:Ga.like (.mov e xs (i+1))) (hmv:Gd w (OO O0 s φ) s.heap σ id (.mov e xs i) (φ id)) (hm:s.ment id=true) (hi:xs[i]?=some x)
 {b off cap:Nat} (hσ:σ id=.slice (some ⟨b,off,none⟩) (ja xs) cap) (ho:Ff e x n=(d,u,m)) (hu:Te s u=true):
 ∃cur et σ' φ',w.heap[b]?=some (.cells cur et (0,0))∧off+i*e.size+e.size≤cur.size∧
  Db n0 A O0 w0 ⟨s.n,s.tm,((id,some (.mov e xs (i+1)))::u)++s.hp⟩ σ' φ' a w∧Ob e d∧
  ∀hp' O',Kb w O' hp' σ' d (Ae cur (off+i*e.size) e.size):=by
 obtain⟨hlen,⟨h1,_⟩|⟨bl,off',cap',cur,et,Fs,h1,hh,h2,h3,h4,hF,hl,hv,hk⟩⟩:=hmv
 ·rw[hσ]at h1;simp at h1
 rw[hσ]at h1
 simp only[Value.slice.injEq,jc,Addr.mk.injEq,and_true,true_and]at h1
 obtain⟨⟨rfl,rfl⟩,rfl⟩:=h1
 have hil:i<ja xs:=(q8.1 hi).1
 have hxe:List.get xs ⟨i,hil⟩=x:=by simpa[je hil]using hi
 have hcap:=jm e.size h2
 have hlt:(i+1)*e.size≤ja xs*e.size:=jm _ hil
 rw[yf,Nat.one_mul]at hlt
 have hoy:=hv i hil (jo _)
 rw[hxe]at hoy
 have hiF:i<Fs.length:=by omega
 obtain⟨F1,hF1e⟩:∃F1,F1=b::(Fs.set i []).flatten:=⟨_,rfl⟩
 obtain⟨Fy,hFye⟩:∃Fy,Fy=Fs.getD i []:=⟨_,rfl⟩
 rw[←hFye]at hoy
 have hsz:off+i*e.size+e.size≤cur.size:=by omega
 have hperm:(φ id).Perm (F1++Fy):=by
  obtain⟨g1,g2⟩:=LL hiF []
  rw[hF,hF1e,hFye,g2,g1,List.perm_iff_count]
  intro c
  simp only[List.count_append,List.count_cons,List.count_nil]
  omega
 obtain⟨hnm,hrange,hsh,ψ,ν,hbl,hrows,hrep⟩:=VD ho hoy
 obtain⟨hnew,hnd⟩:=GG hu
 have hnm':∀q,q∈u→s.ment q.1=false:=fun q hq=>by
  have:=hnew q hq
  simp only[AS.newOk,jd,yl]at this
  exact this.1
 have hidu:id∉u.map (·.1):=fun hid=>by
  obtain⟨q,hq,he⟩:=qk.1 hid
  rw[←he,hnm' q hq]at hm
  simp at hm
 have hndF:(F1++Fy).Nodup:=hperm.nodup_iff.1 (h.nodup id _ hb)
 let σ':Nat→Value:=fun j=>if j∈u.map (·.1)then ν j else σ j
 let φ':Nat→List Nat:=fun j=>if j=id then F1 else if j∈u.map (·.1)then ψ j else φ j
 have hσid:σ' id=σ id:=if_neg hidu
 have hσu:∀q,q∈u→σ' q.1=ν q.1:=fun q hq=>if_pos (yv hq)
 have hφid:φ' id=F1:=if_pos rfl
 have hφu:∀j,j∈u.map (·.1)→φ' j=ψ j:=fun j hj=>by
  have:j≠id:=fun e=>hidu (e▸hj)
  simp only[φ',if_neg this,if_pos hj]
 have hget:∀(U:List (Nat×Option Ka)) (j:Nat),j∉U.map (·.1)→Xb (U++s.hp) j=Xb s.hp j:=by
  intro U j
  induction U with
  |nil=>simp
  |cons q U ih=>
   intro hn
   simp only[yk,jp,not_or]at hn
   rw[yh,Id,if_neg (Ne.symm hn.1),ih hn.2]
 have hgetm:∀(U:List (Nat×Option Ka)),(U.map (·.1)).Nodup→∀q,q∈U→Xb (U++s.hp) q.1=some q.2:=by
  intro U
  induction U with
  |nil=>simp
  |cons r U ih=>
   intro hn q hp
   simp only[yk,ym]at hn
   rw[yh,Id]
   rcases jp.1 hp with rfl|hp
   ·rw[if_pos rfl]
   ·rw[if_neg (fun e:r.1=q.1=>hn.1 (by rw[e];exact yv hp)),ih hn.2 q hp]
 have hU:(((id,some (Ka.mov e xs (i+1)))::u).map (·.1)).Nodup:=by
  simp only[yk,ym]
  exact⟨hidu,hnd⟩
 have hh1:∀j,¬(j=id∨j∈u.map (·.1))→AS.heap ⟨s.n,s.tm,((id,some (Ka.mov e xs (i+1)))::u)++s.hp⟩ j=s.heap j:=fun j hj=>by
  simp only[AS.heap]
  rw[hget _ j (by simpa using hj)]
 have hh2:AS.heap ⟨s.n,s.tm,((id,some (Ka.mov e xs (i+1)))::u)++s.hp⟩ id=some (.mov e xs (i+1)):=by
  simp only[AS.heap]
  rw[hgetm _ hU (id,some (.mov e xs (i+1))) (by simp)]
  rfl
 have hh3:∀q,q∈u→AS.heap ⟨s.n,s.tm,((id,some (Ka.mov e xs (i+1)))::u)++s.hp⟩ q.1=q.2:=fun q hq=>by
  simp only[AS.heap]
  rw[hgetm _ hU q (by simp[hq])]
  rfl
 have hmemu:∀j,j∈u.map (·.1)→∃q,q∈u∧q.1=j:=fun j hj=>by
  obtain⟨q,hq,he⟩:=qk.1 hj
  exact⟨q,hq,he⟩
 have hψ:∀j,j∈u.map (·.1)→∀c,c∈ψ j→c∈Fy:=fun j hj c hc=>by
  rw[←hbl];exact Pb.2 ⟨j,hj,hc⟩
 have hin:∀j,(j=id∨j∈u.map (·.1))→∀c,c∈φ' j→c∈φ id:=by
  intro j hj c hc
  refine hperm.mem_iff.2 ?_
  rcases hj with rfl|hj
  ·rw[hφid]at hc
   exact qu _ hc
  ·rw[hφu j hj]at hc
   exact qv _ (hψ j hj c hc)
 have hrep':∀hp' O',Kb w O' hp' σ' d (Ae cur (off+i*e.size) e.size):=fun hp' O'=>hrep w hp' σ' O' hσu
 refine⟨cur,et,σ',φ',hh,hsz,?_,hsh,hrep'⟩
 refine h.trans (fun j=>j=id∨j∈u.map (·.1)) rfl rfl ?_ (fun _ _ _=>rfl) (jo _) ?_ ?_ ?_ ?_ rfl rfl rfl ?_ ?_
 rotate_right
 ·intro j kk e' xs' hj hl
  rcases hj with rfl|hj
  ·rw[hh2]at hl;simp at hl
  ·obtain⟨q,hq,rfl⟩:=hmemu j hj
   rw[hh3 q hq]at hl
   have:=hrows q hq
   rw[hl]at this
   exact this.nq.elim
 ·intro j hj
  refine⟨hh1 j hj,?_,?_⟩
  ·exact if_neg fun hm=>hj (.inr hm)
  ·simp only[not_or]at hj
   simp only[φ',if_neg hj.1,if_neg hj.2]
 ·intro j blk' hj _ c hc
  exact .inr ⟨id,_,.inl rfl,hb,hin j hj c hc⟩
 ·intro j blk' hj hl hmj
  rcases hj with rfl|hj
  ·rw[hh2]at hl
   simp only[jc]at hl
   subst hl
   exact⟨_,hb,hlike,hσid⟩
  ·obtain⟨q,hq,rfl⟩:=hmemu j hj
   rw[hnm' q hq]at hmj
   simp at hmj
 ·intro j blk' hj hl
  rcases hj with rfl|hj
  ·rw[hh2]at hl
   simp only[jc]at hl
   subst hl
   rw[hφid]
   have hF1:F1.Nodup:=hndF.sublist (List.sublist_append_left _ _)
   refine⟨⟨hlen,.inr ⟨b,off,cap,cur,et,Fs.set i [],hσid.trans hσ,hh,h2,h3,h4,hF1e,by rw[List.length_set];exact hl,fun j hj hij=>?_,fun j hj=>?_⟩⟩,hF1⟩
   ·have hne:j≠i:=by omega
    have:(Fs.set i []).getD j []=Fs.getD j []:=by simp[qs,Ne.symm hne]
    rw[this]
    exact hv j hj (by omega)
   ·by_cases hji:j=i
    ·subst hji;simp[qs,hiF]
    ·have:(Fs.set i []).getD j []=Fs.getD j []:=by simp[qs,Ne.symm hji]
     rw[this]
     exact hk j (by omega)
  ·obtain⟨q,hq,rfl⟩:=hmemu j hj
   rw[hh3 q hq]at hl
   have hown2:=hrows q hq
   rw[hl,←hσu q hq]at hown2
   rw[hφu _ hj]
   refine⟨hown2.rep,?_⟩
   ·have hs:(ψ q.1).Sublist Fy:=by
     rw[←hbl]
     unfold Ha
     exact List.sublist_flatten_of_mem (yv hj)
    exact hs.nodup (hndF.sublist (List.sublist_append_right _ _))
 ·intro j j' b1 b2 hj hj' hne _ _ c hc hc'
  rw[yn]at hndF
  rcases hj with rfl|hj
  ·rcases hj' with e|hj'
   ·exact hne e.symm
   ·rw[hφid]at hc
    rw[hφu _ hj']at hc'
    exact hndF.2.2 c hc c (hψ _ hj' c hc') rfl
  ·rcases hj' with rfl|hj'
   ·rw[hφid]at hc'
    rw[hφu _ hj]at hc
    exact hndF.2.2 c hc' c (hψ _ hj c hc) rfl
   ·rw[hφu _ hj]at hc
    rw[hφu _ hj']at hc'
    have:∀(L:List Nat),(Ha ψ L).Nodup→j∈L→j'∈L→False:=by
     intro L
     induction L with
     |nil=>simp
     |cons z L ih=>
      intro hn hi hi'
      have hx:Ha ψ (z::L)=ψ z++Ha ψ L:=by simp[Ha]
      rw[hx,yn]at hn
      rcases jp.1 hi with e1|q1
      ·rcases jp.1 hi' with e2|q2
       ·exact hne (e1.trans e2.symm)
       ·exact hn.2.2 c (e1▸hc) c (Pb.2 ⟨j',q2,hc'⟩) rfl
      ·rcases jp.1 hi' with e2|q2
       ·exact hn.2.2 c (e2▸hc') c (Pb.2 ⟨j,q1,hc⟩) rfl
       ·exact ih hn.2.1 q1 q2
    exact this _ (by rw[hbl];exact hndF.2.1) hj hj'
 ·intro j hj
  rcases hj with rfl|hj
  ·exact .inl hσid
  ·obtain⟨q,hq,rfl⟩:=hmemu j hj
   exact .inr (SH (hnew q hq))
theorem XB{α:Type}{b:Bool}{x:Option α}{y:α}:(bif b then x else none)=some y↔b=true∧x=some y:=by cases b<;>simp
theorem Kas(h:Db n0 A O0 w0 s σ φ a w){id:Nat}{s':AS}(he:s.attach id=some s'):∃φ',Db n0 A O0 w0 s' σ φ' a w:=by
 unfold AS.attach at he
 split at he
 ·rename_i e xs i x path τ d hb
  split at he
  ·rename_i y l hy
   cases hnd:Lg (id::l)with
   |false=>simp[hnd]at he
   |true=>
    simp only[hnd,zg]at he
    split at he
    ·rename_i x' hx'
     simp only[jc]at he
     subst he
     have hnd:=Mi hnd
     obtain⟨hsh,hi,ht,hlt,bl,off,cap,cur,et,hσ,hh,hbF,hsz,hrep,hwand⟩:=h.hp id _ hb
     obtain⟨hown,hlive⟩:=Er h hy hrep
     have hle:=Pj ht
     have hcl:cur.toList.length=cur.size:=Array.length_toList
     have hsame:Jc cur.toList (off+i*e.size+Yb e path) (Ae cur (off+i*e.size+Yb e path) τ.size)=cur.toList:=Qah (by omega)
     obtain⟨F',hperm,hown'⟩:=hwand w _ (De (by omega)) (fun _ _ _=>rfl) (by rw[hsame];exact hh) y _ x' hown hx'
     have hFF:(φ id++Ha φ l).Nodup:=by
      have:=Rg h hnd (by
       intro j hj
       rcases jp.1 hj with rfl|hj
       ·exact⟨_,hb⟩
       ·exact hlive j hj)
      simpa[Ha]using this
     refine⟨_,h.turn (blk0:=.hol e xs i x path τ d) (Ga:=.row e true (j5 xs i x')) hb (by simp[Ka.like]) l hlive (ym.1 hnd).1 F' (jo _) (fun _ _ _ _=>rfl) rfl rfl rfl (hperm.nodup_iff.2 hFF) ?_ ?_⟩
     ·intro c hc
      rcases jl.1 (hperm.mem_iff.1 hc)with hc|hc
      ·exact .inr (.inl hc)
      ·exact .inr (.inr (Pb.1 hc))
     ·intro hp' O' _ _
      exact hown'
    ·simp at he
  ·simp at he
 ·simp only[jc]at he
  subst he
  exact⟨φ,h⟩
theorem Z0{α β:Type}(f:α→β):∀(l:List (Nat×α)) (k:Nat),Xb (l.map fun p=>(p.1,f p.2)) k=(Xb l k).map f
 |[],k=>rfl
 |(j,a)::r,k=>by
  rw[yk,Id,Id]
  split
  ·rfl
  ·exact Z0 f r k
theorem U2{id:Nat}{τ:Ty}{x:T τ}(b:Ka):(b.frz id τ x).rowN=b.rowN:=by cases b<;>rfl
theorem PaE{id:Nat}{τ:Ty}{x:T τ}(b:Ka):(b.frz id τ x).isM=b.isM:=by cases b<;>rfl
theorem Rat{id:Nat}{τ:Ty}{x:T τ}(d:D):(d.frz id τ x).isAgg=d.isAgg:=by
 cases d with
 |own j=>
  simp only[D.frz]
  cases qw j id with
  |false=>rfl
  |true=>cases τ<;>rfl
 |mpo j=>
  simp only[D.frz]
  cases qw j id with
  |false=>rfl
  |true=>cases τ<;>rfl
 |_=>rfl
section
variable{O O':Nat→Prop} {hp hp':Nat→Option Ka} {id:Nat} {ζ:Ty} {xs:T ζ}
theorem Kb.frz(hsl:ζ.isSl=true→∃b0 r,hp id=some b0∧b0.rowN=some r)(hmp:ζ.isMp=true→∃b0,hp id=some b0∧b0.isM=true)(hn:hp' id=none)(hh:∀j,j≠id→hp' j=(hp j).map (Ka.frz id ζ xs))(hO:∀b,O' b→O b)(hv:Wa w O' ζ xs [σ id]):
 ∀(d:D) (cs:List Value),Kb w O hp σ d cs→Kb w O' hp' σ (d.frz id ζ xs) cs
 |.und,cs,h=>h
 |.anyv,cs,h=>h
 |.t τ x,cs,h=>Wa.weaken hO h
 |.nil,cs,h=>h
 |.own j,cs,h=>by
  obtain⟨v,hcs,h1,h2⟩:=h
  simp only[D.frz]
  cases hj:qw j id&&ζ.isSl with
  |true=>
   simp only[jd]at hj
   have:=ju hj.1
   subst this
   obtain⟨b0,r,hb0,hr⟩:=hsl hj.2
   rw[hcs,h2 _ _ hb0 hr]
   exact hv
  |false=>
   refine⟨v,hcs,h1,fun Ga r hl hr=>?_⟩
   by_cases hne:j=id
   ·subst hne;rw[hn]at hl;simp at hl
   rw[hh j hne,yz]at hl
   obtain⟨b0,hb0,rfl⟩:=hl
   rw[U2]at hr
   exact h2 b0 r hb0 hr
 |.mpo j,cs,h=>by
  obtain⟨v,hcs,h1,h2⟩:=h
  simp only[D.frz]
  cases hj:qw j id&&ζ.isMp with
  |true=>
   simp only[jd]at hj
   have:=ju hj.1
   subst this
   obtain⟨b0,hb0,hm0⟩:=hmp hj.2
   rw[hcs,h2 _ hb0 hm0]
   exact hv
  |false=>
   refine⟨v,hcs,h1,fun Ga hl hm=>?_⟩
   by_cases hne:j=id
   ·subst hne;rw[hn]at hl;simp at hl
   rw[hh j hne,yz]at hl
   obtain⟨b0,hb0,rfl⟩:=hl
   rw[PaE]at hm
   exact h2 _ hb0 hm
 |.cut j lo hi,cs,h=>by
  obtain⟨v,hcs,h1,h2⟩:=h
  refine⟨v,hcs,h1,fun Ga e' n hl hr=>?_⟩
  by_cases hne:j=id
  ·subst hne;rw[hn]at hl;simp at hl
  rw[hh j hne,yz]at hl
  obtain⟨b0,hb0,rfl⟩:=hl
  rw[U2]at hr
  exact h2 b0 e' n hb0 hr
 |.ptr j path,cs,h=>by
  obtain⟨v,hcs,h1,h2⟩:=h
  refine⟨v,hcs,h1,fun ρ d hl=>?_⟩
  by_cases hne:j=id
  ·subst hne;rw[hn]at hl;simp at hl
  rw[hh j hne,yz]at hl
  obtain⟨b0,hb0,hbe⟩:=hl
  cases b0 with
  |box ρ' d'=>
   simp only[Ka.frz,Ka.box.injEq]at hbe
   rw[←hbe.1]
   exact h2 ρ' d' hb0
  |_=>simp[Ka.frz]at hbe
 |.eptr j i path,cs,h=>by
  obtain⟨v,hcs,h1,h2⟩:=h
  refine⟨v,hcs,h1,fun Ga e' n hl hr=>?_⟩
  by_cases hne:j=id
  ·subst hne;rw[hn]at hl;simp at hl
  rw[hh j hne,yz]at hl
  obtain⟨b0,hb0,rfl⟩:=hl
  rw[U2]at hr
  exact h2 b0 e' n hb0 hr
 |.rp τ x,cs,h=>by
  obtain⟨b,off,cur,et,fr,hcs,hb',hh',hs,hvw⟩:=h
  exact⟨b,off,cur,et,fr,hcs,fun h=>hb' (hO _ h),hh',hs,Wa.weaken hO hvw⟩
 |.pr a b,cs,h=>by
  obtain⟨c1,c2,h0,h1,h2⟩:=h
  exact⟨c1,c2,h0,Kb.frz hsl hmp hn hh hO hv a c1 h1,Kb.frz hsl hmp hn hh hO hv b c2 h2⟩
 |.un,cs,h=>h
 |.tup d,cs,h=>h
theorem Kf.frz(hsl:ζ.isSl=true→∃b0 r,hp id=some b0∧b0.rowN=some r)(hmp:ζ.isMp=true→∃b0,hp id=some b0∧b0.isM=true)(hn:hp' id=none)(hh:∀j,j≠id→hp' j=(hp j).map (Ka.frz id ζ xs))(hO:∀b,O' b→O b)(hv:Wa w O' ζ xs [σ id])
 {d:D} {v:Value} (h:Kf w O hp σ d v):Kf w O' hp' σ (d.frz id ζ xs) v:=by
 unfold Kf at*
 rw[Rat]
 split
 ·rename_i ha
  rw[if_pos ha]at h
  obtain⟨cs,h1,h2⟩:=h
  exact⟨cs,h1,Kb.frz hsl hmp hn hh hO hv d _ h2⟩
 ·rename_i ha
  rw[if_neg ha]at h
  exact Kb.frz hsl hmp hn hh hO hv d _ h
theorem Nh.frz(hsl:ζ.isSl=true→∃b0 r,hp id=some b0∧b0.rowN=some r)(hmp:ζ.isMp=true→∃b0,hp id=some b0∧b0.isM=true)(hn:hp' id=none)(hh:∀j,j≠id→hp' j=(hp j).map (Ka.frz id ζ xs))(hO:∀b,O' b→O b)(hv:Wa w O' ζ xs [σ id]):
 ∀(d:D) (vs:List Value),Nh w O hp σ d vs→Nh w O' hp' σ (d.frz id ζ xs) vs
 |.pr a b,v::vs,h=>⟨Kf.frz hsl hmp hn hh hO hv h.1,Nh.frz hsl hmp hn hh hO hv b vs h.2⟩
 |.un,[],_=>trivial
 |.pr _ _,[],h=>h.elim
 |.un,_::_,h=>h.elim
 |.und,_,h=>by simp[Nh]at h
 |.anyv,_,h=>by simp[Nh]at h
 |.t _ _,_,h=>by simp[Nh]at h
 |.nil,_,h=>by simp[Nh]at h
 |.own _,_,h=>by simp[Nh]at h
 |.mpo _,_,h=>by simp[Nh]at h
 |.ptr _ _,_,h=>by simp[Nh]at h
 |.eptr _ _ _,_,h=>by simp[Nh]at h
 |.rp _ _,_,h=>by simp[Nh]at h
 |.tup _,_,h=>by simp[Nh]at h
theorem Td.frz(hsl:ζ.isSl=true→∃b0 r,hp id=some b0∧b0.rowN=some r)(hmp:ζ.isMp=true→∃b0,hp id=some b0∧b0.isM=true)(hn:hp' id=none)(hh:∀j,j≠id→hp' j=(hp j).map (Ka.frz id ζ xs))(hO:∀b,O' b→O b)(hv:Wa w O' ζ xs [σ id])
 {d:D} {v:Value} (h:Td w O hp σ d v):Td w O' hp' σ (d.frz id ζ xs) v:=by
 cases d with
 |tup ds=>
  obtain⟨vs,h1,h2⟩:=h
  exact⟨vs,h1,Nh.frz hsl hmp hn hh hO hv ds _ h2⟩
 |und=>exact h
 |anyv=>exact h
 |_=>exact ZD (Kf.frz hsl hmp hn hh hO hv h)
end
theorem UW(hA:NoA O0 s φ)(h:Db n0 A O0 w0 s σ φ a w){id:Nat}{ζ:Ty}{xs:T ζ}{b0:Ka}(hb:s.heap id=some b0)(hnb:∀ρ d,b0≠ .box ρ d)(hsl:ζ.isSl=true→∃b0 r,s.heap id=some b0∧b0.rowN=some r)(hmp:ζ.isMp=true→∃b0,s.heap id=some b0∧b0.isM=true)
 (hfz:∀O':Nat→Prop,(∀b,O' b→OO O0 s φ b)→(∀b,b∈φ id→¬O' b)→Wa w O' ζ xs [σ id])
 (hsh:((s.hp.map fun p=>(p.1,p.2.map (Ka.frz id ζ xs))).all fun p=>(p.2.map Ka.shaped).getD true)=true):
 Db n0 A O0 w0 ⟨s.n,s.tm.map fun p=>(p.1,p.2.frz id ζ xs),(id,none)::s.hp.map fun p=>(p.1,p.2.map (Ka.frz id ζ xs))⟩ σ φ a w:=by
 have hheap:∀j,AS.heap ⟨s.n,s.tm.map fun p=>(p.1,p.2.frz id ζ xs),(id,none)::s.hp.map fun p=>(p.1,p.2.map (Ka.frz id ζ xs))⟩ j=if j=id then none else(s.heap j).map (Ka.frz id ζ xs):=by
  intro j
  simp only[AS.heap,Id]
  by_cases hj:id=j
  ·subst hj;simp
  ·rw[if_neg hj,if_neg (Ne.symm hj),Z0]
   cases Xb s.hp j with
   |none=>rfl
   |some o=>cases o<;>rfl
 generalize hs':(⟨s.n,s.tm.map fun p=>(p.1,p.2.frz id ζ xs),(id,none)::s.hp.map fun p=>(p.1,p.2.map (Ka.frz id ζ xs))⟩:AS)=s' at hheap
 have hback:∀j Ga,s'.heap j=some Ga→j≠id∧∃b0,s.heap j=some b0∧Ga=b0.frz id ζ xs:=by
  intro j Ga hl
  rw[hheap]at hl
  split at hl
  ·simp at hl
  ·rename_i hne
   obtain⟨b0,h1,h2⟩:=yz.1 hl
   exact⟨hne,b0,h1,h2.symm⟩
 have hO:∀b,OO O0 s' φ b→OO O0 s φ b:=by
  rintro b (ho|⟨j,Ga,hl,hm⟩)
  ·exact .inl ho
  ·obtain⟨_,b0,h1,_⟩:=hback j Ga hl
   exact .inr ⟨j,b0,h1,hm⟩
 have hF:∀b,b∈φ id→¬OO O0 s' φ b:=by
  rintro b hm (ho|⟨j,Ga,hl,hm'⟩)
  ·exact hA id _ hb hnb b hm ho
  ·obtain⟨hne,b0,h1,_⟩:=hback j Ga hl
   exact h.disj id j _ b0 (Ne.symm hne) hb h1 b hm hm'
 have hv:=hfz (OO O0 s' φ) hO hF
 have hn':s'.heap id=none:=by rw[hheap,if_pos rfl]
 have hh':∀j,j≠id→s'.heap j=(s.heap j).map (Ka.frz id ζ xs):=fun j hj=>by rw[hheap,if_neg hj]
 refine⟨by subst hs';exact h.sz,h.df,?_,?_,?_,?_,?_,h.o0,h.fr,h.pin,h.iv0,h.ivw,?_⟩
 ·intro t d hd
  subst hs'
  simp only at hd
  rw[Z0,yz]at hd
  obtain⟨d0,hd0,rfl⟩:=hd
  obtain⟨v,hv1,hr⟩:=h.tm t d0 hd0
  exact⟨v,hv1,Td.frz hsl hmp hn' hh' hO hv hr⟩
 ·intro j Ga hl
  obtain⟨hne,b0,h1,rfl⟩:=hback j Ga hl
  have hsb:(b0.frz id ζ xs).shaped=true:=by
   have hm:=AS.heap_mem hl
   subst hs'
   simp only[jp,jh]at hm
   rcases hm with⟨_,hx⟩|hm
   ·simp at hx
   ·have:=yx.1 hsh _ hm
    simpa using this
  have hbr:=h.hp j b0 h1
  cases b0 with
  |box ρ d=>
   obtain⟨_,b,cur,et,g1,g2,g3,g4,g5⟩:=hbr
   exact⟨Uq hsb,b,cur,et,g1,g2,g3,Kb.frz hsl hmp hn' hh' hO hv d _ g4,g5⟩
  |row e' dp' xs'=>
   cases dp' with
   |true=>exact hbr
   |false=>
    obtain⟨hm,g|⟨bl,off,cap,cur,et,g1,g2,g3,g4,g5,g6,g7⟩⟩:=hbr
    ·exact⟨hm,.inl g⟩
    ·exact⟨hm,.inr ⟨bl,off,cap,cur,et,g1,g2,g3,g4,g5,g6,fun i hi=>(g7 i hi).weaken hO⟩⟩
  |hol e' xs' i x p τ d=>
   obtain⟨_,g1,g2,g3,bl,off,cap,cur,et,g4,g5,g6,g7,g8,g9⟩:=hbr
   exact⟨Uq hsb,g1,g2,g3,bl,off,cap,cur,et,g4,g5,g6,g7,Kb.frz hsl hmp hn' hh' hO hv d _ g8,g9⟩
  |mov e' xs' k=>exact hbr
  |mp k m ys=>
   obtain⟨r,es,clk,g1,g2,g3,g4,g5⟩:=hbr
   refine⟨r,es,clk,g1,g2,g3,g4,fun i hi=>?_⟩
   obtain⟨e,ck,cv,q1,q2,q3,q4,q5⟩:=g5 i hi
   exact⟨e,ck,cv,q1,q2,q3,q4.weaken hO,q5.weaken hO⟩
  |mq kk e xs=>exact hbr
  |mx k m ys=>exact hbr
  |fz e' ys=>exact⟨hbr.1,hbr.2.weaken hO⟩
 ·intro j Ga hl
  obtain⟨_,b0,h1,_⟩:=hback j Ga hl
  exact h.nodup j b0 h1
 ·intro j j' Ga blk' hne hl hl'
  obtain⟨_,b0,h1,_⟩:=hback j Ga hl
  obtain⟨_,b1,h2,_⟩:=hback j' blk' hl'
  exact h.disj j j' b0 b1 hne h1 h2
 ·intro j Ga hl
  obtain⟨_,b0,h1,_⟩:=hback j Ga hl
  exact h.fresh j b0 h1
 ·intro j kk e ys hl
  obtain⟨_,b0,h1,h2⟩:=hback j _ hl
  have hb0:b0=.mq kk e ys:=by cases b0<;>first|exact h2.symm|(simp[Ka.frz]at h2)
  subst hb0
  exact(h.shr j kk e ys h1).stable (fun _ _ _=>rfl) (fun b _ hno h=>hno (hO b h)) (fun _ _=>rfl)
theorem Naq{k m:Ty}{xs:List (T k×T m)}{O O':Nat→Prop}{hp:Nat→Option Ka}{id:Nat}{F:List Nat}(h:Gd w O hp σ id (.mp k m xs) F)(hO:∀b,O' b→O b)(hF:∀b,b∈F→¬O' b):Wa w O' (.mp k m) xs [σ id]:=by
 obtain⟨r,es,clk,g1,g2,g3,g4,g5⟩:=h
 subst g3
 refine .inr ⟨r,es,clk,by rw[g1],hF r (by simp),g2,g4,fun i hi=>?_⟩
 obtain⟨e,ck,cv,q1,q2,q3,q4,q5⟩:=g5 i hi
 exact⟨e,ck,cv,q1,q2,q3,q4.weaken hO,q5.weaken hO⟩
theorem Gat(hA:NoA O0 s φ)(h:Db n0 A O0 w0 s σ φ a w){id:Nat}{s':AS}(he:s.freeze id=some s'):Db n0 A O0 w0 s' σ φ a w:=by
 unfold AS.freeze at he
 split at he
 ·rename_i e dp xs hb
  simp only[XB]at he
  obtain⟨hsh,he⟩:=he
  simp only[jc]at he
  subst he
  exact UW hA h hb (fun _ _ e=>by simp at e) (ζ:=.sl e) (xs:=xs) (fun _=>⟨_,_,hb,rfl⟩) (fun h=>by simp[Ty.isMp]at h) (fun O' hO hF=>BV (h.hp id _ hb) hO hF) hsh
 ·rename_i k m xs hb
  simp only[XB]at he
  obtain⟨hsh,he⟩:=he
  simp only[jc]at he
  subst he
  exact UW hA h hb (fun _ _ e=>by simp at e) (ζ:=.mp k m) (xs:=xs) (fun h=>by simp[Ty.isSl]at h) (fun _=>⟨_,hb,rfl⟩) (fun O' hO hF=>Naq (h.hp id _ hb) hO hF) hsh
 ·rename_i k m xs hb
  simp only[XB]at he
  obtain⟨hsh,he⟩:=he
  simp only[jc]at he
  subst he
  exact UW hA h hb (fun _ _ e=>by simp at e) (ζ:=.mp k m) (xs:=xs) (fun h=>by simp[Ty.isSl]at h) (fun _=>⟨_,hb,rfl⟩) (fun O' hO hF=>Ic.view (h.hp id _ hb) hF) hsh
 ·simp only[jc]at he
  subst he
  exact h
theorem Fah(hA:NoA O0 s φ)(h:Db n0 A O0 w0 s σ φ a w)(id:Nat):∃φ',Db n0 A O0 w0 (s.frzParts id) σ φ' a w:=by
 unfold AS.frzParts
 split
 ·rename_i e xs hb
  have hO:Ic w (.sl e) xs [σ id] (φ id):=h.hp id _ hb
  have hnd:=h.nodup id _ hb
  have hNA:=hA id _ hb (fun _ _ e=>by simp at e)
  have hfr:=h.fresh id _ hb
  have hlt:=hO.lt
  let s':AS:=⟨s.n,s.tm,(id,some (.row e false xs))::s.hp⟩
  have hheap:∀j,s'.heap j=if j=id then some (.row e false xs)else s.heap j:=by
   intro j
   simp only[s',AS.heap,Id]
   by_cases hj:id=j
   ·subst hj;simp
   ·rw[if_neg hj,if_neg (Ne.symm hj)]
  obtain⟨G,hG1,hG2,hG3⟩:∃G:List Nat,(∀b,b∈G→b∈φ id)∧G.Nodup∧∀O':Nat→Prop,(∀b,b∈φ id→b∉G→¬O' b)→(ja xs≤Ll∧((σ id=.slice none 0 0∧xs=([]:List (T e))∧G=[])∨
   ∃bl off cap cur et,σ id=.slice (some ⟨bl,off,none⟩) (ja xs) cap∧w.heap[bl]?=some (.cells cur et (0,0))∧
    ja xs≤cap∧cap≤Ll∧off+cap*e.size≤cur.size∧G=[bl]∧
    ∀i (h:i<ja xs),Wa w O' e (List.get xs ⟨i,h⟩) (Ae cur (off+i*e.size) e.size))):=by
   obtain⟨hm,⟨h1,h2,h3⟩|⟨bl,off,cap,cur,et,Fs,h1,hh,h2,h3,h4,hF,hFs,hv⟩⟩:=hO
   ·exact⟨[],by simp,List.nodup_nil,fun O' _=>⟨hm,.inl ⟨by simpa using h1,h2,rfl⟩⟩⟩
   ·rw[hF]at hnd⊢
    rw[ym]at hnd
    refine⟨[bl],by simp,by simp,fun O' hO'=>⟨hm,.inr ⟨bl,off,cap,cur,et,by simpa using h1,hh,h2,h3,h4,rfl,fun i hi=>Ic.view (hv i hi) fun b hb=>?_⟩⟩⟩
    have hmem:b∈List.flatten Fs:=by
     have:Fs.getD i []∈Fs:=by
      rw[qe,je (by omega)]
      exact qi _
     exact List.mem_flatten.2 ⟨_,this,hb⟩
    refine hO' b (jr _ hmem) fun hb'=>?_
    simp only[qb]at hb'
    subst hb'
    exact hnd.1 hmem
  let φ':Nat→List Nat:=fun j=>if j=id then G else φ j
  have hφ:φ' id=G:=if_pos rfl
  have hOO:∀b,b∈φ id→b∉G→¬OO O0 s' φ' b:=by
   rintro b hm hng (ho|⟨j,Ga,hl,hm'⟩)
   ·exact hNA b hm ho
   ·rw[hheap]at hl
    by_cases hj:j=id
    ·subst hj
     rw[hφ]at hm'
     exact hng hm'
    ·rw[if_neg hj]at hl
     simp only[φ',if_neg hj]at hm'
     exact h.disj id j _ Ga (Ne.symm hj) hb hl b hm hm'
  refine⟨φ',?_⟩
  show Db n0 A O0 w0 s' σ φ' a w
  refine h.trans (·=id) rfl rfl (fun j hj=>⟨by rw[hheap,if_neg hj],rfl,if_neg hj⟩) (fun _ _ _=>rfl) (jo _) ?_ ?_ ?_ ?_ rfl rfl rfl (fun _ _=>.inl rfl) (fun j kk e2 ys (hj:j=id) hl=>by rw[hheap,if_pos hj]at hl;simp at hl)
  ·rintro j Ga rfl _ b hm
   rw[hφ]at hm
   exact .inr ⟨j,_,rfl,hb,hG1 b hm⟩
  ·rintro j Ga rfl hl _
   rw[hheap,if_pos rfl]at hl
   simp only[jc]at hl
   subst hl
   exact⟨_,hb,⟨rfl,rfl⟩,rfl⟩
  ·rintro j Ga rfl hl
   rw[hheap,if_pos rfl]at hl
   simp only[jc]at hl
   subst hl
   rw[hφ]
   exact⟨hG3 _ hOO,hG2⟩
  ·rintro j j' _ _ rfl rfl hne
   exact absurd rfl hne
 ·exact⟨φ,h⟩
theorem AK{fz bm cm:Bool}(hfz:fz=true→FzQ bm cm A O0):∀{l:List (Nat×Nat)} {n:Nat} {s s':AS} {φ:Nat→List Nat},Db n0 A O0 w0 s σ φ a w→YR fz bm l n s=some s'→∃φ',Db n0 A O0 w0 s' σ φ' a w
 |[],n,s,s',φ,h,he=>by
  simp only[YR,jc]at he
  subst he
  exact⟨φ,h⟩
 |(r,id)::l,n,s,s',φ,h,he=>by
  simp only[YR]at he
  cases hr:qw r n with
  |false=>rw[hr]at he;exact AK hfz h he
  |true=>
   rw[hr]at he
   simp only[zg]at he
   cases hq:jx 1000000000 id with
   |false=>
    rw[hq]at he
    simp only[zh]at he
    split at he
    ·rename_i s1 h1
     obtain⟨φ1,hc⟩:=Kas h h1
     exact AK hfz hc he
    ·simp at he
   |true=>
    rw[hq]at he
    simp only[zg]at he
    cases hz:(fz&&(!bm||s.boxLive))with
    |false=>rw[hz]at he;simp at he
    |true=>
     rw[hz]at he
     simp only[jd]at hz
     have hN:=noA (hfz hz.1) hz.2 h
     simp only[zg]at he
     cases hq2:jx 2000000000 id with
     |true=>
      rw[hq2]at he
      simp only[zg]at he
      obtain⟨φ1,hc⟩:=Fah hN h (id-2000000000)
      exact AK hfz hc he
     |false=>
      rw[hq2]at he
      simp only[zh]at he
      split at he
      ·rename_i s1 h1
       exact AK hfz (Gat hN h h1) he
      ·simp at he
theorem Pam:∀{n:Nat} {e τ:Ty} {x:T e} {y:D},Za e n=some τ→(D.t e x).field n=some y→∃z:T τ,y=.t τ z
 |0,.p a c,τ,x,y,ht,hy=>by
  simp only[Za,jc]at ht
  subst ht
  simp only[D.field,D.fst,jc]at hy
  exact⟨x.1,hy.symm⟩
 |n+1,.p a c,τ,x,y,ht,hy=>by
  simp only[D.field,D.snd]at hy
  exact Pam (e:=c) ht hy
 |n,.i _,_,_,_,ht,_=>by cases n<;>simp[Za]at ht
 |n,.b,_,_,_,ht,_=>by cases n<;>simp[Za]at ht
 |n,.o,_,_,_,ht,_=>by cases n<;>simp[Za]at ht
 |n,.mp _ _,_,_,_,ht,_=>by cases n<;>simp[Za]at ht
 |n,.s,_,_,_,ht,_=>by cases n<;>simp[Za]at ht
 |n,.sl _,_,_,_,ht,_=>by cases n<;>simp[Za]at ht
 |n,.u,_,_,_,ht,_=>by cases n<;>simp[Za]at ht
theorem GK:∀τ:Ty,Ty.dec τ τ=some ⟨rfl⟩
 |.i _=>by simp[Ty.dec]
 |.b=>rfl
 |.o=>rfl
 |.mp x y=>by simp only[Ty.dec,GK x,GK y]
 |.s=>rfl
 |.u=>rfl
 |.sl e=>by simp only[Ty.dec,GK e]
 |.p x y=>by simp only[Ty.dec,GK x,GK y]
theorem BaM:∀{p:List Nat} {e τ:Ty} {x:T e} {y:D},Rf e p=some τ→(D.t e x).at p=some y→∃z:T τ,y=.t τ z∧Hm y τ=some z
 |[],e,τ,x,y,ht,hy=>by
  simp only[Rf,jc]at ht
  subst ht
  simp only[D.at,jc]at hy
  subst hy
  exact⟨x,rfl,by simp only[Hm,GK e]⟩
 |f::p,e,τ,x,y,ht,hy=>by
  simp only[Rf]at ht
  cases hf:Za e f with
  |none=>simp[hf]at ht
  |some τ'=>
   simp only[hf,jb]at ht
   simp only[D.at]at hy
   cases hd:(D.t e x).field f with
   |none=>simp[hd]at hy
   |some z=>
    simp only[hd]at hy
    obtain⟨u,rfl⟩:=Pam hf hd
    exact BaM ht hy
theorem XaH(hG:EnvTy P G)(h:Db n0 A O0 w0 s σ φ a w){t:TypeId}{x:Operand}(ho:o.op=.load t x)
 (he:Ig G s o k=some out):o.wp P a w (Nf n0 A O0 w0 k out) Q:=by
 simp only[Ig,Hc,ho]at he
 split at he
 ·
  rename_i τ id path hty hx
  split at he
  ·rename_i ρ d hb
   split at he
   ·rename_i τ' e ht hd
    split at he
    ·rename_i q hq
     obtain rfl:=Se hq
     have hv:=h.ev hx
     rw[Wz]at hv
     obtain⟨b,hσ,hv⟩:=hv.2 ρ d hb
     obtain⟨hs,b',cur,et,hσ',hh,hF,hr,hsz⟩:=h.hp id _ hb
     rw[hσ]at hσ'
     simp at hσ'
     subst hσ'
     obtain⟨hse,hre⟩:=Kb.at hs ht hd hr
     have hle:=Pj ht
     have hl:=Rx (hG.ty _ _ hty) hh (by omega:Yb ρ path+τ'.size≤cur.size)
     refine Ec (w':=w) (v:=Me τ' (Ae cur (Yb ρ path) τ'.size)) ?_ (Pc h ?_ he)
     ·simp[execOp,ho,hv,Instr.loadAt,Instr.sureAddr,hl]
     ·exact Uv hse hre
    ·simp at he
   ·simp at he
  ·simp at he
 ·
  rename_i τ τ' y hty hx
  split at he
  ·rename_i q hq
   obtain rfl:=Se hq
   have hv:=h.ev hx
   rw[LT]at hv
   obtain⟨b,off,cur,et,fr,hv,hO,hh,hs,hvw⟩:=hv
   have hl:=Rx (hG.ty _ _ hty) hh hs
   refine Ec (w':=w) (v:=Me τ' (Ae cur off τ'.size)) ?_ (Pc h ?_ he)
   ·simp[execOp,ho,hv,Instr.loadAt,Instr.sureAddr,hl]
   ·exact Uv (τ:=τ') (by simp[Ob]) hvw
  ·simp at he
 ·
  rename_i τ id i path hty hx
  cases hml:PP G o.dst with
  |true=>
   rw[hml]at he
   simp only[zg]at he
   have key:∀(e:Ty) (xs:List (T e)) (kk:Nat) (Ga:Ka),path=[]→s.heap id=some Ga→(Ga=.row e true xs∧kk=0∨Ga=.mov e xs kk)→KA s o.dst τ id i e xs kk (fun d u=>Xi s o.dst d u k)=some out→
    o.wp P a w (Nf n0 A O0 w0 k out) Q:=by
    intro e xs kk Ga hp hb hbk hgo
    subst hp
    unfold KA at hgo
    split at hgo
    ·rename_i q hq
     obtain rfl:=Se hq
     cases hik:qw i kk with
     |false=>rw[hik]at hgo;simp at hgo
     |true=>
      obtain rfl:=ju hik
      rw[yj]at hgo
      simp only[zg]at hgo
      cases hxi:xs[i]? with
      |none=>simp[hxi]at hgo
      |some x0=>
       simp only[hxi,jb]at hgo
       rcases hop:Ff e x0 (100000+64*o.dst.getD 0)with⟨d,u,m⟩
       rw[hop]at hgo
       simp only at hgo
       cases hck:(jx m (100064+64*o.dst.getD 0)&&Te s u)with
       |false=>rw[hck]at hgo;simp at hgo
       |true=>
        rw[hck]at hgo
        simp only[zg]at hgo
        simp only[jd]at hck
        have hm:s.ment id=true:=YS hx (by simp[D.ment])
        have hN:Ga.rowN=some (e,ja xs):=by rcases hbk with⟨rfl,_⟩|rfl<;>rfl
        have hlike:Ga.like (.mov e xs (i+1)):=by rcases hbk with⟨rfl,_⟩|rfl<;>simp[Ka.like]
        have hv:=h.ev hx
        rw[Am]at hv
        obtain⟨hi,b,off,cap,hσ,hv⟩:=hv.2 _ _ _ hb hN
        have hmv:Gd w (OO O0 s φ) s.heap σ id (.mov e xs i) (φ id):=by
         have:=h.hp id _ hb
         rcases hbk with⟨rfl,rfl⟩|rfl
         ·exact Fag this
         ·exact this
        obtain⟨cur,et,σ',φ',hh,hs,hc,hsh,hrep⟩:=h.moveout hb hlike hmv hm hxi hσ hop hck.2
        have hl:=Rx (hG.ty _ _ hty) hh hs
        refine Ec (w':=w) (v:=Me e (Ae cur (off+i*e.size) e.size)) ?_ (Jf rfl hc (Uv hsh (hrep _ _)) hgo)
        simp[execOp,ho,hv,Instr.loadAt,Instr.sureAddr,Yb,hl]
    ·simp at hgo
   split at he
   ·rename_i e xs hb
    exact key e xs 0 _ rfl hb (.inl ⟨rfl,rfl⟩) he
   ·rename_i e xs kk hb
    exact key e xs kk _ rfl hb (.inr rfl) he
   ·simp at he
  |false=>
  rw[hml]at he
  simp only[zh]at he
  split at he
  ·rename_i e dp xs hb
   cases hxi:xs[i]? with
   |none=>simp[hxi]at he
   |some x0=>
    simp only[hxi,jb]at he
    split at he
    ·rename_i τ' y ht hd
     split at he
     ·rename_i q hq
      obtain rfl:=Se hq
      have hv:=h.ev hx
      rw[Am]at hv
      obtain⟨hi,b,off,cap,hσ,hv⟩:=hv.2 _ _ _ hb rfl
      have hle:=Pj ht
      cases hf:((!dp||e.flat)||τ'.flat)with
      |true=>
       simp only[hf,zg]at he
       have hel:∃cur et,w.heap[b]?=some (.cells cur et (0,0))∧off+i*e.size+e.size≤cur.size∧Ob τ' y∧Kb w (OO O0 s φ) s.heap σ y (Ae cur (off+i*e.size+Yb e path) τ'.size):=by
        cases hf1:(!dp||e.flat)with
        |true=>
         obtain⟨cur,et,hh,hs,hvw⟩:=Laz (h.hp id _ hb) (by simpa using hf1) hxi hσ
         have hrep:Kb w (OO O0 s φ) s.heap σ (.t e x0) (Ae cur (off+i*e.size) e.size):=hvw
         obtain⟨hse,hre⟩:=Kb.at (τ:=τ') (by simp[Ob]) ht hd hrep
         rw[OT _ _ _ _ _ hle]at hre
         exact⟨cur,et,hh,hs,hse,hre⟩
        |false=>
         have hfl:τ'.flat=true:=by simpa[hf1]using hf
         have hdp:dp=true:=by
          simp only[yt]at hf1
          simpa using hf1.1
         subst hdp
         have hown:=h.hp id _ hb
         simp only[Gd,hσ]at hown
         obtain⟨y',hy1,hy2⟩:=BaM ht hd
         subst hy1
         obtain⟨cur,et,F1,Fy,hh,_,hsz,_,hoy,_⟩:=Z9 hown hxi ht hd hy2
         refine⟨cur,et,hh,hsz,by simp[Ob],?_⟩
         have hnil:=Tz hfl hoy
         exact hoy.view (by rw[hnil];simp)
       obtain⟨cur,et,hh,hs,hse,hre⟩:=hel
       have hl:=Rx (hG.ty _ _ hty) hh (by omega:off+i*e.size+Yb e path+τ'.size≤cur.size)
       refine Ec (w':=w) (v:=Me τ' (Ae cur (off+i*e.size+Yb e path) τ'.size)) ?_ (Pc h (Uv hse hre) he)
       simp[execOp,ho,hv,Instr.loadAt,Instr.sureAddr,hl]
      |false=>
       simp only[hf,zh]at he
       split at he
       ·rename_i y' hy'
        rcases hop:Ff τ' y' (100000+64*o.dst.getD 0)with⟨d,u,m⟩
        rw[hop]at he
        simp only at he
        cases hck:(jx m (100064+64*o.dst.getD 0)&&Te s u)with
        |false=>rw[hck]at he;simp at he
        |true=>
         rw[hck]at he
         simp only[zg]at he
         simp only[jd]at hck
         have hdp:dp=true:=by
          simp only[yt]at hf
          simpa using hf.1.1
         subst hdp
         have hm:s.ment id=true:=YS hx (by simp[D.ment])
         obtain⟨cur,et,σ',φ',hh,hs,hc,hsh,hrep⟩:=h.focus hb hm hxi ht hd hy' hσ hop hck.2
         have hl:=Rx (hG.ty _ _ hty) hh (by omega:off+i*e.size+Yb e path+τ'.size≤cur.size)
         refine Ec (w':=w) (v:=Me τ' (Ae cur (off+i*e.size+Yb e path) τ'.size)) ?_ (Jf rfl hc (Uv hsh (hrep _ _)) he)
         simp[execOp,ho,hv,Instr.loadAt,Instr.sureAddr,hl]
       ·simp at he
     ·simp at he
    ·simp at he
  ·simp at he
 ·simp at he
theorem MaI{s:AS}{e:Ty}{db:D}{ys:List (T e)}{dq:Bool}{m:List Nat}(hs:GQ s e db=some (ys,dq,m)):∀j,j∈m→∀Ga,s.heap j=some Ga→∀ρ d,Ga≠ .box ρ d:=by
 intro j hj Ga hb
 unfold GQ at hs
 split at hs
 ·simp only[jc,jh]at hs
  rw[←hs.2.2]at hj;simp at hj
 ·split at hs
  ·simp only[jc,jh]at hs
   rw[←hs.2.2]at hj;simp at hj
  ·simp at hs
 ·split at hs
  ·simp only[jc,jh]at hs
   rw[←hs.2.2]at hj;simp at hj
  ·simp at hs
 ·rename_i id
  split at hs
  ·rename_i e' dp ys' hid
   split at hs
   ·simp only[jc,jh]at hs
    rw[←hs.2.2]at hj
    cases hf:e.flat with
    |true=>rw[hf]at hj;simp at hj
    |false=>
     rw[hf]at hj
     simp only[zh,qb]at hj
     subst hj
     rw[hid]at hb
     simp only[jc]at hb
     subst hb
     simp
   ·simp at hs
  ·simp at hs
 ·split at hs
  ·split at hs
   ·simp only[XB]at hs
    obtain⟨_,hs⟩:=hs
    simp only[jc,jh]at hs
    rw[←hs.2.2]at hj;simp at hj
   ·simp at hs
  ·simp at hs
 ·simp at hs
theorem Yi.frozen{w:World}{O O':Nat→Prop}{dq:Bool}{e:Ty}{xs:List (T e)}{v:Value}{F:List Nat}(h:Yi w O dq e xs v F)(hO:∀b,O' b→O b)(hF:∀b,b∈F→¬O' b):Wa w O' (.sl e) xs [v]:=
 BV (σ:=fun _=>v) (hp:=fun _=>none) (id:=0) (Ym.2 h) hO hF
theorem Raq(hG:EnvTy P G)(hfz:WR G A O0)(h:Db n0 A O0 w0 s σ φ a w){args:Array Operand}{ts:Array TypeId}(ho:o.op=.call ⟨.builtin .append,args,ts⟩)(hml:PP G o.dst=true)
 (he:Ig G s o k=some out):o.wp P a w (Nf n0 A O0 w0 k out) Q:=by
 simp only[Ig,Hc,ho]at he
 split at he
 ·rename_i x y t tx hargs hts
  unfold BO at he
  rw[hml]at he
  simp only[zg]at he
  unfold Iy at he
  split at he
  ·rename_i tt e id db hd hty hx hy
   split at he
   ·rename_i e' dp xs ys dq m hid hsrc
    split at he
    ·rename_i q hq
     subst q
     cases hc:(((dp||e'.flat)==dq)&&Lg (id::m))&&(HO (Xb G.ty tx)&&(G.fz&&!OJ G.att))with
     |false=>rw[hc]at he;simp at he
     |true=>
      rw[hc]at he
      simp only[zg]at he
      simp only[jd,beq_iff_eq,yl]at hc
      obtain⟨⟨hdq,hnd⟩,hkx,hfz1,hfz2⟩:=hc
      have hnd:=Mi hnd
      cases hlim:jx (ja xs+ja ys) Sa with
      |false=>rw[hlim]at he;simp at he
      |true=>
       rw[hlim]at he
       simp only[zg]at he
       have hlim:=q6 hlim
       obtain⟨et,hu,hte⟩:=Tok.sl (hG.ty _ _ hty)
       have hk:(∃e',P.underlying tx=some (.slice e'))∨P.underlying tx=some .string:=by
        unfold HO at hkx
        split at hkx
        ·rename_i e' hq
         obtain⟨et',hu',_⟩:=Tok.sl (hG.ty _ _ hq)
         exact .inl ⟨et',hu'⟩
        ·rename_i hq
         exact .inr (Tok.s (hG.ty _ _ hq))
        ·simp at hkx
       have hrow:=CV h hid (h.ev hx)
       rw[hdq]at hrow
       have hval:a.eval x=σ id:=(QK.1 (h.ev hx)).2 _ _ hid rfl
       obtain⟨news,Gs,hS,hEl,hsub,hl2⟩:=T8 (P:=P) h hsrc (h.ev hy) hk
       have hlive:∀j,j∈id::m→∃b,s.heap j=some b:=by
        intro j hj
        rcases jp.1 hj with rfl|hj
        ·exact⟨_,hid⟩
        ·exact hl2 j hj
       have hbn:=Rg h hnd hlive
       have hbn':(φ id++Ha φ m).Nodup:=by simpa[Ha]using hbn
       obtain⟨v',w',F',hr,h1,hsz,hbl,hos,htape,hout,hF',hsubF,hres⟩:=WZ (P:=P) (t:=t) (tx:=tx) (ty:=o.type) hu hte hrow hS hEl
        (List.Sublist.nodup (List.Sublist.append (List.Sublist.refl _) hsub) hbn') hlim
        (fun c hc=>.inr ⟨id,_,hid,hc⟩)
        (by
         intro c hc
         obtain⟨j,hj,hm⟩:=Pb.1 (hsub.subset hc)
         obtain⟨b,hb⟩:=hl2 j hj
         exact(h.hp j b hb).lt c hm)
       have hidm:id∉m:=(ym.1 hnd).1
       have hN:=noA (hfz hfz1) (by rw[hfz2];rfl) h
       have hdead:∀j,j∈m→AS.heap ⟨s.n,s.tm,(id,some (Ka.fz e' xs))::(Ed m++s.hp)⟩ j=none:=fun j hj=>by
        rw[He,if_neg (fun(e:j=id)=>hidm (by rw[←e];exact hj)),if_pos hj]
       have hOL:∀b,OO O0 ⟨s.n,s.tm,(id,some (Ka.fz e' xs))::(Ed m++s.hp)⟩ (Di φ id []) b→OL O0 s (id::m) φ b:=by
        rintro b (hb|⟨j,Ga,hl,hm⟩)
        ·exact .inl hb
        ·by_cases hj:j=id
         ·subst hj
          rw[Qe]at hm
          simp at hm
         ·by_cases hjm:j∈m
          ·rw[hdead j hjm]at hl;simp at hl
          ·rw[He,if_neg hj,if_neg hjm]at hl
           rw[Yl _ _ hj]at hm
           exact .inr ⟨j,Ga,by simp[hj,hjm],hl,hm⟩
       have hfree:∀j,j∈id::m→∀b,b∈φ j→¬OL O0 s (id::m) φ b:=by
        intro j hj b hm hO
        obtain⟨Ga,hbj⟩:=hlive j hj
        have hnb:∀ρ d,Ga≠ .box ρ d:=by
         rcases jp.1 hj with rfl|hj
         ·rw[hid]at hbj
          simp only[jc]at hbj
          subst hbj
          simp
         ·exact MaI hsrc j hj Ga hbj
        rcases hO with ho'|⟨j',blk',hj',hl',hm'⟩
        ·exact hN j Ga hbj hnb b hm ho'
        ·exact h.disj j j' Ga blk' (fun e=>hj' (e▸hj)) hbj hl' b hm hm'
       have hOo:∀b,b<w.heap.size→¬OO O0 s φ b→¬OO O0 ⟨s.n,s.tm,(id,some (Ka.fz e' xs))::(Ed m++s.hp)⟩ (Di φ id []) b:=fun b _ hno hO=>hno (hOL b hO).oo
       obtain⟨hnew,hold⟩:=hres _ hOo
       have hFfree:∀b,b∈F'→¬OO O0 ⟨s.n,s.tm,(id,some (Ka.fz e' xs))::(Ed m++s.hp)⟩ (Di φ id []) b:=by
        intro b hb hO
        rcases hsubF b hb with hb|hb|hb
        ·have:=h.OO_lt (hOL b hO).oo;omega
        ·exact hfree id (by simp) b hb (hOL b hO)
        ·obtain⟨j,hj,hm⟩:=Pb.1 (hsub.subset hb)
         exact hfree j (by simp[hj]) b hm (hOL b hO)
       have hvold:Wa w' (OO O0 ⟨s.n,s.tm,(id,some (Ka.fz e' xs))::(Ed m++s.hp)⟩ (Di φ id [])) (.sl e') xs [σ id]:=by
        rw[←hval]
        exact hold.frozen (fun _ hb=>hb) fun b hb hO=>hfree id (by simp) b hb (hOL b hO)
       have hvnew:=hnew.frozen (fun _ hb=>hb) hFfree
       have hc:Db n0 A O0 w0 ⟨s.n,s.tm,(id,some (Ka.fz e' xs))::(Ed m++s.hp)⟩ σ (Di φ id []) a w':=by
        refine h.trans (fun j=>j=id∨j∈m) rfl rfl ?_ ?_ hsz ?_ ?_ ?_ ?_ hos htape hout (fun _ _=>.inl rfl) ?_
        ·intro j hj
         simp only[not_or]at hj
         exact⟨by rw[He,if_neg hj.1,if_neg hj.2],rfl,Yl _ _ hj.1⟩
        ·intro b hlt hno
         exact hbl b hlt fun hm=>hno id _ (.inl rfl) hid hm
        ·intro j blk' ht hl b hbm
         by_cases hj:j=id
         ·subst hj
          rw[Qe]at hbm
          simp at hbm
         ·rw[hdead j (ht.resolve_left hj)]at hl;simp at hl
        ·intro j blk' ht hl _
         by_cases hj:j=id
         ·subst hj
          rw[He,if_pos rfl]at hl
          simp only[jc]at hl
          subst hl
          exact⟨_,hid,⟨rfl,rfl⟩,rfl⟩
         ·rw[hdead j (ht.resolve_left hj)]at hl;simp at hl
        ·intro j blk' ht hl
         by_cases hj:j=id
         ·subst hj
          rw[He,if_pos rfl]at hl
          simp only[jc]at hl
          subst hl
          rw[Qe]
          exact⟨⟨rfl,hvold⟩,List.nodup_nil⟩
         ·rw[hdead j (ht.resolve_left hj)]at hl;simp at hl
        ·intro j j' b1 b2 ht ht' hne hl hl'
         by_cases hj:j=id
         ·by_cases hj':j'=id
          ·exact absurd (hj.trans hj'.symm) hne
          ·rw[hdead j' (ht'.resolve_left hj')]at hl';simp at hl'
         ·rw[hdead j (ht.resolve_left hj)]at hl;simp at hl
        ·intro j kk e2 xs2 ht hl
         by_cases hj:j=id
         ·subst hj
          rw[He,if_pos rfl]at hl
          simp at hl
         ·rw[hdead j (ht.resolve_left hj)]at hl;simp at hl
       refine Ec (w':=w') (v:=v') ?_ (Jf rfl hc ?_ he)
       ·have hts':ts= #[t,tx]:=by
         apply Array.ext'
         rw[hts]
        rw[Mr ho hargs,hts']
        simp[builtin,hr]
       ·simp only[Td,Kf,D.isAgg,jq,if_false,Kb]
        exact hvnew
    ·simp at he
   ·simp at he
  ·simp at he
 ·simp at he
end
section
variable{P:Program} {Out:Type} {n0:Nat} {A:Fx} {O0:Nat→Prop} {w0 w w':World} {s:AS} {σ σ':Nat→Value} {φ φ':Nat→List Nat} {a:Act}
variable{o:Oper} {Q:Exit→Act→World→Prop} {k:AS→Option Out} {out:Out} {d:D} {v:Value} {upd:List (Nat×Option Ka)} {dst:Option Tmp} {G:Sf}
theorem Ias(hG:Kn P A.I G)(hfz:WR G A O0)(h:Db n0 A O0 w0 s σ φ a w)(he:Ig G s o k=some out):o.wp P a w (Nf n0 A O0 w0 k out) Q:=by
 have hT:=hG.toEnvTy
 cases ho:o.op with
 |move x=>exact Aam h (.inl ho) (by simp only[Ig,Hc,ho]at he;cases hx:s.ev x with|none=>simp[hx]at he|some d=>simpa[hx]using he)
 |assign x=>exact Aam h (.inr ho) (by simp only[Ig,Hc,ho]at he;cases hx:s.ev x with|none=>simp[hx]at he|some d=>simpa[hx]using he)
 |pick c x y=>exact YaH h ho he
 |alloc t=>exact Ray hT h ho he
 |box t x=>exact PaL hT h ho he
 |build t ps=>exact Tay hT h ho he
 |buildSlice t n ps=>exact Bab hT h ho he
 |load t x=>exact XaH hT h ho he
 |store t x y=>exact Xay hT h ho he
 |nilCheck x=>exact Iah h ho he
 |binOp op t x y t'=>exact Bav hT h ho he
 |unOp op t x=>exact ZaH h ho he
 |convert src t x=>exact Saq hT h ho he
 |slice t x lo hi max=>
  cases max with
  |none=>exact Way hT h ho he
  |some m=>simp[Ig,Hc,ho]at he
 |fieldAddr t x f=>exact Oaf hT h ho he
 |field t x f=>exact Uay hT h ho he
 |indexAddr t x i=>exact Paf hT h ho he
 |index t x i=>exact Vay h hT ho he
 |makeSlice t l c=>exact Qaf hT h ho he
 |extract x n=>exact Taq h ho he
 |call c=>
  obtain⟨callee,args,ts⟩:=c
  cases callee with
  |value f=>
   cases f with
   |func f=>exact VaH hG hfz h ho he
   |_=>simp[Ig,Hc,ho]at he
  |invoke r m=>simp[Ig,Hc,ho]at he
  |builtin b=>
   cases b with
   |len=>exact QaL hT h ho he
   |append=>
    cases hml:PP G o.dst with
    |false=>exact Aav hT h ho hml he
    |true=>exact Raq hT hfz h ho hml he
   |copy=>exact WaH hT h ho he
   |max=>exact RaL h ho he
   |min=>exact SaL h ho he
   |_=>simp[Ig,Hc,ho]at he
 |_=>simp[Ig,Hc,ho]at he
end
def HF{α:Type}:List (Int×α)→Int→Option Nat
 |[],_=>none
 |(k,_)::r,n=>bif n==k then some 0 else(HF r n).map (·+1)
theorem V7{α:Type}:∀(xs:List (Int×α)) (n:Int),Vd xs n=(HF xs n).bind fun i=>(xs[i]?).map (·.2)
 |[],n=>rfl
 |(k,x)::r,n=>by
  simp only[Vd,HF]
  cases hn:n==k with
  |true=>simp
  |false=>
   simp only[zh]
   rw[V7 r n]
   cases HF r n<;>simp
theorem L5{α:Type}:∀{xs:List (Int×α)} {n:Int} {i:Nat},HF xs n=some i→∃h:i<xs.length,xs[i].1=n
 |[],n,i,h=>by simp[HF]at h
 |(k,x)::r,n,i,h=>by
  simp only[HF]at h
  cases hn:n==k with
  |true=>rw[hn]at h;simp at h hn;subst h;exact⟨by simp,hn.symm⟩
  |false=>
   rw[hn]at h
   simp only[zh,yz]at h
   obtain⟨j,hj,rfl⟩:=h
   obtain⟨h1,h2⟩:=L5 hj
   exact⟨by simp;omega,by simpa using h2⟩
theorem J2{α:Type}:∀{xs:List (Int×α)} {n:Int} {i:Nat} (y:α),HF xs n=some i→PU xs n y=xs.set i (n,y)
 |[],n,i,y,h=>by simp[HF]at h
 |(k,x)::r,n,i,y,h=>by
  simp only[HF]at h
  simp only[PU]
  cases hn:n==k with
  |true=>rw[hn]at h;simp at h hn;subst h;simp[hn]
  |false=>
   rw[hn]at h
   simp only[zh,yz]at h
   obtain⟨j,hj,rfl⟩:=h
   simp[J2 y hj]
theorem I2{α:Type}:∀{xs:List (Int×α)} {n:Int} (y:α),HF xs n=none→PU xs n y=xs++[(n,y)]
 |[],n,y,h=>rfl
 |(k,x)::r,n,y,h=>by
  simp only[HF]at h
  simp only[PU]
  cases hn:n==k with
  |true=>rw[hn]at h;simp at h
  |false=>
   rw[hn]at h
   simp only[zh,Option.map_eq_none_iff]at h
   simp[I2 y h]
def ZM(w:World)(O:Nat→Prop)(k v:Ty)(xs:List (T k×T v))(es:Array MapEntry):Prop:=es.size=ja xs∧
 ∀i (h:i<ja xs),∃e ck cv,es[i]?=some e∧e.key=Wm k ck∧e.val=Wm v cv∧Wa w O k (List.get xs ⟨i,h⟩).1 ck∧Wa w O v (List.get xs ⟨i,h⟩).2 cv
theorem MU(τ:Ty)(cs:List Value):Wm τ cs=Me τ cs:=by cases τ<;>rfl
theorem A0{kk:IntKind}{w:World}{O:Nat→Prop}{v:Ty}(n:Int):∀(xs:List (Int×T v)) (es:List MapEntry) (j:Nat),es.length=xs.length→
 (∀i (h:i<xs.length),∃e,es[i]?=some e∧e.key=.int kk xs[i].1)→
 Instr.findNow (.int kk) (.int kk n) es j=some ((HF xs n).bind fun i=>(es[i]?).map fun e=>(j+i,e.val))
 |[],[],j,_,_=>rfl
 |[],_::_,j,h,_=>by simp at h
 |_::_,[],j,h,_=>by simp at h
 |(k,x)::xs,e::es,j,h,hk=>by
  obtain⟨e0,h0,h1⟩:=hk 0 (by simp)
  simp only[List.getElem?_cons_zero,jc]at h0
  subst h0
  simp only[List.getElem_cons_zero]at h1
  have ih:=A0 (w:=w) (O:=O) n xs es (j+1) (by simpa using h) (fun i hi=>by
   obtain⟨e',h2,h3⟩:=hk (i+1) (by simp;omega)
   exact⟨e',by simpa using h2,by simpa using h3⟩)
  simp only[Instr.findNow,h1,Instr.sameNow,if_true,HF]
  cases hn:n==k with
  |true=>simp
  |false=>
   simp only[zh]
   rw[ih]
   cases HF xs n with
   |none=>rfl
   |some i=>simp[jt,Nat.add_comm 1 i]
section
variable{P:Program} {Out:Type} {n0:Nat} {A:Fx} {O0:Nat→Prop} {w0 w w':World} {s:AS} {σ σ':Nat→Value} {φ φ':Nat→List Nat} {a:Act}
variable{o:Oper} {Q:Exit→Act→World→Prop} {k:AS→Option Out} {out:Out} {d:D} {v:Value} {upd:List (Nat×Option Ka)} {dst:Option Tmp} {G:Sf}
theorem Mu{kk:IntKind}{kt:TypeId}{O:Nat→Prop}{τ:Ty}{xs:List (Int×T τ)}{es:Array MapEntry}(hk:P.underlying kt=some (.int kk))(he:ZM w O (.i kk) τ xs es)(n:Int)(w1:World):
 (Instr.findKey kt (.int kk n) es.toList).run P w1=.ok ((HF xs n).bind fun i=>(es[i]?).map fun e=>(i,e.val)) w1:=by
 have:=A0 (w:=w) (O:=O) (v:=τ) (kk:=kk) n xs es.toList 0 (by simpa using he.1) (fun i hi=>by
  obtain⟨e,ck,cv,h1,h2,h3,h4,h5⟩:=he.2 i hi
  refine⟨e,by simpa using h1,?_⟩
  have h4':ck=[.int kk (List.get xs ⟨i,hi⟩).1]:=h4
  rw[h2,h4'];rfl)
 simp only[js,Array.getElem?_toList]at this
 simp[Instr.findKey,run_underlying hk,this]
theorem Zm{kk:IntKind}{kt:TypeId}(hk:P.underlying kt=some (.int kk))(b:Bool)(n:Int)(w1:World):(Instr.checkKey b 10000 kt (.int kk n)).run P w1=.ok () w1:=by
 have h:∀m:Nat,(Instr.checkKey b (m+1) kt (.int kk n)).run P w1=.ok () w1:=fun m=>by simp[Instr.checkKey,run_underlying hk]
 exact h 9999
theorem Rad{O:Nat→Prop}{kk:IntKind}{τ:Ty}{xs:List (Int×T τ)}{es:Array MapEntry}(he:ZM w O (.i kk) τ xs es)(n:Int):
 (Vd xs n=none∧HF xs n=none)∨∃i e y cv,HF xs n=some i∧es[i]?=some e∧Vd xs n=some y∧e.val=Wm τ cv∧Wa w O τ y cv:=by
 rw[V7]
 cases hm:HF xs n with
 |none=>exact .inl ⟨rfl,rfl⟩
 |some i=>
  obtain⟨hi,_⟩:=L5 hm
  obtain⟨e,ck,cv,h1,h2,h3,h4,h5⟩:=he.2 i hi
  exact .inr ⟨i,e,_,cv,rfl,h1,by simp[je hi],h3,h5⟩
theorem SK{kk:IntKind}{t kt et:TypeId}{O:Nat→Prop}{τ:Ty}{xs:List (Int×T τ)}{es:Array MapEntry}{clk r:Nat}(ht:P.underlying t=some (.map kt et))(hk:P.underlying kt=some (.int kk))(hte:Ie P τ et=true)
 (hh:w.heap[r]?=some (.map es clk)) (he:ZM w O (.i kk) τ xs es) (n:Int) (ok:Bool):
 ∃cv,Wa w O τ ((Vd xs n).getD (zT τ)) cv∧(Instr.lookup t (.map (some r)) (.int kk n) ok).run P w=.ok (if ok then .tuple #[Wm τ cv,.bool (Vd xs n).isSome]else Wm τ cv) w:=by
 have hg:(getObj r).run P w=.ok (.map es clk) w:=by simp[getObj,Sem.run,hh]
 have hf:=Mu (P:=P) hk he n w
 have hc:=Zm (P:=P) hk es.isEmpty n w
 rcases Rad he n with⟨h1,h2⟩|⟨i,e,y,cv,h1,h2,h3,h4,h5⟩
 ·refine⟨τ.zc,?_,?_⟩
  ·rw[h1]
   exact(B9 w τ).view (by simp)
  ·rw[h2]at hf
   rw[h1,MU]
   simp[Instr.lookup,run_underlying ht,hg,hc,hf,Tok.zero hte]
 ·refine⟨cv,by rw[h3];exact h5,?_⟩
  rw[h1]at hf
  simp only[jb,h2,qa]at hf
  rw[h3]
  simp[Instr.lookup,run_underlying ht,hg,hc,hf,h4]
theorem NT{kk:IntKind}{t kt et:TypeId}{τ:Ty}(ht:P.underlying t=some (.map kt et))(hk:P.underlying kt=some (.int kk))(hte:Ie P τ et=true)(n:Int)(ok:Bool):
 (Instr.lookup t (.map none) (.int kk n) ok).run P w=.ok (if ok then .tuple #[Wm τ τ.zc,.bool false]else Wm τ τ.zc) w:=by
 have hc:=Zm (P:=P) hk true n w
 have hf:(Instr.findKey kt (.int kk n) []).run P w=.ok none w:=by simp[Instr.findKey,run_underlying hk,Instr.findNow]
 rw[MU]
 simp[Instr.lookup,run_underlying ht,hc,hf,Tok.zero hte]
theorem XZ{O O':Nat→Prop}{kk v:Ty}{xs:List (T kk×T v)}{es:Array MapEntry}(hv:∀b,¬O b→b<w.heap.size→w'.heap[b]?=w.heap[b]?)(hO:∀b,b<w.heap.size→¬O b→¬O' b)(h:ZM w O kk v xs es):ZM w' O' kk v xs es:=by
 refine⟨h.1,fun i hi=>?_⟩
 obtain⟨e,ck,cv,h1,h2,h3,h4,h5⟩:=h.2 i hi
 exact⟨e,ck,cv,h1,h2,h3,h4.stable hv hO,h5.stable hv hO⟩
theorem Qax{O:Nat→Prop}{kk:IntKind}{τ:Ty}{xs:List (Int×T τ)}{es:Array MapEntry}(he:ZM w O (.i kk) τ xs es)(n:Int){y:T τ}{cv:List Value}(hy:Wa w O τ y cv)(clk:Nat):
 ∃es' clk',ZM w O (.i kk) τ (PU xs n y) es'∧∀(t kt et:TypeId) (r:Nat) (w1:World),P.underlying t=some (.map kt et)→P.underlying kt=some (.int kk)→w1.heap[r]?=some (.map es clk)→
  (Instr.mapUpdate t (.map (some r)) (.int kk n) (Wm τ cv)).run P w1=.ok () {w1 with heap:=w1.heap.setIfInBounds r (.map es' clk')}:=by
 cases hm:HF xs n with
 |none=>
  refine⟨es.push {key:=.int kk n,val:=Wm τ cv,born:=clk},clk+1,⟨?_,?_⟩,?_⟩
  ·rw[I2 y hm,Array.size_push,he.1];simp
  ·rw[I2 y hm]
   intro i hi
   by_cases h:i<xs.length
   ·obtain⟨e,ck,cv',h1,h2,h3,h4,h5⟩:=he.2 i h
    have hlt:i<es.size:=by rw[he.1];exact h
    refine⟨e,ck,cv',?_,h2,h3,?_,?_⟩
    ·rw[Array.getElem?_push_lt hlt]
     rw[Array.getElem?_eq_getElem hlt]at h1
     exact h1
    ·have:List.get (xs++[(n,y)]) ⟨i,hi⟩=List.get xs ⟨i,h⟩:=List.getElem_append_left h
     rw[this];exact h4
    ·have:List.get (xs++[(n,y)]) ⟨i,hi⟩=List.get xs ⟨i,h⟩:=List.getElem_append_left h
     rw[this];exact h5
   ·have hi2:i=xs.length:=by
     have:(xs++[(n,y)]).length=xs.length+1:=by simp
     have hi':i<(xs++[(n,y)]).length:=hi
     omega
    subst hi2
    have:List.get (xs++[(n,y)]) ⟨xs.length,hi⟩=(n,y):=by simp
    refine⟨{key:=.int kk n,val:=Wm τ cv,born:=clk},[.int kk n],cv,?_,rfl,rfl,?_,?_⟩
    ·rw[show xs.length=es.size from he.1.symm]
     exact Array.getElem?_push_size
    ·rw[this];rfl
    ·rw[this];exact hy
  ·intro t kt et r w1 ht hk hh
   have hg:(getObj r).run P w1=.ok (.map es clk) w1:=by simp[getObj,Sem.run,hh]
   have hf:=Mu (P:=P) hk he n w1
   have hc:=Zm (P:=P) hk false n w1
   rw[hm]at hf
   have hs:=MapKept.run_setObj_map (P:=P) (.map (es.push {key:=.int kk n,val:=Wm τ cv,born:=clk}) (clk+1)) hh
   simp[Instr.mapUpdate,run_underlying ht,hg,hc,hf,hs]
 |some i=>
  obtain⟨hi,hik⟩:=L5 hm
  obtain⟨e0,ck0,cv0,g1,g2,g3,g4,g5⟩:=he.2 i hi
  have g4':ck0=[.int kk n]:=by
   have:ck0=[.int kk (List.get xs ⟨i,hi⟩).1]:=g4
   rw[this,show(List.get xs ⟨i,hi⟩).1=n from hik]
  have hlt:i<es.size:=by rw[he.1];exact hi
  refine⟨es.modify i fun e=>{e with key:=.int kk n,val:=Wm τ cv},clk,⟨?_,?_⟩,?_⟩
  ·rw[J2 y hm,Array.size_modify,he.1];simp
  ·rw[J2 y hm]
   intro j hj
   have hj':j<xs.length:=by
    have:j<(xs.set i (n,y)).length:=hj
    simpa using this
   have hjs:j<es.size:=by rw[he.1];exact hj'
   by_cases hji:i=j
   ·subst hji
    have:List.get (xs.set i (n,y)) ⟨i,hj⟩=(n,y):=by simp
    refine⟨{es[i]with key:=.int kk n,val:=Wm τ cv},[.int kk n],cv,?_,rfl,rfl,?_,?_⟩
    ·rw[Array.getElem?_modify];simp[Array.getElem?_eq_getElem hjs]
    ·rw[this];rfl
    ·rw[this];exact hy
   ·obtain⟨e,ck,cv',h1,h2,h3,h4,h5⟩:=he.2 j hj'
    have:List.get (xs.set i (n,y)) ⟨j,hj⟩=List.get xs ⟨j,hj'⟩:=by simp[hji]
    refine⟨e,ck,cv',?_,h2,h3,?_,?_⟩
    ·rw[Array.getElem?_modify,if_neg hji];exact h1
    ·rw[this];exact h4
    ·rw[this];exact h5
  ·intro t kt et r w1 ht hk hh
   have hg:(getObj r).run P w1=.ok (.map es clk) w1:=by simp[getObj,Sem.run,hh]
   have hf:=Mu (P:=P) hk he n w1
   have hc:=Zm (P:=P) hk false n w1
   rw[hm]at hf
   simp only[jb,g1,qa]at hf
   have hs:=MapKept.run_setObj_map (P:=P) (.map (es.modify i fun e=>{e with key:=.int kk n,val:=Wm τ cv}) clk) hh
   have hkey:e0.key=.int kk n:=by rw[g2,g4'];rfl
   have hst:(Instr.keyThatStays (.int kk n) (.int kk n)).run P w1=.ok (.int kk n) w1:=by simp[Instr.keyThatStays,Instr.sameBits]
   simp[Instr.mapUpdate,run_underlying ht,hg,hc,hf,g1,hkey,hst,hs]
theorem YD{O:Nat→Prop}{hp:Nat→Option Ka}{id:Nat}{v:Value}:Td w O hp σ (.mpo id) v↔v.oneCell'=true∧∀Ga,hp id=some Ga→Ga.isM=true→v=σ id:=by
 simp only[Td,Kf,D.isAgg,Kb,jq,if_false]
 constructor
 ·rintro⟨u,h,h1,h2⟩
  simp only[yi,and_true]at h
  subst h
  exact⟨h1,h2⟩
 ·rintro⟨h1,h2⟩
  exact⟨v,rfl,h1,h2⟩
theorem Uaq(h:Db n0 A O0 w0 s σ φ a w){t:TypeId}{r:Option Operand}(ho:o.op=.makeMap t r)
 (he:WT G s o (fun d u=>Xi s o.dst d u k)=some out):o.wp P a w (Nf n0 A O0 w0 k out) Q:=by
 simp only[WT,ho]at he
 cases r with
 |some r=>simp at he
 |none=>
 simp only at he
 split at he
 ·rename_i tt kk v hd hty
  cases hmv:VF G.mv tt with
  |true=>
   simp only[hmv,zg]at he
   split at he
   ·rename_i k2 e2
    cases hn:s.newOk tt with
    |false=>simp[hn]at he
    |true=>
     simp only[hn,zg]at he
     have hc:=h.new1 (id:=tt) (w':=w.alloc (.map #[] 0)) hn (.mq k2 e2 ([]:List (Int×List (T e2)))) (.map (some w.heap.size)) [w.heap.size] (by simp) (fun b hb=>Vh w _ b hb) rfl rfl rfl (by simp) (by simp)
      (by
       intro hp' σ' O' hσ _ _
       exact⟨w.heap.size, #[],0,hσ,heap_alloc_new w _,rfl,rfl⟩)
      (by
       intro kk e xs hx
       simp only[Ka.mq.injEq]at hx
       obtain⟨rfl,rfl,hx⟩:=hx
       have hx':=eq_of_heq hx
       subst hx'
       exact⟨w.heap.size, #[],0,[],rfl,heap_alloc_new w _,rfl,rfl,List.nodup_nil,fun b hb=>by simp at hb,fun i hi=>by simp at hi⟩)
     refine Ec (w':=w.alloc (.map #[] 0)) (v:=.map (some w.heap.size)) ?_ (Jf rfl hc (YD.2 ⟨rfl,fun _ _ _=>(Qe _ _ _).symm⟩) he)
     simp[execOp,ho,Instr.makeMap]
   ·simp at he
  |false=>
  simp only[hmv,zh]at he
  cases hn:s.newOk tt with
  |false=>simp[hn]at he
  |true=>
   simp only[hn,zg]at he
   have hc:=h.new1 (id:=tt) (w':=w.alloc (.map #[] 0)) hn (.mp kk v ([]:List (T kk×T v))) (.map (some w.heap.size)) [w.heap.size] (by simp) (fun b hb=>Vh w _ b hb) rfl rfl rfl (by simp) (by simp)
    (by
     intro hp' σ' O' hσ _ _
     exact⟨w.heap.size, #[],0,hσ,heap_alloc_new w _,rfl,rfl,fun i hi=>by simp at hi⟩)
   refine Ec (w':=w.alloc (.map #[] 0)) (v:=.map (some w.heap.size)) ?_ (Jf rfl hc (YD.2 ⟨rfl,fun _ _ _=>(Qe _ _ _).symm⟩) he)
   simp[execOp,ho,Instr.makeMap]
 ·simp at he
theorem PaI{O:Nat→Prop}{hp:Nat→Option Ka}{d:D}{τ:Ty}{x:T τ}{v:Value}(ht:Hm d τ=some x)(h:Td w O hp σ d v):Wa w O τ x v.cells.toList∧v=Wm τ v.cells.toList:=by
 obtain⟨hs,hv⟩:=Qi (w:=w) (O:=O) (hp:=hp) (σ:=σ) ht
 obtain⟨h1,h2⟩:=Qf hs h
 exact⟨hv _ h1,by rw[MU];exact h2⟩
theorem Y9(hG:EnvTy P G)(h:Db n0 A O0 w0 s σ φ a w){t:TypeId}{m x v:Operand}(ho:o.op=.mapUpdate t m x v∨o.op=.insert t m x v)
 (he:O6 G s t m x v (fun d u=>Xi s o.dst d u k)=some out):o.wp P a w (Nf n0 A O0 w0 k out) Q:=by
 unfold O6 at he
 split at he
 ·rename_i kk τ id k2 n d hty hm hx hv
  split at he
  ·rename_i k3 τ3 xs y hid hy
   split at he
   ·rename_i hdec hq
    obtain rfl:=hdec
    cases hkk:(kk==k2)&&(kk==k3)with
    |false=>simp[hkk]at he
    |true=>
     simp only[hkk,zg]at he
     simp only[jd,beq_iff_eq]at hkk
     obtain⟨rfl,rfl⟩:=hkk
     obtain⟨kt,et,hu,hk,hte⟩:=Tok.mp (hG.ty _ _ hty)
     obtain⟨r,es,clk,hσ,hh,hF,hz,hen⟩:=h.hp id _ hid
     have hE:ZM w (OO O0 s φ) (.i kk) τ xs es:=⟨hz,hen⟩
     obtain⟨hyv,hvv⟩:=PaI hy (h.ev hv)
     obtain⟨es',clk',hE',hrun⟩:=Qax (P:=P) hE n hyv clk
     have hmv:=(YD.1 (h.ev hm)).2 _ hid rfl
     rw[hσ]at hmv
     have hxv:=Bf.1 (h.ev hx)
     have hrlt:r<w.heap.size:=(Array.getElem?_eq_some_iff.1 hh).1
     have hOr:OO O0 s φ r:=.inr ⟨id,_,hid,by rw[hF];simp⟩
     have hne:∀b,b≠r→(w.heap.setIfInBounds r (.map es' clk'))[b]?=w.heap[b]?:=fun b hb=>by
      rw[Array.getElem?_setIfInBounds,if_neg (fun e=>hb e.symm)]
     have hc:=h.turn (w':={w with heap:=w.heap.setIfInBounds r (.map es' clk')}) hid (Ga:=.mp (.i kk) τ (PU xs n y)) ⟨rfl,rfl⟩ [] (by simp) (by simp) (φ id) (by simp)
      (fun b _ hb _=>hne b (fun e=>hb (by rw[hF,e];simp))) rfl rfl rfl (h.nodup id _ hid) (fun b hb=>.inr (.inl hb))
      (by
       intro hp' O' hO _
       refine⟨r,es',clk',hσ,?_,hF,?_⟩
       ·show(w.heap.setIfInBounds r (.map es' clk'))[r]?=_
        rw[Array.getElem?_setIfInBounds];simp[hrlt]
       ·exact XZ (fun b hb hlt=>hne b (fun e=>hb (e▸hOr))) hO hE')
     refine AL (w':={w with heap:=w.heap.setIfInBounds r (.map es' clk')}) ?_ (Jf (upd:=[(id,some (.mp (.i kk) τ (PU xs n y)))]) rfl hc (BE.2 rfl) he)
     have:=hrun t kt et r w hu (Tok.i hk) hh
     rw[←hvv]at this
     rcases ho with ho|ho<;>simp[execOp,ho,hmv,hxv,this]
   ·simp at he
  ·simp at he
 ·simp at he
theorem Saf{O:Nat→Prop}{kk:IntKind}{e:Ty}{xs:List (Int×List (T e))}{es:Array MapEntry}{Gs:List (List Nat)}(hz:es.size=ja xs)(hO:∀b,b∈List.flatten Gs→¬O b)
 (hen:∀i (h:i<ja xs),∃en,es[i]?=some en∧en.key=.int kk (List.get xs ⟨i,h⟩).1∧Ic w (.sl e) (List.get xs ⟨i,h⟩).2 [en.val] (Gs.getD i [])):ZM w O (.i kk) (.sl e) xs es:=by
 refine⟨hz,fun i hi=>?_⟩
 obtain⟨en,h1,h2,h3⟩:=hen i hi
 exact⟨en,[.int kk (List.get xs ⟨i,hi⟩).1],[en.val],h1,h2,rfl,rfl,h3.view fun b hb=>hO b (Xf hb)⟩
theorem Lah{O:Nat→Prop}{kk:IntKind}{τ:Ty}{xs:List (Int×T τ)}{es:Array MapEntry}(he:ZM w O (.i kk) τ xs es){n:Int}(hm:Vd xs n=none)(v:Value)(clk:Nat){t kt et:TypeId}{r:Nat}{w1:World}
 (ht:P.underlying t=some (.map kt et)) (hk:P.underlying kt=some (.int kk)) (hh:w1.heap[r]?=some (.map es clk)):
 (Instr.mapUpdate t (.map (some r)) (.int kk n) v).run P w1=.ok () {w1 with heap:=w1.heap.setIfInBounds r (.map (es.push {key:=.int kk n,val:=v,born:=clk}) (clk+1))}:=by
 have hm':HF xs n=none:=by
  rcases Rad he n with⟨_,h2⟩|⟨_,_,_,_,_,_,h3,_⟩
  ·exact h2
  ·rw[hm]at h3;simp at h3
 have hg:(getObj r).run P w1=.ok (.map es clk) w1:=by simp[getObj,Sem.run,hh]
 have hf:=Mu (P:=P) hk he n w1
 have hc:=Zm (P:=P) hk false n w1
 rw[hm']at hf
 have hs:=MapKept.run_setObj_map (P:=P) (.map (es.push {key:=.int kk n,val:=v,born:=clk}) (clk+1)) hh
 simp[Instr.mapUpdate,run_underlying ht,hg,hc,hf,hs]
theorem P5(hG:EnvTy P G)(hfz:WR G A O0)(h:Db n0 A O0 w0 s σ φ a w){t:TypeId}{m x v:Operand}(ho:o.op=.mapUpdate t m x v∨o.op=.insert t m x v)
 (he:Y0 G s t m x v (fun d u=>Xi s o.dst d u k)=some out):o.wp P a w (Nf n0 A O0 w0 k out) Q:=by
 unfold Y0 at he
 split at he
 ·rename_i kk e id k2 n d hty hm hx hv
  split at he
  ·rename_i k3 e3 xs y l hid hy
   split at he
   ·rename_i hdec hq
    obtain rfl:=hdec
    cases hkk:(kk==k2)&&((kk==k3)&&(Lg (id::l)&&(G.fz&&(!OJ G.att&&!cmB G.att))))with
    |false=>simp[hkk]at he
    |true=>
     simp only[hkk,zg]at he
     simp only[jd,beq_iff_eq]at hkk
     obtain⟨rfl,rfl,hnd,hfz1,hfz2,hfz3⟩:=hkk
     have hnl:=Mi hnd
     have hnoA:∀b,¬A.A b:=by
      rcases hfz hfz1 with h1|⟨h1,_⟩|⟨h1,_⟩
      ·exact h1
      ·rw[h1]at hfz3;simp at hfz3
      ·rw[h1]at hfz2;simp at hfz2
     cases hnone:(Vd xs n).isNone with
     |false=>rw[hnone]at he;simp at he
     |true=>
      rw[hnone]at he
      simp only[zg]at he
      have hmg:Vd xs n=none:=by simpa using hnone
      obtain⟨kt,et,hu,hk,hte⟩:=Tok.mp (hG.ty _ _ hty)
      obtain⟨r,es,clk,Gs,hσ,hh,hz,hGl,hGn,hGo,hen⟩:=h.shr id _ _ _ hid
      obtain⟨r',es',clk',hσ',_,hF,_⟩:=h.hp id _ hid
      have hrr:r'=r:=by rw[hσ]at hσ';simpa using hσ'.symm
      subst hrr
      have hE:ZM w (OO O0 s φ) (.i kk) (.sl e) xs es:=Saf hz (fun b hb=>(hGo b hb).2) hen
      obtain⟨hrc,hvv⟩:=Qf (Sl hy) (h.ev hv)
      obtain⟨hown,hlive⟩:=Er h hy hrc
      have hlen:=Ic.length hown
      simp only[Ty.size]at hlen
      obtain⟨v1,hv1⟩:=q9.1 hlen
      have hval:a.eval v=v1:=by rw[hvv,hv1];rfl
      rw[hv1]at hown
      have hmv:=(YD.1 (h.ev hm)).2 _ hid rfl
      rw[hσ]at hmv
      have hxv:=Bf.1 (h.ev hx)
      have hrlt:r'<w.heap.size:=(Array.getElem?_eq_some_iff.1 hh).1
      have hOr:OO O0 s φ r':=.inr ⟨id,_,hid,by rw[hF];simp⟩
      have hne:∀b,b≠r'→(w.heap.setIfInBounds r' (.map (es.push {key:=.int kk n,val:=v1,born:=clk}) (clk+1)))[b]?=w.heap[b]?:=fun b hb=>by
       rw[Array.getElem?_setIfInBounds,if_neg (fun e=>hb e.symm)]
      have hidl:id∉l:=(ym.1 hnl).1
      have hblO:∀b,b∈Ha φ l→OO O0 s φ b:=fun b hb=>by
       obtain⟨j,hj,hm⟩:=Pb.1 hb
       obtain⟨Ga,hbl⟩:=hlive j hj
       exact .inr ⟨j,Ga,hbl,hm⟩
      have hbr:∀b,b∈Ha φ l→b≠r':=fun b hb e=>by
       obtain⟨j,hj,hm⟩:=Pb.1 hb
       obtain⟨Ga,hbl⟩:=hlive j hj
       exact h.disj id j _ Ga (fun e=>hidl (e▸hj)) hid hbl r' (by rw[hF];simp) (e▸hm)
      have hGr:∀b,b∈List.flatten Gs→b≠r':=fun b hb e=>(hGo b hb).2 (e▸hOr)
      have hzz:(ja xs+1)=ja (jf xs [(n,y)]):=by simp
      have hsz:(es.push {key:=.int kk n,val:=v1,born:=clk}).size=ja (jf xs [(n,y)]):=by rw[Array.size_push,hz,hzz]
      have hset:(w.heap.setIfInBounds r' (.map (es.push {key:=.int kk n,val:=v1,born:=clk}) (clk+1)))[r']?=some (.map (es.push {key:=.int kk n,val:=v1,born:=clk}) (clk+1)):=by
       rw[Array.getElem?_setIfInBounds];simp[hrlt]
      have hc:=h.turn (w':={w with heap:=w.heap.setIfInBounds r' (.map (es.push {key:=.int kk n,val:=v1,born:=clk}) (clk+1))}) hid (Ga:=.mq kk e (jf xs [(n,y)])) ⟨rfl,rfl⟩ l hlive hidl (φ id) (by simp)
       (fun b _ hb _=>hne b (fun e=>hb (by rw[hF,e];simp))) rfl rfl rfl (h.nodup id _ hid) (fun b hb=>.inr (.inl hb))
       (by
        intro hp' O' hO _
        exact⟨r',_,_,hσ,hset,hF,hsz⟩)
       (by
        intro kk' e' xs' hx'
        simp only[Ka.mq.injEq]at hx'
        obtain⟨rfl,rfl,hx'⟩:=hx'
        have hx2:=eq_of_heq hx'
        subst hx2
        refine⟨r',_,_,Gs++[Ha φ l],hσ,hset,hsz,?_,?_,?_,?_⟩
        ·rw[qc,hGl,List.length_singleton,hzz]
        ·rw[List.flatten_append,yn]
         refine⟨hGn,?_,fun a ha b hb e=>?_⟩
         ·simpa using Rg h (ym.1 hnl).2 hlive
         ·subst e
          exact(hGo a ha).2 (hblO a (by simpa using hb))
        ·intro b hb
         rw[List.flatten_append]at hb
         have hOmono:∀b,OO O0 ⟨s.n,s.tm,(id,some (.mq kk e (jf xs [(n,y)])))::(Ed l++s.hp)⟩ (Di φ id (φ id)) b→O0 b∨∃j Ga,j∉l∧s.heap j=some Ga∧b∈φ j:=by
          rintro b (ho|⟨j,Ga,hl',hm⟩)
          ·exact .inl ho
          ·rw[He]at hl'
           by_cases hj:j=id
           ·subst hj
            rw[Qe]at hm
            exact .inr ⟨j,_,hidl,hid,hm⟩
           ·rw[if_neg hj]at hl'
            split at hl'
            ·simp at hl'
            ·rename_i hjl
             rw[Yl _ _ hj]at hm
             exact .inr ⟨j,Ga,hjl,hl',hm⟩
         rcases jl.1 hb with hb|hb
         ·refine⟨(hGo b hb).1,fun hO=>(hGo b hb).2 ?_⟩
          rcases hOmono b hO with ho|⟨j,Ga,_,h1,h2⟩
          ·exact .inl ho
          ·exact .inr ⟨j,Ga,h1,h2⟩
         ·have hb':b∈Ha φ l:=by simpa using hb
          obtain⟨j,hj,hm⟩:=Pb.1 hb'
          obtain⟨Ga,hbl⟩:=hlive j hj
          have hge:n0≤b:=(h.fresh j Ga hbl b hm).resolve_right (hnoA b)
          refine⟨hge,fun hO=>?_⟩
          rcases hOmono b hO with ho|⟨j',blk',hjl,h1,h2⟩
          ·have:=h.o0 b ho;omega
          ·exact h.disj j j' Ga blk' (fun e=>hjl (e▸hj)) hbl h1 b hm h2
        ·intro i hi
         have hi':i<ja xs+1:=by rw[hzz];exact hi
         by_cases hix:i<ja xs
         ·obtain⟨en,g1,g2,g3⟩:=hen i hix
          have hlt:i<es.size:=by rw[hz];exact hix
          have hgx:List.get (jf xs [(n,y)]) ⟨i,hi⟩=List.get xs ⟨i,hix⟩:=List.getElem_append_left hix
          have hgG:(Gs++[Ha φ l]).getD i []=Gs.getD i []:=by
           rw[qe,qe,List.getElem?_append_left (by omega)]
          refine⟨en,?_,by rw[hgx];exact g2,?_⟩
          ·rw[Array.getElem?_push_lt hlt]
           rw[Array.getElem?_eq_getElem hlt]at g1
           exact g1
          ·rw[hgx,hgG]
           exact g3.stable fun b hb=>hne b (hGr b (Xf hb))
         ·have hie:i=ja xs:=by omega
          subst hie
          have hgx:List.get (jf xs [(n,y)]) ⟨ja xs,hi⟩=(n,y):=by simp
          have hgG:(Gs++[Ha φ l]).getD (ja xs) []=Ha φ l:=by
           rw[qe,←hGl,List.getElem?_append_right (jo _),Nat.sub_self];rfl
          refine⟨{key:=.int kk n,val:=v1,born:=clk},?_,by rw[hgx],?_⟩
          ·rw[←hz];exact Array.getElem?_push_size
          ·rw[hgx,hgG]
           exact hown.stable fun b hb=>hne b (hbr b hb))
      refine AL (w':={w with heap:=w.heap.setIfInBounds r' (.map (es.push {key:=.int kk n,val:=v1,born:=clk}) (clk+1))}) ?_ (Jf (upd:=(id,some (.mq kk e (jf xs [(n,y)])))::Ed l) rfl hc (BE.2 rfl) he)
      have:=Lah (P:=P) hE hmg v1 clk hu (Tok.i hk) hh
      rcases ho with ho|ho<;>simp[execOp,ho,hmv,hxv,hval,this]
   ·simp at he
  ·simp at he
 ·simp at he
theorem KU(h:Db n0 A O0 w0 s σ φ a w){τ:Ty}{xs:List (Int×T τ)}{n:Int}{ok:Bool}{cv:List Value}(hv:Wa w (OO O0 s φ) τ ((Vd xs n).getD (zT τ)) cv)
 (hrun:(execOp a.eval o).run P w=.ok (.value (if ok then .tuple #[Wm τ cv,.bool (Vd xs n).isSome]else Wm τ cv)) w)
 (he:RS xs n ok (fun d u=>Xi s o.dst d u k)=some out):o.wp P a w (Nf n0 A O0 w0 k out) Q:=by
 have h1:Kf w (OO O0 s φ) s.heap σ (.t τ ((Vd xs n).getD (zT τ))) (Wm τ cv):=by
  rw[MU]
  exact Dag (d:=.t τ ((Vd xs n).getD (zT τ))) (by simp[Ob]) hv
 unfold RS at he
 cases ok with
 |true=>
  simp only[zg]at he
  refine Ec hrun (Pc h ?_ he)
  simp only[if_true]
  refine⟨#[Wm τ cv,.bool (Vd xs n).isSome],rfl,h1,?_,trivial⟩
  simp[Kf,D.isAgg,Kb,Wa]
 |false=>
  simp only[zh]at he
  refine Ec hrun (Pc h ?_ he)
  exact ZD h1
theorem Vaq{kk:IntKind}{t kt et:TypeId}{e:Ty}{xs:List (Int×List (T e))}{v:Value}{F:List Nat}(ht:P.underlying t=some (.map kt et))(hk:P.underlying kt=some (.int kk))(hte:Ie P (.sl e) et=true)
 (ho:Ic w (.mp (.i kk) (.sl e)) xs [v] F) (n:Int):
 ∃v1 G,(Instr.lookup t v (.int kk n) true).run P w=.ok (.tuple #[v1,.bool (Vd xs n).isSome]) w∧Ic w (.sl e) ((Vd xs n).getD []) [v1] G∧G.Sublist F∧v1.oneCell'=true:=by
 obtain⟨hc,hx,hF⟩|⟨r,es,clk,Fs,hc,hh,hz,hF,hl,hen⟩:=ho
 ·have hx':xs=[]:=hx
  subst hx'
  simp only[yi,and_true]at hc
  subst hc
  refine⟨.slice none 0 0,[],?_,?_,List.nil_sublist _,rfl⟩
  ·have:=NT (P:=P) (w:=w) ht hk hte n true
   simpa[Wm,Ty.zc,Vd]using this
  ·exact⟨by simp[Vd],.inl ⟨rfl,rfl,rfl⟩⟩
 ·simp only[yi,and_true]at hc
  subst hc
  have hE:ZM w (fun _=>False) (.i kk) (.sl e) xs es:=⟨hz,fun i hi=>by
   obtain⟨en,ck,cv,g1,g2,g3,g4,g5⟩:=hen i hi
   exact⟨en,ck,cv,g1,g2,g3,g4.view (fun _ _ h=>h),g5.view (fun _ _ h=>h)⟩⟩
  have hg:(getObj r).run P w=.ok (.map es clk) w:=by simp[getObj,Sem.run,hh]
  have hf:=Mu (P:=P) hk hE n w
  have hck:=Zm (P:=P) hk es.isEmpty n w
  rw[V7]
  cases hm:HF xs n with
  |none=>
   rw[hm]at hf
   refine⟨.slice none 0 0,[],?_,⟨by simp,.inl ⟨rfl,rfl,rfl⟩⟩,List.nil_sublist _,rfl⟩
   have hzt:=Tok.zero (P:=P) hte
   simp[Instr.lookup,run_underlying ht,hg,hck,hf,hzt,Ty.zc,Me,Ty.isAgg]
  |some i=>
   obtain⟨hi,_⟩:=L5 hm
   obtain⟨en,ck,cv,g1,g2,g3,g4,g5⟩:=hen i hi
   have hlen:=Ic.length g5
   simp only[Ty.size]at hlen
   obtain⟨v1,rfl⟩:=q9.1 hlen
   have hval:en.val=v1:=by rw[g3];rfl
   rw[hm]at hf
   simp only[jb,g1,qa]at hf
   refine⟨v1,Fs.getD i [],?_,?_,?_,g5.one v1 (by simp)⟩
   ·simp[Instr.lookup,run_underlying ht,hg,hck,hf,hval,je hi]
   ·have:(((some i:Option Nat).bind fun i=>(xs[i]?).map (·.2)).getD ([]:List (T e)))=(List.get xs ⟨i,hi⟩).2:=by
     simp[je hi]
    rw[this]
    exact g5
   ·rw[hF]
    refine List.Sublist.cons _ ?_
    have:Fs.getD i []∈Fs:=by
     rw[qe,je (by rw[hl];exact hi)]
     exact qi _
    exact List.sublist_flatten_of_mem this
theorem Cav(hG:EnvTy P G)(h:Db n0 A O0 w0 s σ φ a w){t:TypeId}{m x:Operand}{ok:Bool}(ho:o.op=.lookup t m x ok)
 (he:WT G s o (fun d u=>Xi s o.dst d u k)=some out):o.wp P a w (Nf n0 A O0 w0 k out) Q:=by
 simp only[WT,ho]at he
 split at he
 ·rename_i kk τ id k2 n hty hm hx
  split at he
  ·rename_i k3 τ3 xs hid
   split at he
   ·rename_i hdec
    obtain rfl:=Se hdec
    cases hkk:(kk==k2)&&(kk==k3)with
    |false=>simp[hkk]at he
    |true=>
     simp only[hkk,zg]at he
     simp only[jd,beq_iff_eq]at hkk
     obtain⟨rfl,rfl⟩:=hkk
     obtain⟨kt,et,hu,hk,hte⟩:=Tok.mp (hG.ty _ _ hty)
     obtain⟨r,es,clk,hσ,hh,hF,hz,hen⟩:=h.hp id _ hid
     have hmv:=(YD.1 (h.ev hm)).2 _ hid rfl
     rw[hσ]at hmv
     have hxv:=Bf.1 (h.ev hx)
     obtain⟨cv,g1,g2⟩:=SK (P:=P) hu (Tok.i hk) hte hh (O:=OO O0 s φ) (xs:=xs) ⟨hz,hen⟩ n ok
     refine KU h g1 ?_ he
     simp[execOp,ho,hmv,hxv,g2]
   ·simp at he
  ·rename_i k3 e xs hid
   split at he
   ·rename_i hdec
    obtain rfl:=Se hdec
    cases hkk:(kk==k2)&&(kk==k3)with
    |false=>simp[hkk]at he
    |true=>
     simp only[hkk,zg]at he
     simp only[jd,beq_iff_eq]at hkk
     obtain⟨rfl,rfl⟩:=hkk
     obtain⟨kt,et,hu,hk,hte⟩:=Tok.mp (hG.ty _ _ hty)
     obtain⟨r,es,clk,Gs,hσ,hh,hz,hGl,hGn,hGo,hen⟩:=h.shr id _ _ _ hid
     have hmv:=(YD.1 (h.ev hm)).2 _ hid rfl
     rw[hσ]at hmv
     have hxv:=Bf.1 (h.ev hx)
     obtain⟨cv,g1,g2⟩:=SK (P:=P) hu (Tok.i hk) hte hh (O:=OO O0 s φ) (τ:=.sl e) (xs:=xs) (Saf hz (fun b hb=>(hGo b hb).2) hen) n ok
     refine KU h g1 ?_ he
     simp[execOp,ho,hmv,hxv,g2]
   ·simp at he
  ·rename_i k3 e xs hid
   split at he
   ·rename_i hdec
    obtain rfl:=Se hdec
    cases hkk:(kk==k2)&&((kk==k3)&&(ok&&PP G o.dst))&&s.newOk (100000+64*o.dst.getD 0)with
    |false=>simp[hkk]at he
    |true=>
     simp only[hkk,zg]at he
     simp only[jd,beq_iff_eq]at hkk
     obtain⟨⟨rfl,rfl,rfl,_⟩,hnew⟩:=hkk
     generalize 100000+64*o.dst.getD 0=j at he hnew
     obtain⟨kt,et,hu,hk,hte⟩:=Tok.mp (hG.ty _ _ hty)
     have hown:Ic w (.mp (.i kk) (.sl e)) xs [σ id] (φ id):=h.hp id _ hid
     have hnd:=h.nodup id _ hid
     have hmv:=(YD.1 (h.ev hm)).2 _ hid rfl
     have hxv:=Bf.1 (h.ev hx)
     obtain⟨v1,F,h1,h2,h3,h4⟩:=Vaq (P:=P) hu (Tok.i hk) hte hown n
     have hFn:F.Nodup:=h3.nodup hnd
     have hc:=h.absorb (w':=w) hnew [id] (by intro j' hj';simp only[qb]at hj';subst hj';exact⟨_,hid⟩) (.row e true ((Vd xs n).getD [])) v1 F (jo _) (fun _ _ _=>rfl) rfl rfl rfl hFn
      (fun b hb=>.inr ⟨id,by simp,h3.subset hb⟩)
      (by
       intro hp' σ' O' hσ' _
       simp only[Gd]
       rw[hσ']
       exact h2)
     refine Ec (w':=w) (v:=.tuple #[v1,.bool (Vd xs n).isSome]) ?_ (Jf (upd:=[(j,some (.row e true ((Vd xs n).getD []))),(id,none)]) rfl hc ?_ he)
     ·simp[execOp,ho,hmv,hxv,h1]
     ·refine⟨_,rfl,?_,?_,trivial⟩
      ·exact⟨v1,rfl,h4,fun Ga r hb hr=>by
        rw[Qe]⟩
      ·simp[Kf,D.isAgg,Kb,Wa]
   ·simp at he
  ·simp at he
 ·rename_i kk τ k3 τ3 xs k2 n hty hm hx
  split at he
  ·rename_i hdec
   obtain rfl:=Se hdec
   cases hkk:(kk==k2)&&(kk==k3)with
   |false=>simp[hkk]at he
   |true=>
    simp only[hkk,zg]at he
    simp only[jd,beq_iff_eq]at hkk
    obtain⟨rfl,rfl⟩:=hkk
    obtain⟨kt,et,hu,hk,hte⟩:=Tok.mp (hG.ty _ _ hty)
    have hxv:=Bf.1 (h.ev hx)
    have hmv:Wa w (OO O0 s φ) (.mp (.i kk) τ) xs [a.eval m]:=by
     have:=h.ev hm
     simpa[Td,Kf,D.isAgg,Kb]using this
    obtain⟨hc,hxs⟩|⟨r,es,clk,hc,hO,hh,hz,hen⟩:=hmv
    ·simp only[yi,and_true]at hc
     have hxs':xs=([]:List (Int×T τ)):=hxs
     refine KU h (cv:=τ.zc) ?_ ?_ he
     ·rw[hxs'];exact(B9 w τ).view (by simp)
     ·rw[hxs']
      simp[execOp,ho,hc,hxv,NT (P:=P) (w:=w) hu (Tok.i hk) hte n ok,Vd]
    ·simp only[yi,and_true]at hc
     obtain⟨cv,g1,g2⟩:=SK (P:=P) hu (Tok.i hk) hte hh (O:=OO O0 s φ) (xs:=xs) ⟨hz,hen⟩ n ok
     refine KU h g1 ?_ he
     simp[execOp,ho,hc,hxv,g2]
  ·simp at he
 ·simp at he
theorem XaD(hG:Kn P A.I G)(hfz:WR G A O0)(h:Db n0 A O0 w0 s σ φ a w)(he:P6 G s o k=some out):o.wp P a w (Nf n0 A O0 w0 k out) Q:=by
 have hT:=hG.toEnvTy
 unfold P6 at he
 cases hb:Pae o.op with
 |false=>rw[hb]at he;exact Ias hG hfz h he
 |true=>
  rw[hb]at he
  simp only[zg]at he
  cases ho:o.op with
  |makeMap t r=>exact Uaq h ho he
  |lookup t m x ok=>exact Cav hT h ho he
  |mapUpdate t m x v=>
   simp only[WT,ho]at he
   cases hq:s.isMq m with
   |true=>rw[hq]at he;exact P5 hT hfz h (.inl ho) he
   |false=>rw[hq]at he;exact Y9 hT h (.inl ho) he
  |insert t m x v=>
   simp only[WT,ho]at he
   cases hq:s.isMq m with
   |true=>rw[hq]at he;exact P5 hT hfz h (.inr ho) he
   |false=>rw[hq]at he;exact Y9 hT h (.inr ho) he
  |_=>simp[Pae,ho]at hb
end
def Xm(dst:Option Tmp)(id:Nat):Prop:=dst=some id∨(100000+64*dst.getD 0≤id∧id<100064+64*dst.getD 0)
def Ka.kind:Ka→Option Ty×Option (Ty×Nat)
 |.box ρ _=>(some ρ,none)
 |.row e _ xs=>(none,some (e,ja xs))
 |.hol e xs _ _ _ _ _=>(none,some (e,ja xs))
 |.mov e xs _=>(none,some (e,ja xs))
 |.mp _ _ _=>(none,none)
 |.mq _ _ _=>(none,none)
 |.mx _ _ _=>(none,none)
 |.fz e xs=>(none,some (e,ja xs))
theorem Ka.kind_rowN{b:Ka}:b.rowN=b.kind.2:=by cases b<;>rfl
theorem kind_rowN{a b:Option Ka}(h:a.map Ka.kind=b.map Ka.kind):a.bind Ka.rowN=b.bind Ka.rowN:=by
 cases a<;>cases b<;>simp at h⊢
 rw[Ka.kind_rowN,Ka.kind_rowN,h]
theorem Sae{a b:Option Ka}(h:a.map Ka.kind=b.map Ka.kind):∀ρ,(∃d,a=some (.box ρ d))↔∃d,b=some (.box ρ d):=by
 intro ρ
 cases a with
 |none=>cases b with
  |none=>simp
  |some b=>simp at h
 |some a=>cases b with
  |none=>simp at h
  |some b=>
   simp only[qa,jc]at h
   cases a<;>cases b<;>simp[Ka.kind]at h⊢
   rw[h]
structure Agr(s s':AS)(o:Oper):Prop where
 ev:∀x,x∈Yd o.op→s'.ev x=s.ev x
 hp:DI o.op=false→Li o.op=false→∀x,x∈Yd o.op→∀d,s.ev x=some d→∀id,d.ment id=true→s'.heap id=s.heap id
 sh:Li o.op=true→∀x,x∈Yd o.op→∀d,s.ev x=some d→∀id,d.ment id=true→(s'.heap id).map Ka.kind=(s.heap id).map Ka.kind
 nw:∀id,Xm o.dst id→s'.newOk id=s.newOk id
 bx:MK o.op=true→Li o.op=false→∀x,x∈Yd o.op→∀bid p,s.ev x=some (.ptr bid p)→∀ρ d,s.heap bid=some (.box ρ d)→∀id,d.ment id=true→s'.heap id=s.heap id
def Io(s s':AS)(d:D):Prop:=∀id,d.ment id=true→s'.heap id=s.heap id
section
variable{s s':AS} {G:Sf} {o:Oper} {Out:Type}
theorem Io.left{a b:D}(h:Io s s' (.pr a b)):Io s s' a:=fun id hi=>h id (by simp[D.ment,hi])
theorem Io.right{a b:D}(h:Io s s' (.pr a b)):Io s s' b:=fun id hi=>h id (by simp[D.ment,hi])
theorem Io.mpo{id:Nat}(h:Io s s' (.mpo id)):s'.heap id=s.heap id:=h id (by simp[D.ment])
theorem Io.own{id:Nat}(h:Io s s' (.own id)):s'.heap id=s.heap id:=h id (by simp[D.ment])
theorem Io.cut{id lo hi:Nat}(h:Io s s' (.cut id lo hi)):s'.heap id=s.heap id:=h id (by simp[D.ment])
theorem Io.ptr{id:Nat}{p:List Nat}(h:Io s s' (.ptr id p)):s'.heap id=s.heap id:=h id (by simp[D.ment])
theorem Io.eptr{id i:Nat}{p:List Nat}(h:Io s s' (.eptr id i p)):s'.heap id=s.heap id:=h id (by simp[D.ment])
theorem OG:∀{d:D} {τ:Ty},Io s s' d→Ib s' d τ=Ib s d τ:=by
 intro d
 induction d with
 |pr a b iha ihb=>
  intro τ h
  cases τ with
  |p x y=>simp only[Ib,iha h.left,ihb h.right]
  |_=>rfl
 |own id=>intro τ h;cases τ<;>simp[Ib,h.own]
 |cut id lo hi=>intro τ h;cases τ<;>simp[Ib,h.cut]
 |_=>intro τ h;cases τ<;>rfl
theorem XE:∀{d:D} {τ:Ty},Io s s' d→Cc s' d τ=Cc s d τ:=by
 intro d
 induction d with
 |pr a b iha ihb=>
  intro τ h
  cases τ with
  |p x y=>simp only[Cc,iha h.left,ihb h.right]
  |_=>rfl
 |own id=>intro τ h;cases τ<;>simp[Cc,h.own]
 |mpo id=>intro τ h;cases τ<;>simp[Cc,h.mpo]
 |_=>intro τ h;cases τ<;>rfl
theorem BI:∀{l:List Operand},(∀x,x∈l→s'.ev x=s.ev x)→Jy s' l=Jy s l
 |[],_=>rfl
 |x::r,h=>by simp only[Jy,h x (by simp),BI fun y hy=>h y (jr _ hy)]
theorem HP:∀{l:List Operand} {d:D},Jy s l=some d→(∀x,x∈l→∀d,s.ev x=some d→Io s s' d)→Io s s' d
 |[],d,h,_=>by
  simp only[Jy,jc]at h
  subst h
  intro id hi;simp[D.ment]at hi
 |x::r,d,h,ha=>by
  simp only[Jy]at h
  split at h
  ·rename_i d1 d2 h1 h2
   simp only[jc]at h
   subst h
   intro id hi
   simp only[D.ment,qx]at hi
   rcases hi with hi|hi
   ·exact ha x (by simp) d1 h1 id hi
   ·exact HP h2 (fun y hy=>ha y (jr _ hy)) id hi
  ·simp at h
theorem ZZ{τ:Ty}:∀{ps:List (Nat×Operand)} {d:D},(∀x,x∈ps.map (·.2)→s'.ev x=s.ev x)→OQ s' τ d ps=OQ s τ d ps
 |[],_,_=>rfl
 |(i,x)::r,d,h=>by
  simp only[OQ,h x (by simp)]
  split
  ·rename_i e τ' _ _
   cases Kd τ' e with
   |false=>rfl
   |true=>
    simp only[zg]
    split
    ·exact ZZ fun y hy=>h y (jr _ hy)
    ·rfl
  ·rfl
theorem H5{e:Ty}:∀{ps:List (Nat×Operand)} {n:Nat},(∀x,x∈ps.map (·.2)→s'.ev x=s.ev x)→(∀x,x∈ps.map (·.2)→∀d,s.ev x=some d→Io s s' d)→GX s' e n ps=GX s e n ps
 |[],_,_,_=>rfl
 |(i,x)::r,n,h,ha=>by
  have ih:=H5 (e:=e) (ps:=r) (n:=n+1) (fun y hy=>h y (jr _ hy)) (fun y hy=>ha y (jr _ hy))
  simp only[GX,h x (by simp)]
  cases qw i n with
  |false=>rfl
  |true=>
   simp only[zg]
   cases hx:s.ev x with
   |none=>rfl
   |some d=>simp only[XE (ha x (by simp) d hx),ih]
theorem E0{e:Ty}:∀{ps:List (Nat×Operand)} {n:Nat},(∀x,x∈ps.map (·.2)→s'.ev x=s.ev x)→AR s' e n ps=AR s e n ps
 |[],_,_=>rfl
 |(i,x)::r,n,h=>by
  have ih:=E0 (e:=e) (ps:=r) (n:=n+1) (fun y hy=>h y (jr _ hy))
  simp only[AR,h x (by simp),ih]
theorem Sau{x:Option Operand}(h:∀y,x=some y→s'.ev y=s.ev y):IT s' x=IT s x:=by
 cases x with
 |none=>rfl
 |some y=>simp only[IT,h y rfl]
theorem Jat{x:Option Operand}{n:Nat}(h:∀y,x=some y→s'.ev y=s.ev y):WW s' n x=WW s n x:=by
 cases x with
 |none=>rfl
 |some y=>simp only[WW,h y rfl]
theorem JV{e:Ty}{d:D}(h:Io s s' d):GQ s' e d=GQ s e d:=by
 cases d with
 |own id=>simp only[GQ,h.own]
 |cut id lo hi=>simp only[GQ,h.cut]
 |t τ x=>cases τ<;>rfl
 |_=>rfl
theorem Tap{e:Ty}{d:D}(h:Io s s' d):N1 s' e d=N1 s e d:=by
 cases d with
 |own id=>simp only[N1,h.own]
 |cut id lo hi=>simp only[N1,h.cut]
 |_=>rfl
theorem JK{u:List (Nat×Option Ka)}(h:∀p,p∈u→s'.newOk p.1=s.newOk p.1):Te s' u=Te s u:=by
 unfold Te
 congr 1
 induction u with
 |nil=>rfl
 |cons p u ih=>simp only[List.all_cons,h p (by simp),ih fun q hq=>h q (jr _ hq)]
theorem SM:∀{τ:Ty} {x:T τ} {n m:Nat} {d:D} {l:List (Nat×Option Ka)},Ff τ x n=(d,l,m)→n≤m∧∀p,p∈l→n≤p.1∧p.1<m
 |.i k,x,n,m,d,l,he=>by simp only[Ff,jh]at he;obtain⟨rfl,rfl,rfl⟩:=he;simp
 |.b,x,n,m,d,l,he=>by simp only[Ff,jh]at he;obtain⟨rfl,rfl,rfl⟩:=he;simp
 |.o,x,n,m,d,l,he=>by simp only[Ff,jh]at he;obtain⟨rfl,rfl,rfl⟩:=he;simp
 |.mp _ _,x,n,m,d,l,he=>by simp only[Ff,jh]at he;obtain⟨rfl,rfl,rfl⟩:=he;simp
 |.s,x,n,m,d,l,he=>by simp only[Ff,jh]at he;obtain⟨rfl,rfl,rfl⟩:=he;simp
 |.u,x,n,m,d,l,he=>by simp only[Ff,jh]at he;obtain⟨rfl,rfl,rfl⟩:=he;simp
 |.sl e,x,n,m,d,l,he=>by simp only[Ff,jh]at he;obtain⟨rfl,rfl,rfl⟩:=he;simp
 |.p t1 t2,x,n,m,d,l,he=>by
  simp only[Ff]at he
  rcases ho1:Ff t1 x.1 n with⟨d1,l1,m1⟩
  rcases ho2:Ff t2 x.2 m1 with⟨d2,l2,m2⟩
  rw[ho1]at he
  simp only at he
  rw[ho2]at he
  simp only[jh]at he
  obtain⟨rfl,rfl,rfl⟩:=he
  have a:=SM ho1
  have b:=SM ho2
  refine⟨by omega,fun p hp=>?_⟩
  rcases jl.1 hp with hp|hp
  ·have:=a.2 p hp;omega
  ·have:=b.2 p hp;omega
theorem QX:∀{rt:Ty} {r:T rt} {fr:List Bool} {n m:Nat} {d:D} {l:List (Nat×Option Ka)},Ah rt r fr n=some (d,l,m)→n≤m∧∀p,p∈l→n≤p.1∧p.1<m
 |.u,r,[],n,m,d,l,he=>by simp only[Ah,jc,jh]at he;obtain⟨rfl,rfl,rfl⟩:=he;simp
 |.p t1 t2,r,f::fr,n,m,d,l,he=>by
  simp only[Ah]at he
  rcases ho1:(bif f then Ff t1 r.1 n else(.t t1 r.1,[],n))with⟨d1,l1,m1⟩
  rw[ho1]at he
  simp only at he
  split at he
  ·rename_i d2 l2 m2 ho2
   simp only[jc,jh]at he
   obtain⟨rfl,rfl,rfl⟩:=he
   have b:=QX ho2
   have a:n≤m1∧∀p,p∈l1→n≤p.1∧p.1<m1:=by
    cases f with
    |true=>exact SM (by simpa using ho1)
    |false=>
     simp only[zh,jh]at ho1
     obtain⟨rfl,rfl,rfl⟩:=ho1
     simp
   refine⟨by omega,fun p hp=>?_⟩
   rcases jl.1 hp with hp|hp
   ·have:=a.2 p hp;omega
   ·have:=b.2 p hp;omega
  ·simp at he
 |.u,_,_::_,_,_,_,_,he=>by simp[Ah]at he
 |.p _ _,_,[],_,_,_,_,he=>by simp[Ah]at he
 |.i _,_,fr,_,_,_,_,he=>by cases fr<;>simp[Ah]at he
 |.b,_,fr,_,_,_,_,he=>by cases fr<;>simp[Ah]at he
 |.o,_,fr,_,_,_,_,he=>by cases fr<;>simp[Ah]at he
 |.mp _ _,_,fr,_,_,_,_,he=>by cases fr<;>simp[Ah]at he
 |.s,_,fr,_,_,_,_,he=>by cases fr<;>simp[Ah]at he
 |.sl _,_,fr,_,_,_,_,he=>by cases fr<;>simp[Ah]at he
theorem IU{dst:Option Tmp}{u:List (Nat×Option Ka)}{rt:Ty}{r:T rt}{fr:List Bool}{m:Nat}{d:D}(hop:Ah rt r fr (100000+64*dst.getD 0)=some (d,u,m))(hn:∀id,Xm dst id→s'.newOk id=s.newOk id):
 (jx m (100064+64*dst.getD 0)&&Te s' u)=(jx m (100064+64*dst.getD 0)&&Te s u):=by
 cases hb:jx m (100064+64*dst.getD 0)with
 |false=>rfl
 |true=>
  have hle:=q6 hb
  rw[jk,jk]
  refine JK fun p hp=>hn p.1 (.inr ?_)
  have:=(QX hop).2 p hp
  exact⟨this.1,by omega⟩
theorem Eah{dst:Option Tmp}{vw:Bool}{τ:Ty}{y:T τ}{u v:List (Nat×Option Ka)}{rt:Ty}{r:T rt}{fr:List Bool}{m m':Nat}{d e:D}(hop:Ah rt r fr (100000+64*dst.getD 0)=some (d,u,m))
 (hev:(bif vw then(D.t τ y,[],m)else Ff τ y m)=(e,v,m')) (hn:∀id,Xm dst id→s'.newOk id=s.newOk id):
 (jx m' (100064+64*dst.getD 0)&&Te s' (u++v))=(jx m' (100064+64*dst.getD 0)&&Te s (u++v)):=by
 cases hb:jx m' (100064+64*dst.getD 0)with
 |false=>rfl
 |true=>
  have hle:=q6 hb
  rw[jk,jk]
  refine JK fun p hp=>hn p.1 (.inr ?_)
  have h1:=QX hop
  have h2:m≤m'∧∀p,p∈v→m≤p.1∧p.1<m':=by
   cases vw with
   |true=>
    simp only[zg,jh]at hev
    obtain⟨_,rfl,rfl⟩:=hev
    exact⟨jo _,by simp⟩
   |false=>
    simp only[zh]at hev
    exact SM hev
  rcases jl.1 hp with hp|hp
  ·have:=h1.2 p hp;have h3:=h2.1;exact⟨this.1,by omega⟩
  ·have h4:=h2.2 p hp;have h3:=h1.1;exact⟨j9 h3 h4.1,by omega⟩
theorem T4{dst:Option Tmp}(hn:∀id,Xm dst id→s'.newOk id=s.newOk id)(τ:Ty)(y:T τ):
 (jx (Ff τ y (100000+64*dst.getD 0)).2.2 (100064+64*dst.getD 0)&&Te s' (Ff τ y (100000+64*dst.getD 0)).2.1)=
  (jx (Ff τ y (100000+64*dst.getD 0)).2.2 (100064+64*dst.getD 0)&&Te s (Ff τ y (100000+64*dst.getD 0)).2.1):=by
 cases hb:jx (Ff τ y (100000+64*dst.getD 0)).2.2 (100064+64*dst.getD 0)with
 |false=>rfl
 |true=>
  have hle:=q6 hb
  rw[jk,jk]
  refine JK fun p hp=>hn p.1 (.inr ?_)
  have:=(SM (τ:=τ) (x:=y) rfl).2 p hp
  exact⟨this.1,qg this.2 hle⟩
theorem Cad{dst:Option Tmp}{τ:Ty}{id i:Nat}{e:Ty}{xs:List (T e)}{k:Nat}{K:D→List (Nat×Option Ka)→Option Out}(hn:∀id,Xm dst id→s'.newOk id=s.newOk id):
 KA s' dst τ id i e xs k K=KA s dst τ id i e xs k K:=by
 unfold KA
 simp only[T4 hn]
theorem Aad{dst:Option Tmp}{f:FuncId}{args:List Operand}{K:D→List (Nat×Option Ka)→Option Out}(hev:∀x,x∈args→s'.ev x=s.ev x)(hag:∀x,x∈args→∀d,s.ev x=some d→Io s s' d)
 (hn:∀id,Xm dst id→s'.newOk id=s.newOk id) (hbx:∀x,x∈args→∀bid p,s.ev x=some (.ptr bid p)→∀ρ d,s.heap bid=some (.box ρ d)→Io s s' d):FM G s' dst f args K=FM G s dst f args K:=by
 unfold FM
 split
 ·rename_i pt rt fr F _
  rw[BI hev]
  cases hds:Jy s args with
  |none=>rfl
  |some ds=>
   simp only[]
   rw[OG (HP hds hag)]
   cases Ib s ds pt with
   |none=>rfl
   |some x=>
    simp only[]
    congr 1
    funext r
    cases hop:Ah rt r fr (100000+64*dst.getD 0)with
    |none=>rfl
    |some t=>
     obtain⟨d,u,m⟩:=t
     simp only[]
     cases ZP d with
     |none=>rfl
     |some d'=>simp only[IU hop hn]
 ·rename_i τ pt rt fr F _
  cases args with
  |nil=>rfl
  |cons a0 args=>
   simp only[]
   rw[hev a0 (by simp),BI fun x hx=>hev x (jr _ hx)]
   cases h0:s.ev a0 with
   |none=>rfl
   |some d0=>
    cases hds:Jy s args with
    |none=>rfl
    |some ds=>
     simp only[]
     rw[XE (hag a0 (by simp) d0 h0),OG (HP hds fun x hx=>hag x (jr _ hx))]
     cases Cc s d0 τ with
     |none=>rfl
     |some xl=>
      obtain⟨x0,l⟩:=xl
      cases Ib s ds pt with
      |none=>rfl
      |some x=>
       simp only[]
       congr 1
       funext r
       cases hop:Ah rt r.2 fr (100000+64*dst.getD 0)with
       |none=>rfl
       |some t=>
        obtain⟨d,u,m⟩:=t
        simp only[]
        cases ZP d with
        |none=>rfl
        |some d'=>simp only[IU hop hn]
 ·rename_i pt rt fr F _
  rw[BI hev]
  cases hds:Jy s args with
  |none=>rfl
  |some ds=>
   simp only[]
   rw[XE (HP hds hag)]
   cases Cc s ds pt with
   |none=>rfl
   |some xl=>
    simp only[]
    congr 1
    funext r
    cases hop:Ah rt r fr (100000+64*dst.getD 0)with
    |none=>rfl
    |some t=>
     obtain⟨d,u,m⟩:=t
     simp only[]
     cases ZP d with
     |none=>rfl
     |some d'=>simp only[IU hop hn]
 ·rename_i vw cv τ pt rt fr F _
  cases args with
  |nil=>rfl
  |cons a0 args=>
   simp only[]
   rw[hev a0 (by simp),BI fun x hx=>hev x (jr _ hx)]
   cases h0:s.ev a0 with
   |none=>rfl
   |some d0=>
    cases hds:Jy s args with
    |none=>
     cases d0 with
     |ptr bid path=>cases path<;>rfl
     |_=>rfl
    |some ds=>
     cases d0 with
     |ptr bid path=>
      cases path with
      |cons _ _=>rfl
      |nil=>
       simp only[]
       rw[(hag a0 (by simp) _ h0).ptr]
       cases hb:s.heap bid with
       |none=>rfl
       |some Ga=>
        cases Ga with
        |box τ' d1=>
         simp only[]
         rw[XE (hbx a0 (by simp) bid [] h0 τ' d1 hb),XE (HP hds fun x hx=>hag x (jr _ hx)),OG (HP hds fun x hx=>hag x (jr _ hx))]
         split
         ·rename_i x0 l x l2 _ _ _
          congr 1
          funext r
          cases hop:Ah rt r.2 fr (100000+64*dst.getD 0)with
          |none=>rfl
          |some t=>
           obtain⟨d,u,m⟩:=t
           simp only[]
           cases ZP d with
           |none=>rfl
           |some d'=>
            rcases hev2:(bif vw then(D.t τ r.1,[],m)else Ff τ r.1 m)with⟨e,v,m'⟩
            simp only[Eah hop hev2 hn]
         ·rfl
        |_=>rfl
     |_=>rfl
 ·rename_i pt τ F _
  rw[BI hev]
  cases dst with
  |none=>rfl
  |some tt=>
   cases hds:Jy s args with
   |none=>rfl
   |some ds=>
    simp only[]
    rw[OG (HP hds hag),hn tt (.inl rfl)]
 ·rfl
theorem N6{dst:Option Tmp}{t tx:TypeId}{x y:Operand}{K:D→List (Nat×Option Ka)→Option Out}(hx:s'.ev x=s.ev x)(hy:s'.ev y=s.ev y)
 (ax:∀d,s.ev x=some d→Io s s' d) (ay:∀d,s.ev y=some d→Io s s' d) (hn:∀id,Xm dst id→s'.newOk id=s.newOk id):DD G s' dst t tx x y K=DD G s dst t tx x y K:=by
 unfold DD
 rw[hx,hy]
 split
 ·rename_i tt e da db _ h2 h3
  rw[Tap (ax _ h2),JV (ay _ h3),hn tt (.inl rfl)]
 ·rfl
theorem D4{dst:Option Tmp}{t tx:TypeId}{x y:Operand}{K:D→List (Nat×Option Ka)→Option Out}(hx:s'.ev x=s.ev x)(hy:s'.ev y=s.ev y)
 (ax:∀d,s.ev x=some d→Io s s' d) (ay:∀d,s.ev y=some d→Io s s' d):Iy G s' dst t tx x y K=Iy G s dst t tx x y K:=by
 unfold Iy
 rw[hx,hy]
 split
 ·rename_i tt e id db _ h2 h3
  rw[(ax _ h2).own,JV (ay _ h3)]
 ·rfl
theorem Aah{dst:Option Tmp}{t tx:TypeId}{x y:Operand}{K:D→List (Nat×Option Ka)→Option Out}(hx:s'.ev x=s.ev x)(hy:s'.ev y=s.ev y)
 (ax:∀d,s.ev x=some d→Io s s' d) (ay:∀d,s.ev y=some d→Io s s' d) (hn:∀id,Xm dst id→s'.newOk id=s.newOk id):BO G s' dst t tx x y K=BO G s dst t tx x y K:=by
 unfold BO
 rw[N6 hx hy ax ay hn,D4 hx hy ax ay]
theorem Bad{t tx:TypeId}{x y:Operand}{K:D→List (Nat×Option Ka)→Option Out}(hx:s'.ev x=s.ev x)(hy:s'.ev y=s.ev y)
 (ax:∀d,s.ev x=some d→Io s s' d) (ay:∀d,s.ev y=some d→Io s s' d):GM G s' t tx x y K=GM G s t tx x y K:=by
 unfold GM
 rw[hx,hy]
 split
 ·rename_i e id db _ h2 h3
  rw[ax _ h2 id (by simp[D.ment])]
  split
  ·rw[JV (ay _ h3)]
  ·rfl
 ·rfl
theorem Jap{K:D→List (Nat×Option Ka)→Option Out}(h:Agr s s' o):Hc G s' o K=Hc G s o K:=by
 obtain⟨hev,hag,hsh,hn,hbx⟩:=h
 cases hmv:DI o.op with
 |true=>
  cases ho:o.op with
  |move x=>rw[ho]at hev;simp only[Hc,ho,hev x (by simp[Yd])]
  |assign x=>rw[ho]at hev;simp only[Hc,ho,hev x (by simp[Yd])]
  |_=>rw[ho]at hmv;simp[DI]at hmv
 |false=>
 cases hsp:Li o.op with
 |true=>
  have hk:=hsh hsp
  clear hag hn hbx hsh
  cases ho:o.op with
  |nilCheck x=>
   rw[ho]at hev hk
   simp only[Hc,ho,hev x (by simp[Yd])]
   split
   ·rename_i id p hx
    have h1:=Sae (hk x (by simp[Yd]) _ hx id (by simp[D.ment]))
    split
    ·rename_i ρ d hb
     obtain⟨d',hd'⟩:=(h1 ρ).1 ⟨d,hb⟩
     simp only[hd']
    ·rename_i hne
     split
     ·rename_i ρ d hb
      obtain⟨d',hd'⟩:=(h1 ρ).2 ⟨d,hb⟩
      exact absurd hd' (hne ρ d')
     ·rfl
   ·rfl
   ·rename_i id i p hx
    rw[kind_rowN (hk x (by simp[Yd]) _ hx id (by simp[D.ment]))]
   ·rfl
  |fieldAddr t x f=>
   rw[ho]at hev hk
   simp only[Hc,ho,hev x (by simp[Yd])]
   split
   ·rename_i τ id path hτ hx
    have h1:=Sae (hk x (by simp[Yd]) _ hx id (by simp[D.ment]))
    split
    ·rename_i ρ d hb
     obtain⟨d',hd'⟩:=(h1 ρ).1 ⟨d,hb⟩
     simp only[hd']
    ·rename_i hne
     split
     ·rename_i ρ d hb
      obtain⟨d',hd'⟩:=(h1 ρ).2 ⟨d,hb⟩
      exact absurd hd' (hne ρ d')
     ·rfl
   ·rename_i τ id i path hτ hx
    rw[kind_rowN (hk x (by simp[Yd]) _ hx id (by simp[D.ment]))]
   ·rfl
   ·rfl
  |indexAddr t x i=>
   rw[ho]at hev hk
   simp only[Hc,ho,hev x (by simp[Yd]),hev i (by simp[Yd])]
   split
   ·rfl
   ·rename_i hx _;rw[kind_rowN (hk x (by simp[Yd]) _ hx _ (by simp[D.ment]))]
   ·rename_i hx _;rw[kind_rowN (hk x (by simp[Yd]) _ hx _ (by simp[D.ment]))]
   ·rename_i hx _;rw[kind_rowN (hk x (by simp[Yd]) _ hx _ (by simp[D.ment]))]
   ·rfl
  |call c=>
   obtain⟨callee,args,ts⟩:=c
   rw[ho]at hev hk hsp
   simp only[Yd]at hev hk
   cases callee with
   |builtin b=>
    cases b with
    |len=>
     simp only[Hc,ho]
     split
     ·rename_i x t hx _
      rw[hev x (by rw[hx];simp)]
      split
      ·rfl
      ·rfl
      ·rfl
      ·rename_i hd;rw[kind_rowN (hk x (by rw[hx];simp) _ hd _ (by simp[D.ment]))]
      ·rename_i hd;rw[kind_rowN (hk x (by rw[hx];simp) _ hd _ (by simp[D.ment]))]
      ·rfl
     ·rfl
    |_=>simp[Li]at hsp
   |_=>simp[Li]at hsp
  |_=>rw[ho]at hsp;simp[Li]at hsp
 |false=>
 have hag':∀x,x∈Yd o.op→∀d,s.ev x=some d→Io s s' d:=hag hmv hsp
 cases ho:o.op with
 |move x=>rw[ho]at hev;simp only[Hc,ho,hev x (by simp[Yd])]
 |assign x=>rw[ho]at hev;simp only[Hc,ho,hev x (by simp[Yd])]
 |pick c x y=>rw[ho]at hev;simp only[Hc,ho,hev c (by simp[Yd]),hev x (by simp[Yd]),hev y (by simp[Yd])]
 |alloc t=>
  simp only[Hc,ho]
  split
  ·rename_i tt τ hd _;rw[hn tt (.inl hd)]
  ·rename_i tt hd _;rw[hn tt (.inl hd)]
  ·rfl
 |box t x=>
  rw[ho]at hev
  simp only[Hc,ho,hev x (by simp[Yd])]
  split
  ·rename_i tt τ d hd _ _;rw[hn tt (.inl hd)]
  ·rfl
 |build t ps=>
  rw[ho]at hev
  have:=fun τ d=>ZZ (s:=s) (s':=s') (τ:=τ) (ps:=ps.toList) (d:=d) hev
  simp only[Hc,ho,this]
 |buildSlice t n ps=>
  rw[ho]at hev hag'
  have h1:=fun e n=>H5 (s:=s) (s':=s') (e:=e) (ps:=ps.toList) (n:=n) hev hag'
  have h2:=fun e n=>E0 (s:=s) (s':=s') (e:=e) (ps:=ps.toList) (n:=n) hev
  simp only[Hc,ho,h1,h2]
  split
  ·rename_i tt e hd _
   rw[hn tt (.inl hd)]
  ·rfl
 |load t x=>
  rw[ho]at hev hag'
  simp only[Hc,ho,hev x (by simp[Yd])]
  split
  ·rename_i hx;rw[(hag' x (by simp[Yd]) _ hx).ptr]
  ·rfl
  ·rename_i hx;rw[(hag' x (by simp[Yd]) _ hx).eptr];simp only[T4 hn,Cad hn]
  ·rfl
 |store t x y=>
  rw[ho]at hev hag'
  simp only[Hc,ho,hev x (by simp[Yd]),hev y (by simp[Yd])]
  split
  ·rename_i hx _;rw[(hag' x (by simp[Yd]) _ hx).ptr]
  ·rename_i dv _ hx hy
   have:=fun τ=>XE (τ:=τ) (hag' y (by simp[Yd]) _ hy)
   simp only[(hag' x (by simp[Yd]) _ hx).eptr,this]
  ·rfl
 |nilCheck x=>rw[ho]at hsp;simp[Li]at hsp
 |binOp op t x y t'=>rw[ho]at hev;simp only[Hc,ho,hev x (by simp[Yd]),hev y (by simp[Yd])]
 |unOp op t x=>rw[ho]at hev;simp only[Hc,ho,hev x (by simp[Yd])]
 |convert src t x=>
  rw[ho]at hev hag'
  simp only[Hc,ho,hev x (by simp[Yd])]
  split
  ·rfl
  ·rfl
  ·rename_i hx;rw[OG (hag' x (by simp[Yd]) _ hx)]
  ·rfl
  ·rfl
 |slice t x lo hi mx=>
  rw[ho]at hev hag'
  have h1:IT s' lo=IT s lo:=Sau fun y hy=>hev y (by simp[Yd,hy])
  have h2:=fun n=>Jat (s:=s) (s':=s') (x:=hi) (n:=n) fun y hy=>hev y (by simp[Yd,hy])
  cases mx with
  |some m=>simp only[Hc,ho]
  |none=>
   simp only[Hc,ho,hev x (by simp[Yd]),h1,h2]
   split
   ·rfl
   ·rfl
   ·rename_i hx
    unfold BZ
    rw[(hag' x (by simp[Yd]) _ hx).own,h1]
    simp only[h2]
    split
    ·split
     ·split
      ·split
       ·rename_i tt hd;rw[hn tt (.inl hd)]
       ·rfl
      ·rfl
     ·rfl
    ·rfl
   ·simp only[h2]
   ·rename_i hx
    unfold QS
    rw[(hag' x (by simp[Yd]) _ hx).cut,h1]
    simp only[h2]
   ·rfl
 |fieldAddr t x f=>rw[ho]at hsp;simp[Li]at hsp
 |field t x f=>rw[ho]at hev;simp only[Hc,ho,hev x (by simp[Yd])]
 |indexAddr t x i=>rw[ho]at hsp;simp[Li]at hsp
 |index t x i=>rw[ho]at hev;simp only[Hc,ho,hev x (by simp[Yd]),hev i (by simp[Yd])]
 |makeSlice t l c=>
  rw[ho]at hev
  simp only[Hc,ho,hev l (by simp[Yd]),hev c (by simp[Yd])]
  split
  ·rename_i hd _ _ _;rw[hn _ (.inl hd)]
  ·rfl
 |extract x n=>rw[ho]at hev;simp only[Hc,ho,hev x (by simp[Yd])]
 |call c=>
  obtain⟨callee,args,ts⟩:=c
  rw[ho]at hev hag'
  simp only[Yd]at hev hag'
  cases callee with
  |value f=>
   cases f with
   |func f=>simp only[Hc,ho];exact Aad hev hag' hn (by rw[ho]at hbx;exact hbx rfl rfl)
   |_=>simp only[Hc,ho]
  |invoke r m=>simp only[Hc,ho]
  |builtin b=>
   cases b with
   |len=>rw[ho]at hsp;simp[Li]at hsp
   |append=>
    simp only[Hc,ho]
    split
    ·rename_i x y t tx hx _
     exact Aah (hev x (by rw[hx];simp)) (hev y (by rw[hx];simp)) (hag' x (by rw[hx];simp)) (hag' y (by rw[hx];simp)) hn
    ·rfl
   |copy=>
    simp only[Hc,ho]
    split
    ·rename_i x y t tx hx _
     exact Bad (hev x (by rw[hx];simp)) (hev y (by rw[hx];simp)) (hag' x (by rw[hx];simp)) (hag' y (by rw[hx];simp))
    ·rfl
   |max=>
    simp only[Hc,ho]
    split
    ·rename_i x y hx
     rw[hev x (by rw[hx];simp),hev y (by rw[hx];simp)]
    ·rfl
   |min=>
    simp only[Hc,ho]
    split
    ·rename_i x y hx
     rw[hev x (by rw[hx];simp),hev y (by rw[hx];simp)]
    ·rfl
   |_=>simp only[Hc,ho]
 |_=>simp only[Hc,ho]
end
theorem Na{α:Type}{c:Bool}{x:Option α}{r:α}:(bif c then x else none)=some r↔c=true∧x=some r:=by cases c<;>simp
theorem A8{α:Type}{c:Bool}{x:Option α}{r:α}:(bif c then none else x)=some r↔c=false∧x=some r:=by cases c<;>simp
section
variable{s s':AS} {G:Sf} {o:Oper} {Out:Type} {K:D→List (Nat×Option Ka)→Option Out} {out:Out}
theorem Gas{tb:Bool}{op:BinOp}{a b:D}(he:AZ tb op a b K=some out):∃d u,K d u=some out∧∀(Out':Type) (K':D→List (Nat×Option Ka)→Option Out'),AZ tb op a b K'=K' d u:=by
 unfold AZ at he⊢
 split at he
 ·split at he
  ·simp only[Na]at he;exact⟨_,_,he.2,fun _ _=>by simp[he.1]⟩
  ·simp only[Na]at he;exact⟨_,_,he.2,fun _ _=>by simp[he.1]⟩
  ·simp only[Na]at he
   obtain⟨hk,he⟩:=he
   simp only[hk,zg]
   split at he
   all_goals first
    |exact⟨_,_,he,fun _ _=>rfl⟩
    |(simp only[A8]at he;exact⟨_,_,he.2,fun _ _=>by simp[he.1]⟩)
    |simp at he
 ·split at he
  ·simp only[Na]at he;exact⟨_,_,he.2,fun _ _=>by simp[he.1]⟩
  ·exact⟨_,_,he,fun _ _=>rfl⟩
  ·exact⟨_,_,he,fun _ _=>rfl⟩
  ·simp at he
 ·split at he
  ·simp only[Na]at he;exact⟨_,_,he.2,fun _ _=>by simp[he.1]⟩
  ·simp only[Na]at he;exact⟨_,_,he.2,fun _ _=>by simp[he.1]⟩
  ·simp at he
 ·simp at he
theorem Gap{dst:Option Tmp}{f:FuncId}{args:List Operand}(he:FM G s dst f args K=some out):∃d u,K d u=some out∧∀(Out':Type) (K':D→List (Nat×Option Ka)→Option Out'),FM G s dst f args K'=K' d u:=by
 unfold FM at he⊢
 split at he
 ·rename_i h1
  split at he
  ·rename_i h2
   split at he
   ·rename_i h3
    simp only[qd]at he
    obtain⟨r,h4,he⟩:=he
    split at he
    ·rename_i h5
     split at he
     ·rename_i h6
      simp only[Na]at he
      exact⟨_,_,he.2,fun _ _=>by simp[h4,h5,h6,he.1]⟩
     ·simp at he
    ·simp at he
   ·simp at he
  ·simp at he
 ·rename_i h1
  split at he
  ·split at he
   ·rename_i h2 h3
    split at he
    ·rename_i h4 h5
     simp only[qd]at he
     obtain⟨r,h6,he⟩:=he
     split at he
     ·rename_i h7
      split at he
      ·rename_i h8
       simp only[Na]at he
       exact⟨_,_,he.2,fun _ _=>by simp[h6,h7,h8,he.1]⟩
      ·simp at he
     ·simp at he
    ·simp at he
   ·simp at he
  ·simp at he
 ·rename_i h1
  split at he
  ·rename_i h2
   split at he
   ·rename_i h3
    simp only[qd]at he
    obtain⟨r,h4,he⟩:=he
    split at he
    ·rename_i h5
     split at he
     ·rename_i h6
      simp only[Na]at he
      exact⟨_,_,he.2,fun _ _=>by simp[h4,h5,h6,he.1]⟩
     ·simp at he
    ·simp at he
   ·simp at he
  ·simp at he
 ·rename_i h1
  split at he
  ·split at he
   ·rename_i h2 h3
    split at he
    ·rename_i h4
     split at he
     ·rename_i h5 h6 h7
      simp only[qd]at he
      obtain⟨r,h8,he⟩:=he
      split at he
      ·rename_i h9
       split at he
       ·rename_i h10 h11
        simp only[Na]at he
        exact⟨_,_,he.2,fun _ _=>by simp only[h8,h9,h10,h11,jb,he.1,zg]⟩
       ·simp at he
      ·simp at he
     ·simp at he
    ·simp at he
   ·simp at he
  ·simp at he
 ·rename_i h1
  split at he
  ·rename_i h2
   split at he
   ·rename_i h3
    simp only[qd,Na]at he
    obtain⟨r,h4,h5,he⟩:=he
    exact⟨_,_,he,fun _ _=>by simp only[h4,jb,h5,zg]⟩
   ·simp at he
  ·simp at he
 ·simp at he
theorem Zac{dst:Option Tmp}{t tx:TypeId}{x y:Operand}(he:DD G s dst t tx x y K=some out):∃d u,K d u=some out∧∀(Out':Type) (K':D→List (Nat×Option Ka)→Option Out'),DD G s dst t tx x y K'=K' d u:=by
 unfold DD at he⊢
 split at he
 ·rename_i h1 h2 h3
  split at he
  ·rename_i h4 h5
   simp only[Na]at he
   exact⟨_,_,he.2.2,fun _ _=>by simp[he.1,he.2.1]⟩
  ·simp at he
 ·simp at he
theorem Qaa{dst:Option Tmp}{t tx:TypeId}{x y:Operand}(he:Iy G s dst t tx x y K=some out):∃d u,K d u=some out∧∀(Out':Type) (K':D→List (Nat×Option Ka)→Option Out'),Iy G s dst t tx x y K'=K' d u:=by
 unfold Iy at he⊢
 split at he
 ·split at he
  ·rename_i h4 h5
   split at he
   ·simp only[Na]at he
    exact⟨_,_,he.2.2,fun _ _=>by simp only[he.1,he.2.1,zg]⟩
   ·simp at he
  ·simp at he
 ·simp at he
theorem Fas{dst:Option Tmp}{t tx:TypeId}{x y:Operand}(he:BO G s dst t tx x y K=some out):∃d u,K d u=some out∧∀(Out':Type) (K':D→List (Nat×Option Ka)→Option Out'),BO G s dst t tx x y K'=K' d u:=by
 unfold BO at he⊢
 cases hml:PP G dst with
 |true=>rw[hml]at he;exact Qaa he
 |false=>rw[hml]at he;exact Zac he
theorem Hap{t tx:TypeId}{x y:Operand}(he:GM G s t tx x y K=some out):∃d u,K d u=some out∧∀(Out':Type) (K':D→List (Nat×Option Ka)→Option Out'),GM G s t tx x y K'=K' d u:=by
 unfold GM at he⊢
 split at he
 ·split at he
  ·rename_i h4
   split at he
   ·rename_i h5 h6
    simp only[Na]at he
    exact⟨_,_,he.2.2,fun _ _=>by simp[he.1,he.2.1]⟩
   ·simp at he
  ·simp at he
 ·simp at he
theorem E4{dst:Option Tmp}{τ:Ty}{id i:Nat}{e:Ty}{xs:List (T e)}{k:Nat}(he:KA s dst τ id i e xs k K=some out):
 ∃d u,K d u=some out∧∀(Out':Type) (K':D→List (Nat×Option Ka)→Option Out'),KA s dst τ id i e xs k K'=K' d u:=by
 unfold KA at he⊢
 split at he
 ·rename_i h1
  simp only[Na,qd]at he
  obtain⟨h2,x,h3,h4,h5⟩:=he
  exact⟨_,_,h5,fun _ _=>by simp only[h2,h3,jb,h4,zg]⟩
 ·simp at he
theorem Has{dst:Option Tmp}{t:TypeId}{id:Nat}{lo hi:Option Operand}(he:BZ G s dst t id lo hi K=some out):
 ∃d u,K d u=some out∧∀(Out':Type) (K':D→List (Nat×Option Ka)→Option Out'),BZ G s dst t id lo hi K'=K' d u:=by
 unfold BZ at he⊢
 split at he
 ·rename_i h1
  split at he
  ·rename_i h2 h3 h4
   split at he
   ·rename_i h5
    simp only[Na]at he
    obtain⟨h6,he⟩:=he
    split at he
    ·rename_i tt
     cases hm:VF G.mv tt with
     |true=>
      rw[hm]at he
      simp only[zg,Na]at he
      exact⟨_,_,he.2,fun _ _=>by simp only[h6,he.1,zg]⟩
     |false=>
      rw[hm]at he
      simp only[zh]at he
      exact⟨_,_,he,fun _ _=>by simp only[h6,zg,zh]⟩
    ·simp at he
   ·simp at he
  ·simp at he
 ·simp at he
theorem Iap{t:TypeId}{id a b:Nat}{lo hi:Option Operand}(he:QS G s t id a b lo hi K=some out):
 ∃d u,K d u=some out∧∀(Out':Type) (K':D→List (Nat×Option Ka)→Option Out'),QS G s t id a b lo hi K'=K' d u:=by
 unfold QS at he⊢
 split at he
 ·rename_i h1
  split at he
  ·rename_i h2 h3 h4
   split at he
   ·rename_i h5
    simp only[Na]at he
    exact⟨_,_,he.2,fun _ _=>by simp only[he.1,zg]⟩
   ·simp at he
  ·simp at he
 ·simp at he
theorem Jax(he:Hc G s o K=some out):∃d u,K d u=some out∧∀(Out':Type) (K':D→List (Nat×Option Ka)→Option Out'),Hc G s o K'=K' d u:=by
 cases ho:o.op with
 |move x=>simp only[Hc,ho]at he⊢;split at he<;>first|(simp at he;done)|(rename_i h1;exact⟨_,_,he,fun _ _=>by simp⟩)
 |assign x=>simp only[Hc,ho]at he⊢;split at he<;>first|(simp at he;done)|(rename_i h1;exact⟨_,_,he,fun _ _=>by simp⟩)
 |pick c x y=>
  simp only[Hc,ho]at he⊢
  split at he
  ·rename_i β hc
   cases hb:(show Bool from β)with
   |true=>
    have hb':β=true:=hb
    subst hb'
    simp only[zg]at he
    split at he
    ·rename_i h1;exact⟨_,_,he,fun _ _=>by simp⟩
    ·simp at he
   |false=>
    have hb':β=false:=hb
    subst hb'
    simp only[zh]at he
    split at he
    ·rename_i h1;exact⟨_,_,he,fun _ _=>by simp⟩
    ·simp at he
  ·simp at he
 |alloc t=>
  simp only[Hc,ho]at he⊢
  split at he
  ·rename_i h1 h2;simp only[Na]at he;exact⟨_,_,he.2,fun _ _=>by simp[he.1]⟩
  ·split at he
   ·rename_i h3;simp only[Na]at he;exact⟨_,_,he.2,fun _ _=>by simp only[he.1,zg]⟩
   ·simp at he
  ·simp at he
 |box t x=>
  simp only[Hc,ho]at he⊢
  split at he
  ·rename_i h1 h2 h3;simp only[Na]at he;exact⟨_,_,he.2,fun _ _=>by simp[he.1]⟩
  ·simp at he
 |build t ps=>
  simp only[Hc,ho]at he⊢
  split at he
  ·rename_i h1
   split at he
   ·rename_i h2;simp only[Na]at he;exact⟨_,_,he.2,fun _ _=>by simp[he.1]⟩
   ·simp at he
  ·simp at he
 |buildSlice t n ps=>
  simp only[Hc,ho]at he⊢
  split at he
  ·rename_i h1 h2
   split at he
   ·rename_i h3;simp only[Na]at he;exact⟨_,_,he.2,fun _ _=>by simp[he.1]⟩
   ·rename_i h3
    split at he
    ·rename_i h4;simp only[Na]at he;exact⟨_,_,he.2,fun _ _=>by simp[he.1]⟩
    ·simp at he
  ·simp at he
 |load t x=>
  simp only[Hc,ho]at he⊢
  split at he
  ·rename_i h1 h2
   split at he
   ·rename_i h3
    split at he
    ·rename_i h4 h5
     split at he
     ·rename_i h6;exact⟨_,_,he,fun _ _=>by simp⟩
     ·simp at he
    ·simp at he
   ·simp at he
  ·rename_i h1 h2
   split at he
   ·rename_i h3;exact⟨_,_,he,fun _ _=>by simp⟩
   ·simp at he
  ·rename_i h1 h2
   cases hml:PP G o.dst with
   |true=>
    rw[hml]at he
    simp only[zg]at he
    split at he
    ·rename_i h3;obtain⟨d,u,g1,g2⟩:=E4 he;exact⟨d,u,g1,fun _ _=>by simp only[zg];exact g2 _ _⟩
    ·rename_i h3;obtain⟨d,u,g1,g2⟩:=E4 he;exact⟨d,u,g1,fun _ _=>by simp only[zg];exact g2 _ _⟩
    ·simp at he
   |false=>
   rw[hml]at he
   simp only[zh]at he
   split at he
   ·rename_i h3
    simp only[qd]at he
    obtain⟨z,hz,he⟩:=he
    split at he
    ·rename_i τ' y h4 h5
     split at he
     ·rename_i h6
      cases hc:((!_||Ty.flat _)||Ty.flat _)with
      |true=>
       rw[hc]at he
       exact⟨_,_,he,fun _ _=>by simp only[zh,hz,jb,h4,h5,h6,hc,zg]⟩
      |false=>
       rw[hc]at he
       simp only[zh]at he
       split at he
       ·rename_i h7
        simp only[Na]at he
        obtain⟨hc2,he⟩:=he
        exact⟨_,_,he,fun _ _=>by simp only[hz,jb,h4,h5,h6,hc,zh,h7,hc2,zg]⟩
       ·simp at he
     ·simp at he
    ·simp at he
   ·simp at he
  ·simp at he
 |store t x y=>
  simp only[Hc,ho]at he⊢
  split at he
  ·rename_i h1 h2 h3
   split at he
   ·rename_i h4
    split at he
    ·rename_i h5 h6
     split at he
     ·rename_i h7;simp only[Na]at he;exact⟨_,_,he.2,fun _ _=>by simp[he.1]⟩
     ·simp at he
    ·simp at he
   ·simp at he
  ·rename_i h1 h2 h3
   split at he
   ·rename_i e dp xs h4
    split at he
    ·rename_i h5
     split at he
     ·rename_i h6
      cases hf:(dp||e.flat)with
      |true=>
       rw[hf]at he
       simp only[zg]at he
       split at he
       ·rename_i h7
        simp only[Na,qd]at he
        obtain⟨hc,z,hz,he⟩:=he
        split at he
        ·rename_i h8;exact⟨_,_,he,fun _ _=>by simp only[hc,zg,hz,jb,h8]⟩
        ·simp at he
       ·simp at he
      |false=>
       rw[hf]at he
       simp only[zh]at he
       split at he
       ·rename_i h7
        simp only[qd]at he
        obtain⟨z,hz,he⟩:=he
        split at he
        ·rename_i h8;exact⟨_,_,he,fun _ _=>by simp only[zh,hz,jb,h8]⟩
        ·simp at he
       ·simp at he
     ·simp at he
    ·simp at he
   ·split at he
    ·rename_i h5
     split at he
     ·rename_i h6
      split at he
      ·rename_i h7
       simp only[Na]at he
       obtain⟨hc,hd,he⟩:=he
       split at he
       ·rename_i h8;exact⟨_,_,he,fun _ _=>by simp only[hc,hd,zg]⟩
       ·simp at he
      ·simp at he
     ·simp at he
    ·simp at he
   ·simp at he
  ·simp at he
 |nilCheck x=>
  simp only[Hc,ho]at he⊢
  split at he
  ·rename_i h1
   split at he
   ·rename_i h2;exact⟨_,_,he,fun _ _=>by simp⟩
   ·simp at he
  ·rename_i h1;exact⟨_,_,he,fun _ _=>by simp⟩
  ·rename_i h1
   split at he
   ·exact⟨_,_,he,fun _ _=>by simp only⟩
   ·simp at he
  ·simp at he
 |binOp op t x y t'=>
  simp only[Hc,ho]at he⊢
  split at he
  ·rename_i u v h1 h2
   cases ha:u.isAgg with
   |true=>
    rw[ha]at he
    simp only[zg]at he
    split at he
    ·rename_i h3
     split at he
     ·rename_i h4 h5
      simp only[Na]at he
      obtain⟨hc,he⟩:=he
      split at he
      ·exact⟨_,_,he,fun _ _=>by simp only[zg,h3,hc]⟩
      ·exact⟨_,_,he,fun _ _=>by simp only[zg,h3,hc]⟩
      ·simp at he
     ·simp at he
    ·simp at he
   |false=>
    rw[ha]at he
    simp only[zh]at he
    obtain⟨d,u',h3,h4⟩:=Gas he
    exact⟨d,u',h3,fun _ _=>by simp only[zh];exact h4 _ _⟩
  ·simp at he
 |unOp op t x=>
  simp only[Hc,ho]at he⊢
  split at he
  ·rename_i h1;exact⟨_,_,he,fun _ _=>by simp⟩
  ·rename_i h1;exact⟨_,_,he,fun _ _=>by simp⟩
  ·simp at he
 |convert src t x=>
  simp only[Hc,ho]at he⊢
  split at he
  ·rename_i h1 h2 h3;exact⟨_,_,he,fun _ _=>by simp⟩
  ·rename_i h1 h2 h3;exact⟨_,_,he,fun _ _=>by simp⟩
  ·rename_i h1 h2 h3
   split at he
   ·rename_i h4;exact⟨_,_,he,fun _ _=>by simp only⟩
   ·simp at he
  ·rename_i h1 h2 h3;simp only[Na]at he;exact⟨_,_,he.2,fun _ _=>by simp[he.1]⟩
  ·simp at he
 |slice t x lo hi mx=>
  cases mx with
  |some m=>simp[Hc,ho]at he
  |none=>
   simp only[Hc,ho]at he⊢
   split at he
   ·rename_i h1
    split at he
    ·rename_i h2 h3 h4;simp only[Na]at he;exact⟨_,_,he.2,fun _ _=>by simp only[he.1,zg]⟩
    ·simp at he
   ·rename_i h1
    split at he
    ·rename_i h2 h3 h4
     split at he
     ·rename_i h5;simp only[Na]at he;exact⟨_,_,he.2,fun _ _=>by simp only[he.1,zg]⟩
     ·simp at he
    ·simp at he
   ·exact Has he
   ·split at he
    ·simp only[Na]at he
     exact⟨_,_,he.2,fun _ _=>by simp only[he.1,zg]⟩
    ·simp at he
   ·exact Iap he
   ·simp at he
 |fieldAddr t x f=>
  simp only[Hc,ho]at he⊢
  split at he
  ·rename_i h1 h2
   split at he
   ·rename_i h3
    split at he
    ·rename_i h4 h5
     split at he
     ·rename_i h6;simp only[Na]at he;exact⟨_,_,he.2,fun _ _=>by simp only[he.1,zg]⟩
     ·simp at he
    ·simp at he
   ·simp at he
  ·rename_i h1 h2
   split at he
   ·rename_i h3
    split at he
    ·rename_i h4 h5
     split at he
     ·rename_i h6;simp only[Na]at he;exact⟨_,_,he.2,fun _ _=>by simp only[he.1,zg]⟩
     ·simp at he
    ·simp at he
   ·simp at he
  ·rename_i h1 h2
   split at he
   ·rename_i h3 h4 h5;simp only[Na]at he;exact⟨_,_,he.2,fun _ _=>by simp only[he.1,zg]⟩
   ·simp at he
  ·simp at he
 |field t x f=>
  simp only[Hc,ho]at he⊢
  split at he
  ·rename_i h1 h2
   simp only[Na]at he
   obtain⟨hc,he⟩:=he
   split at he
   ·rename_i h3 h4;exact⟨_,_,he,fun _ _=>by simp only[hc,zg]⟩
   ·simp at he
  ·simp at he
 |indexAddr t x i=>
  simp only[Hc,ho]at he⊢
  split at he
  ·rename_i h1 h2 h3
   split at he
   ·rename_i h4
    simp only[qd]at he
    obtain⟨z,hz,he⟩:=he
    exact⟨_,_,he,fun _ _=>by simp only[hz,jb]⟩
   ·simp at he
  ·rename_i h1 h2 h3
   split at he
   ·rename_i h4
    split at he
    ·rename_i h5;simp only[Na]at he;exact⟨_,_,he.2,fun _ _=>by simp only[he.1,zg]⟩
    ·simp at he
   ·simp at he
  ·rename_i h1 h2 h3
   split at he
   ·rename_i h4
    split at he
    ·rename_i h5;simp only[Na]at he;exact⟨_,_,he.2,fun _ _=>by simp only[he.1,zg]⟩
    ·simp at he
   ·simp at he
  ·rename_i h1 h2 h3
   split at he
   ·rename_i h4 h5
    split at he
    ·rename_i h6;simp only[Na]at he;exact⟨_,_,he.2.2,fun _ _=>by simp only[he.1,he.2.1,zg]⟩
    ·simp at he
   ·simp at he
  ·simp at he
 |index t x i=>
  simp only[Hc,ho]at he⊢
  split at he
  ·rename_i h1 h2 h3
   simp only[qd]at he
   obtain⟨z,hz,he⟩:=he
   exact⟨_,_,he,fun _ _=>by simp only[hz,jb]⟩
  ·simp at he
 |makeSlice t l c=>
  simp only[Hc,ho]at he⊢
  split at he
  ·rename_i h1 h2 h3 h4;simp only[Na]at he;exact⟨_,_,he.2.2,fun _ _=>by simp only[he.1,he.2.1,zg]⟩
  ·simp at he
 |extract x n=>
  simp only[Hc,ho]at he⊢
  split at he
  ·rename_i h1
   split at he
   ·rename_i h2;exact⟨_,_,he,fun _ _=>by simp⟩
   ·simp at he
  ·simp at he
 |call c=>
  obtain⟨callee,args,ts⟩:=c
  cases callee with
  |value f=>
   cases f with
   |func f=>simp only[Hc,ho]at he⊢;exact Gap he
   |_=>simp[Hc,ho]at he
  |invoke r m=>simp[Hc,ho]at he
  |builtin b=>
   cases b with
   |len=>
    simp only[Hc,ho]at he⊢
    split at he
    ·rename_i h1 h2
     split at he
     ·rename_i h3 h4;exact⟨_,_,he,fun _ _=>by simp only⟩
     ·rename_i h3 h4;exact⟨_,_,he,fun _ _=>by simp only⟩
     ·rename_i h3 h4;exact⟨_,_,he,fun _ _=>by simp only⟩
     ·rename_i h3 h4
      split at he
      ·rename_i h5;exact⟨_,_,he,fun _ _=>by simp only⟩
      ·simp at he
     ·rename_i h3 h4
      split at he
      ·rename_i h5;exact⟨_,_,he,fun _ _=>by simp only⟩
      ·simp at he
     ·simp at he
    ·simp at he
   |append=>
    simp only[Hc,ho]at he⊢
    split at he
    ·rename_i h1 h2
     exact Fas he
    ·simp at he
   |copy=>
    simp only[Hc,ho]at he⊢
    split at he
    ·exact Hap he
    ·simp at he
   |max=>
    simp only[Hc,ho]at he⊢
    split at he
    ·rename_i h1
     split at he
     ·rename_i h2 h3;simp only[Na]at he;exact⟨_,_,he.2,fun _ _=>by simp only[he.1,zg]⟩
     ·simp at he
    ·simp at he
   |min=>
    simp only[Hc,ho]at he⊢
    split at he
    ·rename_i h1
     split at he
     ·rename_i h2 h3;simp only[Na]at he;exact⟨_,_,he.2,fun _ _=>by simp only[he.1,zg]⟩
     ·simp at he
    ·simp at he
   |_=>simp[Hc,ho]at he
 |_=>simp[Hc,ho]at he
end
section
variable{P:Program} {Out:Type} {n0:Nat} {A:Fx} {O0:Nat→Prop} {w0 w w':World} {s s':AS} {σ σ':Nat→Value} {φ φ':Nat→List Nat} {a:Act}
variable{o:Oper} {Q:Exit→Act→World→Prop} {k:AS→Option Out} {out:Out} {d:D} {v:Value} {upd:List (Nat×Option Ka)} {dst:Option Tmp} {G:Sf}
structure Eqv(s s':AS):Prop where
 n:s'.n=s.n
 tm:∀t,Xb s'.tm t=Xb s.tm t
 hp:∀id,s'.heap id=s.heap id
theorem Eqv.refl(s:AS):Eqv s s:=⟨rfl,fun _=>rfl,fun _=>rfl⟩
theorem Eqv.trans{s1 s2 s3:AS}(h:Eqv s1 s2)(h':Eqv s2 s3):Eqv s1 s3:=⟨h'.n.trans h.n,fun t=>(h'.tm t).trans (h.tm t),fun id=>(h'.hp id).trans (h.hp id)⟩
theorem Eqv.symm{s1 s2:AS}(h:Eqv s1 s2):Eqv s2 s1:=⟨h.n.symm,fun t=>(h.tm t).symm,fun id=>(h.hp id).symm⟩
theorem Db.eqv(h:Db n0 A O0 w0 s σ φ a w)(he:Eqv s s'):Db n0 A O0 w0 s' σ φ a w:=by
 have hh:s'.heap=s.heap:=funext he.hp
 have hO:OO O0 s' φ=OO O0 s φ:=by
  funext b
  simp only[OO,hh]
 refine⟨by rw[he.n];exact h.sz,h.df,?_,?_,?_,?_,?_,h.o0,h.fr,h.pin,h.iv0,h.ivw,fun id kk e xs hb=>by rw[hO];exact h.shr id kk e xs (by rw[←hh];exact hb)⟩
 ·intro t d hd
  rw[he.tm]at hd
  rw[hO,hh]
  exact h.tm t d hd
 ·intro id Ga hb
  rw[hh]at hb
  rw[hO,hh]
  exact h.hp id Ga hb
 ·intro id Ga hb
  rw[hh]at hb
  exact h.nodup id Ga hb
 ·intro id id' Ga blk' hne hb hb'
  rw[hh]at hb hb'
  exact h.disj id id' Ga blk' hne hb hb'
 ·intro id Ga hb
  rw[hh]at hb
  exact h.fresh id Ga hb
theorem OY(h:Db n0 A O0 w0 s σ φ a w){ops:Array Oper}{j:Nat}{t:Tmp}{β:Bool}(hj:(ops[j]?).bind (·.dst)=some t)(hd:Xb s.tm t=some (.t .b β)):
 yielded ops a.tmps j=some β:=by
 obtain⟨v,hv,hr⟩:=h.tm t _ hd
 rw[Xk]at hr
 subst hr
 unfold yielded
 rw[hj,jb,hv]
theorem W0(h:Db n0 A O0 w0 s σ φ a w){ops:Array Oper}{j:Nat}{t:Tmp}(hj:(ops[j]?).bind (·.dst)=some t)(hd:Xb s.tm t=some .und):
 yielded ops a.tmps j=none:=by
 obtain⟨v,hv,hr⟩:=h.tm t _ hd
 rw[BE]at hr
 subst hr
 unfold yielded
 rw[hj,jb,hv]
 rfl
theorem Nf.mono{K:Act→World→Prop}(h:∀s σ φ a w,k s=some out→Db n0 A O0 w0 s σ φ a w→K a w){a:Act}{w:World}(hg:Nf n0 A O0 w0 k out a w):K a w:=by
 obtain⟨s,σ,φ,h1,h2⟩:=hg
 exact h s σ φ a w h1 h2
theorem Mam(h:Db n0 A O0 w0 s σ φ a w)(he:Xi s dst .und [] k=some out):Nf n0 A O0 w0 k out (a.put dst undef) w:=Pc h (BE.2 rfl) he
theorem Aar{n i:Nat}(h:i<n):(y3 n).drop i=i::(y3 n).drop (i+1):=by
 rw[List.drop_eq_getElem_cons (by simpa using h)]
 simp
theorem Yah(hG:Kn P A.I G)(hfz:WR G A O0){r:Nat}{ops:Array Oper}(hQ:∀s σ φ a w,k s=some out→Db n0 A O0 w0 s σ φ a w→Q .normal a w):∀(l:List Oper) (i:Nat) (s:AS) (σ:Nat→Value) (φ:Nat→List Nat) (a:Act) (w:World),
 ops.toList.drop i=l→ZJ G r ops l i s k=some out→Db n0 A O0 w0 s σ φ a w→wpOps P ops Q ((y3 ops.size).drop i) a w
 |[],i,s,σ,φ,a,w,hl,he,h=>by
  have hi:ops.size≤i:=by
   have:=congrArg ja hl
   simp at this
   omega
  rw[List.drop_eq_nil_of_le (by simpa using hi)]
  exact hQ s σ φ a w he h
 |o::l,i,s,σ,φ,a,w,hl,he,h=>by
  have hi:i<ops.size:=by
   have:=congrArg ja hl
   simp at this
   omega
  have hoi:ops[i]?=some o:=by
   have h1:=congrArg (·[0]?) hl
   simpa using h1
  have hl':ops.toList.drop (i+1)=l:=by
   have h1:=congrArg (List.drop 1) hl
   simpa[qq,Nat.add_comm]using h1
  have next:∀a w,Nf n0 A O0 w0 (fun s'=>ZJ G r ops l (i+1) s' k) out a w→wpOps P ops Q ((y3 ops.size).drop (i+1)) a w:=by
   rintro a w ⟨s',σ',φ',h1,h2⟩
   exact Yah hG hfz hQ l (i+1) s' σ' φ' a w hl' h1 h2
  simp only[ZJ]at he
  split at he
  ·simp at he
  rename_i s1 hat
  obtain⟨φ1,h⟩:=AK hfz h hat
  have run:∀s,Db n0 A O0 w0 s σ φ1 a w→P6 G s o (fun s'=>ZJ G r ops l (i+1) s' k)=some out→o.wp P a w (wpOps P ops Q ((y3 ops.size).drop (i+1))) Q:=fun s hs hop=>
   Oper.wp_mono next (XaD hG hfz hs hop)
  have skp:∀s,Db n0 A O0 w0 s σ φ1 a w→Xi s o.dst .und [] (fun s'=>ZJ G r ops l (i+1) s' k)=some out→wpOps P ops Q ((y3 ops.size).drop (i+1)) (a.put o.dst undef) w:=fun s hs hop=>
   next _ _ (Mam hs hop)
  rw[Aar hi]
  simp only[wpOps,hoi]
  cases hg:o.guard with
  |none=>
   rw[hg]at he
   have hw:Region.wanted o (yielded ops a.tmps)=true:=by simp[Region.wanted,hg]
   rw[if_pos hw]
   exact .inl (run s1 h he)
  |some g=>
   obtain⟨j,want⟩:=g
   rw[hg]at he
   simp only at he
   split at he
   ·rename_i t ht
    split at he
    ·rename_i β hd
     have hy:=OY h ht hd
     have hwd:Region.wanted o (yielded ops a.tmps)=(some β==some want):=by simp[Region.wanted,hg,hy]
     have hs:=h.same hd
     rw[hwd]
     cases hβ:(show Bool from β)with
     |true=>
      have hβ':β=true:=hβ
      subst hβ'
      simp only[zg]at he
      cases want with
      |true=>rw[if_pos (by rfl)];exact .inl (run _ hs he)
      |false=>rw[if_neg (by simp)];exact skp _ hs he
     |false=>
      have hβ':β=false:=hβ
      subst hβ'
      simp only[zh]at he
      cases want with
      |true=>rw[if_neg (by simp)];exact skp _ hs he
      |false=>rw[if_pos (by rfl)];exact .inl (run _ hs he)
    ·rename_i hd
     have hy:=W0 h ht hd
     have hwd:Region.wanted o (yielded ops a.tmps)=false:=by simp[Region.wanted,hg,hy]
     rw[hwd,if_neg (by simp)]
     exact skp _ h he
    ·simp at he
   ·simp at he
end
abbrev Ef:=D×List (Nat×Option Ka)
def UZ(G:Sf)(s:AS)(o:Oper)(e:Ef):Prop:=∀(Out':Type) (K':D→List (Nat×Option Ka)→Option Out'),Hc G s o K'=K' e.1 e.2
theorem UZ.congr{G:Sf}{s s':AS}{o:Oper}{e:Ef}(h:UZ G s o e)(ha:Agr s s' o):UZ G s' o e:=fun Out' K'=>(Jap ha).trans (h Out' K')
def putE(s:AS)(dst:Option Tmp)(e:Ef):AS:=⟨s.n,(match dst with|some t=>[(t,e.1)]|none=>[])++s.tm,e.2++s.hp⟩
def TT(G:Sf)(ops:Array Oper)(s:AS)(o:Oper)(e:Ef):Prop:=
 match o.guard with
 |none=>UZ G s o e
 |some (j,want)=>∃t,(ops[j]?).bind (·.dst)=some t∧((∃β:Bool,Xb s.tm t=some (.t .b β)∧(if β=want then UZ G s o e else e=(.und,[])))∨(Xb s.tm t=some .und∧e=(.und,[])))
def We(ops:Array Oper)(E:Nat→Ef)(L:Nat→Bool)(s0:AS):Nat→AS
 |0=>s0
 |m+1=>match ops[m]? with
  |some o=>bif L m then putE (We ops E L s0 m) o.dst (E m)else We ops E L s0 m
  |none=>We ops E L s0 m
structure Fax(H:List Nat)(ops:Array Oper)(s:AS)(o:Oper)(e:Ef)(f:FP):Prop where
 wt:f.wt=o.dst
 wi:f.wi=e.2.map (·.1)
 mi:f.mi=e.1.ids++Gy e.2
 rt:∀t,t∈Dv (Yd o.op)→t∈f.rt
 rg:∀j want t,o.guard=some (j,want)→(ops[j]?).bind (·.dst)=some t→t∈f.rt
 ri:DI o.op=false→∀x,x∈Yd o.op→∀d,s.ev x=some d→∀id,(d.ment id=true∨(MK o.op=true∧id∈YO s d))→id∈f.ri∨(Li o.op=true∧id∈H)
def XV(H:List Nat)(s:AS)(e:Ef):Prop:=∀id,id∈H→id∈e.2.map (·.1)→((Xb e.2 id).join).map Ka.kind=(s.heap id).map Ka.kind
structure PM(G:Sf)(H:List Nat)(ops:Array Oper)(s0:AS)(E:Nat→Ef)(F:Nat→FP)(anc:Nat→List Nat)(m:Nat)(o:Oper):Prop where
 step:TT G ops (We ops E (fun _=>true) s0 m) o (E m)
 fp:Fax H ops (We ops E (fun _=>true) s0 m) o (E m) (F m)
 dst:∀t,o.dst=some t→t<s0.n
 back:∀e,e∈o.after.toList→Region.binds .any e=true→e.on<m
 up:∀x,x∈anc m→∃e,e∈o.after.toList∧Region.binds .any e=true∧(x=e.on∨x∈anc e.on)
 ind:∀j,j<m→j∈anc m∨C5 (F j) (F m)=true
 hard:XV H (We ops E (fun _=>true) s0 m) (E m)
theorem OU{l:List Nat}{x:Nat}:VF l x=true↔x∈l:=by
 unfold VF
 rw[qy]
 constructor
 ·rintro⟨y,hy,he⟩
  have:=ju he
  exact this▸hy
 ·intro h;exact⟨x,h,yj x⟩
theorem KG{l m:List Nat}(h:ER l m=false):∀x,x∈l→x∉m:=by
 intro x hx hm
 have:ER l m=true:=by
  unfold ER
  rw[qy]
  exact⟨x,hx,OU.2 hm⟩
 rw[h]at this;simp at this
theorem KV{t:Option Nat}{l:List Nat}(h:Zag t l=false):∀x,t=some x→x∉l:=by
 rintro x rfl hm
 simp only[Zag]at h
 rw[OU.2 hm]at h;simp at h
theorem L0{dst:Option Nat}{l:List Nat}(h:N5 dst l=false):∀id,Xm dst id→id∉l:=by
 intro id hn hm
 have:N5 dst l=true:=by
  unfold N5
  cases dst with
  |some t=>
   simp only[]
   rw[qy]
   refine⟨id,hm,?_⟩
   rcases hn with hn|hn
   ·simp only[jc]at hn
    subst hn
    simp
   ·simp only[qz]at hn
    have h1:jx (100000+64*t) id=true:=ji hn.1
    have h2:yb id (100064+64*t)=true:=by rw[ye];exact hn.2
    simp[h1,h2]
  |none=>
   simp only[]
   rw[qy]
   refine⟨id,hm,?_⟩
   rcases hn with hn|hn
   ·simp at hn
   ·simp only[Option.getD_none]at hn
    have hn1:100000≤id:=by simpa using hn.1
    have hn2:id<100064:=by simpa using hn.2
    have h1:jx 100000 id=true:=ji hn1
    have h2:yb id 100064=true:=by rw[ye];exact hn2
    simp[h1,h2]
 rw[h]at this;simp at this
structure BL(f g:FP):Prop where
 t1:∀x,f.wt=some x→x∉g.rt
 t2:∀x,g.wt=some x→x∉f.rt
 t3:∀x,f.wt=some x→g.wt≠some x
 i1:∀x,x∈f.wi→x∉g.ri
 i2:∀x,x∈g.wi→x∉f.ri
 i3:∀x,x∈f.wi→x∉g.wi
 n1:∀id,Xm f.wt id→id∉g.mi
 n2:∀id,Xm g.wt id→id∉f.mi
theorem BL.symm{f g:FP}(h:BL f g):BL g f:=
 ⟨h.t2,h.t1,fun x hx hf=>h.t3 x hf hx,h.i2,h.i1,fun x hx hf=>h.i3 x hf hx,h.n2,h.n1⟩
theorem Lae{f g:FP}(h:C5 f g=true):BL f g:=by
 simp only[C5,jd,yl]at h
 obtain⟨⟨⟨⟨⟨⟨⟨h1,h2⟩,h3⟩,h4⟩,h5⟩,h6⟩,h7⟩,h8⟩:=h
 refine⟨KV h1,KV h2,fun x hx hg=>?_,KG h4,KG h5,KG h6,L0 h7,L0 h8⟩
 exact KV h3 x hx (by rw[hg];simp)
theorem KP:∀{d:D} {id:Nat},d.ment id=true↔id∈d.ids:=by
 intro d
 induction d with
 |pr a b iha ihb=>intro id;simp[D.ment,D.ids,iha,ihb]
 |tup d ih=>intro id;simp only[D.ment,D.ids];exact ih
 |own j=>intro id;simp only[D.ment,D.ids,qb];exact⟨fun h=>(ju h).symm,fun h=>by rw[h];exact yj _⟩
 |mpo j=>intro id;simp only[D.ment,D.ids,qb];exact⟨fun h=>(ju h).symm,fun h=>by rw[h];exact yj _⟩
 |cut j lo hi=>intro id;simp only[D.ment,D.ids,qb];exact⟨fun h=>(ju h).symm,fun h=>by rw[h];exact yj _⟩
 |ptr j p=>intro id;simp only[D.ment,D.ids,qb];exact⟨fun h=>(ju h).symm,fun h=>by rw[h];exact yj _⟩
 |eptr j i p=>intro id;simp only[D.ment,D.ids,qb];exact⟨fun h=>(ju h).symm,fun h=>by rw[h];exact yj _⟩
 |_=>intro id;simp[D.ment,D.ids]
theorem NS{id:Nat}:∀{u:List (Nat×Option Ka)},(u.any fun x=>(x.2.map (Ka.ment id)).getD false)=true↔id∈Gy u
 |[]=>by simp[Gy]
 |(j,none)::r=>by
  simp only[List.any_cons,Gy,Option.map_none,Option.getD_none,yu]
  exact NS (u:=r)
 |(j,some b)::r=>by
  simp only[List.any_cons,Gy,qa,qz,qx,jl]
  rw[NS (u:=r)]
  refine or_congr ?_ Iff.rfl
  cases b with
  |box ρ d=>simp only[Ka.ment,Ka.ids];exact KP
  |row e dp xs=>simp[Ka.ment,Ka.ids]
  |hol e xs i x p τ d=>simp only[Ka.ment,Ka.ids];exact KP
  |mov e xs k=>simp[Ka.ment,Ka.ids]
  |mp k v xs=>simp[Ka.ment,Ka.ids]
  |mq k v xs=>simp[Ka.ment,Ka.ids]
  |mx k v xs=>simp[Ka.ment,Ka.ids]
  |fz e xs=>simp[Ka.ment,Ka.ids]
section
variable{s s':AS} {e:Ef} {dst:Option Tmp} {G:Sf} {ops:Array Oper}
theorem ZE{t:Nat}:Xb (putE s dst e).tm t=if dst=some t then some e.1 else Xb s.tm t:=by
 cases dst with
 |none=>simp[putE]
 |some t'=>simp[putE,Id]
theorem Bah{α:Type}{l m:List (Nat×α)}{k:Nat}:Xb (l++m) k=if k∈l.map (·.1)then Xb l k else Xb m k:=by
 induction l with
 |nil=>simp
 |cons p l ih=>
  obtain⟨j,a⟩:=p
  rw[yh,Id,Id,ih]
  by_cases h:j=k
  ·subst h;simp
  ·have h':¬k=j:=fun e=>h e.symm
   have hk:k∈((j,a)::l).map (·.1)↔k∈l.map (·.1):=by simp[h']
   simp only[hk,if_neg h]
theorem BB{id:Nat}:(putE s dst e).heap id=if id∈e.2.map (·.1)then(Xb e.2 id).join else s.heap id:=by
 simp only[AS.heap,putE,Bah]
 split<;>rfl
theorem Iaz{id:Nat}(h:id∉e.1.ids++Gy e.2):(putE s dst e).newOk id=s.newOk id:=by
 rw[jl,not_or]at h
 have h1:e.1.ment id=false:=by rw[←j8];exact fun hm=>h.1 (KP.1 hm)
 have h2:(e.2.any fun x=>(x.2.map (Ka.ment id)).getD false)=false:=by rw[←j8];exact fun hm=>h.2 (NS.1 hm)
 unfold AS.newOk
 congr 2
 simp only[AS.ment,putE,List.any_append,h2,yu]
 cases dst with
 |none=>simp
 |some t=>simp[h1]
theorem B7{x:Operand}{l:List Operand}(hx:x∈l)(h:∀t,t∈Dv l→Xb s'.tm t=Xb s.tm t):s'.ev x=s.ev x:=by
 cases x with
 |tmp t=>
  refine h t ?_
  induction l with
  |nil=>simp at hx
  |cons y l ih=>
   rcases jp.1 hx with e|hx2
   ·subst e;simp[Dv]
   ·cases y with
    |tmp t'=>simp only[Dv];exact jr _ (ih (fun t ht=>h t (by simp only[Dv];exact jr _ ht)) hx2)
    |const v=>simp only[Dv];exact ih (fun t ht=>h t (by simp only[Dv];exact ht)) hx2
    |global g=>simp only[Dv];exact ih (fun t ht=>h t (by simp only[Dv];exact ht)) hx2
    |func g=>simp only[Dv];exact ih (fun t ht=>h t (by simp only[Dv];exact ht)) hx2
 |_=>rfl
theorem Iaa{E:Nat→Ef}{F:Nat→FP}{L L':Nat→Bool}{s0:AS}{f:FP}
 (hF:∀m o,ops[m]?=some o→(F m).wt=o.dst∧(F m).wi=(E m).2.map (·.1)∧(F m).mi=(E m).1.ids++Gy (E m).2)
 (hd:∀m,m<ops.size→L m≠L' m→BL (F m) f):∀m,m≤ops.size→
 (∀t,t∈f.rt→Xb (We ops E L s0 m).tm t=Xb (We ops E L' s0 m).tm t)∧(∀id,id∈f.ri→(We ops E L s0 m).heap id=(We ops E L' s0 m).heap id)∧
  (∀id,Xm f.wt id→(We ops E L s0 m).newOk id=(We ops E L' s0 m).newOk id)
 |0,_=>⟨fun _ _=>rfl,fun _ _=>rfl,fun _ _=>rfl⟩
 |m+1,hm=>by
  obtain⟨h1,h2,h3⟩:=Iaa hF hd m (by omega)
  have hom:ops[m]?=some ops[m]:=Array.getElem?_eq_getElem (by omega)
  obtain⟨g1,g2,g3⟩:=hF m _ hom
  simp only[We,hom]
  have apart:L m≠L' m→BL (F m) f:=hd m (by omega)
  have p1:∀(S:AS) t,L m≠L' m→t∈f.rt→Xb (putE S ops[m].dst (E m)).tm t=Xb S.tm t:=by
   intro S t hne ht
   rw[ZE,if_neg]
   intro hdst
   exact(apart hne).t1 t (g1.trans hdst) ht
  have p2:∀(S:AS) id,L m≠L' m→id∈f.ri→(putE S ops[m].dst (E m)).heap id=S.heap id:=by
   intro S id hne hid
   rw[BB,if_neg]
   intro hk
   exact(apart hne).i1 id (by rw[g2];exact hk) hid
  have p3:∀(S:AS) id,L m≠L' m→Xm f.wt id→(putE S ops[m].dst (E m)).newOk id=S.newOk id:=by
   intro S id hne hid
   refine Iaz ?_
   rw[←g3]
   exact(apart hne).n2 id hid
  cases hL:L m<;>cases hL':L' m<;>simp only[zg,zh]
  ·exact⟨h1,h2,h3⟩
  ·have hne:L m≠L' m:=by rw[hL,hL'];simp
   exact⟨fun t ht=>(h1 t ht).trans (p1 _ t hne ht).symm,fun id hid=>(h2 id hid).trans (p2 _ id hne hid).symm,fun id hid=>(h3 id hid).trans (p3 _ id hne hid).symm⟩
  ·have hne:L m≠L' m:=by rw[hL,hL'];simp
   exact⟨fun t ht=>(p1 _ t hne ht).trans (h1 t ht),fun id hid=>(p2 _ id hne hid).trans (h2 id hid),fun id hid=>(p3 _ id hne hid).trans (h3 id hid)⟩
  ·refine⟨fun t ht=>?_,fun id hid=>?_,fun id hid=>?_⟩
   ·rw[ZE,ZE,h1 t ht]
   ·rw[BB,BB,h2 id hid]
   ·have e0:=h3 id hid
    unfold AS.newOk at e0⊢
    simp only[AS.ment,putE,List.any_append]at e0⊢
    revert e0
    generalize((match ops[m].dst with|some t=>[(t,(E m).1)]|none=>[]).any fun x=>x.2.ment id)=b1
    generalize((E m).2.any fun x=>(x.2.map (Ka.ment id)).getD false)=b2
    generalize((We ops E L s0 m).tm.any fun x=>x.2.ment id)=c1
    generalize((We ops E L s0 m).hp.any fun x=>(x.2.map (Ka.ment id)).getD false)=c2
    generalize((We ops E L' s0 m).tm.any fun x=>x.2.ment id)=d1
    generalize((We ops E L' s0 m).hp.any fun x=>(x.2.map (Ka.ment id)).getD false)=d2
    generalize yb id 500000=z
    cases b1<;>cases b2<;>cases c1<;>cases c2<;>cases d1<;>cases d2<;>cases z<;>simp
theorem G3{E:Nat→Ef}{H:List Nat}{s0:AS}:∀(m:Nat),m≤ops.size→(∀j o,j<m→ops[j]?=some o→XV H (We ops E (fun _=>true) s0 j) (E j))→∀id,id∈H→∀L:Nat→Bool,((We ops E L s0 m).heap id).map Ka.kind=(s0.heap id).map Ka.kind
 |0,_,_,_,_,_=>rfl
 |m+1,hm,hh,id,hid,L=>by
  have ih:=G3 m (by omega) (fun j o hj=>hh j o (by omega)) id hid
  have hom:ops[m]?=some ops[m]:=Array.getElem?_eq_getElem (by omega)
  simp only[We,hom]
  cases hL:L m with
  |false=>simp only[zh];exact ih L
  |true=>
   simp only[zg]
   rw[BB]
   split
   ·rename_i hk
    rw[hh m _ (by omega) hom id hid hk]
    exact ih _
   ·exact ih L
theorem E6{E:Nat→Ef}{L:Nat→Bool}{s0:AS}:∀m,(We ops E L s0 m).n=s0.n
 |0=>rfl
 |m+1=>by
  simp only[We]
  split
  ·cases L m with
   |true=>simp only[zg,putE];exact E6 m
   |false=>simp only[zh];exact E6 m
  ·exact E6 m
theorem ME{E E':Nat→Ef}{L L':Nat→Bool}{s0:AS}:∀m,(∀j,j<m→E j=E' j∧L j=L' j)→We ops E L s0 m=We ops E' L' s0 m
 |0,_=>rfl
 |m+1,h=>by
  have ih:=ME (E:=E) (E':=E') (L:=L) (L':=L') (s0:=s0) m fun j hj=>h j (by omega)
  simp only[We,ih,(h m (by omega)).1,(h m (by omega)).2]
theorem H3{E:Nat→Ef}{L:Nat→Bool}{s0:AS}{i:Nat}:∀m,i≤m→(∀j,i≤j→j<m→L j=false)→We ops E L s0 m=We ops E L s0 i
 |0,h,_=>by
  have:i=0:=by omega
  subst this;rfl
 |m+1,h,hL=>by
  by_cases he:i=m+1
  ·subst he;rfl
  ·rw[←H3 m (by omega) fun j h1 h2=>hL j h1 (by omega)]
   simp only[We,hL m (by omega) (by omega)]
   split<;>rfl
theorem Oam{E:Nat→Ef}{F:Nat→FP}{L:Nat→Bool}{s0:AS}{i:Nat}{o:Oper}(hi:ops[i]?=some o)
 (hF:∀m o,ops[m]?=some o→(F m).wt=o.dst∧(F m).wi=(E m).2.map (·.1)∧(F m).mi=(E m).1.ids++Gy (E m).2)
 (hLi:L i=false) (hd:∀m,m<ops.size→i<m→L m=true→BL (F m) (F i)):∀m,i<m→m≤ops.size→
 Eqv (putE (We ops E L s0 m) o.dst (E i)) (We ops E (fun j=>L j||qw j i) s0 m)
 |0,h,_=>by omega
 |m+1,h,hm=>by
  by_cases he:m=i
  ·subst he
   have h1:We ops E L s0 (m+1)=We ops E L s0 m:=by simp only[We,hLi];split<;>rfl
   have h2:We ops E (fun j=>L j||qw j m) s0 m=We ops E L s0 m:=ME m fun j hj=>by
    refine⟨rfl,?_⟩
    have:qw j m=false:=by rw[←j8];intro e;have:=ju e;omega
    simp[this]
   have h3:We ops E (fun j=>L j||qw j m) s0 (m+1)=putE (We ops E L s0 m) o.dst (E m):=by
    simp only[We,hi,yj,Bool.or_true,zg]
    rw[h2]
   rw[h1,h3]
   exact Eqv.refl _
  ·have ih:=Oam (s0:=s0) hi hF hLi hd m (by omega) (by omega)
   have hom:ops[m]?=some ops[m]:=Array.getElem?_eq_getElem (by omega)
   have hb:qw m i=false:=by rw[←j8];intro e;exact he (ju e)
   obtain⟨g1,g2,g3⟩:=hF m _ hom
   obtain⟨k1,k2,k3⟩:=hF i _ hi
   simp only[We,hom,hb,Bool.or_false]
   cases hL:L m with
   |false=>exact ih
   |true=>
    simp only[zg]
    have hind:=hd m (by omega) (by omega) hL
    refine⟨by simp only[putE];exact ih.n,fun t=>?_,fun id=>?_⟩
    ·rw[ZE,ZE,ZE,ih.tm t,ZE]
     by_cases h1:ops[m].dst=some t
     ·rw[if_pos h1,if_neg,if_pos h1]
      intro h2
      exact hind.t3 t (g1.trans h1) (k1.trans h2)
     ·rw[if_neg h1,if_neg h1]
    ·rw[BB,BB,BB,ih.hp id,BB]
     by_cases h1:id∈(E m).2.map (·.1)
     ·rw[if_pos h1,if_neg,if_pos h1]
      intro h2
      exact hind.i3 id (by rw[g2];exact h1) (by rw[k2];exact h2)
     ·rw[if_neg h1,if_neg h1]
end
theorem Oax{p q:Nat→Bool}{i:Nat}(hpq:∀j,q j=true→p j=true)(hp:p i=true)(hq:q i=false):∀n,i<n→(y3 n).countP q<(y3 n).countP p:=by
 have hle:∀n,(y3 n).countP q≤(y3 n).countP p:=fun n=>List.countP_mono_left fun j _ h=>hpq j h
 intro n
 induction n with
 |zero=>intro h;omega
 |succ n ih=>
  intro h
  rw[List.range_succ,List.countP_append,List.countP_append]
  by_cases he:i=n
  ·subst he
   have:=hle i
   simp[hp,hq]
   omega
  ·have:=ih (by omega)
   have h2:[n].countP q≤[n].countP p:=List.countP_mono_left fun j _ h=>hpq j h
   omega
section
variable{P:Program} {n0:Nat} {A:Fx} {O0:Nat→Prop} {w0:World} {G:Sf} {ops:Array Oper} {s0:AS} {E:Nat→Ef} {F:Nat→FP} {anc:Nat→List Nat} {H:List Nat} {Q:Exit→Act→World→Prop}
def JA(listed:Array Bool)(j:Nat):Bool:=listed.getD j false
def Tac(ops:Array Oper)(L:Nat→Bool):Prop:=∀j o,ops[j]?=some o→L j=true→∀e,e∈o.after.toList→Region.binds .any e=true→L e.on=true
theorem ZT(hPM:∀m o,ops[m]?=some o→PM G H ops s0 E F anc m o){L:Nat→Bool}(hc:Tac ops L):∀(b m:Nat),m<b→m<ops.size→L m=true→∀x,x∈anc m→L x=true
 |0,_,h,_,_,_,_=>by omega
 |b+1,m,hb,hm,hL,x,hx=>by
  have hom:ops[m]?=some ops[m]:=Array.getElem?_eq_getElem hm
  obtain⟨e,he,hbn,hxe⟩:=(hPM m _ hom).up x hx
  have h1:=hc m _ hom hL e he hbn
  have h2:=(hPM m _ hom).back e he hbn
  rcases hxe with rfl|hxe
  ·exact h1
  ·exact ZT hPM hc b e.on (by omega) (by omega) h1 x hxe
theorem TX{listed:Array Bool}{i:Nat}:i∈Region.ready .any ops listed↔i<ops.size∧listed.getD i true=false∧∃o,ops[i]?=some o∧∀e,e∈o.after.toList→Region.binds .any e=true→listed.getD e.on false=true:=by
 unfold Region.ready
 rw[List.mem_filter,List.mem_range]
 constructor
 ·rintro⟨h1,h2⟩
  have hom:ops[i]?=some ops[i]:=Array.getElem?_eq_getElem h1
  rw[hom]at h2
  simp only[qa,qz,jd,yl]at h2
  refine⟨h1,h2.1,_,hom,fun e he hb=>?_⟩
  have h3:=h2.2
  rw[Array.all_eq_true']at h3
  have:=h3 e (Array.mem_toList_iff.1 he)
  rw[hb]at this
  simpa using this
 ·rintro⟨h1,h2,o,ho,h3⟩
  refine⟨h1,?_⟩
  rw[ho]
  simp only[qa,qz,jd,yl]
  refine⟨h2,?_⟩
  rw[Array.all_eq_true']
  intro e he
  cases hb:Region.binds .any e with
  |false=>rfl
  |true=>simpa using h3 e (Array.mem_toList_iff.2 he) hb
theorem J4(hPM:∀m o,ops[m]?=some o→PM G H ops s0 E F anc m o){listed:Array Bool}(hsz:listed.size=ops.size)(hr:Region.ready .any ops listed=[]):∀(b j:Nat),j<b→j<ops.size→JA listed j=true
 |0,_,h,_=>by omega
 |b+1,j,hb,hj=>by
  by_cases h:JA listed j=true
  ·exact h
  ·exfalso
   have hom:ops[j]?=some ops[j]:=Array.getElem?_eq_getElem hj
   have:j∈Region.ready .any ops listed:=by
    refine TX.2 ⟨hj,?_,_,hom,fun e he hbn=>?_⟩
    ·unfold JA at h
     simp only[j8]at h
     have hjl:j<listed.size:=by omega
     simp[Array.getD,hjl]at h⊢
     exact h
    ·have:=(hPM j _ hom).back e he hbn
     exact J4 hPM hsz hr b e.on (by omega) (by omega)
   rw[hr]at this
   simp at this
theorem Gad{op:Op}(h:MK op=true):DI op=false:=by
 cases op<;>first|rfl|simp[MK]at h
theorem Cab{op:Op}(h:Li op=true):DI op=false:=by
 cases op<;>first|rfl|simp[Li]at h
theorem Agr.of_stL(hPM:∀m o,ops[m]?=some o→PM G H ops s0 E F anc m o){L:Nat→Bool}(hc:Tac ops L){i:Nat}{o:Oper}(hi:ops[i]?=some o)(hLi:L i=false)
 (hready:∀e,e∈o.after.toList→Region.binds .any e=true→L e.on=true):
 Agr (We ops E (fun _=>true) s0 i) (We ops E L s0 ops.size) o∧(∀t,t∈(F i).rt→Xb (We ops E L s0 ops.size).tm t=Xb (We ops E (fun _=>true) s0 i).tm t)∧
  (∀m,m<ops.size→i<m→L m=true→BL (F m) (F i)):=by
 have hin:i<ops.size:=(Array.getElem?_eq_some_iff.1 hi).1
 have hF:∀m o,ops[m]?=some o→(F m).wt=o.dst∧(F m).wi=(E m).2.map (·.1)∧(F m).mi=(E m).1.ids++Gy (E m).2:=fun m o ho=>⟨(hPM m o ho).fp.wt,(hPM m o ho).fp.wi,(hPM m o ho).fp.mi⟩
 have hgt:∀m,m<ops.size→i<m→L m=true→BL (F m) (F i):=by
  intro m hm him hL
  have hom:ops[m]?=some ops[m]:=Array.getElem?_eq_getElem hm
  rcases(hPM m _ hom).ind i him with h|h
  ·have:=ZT hPM hc (m+1) m (by omega) hm hL i h
   rw[hLi]at this;simp at this
  ·exact(Lae h).symm
 have hd:∀m,m<ops.size→L m≠yb m i→BL (F m) (F i):=by
  intro m hm hne
  rcases Nat.lt_trichotomy m i with h|h|h
  ·have hb:yb m i=true:=by rw[ye];exact h
   have hL:L m=false:=by
    rw[hb]at hne
    simpa using hne
   rcases(hPM i _ hi).ind m h with h'|h'
   ·exfalso
    obtain⟨e,he,hbn,hxe⟩:=(hPM i _ hi).up m h'
    have h1:=hready e he hbn
    rcases hxe with rfl|hxe
    ·rw[hL]at h1;simp at h1
    ·have h2:=(hPM i _ hi).back e he hbn
     have:=ZT hPM hc (e.on+1) e.on (by omega) (by omega) h1 m hxe
     rw[hL]at this;simp at this
   ·exact Lae h'
  ·subst h
   exfalso
   apply hne
   rw[hLi]
   have:yb m m=false:=by rw[←j8,ye];omega
   exact this.symm
  ·have hb:yb m i=false:=by
    rw[←j8,ye];omega
   have hL:L m=true:=by
    rw[hb]at hne
    simpa using hne
   exact hgt m hm h hL
 obtain⟨a1,a2,a3⟩:=Iaa (ops:=ops) (s0:=s0) (f:=F i) hF hd ops.size (jo _)
 have hst:We ops E (fun j=>yb j i) s0 ops.size=We ops E (fun _=>true) s0 i:=by
  rw[H3 (i:=i) ops.size (by omega) fun j h1 h2=>by
   show yb j i=false
   rw[←j8,ye];omega]
  exact ME i fun j hj=>⟨rfl,by rw[ye];exact hj⟩
 rw[hst]at a1 a2 a3
 have fp:=(hPM i _ hi).fp
 refine⟨⟨fun x hx=>B7 hx fun t ht=>a1 t (fp.rt t ht),fun hmv hsp x hx d hd' id hm=>a2 id ((fp.ri hmv x hx d hd' id (.inl hm)).resolve_right fun h=>by rw[hsp]at h;simp at h),
  fun hsp x hx d hd' id hm=>?_,fun id hid=>a3 id (by rw[fp.wt];exact hid),
  fun hcl hsp x hx bid p hev ρ d hb id hm=>a2 id ((fp.ri (Gad hcl) x hx _ hev id (.inr ⟨hcl,by simp only[YO,hb];exact KP.1 hm⟩)).resolve_right fun h=>by rw[hsp]at h;simp at h)⟩,a1,hgt⟩
 rcases fp.ri (Cab hsp) x hx d hd' id (.inl hm)with h|h
 ·rw[a2 id h]
 ·have hh:∀j o,ops[j]?=some o→XV H (We ops E (fun _=>true) s0 j) (E j):=fun j o ho=>(hPM j o ho).hard
  rw[G3 ops.size (jo _) (fun j o _ ho=>hh j o ho) id h.2,G3 i (Nat.le_of_lt hin) (fun j o _ ho=>hh j o ho) id h.2]
theorem S1{s:AS}{dst:Option Tmp}{e:Ef}(hd:∀t,dst=some t→t<s.n){Out:Type}{k:AS→Option Out}:Xi s dst e.1 e.2 k=k (putE s dst e):=by
 cases dst with
 |none=>rfl
 |some t=>
  have:yb t s.n=true:=by rw[ye];exact hd t rfl
  simp only[Xi,this,zg,putE]
  rfl
theorem Yay(hG:Kn P A.I G)(hfz:WR G A O0)(hPM:∀m o,ops[m]?=some o→PM G H ops s0 E F anc m o)
 (hQ:∀σ φ a w,Db n0 A O0 w0 (We ops E (fun _=>true) s0 ops.size) σ φ a w→Q .normal a w):
 ∀(fuel:Nat) (listed:Array Bool) (σ:Nat→Value) (φ:Nat→List Nat) (a:Act) (w:World),listed.size=ops.size→(y3 ops.size).countP (fun j=>!listed.getD j true)≤fuel→
  Tac ops (JA listed)→Db n0 A O0 w0 (We ops E (JA listed) s0 ops.size) σ φ a w→wpAny P .any ops Q fuel listed a w:=by
 intro fuel
 have fin':∀(listed:Array Bool) (σ:Nat→Value) (φ:Nat→List Nat) (a:Act) (w:World),listed.size=ops.size→Region.ready .any ops listed=[]→
  Db n0 A O0 w0 (We ops E (JA listed) s0 ops.size) σ φ a w→Q .normal a w:=by
  intro listed σ φ a w hsz hr h
  refine hQ σ φ a w ?_
  rw[←ME (L:=JA listed) ops.size fun j hj=>⟨rfl,J4 hPM hsz hr (j+1) j (by omega) hj⟩]
  exact h
 induction fuel with
 |zero=>
  intro listed σ φ a w hsz hcnt hc h
  have hr:Region.ready .any ops listed=[]:=by
   rw[List.eq_nil_iff_forall_not_mem]
   intro i hi
   obtain⟨h1,h2,_⟩:=TX.1 hi
   have:0<(y3 ops.size).countP (fun j=>!listed.getD j true):=List.countP_pos_iff.2 ⟨i,List.mem_range.2 h1,by rw[h2];rfl⟩
   omega
  exact⟨hr,fin' listed σ φ a w hsz hr h⟩
 |succ fuel ih=>
  intro listed σ φ a w hsz hcnt hc h
  refine⟨fun hr=>fin' listed σ φ a w hsz hr h,fun i hi=>?_⟩
  obtain⟨hin,hun,o,ho,hed⟩:=TX.1 hi
  have hil:i<listed.size:=by omega
  have hLi:JA listed i=false:=by
   unfold JA
   simp[Array.getD,hil]at hun⊢
   exact hun
  obtain⟨hag,htm,hgt⟩:=Agr.of_stL hPM hc ho hLi hed
  have pm:=hPM i o ho
  have hF:∀m o,ops[m]?=some o→(F m).wt=o.dst∧(F m).wi=(E m).2.map (·.1)∧(F m).mi=(E m).1.ids++Gy (E m).2:=fun m o ho=>⟨(hPM m o ho).fp.wt,(hPM m o ho).fp.wi,(hPM m o ho).fp.mi⟩
  have hadd:=Oam (s0:=s0) (L:=JA listed) ho hF hLi hgt ops.size hin (jo _)
  have hset:∀j,JA (listed.setIfInBounds i true) j=(JA listed j||qw j i):=by
   intro j
   unfold JA
   by_cases hji:j=i
   ·subst hji
    simp[Array.getD,hil]
   ·have hb:qw j i=false:=by rw[←j8];intro e;exact hji (ju e)
    rw[hb,Bool.or_false]
    simp only[Array.getD_eq_getD_getElem?]
    rw[Array.getElem?_setIfInBounds_ne (fun e=>hji e.symm)]
  have next:∀σ φ a w,Db n0 A O0 w0 (putE (We ops E (JA listed) s0 ops.size) o.dst (E i)) σ φ a w→wpAny P .any ops Q fuel (listed.setIfInBounds i true) a w:=by
   intro σ φ a w h
   have h2:=h.eqv hadd
   have h3:We ops E (fun j=>JA listed j||qw j i) s0 ops.size=We ops E (JA (listed.setIfInBounds i true)) s0 ops.size:=ME ops.size fun j _=>⟨rfl,(hset j).symm⟩
   rw[h3]at h2
   refine ih (listed.setIfInBounds i true) σ φ a w (by simpa using hsz) ?_ ?_ h2
   ·have hlt:=Oax (p:=fun j=>!listed.getD j true) (q:=fun j=>!(listed.setIfInBounds i true).getD j true) (i:=i) ?_ (by simp only[hun,j7]) ?_ ops.size hin
    ·omega
    ·intro j hj
     by_cases hji:j=i
     ·subst hji;simp[hun]
     ·simp only[Array.getD_eq_getD_getElem?]at hj⊢
      rw[Array.getElem?_setIfInBounds_ne (fun e=>hji e.symm)]at hj
      exact hj
    ·simp[Array.getD,hil]
   ·intro j oj hoj hL e he hbn
    rw[hset]at hL⊢
    cases hLj:JA listed j with
    |true=>rw[hc j oj hoj hLj e he hbn];rfl
    |false=>
     rw[hLj,yu]at hL
     have:=ju hL
     subst this
     rw[ho]at hoj
     simp only[jc]at hoj
     subst hoj
     have:=hed e he hbn
     unfold JA
     rw[this];rfl
  have hdn:∀t,o.dst=some t→t<(We ops E (JA listed) s0 ops.size).n:=fun t ht=>by rw[E6];exact pm.dst t ht
  have run:UZ G (We ops E (fun _=>true) s0 i) o (E i)→o.wp P a w (wpAny P .any ops Q fuel (listed.setIfInBounds i true)) Q:=by
   intro hE
   have hE':=hE.congr hag
   have:Ig G (We ops E (JA listed) s0 ops.size) o some=some (putE (We ops E (JA listed) s0 ops.size) o.dst (E i)):=by
    unfold Ig
    rw[hE']
    exact S1 hdn
   refine Oper.wp_mono ?_ (Ias hG hfz h this)
   rintro a w ⟨s2,σ',φ',h1,h2⟩
   simp only[jc]at h1
   subst h1
   exact next σ' φ' a w h2
  have skp:E i=(.und,[])→wpAny P .any ops Q fuel (listed.setIfInBounds i true) (a.put o.dst undef) w:=by
   intro hE
   have:=Mam (dst:=o.dst) (k:=some) (out:=putE (We ops E (JA listed) s0 ops.size) o.dst (.und,[])) h (S1 (e:=(.und,[])) hdn)
   obtain⟨s2,σ',φ',h1,h2⟩:=this
   simp only[jc]at h1
   subst h1
   rw[←hE]at h2
   exact next σ' φ' _ w h2
  have hst:=pm.step
  unfold wpOp
  rw[ho]
  simp only[]
  unfold TT at hst
  cases hg:o.guard with
  |none=>
   rw[hg]at hst
   rw[if_pos (by simp[Region.wanted,hg])]
   exact .inl (run hst)
  |some g=>
   obtain⟨j,want⟩:=g
   rw[hg]at hst
   obtain⟨t,ht,hst⟩:=hst
   have htr:t∈(F i).rt:=pm.fp.rg j want t hg ht
   have hlook:=htm t htr
   rcases hst with⟨β,hd,hst⟩|⟨hd,hst⟩
   ·rw[hd]at hlook
    have hy:=OY h ht hlook
    have hwd:Region.wanted o (yielded ops a.tmps)=(some β==some want):=by simp[Region.wanted,hg,hy]
    rw[hwd]
    by_cases hβ:β=want
    ·subst hβ
     rw[if_pos (by simp)]
     rw[if_pos rfl]at hst
     exact .inl (run hst)
    ·rw[if_neg (by simpa using hβ)]
     rw[if_neg hβ]at hst
     exact skp hst
   ·rw[hd]at hlook
    have hy:=W0 h ht hlook
    have hwd:Region.wanted o (yielded ops a.tmps)=false:=by simp[Region.wanted,hg,hy]
    rw[hwd,if_neg (by simp)]
    exact skp hst
end
end KF
